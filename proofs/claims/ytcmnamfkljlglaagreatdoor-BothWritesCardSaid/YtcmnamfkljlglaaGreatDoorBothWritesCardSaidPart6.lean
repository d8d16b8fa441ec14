/- On the way (part 6). -/
import Derived.ReadAgain
import Derived.ChangeSame
import Derived.ChangeArms
import Derived.ChangeOld
import Derived.ChangeFn
import Derived.MapPlaces
import Derived.DataReads
import Derived.OpenShut
import Derived.RowKit
import Derived.Deep.DeepHandedRow
import Derived.Test.YtcmnamfkljlglaaGreatDoorCards
import Derived.Test.YtcmnamfkljlglaaGreatDoorTie
import Derived.Lay
import Derived.Lib.LaidTab
import Derived.Stop.LaidErr
import Derived.Shelf.Vars
import Derived.ChangeBears
import Derived.Lib.ParseIntBTie
import Derived.Test.YtcmnamfkljlglaaGreatDoorBothWritesCardSaidPart5
set_option linter.all false
namespace Go.SX
variable [GI:GlobInv]
open Classical Go.RowKit Go.ChangeShapes
section
variable {P:Program} {H:Type} {enc:TypeId×Value→H}

/-- The first ghost: whatever lies there is read for good. -/
noncomputable def G0 (W:World):Gh:=⟨fun b o=>if (W.cell? ⟨b,o,none⟩).isSome then .fix else .free,fun _=>0,0⟩
theorem ABo {W:World} {b o:Nat} {u:Value} (h:W.cell? ⟨b,o,none⟩=some u):(G0 W).tag b o=.fix:=by simp [G0,h]
theorem Ra {W:World} {b:Nat} (h:b<W.heap.size):K6 (G0 W) W b:=⟨h,fun o=>by simp only [G0];split<;>simp,fun i hi=>absurd hi (Nat.not_lt_zero _)⟩
theorem x9 (W:World):HeapRel (G0 W) [] W:=⟨fun i x h=>by simp at h,rfl,fun i j hi=>absurd hi (Nat.not_lt_zero _)⟩
theorem xa {W:World} (h:Jb W):TagOK (G0 W) W:=by
 refine ⟨fun b o hb=>?_,fun b o i hb=>?_,fun b o L hb=>?_,fun x hx=>?_⟩
 ·simp only [G0] at hb
  split at hb
  ·rename_i hs;exact Option.isSome_iff_exists.1 hs
  exact absurd rfl hb
 ·simp only [G0] at hb;split at hb<;>cases hb
 ·simp only [G0] at hb;split at hb<;>cases hb
 obtain ⟨v,h1,h2⟩:=h x hx
 exact ⟨Ra (Rw.1 h1).1,v,h1,h2⟩

/-- What a datum of a plain type AGs as. -/
inductive DRep (P:Program):TypeId→DataW H→AV→Prop
 | int {t:TypeId} {k:IntKind} {n:Int} (hu:P.underlying t=some (.int k)) (wf:(Lit.int k n).wf=true):DRep P t (.lit (.int k n)) (.v (.int k n))
 | bool {t:TypeId} {b:Bool} (hu:P.underlying t=some .bool):DRep P t (.lit (.bool b)) (.v (.bool b))
 | str {t:TypeId} {bs:List UInt8} (hu:P.underlying t=some .string):DRep P t (.lit (.string bs)) (.v (sv bs))
 | nil {t e:TypeId} (hu:P.underlying t=some (.slice e)):DRep P t .nil (.slice false (P.cellsOf e) [])
 | slice {t e:TypeId} {elems spare:List (DataW H)} {ys:List AV} (hu:P.underlying t=some (.slice e)) (hn:ys.length=elems.length)
   (h:∀(i:Nat) (d:DataW H) (y:AV),elems[i]? = some d→ys[i]? = some y→DRep P e d y):DRep P t (.slice elems spare) (.slice false (P.cellsOf e) ys)
 | struct {t:TypeId} {fs:Array Field} {parts:List (DataW H)} {ys:List AV} (hu:P.underlying t=some (.struct fs)) (hn:parts.length=fs.size) (hn':ys.length=fs.size)
   (h:∀(i:Nat) (f:Field) (d:DataW H) (y:AV),fs[i]? = some f→parts[i]? = some d→ys[i]? = some y→DRep P f.type d y):DRep P t (.agg parts) (.agg (ys.flatMap AV.cells))

/-- Types that are made of numbers, texts, bools, slices and structs alone. -/
structure PlainT (P:Program) (T:TypeId→Prop):Prop where
 look:∀t,T t→(P.cellsOf t=1∧((∃k,P.underlying t=some (.int k))∨P.underlying t=some .bool∨P.underlying t=some .string∨(∃e,P.underlying t=some (.slice e)∧T e∧0<P.cellsOf e))) ∨
  (∃fs,P.underlying t=some (.struct fs)∧(∀f∈fs.toList,T f.type)∧P.cellsOf t=(fs.toList.map fun f=>P.cellsOf f.type).sum ∧
   ∀(j:Nat) (f:Field),fs.toList[j]? = some f→f.offset=((fs.toList.take j).map fun f=>P.cellsOf f.type).sum)

/-- The reading of a row of cells. -/
def CRep (W:World) (y:AV) (cs:List Value):Prop:=
 y.cells.length=cs.length∧(∀c∈y.cells,c.one=true)∧∀(j:Nat) (c:AV) (v:Value),y.cells[j]? = some c→cs[j]? = some v→Rep (G0 W) W none c v

theorem CRep.v1 {W:World} {x:Value} (h:x.oneCell'=true):CRep W (.v x) [x]:=
 ⟨rfl,by simp [AV.cells,AV.one,h],fun j c v h1 h2=>by
  match j with
  | 0=>simp [AV.cells] at h1 h2;subst h1;subst h2;exact .v _ _
  | j+1=>simp [AV.cells] at h1⟩

theorem bw {f:AV→List AV}:∀(ys:List AV) (j:Nat) (c:AV),(ys.flatMap f)[j]? = some c→∃(i:Nat) (y:AV) (q:Nat),ys[i]? = some y∧(f y)[q]? = some c∧j=((ys.take i).map fun y=>(f y).length).sum+q
 | [],j,c,h=>by simp at h
 | y::r,j,c,h=>by
  rw [er] at h
  rcases Bh j (f y).length with h'|h'
  ·rw [De h'] at h
   exact ⟨0,y,j,rfl,h,by simp⟩
  rw [Dj h'] at h
  obtain ⟨i,z,q,h1,h2,h3⟩:=bw r _ c h
  exact ⟨i+1,z,q,h1,h2,by simp only [List.take_succ_cons,Cw,List.sum_cons];omega⟩
theorem Mw {α:Type} {R:Nat→α→Prop}:∀(n:Nat),(∀i,i<n→∃y,R i y)→∃ys:List α,ys.length=n∧∀(i:Nat) (y:α),ys[i]? = some y→R i y
 | 0,_=>⟨[],rfl,fun i y h=>by simp at h⟩
 | n+1,h=>by
  obtain ⟨ys,h1,h2⟩:=Mw n (fun i hi=>h i (by omega))
  obtain ⟨y,hy⟩:=h n (by omega)
  refine ⟨ys++[y],by simp [h1],fun i z hz=>?_⟩
  rcases Bh i n with h'|h'
  ·rw [De (by omega)] at hz;exact h2 i z hz
  rw [Dj (by omega)] at hz
  have:i=n:=by
   have:=(Ac.1 hz).1
   simp at this;omega
  subst this
  rw [h1] at hz
  simp at hz
  exact hz ▸ hy
theorem Oy {α β:Type} {f:α→Nat} {g:β→Nat}:∀(l:List α) (m:List β),l.length=m.length→(∀(i:Nat) (a:α) (b:β),l[i]? = some a→m[i]? = some b→f a=g b)→(l.map f).sum=(m.map g).sum
 | [],[],_,_=>rfl
 | [],b::m,h,_=>by simp at h
 | a::l,[],h,_=>by simp at h
 | a::l,b::m,h,hh=>by
  simp only [Cw,List.sum_cons]
  rw [hh 0 a b rfl rfl,Oy l m (by simpa using h) (fun i a b h1 h2=>hh (i+1) a b h1 h2)]

theorem ru {T:TypeId→Prop} (PT:PlainT P T) {W:World}:∀(n:Nat) (t:TypeId) (cs:List Value) (x:DataW H×List MemPlace),T t→DataW.trod enc P W 0 (fun _=>true) true n t cs=some x →
  ∃y,DRep P t x.1 y∧CRep W y cs∧cs.length=P.cellsOf t:=by
 intro n
 induction n with
 | zero=>intro t cs x _ h;simp [DataW.trod] at h
 | succ n ih =>
  intro t cs x hT h
  rcases PT.look t hT with ⟨hc1,⟨k,hu⟩|hu|hu|⟨e,hu,he,hz⟩⟩|⟨fs,hu,hf,hsum,hoff⟩
  ·obtain ⟨m,rfl,rfl,hw⟩:=DataW.trod_int hu h
   exact ⟨_,.int hu hw,.v1 rfl,hc1.symm⟩
  ·obtain ⟨b,rfl,rfl⟩:=DataW.trod_bool hu h
   exact ⟨_,.bool hu,.v1 rfl,hc1.symm⟩
  ·obtain ⟨s,rfl,rfl,_⟩:=DataW.trod_string hu h
   exact ⟨_,.str hu,.v1 rfl,hc1.symm⟩
  ·rcases DataW.trod_slice hu h with ⟨rfl,rfl⟩|⟨a,len,cap,elems,rest,m,hm,rfl,rfl,hb,hlc,hcm,hel,hE,_,_⟩
   ·refine ⟨_,.nil hu,⟨rfl,by simp [AV.cells,AV.one],fun j c v h1 h2=>?_⟩,hc1.symm⟩
    match j with
    | 0=>simp [AV.cells] at h1 h2;subst h1;subst h2;exact .slice0 _ _ _
    | j+1=>simp [AV.cells] at h1
   injection hm with hm
   subst hm
   subst hel
   have hEi:∀i,i<elems.length→∃y,(∀d,elems[i]? = some d→DRep P e d.1 y)∧∃ci,W.cells? 0 (a.add (i*P.cellsOf e)) (P.cellsOf e)=some ci∧CRep W y ci:=fun i hi=>by
    have h1:=hE i hi
    rw [Aa hi,Option.bind_eq_some_iff] at h1
    obtain ⟨ci,h2,h3⟩:=h1
    obtain ⟨y,h4,h5,_⟩:=ih e ci _ he h3
    exact ⟨y,fun d hd=>by rw [Aa hi] at hd;injection hd with hd;subst hd;exact h4,ci,h2,h5⟩
   obtain ⟨ys,hyl,hys⟩:=Mw elems.length hEi
   refine ⟨.slice false (P.cellsOf e) ys,.slice hu (by simp [hyl]) (fun i d y hd hy=>?_),⟨rfl,by simp [AV.cells,AV.one],fun j c v h1 h2=>?_⟩,hc1.symm⟩
   ·rw [Cs,Ek] at hd
    obtain ⟨d',hd',rfl⟩:=hd
    exact (hys i y hy).1 d' hd'
   match j with
   | j+1=>simp [AV.cells] at h1
   | 0 =>
    simp [AV.cells] at h1 h2
    subst h1;subst h2
    by_cases h0:elems.length=0
    ·have:ys=[]:=M8 (by omega)
     subst this
     rw [h0]
     exact .sliceE _ _ _ _
    have hspot:a.spot=none:=by
     obtain ⟨ci,hci,_⟩:=(hys 0 ys[0] (Aa (by omega))).2
     obtain ⟨_,g1,g2⟩:=World.cells?_some hci
     have g3:=g2 0 hz
     rw [Aa (by omega)] at g3
     simp only [Pj,Addr.add,if_true] at g3
     unfold World.cell? at g3
     split at g3
     ·split at g3
      ·cases g3
      rename_i hs;simpa using hs
     cases g3
    refine .slice _ false _ ys a _ cap (fun i j=>(W.cell? ⟨a.block,a.off+i*P.cellsOf e+j,none⟩).getD undef) hspot hyl.symm hlc (fun x hx=>?_) (fun x hx=>?_) (fun i x j y hx hy=>?_) (fun i x j y hx hy=>?_) (fun h=>by cases h)
    ·obtain ⟨i,hi⟩:=Ca hx
     obtain ⟨ci,hci,hcr⟩:=(hys i x hi).2
     rw [hcr.1]
     exact (World.cells?_some hci).2.1
    ·obtain ⟨i,hi⟩:=Ca hx
     obtain ⟨ci,hci,hcr⟩:=(hys i x hi).2
     exact hcr.2.1
    ·obtain ⟨ci,hci,hcr⟩:=(hys i x hx).2
     obtain ⟨_,g1,g2⟩:=World.cells?_some hci
     have hj:j<P.cellsOf e:=by
      have:=(Ac.1 hy).1
      rw [hcr.1] at this;omega
     have g3:=g2 j hj
     rw [Aa (by omega),Cq hspot,Cq rfl] at g3
     exact ⟨ABo g3,by rw [g3];rfl⟩
    obtain ⟨ci,hci,hcr⟩:=(hys i x hx).2
    obtain ⟨_,g1,g2⟩:=World.cells?_some hci
    have hj:j<P.cellsOf e:=by
     have:=(Ac.1 hy).1
     rw [hcr.1] at this;omega
    have g3:=g2 j hj
    rw [Aa (by omega),Cq hspot,Cq rfl] at g3
    simp only at g3
    rw [g3]
    exact hcr.2.2 j y _ hy (Aa (by omega))
  obtain ⟨xs,m,hm,rfl,hcl,hxl,hX⟩:=DataW.trod_struct hu h
  injection hm with hm
  subst hm
  have hXi:∀i,i<fs.size→∃y,∀(f:Field),fs[i]? = some f→(∀d,xs[i]? = some d→DRep P f.type d.1 y)∧CRep W y ((cs.drop f.offset).take (P.cellsOf f.type))∧y.cells.length=P.cellsOf f.type:=fun i hi=>by
   have h1:=hX i fs[i] (Ev hi)
   rw [Aa (by omega)] at h1
   obtain ⟨y,h2,h3,h4⟩:=ih _ _ _ (hf _ (by simp)) h1
   refine ⟨y,fun f hf'=>?_⟩
   rw [Ev hi] at hf'
   injection hf' with hf'
   subst hf'
   exact ⟨fun d hd=>by rw [Aa (by omega)] at hd;injection hd with hd;subst hd;exact h2,h3,by rw [h3.1,h4]⟩
  obtain ⟨ys,hyl,hys⟩:=Mw fs.size hXi
  have hlenI:∀(i:Nat),((ys.take i).map fun y=>y.cells.length).sum=((fs.toList.take i).map fun f=>P.cellsOf f.type).sum:=fun i=>by
   refine Oy _ _ (by simp [hyl]) (fun j y f h1 h2=>?_)
   rw [Fo] at h1 h2
   split at h1
   ·rename_i hj
    rw [if_pos hj] at h2
    exact (hys j y h1 f (by simpa using h2)).2.2
   cases h1
  have htot:(ys.flatMap AV.cells).length=cs.length:=by
   rw [List.length_flatMap,hcl,hsum]
   refine Oy _ _ (by simp [hyl]) (fun j y f h1 h2=>(hys j y h1 f (by simpa using h2)).2.2)
  refine ⟨.agg (ys.flatMap AV.cells),.struct hu (by simp [hxl]) hyl (fun i f d y hf' hd hy=>?_),⟨htot,fun c hc=>?_,fun j c v h1 h2=>?_⟩,hcl⟩
  ·rw [Cs,Ek] at hd
   obtain ⟨d',hd',rfl⟩:=hd
   exact (hys i y hy f hf').1 d' hd'
  ·obtain ⟨y,hy,hcy⟩:=List.mem_flatMap.1 hc
   obtain ⟨i,hi⟩:=Ca hy
   have hlt:i<fs.size:=by rw [←hyl];exact (Ac.1 hi).1
   exact ((hys i y hi fs[i] (Ev hlt)).2.1).2.1 c hcy
  obtain ⟨i,y,q,g1,g2,rfl⟩:=bw ys j c h1
  have hlt:i<fs.size:=by rw [←hyl];exact (Ac.1 g1).1
  obtain ⟨_,k2,k3⟩:=hys i y g1 fs[i] (Ev hlt)
  have hq:q<P.cellsOf (fs[i]).type:=by have:=(Ac.1 g2).1;omega
  refine k2.2.2 q c v g2 ?_
  rw [Fo,if_pos hq,F1,hoff i fs[i] (by simp [hlt]),←hlenI i]
  exact h2

/-- A measure of data. -/
structure Bulk (B:DataW H→Nat):Prop where
 str:∀bs,bs.length≤B (.lit (.string bs))
 slice:∀elems spare,elems.length≤B (.slice elems spare)∧∀d∈elems,B d≤B (.slice elems spare)
 agg:∀parts,∀d∈parts,B d≤B (.agg parts)
theorem DRep.int' {t:TypeId} {k:IntKind} {d:DataW H} {y:AV} (hu:P.underlying t=some (.int k)) (h:DRep P t d y):∃n,d=.lit (.int k n)∧y=.v (.int k n)∧k.min≤n∧n≤k.max:=by
 cases h with
 | int hu' wf=>rw [hu] at hu';injection hu' with e;injection e with e;subst e;exact ⟨_,rfl,rfl,by simpa [Lit.wf] using wf⟩
 | _ hu'=>rw [hu] at hu';cases hu'
theorem DRep.str' {t:TypeId} {d:DataW H} {y:AV} (hu:P.underlying t=some .string) (h:DRep P t d y):∃s,d=.lit (.string s)∧y=.v (sv s):=by
 cases h with
 | str hu'=>exact ⟨_,rfl,rfl⟩
 | _ hu'=>rw [hu] at hu';cases hu'
theorem DRep.slice' {t e:TypeId} {d:DataW H} {y:AV} {B:DataW H→Nat} (hB:Bulk B) {α:Type} (A:α→AV) (R:α→Prop) {b:Nat} (hu:P.underlying t=some (.slice e)) (h:DRep P t d y) (hb:B d≤b)
  (hE:∀d y,B d≤b→DRep P e d y→∃x,y=A x∧R x):∃l:List α,y=.slice false (P.cellsOf e) (l.map A)∧l.length≤b∧∀x∈l,R x:=by
 cases h with
 | nil hu'=>rw [hu] at hu';injection hu' with e';injection e' with e';subst e';exact ⟨[],rfl,Ah _,fun x hx=>by cases hx⟩
 | slice hu' hn hh =>
  rw [hu] at hu';injection hu' with e';injection e' with e';subst e'
  rename_i elems spare ys
  obtain ⟨h1,h2⟩:=hB.slice elems spare
  have key:∀(ys:List AV) (es:List (DataW H)),ys.length=es.length→(∀d∈es,B d≤b)→(∀(i:Nat) (d:DataW H) (y:AV),es[i]? = some d→ys[i]? = some y→DRep P e d y)→∃l:List α,ys=l.map A∧∀x∈l,R x:=by
   intro ys
   induction ys with
   | nil=>exact fun es _ _ _=>⟨[],rfl,fun x hx=>by cases hx⟩
   | cons y ys ih =>
    intro es hl hb2 hr
    cases es with
    | nil=>simp at hl
    | cons d es =>
     obtain ⟨x,rfl,hx⟩:=hE d y (hb2 d (by simp)) (hr 0 d y rfl rfl)
     obtain ⟨l,rfl,hR⟩:=ih es (by simpa using hl) (fun d hd=>hb2 d (by simp [hd])) (fun i d y a c=>hr (i+1) d y a c)
     exact ⟨x::l,rfl,fun z hz=>by
      rcases C2.1 hz with rfl|hz
      ·exact hx
      exact hR z hz⟩
  obtain ⟨l,rfl,hR⟩:=key ys elems hn (fun d hd=>L4 (h2 d hd) hb) hh
  exact ⟨l,rfl,by simp at hn;omega,hR⟩
 | _ hu'=>rw [hu] at hu';cases hu'
theorem DRep.struct' {t:TypeId} {fs:Array Field} {d:DataW H} {y:AV} {B:DataW H→Nat} (hB:Bulk B) (hu:P.underlying t=some (.struct fs)) (h:DRep P t d y):
  ∃ys:List AV,ys.length=fs.size∧y=.agg (ys.flatMap AV.cells)∧∀(i:Nat) (f:Field) (z:AV),fs[i]? = some f→ys[i]? = some z→∃d',B d'≤B d∧DRep P f.type d' z:=by
 cases h with
 | struct hu' hn hn' hh =>
  rw [hu] at hu';injection hu' with e';injection e' with e';subst e'
  rename_i parts ys
  refine ⟨ys,hn',rfl,fun i f z h1 h2=>?_⟩
  have hlt:i<parts.length:=by rw [hn];exact (Rw.1 h1).1
  exact ⟨parts[i],hB.agg parts _ (Az hlt),hh i f parts[i] z h1 (Aa hlt) h2⟩
 | _ hu'=>rw [hu] at hu';cases hu'

/-- An argument's reading. -/
theorem xb {T:TypeId→Prop} (PT:PlainT P T) {W:World} {t:TypeId} {v:Value} {d:DataW H} {ps:List MemPlace} {b0:Nat} (hT:T t) (hok:Value.okWide P W .any b0 t v) (h:DataW.Trod enc P W 0 (fun _=>true) true t v d ps):
  ∃y,DRep P t d y∧Rep (G0 W) W none y v:=by
 obtain ⟨n,hn⟩:=h
 obtain ⟨y,h1,h2,h3⟩:=ru PT n t _ _ hT hn
 refine ⟨y,h1,?_⟩
 rcases PT.look t hT with ⟨hc1,hone⟩|⟨fs,hu,_⟩
 ·have hva:∀cs,v≠.agg cs:=fun cs e=>by
   subst e
   rcases hone with ⟨k,hu⟩|hu|hu|⟨e,hu,he,hz⟩<;>simp [Value.okWide,hu,Cell.okWide,Cell.ok] at hok
  have hvc:v.cells=#[v]:=by cases v<;>first|rfl|exact absurd rfl (hva _)
  have hyc:y.cells=[y]:=by
   cases h1 with
   | struct hu=>rcases hone with ⟨k,hu'⟩|hu'|hu'|⟨e,hu',he,hz⟩<;>rw [hu] at hu'<;>cases hu'
   | _=>rfl
  have:=h2.2.2 0 y v (by rw [hyc];rfl) (by rw [hvc];rfl)
  exact this
 obtain ⟨cs,rfl,hsz,_⟩:∃cs,v=.agg cs∧cs.size=P.cellsOf t∧Row.okWide P W .any b0 t cs:=by
  simp only [Value.okWide,hu] at hok
  exact hok
 cases h1 with
 | struct hu' hn1 hn2 hh =>
  refine .agg _ _ _ (by have:=h2.1;simp only [AV.cells,Value.cells,Array.length_toList] at this;exact this.symm) h2.2.1 (fun i c u a b=>h2.2.2 i c u a (by simpa [Value.cells] using b))
 | int hu'=>rw [hu] at hu';cases hu'
 | bool hu'=>rw [hu] at hu';cases hu'
 | str hu'=>rw [hu] at hu';cases hu'
 | nil hu'=>rw [hu] at hu';cases hu'
 | slice hu'=>rw [hu] at hu';cases hu'

def DReps (P:Program):List TypeId→List (DataW H)→List AV→Prop
 | [],[],[]=>True
 | t::ts,d::ds,y::ys=>DRep P t d y∧DReps P ts ds ys
 | _,_,_=>False

theorem DReps.cons' {t:TypeId} {ts:List TypeId} {ds:List (DataW H)} {ys:List AV} (h:DReps P (t::ts) ds ys):∃d ds' y ys',ds=d::ds'∧ys=y::ys'∧DRep P t d y∧DReps P ts ds' ys':=by
 match ds,ys,h with
 | d::ds',y::ys',⟨h1,h2⟩=>exact ⟨d,ds',y,ys',rfl,rfl,h1,h2⟩
 | [],_,h=>simp [DReps] at h
 | _::_,[],h=>simp [DReps] at h
theorem DReps.nil' {ds:List (DataW H)} {ys:List AV} (h:DReps P [] ds ys):ds=[]∧ys=[]:=by
 match ds,ys,h with
 | [],[],_=>exact ⟨rfl,rfl⟩
 | [],_::_,h=>simp [DReps] at h
 | _::_,_,h=>simp [DReps] at h
theorem X2 {T:TypeId→Prop} (PT:PlainT P T) {W:World} {b0:Nat}:∀(ts:List TypeId) (vs:List Value) (ds:List (DataW H)) (ps:List MemPlace),(∀t∈ts,T t) →
  (∀(j:Nat) t v,ts[j]? = some t→vs[j]? = some v→Value.okWide P W .any b0 t v)→DataW.TrodAll enc P W 0 (fun _=>true) true ts vs ds ps →
  ∃ys,DReps P ts ds ys∧ys.length=vs.length∧∀(i:Nat) (y:AV) (u:Value),ys[i]? = some y→vs[i]? = some u→Rep (G0 W) W none y u
 | [],[],[],_,_,_,_=>⟨[],trivial,rfl,fun i y u h=>by simp at h⟩
 | t::ts,v::vs,d::ds,ps,hT,hok,⟨p,q,h1,h2,_⟩=>by
  obtain ⟨y,k1,k2⟩:=xb PT (hT t (by simp)) (hok 0 t v rfl rfl) h1
  obtain ⟨ys,k3,k4,k5⟩:=X2 PT ts vs ds q (fun t ht=>hT t (by simp [ht])) (fun j t v a b=>hok (j+1) t v a b) h2
  refine ⟨y::ys,⟨k1,k3⟩,by simp [k4],fun i z u a b=>?_⟩
  match i with
  | 0=>simp at a b;subst a;subst b;exact k2
  | i+1=>exact k5 i z u a b
 | [],_::_,_,_,_,_,h=>by simp [DataW.TrodAll] at h
 | [],[],_::_,_,_,_,h=>by simp [DataW.TrodAll] at h
 | _::_,[],_,_,_,_,h=>by simp [DataW.TrodAll] at h
 | _::_,_::_,[],_,_,_,h=>by simp [DataW.TrodAll] at h

theorem S1 {W:World} {sp:Nat→Bool} {hd:Bool}:∀{ts:List TypeId} {vs:List Value} {ds:List (DataW H)} {ps:List MemPlace},DataW.TrodAll enc P W 0 sp hd ts vs ds ps→ds.length=ts.length
 | [],[],[],_,_=>rfl
 | _::_,_::_,_::_,_,⟨_,_,_,h,_⟩=>by rw [Bo,Bo,S1 h]
 | [],_::_,_,_,h=>by simp [DataW.TrodAll] at h
 | [],[],_::_,_,h=>by simp [DataW.TrodAll] at h
 | _::_,[],_,_,h=>by simp [DataW.TrodAll] at h
 | _::_,_::_,[],_,h=>by simp [DataW.TrodAll] at h
theorem Mx {W W':World} {sp:Nat→Bool}:∀{ts:List TypeId} {vs:List Value} {ds:List (DataW H)} {ps:List MemPlace},DataW.TrodAll enc P W 0 sp true ts vs ds ps→(∀p∈ps,W.sameAt W' p)→DataW.TrodAll enc P W' 0 sp true ts vs ds ps
 | [],[],[],_,h,_=>h
 | _::_,_::_,_::_,_,⟨p,q,⟨n,hn⟩,h2,e⟩,hs=>⟨p,q,⟨n,DataW.trod_carry n _ _ _ hn (fun x hx=>hs x (by rw [e];exact Xy _ hx))⟩,Mx h2 (fun x hx=>hs x (by rw [e];exact Xz _ hx)),e⟩
 | [],_::_,_,_,h,_=>by simp [DataW.TrodAll] at h
 | [],[],_::_,_,h,_=>by simp [DataW.TrodAll] at h
 | _::_,[],_,_,h,_=>by simp [DataW.TrodAll] at h
 | _::_,_::_,[],_,h,_=>by simp [DataW.TrodAll] at h

/-- **A law that answers true, for whatever can be read.** -/
theorem mo {f:FuncId} {fn:Func} {s:ChangeSpec} {T:TypeId→Prop} {tb:TypeId} {W:World} {base:Nat} {args:Array Value} {ds gs:List (DataW H)} {before:List MemPlace} (K:Kids P (·<P.types.size)) (hz:∀t e,t<P.types.size→P.underlying t=some (.slice e)→0<P.cellsOf e)
  (PT:PlainT P T) (hT:∀t∈fn.params.toList,T t∧t<P.types.size) (hb:P.underlying tb=some .bool) (hres:fn.resultTypes=#[tb]) (hvars:s.vars=[])
  (hspec:∀ds:List (DataW H),ds.length=fn.params.size→s.fn H ds={ results:=[.lit (.bool true)],args:=ds })
  (hval:∀(j:Nat) t v,fn.params[j]? = some t→args[j]? = some v→Value.okWide P W .any base t v) (hW:DataW.Whole enc P fn.params.toList s.vars false W args.toList ds gs before)
  (hglob:Jb W)
  (main:∀ys:List AV,DReps P fn.params.toList ds ys→AFun P f ys [] (.v (.bool true))) (hbd:GI.bd≤0:=by exact Ao 0):
  Calls P f args W (fun e W'=>∃v,e=.returned v∧s.post enc P fn false true false false W args v W'):=by
 have hW0:=hW
 obtain ⟨p,q,hA,hV,hpq,hfz,hnd⟩:=hW
 rw [hvars] at hV
 obtain ⟨rfl,rfl⟩:=trodVars_none hV
 rw [Iy] at hpq
 subst hpq
 obtain ⟨ys,h1,h2,h3⟩:=X2 PT _ _ _ _ (fun t ht=>(hT t ht).1) (fun j t v a b=>hval j t v (by simpa using a) (by simpa using b)) hA
 have hlen:=S1 hA
 have hc:=main ys h1 0 (G0 W) W args (by simpa using h2.symm) (fun i y u a b=>(h3 i y u a (by simpa using b)).lift) (x9 W) (xa hglob)
 refine (callsIn_wide.1 (hc hbd)).mono ?_
 rintro e W' ⟨v,G',r,H',rfl,hr,hH,hTg,hk,hl,rfl,rfl⟩
 have hv:=O5 hr
 subst hv
 refine ⟨_,rfl,ds,[],before,[],before,[],hW0,?_,?_,?_,?_,fun h=>by cases h⟩
 ·rw [hres,Iy,hspec ds (by simpa using hlen)]
  exact trodAll_cons_mk (p:=[]) (shut_bool hb true) trodAll_mk0
 ·rw [Iy,hspec ds (by simpa using hlen)]
  refine Mx (DataW.TrodAll.respare K hz (fun t ht=>(hT t ht).2) hA (fun p hp=>by simpa using hW0.lt p hp)) (fun p hp=>?_)
  have hlt:=hW0.lt p hp
  have hb:=(hk.old _ (Ra hlt)).1
  cases p with
  | cell b o=>exact I4 hb
  | map b=>exact hb
 ·rw [hvars,Iy,hspec ds (by simpa using hlen)]
  rfl
 refine ⟨hk.os,hk.output,fun i hi=>?_⟩
 have hb:=(hk.old i (Ra hi)).1
 rw [hb]
 cases ho:W.heap[i]? with
 | none=>simp
 | some o=>cases o<;>simp
end
end Go.SX
namespace Go.Proofs.YtcmnamfkljlglaaGreatDoor
open Go Go.SX Go.SX.Nb Go.ChangeShapes Go.RowKit
set_option maxRecDepth 100000

theorem own:ownKnob Tryz.prog.godebug=none:=by kernel_rfl
theorem kids:Kids Tryz.prog (·<Tryz.prog.types.size):=kids_rows (by kernel_rfl) (by kernel_rfl)
theorem full:∀t e,t<Tryz.prog.types.size→Tryz.prog.underlying t=some (.slice e)→0<Tryz.prog.cellsOf e:=slices_full_of Tryz.prog (by kernel_rfl)
theorem rx {H:Type}:∀d:DataW H,1≤Rows.uptoBulk d
 | .lit (.string b)=>by rw [Rows.uptoBulk];omega
 | .lit (.bool _)=>by simp [Rows.uptoBulk]
 | .lit (.int _ _)=>by simp [Rows.uptoBulk]
 | .lit (.float _ _)=>by simp [Rows.uptoBulk]
 | .lit .nil=>by simp [Rows.uptoBulk]
 | .nil=>by simp [Rows.uptoBulk]
 | .ptr d=>by rw [Rows.uptoBulk];omega
 | .slice a b=>by rw [Rows.uptoBulk];omega
 | .agg a=>by rw [Rows.uptoBulk];omega
 | .iface _ d=>by rw [Rows.uptoBulk];omega
 | .map a=>by rw [Rows.uptoBulk];omega
 | .held _=>by simp [Rows.uptoBulk]
theorem Us {H:Type}:∀l:List (DataW H),l.length≤Rows.uptoBulkAll l∧∀d∈l,Rows.uptoBulk d≤Rows.uptoBulkAll l
 | []=>⟨Nat.zero_le _,fun d h=>by cases h⟩
 | d::r=>by
  obtain ⟨h1,h2⟩:=Us r
  have:=rx d
  rw [Rows.uptoBulkAll,List.length_cons]
  refine ⟨by omega,fun x hx=>?_⟩
  rcases List.mem_cons.1 hx with rfl|hx
  ·omega
  have:=h2 x hx;omega
theorem i6 {H:Type}:Bulk (Rows.uptoBulk (H:=H)) where
 str:=fun bs=>by rw [Rows.uptoBulk];omega
 slice:=fun elems spare=>by
  obtain ⟨h1,h2⟩:=Us elems
  rw [Rows.uptoBulk]
  exact ⟨by omega,fun d hd=>by have:=h2 d hd;omega⟩
 agg:=fun parts d hd=>by
  have:=(Us parts).2 d hd
  rw [Rows.uptoBulk]
  omega

/-- What the rows of this seat list. -/
def ry:List (String×DataW Unit):=Rows.bothAgainUptoRow.laid
theorem mp:∀u,Tryz.prog.typeName? 3 u=some "*errors.errorString" → u=260:=by
 intro u hu
 exact typeName_ptr_named (nm := "errors.errorString") (by kernel_rfl) (by kernel_rfl) (by decide) u hu
theorem xc {W:World} (h:laidMet Tryz.prog ry W):∃a:Addr,W.var? Tryz.prog "strconv.ErrRange" = some #[.iface 260 (.pointer (some a))]:=by
 have h':=h.tail.tail.tail.tail
 obtain ⟨a,s,h1,_⟩:=laid_sentinel (g:=3) (ti:=211) (tp:=260) (te:=262) (ts:=9) h' (by kernel_rfl) (by kernel_rfl) Tryz.underlying211 mp Tryz.underlying260 Tryz.underlying262 rfl rfl Tryz.underlying9 (by kernel_rfl) (by kernel_rfl)
 exact ⟨a,h1⟩
theorem xd {W:World} (h:laidMet Tryz.prog ry W):Lib.TabIs Tryz.prog W "internal/strconv.uint64pow10" .u64 Lib.pow10Tab:=
 Lib.tabIs_of_head (g:=4) (t:=250) (e:=77) (n:=20) (by kernel_rfl) (by kernel_rfl) (by kernel_rfl) (by kernel_rfl) (by kernel_rfl) (by kernel_rfl) h.tail.tail
theorem X3 {P:Program} {W:World} {n:String} {g:Nat} {cs:Array Value} (hg:P.globalNamed n=some g) (h:W.var? P n=some cs):∃t f,W.heap[g]? = some (.cells cs t f):=by
 unfold World.var? at h
 rw [hg] at h
 simp only [Option.bind_some] at h
 split at h
 ·rename_i cs' t f e
  injection h with h
  subst h
  exact ⟨t,f,e⟩
 cases h
theorem glob {W:World} [E:ErrAt] (h:W.ShapedOpen Tryz.prog) (hl:laidMet Tryz.prog ry W) (he:W.var? Tryz.prog "strconv.ErrRange" = some #[.iface 260 (.pointer (some E.b))]):Jb W:=by
 intro x hx
 have hx':x∈Wv:=hx
 unfold Wv at hx'
 simp only [List.mem_cons,List.mem_nil_iff,or_false] at hx'
 rcases hx' with rfl|rfl|rfl
 ·obtain ⟨m,hm⟩:=cell_of_shapedOpen_int (g:=0) (t:=3) (zero:=#[.int .i64 0]) (k:=.i64) h (of_decide_eq_true (by kernel_rfl)) (by kernel_rfl) rfl (by kernel_rfl) (by kernel_rfl) Tryz.underlying3
  obtain ⟨cs,hh,hs,_⟩:=h.1 0 #[.int .i64 0] 3 (of_decide_eq_true (by kernel_rfl)) (by kernel_rfl)
  have hs':cs.size=1:=hs
  have h1:0<cs.size:=by omega
  have hc:cs[0]=.int .i64 m:=by
   simp [World.cell?,hh,h1] at hm
   exact hm
  have:cs=#[.int .i64 m]:=by
   apply Array.ext
   ·simpa using hs'
   intro i h1 h2
   have:i=0:=by omega
   subst this
   simpa using hc
  rw [this] at hh
  exact ⟨_,hh,m,3,_,rfl⟩
 ·obtain ⟨t,f,e⟩:=X3 (g:=3) (by kernel_rfl) he
  exact ⟨_,e,t,f,rfl⟩
 obtain ⟨t,f,e⟩:=X3 (g:=4) (by kernel_rfl) (xd hl)
 exact ⟨_,e,t,f,rfl⟩
end Go.Proofs.YtcmnamfkljlglaaGreatDoor
namespace Go.SX.Nb
open Go Go.SX Go.Proofs
variable [ErrAt]
set_option maxRecDepth 4000
mutual
def depthE:Expr→Nat
 | .mk _ _ _ k=>Eb k+1
def Eb:List Expr→Nat
  | []=>0
  | e::r=>max (depthE e) (Eb r)
 end
mutual
def E4 (p:Expr→Bool):Expr→Bool
 | .mk o t v k=>p (.mk o t v k)&&Ha p k
def Ha (p:Expr→Bool):List Expr→Bool
  | []=>true
  | e::r=>E4 p e&&Ha p r
 end
mutual
def Rb:Expr→List Expr
 | .mk o t v k=>.mk o t v k::Rc k
def Rc:List Expr→List Expr
  | []=>[]
  | e::r=>Rb e++Rc r
 end
theorem X4 (e:Expr):depthE e=Eb e.kids+1:=by cases e;rfl
theorem Hb (p:Expr→Bool) (e:Expr):E4 p e=(p e&&Ha p e.kids):=by cases e;rfl
theorem O9:∀a b,Eb (a++b)=max (Eb a) (Eb b)
 | [],b=>by rw [Ez,Eb,Nat.zero_max]
 | e::r,b=>by rw [Fa,Eb,Eb,O9 r b,Nat.max_assoc]
theorem Ll:∀a b,E6 (a++b)=E6 a+E6 b
 | [],b=>by rw [Ez,E6,Bn]
 | e::r,b=>by rw [Fa,E6,E6,Ll r b,N9]
theorem S2 (p:Expr→Bool):∀a b,Ha p (a++b)=(Ha p a&&Ha p b)
 | [],b=>by rw [Ez,Ha,B5]
 | e::r,b=>by rw [Fa,Ha,Ha,S2 p r b,Bool.and_assoc]
theorem S3 (l:List Expr) {x:Nat} (h:x<l.length):Eb (l.take (x+1))=max (Eb (l.take x)) (depthE l[x]):=by
 rw [Gp h,O9,Eb,Eb,Nat.max_zero]
theorem i7 (l:List Expr) {x:Nat} (h:x<l.length):E6 (l.take (x+1))=E6 (l.take x)+sizeE l[x]:=by
 rw [Gp h,Ll,E6,E6,Nat.add_zero]
theorem E7 (p:Expr→Bool):∀l:List Expr,Ha p l=true↔∀y∈l,E4 p y=true
 | []=>by simp [Ha]
 | e::r=>by rw [Ha,Ap,E7 p r];simp
mutual
theorem Je:∀(d:Int) (e:Expr),(Cj d e).length=sizeE e
 | d,.mk o t v k=>by rw [Cj,sizeE,Bo,Ut (d+1) k,Sx]
theorem Ut:∀(d:Int) (l:List Expr),(Bp d l).length=E6 l
  | d,[]=>rfl
  | d,e::r=>by rw [Bp,E6,Aw,Je d e,Ut d r]
 end
mutual
theorem Uu:∀(d:Int) (e:Expr),(Cj d e).map (·.2)=Rb e
 | d,.mk o t v k=>by rw [Cj,Rb,Cw,Uv (d+1) k]
theorem Uv:∀(d:Int) (l:List Expr),(Bp d l).map (·.2)=Rc l
  | d,[]=>rfl
  | d,e::r=>by rw [Bp,Rc,Cf,Uu d e,Uv d r]
 end
mutual
theorem X5 (p:Expr→Bool):∀e:Expr,(Rb e).all p=E4 p e
 | .mk o t v k=>by rw [Rb,E4,List.all_cons,Uw p k]
theorem Uw (p:Expr→Bool):∀l:List Expr,(Rc l).all p=Ha p l
  | []=>rfl
  | e::r=>by rw [Rc,Ha,List.all_append,X5 p e,Uw p r]
 end
theorem mq (p:Expr→Bool) (d:Int) (e:Expr):((Cj d e).all fun it=>p it.2)=E4 p e:=by
 rw [←X5 p e,←Uu d e,List.all_map]
 rfl
def Ly (m:Int) (L:List (Int×Expr)):Int:=L.foldl (fun m it=>max m it.1) m
mutual
theorem Ux:∀(d m:Int) (e:Expr),Ly m (Cj d e)=max m (d-1+depthE e)
 | d,m,.mk o t v k=>by
  rw [Cj,depthE]
  show Ly (max m d) (Bp (d+1) k)=_
  rw [Uy (d+1) (max m d) k (by omega)]
  omega
theorem Uy:∀(d m:Int) (l:List Expr),d-1≤m→Ly m (Bp d l)=max m (d-1+Eb l)
  | d,m,[],h=>by
    rw [Bp,Eb]
    show m=_
    omega
  | d,m,e::r,h=>by
    rw [Bp,Eb]
    unfold Ly
    rw [List.foldl_append]
    show Ly (Ly m (Cj d e)) (Bp d r)=_
    rw [Ux d m e,Uy d _ r (by omega)]
    omega
 end
theorem bx (e:Expr):Ly 0 (Cj 1 e)=depthE e:=by rw [Ux];omega
theorem c6:∀(L:List (Int×Expr)) (m b:Int),m≤b→(Ly m L≤b↔∀it∈L,it.1≤b)
 | [],m,b,h=>by simp [Ly,h]
 | it::r,m,b,h=>by
  show Ly (max m it.1) r≤b↔_
  rcases Decidable.em (it.1≤b) with h1|h1
  ·rw [c6 r (max m it.1) b (by omega)]
   simp [h1]
  constructor
  ·intro h2
   have:∀(r:List (Int×Expr)) (m:Int),m≤Ly m r:=by
    intro r
    induction r with
    | nil=>intro m;exact Int.le_refl _
    | cons a r ih=>intro m;have:=ih (max m a.1);show m≤Ly (max m a.1) r;omega
   have:=this r (max m it.1)
   omega
  intro h2
  exact absurd (h2 it (by simp)) h1
theorem xe (e:Expr) {b:Nat}:(∀it∈Cj 1 e,it.1≤(b:Int))↔depthE e≤b:=by
 rw [←c6 (Cj 1 e) 0 b (by omega),bx]
 omega
def Dr (e:Expr):Bool:=(decide (depthE e≤30)&&decide (sizeE e≤300))&&E4 Do e
theorem Em (e:Expr):Bb e=Dr e:=by
 have hpos:1≤sizeE e:=by rw [I8];omega
 rw [K5]
 unfold Bb Dr
 rw [B9]
 simp only [Ap,decide_eq_true_eq,Pf,Je]
 rw [←xe e,←mq Do 1 e,B9]
 constructor
 ·intro h
  have key:∀(k:Nat) (hk:k<(Cj 1 e).length),Do (Cj 1 e)[k].2=true∧(Cj 1 e)[k].1≤30∧(k:Int)+1≤300:=fun k hk=>by
   have:=h k (by rw [Je] at hk;exact hk)
   rw [Ys (Aa hk)] at this
   simp only [Cr,Cm,Cx,decide_eq_false_iff_not] at this
   exact ⟨this.1.1,by have:=this.1.2;omega,by have:=this.2;omega⟩
  refine ⟨⟨fun it hit=>?_,?_⟩,fun it hit=>?_⟩
  ·obtain ⟨k,hk,rfl⟩:=Xw hit
   exact (key k hk).2.1
  ·have:=(key (sizeE e-1) (by rw [Je];omega)).2.2
   omega
  obtain ⟨k,hk,rfl⟩:=Xw hit
  exact (key k hk).1
 rintro ⟨⟨h1,h2⟩,h3⟩ k hk
 have hk':k<(Cj 1 e).length:=by rw [Je];exact hk
 rw [Ys (Aa hk')]
 have a1:=h1 _ (Az hk')
 have a3:=h3 _ (Az hk')
 have a3':Do (Cj 1 e)[k].2=true:=a3
 rw [a3']
 simp only [Cr,Cm,Aq,decide_eq_false_iff_not]
 exact ⟨⟨trivial,by have:(Cj 1 e)[k].1≤(30:Int):=a1;omega⟩,by omega⟩
/-- Its number is one of 64 bits. -/
def Jf (e:Expr):Bool:=decide (-9223372036854775808≤e.val.n)&&decide (e.val.n≤9223372036854775807)
/-! Names. -/
def named (s:Str) (e:Expr):Bool:=(Rb e).any fun y=>(y.op==2)&&(y.text==s)
mutual
def eqE:Expr→Expr→Bool
 | .mk o t v k,.mk o' t' v' k'=>((((o==o')&&(t==t'))&&((v.kind==v'.kind&&v.n==v'.n)&&v.s==v'.s)))&&eqL k k'
def eqL:List Expr→List Expr→Bool
  | [],[]=>true
  | e::r,e'::r'=>eqE e e'&&eqL r r'
  | _,_=>false
 end
theorem rz (x y:Expr):eqE x y=((((x.op==y.op)&&(x.text==y.text))&&((x.val.kind==y.val.kind&&x.val.n==y.val.n)&&x.val.s==y.val.s))&&eqL x.kids y.kids):=by
 cases x;cases y;rw [eqE];rfl
mutual
theorem Yw:∀x y:Expr,eqE x y=true↔x=y
 | .mk o t v k,.mk o' t' v' k'=>by
  rw [eqE]
  simp only [Ap,beq_iff_eq,Py k k',Expr.mk.injEq]
  constructor
  ·rintro ⟨⟨⟨rfl,rfl⟩,⟨h1,h2⟩,h3⟩,rfl⟩
   refine ⟨rfl,rfl,?_,rfl⟩
   cases v;cases v'
   simp_all
  rintro ⟨rfl,rfl,rfl,rfl⟩
  exact ⟨⟨⟨rfl,rfl⟩,⟨rfl,rfl⟩,rfl⟩,rfl⟩
theorem Py:∀x y:List Expr,eqL x y=true↔x=y
  | [],[]=>by simp [eqL]
  | [],e::r=>by simp [eqL]
  | e::r,[]=>by simp [eqL]
  | e::r,e'::r'=>by rw [eqL,Ap,Yw e e',Py r r',Xu]
 end
theorem xf:∀{x y:List Expr},eqL x y=true→x.length=y.length:=fun h=>by rw [(Py _ _).1 h]
theorem s0 (x:Expr):eqE x x=true:=(Yw x x).2 rfl
/-! A node by itself, and marks. -/
theorem Yx {of:Str} {ws:List Str} (h:of=Mv ws) (hp:∀w∈ws,(32:UInt8)∉w) (s:Str):Nm s of=(!(s==[])&&ws.contains s):=by
 unfold Nm
 rw [bv]
 cases hb:s.contains 32 with
 | false =>
  have h2:(32:UInt8)∉s:=by simpa using hb
  rw [h,Jd s h2 ws hp,At,Qg]
  congr 1
  rw [List.contains_eq_any_beq]
  congr 1
  funext w
  rw [K5,beq_iff_eq,beq_iff_eq]
  exact eq_comm
 | true =>
  have h2:(32:UInt8)∈s:=by simpa using hb
  have h3:ws.contains s=false:=by
   rw [Gw]
   intro h4
   exact hp s (by simpa using h4) h2
  rw [h3]
  simp
def levels:List (List Str):=[[[111,114]],[[97,110,100]],[],[[61],[33,61],[60],[60,61],[62],[62,61]],[[43],[45],[38]],[[42],[47],[37]]]
def D4 (s:Str):Int:=match levels.findIdx? (fun l=>l.contains s) with|some i=>i|none => -1
def Rd:List Str:=[[111,114],[],[97,110,100],[],[61],[33,61],[60],[60,61],[62],[62,61],[],[43],[45],[38],[],[42],[47],[37]]
theorem i8:Nn=Mv Rd:=by kernel_rfl
theorem ca:∀w∈Rd,(32:UInt8)∉w:=by decide
theorem i9 (s:Str):Nm s Nn=decide (0≤D4 s):=by
 rw [Yx i8 ca s]
 have h1:decide (0≤D4 s)=levels.any (fun l=>l.contains s):=by
  unfold D4
  cases h:levels.findIdx? (fun l=>l.contains s) with
  | some i =>
   have:levels.any (fun l=>l.contains s)=true:=by
    have:=Hj.1 h
    obtain ⟨hi,hp,_⟩:=this
    exact Ix.2 ⟨_,Az hi,hp⟩
   rw [this]
   simp
  | none =>
   have:=Oh.1 h
   have e:levels.any (fun l=>l.contains s)=false:=by
    rw [Iw]
    intro l hl
    rw [this l hl]
    simp
   rw [e]
   rfl
 rw [h1]
 by_cases h0:s=[]
 ·subst h0;rfl
 have:(s==[])=false:=by simpa using h0
 rw [this,At,B5]
 simp [levels,Rd,h0,Bool.or_assoc]
def Gf (e:Expr):Bool:=
 if e.op==1 then ((C8 e.val&&decide (0≤e.val.n))&&(e.text==[]))&&((e.kids.length:Int)==0)
 else if !(Kr e.val) then false
 else if e.op==2 then Ko e.text&&((e.kids.length:Int)==0)
 else if e.op==3 || e.op==4 then (e.text==[])&&((e.kids.length:Int)==1)
 else if e.op==5 then decide (0≤D4 e.text)&&((e.kids.length:Int)==2)
 else if e.op==6 then C5 e.text==(e.kids.length:Int)
 else false
theorem Uz (e:Expr):Do e=Gf e:=by
 unfold Do Gf
 rw [i9,Ff]
 cases Kr e.val<;>simp
/-! What is wide. -/
def Re (e:Expr):Bool:=((decide ((100:Int)<e.text.length) || decide ((400:Int)<e.val.s.length)) || decide ((100:Int)<e.kids.length))
/-- Among trees, when n have been seen: is one too much? -/
def Oa (l:List Expr) (n:Nat):Bool:=decide (500<n+l.length) || l.any Re
def Gg:Nat→List Expr→Nat→Bool
 | 0,l,n => !l.isEmpty
 | f+1,l,n=>if l.isEmpty then false else if Oa l n then true else if decide ((500:Int)<(l.flatMap Expr.kids).length) then true else Gg f (l.flatMap Expr.kids) (n+l.length)
theorem V0:∀l:List Expr,E6 l=l.length+E6 (l.flatMap Expr.kids)
 | []=>rfl
 | e::r=>by
  rw [E6,I8,er,Ll,V0 r,Bo]
  omega
theorem V1 {l:List Expr} {n:Nat} (h:Oa l n=false):n+l.length≤500∧∀e∈l,Re e=false:=by
 unfold Oa at h
 simp only [Cm,decide_eq_false_iff_not,Iw,eg] at h
 exact ⟨by omega,h.2⟩
theorem Yy {e:Expr} (h:Re e=false):e.text.length≤100∧e.val.s.length≤400∧e.kids.length≤100:=by
 unfold Re at h
 simp only [Cm,decide_eq_false_iff_not] at h
 omega
theorem X6 {f:Nat} {l:List Expr} {n:Nat} (h:Gg (f+1) l n=false) (hl:l.isEmpty=false):Oa l n=false∧(l.flatMap Expr.kids).length≤500∧Gg f (l.flatMap Expr.kids) (n+l.length)=false:=by
 rw [Gg,if_neg (by rw [hl];simp)] at h
 split at h
 ·cases h
 rename_i h1
 split at h
 ·cases h
 rename_i h2
 simp only [decide_eq_true_eq] at h2
 exact ⟨by simpa using h1,by omega,h⟩
theorem js:∀(f:Nat) (l:List Expr) (n:Nat),Gg f l n=false→∀e∈l,okE f e∧E4 (fun y => !Re y) e=true
 | 0,l,n,h,e,he=>by
  have:l=[]:=by simpa [Gg] using h
  subst this
  cases he
 | f+1,l,n,h,e,he=>by
  have hl:l.isEmpty=false:=by cases l<;>simp_all
  obtain ⟨h1,h2,h3⟩:=X6 h hl
  have h4:=Yy ((V1 h1).2 e he)
  have ih:=js f _ _ h3
  have hk:∀y∈e.kids,okE f y∧E4 (fun y => !Re y) y=true:=fun y hy=>ih y (List.mem_flatMap.2 ⟨e,he,hy⟩)
  refine ⟨⟨by omega,by omega,fun y hy=>(hk y hy).1⟩,?_⟩
  rw [Hb,(V1 h1).2 e he,(E7 _ _).2 fun y hy=>(hk y hy).2]
  rfl
theorem X7:∀(f:Nat) (l:List Expr) (n:Nat),n≤500→Gg f l n=false→n+E6 l≤500
 | 0,l,n,hn,h=>by
  have:l=[]:=by simpa [Gg] using h
  subst this
  simpa [E6] using hn
 | f+1,l,n,hn,h=>by
  by_cases hl:l.isEmpty=true
  ·have:l=[]:=by simpa using hl
   subst this
   simpa [E6] using hn
  have hl':l.isEmpty=false:=by simpa using hl
  obtain ⟨h1,h2,h3⟩:=X6 h hl'
  have:=X7 f _ _ (V1 h1).1 h3
  rw [V0 l]
  omega
def V2 (e:Expr):Bool:=Gg 61 [e] 0
/-- A tree that is gone through. -/
structure Slim (e:Expr):Prop where
 ok:okE 61 e
 size:sizeE e≤500
 slim:E4 (fun y => !Re y) e=true
theorem xg {e:Expr} (h:V2 e=false):Slim e:=by
 obtain ⟨h1,h2⟩:=js _ _ _ h e (by simp)
 have:=X7 _ _ _ (by decide) h
 exact ⟨h1,by simpa [E6] using this,h2⟩
end Go.SX.Nb
namespace Go.Proofs.YtcmnamfkljlglaaGreatDoor
open Go Go.SX Go.SX.Nb Go.ChangeShapes Go.RowKit
set_option maxRecDepth 100000
theorem ia {ys:List AV} (h:∀(i:Nat) (y:AV),ys[i]? = some y→∃e:Nb.Expr,y=Al e∧E4 Jf e=true):∃l:List Nb.Expr,ys=l.map Al∧Ha Jf l=true:=by
 induction ys with
 | nil=>exact ⟨[],rfl,rfl⟩
 | cons y ys ih =>
  obtain ⟨e,rfl,he⟩:=h 0 y rfl
  obtain ⟨l,rfl,hl⟩:=ih (fun i z hz=>h (i+1) z hz)
  exact ⟨e::l,rfl,by rw [Ha,he,hl];rfl⟩
theorem jt {H:Type} [ErrAt] (d:DataW H) (y:AV) (h:DRep Tryz.prog 44 d y):∃v:Val,y=Ba v ∧ -9223372036854775808≤v.n∧v.n≤9223372036854775807:=by
 obtain ⟨ys,hn,rfl,hh⟩:=h.struct' i6 Tryz.underlying44
 match ys,hn with
 | [y0,y1,y2],_ =>
  obtain ⟨d0,b0,h0⟩:=hh 0 _ y0 rfl rfl
  obtain ⟨d1,b1,h1⟩:=hh 1 _ y1 rfl rfl
  obtain ⟨d2,b2,h2⟩:=hh 2 _ y2 rfl rfl
  obtain ⟨k,rfl,rfl,_⟩:=h0.int' Tryz.underlying3
  obtain ⟨n,rfl,rfl,hn1,hn2⟩:=h1.int' Tryz.underlying2
  obtain ⟨s,rfl,rfl⟩:=h2.str' Tryz.underlying9
  exact ⟨⟨k,n,s⟩,rfl,hn1,hn2⟩
theorem s6 {H:Type} [ErrAt] {t:TypeId} {d:DataW H} {y:AV} (h:DRep Tryz.prog t d y):(t=53→∃e:Nb.Expr,y=Al e∧E4 Jf e=true)∧(t=48→∃l:List Nb.Expr,y=.slice false 6 (l.map Al)∧Ha Jf l=true):=by
 induction h with
 | int hu _=>exact ⟨fun e=>(by subst e;rw [Tryz.underlying53] at hu;cases hu),fun e=>by subst e;rw [Tryz.underlying48] at hu;cases hu⟩
 | bool hu=>exact ⟨fun e=>(by subst e;rw [Tryz.underlying53] at hu;cases hu),fun e=>by subst e;rw [Tryz.underlying48] at hu;cases hu⟩
 | str hu=>exact ⟨fun e=>(by subst e;rw [Tryz.underlying53] at hu;cases hu),fun e=>by subst e;rw [Tryz.underlying48] at hu;cases hu⟩
 | nil hu =>
  refine ⟨fun e=>(by subst e;rw [Tryz.underlying53] at hu;cases hu),fun e=>?_⟩
  subst e
  rw [Tryz.underlying48] at hu
  injection hu with hu
  injection hu with hu
  subst hu
  exact ⟨[],by rw [show Tryz.prog.cellsOf 53=6 by kernel_rfl];rfl,rfl⟩
 | slice hu hn hh ih =>
  refine ⟨fun e=>(by subst e;rw [Tryz.underlying53] at hu;cases hu),fun e=>?_⟩
  subst e
  rw [Tryz.underlying48] at hu
  injection hu with hu
  injection hu with hu
  subst hu
  rename_i elems spare ys
  obtain ⟨l,rfl,hl⟩:=ia (ys:=ys) (fun i y hy=>by
   have hlt:i<elems.length:=by rw [←hn];exact (List.getElem?_eq_some_iff.1 hy).1
   exact (ih i elems[i] y (List.getElem?_eq_getElem hlt) hy).1 rfl)
  exact ⟨l,by rw [show Tryz.prog.cellsOf 53=6 by kernel_rfl],hl⟩
 | struct hu hn hn' hh ih =>
  refine ⟨fun e=>?_,fun e=>by subst e;rw [Tryz.underlying48] at hu;cases hu⟩
  subst e
  rw [Tryz.underlying53] at hu
  injection hu with hu
  injection hu with hu
  subst hu
  rename_i parts ys
  match parts,hn,ys,hn' with
  | [p0,p1,p2,p3],_,[y0,y1,y2,y3],_ =>
   obtain ⟨o,rfl,rfl,_⟩:=(hh 0 _ p0 y0 rfl rfl rfl).int' Tryz.underlying3
   obtain ⟨s,rfl,rfl⟩:=(hh 1 _ p1 y1 rfl rfl rfl).str' Tryz.underlying9
   obtain ⟨v,rfl,hv1,hv2⟩:=jt p2 y2 (hh 2 _ p2 y2 rfl rfl rfl)
   obtain ⟨l,rfl,hl⟩:=(ih 3 _ p3 y3 rfl rfl rfl).2 rfl
   refine ⟨.mk o s v l,?_,?_⟩
   ·rw [I7];rfl
   rw [E4,hl,Bool.and_true]
   show (decide (-9223372036854775808≤v.n)&&decide (v.n≤9223372036854775807))=true
   simp [hv1,hv2]
end Go.Proofs.YtcmnamfkljlglaaGreatDoor
namespace Go.SX.Nb
open Go Go.SX Go.Proofs
variable [ErrAt]
set_option maxRecDepth 4000
/-! ### Gaps -/
/-! ### Words -/
/-! What is printed of columns, word by word. -/
structure ColOk (x:Col):Prop where
 name:D9 x.name=true
 lo:1≤x.kind
 hi:x.kind≤3
def ktT (t:Tok):Int×Str:=(t.kind,t.text)
theorem wrap_u64 {n:Int} (h1:0≤n) (h2:n<18446744073709551616):IntKind.u64.wrap n=n:=by
 have e1:(2 ^ IntKind.u64.bits:Int)=18446744073709551616:=rfl
 have e3:IntKind.u64.signed=false:=rfl
 unfold IntKind.wrap
 simp only [e1,e3,Bl]
 simp
 omega
/-! What is printed of a schema is read. -/
/-- What goes together: names of their own. -/
theorem s7 {c:List Col} (h:Fi c=true):(∀y∈c,ColOk y)∧(c.map (·.name)).Nodup:=by
 rw [colsM_true] at h
 have hat:∀(j:Nat) (y:Col),c[j]? = some y→Ko y.name=true∧1≤y.kind∧y.kind≤3∧Bg y.name c=(j:Int):=by
  intro j y hj
  have:=h j y hj
  unfold Pu at this
  simp only [Cr,Cm,Cx,decide_eq_false_iff_not,bne_eq_false_iff_eq] at this
  obtain ⟨⟨⟨h1,h2⟩,h3⟩,h4⟩:=this
  exact ⟨h1,by omega,by omega,h4⟩
 refine ⟨fun y hy=>?_,?_⟩
 ·obtain ⟨j,hj⟩:=Ca hy
  obtain ⟨h1,h2,h3,_⟩:=hat j y hj
  exact ⟨by rw [Ff];exact h1,h2,h3⟩
 show List.Pairwise _ _
 rw [Sw]
 intro i j hi hj hij e
 simp only [Am] at hi hj
 simp only [L1] at e
 have e1:=(hat i c[i] (Aa hi)).2.2.2
 have e2:=(hat j c[j] (Aa hj)).2.2.2
 rw [e] at e1
 omega
theorem cb {c:List Col} (h:Uq c=true):c.length≤12∧(∀y∈c,ColOk y)∧(c.map (·.name)).Nodup:=by
 rw [Ks] at h
 unfold Ct at h
 rw [Ap] at h
 obtain ⟨h1,h2⟩:=h
 have:=of_decide_eq_true h1
 exact ⟨by omega,s7 h2⟩
theorem ju {c:List Col} (h:Kq c=false):OkCols c:=by
 unfold Kq at h
 simp only [Cm,decide_eq_false_iff_not,Iw,decide_eq_true_eq] at h
 refine ⟨by omega,fun y hy=>?_⟩
 have:=h.2 y hy
 omega
def Fj {α:Type} [BEq α] (v:α) (l:List α):Int:=match l.findIdx? (·==v) with|some i=>i|none => -1
theorem ib {α:Type} [BEq α] [LawfulBEq α] {v:α} {l:List α} {x:Nat} (h:x<l.length) (h1:l[x]=v) (h2:∀(j:Nat) (y:α),j<x→l[j]? = some y→¬(y=v)):Fj v l=x:=by
 have:l.findIdx? (·==v)=some x:=by
  rw [Hj]
  exact ⟨h,by simpa using h1,fun j hj=>by simpa using h2 j l[j] hj (Aa _)⟩
 simp [Fj,this]
theorem s8 {α:Type} [BEq α] [LawfulBEq α] {v:α} {l:List α} (h:∀(j:Nat) (y:α),l[j]? = some y→¬(y=v)):Fj v l = -1:=by
 have:l.findIdx? (·==v)=none:=by
  rw [Oh]
  intro y hy
  obtain ⟨j,hj⟩:=Ca hy
  simpa using h j y hj
 simp [Fj,this]
theorem Yz {α:Type} [BEq α] [LawfulBEq α] (v:α) (l:List α):decide (0≤Fj v l)=l.contains v:=by
 unfold Fj
 cases h:l.findIdx? (·==v) with
 | none =>
  rw [Oh] at h
  have:l.contains v=false:=by
   rw [Gw]
   intro hc
   have:=h v (by simpa using hc)
   simp at this
  rw [this];rfl
 | some i =>
  rw [Hj] at h
  obtain ⟨hi,e,_⟩:=h
  have:l.contains v=true:=by
   have:l[i]=v:=by simpa using e
   rw [←this]
   simp
  rw [this]
  simp only [decide_eq_true_eq]
  omega
theorem c70 (l:List Str) (v:Str) (hl:l.length≤1048576) (Hp:List AObj):AFun Tryz.prog 70 [Ew l,Ax v] Hp (A5 (Fj v l)):=by
 refine Ae [.tmp 4] [0,1] Tryz.func70 Tryz.ntmps70 (fun d=>?_)
 refine Z58 ?_;refine qi ?_
 refine Be (α:=Nat) (fun x=>⟨19,A4 0 (Ew l) (A4 1 (Ax v) (A4 7 (A5 l.length) (A4 8 (A5 (x:Nat)) (fun _=>.any)))),Hp,[],[],none⟩) (fun x=>x≤l.length∧∀(j:Nat) (y:Str),j<x→l[j]? = some y→¬(y=v)) (fun x=>l.length-x) (0) (by simp) (B0 (by simp)) rfl (fun x hx=>?_)
 refine qh ?_
 refine Dn (fun ht9=>?_) (fun ht9=>?_)
 ·have hlt:x<l.length:=by simpa using ht9
  refine Z20 ?_;refine Z1 ?_;refine qf ?_
  refine A2 (h:=A9 (x) (Ax l[x]) (fun _=>Ak hlt)) (hr:=?_)
  refine Z0 ?_;refine qv ?_
  refine A1 (fun ht16=>?_) (fun ht16=>?_)
  ·refine g9 ?_;refine Z41 ?_;exact A7 (Ai A3) ⟨by rw [ib hlt (by simpa using (Eq.symm (by simpa using ht16):l[x]=v)) hx.2],rfl⟩
  refine Ka ?_;refine A0 [0,1,7,8] ?_;exact As (x+1) ⟨hlt,Bs hlt hx.2 (fun e=>by rw [e] at ht16;simp at ht16)⟩ (by omega) (Bk rfl)
 refine Z30 ?_;refine Z71 ?_;exact A7 (Ai A3) ⟨by rw [s8 (Km (by simp at ht9;omega) hx.2)],rfl⟩

theorem c53 (l:List Str) (v:Str) (hl:l.length≤1048576) (Hp:List AObj):AFun Tryz.prog 53 [Ew l,Ax v] Hp (Ar (l.contains v)):=by
 refine Ae [.tmp 4] [0,1] Tryz.func53 Tryz.ntmps53 (fun d=>?_)
 refine Z58 ?_;refine Z1 ?_;refine A6 Tryz.call70 (c70 l v hl _) ?_;refine Ua ?_;exact A7 (Ai A3) ⟨by rw [Yz],rfl⟩

theorem mr {n k:Nat} {o:Bool} {l:List Col} {z:Col}:Low n (.slice o k (l.map Cb++[Cb z])):=by
 refine .slice _ _ _ (fun y hy=>?_)
 have key:∀c:Col,∀w∈(Cb c).cells,Low n w:=by
  intro c w hw
  have hw':w∈[AV.v (sv c.name),AV.v (.int .i64 c.kind)]:=hw
  simp only [C2,Js,or_false] at hw'
  rcases hw' with rfl|rfl
  ·exact .v _
  exact .v _
 rcases G7.1 hy with hy|hy
 ·obtain ⟨a,_,rfl⟩:=Db.1 hy
  exact key a
 rw [Bz.1 hy]
 exact key z
def G9 (c:List Col) (take:List Str) (j:Nat) (nm:Str):Bool := !(decide (Bg nm c<0) || (Fj nm take != (j:Int)))
def Fg (c:List Col) (take:List Str):Bool:=take.zipIdx.all fun x=>G9 c take x.2 x.1
theorem takenM_true {c:List Col} {take:List Str}:Fg c take=true↔∀(j:Nat) (y:Str),take[j]? = some y→G9 c take j y=true:=Ov
def Hc (c:List Col) (x:Nat) (y:Col):Bool := !((!Ko y.name) || (Bg y.name c != (x:Int)))
def H0 (c:List Col):Bool:=c.zipIdx.all fun x=>Hc c x.2 x.1
theorem namedC_true {c:List Col}:H0 c=true↔∀(j:Nat) (y:Col),c[j]? = some y→Hc c j y=true:=Ov
def C1 (c:List Col) (take:List Str):List Col:=c.filter fun y => !take.contains y.name
theorem jv {c:List Col} {take:List Str} {k:Nat} {y:Col} (h:c[k]? = some y) (hn:take.contains y.name=false):C1 (c.take (k+1)) take=C1 (c.take k) take++[y]:=by
 unfold C1
 have e:c.take (k+1)=c.take k++[y]:=by rw [Y2,h];rfl
 have hm:¬y.name∈take:=by simpa using hn
 rw [e,Xv]
 simp [M9,hm]
theorem X8 {c:List Col} {take:List Str} {k:Nat} {y:Col} (h:c[k]? = some y) (hn:take.contains y.name=true):C1 (c.take (k+1)) take=C1 (c.take k) take:=by
 unfold C1
 have e:c.take (k+1)=c.take k++[y]:=by rw [Y2,h];rfl
 have hm:y.name∈take:=by simpa using hn
 rw [e,Xv]
 simp [M9,hm]
theorem Gi (c:List Col) (take:List Str):(C1 c take).length≤c.length:=pk _ _
def Co (c:List Col) (take:List Str) (give:List Col):List Col×Int:=
 if Ct c=false then ([],1) else if Fg c take=false then ([],9) else if H0 (C1 c take++give)=false then ([],9)
 else if Fi (C1 c take++give)=false then ([],10) else if 12<(C1 c take++give).length then ([],3) else (C1 c take++give,0)
theorem s9 {c:List Col} {take:List Str} {give:List Col} (h:Ct c=false):Co c take give=([],1):=by unfold Co;rw [if_pos h]
theorem ic {c:List Col} {take:List Str} {give:List Col} (h:Ct c=true) (h2:Fg c take=false):Co c take give=([],9):=by unfold Co;rw [if_neg (by rw [h];simp),if_pos h2]
theorem ie {c:List Col} {take:List Str} {give out:List Col} (h:Ct c=true) (h2:Fg c take=true) (ho:C1 c take++give=out) (h3:H0 out=false):Co c take give=([],9):=by
 unfold Co;rw [ho,if_neg (by rw [h];simp),if_neg (by rw [h2];simp),if_pos h3]
theorem ig {c:List Col} {take:List Str} {give out:List Col} (h:Ct c=true) (h2:Fg c take=true) (ho:C1 c take++give=out) (h3:H0 out=true) (h4:Fi out=false):Co c take give=([],10):=by
 unfold Co;rw [ho,if_neg (by rw [h];simp),if_neg (by rw [h2];simp),if_neg (by rw [h3];simp),if_pos h4]
theorem ii {c:List Col} {take:List Str} {give out:List Col} (h:Ct c=true) (h2:Fg c take=true) (ho:C1 c take++give=out) (h3:H0 out=true) (h4:Fi out=true) (h5:12<out.length):Co c take give=([],3):=by
 unfold Co;rw [ho,if_neg (by rw [h];simp),if_neg (by rw [h2];simp),if_neg (by rw [h3];simp),if_neg (by rw [h4];simp),if_pos h5]
theorem ij {c:List Col} {take:List Str} {give out:List Col} (h:Ct c=true) (h2:Fg c take=true) (ho:C1 c take++give=out) (h3:H0 out=true) (h4:Fi out=true) (h5:¬12<out.length):Co c take give=(out,0):=by
 unfold Co;rw [ho,if_neg (by rw [h];simp),if_neg (by rw [h2];simp),if_neg (by rw [h3];simp),if_neg (by rw [h4];simp),if_neg h5]
theorem Kt {c:List Col} (h:Ct c=true):c.length≤12:=by
 unfold Ct at h
 simp at h
 omega
theorem ik {c give:List Col} {take:List Str} {out:List Col} (hc:OkCols c) (h:Ct c=true) (hg:OkCols give) (hg2:give.length≤1000000) (ho:C1 c take++give=out):OkCols out:=by
 subst ho
 have h1:=Gi c take
 have h2:=Kt h
 refine ⟨by simp only [Aw];omega,fun y hy=>?_⟩
 rcases G7.1 hy with hy|hy
 ·exact hc.2 y ((N6.1 hy).1)
 exact hg.2 y hy
theorem AHg (c:List Col) (hc:OkCols c) (take:List Str) (ht:take.length≤1048576) (Hp:List AObj):AFun Tryz.prog 118 [Ad c,Ew take] Hp (Ar (Fg c take)):=by
 refine Ae [.tmp 4] [0,1] Tryz.func118 Tryz.ntmps118 (fun d=>?_)
 refine Z58 ?_;refine Z27 ?_;refine A0 [0,1,7,8,9] ?_
 refine Be (α:=Nat) (fun x=>⟨26,A4 0 (Ad c) (A4 1 (Ew take) (A4 7 (Ew take) (A4 8 (A5 take.length) (A4 9 (A5 (x:Nat)) (fun _=>.any))))),Hp,[],[],none⟩) (fun x=>x≤take.length∧∀(j:Nat) (y:Str),j<x→take[j]? = some y→G9 c take j y=true) (fun x=>take.length-x) (0) (by simp) (B0 (by simp)) rfl (fun x hx=>?_)
 refine Z2 ?_;refine A0 [0,1,7,8,9,10] ?_
 refine Dn (fun ht10=>?_) (fun ht10=>?_)
 ·have hlt:x<take.length:=by simpa using ht10
  refine Uh ?_
  refine A2 (h:=A9 (x) (Ax take[x]) (fun _=>Ak hlt)) (hr:=?_)
  refine Z13 ?_;refine A0 [0,1,5,6,7,8,9] ?_;refine Z1 ?_;refine A6 Tryz.call71 (c71 c hc _ _) ?_;refine Z29 ?_;refine Bj Tryz.call70 (fun hB=>c70 take _ ht _) ?_;refine Kl ?_;refine A0 [0,1,7,8,9,24] ?_
  refine A1 (fun ht24=>?_) (fun ht24=>?_)
  ·refine Z71 ?_;refine Z41 ?_
   exact A7 (Ai A3) ⟨by rw [show Fg c take=false from Gw.2 fun h=>by have:=takenM_true.1 h x take[x] (Aa hlt);unfold G9 at this;rw [ht24] at this;cases this],rfl⟩
  refine Ka ?_;refine A0 [0,1,7,8,9] ?_;exact As (x+1) ⟨hlt,Fz hlt hx.2 (by unfold G9;rw [ht24];rfl)⟩ (by omega) (Bk rfl)
 refine Z30 ?_;refine Z71 ?_;exact A7 (Ai A3) ⟨by rw [takenM_true.2 (H2 (by simp at ht10;omega) hx.2)],rfl⟩

theorem AHh (c:List Col) (hc:OkCols c) (Hp:List AObj):AFun Tryz.prog 120 [Ad c] Hp (Ar (H0 c)):=by
 refine Ae [.tmp 2] [0] Tryz.func120 Tryz.ntmps120 (fun d=>?_)
 refine ga ?_;refine A0 [0,5,6,7] ?_
 refine Be (α:=Nat) (fun x=>⟨25,A4 0 (Ad c) (A4 5 (Ad c) (A4 6 (A5 c.length) (A4 7 (A5 (x:Nat)) (fun _=>.any)))),Hp,[],[],none⟩) (fun x=>x≤c.length∧∀(j:Nat) (y:Col),j<x→c[j]? = some y→Hc c j y=true) (fun x=>c.length-x) (0) (by simp) (B0 (by simp)) rfl (fun x hx=>?_)
 refine Z2 ?_;refine A0 [0,5,6,7,8] ?_
 refine Dn (fun ht8=>?_) (fun ht8=>?_)
 ·have hlt:x<c.length:=by simpa using ht8
  have hcl:=hc.len
  refine Uh ?_
  refine A2 (h:=A9 (x) (Cb c[x]) (fun _=>Ak hlt)) (hr:=?_)
  refine fy ?_;refine A0 [0,3,4,5,6,7] ?_;refine Z1 ?_;refine A6 Tryz.call111 (x6 _ (hc.names _ (Az hlt)) _) ?_;refine Z29 ?_;refine B8 ?_;refine Bj Tryz.call71 (fun hB=>c71 c hc _ _) ?_;refine Kl ?_;refine A0 [0,5,6,7,23] ?_
  refine A1 (fun ht23=>?_) (fun ht23=>?_)
  ·rw [Ff] at ht23
   refine Ym ?_
   exact A7 (Ai A3) ⟨by rw [show H0 c=false from Gw.2 fun h=>by have:=namedC_true.1 h x c[x] (Aa hlt);unfold Hc at this;rw [ht23] at this;cases this],rfl⟩
  rw [Ff] at ht23
  refine Ka ?_;refine A0 [0,5,6,7] ?_
  refine As (x+1) ⟨hlt,Fz hlt hx.2 (by unfold Hc;rw [ht23];rfl)⟩ (by omega) ?_
  exact Cv (own:=[]) (fun _=>.refl _) (by repeat (first|exact Bd|refine Bc (by simp [or_imp,forall_and]) ?_)) (by simp) (by simp)
 refine Z30 ?_;refine Z33 ?_;exact A7 (Ai A3) ⟨by rw [namedC_true.2 (H2 (by simp at ht8;omega) hx.2)],rfl⟩

theorem AHi (c:List Col) (take:List Str) (Hp:List AObj):AFun Tryz.prog 119 [Ad c,Ew take] Hp (.fn (.func 141) [] [.ro [Ad c],.ro [Ew take]]):=by
 refine Ae [.tmp 4] [0,1] Tryz.func119 Tryz.ntmps119 (fun d=>?_)
 refine fq ?_;refine Dv ?_;refine U2 ?_;refine A2 ?_;exact AB9

theorem AHj (l:Nat) (c:List Col) (take:List Str) (hc:c.length≤1048576) (ht:take.length≤1048576) (U:Nat→List AObj) (hlen:∀k,(U k).length=(U 0).length) (hll:l<(U 0).length)
  (hlw:∀k,∀x∈U k,ObjLow (U 0).length x) (hn:∀k y,c[k]? = some y→take.contains y.name=true→U (k+1)=U k)
  (hy:∀k y X,c[k]? = some y→take.contains y.name=false→AYield Tryz.prog l [Cb y] (U k++X) (fun b H'=>b=true∧H'=U (k+1)++X)):ACall Tryz.prog 141 [.yield l,.ro [Ad c],.ro [Ew take]] (U 0) (fun _ H'=>H'=U c.length):=by
 refine Ae [] [0,1,2] Tryz.func141 Tryz.ntmps141 (fun d=>?_)
 refine Z18 ?_;refine A0 [0,2,6,7,8] ?_
 refine Be (α:=Nat) (fun x=>⟨24,A4 0 (.yield l) (A4 2 (.ro [Ew take]) (A4 6 (Ad c) (A4 7 (A5 c.length) (A4 8 (A5 (x:Nat)) (fun _=>.any))))),U x,[],[],none⟩) (fun x=>x≤c.length) (fun x=>c.length-x) (0) (Ah _) (B0 (by simp)) rfl (fun x hx=>?_)
 refine Z2 ?_;refine A0 [0,2,6,7,8,9] ?_
 refine Dn (fun ht9=>?_) (fun ht9=>?_)
 ·have hlt:x<c.length:=by simpa using ht9
  refine Po ?_
  refine A2 (h:=A9 (x) (Cb c[x]) (fun _=>Ak hlt)) (hr:=?_)
  refine Pr ?_;refine A0 [0,2,5,6,7,8] ?_;refine Z18 ?_;refine A6 Tryz.call53 (c53 take _ ht _) ?_;refine Z29 ?_
  refine G.yield (l:=l) (C:=((!take.contains c[x].name)==true)) (args:=[Cb c[x]]) (fun hC=>hy x c[x] _ (Aa hlt) (by simpa using hC)) ?_
  intro b V O hV hb hb0
  have hVO:V=U (x+1)∧O=[AObj.cells 46 [Ax c[x].name,A5 c[x].kind]]∧(take.contains c[x].name=false→b=true):=by
   cases hcn:take.contains c[x].name with
   | true =>
    obtain ⟨h1,h2⟩:=hb0 (by rw [hcn];rfl)
    exact ⟨h1.trans (hn x c[x] (Aa hlt) hcn).symm,h2,fun e=>by cases e⟩
   | false =>
    obtain ⟨h1,h2⟩:=hb (by rw [hcn];rfl)
    have h3:=Qh h2 (by rw [hV,hlen x,hlen (x+1)])
    exact ⟨h3.1,h3.2,fun _=>h1⟩
  obtain ⟨rfl,rfl,hbt⟩:=hVO
  refine ⟨fun _=>by rw [hlen (x+1)];exact hlw (x+1),fun o ho=>(by cases ho),?_⟩
  refine Z50 ?_;refine A0 [0,2,6,7,8,22] ?_
  refine A1 (fun ht22=>?_) (fun ht22=>?_)
  ·exfalso
   have hcf:take.contains c[x].name=false:=by simp at ht22 ⊢;exact ht22.1
   rw [hbt hcf] at ht22
   simp at ht22
  refine Ka ?_;refine A0 [0,2,6,7,8] ?_;refine qw ?_
  exact Cv (own:=[]) (fun _=>.refl _) (by repeat (first|exact Bd|refine Bc (by first|(simp [or_imp,forall_and];done)|(have:=hlen (x+1);simp;omega)) ?_)) (by simp) (by simp)
 have hxe:x=c.length:=by simp at ht9;omega
 refine K.lpE ?_;exact K.finN .nores (hp:=by rw [hxe])

theorem cd {c:List Col} {take:List Str} {x:Nat} (hlt:x<take.length) (h:G9 c take x take[x]=false):Fg c take=false:=
 Gw.2 fun h'=>by rw [takenM_true.1 h' x take[x] (Aa hlt)] at h;cases h
theorem il {α:Type} [BEq α] [LawfulBEq α] {v:α} {l:List α} {k x:Nat} (hlk:k<l.length) (hkx:k<x) (h:l[k]=v):(Fj v l != (x:Int))=true:=by
 rw [bne_iff_ne]
 intro e
 unfold Fj at e
 cases hf:l.findIdx? (·==v) with
 | none=>rw [hf] at e;exact absurd (show (-1:Int)=(x:Int) from e) (by omega)
 | some i =>
  rw [hf] at e
  have hix:i=x:=by simp at e;omega
  subst hix
  rw [Hj] at hf
  obtain ⟨_,_,h3⟩:=hf
  have:=h3 k hkx
  rw [h] at this
  simp at this
theorem sc {α:Type} {p:α→Bool} {l:List α} {x:Nat} (h:x<l.length):(l.take (x+1)).all p=((l.take x).all p&&p l[x]):=by
 have e:l.take (x+1)=l.take x++[l[x]]:=by rw [Y2,Aa h];rfl
 rw [e,List.all_append]
 simp
theorem ABp (l:List Str) (n:Str):(l.all fun t => !(t==n)) = !l.contains n:=by
 induction l with
 | nil=>rfl
 | cons x r ih =>
  rw [List.all_cons,ih,List.contains_cons,Bool.not_or]
  congr 2
  exact Bool.beq_comm ..
def Oz (y:Col):Bool := !(decide (y.kind<1) || decide ((3:Int)<y.kind))
theorem ce (c:List Col) (j:Nat) (y:Col):Pu c j y=(Hc c j y&&Oz y):=by
 unfold Pu Hc Oz
 cases Ko y.name<;>cases decide (y.kind<1)<;>cases decide ((3:Int)<y.kind)<;>cases (Bg y.name c != (j:Int))<;>rfl
theorem im {c:List Col} (h:H0 c=true) (hk:∀(j:Nat) (y:Col),c[j]? = some y→Oz y=true):Fi c=true:=
 colsM_true.2 fun j y hj=>by rw [ce,namedC_true.1 h j y hj,hk j y hj];rfl
theorem Z5 {c:List Col} {x:Nat} (hlt:x<c.length) (hk:Oz c[x]=false):Fi c=false:=
 Gw.2 fun h=>by have:=colsM_true.1 h x c[x] (Aa hlt);rw [ce,hk,Bool.and_false] at this;cases this
theorem sd {c:List Col} {x:Nat} (hlt:x<c.length) (hk:Hc c x c[x]=false):H0 c=false:=
 Gw.2 fun h=>by rw [namedC_true.1 h x c[x] (Aa hlt)] at hk;cases hk
theorem c56 (c:List Col) (hc:OkCols c) (take:List Str) (ht:take.length≤1048576) (give:List Col) (hg:OkCols give) (hg2:give.length≤1000000) (Hp:List AObj):AFun Tryz.prog 56 [Ad c,Ew take,Ad give] Hp (.tup [Ad (Co c take give).1,A5 (Co c take give).2]):=by
 refine Ae [.tmp 6,.tmp 7] [0,1,2] Tryz.func56 Tryz.ntmps56 (fun d=>?_)
 refine b6 ?_;refine Z32 ?_;refine A6 Tryz.call36 (c36 c hc _) ?_;refine A2 ?_;refine A0 [0,1,2,18] ?_
 refine A1 (fun ht18=>?_) (fun ht18=>?_)
 ·have hr:Ct c=false:=by simpa using ht18
  refine Ud ?_;exact ADi
 have hr:Ct c=true:=by simpa using ht18
 refine Pq ?_;refine gc ?_
 refine Be (α:=Nat) (fun x=>⟨131,A4 0 (Ad c) (A4 1 (Ew take) (A4 2 (Ad give) (A4 8 (A5 (x:Nat)) (fun _=>.any)))),Hp,[],[],none⟩) (fun x=>x≤take.length∧∀(j:Nat) (y:Str),j<x→take[j]? = some y→G9 c take j y=true) (fun x=>take.length-x) (0) (by simp) (Fs _) rfl (fun x hx=>?_)
 refine Z76 ?_;refine A0 [0,1,2,8,22] ?_
 refine A1 (fun ht22=>?_) (fun ht22=>?_)
 ·have hlt:x<take.length:=by simpa using ht22
  refine Z44 ?_;refine Z27 ?_
  refine A2 (h:=A9 (x) (Ax take[x]) (fun _=>Ak hlt)) (hr:=?_)
  refine A2 ?_;refine A6 Tryz.call42 (c42 c hc _ _) ?_;refine A2 ?_;refine A0 [0,1,2,8,31] ?_
  refine A1 (fun ht31=>?_) (fun ht31=>?_)
  ·have hkn:Fg c take=false:=cd hlt (by unfold G9;rw [ht31];rfl)
   refine Ud ?_;refine Z26 ?_;exact ADd
  refine Ja ?_;refine A0 [0,1,2,8,9] ?_
  refine Be (α:=Nat) (fun k=>⟨131,A4 0 (Ad c) (A4 1 (Ew take) (A4 2 (Ad give) (A4 8 (A5 (x:Nat)) (A4 9 (A5 (k:Nat)) (fun _=>.any))))),Hp,[],[],none⟩) (fun k=>k≤x∧∀(j:Nat) (y:Str),j<k→take[j]? = some y→¬(y=take[x])) (fun k=>x-k) (0) (by simp) (Fs _) rfl (fun k hk=>?_)
  refine Z27 ?_;refine A0 [0,1,2,8,9,34] ?_
  refine A1 (fun ht34=>?_) (fun ht34=>?_)
  ·have hkx:k<x:=by simpa using ht34
   have hlk:k<take.length:=by omega
   refine Z44 ?_;refine AAy ?_
   refine Ag (h:=A9 (k) (Ax take[k]) (fun _=>Ak hlk)) (hr:=?_)
   refine Z45 ?_
   refine Ag (h:=A9 (x) (Ax take[x]) (fun _=>Ak hlt)) (hr:=?_)
   refine Qu ?_;refine A2 ?_;refine A0 [0,1,2,8,9,45] ?_
   refine A1 (fun ht45=>?_) (fun ht45=>?_)
   ·have hkn:Fg c take=false:=cd hlt (by unfold G9;rw [il hlk hkx (by simpa using ht45)];simp)
    refine Ud ?_;refine Z9 ?_;refine Z35 ?_;exact ADd
   refine Z79 ?_;refine A0 [0,1,2,8,9] ?_;exact As (k+1) ⟨hkx,Bs (l:=take) hlk hk.2 (by simpa using ht45)⟩ (by omega) (Bk rfl)
  have hkx:k=x:=by simp at ht34;omega
  have htk:G9 c take x take[x]=true:=by
   unfold G9
   rw [ht31,ib hlt rfl (fun j y hj=>hk.2 j y (by omega))]
   simp
  refine Z38 ?_;refine K.lpE ?_;refine Z88 ?_;refine gc ?_;exact As (x+1) ⟨hlt,Fz hlt hx.2 htk⟩ (by omega) (Bk rfl)
 have hk0:Fg c take=true:=takenM_true.2 (H2 (by simp at ht22;omega) hx.2)
 refine Z47 ?_;refine b9 ?_;refine A0 [0,1,2,10] ?_;refine Z32 ?_;refine A0 [0,1,2,10,11] ?_
 refine Be (α:=Nat) (fun i=>⟨131,A4 0 (Ad c) (A4 1 (Ew take) (A4 2 (Ad give) (A4 10 (.slice true 2 ((C1 (c.take i) take).map Cb)) (A4 11 (A5 (i:Nat)) (fun _=>.any))))),Hp,[],[],none⟩) (fun i=>i≤c.length) (fun i=>c.length-i) (0) (Ah _) (B0 (by simp [C1])) rfl (fun i hi=>?_)
 refine Z76 ?_;refine A0 [0,1,2,10,11,50] ?_
 refine A1 (fun ht50=>?_) (fun ht50=>?_)
 ·have hli:i<c.length:=by simpa using ht50
  have hcl:=hc.len
  refine Z44 ?_;refine Z2 ?_;refine A0 [0,1,2,10,11,12] ?_;refine Z32 ?_;refine A0 [0,1,2,10,11,12,13] ?_
  refine Be (α:=Nat) (fun m=>⟨131,A4 0 (Ad c) (A4 1 (Ew take) (A4 2 (Ad give) (A4 10 (.slice true 2 ((C1 (c.take i) take).map Cb)) (A4 11 (A5 (i:Nat)) (A4 12 (Ar ((take.take m).all fun t => !(t==c[i].name))) (A4 13 (A5 (m:Nat)) (fun _=>.any))))))),Hp,[],[],none⟩) (fun m=>m≤take.length) (fun m=>take.length-m) (0) (Ah _) (Fs _) rfl (fun m hm=>?_)
  refine Z76 ?_;refine A0 [0,1,2,10,11,12,13,56] ?_
  refine A1 (fun ht56=>?_) (fun ht56=>?_)
  ·have hlm:m<take.length:=by simpa using ht56
   refine Z44 ?_;refine W.drawQ0 [0,1,3,3,15,31,3,3,195,451,963,2047,4095,8191] 11 An (by kernel_rfl) ?_;refine Z17 ?_;refine Z63 ?_
   refine F4 (h:=A9 (m) (Ax take[m]) (fun _=>Ak hlm)) (hr:=?_)
   refine g5 ?_
   refine F4 (h:=A9 (i) (Cb c[i]) (fun _=>Ak hli)) (hr:=?_)
   refine Z63 ?_;refine Fx ?_;refine Z92 ?_;refine A0 [0,1,2,10,11,12,13] ?_;refine Z88 ?_;refine A0 [0,1,2,10,11,12,13] ?_;exact As (m+1) hlm (by omega) (Bk (by rw [sc hlm];rfl))
  have hme:take.take m=take:=D5 (by simp at ht56;omega)
  rw [hme,ABp]
  refine Z47 ?_;refine Z2 ?_;refine A0 [0,1,2,10,11,72] ?_
  refine A1 (fun ht72=>?_) (fun ht72=>?_)
  ·have hst:=jv (take:=take) (Aa hli) (by simpa using ht72)
   refine Z89 ?_;refine Z0 ?_
   refine A2 (h:=A9 (i) (Cb c[i]) (fun _=>Ak hli)) (hr:=?_)
   refine Z60 ?_
   refine Du jU Tryz.type46 ?_ ?_ ?_
   ·have h1:=Gi (c.take i) take;have h2:=hc.len;simp only [Bt] at h1;simp [Tryz.t46];omega
   ·have h1:=Gi (c.take i) take;have h2:=hc.len;simp only [Bt] at h1;simp [Tryz.t46];omega
   refine Ge ?_;refine A0 [0,1,2,10,11] ?_;refine Z88 ?_;exact AD3
  have hst:=X8 (take:=take) (Aa hli) (by simpa using ht72)
  refine Z79 ?_;exact AD3
 have hie:c.take i=c:=D5 (by simp at ht50;omega)
 rw [hie]
 refine Z47 ?_;refine Wf ?_;refine A2 ?_
 refine Du jU Tryz.type46 ?_ ?_ ?_
 ·have h1:=Gi c take;have h2:=Kt hr;simp [Tryz.t46];omega
 ·have h1:=Gi c take;have h2:=Kt hr;simp [Tryz.t46];omega
 refine Ge ?_;refine A0 [10] ?_;refine Z52 ?_
 have e10:(C1 c take).map Cb++give.map Cb=(C1 c take++give).map Cb:=(Cf ..).symm
 rw [e10]
 generalize hout:C1 c take++give=out
 have ho:OkCols out:=ik hc hr hg hg2 hout
 have hol:=ho.len
 refine A2 ?_;refine A0 [10,14] ?_
 refine Be (α:=Nat) (fun a=>⟨131,A4 10 (.slice true 2 (out.map Cb)) (A4 14 (A5 (a:Nat)) (fun _=>.any)),Hp,[],[],none⟩) (fun a=>a≤out.length∧∀(j:Nat) (y:Col),j<a→out[j]? = some y→Hc out j y=true) (fun a=>out.length-a) (0) (by simp) (Fs _) rfl (fun a ha=>?_)
 refine Z76 ?_;refine A0 [10,14,86] ?_
 refine A1 (fun ht86=>?_) (fun ht86=>?_)
 ·have hla:a<out.length:=by simpa using ht86
  refine Qw ?_
  refine A2 (h:=A9 (a) (Cb out[a]) (fun _=>Ak hla)) (hr:=?_)
  refine Z0 ?_;refine A6 Tryz.call58 (c58 _ (ho.names _ (Az hla)) _) ?_;refine Z29 ?_;refine B8 ?_
  refine B8 (h:=A9 (a) (Cb out[a]) (fun _=>Ak hla)) (hr:=?_)
  refine Z10 ?_;refine Bj Tryz.call42 (fun hB=>c42 out ho _ _) ?_;refine Kl ?_;refine A0 [10,14,106] ?_
  refine A1 (fun ht106=>?_) (fun ht106=>?_)
  ·have hn:H0 out=false:=sd hla (by unfold Hc;rw [ht106];rfl)
   refine Ud ?_;refine Z9 ?_;refine Z41 ?_;exact A7 (Aj A3 A3) ⟨by rw [ie hr hk0 hout hn];try rfl,rfl⟩
  refine Z79 ?_;refine A0 [10,14] ?_;exact As (a+1) ⟨hla,Fz hla ha.2 (by unfold Hc;rw [ht106];rfl)⟩ (by omega) (Bk rfl)
 have hn:H0 out=true:=namedC_true.2 (H2 (by simp at ht86;omega) ha.2)
 refine Z47 ?_;refine Z32 ?_;refine A0 [10,15] ?_
 refine Be (α:=Nat) (fun b=>⟨131,A4 10 (.slice true 2 (out.map Cb)) (A4 15 (A5 (b:Nat)) (fun _=>.any)),Hp,[],[],none⟩) (fun b=>b≤out.length∧∀(j:Nat) (y:Col),j<b→out[j]? = some y→Oz y=true) (fun b=>out.length-b) (0) (by simp) (Fs _) rfl (fun b hb=>?_)
 refine Z76 ?_;refine A0 [10,15,110] ?_
 refine A1 (fun ht110=>?_) (fun ht110=>?_)
 ·have hlb:b<out.length:=by simpa using ht110
  refine Qw ?_
  refine A2 (h:=A9 (b) (Cb out[b]) (fun _=>Ak hlb)) (hr:=?_)
  refine Z0 ?_;refine Z29 ?_
  refine B8 (h:=A9 (b) (Cb out[b]) (fun _=>Ak hlb)) (hr:=?_)
  refine Z10 ?_;refine Z50 ?_;refine A0 [10,15,126] ?_
  refine A1 (fun ht126=>?_) (fun ht126=>?_)
  ·have hq:Fi out=false:=Z5 hlb (by unfold Oz;rw [ht126];rfl)
   refine Ud ?_;refine Z9 ?_;refine Z41 ?_;exact A7 (Aj A3 A3) ⟨by rw [ig hr hk0 hout hn hq];try rfl,rfl⟩
  refine Z79 ?_;refine A0 [10,15] ?_;exact As (b+1) ⟨hlb,Bs hlb hb.2 (by unfold Oz;rw [ht126];rfl)⟩ (by omega) (Bk rfl)
 have hq:Fi out=true:=im hn (Km (by simp at ht110;omega) hb.2)
 refine Z47 ?_;refine Z27 ?_;refine A0 [10,129] ?_
 refine A1 (fun ht129=>?_) (fun ht129=>?_)
 ·have h12:12<out.length:=by simp at ht129;omega
  refine Ud ?_;refine Z26 ?_;exact A7 (Aj A3 A3) ⟨by rw [ii hr hk0 hout hn hq h12];try rfl,rfl⟩
 have h12:¬12<out.length:=by simp at ht129;omega
 refine Z77 ?_;refine Z9 ?_;exact A7 (Aj A3 A3) ⟨by rw [ij hr hk0 hout hn hq h12];try rfl,rfl⟩

/-! What went and came, taken back: the same columns. -/
theorem se {α β:Type} {f:α→β} {c:List α} (h:(c.map f).Nodup) {i j:Nat} {y z:α} (hi:c[i]? = some y) (hj:c[j]? = some z) (e:f y=f z):i=j:=by
 obtain ⟨hi',ei⟩:=Ac.1 hi
 obtain ⟨hj',ej⟩:=Ac.1 hj
 have h':List.Pairwise (·≠·) (c.map f):=h
 rw [Sw] at h'
 rcases Y5 i j with hlt|rfl|hlt
 ·have h2:=h' i j (by simpa using hi') (by simpa using hj') hlt
  rw [L1,L1,ei,ej] at h2
  exact absurd e h2
 ·rfl
 have h2:=h' j i (by simpa using hj') (by simpa using hi') hlt
 rw [L1,L1,ei,ej] at h2
 exact absurd e.symm h2
theorem P0 {c:List Col} (h:(c.map (·.name)).Nodup) {j:Nat} {y:Col} (hj:c[j]? = some y):Bg y.name c=(j:Int):=by
 obtain ⟨hj',ej⟩:=Ac.1 hj
 exact Ul hj' (by rw [ej]) (fun k z hk hz e=>by have:=se h hz hj e;omega)
theorem find_mem {nm:Str} {c:List Col}:¬(Bg nm c<0)↔∃(j:Nat) (y:Col),c[j]? = some y∧y.name=nm∧Bg nm c=(j:Int):=by
 unfold Bg
 cases h:c.findIdx? (fun y=>y.name==nm) with
 | none =>
  constructor
  ·intro h';exact absurd (by decide) h'
  rintro ⟨j,y,_,_,e⟩
  exact absurd (show (-1:Int)=(j:Int) from e) (by omega)
 | some i =>
  rw [Hj] at h
  obtain ⟨hi,e,_⟩:=h
  constructor
  ·intro _;exact ⟨i,c[i],Aa hi,by simpa using e,rfl⟩
  intro _ h'
  have:(i:Int)<0:=h'
  omega
theorem io {c:List Col} {take:List Str} (h:Fg c take=true):(∀t∈take,¬(Bg t c<0))∧take.Nodup:=by
 rw [takenM_true] at h
 have hat:∀(j:Nat) (t:Str),take[j]? = some t→¬(Bg t c<0)∧Fj t take=(j:Int):=by
  intro j t hj
  have:=h j t hj
  unfold G9 at this
  simp only [Cr,Cm,decide_eq_false_iff_not,bne_eq_false_iff_eq] at this
  exact this
 refine ⟨fun t ht=>?_,?_⟩
 ·obtain ⟨j,hj⟩:=Ca ht
  exact (hat j t hj).1
 show List.Pairwise _ _
 rw [Sw]
 intro i j hi hj hij e
 have e1:=(hat i take[i] (Aa hi)).2
 have e2:=(hat j take[j] (Aa hj)).2
 rw [e,e2] at e1
 omega
theorem jx {c:List Col} {take:List Str} {give:List Col} (h:(Co c take give).2=0):Ct c=true∧Fg c take=true∧Fi (C1 c take++give)=true∧(C1 c take++give).length≤12∧Co c take give=(C1 c take++give,0):=by
 cases h1:Ct c with
 | false=>rw [s9 h1] at h;exact absurd (show (1:Int)=0 from h) (by decide)
 | true =>
  cases h2:Fg c take with
  | false=>rw [ic h1 h2] at h;exact absurd (show (9:Int)=0 from h) (by decide)
  | true =>
   cases h3:H0 (C1 c take++give) with
   | false=>rw [ie h1 h2 rfl h3] at h;exact absurd (show (9:Int)=0 from h) (by decide)
   | true =>
    cases h4:Fi (C1 c take++give) with
    | false=>rw [ig h1 h2 rfl h3 h4] at h;exact absurd (show (10:Int)=0 from h) (by decide)
    | true =>
     by_cases h5:12<(C1 c take++give).length
     ·rw [ii h1 h2 rfl h3 h4 h5] at h;exact absurd (show (3:Int)=0 from h) (by decide)
     exact ⟨rfl,rfl,rfl,by omega,ij h1 h2 rfl h3 h4 h5⟩
set_option maxRecDepth 8000
/-- What a node asks of its kids, and what it is. -/
structure Sign where
 kids:List Int
 own:Int
def Cz (s:Str):Sign:=if (s==[111,114]) || (s==[97,110,100]) then ⟨[3,3],3⟩ else if (((((s==[61]) || (s==[33,61])) || (s==[60])) || (s==[60,61])) || (s==[62])) || (s==[62,61]) then ⟨[-1, -1],3⟩ else if s==[38] then ⟨[2,2],2⟩ else ⟨[1,1],1⟩
def Dc (s:Str):Sign:=if (s==[108,101,110]) || (s==[110,117,109]) then ⟨[2],1⟩ else if s==[115,116,114] then ⟨[1],2⟩ else if (s==[108,101,102,116]) || (s==[114,105,103,104,116]) then ⟨[2,1],2⟩ else if s==[105,115,110,117,108,108] then ⟨[-2],3⟩ else if s==[110,118,108] then ⟨[-1, -1], -1⟩ else ⟨[3, -1, -1], -1⟩
def Hi (o:Int) (t:Str):Sign:=if o==3 then ⟨[1],1⟩ else if o==4 then ⟨[3],3⟩ else if o==5 then Cz t else Dc t
def Ex (a b:Int):Int×Bool:=if a==0 then (b,true) else if (b==0) || (a==b) then (a,true) else (0,false)
def Fu:List Int→List Int→Int→Option Int
 | _,[],c=>some c
 | [],_::_,_=>none
 | w::ws,k::ks,c=>if w == -2 then Fu ws ks c else if w == -1 then (if (Ex c k).2 then Fu ws ks (Ex c k).1 else none) else if (Ex w k).2 then Fu ws ks c else none
def If (s:Sign) (ks:List Int):Int×Int:=match Fu s.kids ks 0 with|none=>(0,10)|some c=>if s.own == -1 then (c,0) else (s.own,0)
def Ob (c:List Col) (t:Str):Int×Int:=if Bg t c<0 then (0,9) else ((c.getD (Bg t c).toNat ⟨[],0⟩).kind,0)
def Oc (c:List Col) (o:Int) (t:Str) (v:Val) (ks:List (Int×Int)):Int×Int:=
 if o==1 then (v.kind,0) else if o==2 then Ob c t else match ks.find? (fun q=>q.2 != 0) with|some q=>(0,q.2)|none=>If (Hi o t) (ks.map (·.1))
mutual
def Bi (c:List Col):Expr→Int×Int
 | .mk o t v k=>Oc c o t v (jy c k)
def jy (c:List Col):List Expr→List (Int×Int)
  | []=>[]
  | e::r=>Bi c e::jy c r
 end
theorem Rf (c:List Col):∀l,jy c l=l.map (Bi c)
 | []=>rfl
 | e::r=>by rw [jy,Rf c r];rfl
theorem Pz (c:List Col) (e:Expr):Bi c e=Oc c e.op e.text e.val (e.kids.map (Bi c)):=by cases e;rw [Bi,Rf];rfl
/-- infer.Kind. -/
def E0 (e:Expr) (c:List Col):Int×Int:=if (!(Bb e)) || !(Px c) then (0,1) else Bi c e
/-! The signs have as many as the nodes have kids. -/
theorem P1 (s:Str):(Cz s).kids.length=2:=by
 unfold Cz;repeat' split
 all_goals rfl
theorem ip {t:Str} {n:Nat} (h:C5 t=(n:Int)):(Dc t).kids.length=n:=by
 rw [show C5 t=C5 t from rfl] at h
 by_cases hm:t∈arityList.map (·.1)
 ·have:((arityList.map (·.1)).all fun s=>decide (((Dc s).kids.length:Int)=C5 s))=true:=by kernel_rfl
  have:=of_decide_eq_true (B9.1 this t hm)
  omega
 have h1:C5 t = -1:=by
  unfold C5
  rw [Og.2 fun p hp=>by
   simp only [beq_iff_eq]
   rintro rfl
   exact hm (Db.2 ⟨p,hp,rfl⟩)]
 omega
theorem Ku {e:Expr} (h:Do e=true) (h1:(e.op==1)=false) (h2:(e.op==2)=false):(Hi e.op e.text).kids.length=e.kids.length:=by
 unfold Do at h
 rw [h1,h2] at h
 simp only [A8,if_false] at h
 unfold Hi
 by_cases h3:(e.op==3)=true
 ·rw [h3] at h
  simp only [B3,if_true,Ap,beq_iff_eq] at h
  rw [if_pos h3]
  show 1=_
  omega
 have h3':(e.op==3)=false:=by simpa using h3
 rw [if_neg h3]
 rw [h3'] at h
 by_cases h4:(e.op==4)=true
 ·rw [h4] at h
  simp only [Av,if_true,Ap,beq_iff_eq] at h
  rw [if_pos h4]
  show 1=_
  omega
 have h4':(e.op==4)=false:=by simpa using h4
 rw [if_neg h4]
 rw [h4'] at h
 simp only [Ib,A8,if_false] at h
 by_cases h5:(e.op==5)=true
 ·rw [h5] at h
  simp only [if_true,Ap,beq_iff_eq] at h
  rw [if_pos h5,P1]
  omega
 have h5':(e.op==5)=false:=by simpa using h5
 rw [if_neg h5]
 rw [h5'] at h
 simp only [A8,if_false] at h
 by_cases h6:(e.op==6)=true
 ·rw [h6] at h
  simp only [if_true,Ap,beq_iff_eq] at h
  exact ip h.2
 have h6':(e.op==6)=false:=by simpa using h6
 rw [h6'] at h
 cases h
/-! More columns. -/
theorem sg {c:List Col} {o:Int} {t:Str} {v:Val} {ks:List (Int×Int)} (h:(Oc c o t v ks).2=0) (h1:(o==1)=false) (h2:(o==2)=false):∀q∈ks,q.2=0:=by
 unfold Oc at h
 rw [h1,h2] at h
 simp only [A8,if_false] at h
 cases hf:ks.find? (fun q=>q.2 != 0) with
 | some q =>
  rw [hf] at h
  have:=List.find?_some hf
  simp only [bne_iff_ne] at this
  exact absurd h this
 | none =>
  intro q hq
  have:=Og.1 hf q hq
  simpa using this
/-! A tree in a column's place. -/
set_option maxRecDepth 4000
/-- Where a parser of expressions stands: its word, its nest, its fault. -/
structure PS where
 i:Nat
 nest:Nat
 code:Int
 at_:Int
def noV:Val:=⟨0,0,[]⟩
def Af:Expr:=.mk 0 [] noV []
def X9 (e a:Int) (S:PS):PS:=if S.code==0 then ⟨S.i,S.nest,e,a⟩ else S
def isM (l:List Tok) (of:Str) (S:PS):Bool:=(((G4 l S.i).kind==5) || ((G4 l S.i).kind==2))&&Nm (G4 l S.i).text of
def Hd (S:PS):PS:=⟨S.i+1,S.nest,S.code,S.at_⟩
def jz (S:PS):PS:=⟨S.i,S.nest+1,S.code,S.at_⟩
def AA7 (S:PS):PS:=⟨S.i,S.nest-1,S.code,S.at_⟩
def k7 (l:List Tok) (s:Str) (S:PS):PS:=if S.code != 0 then S else if ((G4 l S.i).kind != 5) || !((G4 l S.i).text==s) then X9 8 (G4 l S.i).at_ S else Hd S
/-- What stands one nest deeper. -/
structure Fam where
 ei:PS→Expr×PS
 no:PS→Expr×PS
 ne:PS→Expr×PS
def No (a:Int) (f:PS→Expr×PS) (S:PS):Expr×PS:=if (S.nest:Int)==30 then (Af,X9 18 a S) else ((f (jz S)).1,AA7 (f (jz S)).2)
def Za (t:Str) (x y:Expr):Expr:=.mk 5 t noV [x,y]
def sh (l:List Tok) (of:Str) (f:PS→Expr×PS):Nat→Expr×PS→Expr×PS
 | 0,r=>r
 | n+1,r=>if (r.2.code==0)&&isM l of r.2 then sh l of f n (Za (G4 l r.2.i).text r.1 (f (Hd r.2)).1,(f (Hd r.2)).2) else r
def Xa (l:List Tok) (of:Str) (f:PS→Expr×PS) (S:PS):Expr×PS:=sh l of f l.length (f S)
def ABq:Str:=[32,44,32]
def argsF (l:List Tok) (f:PS→Expr×PS):Nat→List Expr×PS→List Expr×PS
 | 0,r=>r
 | n+1,r=>if (r.2.code==0)&&isM l ABq r.2 then argsF l f n (r.1++[(f (Hd r.2)).1],(f (Hd r.2)).2) else r
def AA8 (l:List Tok) (f:PS→Expr×PS) (S:PS):List Expr×PS:=argsF l f l.length ([(f S).1],(f S).2)
def AFp (l:List Tok) (a:Int) (f:PS→Expr×PS) (S:PS):List Expr×PS:=if (S.nest:Int)==30 then ([],X9 18 a S) else ((AA8 l f (jz S)).1,AA7 (AA8 l f (jz S)).2)
def Zb:Str:=[41]
def V3 (l:List Tok) (D:Fam) (S:PS):List Expr×PS:=AFp l (G4 l S.i).at_ D.ei (Hd S)
def AFq (l:List Tok) (D:Fam) (t:Tok) (S:PS):Expr×PS:=
 if C5 t.text<0 then (Af,X9 9 t.at_ S)
 else if ((k7 l Zb (V3 l D S).2).code==0) && !(((V3 l D S).1.length:Int)==C5 t.text) then (Af,X9 8 t.at_ (k7 l Zb (V3 l D S).2))
 else (.mk 6 t.text noV (V3 l D S).1,k7 l Zb (V3 l D S).2)
def orT:Str:=[32,111,114,32]
def AFr:Str:=[32,97,110,100,32]
def AHk:Str:=[32,110,111,116,32]
def AFs:Str:=[32,61,32,33,61,32,60,32,60,61,32,62,32,62,61,32]
def AFt:Str:=[32,43,32,45,32,38,32]
def AA9:Str:=[32,42,32,47,32,37,32]
def AHl:Str:=[32,45,32]
def opT:Str:=[32,40,32]
def AHm:Str:=[32,116,114,117,101,32,102,97,108,115,101,32,110,117,108,108,32]
def iq (v:Val):Expr:=.mk 1 [] v []
def AAa (l:List Tok) (D:Fam) (S:PS):Expr×PS:=
 if S.code != 0 then (Af,S)
 else if ((G4 l S.i).kind==3) || isM l AHm S then (iq (AFo (G4 l S.i).text).1,Hd S)
 else if (G4 l S.i).kind==4 then (iq ⟨2,0,(G4 l S.i).text.take 200⟩,Hd S)
 else if (G4 l S.i).kind==1 then (if isM l opT (Hd S) then AFq l D (G4 l S.i) (Hd S) else (Dt (G4 l S.i).text,Hd S))
 else if isM l opT S then ((No (G4 l S.i).at_ D.ei (Hd S)).1,k7 l Zb (No (G4 l S.i).at_ D.ei (Hd S)).2)
 else (Af,X9 8 (G4 l S.i).at_ S)
def Wm (op:Int) (x:Expr):Expr:=.mk op [] noV [x]
def ABr (l:List Tok) (D:Fam) (S:PS):Expr×PS:=if !isM l AHl S then AAa l D S else (Wm 3 (No (G4 l S.i).at_ D.ne (Hd S)).1,(No (G4 l S.i).at_ D.ne (Hd S)).2)
def AAb (l:List Tok) (D:Fam):PS→Expr×PS:=Xa l AA9 (ABr l D)
def Wn (l:List Tok) (D:Fam):PS→Expr×PS:=Xa l AFt (AAb l D)
def cf (l:List Tok) (D:Fam) (S:PS):Expr×PS:=
 if ((Wn l D S).2.code != 0) || !isM l AFs (Wn l D S).2 then Wn l D S
 else (Za (G4 l (Wn l D S).2.i).text (Wn l D S).1 (Wn l D (Hd (Wn l D S).2)).1,(Wn l D (Hd (Wn l D S).2)).2)
def ABs (l:List Tok) (D:Fam) (S:PS):Expr×PS:=if !isM l AHk S then cf l D S else (Wm 4 (No (G4 l S.i).at_ D.no (Hd S)).1,(No (G4 l S.i).at_ D.no (Hd S)).2)
def AAc (l:List Tok) (D:Fam):PS→Expr×PS:=Xa l AFr (ABs l D)
def k8 (l:List Tok) (D:Fam):PS→Expr×PS:=Xa l orT (AAc l D)
def xh (l:List Tok):Nat→Fam
 | 0=>⟨fun S=>(Af,S),fun S=>(Af,S),fun S=>(Af,S)⟩
 | d+1=>⟨k8 l (xh l d),ABs l (xh l d),ABr l (xh l d)⟩

/-! What is so of them. -/
theorem low_agg {n:Nat} (e:Expr):Low n (.agg [.v (.int .i64 e.op),.v (sv e.text),.v (.int .i64 e.val.kind),.v (.int .i64 e.val.n),.v (sv e.val.s),.slice false 6 (e.kids.map Al)]):=by
 have:=Dg n e
 rwa [I7] at this
theorem Xb:∀(n:Nat) (e:Expr),okE n e→depthE e≤n
 | 0,_,h=>h.elim
 | n+1,e,h=>by
  rw [X4]
  have:∀l:List Expr,(∀y∈l,okE n y)→Eb l≤n:=by
   intro l
   induction l with
   | nil=>intro _;exact Ah _
   | cons y r ih =>
    intro hl
    rw [Eb]
    have h1:=Xb n y (hl y (by simp))
    have h2:=ih (fun z hz=>hl z (by simp [hz]))
    omega
  have:=this e.kids h.2.2
  omega
theorem si (e:Expr) (x:Nat):E6 (e.kids.take x)+1≤sizeE e:=by
 rw [I8]
 have:∀(l:List Expr) (x:Nat),E6 (l.take x)≤E6 l:=by
  intro l
  induction l with
  | nil=>intro x;simp
  | cons y r ih =>
   intro x
   cases x with
   | zero=>simp [E6]
   | succ x =>
    have:=ih x
    rw [List.take_succ_cons,E6,E6]
    omega
 have:=this e.kids x
 omega
theorem AHn:∀(n:Nat) (e:Expr),okE n e→n≤1048576→∀Hp:List AObj,AFun Tryz.prog 132 [Al e] Hp (A5 (depthE e:Nat)):=by
 intro n
 induction n with
 | zero=>exact fun e h=>h.elim
 | succ n ih =>
 intro e hok hn Hp
 refine Ae [.tmp 2] [0] Tryz.func132 Tryz.ntmps132 (fun d=>?_)
 refine Pp ?_;refine Z2 ?_;refine A0 [1,3] ?_;refine Z32 ?_;refine A0 [1,3,4] ?_
 refine Be (α:=Nat) (fun x=>⟨25,A4 1 (.ro (Hh e)) (A4 3 (A5 (Eb (e.kids.take x):Nat)) (A4 4 (A5 (x:Nat)) (fun _=>.any))),Hp,[],[],none⟩) (fun x=>x≤e.kids.length) (fun x=>e.kids.length-x) (0) (Ah _) (B0 (by simp [Eb])) rfl (fun x hx=>?_)
 refine M2 ?_;refine A0 [1,3,4,10] ?_
 refine A1 (fun ht10=>?_) (fun ht10=>?_)
 ·have hlt:x<e.kids.length:=by simpa using ht10
  have hkl:=hok.2.1
  refine Ue ?_
  refine A2 (h:=A9 (x) (Al e.kids[x]) (fun _=>Ak hlt)) (hr:=?_)
  refine A2 ?_;refine A6 Tryz.call132 (ih e.kids[x] (hok.2.2 _ (Az hlt)) (by omega) _) ?_;refine A2 ?_;refine A0 [1,3,4,5] ?_;refine Z18 ?_;refine A0 [1,3,4,5,21] ?_
  refine A1 (fun ht21=>?_) (fun ht21=>?_)
  ·have em:Eb (e.kids.take (x+1))=depthE e.kids[x]:=by rw [S3 _ hlt];have:=of_decide_eq_true ht21;omega
   refine Z31 ?_;refine A0 [1,3,4] ?_;refine Z88 ?_;exact AD9
  have em:Eb (e.kids.take (x+1))=Eb (e.kids.take x):=by rw [S3 _ hlt];have:=of_decide_eq_false ht21;omega
  refine Z79 ?_;exact AD9
 have hd1:=Xb _ e hok
 have hxe:e.kids.take x=e.kids:=D5 (by simp at ht10;omega)
 have hdd:=X4 e
 refine Z47 ?_;refine Z2 ?_
 rw [hxe]
 refine Z56 ?_;exact A7 (Ai A3) ⟨by rw [hdd];rfl,rfl⟩

theorem AHo:∀(n:Nat) (e:Expr),okE n e→sizeE e≤1048576→∀Hp:List AObj,AFun Tryz.prog 133 [Al e] Hp (A5 (sizeE e:Nat)):=by
 intro n
 induction n with
 | zero=>exact fun e h=>h.elim
 | succ n ih =>
 intro e hok hn Hp
 refine Ae [.tmp 2] [0] Tryz.func133 Tryz.ntmps133 (fun d=>?_)
 refine Pp ?_;refine Z2 ?_;refine A0 [1,3] ?_;refine Z32 ?_;refine A0 [1,3,4] ?_
 refine Be (α:=Nat) (fun x=>⟨21,A4 1 (.ro (Hh e)) (A4 3 (A5 ((E6 (e.kids.take x):Nat)+1)) (A4 4 (A5 (x:Nat)) (fun _=>.any))),Hp,[],[],none⟩) (fun x=>x≤e.kids.length) (fun x=>e.kids.length-x) (0) (Ah _) (B0 (by simp [E6])) rfl (fun x hx=>?_)
 refine M2 ?_;refine A0 [1,3,4,9] ?_
 refine A1 (fun ht9=>?_) (fun ht9=>?_)
 ·have hlt:x<e.kids.length:=by simpa using ht9
  have hkl:=hok.2.1
  have hs1:=i7 e.kids hlt
  have hs2:=si e (x+1)
  refine Z44 ?_;refine Z31 ?_;refine Z0 ?_
  refine A2 (h:=A9 (x) (Al e.kids[x]) (fun _=>Ak hlt)) (hr:=?_)
  refine A2 ?_
  refine A6 Tryz.call133 (ih e.kids[x] (hok.2.2 _ (Az hlt)) (by have:=bp e hlt;omega) _) ?_
  refine Z0 ?_;refine A0 [1,3,4] ?_;refine Z88 ?_;refine A0 [1,3,4] ?_;exact As (x+1) hlt (by omega) (Bk (by simp only [hs1];congr 4;simp only [AV.v.injEq,Value.int.injEq,true_and];omega))
 have hxe:e.kids.take x=e.kids:=D5 (by simp at ht9;omega)
 have hdd:=I8 e
 refine Z47 ?_;refine Z1 ?_;refine Z4 ?_;exact A7 (Ai A3) ⟨by rw [hxe,hdd];simp;omega,rfl⟩

def Rg (s:Str):Int:=if (((s==[108,101,110]) || (s==[115,116,114])) || (s==[110,117,109])) || (s==[105,115,110,117,108,108]) then 1 else if ((s==[110,118,108]) || (s==[108,101,102,116])) || (s==[114,105,103,104,116]) then 2 else if s==[105,102] then 3 else -1
theorem mt (s:Str):C5 s=Rg s:=by
 by_cases h:s∈arityList.map (·.1)
 ·have:((arityList.map (·.1)).all fun s=>decide (C5 s=Rg s))=true:=by kernel_rfl
  exact of_decide_eq_true (B9.1 this s h)
 have h1:C5 s = -1:=by
  unfold C5
  rw [Og.2 fun p hp=>by
   simp only [beq_iff_eq]
   rintro rfl
   exact h (Db.2 ⟨p,hp,rfl⟩)]
 rw [h1]
 simp only [arityList,Cw,Fc,C2,Js,or_false,not_or] at h
 obtain ⟨a1,a2,a3,a4,a5,a6,a7,a8⟩:=h
 simp [Rg,a1,a2,a3,a4,a5,a6,a7,a8]
theorem AFu (s:Str) (Hp:List AObj):AFun Tryz.prog 165 [Ax s] Hp (A5 (Rg s)):=by
 refine Ae [.tmp 2] [0] Tryz.func165 Tryz.ntmps165 (fun d=>?_)
 refine Z49 ?_;refine Z32 ?_;refine A0 [3] ?_;refine Ii ?_;refine Z8 ?_;refine A0 [3,4] ?_
 refine A1 (fun ht4=>?_) (fun ht4=>?_)
 ·refine Z3 ?_
  refine A1 (fun ht4=>?_) (fun ht4=>?_)
  ·exact Z73
  refine Z8 ?_;refine A0 [3,9] ?_
  refine A1 (fun ht9=>?_) (fun ht9=>?_)
  ·refine Z3 ?_
   refine A1 (fun ht9=>?_) (fun ht9=>?_)
   ·exact Z73
   refine Sh ?_
   refine A1 (fun ht13=>?_) (fun ht13=>?_)
   ·exact Z73
   exact Si
  refine Z1 ?_;refine A0 [3,9] ?_
  refine A1 (fun ht9=>?_) (fun ht9=>?_)
  ·refine Z3 ?_
   refine A1 (fun ht9=>?_) (fun ht9=>?_)
   ·exact Z73
   refine Sh ?_
   refine A1 (fun ht13=>?_) (fun ht13=>?_)
   ·exact Z73
   exact Si
  refine Z31 ?_;refine wo ?_
  refine A1 (fun ht9=>?_) (fun ht9=>?_)
  ·exact Z73
  refine Sh ?_
  refine A1 (fun ht13=>?_) (fun ht13=>?_)
  ·exact Z73
  exact Si
 refine Z1 ?_;refine A0 [3,4] ?_
 refine A1 (fun ht4=>?_) (fun ht4=>?_)
 ·refine Z3 ?_
  refine A1 (fun ht4=>?_) (fun ht4=>?_)
  ·exact Z73
  refine Z8 ?_;refine A0 [3,9] ?_
  refine A1 (fun ht9=>?_) (fun ht9=>?_)
  ·refine Z3 ?_
   refine A1 (fun ht9=>?_) (fun ht9=>?_)
   ·exact Z73
   refine Sh ?_
   refine A1 (fun ht13=>?_) (fun ht13=>?_)
   ·exact Z73
   exact Si
  refine Z1 ?_;refine A0 [3,9] ?_
  refine A1 (fun ht9=>?_) (fun ht9=>?_)
  ·refine Z3 ?_
   refine A1 (fun ht9=>?_) (fun ht9=>?_)
   ·exact Z73
   refine Sh ?_
   refine A1 (fun ht13=>?_) (fun ht13=>?_)
   ·exact Z73
   exact Si
  refine Z31 ?_;refine wo ?_
  refine A1 (fun ht9=>?_) (fun ht9=>?_)
  ·exact Z73
  refine Sh ?_
  refine A1 (fun ht13=>?_) (fun ht13=>?_)
  ·exact Z73
  exact Si
 refine Z1 ?_;refine A0 [3,4] ?_
 refine A1 (fun ht4=>?_) (fun ht4=>?_)
 ·refine Z3 ?_
  refine A1 (fun ht4=>?_) (fun ht4=>?_)
  ·exact Z73
  refine Z8 ?_;refine A0 [3,9] ?_
  refine A1 (fun ht9=>?_) (fun ht9=>?_)
  ·refine Z3 ?_
   refine A1 (fun ht9=>?_) (fun ht9=>?_)
   ·exact Z73
   refine Sh ?_
   refine A1 (fun ht13=>?_) (fun ht13=>?_)
   ·exact Z73
   exact Si
  refine Z1 ?_;refine A0 [3,9] ?_
  refine A1 (fun ht9=>?_) (fun ht9=>?_)
  ·refine Z3 ?_
   refine A1 (fun ht9=>?_) (fun ht9=>?_)
   ·exact Z73
   refine Sh ?_
   refine A1 (fun ht13=>?_) (fun ht13=>?_)
   ·exact Z73
   exact Si
  refine Z31 ?_;refine wo ?_
  refine A1 (fun ht9=>?_) (fun ht9=>?_)
  ·exact Z73
  refine Sh ?_
  refine A1 (fun ht13=>?_) (fun ht13=>?_)
  ·exact Z73
  exact Si
 refine Z31 ?_;refine A0 [3,4] ?_;refine Dk ?_
 refine A1 (fun ht4=>?_) (fun ht4=>?_)
 ·exact Z73
 refine Z8 ?_;refine A0 [3,9] ?_
 refine A1 (fun ht9=>?_) (fun ht9=>?_)
 ·refine Z3 ?_
  refine A1 (fun ht9=>?_) (fun ht9=>?_)
  ·exact Z73
  refine Sh ?_
  refine A1 (fun ht13=>?_) (fun ht13=>?_)
  ·exact Z73
  exact Si
 refine Z1 ?_;refine A0 [3,9] ?_
 refine A1 (fun ht9=>?_) (fun ht9=>?_)
 ·refine Z3 ?_
  refine A1 (fun ht9=>?_) (fun ht9=>?_)
  ·exact Z73
  refine Sh ?_
  refine A1 (fun ht13=>?_) (fun ht13=>?_)
  ·exact Z73
  exact Si
 refine Z31 ?_;refine wo ?_
 refine A1 (fun ht9=>?_) (fun ht9=>?_)
 ·exact Z73
 refine Sh ?_
 refine A1 (fun ht13=>?_) (fun ht13=>?_)
 ·exact Z73
 exact Si

theorem sj {s:Str} {x:Nat} (hx:x<levels.length) (h:levels[x].contains s=true) (h0:∀(j:Nat) (l:List Str),j<x→levels[j]? = some l→l.contains s=false):D4 s=(x:Int):=by
 unfold D4
 rw [Hj.2 ⟨hx,h,fun j hj=>by
  have e:=h0 j levels[j] hj (Aa _)
  show ¬(levels[j].contains s=true)
  rw [e]
  simp⟩]
theorem sk {s:Str} (h0:∀(j:Nat) (l:List Str),j<levels.length→levels[j]? = some l→l.contains s=false):D4 s = -1:=by
 unfold D4
 rw [Oh.2 fun l hl=>by
  obtain ⟨j,hj⟩:=Ca hl
  exact h0 j l (Ac.1 hj).1 hj]
theorem ir:levels.length=6:=rfl
theorem Zc {x:Nat} (hx:x<levels.length):levels[x].length≤6:=by
 have:(levels.all fun l=>decide (l.length≤6))=true:=by kernel_rfl
 exact of_decide_eq_true (B9.1 this _ (Az hx))
theorem Wo {l:List Str} {s:Str} (h:∀(j:Nat) (w:Str),j<l.length→l[j]? = some w→(w==s)=false):l.contains s=false:=by
 rw [Gw]
 intro hc
 have hm:s∈l:=by simpa using hc
 obtain ⟨j,hj⟩:=Ca hm
 have:=h j s (Ac.1 hj).1 hj
 simp at this
theorem c85 (s:Str) (Hp:List AObj):AFun Tryz.prog 85 [Ax s] Hp (A5 (D4 s)):=by
 refine Ae [.tmp 2] [0] Tryz.func85 Tryz.ntmps85 (fun d=>?_)
 refine Z49 ?_;refine Z86 ?_;refine AB8 ?_;refine AB8 ?_;refine AB8 ?_;refine Ge ?_;refine M3 ?_;refine Z32 ?_;refine A0 [0,3,4] ?_
 refine Be (α:=Nat) (fun x=>⟨38,A4 0 (Ax s) (A4 3 (.slice true 1 (levels.map Ew)) (A4 4 (A5 (x:Nat)) (fun _=>.any))),Hp,[],[],none⟩) (fun x=>x≤levels.length∧∀(j:Nat) (l:List Str),j<x→levels[j]? = some l→l.contains s=false) (fun x=>levels.length-x) (0) ⟨Ah _,fun j l h=>by omega⟩ (Fs _) rfl (fun x hx=>?_)
 refine Z76 ?_;refine A0 [0,3,4,16] ?_
 refine A1 (fun ht16=>?_) (fun ht16=>?_)
 ·have hlt:x<levels.length:=by simpa using ht16
  have h6:=ir
  have hls:=Zc hlt
  refine Z44 ?_;refine Z2 ?_;refine A0 [0,3,4,5] ?_
  refine Be (α:=Nat) (fun y=>⟨38,A4 0 (Ax s) (A4 3 (.slice true 1 (levels.map Ew)) (A4 4 (A5 (x:Nat)) (A4 5 (A5 (y:Nat)) (fun _=>.any)))),Hp,[],[],none⟩) (fun y=>y≤levels[x].length∧∀(j:Nat) (w:Str),j<y→levels[x][j]? = some w→(w==s)=false) (fun y=>levels[x].length-y) (0) ⟨Ah _,fun j l h=>by omega⟩ (Fs _) rfl (fun y hy=>?_)
  refine Z27 ?_
  refine A2 (h:=A9 (x) (Ew levels[x]) (fun _=>Ak hlt)) (hr:=?_)
  refine Z13 ?_;refine A0 [0,3,4,5,25] ?_
  refine A1 (fun ht25=>?_) (fun ht25=>?_)
  ·have hly:y<levels[x].length:=by simpa using ht25
   refine Qw ?_
   refine A2 (h:=A9 (x) (Ew levels[x]) (fun _=>Ak hlt)) (hr:=?_)
   refine Z0 ?_
   refine A2 (h:=A9 (y) (Ax (levels[x])[y]) (fun _=>Ak hly)) (hr:=?_)
   refine Z13 ?_;refine A0 [0,3,4,5,36] ?_
   refine A1 (fun ht36=>?_) (fun ht36=>?_)
   ·refine Z1 ?_;refine Z4 ?_;refine Z35 ?_;refine Z41 ?_;exact A7 (Ai A3) ⟨by rw [sj hlt (by simp only [List.contains_iff_mem];have:=ht36;simp only [beq_iff_eq] at this;rw [←this];exact Az hly) hx.2],rfl⟩
   refine Z79 ?_;refine A0 [0,3,4,5] ?_;exact As (y+1) ⟨hly,Bs hly hy.2 ht36⟩ (by omega) (Bk rfl)
  have hny:levels[x].length≤y:=by simpa using ht25
  refine Z38 ?_;refine K.lpE ?_;refine Z88 ?_;refine A0 [0,3,4] ?_;exact As (x+1) ⟨hlt,Bs hlt hx.2 (Wo fun j w hj hw=>hy.2 j w (by omega) hw)⟩ (by omega) (Bk rfl)
 have hnx:levels.length≤x:=by simpa using ht16
 refine Z47 ?_;refine Z33 ?_;exact A7 (Ai A3) ⟨by rw [sk (fun j l hj h=>hx.2 j l (by omega) h)],rfl⟩

theorem AHp (e:Expr) (hs:e.text.length≤1048576) (Hp:List AObj):AFun Tryz.prog 150 [Al e] Hp (Ar (Gf e)):=by
 refine Ae [.tmp 2] [0] Tryz.func150 Tryz.ntmps150 (fun d=>?_)
 refine Pp ?_;refine Z39 ?_;refine A0 [1,3] ?_;refine Z27 ?_;refine A0 [1,3,9] ?_
 refine A1 (fun ht9=>?_) (fun ht9=>?_)
 ·refine Z1 ?_;refine A6 Tryz.call40 (c40 e.val _) ?_;refine A2 ?_;refine Ot ?_;refine Z29 ?_;refine Qv ?_;refine Z56 ?_;exact ADc
 refine Mt ?_;refine me ?_
 refine A2 (h:=Q.neqAgg Sn (Gs e.val.kind e.val.n 0 0 e.val.s [])) (hr:=?_)
 refine A0 [1,3,31] ?_
 refine A1 (fun ht31=>?_) (fun ht31=>?_)
 ·refine Z33 ?_;exact ADc
 refine Mt ?_;refine A0 [1,3,33] ?_;refine Z95 ?_;refine A0 [1,3,33,34] ?_
 refine A1 (fun ht34=>?_) (fun ht34=>?_)
 ·refine Z1 ?_;refine A6 Tryz.call58 (c58 e.text hs _) ?_;refine A2 ?_;refine Z10 ?_;exact qj
 refine Z8 ?_;refine A0 [1,3,33,43] ?_
 refine A1 (fun ht43=>?_) (fun ht43=>?_)
 ·refine Z3 ?_
  refine A1 (fun ht43=>?_) (fun ht43=>?_)
  ·refine Yn ?_;exact qj
  refine Z1 ?_;refine A0 [1,3,33,53] ?_
  refine A1 (fun ht53=>?_) (fun ht53=>?_)
  ·refine Z1 ?_;refine A6 Tryz.call85 (c85 e.text _) ?_;refine Z29 ?_;exact qj
  refine Z1 ?_;refine A0 [1,3,63] ?_
  refine A1 (fun ht63=>?_) (fun ht63=>?_)
  ·refine Z1 ?_;refine A6 Tryz.call165 (AFu e.text _) ?_;refine Z13 ?_;refine Z4 ?_;exact Z64
  refine Z19 ?_;exact ADe
 refine Z31 ?_;refine A0 [1,3,33,43] ?_;refine Dk ?_
 refine A1 (fun ht43=>?_) (fun ht43=>?_)
 ·refine Yn ?_;exact qj
 refine Z1 ?_;refine A0 [1,3,33,53] ?_
 refine A1 (fun ht53=>?_) (fun ht53=>?_)
 ·refine Z1 ?_;refine A6 Tryz.call85 (c85 e.text _) ?_;refine Z29 ?_;exact qj
 refine Z1 ?_;refine A0 [1,3,63] ?_
 refine A1 (fun ht63=>?_) (fun ht63=>?_)
 ·refine Z1 ?_;refine A6 Tryz.call165 (AFu e.text _) ?_;refine Z13 ?_;refine Z4 ?_;exact Z64
 refine Z19 ?_;exact ADe

theorem AHq:∀(n:Nat) (e:Expr),okE n e→∀Hp:List AObj,AFun Tryz.prog 134 [Al e] Hp (Ar (E4 Gf e)):=by
 intro n
 induction n with
 | zero=>exact fun e h=>h.elim
 | succ n ih =>
 intro e hok Hp
 refine Ae [.tmp 2] [0] Tryz.func134 Tryz.ntmps134 (fun d=>?_)
 refine Pp ?_;refine Z32 ?_;refine A6 Tryz.call150 (AHp e hok.1 _) ?_;refine A2 ?_;refine A0 [1,6] ?_
 refine A1 (fun ht6=>?_) (fun ht6=>?_)
 ·refine Z33 ?_;refine C4 ?_;exact A7 (Ai A3) ⟨by rw [Hb];simp at ht6;rw [ht6];rfl,rfl⟩
 refine Pq ?_;refine A0 [1,3] ?_
 refine Be (α:=Nat) (fun x=>⟨21,A4 1 (.ro (Hh e)) (A4 3 (A5 (x:Nat)) (fun _=>.any)),Hp,[],[],none⟩) (fun x=>x≤e.kids.length∧Ha Gf (e.kids.take x)=true) (fun x=>e.kids.length-x) (0) ⟨Ah _,rfl⟩ (Fs _) rfl (fun x hx=>?_)
 refine M2 ?_;refine A0 [1,3,11] ?_
 refine A1 (fun ht11=>?_) (fun ht11=>?_)
 ·have hlt:x<e.kids.length:=by simpa using ht11
  have hkl:=hok.2.1
  refine Ue ?_
  refine A2 (h:=A9 (x) (Al e.kids[x]) (fun _=>Ak hlt)) (hr:=?_)
  refine A2 ?_;refine A6 Tryz.call134 (ih e.kids[x] (hok.2.2 _ (Az hlt)) _) ?_;refine A2 ?_;refine A0 [1,3,20] ?_
  refine A1 (fun ht20=>?_) (fun ht20=>?_)
  ·refine Ym ?_;exact A7 (Ai A3) ⟨by rw [show E4 Gf e=false from by rw [Gw];intro h;rw [Hb,Ap] at h;have:=(E7 _ _).1 h.2 _ (Az hlt);rw [this] at ht20;cases ht20],rfl⟩
  refine Z79 ?_;refine A0 [1,3] ?_;exact As (x+1) ⟨hlt,by rw [Gp hlt,S2,hx.2,Ha,Ha,Qg,B5];simpa using ht20⟩ (by omega) (Bk rfl)
 have hxe:e.kids.take x=e.kids:=D5 (by simp at ht11;omega)
 refine Z47 ?_;refine Z33 ?_;exact A7 (Ai A3) ⟨by have:=hx.2;rw [hxe] at this;rw [Hb,this];simp at ht6;rw [ht6];rfl,rfl⟩

theorem sm (e:Expr):E4 Gf e=E4 Do e:=by rw [show Do=Gf from funext Uz]
theorem AFv (n:Nat) (e:Expr) (hok:okE n e) (hn:n≤1048576) (hs:sizeE e≤1048576) (Hp:List AObj):AFun Tryz.prog 106 [Al e] Hp (Ar (Dr e)):=by
 refine Ae [.tmp 2] [0] Tryz.func106 Tryz.ntmps106 (fun d=>?_)
 refine Pp ?_;refine Z2 ?_;refine A6 Tryz.call132 (AHn n e hok hn _) ?_;refine gb ?_;refine Bj Tryz.call133 (fun hB=>AHo n e hok hs _) ?_;refine mc ?_;refine Bj Tryz.call134 (fun hB=>AHq n e hok _) ?_;refine Z56 ?_;exact A7 (Ai A3) ⟨by rw [Dr,sm,show decide ((depthE e:Int)≤30)=decide (depthE e≤30) by rw [decide_eq_decide];omega,show decide ((sizeE e:Int)≤300)=decide (sizeE e≤300) by rw [decide_eq_decide];omega],rfl⟩

set_option maxRecDepth 8000
abbrev TK:=Int×Str
/-- What stands from word i on. -/
def seg (l:List Tok) (i:Nat):List TK:=(l.drop i).map ktT
theorem cg (s:Str):s∈levels.flatten∨(D4 s = -1∧∀l∈levels,l.contains s=false):=by
 by_cases h:s∈levels.flatten
 ·exact .inl h
 have h2:∀l∈levels,l.contains s=false:=fun l hl=>by
  rw [Gw]
  intro h3
  exact h (List.mem_flatten.2 ⟨l,hl,by simpa using h3⟩)
 refine .inr ⟨?_,h2⟩
 unfold D4
 rw [Oh.2 fun l hl=>h2 l hl]
/-- The texts of levels of marks. -/
def ofL (k:Nat):Str:=if k=0 then orT else if k=1 then AFr else if k=3 then AFs else if k=4 then AFt else AA9
/-- A row of words behind which no mark of a level, or of a tighter one, stands. -/
def so (k:Nat) (rest:List TK):Prop:=∀h r,rest=h::r→((h.1==5) || (h.1==2))=true→D4 h.2<(k:Int)∧h.2≠[40]
def AHr:Str:=[110,111,116]
def sq (e:Expr):Nat:=if e.op==4 then 2 else if e.op==3 then 6 else if e.op==5 then (D4 e.text).toNat else 7
def xi (least:Nat) (x:Expr) (T:List TK):List TK:=if least≤sq x then T else (5,[40])::(T++[(5,[41])])
def xj (least:Nat) (x:Expr) (n:Nat):Nat:=if least≤sq x then n else n+1
def sr (own:Nat):Nat:=if own=3 then 4 else own
def ABt (v:Val):TK:=if v.kind==1 then (3,gu v) else if v.kind==2 then (4,v.s) else (2,gu v)
def AFw (t:Str):TK:=(if G8 (t.headD 0) then 2 else 5,t)
def AFx:List (List TK)→List TK
 | []=>[]
 | T::r=>(5,[44])::(T++AFx r)
def AFy (o:Int) (t:Str) (v:Val) (k:List Expr) (ts:List (List TK)):List TK:=
 if o==1 then [ABt v] else if o==2 then [(1,t)]
 else if o==3 then (5,[45])::xi 6 (k.getD 0 Af) (ts.getD 0 [])
 else if o==4 then (2,AHr)::xi 2 (k.getD 0 Af) (ts.getD 0 [])
 else if o==5 then xi (sr (D4 t).toNat) (k.getD 0 Af) (ts.getD 0 [])++AFw t::xi ((D4 t).toNat+1) (k.getD 1 Af) (ts.getD 1 [])
 else (1,t)::(5,[40])::((AFx ts).drop 1++[(5,[41])])
mutual
def V4:Expr→List TK
 | .mk o t v k=>AFy o t v k (AAd k)
def AAd:List Expr→List (List TK)
  | []=>[]
  | e::r=>V4 e::AAd r
 end
def AFz:List Nat→Nat
 | []=>0
 | n::r=>max n (AFz r)
def AG0 (o:Int) (t:Str) (k:List Expr) (ns:List Nat):Nat:=
 if o==1 then 0 else if o==2 then 0
 else if o==3 then 1+xj 6 (k.getD 0 Af) (ns.getD 0 0)
 else if o==4 then 1+xj 2 (k.getD 0 Af) (ns.getD 0 0)
 else if o==5 then max (xj (sr (D4 t).toNat) (k.getD 0 Af) (ns.getD 0 0)) (xj ((D4 t).toNat+1) (k.getD 1 Af) (ns.getD 1 0))
 else 1+AFz ns
mutual
def k9:Expr→Nat
 | .mk o t v k=>AG0 o t k (AAe k)
def AAe:List Expr→List Nat
  | []=>[]
  | e::r=>k9 e::AAe r
 end
theorem xk {v:Val} (h:Kr v=true):v=noV:=by
 unfold Kr at h
 simp only [Ap,beq_iff_eq] at h
 cases v
 simp_all [noV]
/-- What a right node is. -/
inductive NodeC:Expr→Prop
 | val (v:Val) (h:C8 v=true) (h0:0≤v.n):NodeC (iq v)
 | name (t:Str) (h:Ko t=true):NodeC (Dt t)
 | neg (a:Expr):NodeC (Wm 3 a)
 | no (a:Expr):NodeC (Wm 4 a)
 | bin (t:Str) (a b:Expr) (h:0≤D4 t):NodeC (Za t a b)
 | call (t:Str) (k:List Expr) (h:C5 t=(k.length:Int)):NodeC (.mk 6 t noV k)
theorem V5 (o:Int) (t:Str) (v:Val) (k:List Expr):Gf (.mk o t v k) =
 if o==1 then ((C8 v&&decide (0≤v.n))&&(t==[]))&&((k.length:Int)==0)
 else if !(Kr v) then false
 else if o==2 then Ko t&&((k.length:Int)==0)
 else if o==3 || o==4 then (t==[])&&((k.length:Int)==1)
 else if o==5 then decide (0≤D4 t)&&((k.length:Int)==2)
 else if o==6 then C5 t==(k.length:Int)
 else false:=rfl
theorem Lm {e:Expr} (h:Do e=true):NodeC e:=by
 rw [Uz] at h
 cases e with
 | mk o t v k =>
 rw [V5] at h
 by_cases h1:(o==1)=true
 ·rw [if_pos h1] at h
  simp only [Ap,beq_iff_eq,decide_eq_true_eq] at h h1
  obtain ⟨⟨⟨a1,a2⟩,a3⟩,a4⟩:=h
  subst h1
  subst a3
  have:k=[]:=by cases k with|nil=>rfl|cons x r=>simp at a4;omega
  subst this
  exact .val v a1 a2
 rw [if_neg h1] at h
 by_cases hb:(!(Kr v))=true
 ·rw [if_pos hb] at h;cases h
 rw [if_neg hb] at h
 have hv:v=noV:=xk (by simpa using hb)
 subst hv
 by_cases h2:(o==2)=true
 ·rw [if_pos h2] at h
  simp only [Ap,beq_iff_eq] at h h2
  subst h2
  have:k=[]:=by cases k with|nil=>rfl|cons x r=>have:=h.2;simp at this;omega
  subst this
  exact .name t h.1
 rw [if_neg h2] at h
 by_cases h3:(o==3 || o==4)=true
 ·rw [if_pos h3] at h
  simp only [Ap,Cu,beq_iff_eq] at h h3
  obtain ⟨rfl,h4⟩:=h
  match k,h4 with
  | [a],_ =>
   rcases h3 with rfl|rfl
   ·exact .neg a
   exact .no a
  | [],h4=>simp at h4
  | _::_::_,h4=>simp at h4;omega
 rw [if_neg h3] at h
 by_cases h5:(o==5)=true
 ·rw [if_pos h5] at h
  simp only [Ap,beq_iff_eq,decide_eq_true_eq] at h h5
  subst h5
  match k,h.2 with
  | [a,b],_=>exact .bin t a b h.1
  | [],h4=>simp at h4
  | [_],h4=>simp at h4
  | _::_::_::_,h4=>simp at h4;omega
 rw [if_neg h5] at h
 by_cases h6:(o==6)=true
 ·rw [if_pos h6] at h
  simp only [beq_iff_eq] at h h6
  subst h6
  exact .call t k h
 rw [if_neg h6] at h;cases h
/-- The functions of the levels. -/
def pf (l:List Tok) (D:Fam):Nat→PS→Expr×PS
 | 0=>k8 l D
 | 1=>AAc l D
 | 2=>ABs l D
 | 3=>cf l D
 | 4=>Wn l D
 | 5=>AAb l D
 | 6=>ABr l D
 | _=>AAa l D
abbrev fam (l:List Tok) (n:Nat):Fam:=xh l (30-n)
def adv (S:PS) (n:Nat):PS:=⟨S.i+n,S.nest,S.code,S.at_⟩
def T1 (l:List Tok) (x:Expr):Prop:=∀(k:Nat) (S:PS) (rest:List TK),k≤sq x→S.code=0→S.nest+k9 x≤30→seg l S.i=V4 x++rest→so k rest→pf l (fam l S.nest) k S=(x,adv S (V4 x).length)
def T2 (l:List Tok) (x:Expr):Prop:=∀(k:Nat) (S:PS) (rest:List TK),(k=0∨k=1∨k=4∨k=5)→k≤sq x→S.code=0→S.nest+k9 x≤30→seg l S.i=V4 x++rest→so (k+1) rest →
 ∃n,l.length≤S.i+(V4 x).length+n∧Xa l (ofL k) (pf l (fam l S.nest) (k+1)) S=sh l (ofL k) (pf l (fam l S.nest) (k+1)) n (x,adv S (V4 x).length)
theorem mu {e:Expr} {n:Nat} (h:sizeE e≤n+1) {y:Expr} (hy:y∈e.kids):sizeE y≤n:=by
 rw [I8] at h
 obtain ⟨i,hi,rfl⟩:=Xw hy
 have:=R8 e.kids hi
 omega
/-! The parser from a word on, and of a source. -/
set_option maxRecDepth 4000
theorem Wp {α:Type} {a b:List α} (hl:a.length=b.length) (h:∀(j:Nat) (y:α),j<a.length→a[j]? = some y→b[j]? = some y):a=b:=by
 apply ep hl
 intro j h1 h2
 have:=h j a[j] h1 (Aa h1)
 rw [Aa h2] at this
 injection this with this
 exact this.symm
theorem Np {n k:Nat} {o:Bool} {l:List Expr}:Low n (.slice o k (l.map Al)):=low_slice.2 fun y hy=>by
 obtain ⟨a,_,rfl⟩:=Db.1 hy
 exact Dg _ a
theorem mv {l:List Expr} {n f:Nat} (h0:l.isEmpty=false) (h:Oa l n=true):Gg f l n=true:=by
 cases f with
 | zero=>rw [Gg,h0];rfl
 | succ f=>rw [Gg,if_neg (by rw [h0];simp),if_pos h]
theorem xl {l:List Expr} {n y:Nat} (hy:y<l.length) (h:500<n+y+1∨Re l[y]=true):Oa l n=true:=by
 unfold Oa
 rcases h with h|h
 ·rw [decide_eq_true (by omega)];rfl
 rw [Ix.2 ⟨_,Az hy,h⟩,Eo]
theorem V6 {l:List Expr}:∀(y:Nat),y≤l.length→(∀(j:Nat) (e:Expr),j<y→l[j]? = some e→Re e=false)→((l.take y).flatMap Expr.kids).length≤100*y
 | 0,_,_=>by simp
 | y+1,hy,h=>by
  rw [Gp hy,List.flatMap_append,Aw]
  have h1:=V6 y (by omega) (fun j e hj he=>h j e (by omega) he)
  have h2:=Yy (h y l[y] (by omega) (Aa _))
  simp only [er,List.flatMap_nil,Iy]
  omega
structure WideAt (l0:List Expr) (x:List Expr×Nat×Nat):Prop where
 eq:Gg 61 l0 0=Gg x.2.2 x.1 x.2.1
 f:x.2.2≤61
 n:x.2.1≤500
theorem c30 (l0:List Expr) (Hp:List AObj):AFun Tryz.prog 30 [.slice false 6 (l0.map Al),A5 0] Hp (Ar (Gg 61 l0 0)):=by
 refine Ae [.tmp 4] [0,1] Tryz.func30 Tryz.ntmps30 (fun d=>?_)
 refine Z58 ?_;refine Z2 ?_;refine Sm ?_;refine K9 ?_
 refine Be (α:=List Expr×Nat×Nat) (fun x=>⟨67,A4 0 (.slice false 6 (x.1.map Al)) (A4 1 (A5 (61-(x.2.2:Int))) (A4 5 (A5 (x.2.1:Nat)) (fun _=>.any))),Hp,[],[],none⟩) (fun x=>WideAt l0 x) (fun x=>x.2.2) ((l0,0,61)) ⟨rfl,Ao _,Ah _⟩ (B0 (by simp)) rfl (fun x hx=>?_)
 refine Z27 ?_;refine A0 [0,1,5,10] ?_
 refine A1 (fun ht10=>?_) (fun ht10=>?_)
 ·have hpos:0<x.1.length:=by simpa using ht10
  have hne:x.1.isEmpty=false:=by cases hxx:x.1 with
   | nil=>rw [hxx] at hpos;simp at hpos
   | cons a r=>rfl
  have hxf:=hx.f
  refine Z3 ?_;refine Ii ?_;refine b9 ?_;refine A0 [0,1,5,6] ?_;refine Z32 ?_;refine A0 [0,1,5,6,7] ?_
  refine Be (α:=Nat) (fun y=>⟨67,A4 0 (.slice false 6 (x.1.map Al)) (A4 1 (A5 (61-(x.2.2:Int))) (A4 5 (A5 ((x.2.1+y:Nat):Int)) (A4 6 (.slice true 6 (((x.1.take y).flatMap Expr.kids).map Al)) (A4 7 (A5 (y:Nat)) (fun _=>.any))))),Hp,[],[],none⟩) (fun y=>y≤x.1.length∧x.2.1+y≤500∧∀(j:Nat) (e:Expr),j<y→x.1[j]? = some e→Re e=false) (fun y=>x.1.length-y) (0) ⟨Ah _,hx.n,fun j e h=>by omega⟩ (B0 (by simp)) rfl (fun y hy=>?_)
  refine Z76 ?_;refine A0 [0,1,5,6,7,15] ?_
  refine A1 (fun ht15=>?_) (fun ht15=>?_)
  ·have hlt:y<x.1.length:=by simpa using ht15
   have hyn:=hy.2.1
   refine Ue ?_;refine A0 [0,1,5,6,7] ?_;refine Z27 ?_;refine Z10 ?_
   refine B8 (h:=A9 (y) (Al x.1[y]) (fun _=>Ak hlt)) (hr:=?_)
   refine Ot ?_;refine Z29 ?_
   refine B8 (h:=A9 (y) (Al x.1[y]) (fun _=>Ak hlt)) (hr:=?_)
   refine Ot ?_;refine Qv ?_
   refine B8 (h:=A9 (y) (Al x.1[y]) (fun _=>Ak hlt)) (hr:=?_)
   refine Z10 ?_;refine Kl ?_;refine A0 [0,1,5,6,7,49] ?_
   refine A1 (fun ht49=>?_) (fun ht49=>?_)
   ·have hm:Oa x.1 x.2.1=true:=xl hlt (by
     simp only [Cu,decide_eq_true_eq,Am] at ht49
     unfold Re
     simp only [Cu,decide_eq_true_eq]
     omega)
    have hw:=mv (f:=x.2.2) hne hm
    refine Z71 ?_;refine C4 ?_;refine Z41 ?_;refine K.blR ?_;refine K.lpR ?_;exact ADw
   have hfat:Re x.1[y]=false∧x.2.1+y+1≤500:=by
    simp only [Cm,decide_eq_false_iff_not,Am] at ht49
    unfold Re
    simp only [Cm,decide_eq_false_iff_not]
    omega
   have hkl:=(Yy hfat.1).2.2
   have hfm:(x.1.take (y+1)).flatMap Expr.kids=(x.1.take y).flatMap Expr.kids++x.1[y].kids:=by rw [Gp hlt,List.flatMap_append];simp
   refine AB6 ?_;refine Z0 ?_
   refine A2 (h:=A9 (y) (Al x.1[y]) (fun _=>Ak hlt)) (hr:=?_)
   refine Z0 ?_
   refine Du jU Tryz.type53 ?_ ?_ ?_
   ·have h1:=V6 y hy.1 hy.2.2;have h2:=hkl;have h3:=hy.2.1;simp only [Am,Tryz.t53];omega
   ·have h1:=V6 y hy.1 hy.2.2;have h2:=hkl;have h3:=hy.2.1;simp only [Am,Tryz.t53];omega
   refine Ge ?_;refine A0 [0,1,5,6,7] ?_;refine Z88 ?_;refine A0 [0,1,5,6,7] ?_
   refine As (y+1) ⟨hlt,by omega,Bs hlt hy.2.2 hfat.1⟩ (by omega) (Bk ?_)
   rw [hfm,Cf]
   rfl
  have hye:x.1.take y=x.1:=D5 (by simp at ht15;omega)
  have hyl:y=x.1.length:=by have:=hy.1;simp at ht15;omega
  have hmany:Oa x.1 x.2.1=false:=by
   unfold Oa
   rw [decide_eq_false (by have:=hy.2.1;omega),Av,Iw]
   intro e he
   obtain ⟨j,hj⟩:=Ca he
   rw [hy.2.2 j e (by have:=(Ac.1 hj).1;omega) hj]
   simp
  refine Z47 ?_;refine Z8 ?_;refine Z29 ?_;refine A2 ?_;refine A0 [1,5,6,63] ?_
  refine A1 (fun ht63=>?_) (fun ht63=>?_)
  ·have hw:Gg x.2.2 x.1 x.2.1=true:=by
    have h9:=ht63
    rw [hye] at h9
    simp only [Cu,decide_eq_true_eq,Am] at h9
    cases hf:x.2.2 with
    | zero=>rw [Gg,hne];rfl
    | succ f =>
     rw [Gg,if_neg (by rw [hne];simp),if_neg (by rw [hmany];simp),if_pos (by rw [decide_eq_true_eq];omega)]
   refine Z71 ?_;refine C4 ?_;refine K.blR ?_;refine K.lpR ?_;exact ADw
  have h9:=ht63
  rw [hye] at h9
  simp only [Cm,decide_eq_false_iff_not,Am] at h9
  obtain ⟨f,hf⟩:∃f,x.2.2=f+1:=⟨x.2.2-1,by omega⟩
  have hw:Gg x.2.2 x.1 x.2.1=Gg f (x.1.flatMap Expr.kids) (x.2.1+x.1.length):=by
   rw [hf,Gg,if_neg (by rw [hne];simp),if_neg (by rw [hmany];simp),if_neg (by rw [decide_eq_true_eq];omega)]
  refine Z84 ?_;refine Sm ?_;refine Z28 ?_;refine Sm ?_;refine K.blN ?_
  refine As (x.1.flatMap Expr.kids,x.2.1+x.1.length,f) ⟨hx.eq.trans hw,by show f≤61;omega,by show x.2.1+x.1.length≤500;have:=hy.2.1;omega⟩ (by show f<x.2.2;omega) (Bk ?_)
  rw [hye,hyl]
  congr 4
  simp only [AV.v.injEq,Value.int.injEq,true_and]
  omega
 have hnil:x.1=[]:=by have:=ht10;simp at this;exact this
 refine Z47 ?_;refine Z71 ?_;exact A7 (Ai A3) ⟨by rw [hx.eq,hnil];cases x.2.2<;>rfl,rfl⟩

theorem c18 (e:Expr) (Hp:List AObj):AFun Tryz.prog 18 [Al e] Hp (Ar (V2 e)):=by
 refine Ae [.tmp 2] [0] Tryz.func18 Tryz.ntmps18 (fun d=>?_)
 refine Pp ?_;refine Z2 ?_;refine Ui ?_;refine A6 Tryz.call30 (c30 [e] _) ?_;refine A2 ?_;refine Z4 ?_;exact Yp

set_option maxRecDepth 8000
/-! What a tree comes to: eval's model. -/
abbrev Rs:=Val×Int
def Ck (e:Int):Rs:=(noV,e)
def P2 (s:Str):Val:=⟨2,0,s.take 200⟩
def Eg (x:Int×Int):Rs:=if x.2 != 0 then Ck x.2 else (⟨1,x.1,[]⟩,0)
def V7 (a b:Int):Int×Int:=if decide (Ry .i64 (Lw .i64 a (IntKind.i64.wrap (a+b))) (Lw .i64 b (IntKind.i64.wrap (a+b)))<0) then (0,4) else (IntKind.i64.wrap (a+b),0)
def In (a b:Int):Int×Int:=if decide (Ry .i64 (Lw .i64 a b) (Lw .i64 a (IntKind.i64.wrap (a-b)))<0) then (0,4) else (IntKind.i64.wrap (a-b),0)
def Ij (a:Int):Int:=if decide (a<0) then IntKind.u64.wrap (0-IntKind.u64.wrap a) else IntKind.u64.wrap a
def Bm:List Val→List Int→Bool
 | _,[]=>true
 | [],_::_=>false
 | v::vs,k::ks=>(v.kind==k)&&Bm vs ks
def H3 (a b:Val):Rs:=if !Bm [a,b] [2,2] then Ck 10 else if decide ((200:Int)<(a.s.length:Int)+(b.s.length:Int)) then Ck 3 else (P2 (a.s++b.s),0)
def B1 (r:Rs):Rs:=if (r.2==0)&&(r.1.kind != 0)&&(r.1.kind != 3) then Ck 10 else r
def F5 (strong:Val) (a b:Rs):Rs:=if ((B1 a).2 != 0) || ((B1 a).1==strong) then B1 a else if (((B1 b).2 != 0) || ((B1 b).1==strong)) || ((B1 a).1.kind != 0) then B1 b else ((B1 a).1,0)
def ifW:Str:=[105,102]
def M4:Str:=[110,118,108]
def Bu:Str:=[105,115,110,117,108,108]
def Dp (t:Str) (a b c:Rs):Rs:=
 if t==ifW then (if (B1 a).2 != 0 then Ck (B1 a).2 else if (B1 a).1==Dl true then b else c)
 else if a.2 != 0 then Ck a.2 else if t==Bu then (Dl (a.1.kind==0),0) else if a.1.kind != 0 then (a.1,0) else b
def Ga (strict:List Val→Rs) (l:List Rs):Rs:=match l.find? (fun q=>q.2 != 0) with|some q=>Ck q.2|none=>if l.any (fun q=>q.1.kind==0) then (noV,0) else strict (l.map (·.1))
def Od (c:List Col) (l:List Val) (t:Str):Rs:=if Bg t c<0 then Ck 9 else (l.getD (Bg t c).toNat noV,0)
def orW:Str:=[111,114]
def O1:Str:=[97,110,100]
/-- A node, of what its kids come to; what a strict node comes to is a parameter. -/
def He (strict:Int→Str→List Val→Rs) (c:List Col) (l:List Val) (o:Int) (t:Str) (v:Val) (ks:List Rs):Rs:=
 if o==1 then (v,0) else if o==2 then Od c l t
 else if (o==5)&&(t==orW) then F5 (Dl true) (ks.getD 0 (noV,0)) (ks.getD 1 (noV,0))
 else if (o==5)&&(t==O1) then F5 (Dl false) (ks.getD 0 (noV,0)) (ks.getD 1 (noV,0))
 else if (o==6)&&(((t==ifW) || (t==M4)) || (t==Bu)) then Dp t (ks.getD 0 (noV,0)) (ks.getD 1 (noV,0)) (ks.getD 2 (noV,0))
 else Ga (strict o t) ks
mutual
def Gb (strict:Int→Str→List Val→Rs) (c:List Col) (l:List Val):Expr→Rs
 | .mk o t v k=>He strict c l o t v (Xc strict c l k)
def Xc (strict:Int→Str→List Val→Rs) (c:List Col) (l:List Val):List Expr→List Rs
  | []=>[]
  | e::r=>Gb strict c l e::Xc strict c l r
 end
theorem Is (f:Int→Str→List Val→Rs) (c:List Col) (l:List Val):∀k,Xc f c l k=k.map (Gb f c l)
 | []=>rfl
 | e::r=>by rw [Xc,Is f c l r];rfl
theorem Q0 (f:Int→Str→List Val→Rs) (c:List Col) (l:List Val) (e:Expr):Gb f c l e=He f c l e.op e.text e.val (e.kids.map (Gb f c l)):=by cases e;rw [Gb,Is];rfl
def E8 (c:List Col) (l:List Val):Bool:=(Px c&&(l.length==c.length))&&(l.zip c).all fun p=>C8 p.1&&((p.1.kind==0) || (p.1.kind==p.2.kind))
/-- eval.Eval. -/
def ka (f:Int→Str→List Val→Rs) (x:Expr) (c:List Col) (l:List Val):Rs:=if (!(Bb x)) || !(E8 c l) then Ck 1 else Gb f c l x
/-! A tree in a column's place comes to what its value would there. -/
/-! Who is not named plays no part. -/
/-! What a strict node comes to. -/
def P3 (a b:Int):Int×Int:=
 let p:=Ij a*Ij b
 let below:=decide (a<0) != decide (b<0)
 if decide (0<p / 18446744073709551616) || decide ((if below then 9223372036854775808 else 9223372036854775807)<p % 18446744073709551616) then (0,4)
 else if below then (IntKind.i64.wrap (IntKind.u64.wrap (0-p % 18446744073709551616)),0) else (IntKind.i64.wrap (p % 18446744073709551616),0)
def So (a b:Int):Int×Int:=if b==0 then (0,5) else if (a == -9223372036854775808)&&(b == -1) then (0,4) else (IntKind.i64.wrap (a.tdiv b),0)
def P4 (a b:Int):Int×Int:=if b==0 then (0,5) else if b == -1 then (0,0) else (IntKind.i64.wrap (a.tmod b),0)
def E1 (t:Str) (a b:Int):Int×Int:=if t==[43] then V7 a b else if t==[45] then In a b else if t==[42] then P3 a b else if t==[47] then So a b else P4 a b
def Ea (t:Str) (c:Int):Bool×Bool:=if t==[61] then (c==0,true) else if t==[33,61] then (c != 0,true) else if t==[60] then (decide (c<0),true) else if t==[60,61] then (decide (c≤0),true) else if t==[62] then (decide (0<c),true) else if t==[62,61] then (decide (0≤c),true) else (false,false)
def Io (a b:Int):Int:=if decide (a<b) then -1 else if decide (b<a) then 1 else 0
def orI:List Int→Int
 | []=>0
 | a::r=>if a != 0 then a else orI r
def P5 (a b:Val):Int:=if (!(C8 a)) || !(C8 b) then 0 else orI [Io a.kind b.kind,Io a.n b.n,Lib.compareBytes a.s b.s]
def Gc (t:Str) (a b:Val):Rs:=if (Ea t (P5 a b)).2 then (if a.kind != b.kind then Ck 10 else (Dl (Ea t (P5 a b)).1,0)) else if t==[38] then H3 a b else if !Bm [a,b] [1,1] then Ck 10 else Eg (E1 t a.n b.n)
def Fk (t:Str) (v:Val):Rs:=if (t==[115,116,114])&&(v.kind==1) then (P2 (Lib.itoa v.n),0) else if (t==[108,101,110])&&(v.kind==2) then (⟨1,v.s.length,[]⟩,0) else if (t==[110,117,109])&&(v.kind==2) then Eg (Bx v.s) else Ck 10
def Ig (t:Str) (s:Str) (n:Int):Val:=if t==[108,101,102,116] then P2 (s.take (max 0 (min n s.length)).toNat) else P2 (s.drop (s.length-(max 0 (min n s.length)).toNat))
def Au (o:Int) (t:Str) (l:List Val):Rs:=
 if o==5 then Gc t (l.getD 0 noV) (l.getD 1 noV) else if (o==3)&&Bm l [1] then Eg (In 0 (l.getD 0 noV).n) else if (o==4)&&Bm l [3] then (Dl ((l.getD 0 noV).n==0),0)
 else if o != 6 then Ck 10 else if (l.length:Int)==1 then Fk t (l.getD 0 noV) else if !Bm l [2,1] then Ck 10 else (Ig t (l.getD 0 noV).s (l.getD 1 noV).n,0)
abbrev Ab (c:List Col) (l:List Val) (e:Expr):Rs:=Gb Au c l e
abbrev Dy (x:Expr) (c:List Col) (l:List Val):Rs:=ka Au x c l
/-! Values are plain, and their numbers have 64 bits. -/
structure Fine (v:Val):Prop where
 plain:C8 v=true
 lo : -9223372036854775808≤v.n
 hi:v.n≤9223372036854775807
theorem K4:Fine noV:=⟨rfl,by decide,by decide⟩
theorem Rh (b:Bool):Fine (Dl b):=by cases b<;>exact ⟨rfl,by decide,by decide⟩
theorem cj {n:Int} (h0 : -9223372036854775808≤n) (h1:n≤9223372036854775807):Fine ⟨1,n,[]⟩:=⟨rfl,h0,h1⟩
theorem V8 (s:Str):Fine (P2 s):=⟨by
 unfold C8 P2
 simp only [show ((2:Int)==0)=false from rfl,show ((2:Int)==1)=false from rfl,show ((2:Int)==2)=true from rfl,A8,if_false,if_true,show ((0:Int)==0)=true from rfl,B5,decide_eq_true_eq,Bt]
 omega,by show -9223372036854775808≤(0:Int);decide,by show (0:Int)≤9223372036854775807;decide⟩
theorem Fine.len {v:Val} (h:Fine v):v.s.length≤200:=by
 have h:=h.plain
 unfold C8 at h
 split at h
 ·simp only [Ap,beq_iff_eq] at h;rw [h.2];exact Ah _
 split at h
 ·rw [beq_iff_eq] at h;rw [h];exact Ah _
 split at h
 ·simp only [Ap,decide_eq_true_eq] at h;omega
 simp only [Ap,beq_iff_eq] at h;rw [h.1.1.2];exact Ah _
theorem P6 {x:Int×Int} (h0:x.2=0 → -9223372036854775808≤x.1) (h1:x.2=0→x.1≤9223372036854775807):Fine (Eg x).1:=by
 unfold Eg
 split
 ·exact K4
 rename_i h
 have h:x.2=0:=by simpa using h
 exact cj (h0 h) (h1 h)
theorem V9 (e:Int):Fine (Ck e).1:=K4
theorem I1 (n:Int) : -9223372036854775808≤IntKind.i64.wrap n∧IntKind.i64.wrap n≤9223372036854775807:=by rw [IntKind.wrap_i64];omega
theorem ss (a b:Int):Fine (Eg (In a b)).1:=by
 refine P6 (fun _=>?_) (fun _=>?_)<;>unfold In<;>split
 ·show -9223372036854775808≤(0:Int);decide
 ·exact (I1 _).1
 ·show (0:Int)≤9223372036854775807;decide
 exact (I1 _).2
theorem ck (t:Str) (a b:Int) : -9223372036854775808≤(E1 t a b).1∧(E1 t a b).1≤9223372036854775807:=by
 have z : -9223372036854775808≤(0:Int)∧(0:Int)≤9223372036854775807:=by decide
 unfold E1
 split
 ·unfold V7;split;exact z;exact I1 _
 split
 ·unfold In;split;exact z;exact I1 _
 split
 ·unfold P3
  simp only
  repeat' split
  all_goals first|exact z|exact I1 _
 split
 ·unfold So;split;exact z;split;exact z;exact I1 _
 unfold P4;split;exact z;split;exact z;exact I1 _
theorem su {t:Str} {a b:Val}:Fine (Gc t a b).1:=by
 unfold Gc
 split
 ·split
  ·exact Wg
  exact Rh _
 split
 ·unfold H3
  split
  ·exact Wg
  split
  ·exact Wg
  exact V8 _
 split
 ·exact Wg
 exact P6 (fun _=>(ck _ _ _).1) (fun _=>(ck _ _ _).2)
theorem sw (s:Str) : -9223372036854775808≤(Bx s).1∧(Bx s).1≤9223372036854775807:=by
 unfold Bx
 split
 ·decide
 split
 ·rename_i v h
  have:=Lib.parseIntB_bounds h
  simp only [show ((2 ^ (64-1):Nat):Int)=9223372036854775808 by decide] at this
  show -9223372036854775808≤v∧v≤9223372036854775807
  omega
 ·decide
 decide
theorem sx {t:Str} {v:Val} (h:Fine v):Fine (Fk t v).1:=by
 unfold Fk
 split
 ·exact V8 _
 split
 ·have:=h.len
  exact cj (by omega) (by omega)
 split
 ·exact P6 (fun _=>(sw _).1) (fun _=>(sw _).2)
 exact Wg
theorem cl {o:Int} {t:Str} {l:List Val} (h:∀v∈l,Fine v):Fine (Au o t l).1:=by
 have h0:Fine (l.getD 0 noV):=by cases l with|nil=>exact K4|cons a r=>exact h a Jr
 unfold Au
 split
 ·exact su
 split
 ·exact ss _ _
 split
 ·exact Rh _
 split
 ·exact Wg
 split
 ·exact sx h0
 split
 ·exact Wg
 unfold Ig
 split<;>exact V8 _
theorem P7 {r:Rs} (h:Fine r.1):Fine (B1 r).1:=by
 unfold B1
 split
 ·exact Wg
 exact h
theorem Va {s:Val} {a b:Rs} (ha:Fine a.1) (hb:Fine b.1):Fine (F5 s a b).1:=by
 unfold F5
 split
 ·exact P7 ha
 split
 ·exact P7 hb
 exact P7 ha
theorem mw {t:Str} {a b c:Rs} (ha:Fine a.1) (hb:Fine b.1) (hc:Fine c.1):Fine (Dp t a b c).1:=by
 unfold Dp
 repeat' split
 all_goals first|exact V9 _|exact hb|exact hc|exact ha|exact Rh _
theorem sy {f:List Val→Rs} {l:List Rs} (hf:∀k:List Val,(∀v∈k,Fine v)→Fine (f k).1) (h:∀r∈l,Fine r.1):Fine (Ga f l).1:=by
 unfold Ga
 split
 ·exact Wg
 split
 ·exact K4
 refine hf _ fun v hv=>?_
 obtain ⟨r,hr,rfl⟩:=Db.1 hv
 exact h r hr
theorem mx {c:List Col} {l:List Val} (h:∀v∈l,Fine v) (t:Str):Fine (Od c l t).1:=by
 unfold Od
 split
 ·exact Wg
 show Fine (l.getD _ noV)
 rw [Dd]
 cases hg:l[(Bg t c).toNat]? with
 | none=>exact K4
 | some v=>exact h v (Ay hg)
def Kv (e:Expr):Bool := !(e.op==1) || C8 e.val
theorem Hq {k:List Rs} (h:∀r∈k,Fine r.1) (i:Nat):Fine (k.getD i (noV,0)).1:=by
 rw [Dd]
 cases hg:k[i]? with
 | none=>exact K4
 | some r=>exact h r (Ay hg)
mutual
theorem Nq {c:List Col} {l:List Val} (h:∀v∈l,Fine v):∀e:Expr,E4 Kv e=true→E4 Jf e=true→Fine (Ab c l e).1
 | .mk o t v k,h1,h2=>by
  rw [E4,Ap] at h1 h2
  have hk:=Vb (c:=c) h k h1.2 h2.2
  rw [Ab,Gb]
  unfold He
  split
  ·rename_i ho
   have p:=h1.1
   unfold Kv at p
   rw [show (Expr.mk o t v k).op=o from rfl,ho] at p
   have q:=h2.1
   unfold Jf at q
   simp only [Ap,decide_eq_true_eq] at q
   exact ⟨by show C8 (Expr.mk o t v k).val=true;simpa using p,q.1,q.2⟩
  split
  ·exact mx h t
  split
  ·exact Va (Hq hk 0) (Hq hk 1)
  split
  ·exact Va (Hq hk 0) (Hq hk 1)
  split
  ·exact mw (Hq hk 0) (Hq hk 1) (Hq hk 2)
  exact sy (fun _ hl=>cl hl) hk
theorem Vb {c:List Col} {l:List Val} (h:∀v∈l,Fine v):∀k:List Expr,Ha Kv k=true→Ha Jf k=true→∀r∈Xc Au c l k,Fine r.1
  | [],_,_=>fun r hr=>by cases hr
  | e::k,h1,h2=>by
    rw [Ha,Ap] at h1 h2
    intro r hr
    rw [Xc] at hr
    rcases C2.1 hr with rfl|hr
    · exact Nq h e h1.1 h2.1
    exact Vb h k h1.2 h2.2 r hr
 end
/-! What the signs of bits tell. -/
theorem Vc (x:BitVec 64):IntKind.i64.wrap (x.toNat:Int)=x.toInt:=by
 rw [IntKind.wrap_i64,BitVec.toInt_eq_toNat_cond]
 have:=x.isLt
 split<;>omega
theorem Nr {m:Int} (h0 : -9223372036854775808≤m) (h1:m≤9223372036854775807):(BitVec.ofInt 64 m).msb=decide (m<0):=by
 rw [BitVec.msb_eq_toInt,BitVec.toInt_ofInt]
 congr 1
 have:m.bmod (2 ^ 64)=m:=by
  rw [Int.bmod_eq_of_le]<;>omega
 rw [this]
theorem cm {m n:Int} (m0 : -9223372036854775808≤m) (m1:m≤9223372036854775807) (n0 : -9223372036854775808≤n) (n1:n≤9223372036854775807):decide (Ry .i64 m n<0)=(decide (m<0)&&decide (n<0)):=by
 have e:Ry .i64 m n=(BitVec.ofInt 64 m &&& BitVec.ofInt 64 n).toInt:=Vc _
 rw [e,←BitVec.msb_eq_toInt,BitVec.msb_and,Nr m0 m1,Nr n0 n1]
theorem Q2 {m n:Int} (m0 : -9223372036854775808≤m) (m1:m≤9223372036854775807) (n0 : -9223372036854775808≤n) (n1:n≤9223372036854775807):decide (Lw .i64 m n<0)=(decide (m<0) ^^ decide (n<0)):=by
 have e:Lw .i64 m n=(BitVec.ofInt 64 m ^^^ BitVec.ofInt 64 n).toInt:=Vc _
 rw [e,←BitVec.msb_eq_toInt,BitVec.msb_xor,Nr m0 m1,Nr n0 n1]
theorem I9 (m n:Int) : -9223372036854775808≤Lw .i64 m n∧Lw .i64 m n≤9223372036854775807:=I1 _
/-- num.Add: the sum, where 64 bits hold it. -/
theorem xm {a b:Int} (a0 : -9223372036854775808≤a) (a1:a≤9223372036854775807) (b0 : -9223372036854775808≤b) (b1:b≤9223372036854775807):V7 a b=if -9223372036854775808≤a+b∧a+b≤9223372036854775807 then (a+b,0) else (0,4):=by
 have hw:=IntKind.wrap_i64 (a+b)
 have hc:=I1 (a+b)
 unfold V7
 generalize IntKind.i64.wrap (a+b)=c at hw hc ⊢
 rw [cm (I9 _ _).1 (I9 _ _).2 (I9 _ _).1 (I9 _ _).2,Q2 a0 a1 hc.1 hc.2,Q2 b0 b1 hc.1 hc.2]
 by_cases ha:a<0<;>by_cases hb:b<0<;>by_cases hcn:c<0<;>simp [ha,hb,hcn]<;>(try split)<;>(try simp)<;>omega
/-- num.Sub. -/
theorem kb {a b:Int} (a0 : -9223372036854775808≤a) (a1:a≤9223372036854775807) (b0 : -9223372036854775808≤b) (b1:b≤9223372036854775807):In a b=if -9223372036854775808≤a-b∧a-b≤9223372036854775807 then (a-b,0) else (0,4):=by
 have hw:=IntKind.wrap_i64 (a-b)
 have hc:=I1 (a-b)
 unfold In
 generalize IntKind.i64.wrap (a-b)=c at hw hc ⊢
 rw [cm (I9 _ _).1 (I9 _ _).2 (I9 _ _).1 (I9 _ _).2,Q2 a0 a1 b0 b1,Q2 a0 a1 hc.1 hc.2]
 by_cases ha:a<0<;>by_cases hb:b<0<;>by_cases hcn:c<0<;>simp [ha,hb,hcn]<;>(try split)<;>(try simp)<;>omega
theorem Ns {a:Int} (a0 : -9223372036854775808≤a) (a1:a≤9223372036854775807):Ij a=(a.natAbs:Int):=by
 have h1:=IntKind.wrap_u64 a
 have h2:=IntKind.wrap_u64 (0-IntKind.u64.wrap a)
 unfold Ij
 split
 ·rename_i h
  have h:a<0:=by simpa using h
  omega
 rename_i h
 have h:¬a<0:=by simpa using h
 omega
/-- num.Mul. -/
theorem xn {a b:Int} (a0 : -9223372036854775808≤a) (a1:a≤9223372036854775807) (b0 : -9223372036854775808≤b) (b1:b≤9223372036854775807):P3 a b=if -9223372036854775808≤a*b∧a*b≤9223372036854775807 then (a*b,0) else (0,4):=by
 have hs:((a<0↔b<0)→a*b=(a.natAbs:Int)*(b.natAbs:Int))∧(¬(a<0↔b<0)→a*b = -((a.natAbs:Int)*(b.natAbs:Int))):=by
  rcases Int.natAbs_eq a with ha|ha<;>rcases Int.natAbs_eq b with hb|hb
  ·refine ⟨fun _=>by rw [←ha,←hb],fun h=>?_⟩
   exfalso
   omega
  ·refine ⟨fun h=>?_,fun _=>by rw [Int.neg_mul_eq_mul_neg,←hb,←ha]⟩
   have hz:b.natAbs=0:=by omega
   have:b=0:=by omega
   subst this
   simp
  ·refine ⟨fun h=>?_,fun _=>by rw [←Int.neg_mul,←hb,←ha]⟩
   have:a=0:=by omega
   subst this
   simp
  refine ⟨fun _=>?_,fun h=>?_⟩
  ·have:=Int.neg_mul_neg (a.natAbs:Int) (b.natAbs:Int)
   rw [←ha,←hb] at this
   exact this
  by_cases hz:a=0
  ·subst hz;simp
  have:b=0:=by omega
  subst this
  simp
 unfold P3
 simp only [Ns a0 a1,Ns b0 b1]
 have hp:0≤(a.natAbs:Int)*(b.natAbs:Int):=Int.mul_nonneg (eh _) (eh _)
 generalize hP:(a.natAbs:Int)*(b.natAbs:Int)=p at hs hp ⊢
 generalize hQ:a*b=q at hs ⊢
 have hu:=IntKind.wrap_u64 (0-p % 18446744073709551616)
 have hi:=IntKind.wrap_i64 (IntKind.u64.wrap (0-p % 18446744073709551616))
 have hj:=IntKind.wrap_i64 (p % 18446744073709551616)
 by_cases hab:(a<0↔b<0)
 ·have hq:=hs.1 hab
  have hbl:(decide (a<0) != decide (b<0))=false:=by simp [hab]
  rw [hbl]
  simp only [A8,if_false]
  subst hq
  by_cases hc:(decide (0<q / 18446744073709551616) || decide (9223372036854775807<q % 18446744073709551616))=true
  ·rw [if_pos hc,if_neg]
   simp only [Cu,decide_eq_true_eq] at hc
   omega
  rw [if_neg hc]
  simp only [Cu,decide_eq_true_eq,not_or,Int.not_lt] at hc
  rw [if_pos (by omega)]
  congr 1
  omega
 have hq:=hs.2 hab
 have hbl:(decide (a<0) != decide (b<0))=true:=by
  by_cases h1:a<0<;>by_cases h2:b<0<;>simp_all
 rw [hbl]
 simp only [if_true]
 subst hq
 by_cases hc:(decide (0<p / 18446744073709551616) || decide (9223372036854775808<p % 18446744073709551616))=true
 ·rw [if_pos hc,if_neg]
  simp only [Cu,decide_eq_true_eq] at hc
  omega
 rw [if_neg hc]
 simp only [Cu,decide_eq_true_eq,not_or,Int.not_lt] at hc
 rw [if_pos (by omega)]
 congr 1
 omega
/-! Sizes in digits to the base of 2^32. -/
abbrev B32:Nat:=4294967296
def dig (m i:Nat):Nat:=m / B32 ^ i % B32
theorem Br (m i:Nat):dig m i<4294967296:=Gq _ (by decide)
theorem pw (i:Nat):0<B32 ^ i:=Nat.pow_pos (by decide)
theorem Jg (m i:Nat):m % B32 ^ (i+1)=m % B32 ^ i+B32 ^ i*dig m i:=Nat.mod_pow_succ
theorem Q3 (m i:Nat):m / B32 ^ (i+1)=m / B32 ^ i / B32:=by rw [Nat.pow_succ,Y3]
def car (a b i:Nat):Nat:=(a % B32 ^ i+b % B32 ^ i) / B32 ^ i
theorem t2 (a b:Nat):car a b 0=0:=by simp [car,Nf]
theorem t4 (a b i:Nat):car a b i≤1:=by
 have h1:=Gq a (pw i)
 have h2:=Gq b (pw i)
 have:car a b i<2:=by
  unfold car
  rw [jh (pw i)]
  omega
 omega
theorem t6 (P x y da db:Nat) (hP:0<P):(da+db+(x+y) / P) / B32=(x+P*da+(y+P*db)) / (P*B32):=by
 have e:x+P*da+(y+P*db)=(x+y)+P*(da+db):=by rw [L5];omega
 rw [e,←Y3,Sy _ _ hP,Sx]
theorem t7 (a b i:Nat):(dig a i+dig b i+car a b i) / 4294967296=car a b (i+1):=by
 unfold car
 rw [Jg,Jg,Nat.pow_succ]
 exact t6 _ _ _ _ _ (pw i)
theorem xo (P a b:Nat) (hP:0<P):(a+b) / P=a / P+b / P+(a % P+b % P) / P:=by
 have ha:=Nc a P
 have hb:=Nc b P
 have e:a+b=(a % P+b % P)+P*(a / P+b / P):=by rw [L5];omega
 calc (a+b) / P=((a % P+b % P)+P*(a / P+b / P)) / P:=by rw [←e]
  _=(a % P+b % P) / P+(a / P+b / P):=Sy _ _ hP
  _=_:=Sx _ _
theorem xp (a b i:Nat):(dig a i+dig b i+car a b i) % 4294967296=dig (a+b) i:=by
 unfold dig
 rw [xo _ a b (pw i)]
 unfold car
 generalize (a % B32 ^ i+b % B32 ^ i) / B32 ^ i=c
 generalize a / B32 ^ i=x
 generalize b / B32 ^ i=y
 show (x % 4294967296+y % 4294967296+c) % 4294967296=(x+y+c) % 4294967296
 omega
def bor (a b i:Nat):Nat:=if a % B32 ^ i<b % B32 ^ i then 1 else 0
theorem cn (a b:Nat):bor a b 0=0:=by simp [bor,Nf]
theorem iu (a b i:Nat):bor a b i≤1:=by unfold bor;split<;>omega
theorem my (P x y da db:Nat) (hx:x<P) (hy:y<P):(x+P*da<y+P*db)↔(da<db∨(da=db∧x<y)):=by
 constructor
 ·intro h
  rcases Y5 da db with h1|h1|h1
  ·exact .inl h1
  ·subst h1;exact .inr ⟨rfl,by omega⟩
  exfalso
  have:P*(db+1)≤P*da:=Y6 P h1
  rw [L5] at this
  omega
 rintro (h|⟨rfl,h⟩)
 ·have:P*(da+1)≤P*db:=Y6 P h
  rw [L5] at this
  omega
 omega
theorem co (a b i:Nat):1-(4294967296+dig a i-dig b i-bor a b i) / 4294967296=bor a b (i+1):=by
 have hd:=my (B32 ^ i) (a % B32 ^ i) (b % B32 ^ i) (dig a i) (dig b i) (Gq _ (pw i)) (Gq _ (pw i))
 have h1:=Br a i
 have h2:=Br b i
 have hb:bor a b (i+1)=if (dig a i<dig b i∨(dig a i=dig b i∧a % B32 ^ i<b % B32 ^ i)) then 1 else 0:=by
  unfold bor
  rw [Jg,Jg]
  by_cases h:a % B32 ^ i+B32 ^ i*dig a i<b % B32 ^ i+B32 ^ i*dig b i
  ·rw [if_pos h,if_pos (hd.1 h)]
  rw [if_neg h,if_neg fun h'=>h (hd.2 h')]
 rw [hb]
 unfold bor
 by_cases hlt:a % B32 ^ i<b % B32 ^ i
 ·rw [if_pos hlt]
  by_cases hc:dig a i<dig b i∨dig a i=dig b i∧a % B32 ^ i<b % B32 ^ i
  ·rw [if_pos hc]
   have:dig a i≤dig b i:=by rcases hc with h|h;omega;omega
   omega
  rw [if_neg hc]
  have:dig b i<dig a i:=by
   rcases Y5 (dig a i) (dig b i) with h|h|h
   ·exact absurd (.inl h) hc
   ·exact absurd (.inr ⟨h,hlt⟩) hc
   exact h
  omega
 rw [if_neg hlt]
 by_cases hc:dig a i<dig b i∨dig a i=dig b i∧a % B32 ^ i<b % B32 ^ i
 ·rw [if_pos hc]
  have:dig a i<dig b i:=by
   rcases hc with h|h
   ·exact h
   exact absurd h.2 hlt
  omega
 rw [if_neg hc]
 have:dig b i≤dig a i:=by
  rcases Bh (dig a i) (dig b i) with h|h
  ·exact absurd (.inl h) hc
  exact h
 omega
theorem xq (P a b:Nat) (hP:0<P) (h:b≤a):(a-b) / P+(if a % P<b % P then 1 else 0)+b / P=a / P:=by
 have ha:=Nc a P
 have hb:=Nc b P
 have hm1:=Gq a hP
 have hm2:=Gq b hP
 have hq:b / P≤a / P:=Y4 h
 obtain ⟨t,ht⟩:∃t,a / P=b / P+t:=⟨a / P-b / P,by omega⟩
 rw [ht,L5] at ha
 by_cases hlt:a % P<b % P
 ·rw [if_pos hlt]
  cases t with
  | zero=>rw [Nat.mul_zero] at ha;omega
  | succ t =>
   rw [L5,Nat.mul_one] at ha
   have e:a-b=(P+a % P-b % P)+P*t:=by omega
   rw [e,Sy _ _ hP,Na (by omega),ht]
   omega
 rw [if_neg hlt]
 have e:a-b=(a % P-b % P)+P*t:=by omega
 rw [e,Sy _ _ hP,Na (by omega),ht]
 omega
theorem kc {a b:Nat} (h:b≤a) (i:Nat):(4294967296+dig a i-dig b i-bor a b i) % 4294967296=dig (a-b) i:=by
 have hd:=xq (B32 ^ i) a b (pw i) h
 have hb:=iu a b i
 unfold bor at hb ⊢
 unfold dig
 generalize (if a % B32 ^ i<b % B32 ^ i then 1 else 0)=c at *
 generalize (a-b) / B32 ^ i=z at *
 generalize a / B32 ^ i=x at *
 generalize b / B32 ^ i=y at *
 show (4294967296+x % 4294967296-y % 4294967296-c) % 4294967296=z % 4294967296
 omega
/-- Which of two sizes is smaller, digit by digit from above. -/
theorem xt {a b n:Nat} (h:a / B32 ^ (n+1)=b / B32 ^ (n+1)) (hd:dig a n≠dig b n):decide (a<b)=decide (dig a n<dig b n):=by
 rw [Q3,Q3] at h
 have e:a / B32 ^ n<b / B32 ^ n↔dig a n<dig b n:=by
  unfold dig at hd ⊢
  generalize a / B32 ^ n=x at *
  generalize b / B32 ^ n=y at *
  have h':x / 4294967296=y / 4294967296:=h
  show x<y↔x % 4294967296<y % 4294967296
  omega
 have hne:a / B32 ^ n≠b / B32 ^ n:=fun e'=>hd (by unfold dig;rw [e'])
 rw [decide_eq_decide,←e]
 constructor
 ·intro hl
  have:=Y4 (c:=B32 ^ n) (Nat.le_of_lt hl)
  omega
 intro hl
 rcases Bh a b with h1|h1
 ·exact h1
 have:=Y4 (c:=B32 ^ n) h1
 omega
theorem mz {a b n:Nat} (h:a / B32 ^ (n+1)=b / B32 ^ (n+1)) (hd:dig a n=dig b n):a / B32 ^ n=b / B32 ^ n:=by
 rw [Q3,Q3] at h
 unfold dig at hd
 generalize a / B32 ^ n=x at *
 generalize b / B32 ^ n=y at *
 have h':x / 4294967296=y / 4294967296:=h
 have hd':x % 4294967296=y % 4294967296:=hd
 omega
set_option maxRecDepth 4000
abbrev My (r:Rs):AV:=.tup [Ba r.1,A5 r.2]
abbrev ke (l:List Int):AV:=.slice false 1 (l.map A5)
abbrev Vd (c:List Col) (l:List Val):AV:=.agg [Ad c,B6 l]
theorem AHs (e:Int) (Hp:List AObj):AFun Tryz.prog 104 [A5 e] Hp (My (Ck e)):=by
 refine Ae [.cell 2 44,.tmp 3] [0] Tryz.func104 Tryz.ntmps104 (fun d=>?_)
 refine fx ?_;refine A0 [0,2] ?_;refine Dv ?_;refine A6 Tryz.call66 (c66 _) ?_;refine A2 ?_;refine Z7 ?_;refine Z54 ?_;exact A7 (Aj (Ch jA jS) A3)

theorem AHt (n e:Int) (Hp:List AObj):AFun Tryz.prog 161 [A5 n,A5 e] Hp (My (Eg (n,e))):=by
 refine Ae [.cell 4 44,.tmp 5] [0,1] Tryz.func161 Tryz.ntmps161 (fun d=>?_)
 refine fx ?_;refine A0 [0,1,4] ?_;refine Z8 ?_;refine A0 [0,1,4,7] ?_
 refine A1 (fun ht7=>?_) (fun ht7=>?_)
 ·have hw:Eg (n,e)=Ck e:=if_pos ht7
  refine Z2 ?_;refine Z62 ?_;refine Z7 ?_;refine Z43 ?_;exact wt
 have hw:Eg (n,e)=(⟨1,n,[]⟩,0):=if_neg (by rw [ht7];simp)
 refine Ja ?_;refine A6 Tryz.call182 (AFk _ _) ?_;refine Z7 ?_;refine Z12 ?_;exact wt

theorem cp {vs:List Val} {ks:List Int} (hl:ks.length≤vs.length) {x:Nat} (hk:x<ks.length) (hx:Bm vs ks=Bm (vs.drop x) (ks.drop x)):Bm vs ks=((vs[x].kind==ks[x])&&Bm (vs.drop (x+1)) (ks.drop (x+1))):=by
 rw [hx,Gx hk,Gx (show x<vs.length by omega),Bm]
theorem t8 (vs:List Val) (ks:List Int) (hks:ks.length≤vs.length) (hk2:ks.length≤1048576) (Hp:List AObj):AFun Tryz.prog 160 [B6 vs,ke ks] Hp (Ar (Bm vs ks)):=by
 refine Ae [.tmp 4] [0,1] Tryz.func160 Tryz.ntmps160 (fun d=>?_)
 refine Z58 ?_;refine Z27 ?_;refine A0 [0,7,8,9] ?_
 refine Be (α:=Nat) (fun x=>⟨22,A4 0 (B6 vs) (A4 7 (ke ks) (A4 8 (A5 (ks.length:Nat)) (A4 9 (A5 (x:Nat)) (fun _=>.any)))),Hp,[],[],none⟩) (fun x=>x≤ks.length∧Bm vs ks=Bm (vs.drop x) (ks.drop x)) (fun x=>ks.length-x) (0) ⟨Ah _,rfl⟩ (B0 (by simp)) rfl (fun x hx=>?_)
 refine Z2 ?_;refine A0 [0,7,8,9,10] ?_
 refine Dn (fun ht10=>?_) (fun ht10=>?_)
 ·have hlt:x<ks.length:=by simpa using ht10
  have hls:x<vs.length:=by omega
  have hst:=cp hks hlt hx.2
  refine Uh ?_
  refine A2 (h:=A9 (x) (A5 ks[x]) (fun _=>Ak hlt)) (hr:=?_)
  refine Z13 ?_;refine A0 [0,5,6,7,8,9] ?_;refine Z1 ?_
  refine A2 (h:=A9 (x) (Ba vs[x]) (fun _=>Ak hls)) (hr:=?_)
  refine Z93 ?_;refine A0 [0,7,8,9,20] ?_
  refine A1 (fun ht20=>?_) (fun ht20=>?_)
  ·have hm:Bm vs ks=false:=by rw [hst];simp only [bne_iff_ne,ne_eq] at ht20;simp [ht20]
   refine Z71 ?_;exact U8
  have hn:Bm vs ks=Bm (vs.drop (x+1)) (ks.drop (x+1)):=by rw [hst];simp only [bne_eq_false_iff_eq] at ht20;simp [ht20]
  refine Ka ?_;refine A0 [0,7,8,9] ?_;exact ADp
 have hxe:ks.length≤x:=by simpa using ht10
 have hm:Bm vs ks=true:=by rw [hx.2,Qi hxe];cases vs.drop x<;>rfl
 refine Z30 ?_;exact qe

theorem AHu (t:Str) (c:Int) (Hp:List AObj):AFun Tryz.prog 178 [Ax t,A5 c] Hp (.tup [Ar (Ea t c).1,Ar (Ea t c).2]):=by
 refine Ae [.tmp 4,.tmp 5] [0,1] Tryz.func178 Tryz.ntmps178 (fun d=>?_)
 refine b8 ?_;refine Z32 ?_;refine A0 [1,6] ?_;refine Z95 ?_;refine A0 [1,6,7] ?_
 refine A1 (fun ht7=>?_) (fun ht7=>?_)
 ·exact m8
 refine Z1 ?_;refine A0 [1,6,11] ?_
 refine A1 (fun ht11=>?_) (fun ht11=>?_)
 ·exact m8
 refine Z1 ?_;refine A0 [1,6,15] ?_
 refine A1 (fun ht15=>?_) (fun ht15=>?_)
 ·exact m8
 refine Z1 ?_;refine A0 [1,6,19] ?_
 refine A1 (fun ht19=>?_) (fun ht19=>?_)
 ·exact m8
 refine Z1 ?_;refine A0 [1,6,23] ?_
 refine A1 (fun ht23=>?_) (fun ht23=>?_)
 ·exact m8
 refine Z1 ?_;refine A0 [1,27] ?_
 refine A1 (fun ht27=>?_) (fun ht27=>?_)
 ·exact m8
 refine Yo ?_;refine Z12 ?_;exact AEy

theorem AG1 (a b:Int) (Hp:List AObj):AFun Tryz.prog 183 [A5 a,A5 b] Hp (.tup [A5 (In a b).1,A5 (In a b).2]):=by
 refine Ae [.tmp 4,.tmp 5] [0,1] Tryz.func183 Tryz.ntmps183 (fun d=>?_)
 refine b8 ?_;refine Z1 ?_
 refine A2 (h:=Ie) (hr:=?_)
 refine A2 ?_;refine A0 [0,1,6] ?_;refine Z8 ?_;refine R.xor ?_;refine Z0 ?_;refine R.xor ?_;refine R.and ?_;refine A2 ?_;refine A0 [6,17] ?_
 refine A1 (fun ht17=>?_) (fun ht17=>?_)
 ·have hm:In a b=(0,4):=if_pos ht17
  exact AE4
 have hm:In a b=(IntKind.i64.wrap (a-b),0):=if_neg (by rw [ht17];simp)
 exact AE8

theorem AHv (a b:Int) (Hp:List AObj):AFun Tryz.prog 195 [A5 a,A5 b] Hp (.tup [A5 (V7 a b).1,A5 (V7 a b).2]):=by
 refine Ae [.tmp 4,.tmp 5] [0,1] Tryz.func195 Tryz.ntmps195 (fun d=>?_)
 refine b8 ?_;refine Z1 ?_
 refine A2 (h:=Er) (hr:=?_)
 refine A2 ?_;refine A0 [0,1,6] ?_;refine Z8 ?_;refine R.xor ?_;refine Z0 ?_;refine R.xor ?_;refine R.and ?_;refine A2 ?_;refine A0 [6,17] ?_
 refine A1 (fun ht17=>?_) (fun ht17=>?_)
 ·have hm:V7 a b=(0,4):=if_pos ht17
  exact AE4
 have hm:V7 a b=(IntKind.i64.wrap (a+b),0):=if_neg (by rw [ht17];simp)
 exact AE8

theorem AHw (a:Int) (Hp:List AObj):AFun Tryz.prog 162 [A5 a] Hp (.tup [A5 (In 0 a).1,A5 (In 0 a).2]):=by
 refine Ae [.tmp 2,.tmp 3] [0] Tryz.func162 Tryz.ntmps162 (fun d=>?_)
 refine Z1 ?_;refine A0 [0] ?_;refine Z2 ?_;refine A6 Tryz.call183 (AG1 _ _ _) ?_;refine Z93 ?_;refine Z54 ?_;exact A7 (Aj A3 A3)

theorem AG2 (a:Int) (Hp:List AObj):AFun Tryz.prog 209 [A5 a] Hp (Bf (Ij a)):=by
 refine Ae [.tmp 2] [0] Tryz.func209 Tryz.ntmps209 (fun d=>?_)
 refine Z49 ?_;refine Z8 ?_;refine A0 [0,4] ?_
 refine A1 (fun ht4=>?_) (fun ht4=>?_)
 ·have hm:Ij a=IntKind.u64.wrap (0-IntKind.u64.wrap a):=if_pos ht4
  refine Z39 ?_;refine Z4 ?_;exact Z23
 have hm:Ij a=IntKind.u64.wrap a:=if_neg (by rw [ht4];simp)
 refine Z77 ?_;exact AEj

theorem ABu (n:Int):0≤IntKind.u64.wrap n∧IntKind.u64.wrap n<18446744073709551616:=by rw [IntKind.wrap_u64];omega
theorem t9 (a:Int):0≤Ij a∧Ij a<18446744073709551616:=by
 unfold Ij
 split<;>exact ABu _
theorem AHx (x y:Int) (hx:0≤x∧x<18446744073709551616) (hy:0≤y∧y<18446744073709551616) (Hp:List AObj):AFun Tryz.prog 208 [Bf x,Bf y] Hp (.tup [Bf (x*y / 18446744073709551616),Bf (x*y % 18446744073709551616)]):=by
 obtain ⟨m,rfl⟩:=pa hx.1
 obtain ⟨n,rfl⟩:=pa hy.1
 refine O8 (xs:=[.int .u64 m,.int .u64 n]) (v:=.tuple #[.int .u64 ((m*n / 18446744073709551616:Nat):Int),.int .u64 ((m*n % 18446744073709551616:Nat):Int)]) (fun G w=>Ld rfl (fun i y u hy hu=>?_)) (fun w hg=>?_)
 ·match i with
  | 0=>simp at hy hu;subst hy;subst hu;exact .v _ _
  | 1=>simp at hy hu;subst hy;subst hu;exact .v _ _
  | i+2=>simp at hy
 refine (Any.bits_Mul64 Tryz.lays264 m n (by omega) (by omega) w).mono ?_
 rintro e w' ⟨rfl,rfl⟩
 exact ⟨rfl,Go.RowKit.Below.refl _ _⟩
theorem AHy (s t:Str) (Hp:List AObj):AFun Tryz.prog 194 [Ax s,Ax t] Hp (A5 (Lib.compareBytes s t)):=by
 refine O8 (xs:=[sv s,sv t]) (v:=.int .i64 (Lib.compareBytes s t)) (fun G w=>.v _ _) (fun w hg=>?_)
 refine (Any.strings_Compare Tryz.lays106 ⟨s.toArray⟩ ⟨t.toArray⟩ w).mono ?_
 rintro e w' ⟨rfl,rfl⟩
 exact ⟨rfl,Go.RowKit.Below.refl _ _⟩
theorem AHz (a b:Int) (Hp:List AObj):AFun Tryz.prog 196 [A5 a,A5 b] Hp (.tup [A5 (P3 a b).1,A5 (P3 a b).2]):=by
 refine Ae [.tmp 4,.tmp 5] [0,1] Tryz.func196 Tryz.ntmps196 (fun d=>?_)
 refine b8 ?_;refine Z2 ?_;refine A6 Tryz.call209 (AG2 _ _) ?_;refine A2 ?_;refine A6 Tryz.call209 (AG2 _ _) ?_;refine A6 Tryz.call208 (AHx _ _ (t9 a) (t9 b) _) ?_;refine Z67 ?_;refine A0 [0,1,6,7] ?_;refine Z39 ?_;refine Z0 ?_;refine A0 [6,7,8] ?_;refine Z2 ?_;refine A0 [6,7,8,9] ?_;refine Z32 ?_;refine A0 [6,7,8,9,23] ?_
 refine A1 (fun ht23=>?_) (fun ht23=>?_)
 ·refine Z51 ?_
  refine A2 (h:=Er) (hr:=?_)
  refine A2 ?_;refine A0 [6,7,8,9] ?_;refine Dk ?_;refine Z20 ?_;refine bh ?_;refine A0 [7,8,26] ?_
  refine A1 (fun ht26=>?_) (fun ht26=>?_)
  ·refine Z1 ?_;refine U9 ?_
   exact A7 (Aj A3 A3) ⟨by
    have w1:IntKind.u64.wrap 9223372036854775808=9223372036854775808:=rfl
    simp_all [P3]
    try first|(rw [if_pos ht26];simp;done)|(rw [if_neg (by omega)];simp;done),rfl⟩
  refine Z1 ?_;refine A0 [7,34] ?_
  refine A1 (fun ht34=>?_) (fun ht34=>?_)
  ·refine Z1 ?_;refine Z13 ?_;refine U9 ?_
   exact A7 (Aj A3 A3) ⟨by
    have w1:IntKind.u64.wrap 9223372036854775808=9223372036854775808:=rfl
    simp_all [P3]
    try first|(rw [if_pos ht26];simp;done)|(rw [if_neg (by omega)];simp;done),rfl⟩
  refine Z19 ?_;refine Z39 ?_;refine Z12 ?_
  exact A7 (Aj A3 A3) ⟨by
   have w1:IntKind.u64.wrap 9223372036854775808=9223372036854775808:=rfl
   simp_all [P3]
   try first|(rw [if_pos ht26];simp;done)|(rw [if_neg (by omega)];simp;done),rfl⟩
 refine Z44 ?_;refine bh ?_;refine A0 [7,8,26] ?_
 refine A1 (fun ht26=>?_) (fun ht26=>?_)
 ·refine Z1 ?_;refine U9 ?_
  exact A7 (Aj A3 A3) ⟨by
   have w1:IntKind.u64.wrap 9223372036854775808=9223372036854775808:=rfl
   simp_all [P3]
   try first|(rw [if_pos ht26];simp;done)|(rw [if_neg (by omega)];simp;done),rfl⟩
 refine Z1 ?_;refine A0 [7,34] ?_
 refine A1 (fun ht34=>?_) (fun ht34=>?_)
 ·refine Z1 ?_;refine Z13 ?_;refine U9 ?_
  exact A7 (Aj A3 A3) ⟨by
   have w1:IntKind.u64.wrap 9223372036854775808=9223372036854775808:=rfl
   simp_all [P3]
   try first|(rw [if_pos ht26];simp;done)|(rw [if_neg (by omega)];simp;done),rfl⟩
 refine Z19 ?_;refine Z39 ?_;refine Z12 ?_
 exact A7 (Aj A3 A3) ⟨by
  have w1:IntKind.u64.wrap 9223372036854775808=9223372036854775808:=rfl
  simp_all [P3]
  try first|(rw [if_pos ht26];simp;done)|(rw [if_neg (by omega)];simp;done),rfl⟩

theorem AI0 (a b:Int) (Hp:List AObj):AFun Tryz.prog 197 [A5 a,A5 b] Hp (.tup [A5 (So a b).1,A5 (So a b).2]):=by
 refine Ae [.tmp 4,.tmp 5] [0,1] Tryz.func197 Tryz.ntmps197 (fun d=>?_)
 refine b8 ?_;refine Z20 ?_;refine Z18 ?_;refine A0 [0,1,6] ?_
 refine A1 (fun ht6=>?_) (fun ht6=>?_)
 ·refine Z1 ?_;exact ADq
 refine Sg ?_;refine Z0 ?_;refine A0 [0,1,9] ?_
 refine A1 (fun ht9=>?_) (fun ht9=>?_)
 ·refine Z1 ?_;exact ADq
 refine Yo ?_
 refine A2 (h:=Q.quo (h0:=fun _=>by simpa using ht6)) (hr:=?_)
 refine Z0 ?_;refine Z12 ?_;exact A7 (Aj A3 A3) ⟨by simp_all [So]<;>(rw [if_neg (by rintro ⟨rfl,rfl⟩;simp_all)];exact ⟨rfl,rfl⟩),rfl⟩

theorem n3 {a b:Int} (ha : -9223372036854775808≤a∧a≤9223372036854775807):IntKind.i64.wrap (a.tmod b)=a.tmod b:=by
 have h1:(a.tmod b).natAbs≤a.natAbs:=by rw [Int.natAbs_tmod];exact Pi _ _
 rw [IntKind.wrap_i64]
 rcases Int.le_total 0 a with h|h
 ·have:=Int.tmod_nonneg b h
  omega
 have h2:=Int.tmod_nonneg b (show 0 ≤ -a by omega)
 rw [ek] at h2
 omega
theorem AI1 (a b:Int) (ha : -9223372036854775808≤a∧a≤9223372036854775807) (Hp:List AObj):AFun Tryz.prog 198 [A5 a,A5 b] Hp (.tup [A5 (P4 a b).1,A5 (P4 a b).2]):=by
 refine Ae [.tmp 4,.tmp 5] [0,1] Tryz.func198 Tryz.ntmps198 (fun d=>?_)
 refine b8 ?_;refine Z32 ?_;refine A0 [0,1,6] ?_;refine Z95 ?_;refine A0 [0,1,6,7] ?_
 refine A1 (fun ht7=>?_) (fun ht7=>?_)
 ·have hm:P4 a b=(0,5):=if_pos ht7
  refine Z1 ?_;exact AE5
 refine Z1 ?_;refine A0 [0,1,9] ?_
 refine A1 (fun ht9=>?_) (fun ht9=>?_)
 ·have hm:P4 a b=(0,0):=by unfold P4;rw [if_neg (by rw [ht7];simp),if_pos ht9]
  refine Z1 ?_;exact AE5
 have hm:P4 a b=(a.tmod b,0):=by unfold P4;rw [if_neg (by rw [ht7];simp),if_neg (by rw [ht9];simp),n3 ha]
 refine Yo ?_
 refine A2 (h:=Q.rem (h0:=fun _=>by simpa using ht7)) (hr:=?_)
 refine Z0 ?_;refine Z12 ?_;exact qx

theorem AG3 (a:Int) (Hp:List AObj):AFun Tryz.prog 205 [A5 a] Hp (Ar false):=by
 refine Ae [.tmp 2] [0] Tryz.func205 Tryz.ntmps205 (fun d=>?_)
 refine Z49 ?_;refine Z39 ?_;exact AEo

theorem AG4 (a:Int) (Hp:List AObj):AFun Tryz.prog 206 [A5 a] Hp (Ar false):=by
 refine Ae [.tmp 2] [0] Tryz.func206 Tryz.ntmps206 (fun d=>?_)
 refine Z49 ?_;refine Z39 ?_;exact AEo

theorem AI2 (a b:Int) (Hp:List AObj):AFun Tryz.prog 192 [A5 a,A5 b] Hp (A5 (Io a b)):=by
 refine Ae [.tmp 4] [0,1] Tryz.func192 Tryz.ntmps192 (fun d=>?_)
 refine Z58 ?_;refine Z2 ?_;refine A6 Tryz.call205 (AG3 _ _) ?_;refine A2 ?_;refine Sm ?_;refine Z2 ?_;refine A6 Tryz.call205 (AG3 _ _) ?_;refine A2 ?_;refine A0 [0,1,5,6] ?_;refine Z32 ?_;refine A0 [0,1,6,11] ?_
 refine A1 (fun ht11=>?_) (fun ht11=>?_)
 ·cases ht11
 refine Pq ?_;refine A0 [0,1,13] ?_
 refine A1 (fun ht13=>?_) (fun ht13=>?_)
 ·cases ht13
 refine Z66 ?_;refine A0 [0,1,16] ?_
 refine A1 (fun ht16=>?_) (fun ht16=>?_)
 ·have hm:Io a b = -1:=if_pos ht16
  exact fw
 refine Z66 ?_;refine A0 [19] ?_
 refine A1 (fun ht19=>?_) (fun ht19=>?_)
 ·have hm:Io a b=1:=by unfold Io;rw [if_neg (by rw [ht16];simp),if_pos ht19]
  exact fw
 have hm:Io a b=0:=by unfold Io;rw [if_neg (by rw [ht16];simp),if_neg (by rw [ht19];simp)]
 refine Z3 ?_;exact qe

theorem AI3 (a b:Int) (Hp:List AObj):AFun Tryz.prog 193 [A5 a,A5 b] Hp (A5 (Io a b)):=by
 refine Ae [.tmp 4] [0,1] Tryz.func193 Tryz.ntmps193 (fun d=>?_)
 refine Z58 ?_;refine Z2 ?_;refine A6 Tryz.call206 (AG4 _ _) ?_;refine A2 ?_;refine Sm ?_;refine Z2 ?_;refine A6 Tryz.call206 (AG4 _ _) ?_;refine A2 ?_;refine A0 [0,1,5,6] ?_;refine Z32 ?_;refine A0 [0,1,6,11] ?_
 refine A1 (fun ht11=>?_) (fun ht11=>?_)
 ·cases ht11
 refine Pq ?_;refine A0 [0,1,13] ?_
 refine A1 (fun ht13=>?_) (fun ht13=>?_)
 ·cases ht13
 refine Z66 ?_;refine A0 [0,1,16] ?_
 refine A1 (fun ht16=>?_) (fun ht16=>?_)
 ·have hm:Io a b = -1:=if_pos ht16
  exact fw
 refine Z66 ?_;refine A0 [19] ?_
 refine A1 (fun ht19=>?_) (fun ht19=>?_)
 ·have hm:Io a b=1:=by unfold Io;rw [if_neg (by rw [ht16];simp),if_pos ht19]
  exact fw
 have hm:Io a b=0:=by unfold Io;rw [if_neg (by rw [ht16];simp),if_neg (by rw [ht19];simp)]
 refine Z3 ?_;exact qe

theorem ta {l:List Int} {x:Nat} (h:x<l.length) (hx:orI l=orI (l.drop x)):orI l=if l[x] != 0 then l[x] else orI (l.drop (x+1)):=by rw [hx,Gx h,orI]
theorem AI4 (l:List Int) (hl:l.length≤1048576) (Hp:List AObj):AFun Tryz.prog 191 [ke l] Hp (A5 (orI l)):=by
 refine Ae [.tmp 2] [0] Tryz.func191 Tryz.ntmps191 (fun d=>?_)
 refine Z49 ?_;refine Z2 ?_;refine M3 ?_;refine Z27 ?_;refine A0 [3,6,7,8] ?_
 refine Be (α:=Nat) (fun x=>⟨18,A4 3 (A5 0) (A4 6 (ke l) (A4 7 (A5 (l.length:Nat)) (A4 8 (A5 (x:Nat)) (fun _=>.any)))),Hp,[],[],none⟩) (fun x=>x≤l.length∧orI l=orI (l.drop x)) (fun x=>l.length-x) (0) ⟨Ah _,rfl⟩ (B0 (by simp)) rfl (fun x hx=>?_)
 refine Z2 ?_;refine A0 [3,6,7,8,9] ?_
 refine Dn (fun ht9=>?_) (fun ht9=>?_)
 ·have hlt:x<l.length:=by simpa using ht9
  have hst:=ta hlt hx.2
  refine Po ?_
  refine A2 (h:=A9 (x) (A5 l[x]) (fun _=>Ak hlt)) (hr:=?_)
  refine Z0 ?_;refine A0 [3,5,6,7,8] ?_;refine Z18 ?_;refine A0 [3,5,6,7,8,14] ?_
  refine A1 (fun ht14=>?_) (fun ht14=>?_)
  ·have hm:orI l=l[x]:=by rw [hst,if_pos ht14]
   refine Z1 ?_;refine Z4 ?_;exact U8
  have hn:orI l=orI (l.drop (x+1)):=by rw [hst,if_neg (by rw [ht14];simp)]
  refine Ka ?_;refine A0 [3,6,7,8] ?_;exact ADp
 have hxe:l.length≤x:=by simpa using ht9
 have hm:orI l=0:=by rw [hx.2,Qi hxe];rfl
 refine Z30 ?_;refine Z1 ?_;exact AEj

theorem AI5 (a b:Val) (Hp:List AObj):AFun Tryz.prog 179 [Ba a,Ba b] Hp (A5 (P5 a b)):=by
 refine Ae [.tmp 4] [0,1] Tryz.func179 Tryz.ntmps179 (fun d=>?_)
 refine fq ?_;refine Z32 ?_;refine A6 Tryz.call51 (c51 a _) ?_;refine gb ?_;refine Bj Tryz.call51 (fun hB=>c51 b _) ?_;refine Z50 ?_;refine A0 [2,3,12] ?_
 refine A1 (fun ht12=>?_) (fun ht12=>?_)
 ·have hm:P5 a b=0:=if_pos ht12
  exact fw
 have hm:P5 a b=orI [Io a.kind b.kind,Io a.n b.n,Lib.compareBytes a.s b.s]:=if_neg (by rw [ht12];simp)
 refine Z3 ?_;refine Df [0,1,0,4,15,0,32,0,128,511,0,1024,0,4096,16383,32767,65535,131071] 14 An (by kernel_rfl) ?_;refine Qx ?_;refine Cy Tryz.call192 (AI2 _ _ _) ?_;refine Qx ?_;refine Cy Tryz.call193 (AI3 _ _ _) ?_;refine Z17 ?_;refine Z85 ?_;refine A6 Tryz.call194 (AHy _ _ _) ?_;refine Ui ?_;refine A6 Tryz.call191 (AI4 [Io a.kind b.kind,Io a.n b.n,Lib.compareBytes a.s b.s] (by simp) _) ?_;refine A2 ?_;refine Z21 ?_;exact bi

/-! A wide number: a sign and five digits to the base of 2^32. -/
abbrev wF (s:Bool) (f:Nat→Nat):List AV:=[Ar s,Bf (f 0:Nat),Bf (f 1:Nat),Bf (f 2:Nat),Bf (f 3:Nat),Bf (f 4:Nat)]
abbrev pF (f:Nat→Nat):List AV:=[Bf (f 0:Nat),Bf (f 1:Nat),Bf (f 2:Nat),Bf (f 3:Nat),Bf (f 4:Nat)]
theorem Q4 {f:Nat→Nat} {k:Nat} (h:k<5):(pF f).drop (k*1)=Bf (f k:Nat)::(pF f).drop (k+1):=by
 rcases k with _|_|_|_|_|k
 all_goals first|rfl|omega
theorem S4 {s:Bool} {f:Nat→Nat} {k:Nat} (h:k<5):(wF s f)[1+k*1]? = some (Bf (f k:Nat)):=by
 rcases k with _|_|_|_|_|k
 all_goals first|rfl|omega
def S5 (m k i:Nat):Nat:=if i<k then dig m i else 0
theorem Zd {s:Bool} {f g:Nat→Nat} {k v:Nat} (h:k<5) (hg:g k=v) (he:∀i,i≠k→g i=f i):C3 (wF s f) (1+k*1) [Bf (v:Nat)]=wF s g:=by
 subst hg
 rcases k with _|_|_|_|_|k
 ·rw [wF,wF,he 1 (by decide),he 2 (by decide),he 3 (by decide),he 4 (by decide)];rfl
 ·rw [wF,wF,he 0 (by decide),he 2 (by decide),he 3 (by decide),he 4 (by decide)];rfl
 ·rw [wF,wF,he 0 (by decide),he 1 (by decide),he 3 (by decide),he 4 (by decide)];rfl
 ·rw [wF,wF,he 0 (by decide),he 1 (by decide),he 2 (by decide),he 4 (by decide)];rfl
 ·rw [wF,wF,he 0 (by decide),he 1 (by decide),he 2 (by decide),he 3 (by decide)];rfl
 omega
theorem Ri {s:Bool} {m k:Nat} (h:k<5):C3 (wF s (S5 m k)) (1+k*1) [Bf (dig m k:Nat)]=wF s (S5 m (k+1)):=by
 refine Zd h (by unfold S5;rw [if_pos (by omega)]) fun i hi=>?_
 unfold S5
 by_cases h1:i<k
 ·rw [if_pos h1,if_pos (by omega)]
 rw [if_neg h1,if_neg (by omega)]
theorem Rj (m:Nat) (s:Bool):wF s (S5 m 5)=wF s (dig m):=rfl
theorem n4 {x y z:Nat} (h:x+y+z<18446744073709551616):IntKind.u64.wrap (IntKind.u64.wrap ((x:Int)+(y:Int))+(z:Int))=((x+y+z:Nat):Int):=by
 simp only [IntKind.wrap_u64];omega
theorem Sp (x:Nat):(x:Int).tmod 4294967296=((x % 4294967296:Nat):Int):=by
 rw [Tp (by omega)];omega
theorem Sq {x:Nat} (h:x<18446744073709551616):IntKind.u64.wrap ((x:Int).tdiv 4294967296)=((x / 4294967296:Nat):Int):=by
 rw [To (by omega),IntKind.wrap_u64];omega
theorem Eh {m i:Nat} (h:m<B32 ^ i):dig m i=0:=by unfold dig;rw [Na h];rfl
theorem kg (m:Nat):dig m 0=m % 4294967296:=by unfold dig;simp
theorem tc (m:Nat):dig m 1=m / 4294967296 % 4294967296:=by unfold dig;simp [B32]
/-- A number's yo. -/
abbrev Ve (a:Int):List AV:=[Ar (decide (a<0)),Bf ((Ij a).tmod 4294967296),Bf (IntKind.u64.wrap ((Ij a).tdiv 4294967296)),Bf 0,Bf 0,Bf 0]
theorem xu {a:Int} (h0 : -9223372036854775808≤a) (h1:a≤9223372036854775807):Ve a=wF (decide (a<0)) (dig a.natAbs):=by
 have hs:=Ns h0 h1
 have hb:a.natAbs<18446744073709551616:=by omega
 unfold Ve wF
 rw [hs,Sp,Sq hb,kg,tc,Nd (show a.natAbs / 4294967296<4294967296 by omega)]
 have e2:dig a.natAbs 2=0:=Eh (Cg hb (by decide))
 have e3:dig a.natAbs 3=0:=Eh (Cg hb (by decide))
 have e4:dig a.natAbs 4=0:=Eh (Cg hb (by decide))
 rw [e2,e3,e4]
 rfl
theorem c63 (a:Int) (Hp:List AObj):AFun Tryz.prog 63 [A5 a] Hp (.agg (Ve a)):=by
 refine Ae [.cell 2 100] [0] Tryz.func63 Tryz.ntmps63 (fun d=>?_)
 refine b7 ?_;refine Z1 ?_;refine Z82 ?_;refine A0 [0,2,3] ?_;refine Z18 ?_;refine A0 [0,2,3,4] ?_;refine Z8 ?_;refine A0 [2,3,4,11] ?_
 refine A1 (fun ht11=>?_) (fun ht11=>?_)
 ·have hm:Ij a=IntKind.u64.wrap (0-IntKind.u64.wrap a):=if_pos ht11
  refine Z51 ?_
  refine A2 (h:=Ie) (hr:=?_)
  refine A2 ?_;refine Wh ?_;refine Dk ?_;refine Z18 ?_;refine wu ?_;refine F9 ?_;refine Wh ?_;refine Z18 ?_;refine vj ?_;refine A0 [2,3] ?_;refine Z2 ?_;exact ADa
 have hm:Ij a=IntKind.u64.wrap a:=if_neg (by rw [ht11];simp)
 refine Z77 ?_;refine wu ?_;refine F9 ?_;refine Wh ?_;refine Z18 ?_;refine vj ?_;refine A0 [2,3] ?_;refine Z2 ?_;exact ADa

theorem n5 (a:Int) (h0 : -9223372036854775808≤a) (h1:a≤9223372036854775807) (Hp:List AObj):AFun Tryz.prog 63 [A5 a] Hp (.agg (wF (decide (a<0)) (dig a.natAbs))):=by
 rw [←xu h0 h1]
 exact c63 a Hp
theorem c62 (s:Bool) (f:Nat→Nat) (Hp:List AObj):AFun Tryz.prog 62 [.agg (wF s f)] Hp (.agg (wF (!s) f)):=by
 refine Ae [.cell 2 100] [0] Tryz.func62 Tryz.ntmps62 (fun d=>?_)
 refine bb ?_;refine O0 ?_;refine A0 [1,2] ?_;refine Z39 ?_;refine F9 ?_;refine A0 [1,2] ?_;refine Z2 ?_;refine Z22 ?_;exact ABb

theorem AI6 (a b:Nat) (ha:a<B32 ^ 5) (hb:b<B32 ^ 5) (Hp:List AObj):AFun Tryz.prog 108 [.agg (pF (dig a)),.agg (pF (dig b))] Hp (Ar (decide (a<b))):=by
 refine Ae [.tmp 4] [0,1] Tryz.func108 Tryz.ntmps108 (fun d=>?_)
 refine fq ?_;refine Z32 ?_;refine A0 [2,3,5] ?_
 refine Be (α:=Nat) (fun k=>⟨24,A4 2 (.ro (pF (dig a))) (A4 3 (.ro (pF (dig b))) (A4 5 (A5 ((k:Nat)-1)) (fun _=>.any))),Hp,[],[],none⟩) (fun k=>k≤5∧a / B32 ^ k=b / B32 ^ k) (fun k=>k) (5) ⟨Ao _,by rw [Na ha,Na hb]⟩ (B0 rfl) rfl (fun k hx=>?_)
 refine Z8 ?_;refine A0 [2,3,5,7] ?_
 refine A1 (fun ht7=>?_) (fun ht7=>?_)
 ·have hk0:1≤k:=by simp only [decide_eq_true_eq] at ht7;omega
  have hq:a / B32 ^ (k-1+1)=b / B32 ^ (k-1+1):=by rw [Nat.sub_add_cancel hk0];exact hx.2
  refine Z44 ?_;refine Hm [0,1,3,0,8,24,63] 6 An (by kernel_rfl) ?_;refine ADk ?_;refine Z17 ?_;refine ADl ?_;refine A2 ?_;refine A0 [2,3,5,16] ?_
  refine A1 (fun ht16=>?_) (fun ht16=>?_)
  ·have hl:=xt hq (fun e=>by rw [e] at ht16;simp at ht16)
   refine Hm [0,1,3,0,8,24,63,127] 6 An (by kernel_rfl) ?_;refine ADk ?_;refine Z17 ?_;refine ADl ?_;refine Ua ?_;refine Z41 ?_;exact A7 (Ai A3) ⟨by rw [hl];simp,rfl⟩
  have hn:=mz hq (by have:((dig a (k-1):Nat):Int)=((dig b (k-1):Nat):Int):=(by simpa using ht16);omega)
  refine Z79 ?_;refine A0 [2,3,5] ?_
  rw [show ((k:Int)-1-1)=(((k-1:Nat):Int)-1) by omega]
  exact As (k-1) ⟨by omega,hn⟩ (by omega) (Bk rfl)
 have hk0:k=0:=by simp only [decide_eq_false_iff_not] at ht7;omega
 have hab:a=b:=by have:=hx.2;rw [hk0] at this;simpa using this
 refine Z47 ?_;refine Z71 ?_;exact A7 (Ai A3) ⟨by rw [hab];simp,rfl⟩

theorem AG5 {x y z:Nat} (hx:x<4294967296) (hy:y<4294967296) (hz:z≤1):IntKind.u64.wrap (IntKind.u64.wrap (IntKind.u64.wrap (4294967296+(x:Int))-(y:Int))-(z:Int))=((4294967296+x-y-z:Nat):Int):=by
 simp only [IntKind.wrap_u64];omega
theorem AAf {q:Nat} (h:q≤1):IntKind.u64.wrap (1-(q:Int))=((1-q:Nat):Int):=by
 simp only [IntKind.wrap_u64];omega
section
variable (sa:Bool) (a:Nat) (sb:Bool) (b:Nat)
/-- The greater one, and the other. -/
def hiW:Bool×Nat:=if decide (a<b)=true then (sb,b) else (sa,a)
def loW:Bool×Nat:=if decide (a<b)=true then (sa,a) else (sb,b)
def Q5:Bool×Nat:=if (sa==sb)=true then (sa,a+b) else ((hiW sa a sb b).1,(hiW sa a sb b).2-(loW sa a sb b).2)
end
theorem AAg {sa:Bool} {a:Nat} {sb:Bool} {b:Nat}:(loW sa a sb b).2≤(hiW sa a sb b).2:=by
 unfold loW hiW
 split
 ·rename_i h;have:=of_decide_eq_true h;simp only;omega
 rename_i h;simp only [decide_eq_true_eq] at h;simp only;omega
theorem c87 (sa:Bool) (a:Nat) (sb:Bool) (b:Nat) (ha:a<B32 ^ 5) (hb:b<B32 ^ 5) (Hp:List AObj):AFun Tryz.prog 87 [.agg (wF sa (dig a)),.agg (wF sb (dig b))] Hp (.agg (wF (Q5 sa a sb b).1 (dig (Q5 sa a sb b).2))):=by
 refine Ae [.cell 4 100] [0,1] Tryz.func87 Tryz.ntmps87 (fun d=>?_)
 refine bb ?_;refine R.box ?_;refine O0 ?_;refine Wh ?_;refine Z1 ?_;refine Z82 ?_;refine A0 [2,3,4,5] ?_;refine M2 ?_;refine A0 [2,3,4,5,19] ?_
 refine A1 (fun ht19=>?_) (fun ht19=>?_)
 ·have had:Q5 sa a sb b=(sa,a+b):=if_pos ht19
  refine Z2 ?_;refine A0 [2,3,4,5,6] ?_;refine Z32 ?_;refine A0 [2,3,4,5,6,7] ?_
  refine Be (α:=Nat) (fun k=>⟨78,A4 2 (.ptr (oid Hp.length 0) 0) (A4 3 (.ptr (oid Hp.length 1) 0) (A4 4 (.ptr (oid Hp.length 2) 0) (A4 5 (.ptr (oid Hp.length 3) 0) (A4 6 (Bf (car a b k:Nat)) (A4 7 (A5 (k:Nat)) (fun _=>.any)))))),Hp,[.cells 100 (wF sa (dig a)),.cells 100 (wF sb (dig b)),.cells 100 [Ar false,Bf 0,Bf 0,Bf 0,Bf 0,Bf 0],.cells 100 (wF sa (S5 (a+b) k))],[],none⟩) (fun k=>k≤5) (fun k=>5-k) (0) (Ah _) (B0 (by rw [t2];rfl)) rfl (fun k hx=>?_)
  refine Z8 ?_;refine A0 [2,3,4,5,6,7,21] ?_
  refine A1 (fun ht21=>?_) (fun ht21=>?_)
  ·have hk:k<5:=by simp at ht21;omega
   refine Z44 ?_;refine Hm [0,0,3,7,0,0,48,112,255,0,1023,2047] 10 An (by kernel_rfl) ?_;refine qd ?_
   refine Ag (h:=J7 (hy:=S4 hk)) (hr:=?_)
   refine qd ?_
   refine Ag (h:=J7 (hy:=S4 hk)) (hr:=?_)
   refine Ag (h:=Er) (hr:=?_)
   refine Qu ?_
   refine A2 (h:=Er) (hr:=?_)
   refine A2 ?_;refine A0 [2,3,4,5,7,8] ?_;refine Dv ?_
   rw [n4 (by have:=Br a k;have:=Br b k;have:=t4 a b k;omega)]
   refine Z13 ?_
   rw [Sp,xp]
   refine AB7 ?_
   refine J9 jS (hput:=Ri hk) (hfit:=by simp;omega) ?_
   refine A0 [2,3,4,5,7,8] ?_;refine Z31 ?_
   rw [Sq (by have:=Br a k;have:=Br b k;have:=t4 a b k;omega),t7]
   refine A2 ?_;refine A0 [2,3,4,5,6,7] ?_;refine Z88 ?_;refine A0 [2,3,4,5,6,7] ?_;exact As (k+1) hk (by omega) (Bk rfl)
  have hke:k=5:=by simp at ht21;omega
  refine Z47 ?_;refine Dv ?_
  rw [hke,Rj]
  refine A2 ?_;refine F9 ?_;refine Z21 ?_;refine C4 ?_;exact AEz
 have had:Q5 sa a sb b=((hiW sa a sb b).1,(hiW sa a sb b).2-(loW sa a sb b).2):=if_neg (by rw [ht19];simp)
 refine Z3 ?_;refine Z76 ?_;refine A6 Tryz.call108 (AI6 a b ha hb _) ?_;refine A0 [2,3,4,5,47] ?_
 refine A1 (fun ht47=>?_) (fun ht47=>?_)
 ·have hhi:(hiW sa a sb b)=(sb,b):=if_pos ht47
  have hlo:(loW sa a sb b)=(sa,a):=if_pos ht47
  refine Z1 ?_;refine F9 ?_;refine F9 ?_;refine A0 [2,3,4,5] ?_;refine Z28 ?_;refine F9 ?_;refine A0 [2,3,4,5] ?_;refine Dk ?_;refine Z2 ?_;refine A0 [2,3,4,5,9] ?_;refine Z32 ?_;refine qy ?_
  refine Be (α:=Nat) (fun k=>⟨78,A4 2 (.ptr (oid Hp.length 0) 0) (A4 3 (.ptr (oid Hp.length 1) 0) (A4 4 (.ptr (oid Hp.length 2) 0) (A4 5 (.ptr (oid Hp.length 3) 0) (A4 9 (Bf (bor (hiW sa a sb b).2 (loW sa a sb b).2 k:Nat)) (A4 10 (A5 (k:Nat)) (fun _=>.any)))))),Hp,[.cells 100 (wF (hiW sa a sb b).1 (dig (hiW sa a sb b).2)),.cells 100 (wF (loW sa a sb b).1 (dig (loW sa a sb b).2)),.cells 100 [Ar false,Bf 0,Bf 0,Bf 0,Bf 0,Bf 0],.cells 100 (wF (hiW sa a sb b).1 (S5 ((hiW sa a sb b).2-(loW sa a sb b).2) k))],[],none⟩) (fun k=>k≤5) (fun k=>5-k) (0) (Ah _) (B0 (by rw [cn,hhi,hlo];rfl)) rfl (fun k hx=>?_)
  refine Z8 ?_;refine A0 [2,3,4,5,9,10,54] ?_
  refine A1 (fun ht54=>?_) (fun ht54=>?_)
  ·have hk:k<5:=by simp at ht54;omega
   refine Z44 ?_;refine ADs ?_
   refine Ag (h:=J7 (hy:=S4 hk)) (hr:=?_)
   refine Ag (h:=Er) (hr:=?_)
   refine qd ?_
   refine Ag (h:=J7 (hy:=S4 hk)) (hr:=?_)
   refine Ag (h:=Ie) (hr:=?_)
   refine Qu ?_
   refine A2 (h:=Ie) (hr:=?_)
   refine A2 ?_;refine A0 [2,3,4,5,10,11] ?_;refine Dv ?_
   rw [AG5 (Br _ k) (Br _ k) (iu _ _ k)]
   refine Z13 ?_
   rw [Sp,kc AAg]
   refine AB7 ?_
   refine J9 jS (hput:=Ri hk) (hfit:=by simp;omega) ?_
   refine A0 [2,3,4,5,10,11] ?_;refine Z31 ?_
   rw [Sq (by have:=Br (hiW sa a sb b).2 k;omega)]
   refine A2 (h:=Ie) (hr:=?_)
   rw [AAf (by have:=Br (hiW sa a sb b).2 k;omega),co]
   refine A2 ?_;refine qy ?_;refine Z88 ?_;exact ADf
  have hke:k=5:=by simp at ht54;omega
  refine Z47 ?_;refine Dv ?_
  rw [hke,Rj]
  refine A2 ?_;refine F9 ?_;exact ADy
 have hhi:(hiW sa a sb b)=(sa,a):=if_neg (by rw [ht47];simp)
 have hlo:(loW sa a sb b)=(sb,b):=if_neg (by rw [ht47];simp)
 refine Ja ?_;refine A0 [2,3,4,5,9] ?_;refine Z32 ?_;refine qy ?_
 refine Be (α:=Nat) (fun k=>⟨78,A4 2 (.ptr (oid Hp.length 0) 0) (A4 3 (.ptr (oid Hp.length 1) 0) (A4 4 (.ptr (oid Hp.length 2) 0) (A4 5 (.ptr (oid Hp.length 3) 0) (A4 9 (Bf (bor (hiW sa a sb b).2 (loW sa a sb b).2 k:Nat)) (A4 10 (A5 (k:Nat)) (fun _=>.any)))))),Hp,[.cells 100 (wF (hiW sa a sb b).1 (dig (hiW sa a sb b).2)),.cells 100 (wF (loW sa a sb b).1 (dig (loW sa a sb b).2)),.cells 100 [Ar false,Bf 0,Bf 0,Bf 0,Bf 0,Bf 0],.cells 100 (wF (hiW sa a sb b).1 (S5 ((hiW sa a sb b).2-(loW sa a sb b).2) k))],[],none⟩) (fun k=>k≤5) (fun k=>5-k) (0) (Ah _) (B0 (by rw [cn,hhi,hlo];rfl)) rfl (fun k hx=>?_)
 refine Z8 ?_;refine A0 [2,3,4,5,9,10,54] ?_
 refine A1 (fun ht54=>?_) (fun ht54=>?_)
 ·have hk:k<5:=by simp at ht54;omega
  refine Z44 ?_;refine ADs ?_
  refine Ag (h:=J7 (hy:=S4 hk)) (hr:=?_)
  refine Ag (h:=Er) (hr:=?_)
  refine qd ?_
  refine Ag (h:=J7 (hy:=S4 hk)) (hr:=?_)
  refine Ag (h:=Ie) (hr:=?_)
  refine Qu ?_
  refine A2 (h:=Ie) (hr:=?_)
  refine A2 ?_;refine A0 [2,3,4,5,10,11] ?_;refine Dv ?_
  rw [AG5 (Br _ k) (Br _ k) (iu _ _ k)]
  refine Z13 ?_
  rw [Sp,kc AAg]
  refine AB7 ?_
  refine J9 jS (hput:=Ri hk) (hfit:=by simp;omega) ?_
  refine A0 [2,3,4,5,10,11] ?_;refine Z31 ?_
  rw [Sq (by have:=Br (hiW sa a sb b).2 k;omega)]
  refine A2 (h:=Ie) (hr:=?_)
  rw [AAf (by have:=Br (hiW sa a sb b).2 k;omega),co]
  refine A2 ?_;refine qy ?_;refine Z88 ?_;exact ADf
 have hke:k=5:=by simp at ht54;omega
 refine Z47 ?_;refine Dv ?_
 rw [hke,Rj]
 refine A2 ?_;refine F9 ?_;exact ADy

set_option maxRecDepth 8000
/-! Multiplied digit by digit. -/
def iv (F:Nat→Nat):Nat:=F 0+4294967296*(F 1+4294967296*(F 2+4294967296*(F 3+4294967296*F 4)))
def n6 (F:Nat→Nat) (p v j:Nat):Nat:=if j=p then v else F j
theorem Gj (x y j:Nat) (hx:x<4294967296):dig (x+4294967296*y) (j+1)=dig y j:=by
 unfold dig
 rw [Nat.pow_succ,Ik (B32 ^ j),←Y3,show (x+4294967296*y) / B32=y by show (x+4294967296*y) / 4294967296=y;omega]
theorem Mz (x y:Nat) (hx:x<4294967296):dig (x+4294967296*y) 0=x:=by
 unfold dig
 simp only [Nat.pow_zero,Nat.div_one]
 show (x+4294967296*y) % 4294967296=x
 omega
theorem ki {F:Nat→Nat} (h:∀j,F j<4294967296):∀j,j<5→dig (iv F) j=F j:=by
 intro j hj
 unfold iv
 rcases j with _|_|_|_|_|j
 ·exact Mz _ _ (h 0)
 ·rw [Gj _ _ _ (h 0)];exact Mz _ _ (h 1)
 ·rw [Gj _ _ _ (h 0),Gj _ _ _ (h 1)];exact Mz _ _ (h 2)
 ·rw [Gj _ _ _ (h 0),Gj _ _ _ (h 1),Gj _ _ _ (h 2)];exact Mz _ _ (h 3)
 ·rw [Gj _ _ _ (h 0),Gj _ _ _ (h 1),Gj _ _ _ (h 2),Gj _ _ _ (h 3)]
  have:=Mz (F 4) 0 (h 4)
  simpa using this
 omega
theorem xv (F:Nat→Nat) (x c p:Nat) (hp:p<5):iv (n6 F p ((F p+x % 4294967296+c % 4294967296) % 4294967296))+((F p+x % 4294967296+c % 4294967296) / 4294967296+x / 4294967296+c / 4294967296)*B32 ^ (p+1)=iv F+(x+c)*B32 ^ p:=by
 unfold iv n6 B32
 rcases p with _|_|_|_|_|p
 ·simp only [Nat.reduceEqDiff,if_true,if_false,Nat.reducePow,Nat.reduceAdd,Bn];simp;omega
 ·simp only [Nat.reduceEqDiff,if_true,if_false,Nat.reducePow,Nat.reduceAdd,Bn];simp;omega
 ·simp only [Nat.reduceEqDiff,if_true,if_false,Nat.reducePow,Nat.reduceAdd,Bn];simp;omega
 ·simp only [Nat.reduceEqDiff,if_true,if_false,Nat.reducePow,Nat.reduceAdd,Bn];simp;omega
 ·simp only [Nat.reduceEqDiff,if_true,if_false,Nat.reducePow,Nat.reduceAdd,Bn];simp;omega
 omega
def Vf (a b i k:Nat):Nat:=(a % B32 ^ i)*b+dig a i*(b % B32 ^ k)*B32 ^ i
structure MulAt (F:Nat→Nat) (c a b i k:Nat):Prop where
 dg:∀j,F j<4294967296
 c2:c<8589934592
 eq:iv F+c*B32 ^ (i+k)=Vf a b i k
theorem n7 (a b i k:Nat):Vf a b i (k+1)=Vf a b i k+dig a i*dig b k*B32 ^ (i+k):=by
 unfold Vf
 rw [Jg b k,L5,Ec,Nat.pow_add]
 have:dig a i*(B32 ^ k*dig b k)*B32 ^ i=dig a i*dig b k*(B32 ^ i*B32 ^ k):=by simp only [Ik,Nat.mul_left_comm,Nat.mul_assoc]
 omega
theorem xw (a b i k:Nat):Vf a b i k≤a*b:=by
 have h1:Vf a b i k≤(a % B32 ^ (i+1))*b:=by
  unfold Vf
  rw [Jg a i,Ec]
  have:dig a i*(b % B32 ^ k)*B32 ^ i≤B32 ^ i*dig a i*b:=by
   rw [Nat.mul_right_comm,Ik (dig a i)]
   exact Y6 _ (Pi _ _)
  omega
 exact L4 h1 (L6 _ (Pi _ _))
theorem MulAt.start (a b:Nat):MulAt (fun _=>0) 0 a b 0 0:=⟨fun _=>by decide,by decide,by unfold Vf;simp [iv,Nf]⟩
theorem Gt {x y:Nat} (hx:x<4294967296) (hy:y<4294967296):x*y / 4294967296≤4294967294∧x*y<18446744073709551616:=by
 have:x*y≤4294967295*4294967295:=Nat.mul_le_mul (by omega) (by omega)
 omega
theorem MulAt.step {F:Nat→Nat} {c a b i k:Nat} (h:MulAt F c a b i k) (hp:i+k<5):MulAt (n6 F (i+k) ((F (i+k)+dig a i*dig b k % 4294967296+c % 4294967296) % 4294967296)) ((F (i+k)+dig a i*dig b k % 4294967296+c % 4294967296) / 4294967296+dig a i*dig b k / 4294967296+c / 4294967296) a b i (k+1):=by
 have hx:=Gt (Br a i) (Br b k)
 have hf:=h.dg (i+k)
 have hc:=h.c2
 refine ⟨fun j=>?_,by omega,?_⟩
 ·unfold n6
  split
  ·exact Gq _ (by decide)
  exact h.dg j
 have:=xv F (dig a i*dig b k) c (i+k) hp
 rw [n7,←h.eq]
 rw [show i+(k+1)=i+k+1 by omega,this,Ec]
 omega
theorem MulAt.idx {F:Nat→Nat} {c a b i k:Nat} (h:MulAt F c a b i k) (ha:a<B32 ^ 2) (hb:b<B32 ^ 2) (hi:i<2) (hc:k<2∨0<c):i+k<4:=by
 rcases Bh (i+k) 4 with h1|h1
 ·exact h1
 exfalso
 have hk:0<c:=by omega
 have h2:B32 ^ 4≤B32 ^ (i+k):=T6 (by decide) h1
 have h3:B32 ^ (i+k)≤c*B32 ^ (i+k):=Nat.le_mul_of_pos_left _ hk
 have h4:=xw a b i k
 have h5:a*b<B32 ^ 2*B32 ^ 2:=Nat.mul_lt_mul'' ha hb
 rw [←Nat.pow_add] at h5
 have h6:=h.eq
 have:B32 ^ (2+2)=B32 ^ 4:=rfl
 omega
theorem MulAt.next {F:Nat→Nat} {a b i k:Nat} (h:MulAt F 0 a b i k) (hb:b<B32 ^ 2) (hk:2≤k):MulAt F 0 a b (i+1) 0:=by
 refine ⟨h.dg,by decide,?_⟩
 have h1:=h.eq
 rw [Pj] at h1 ⊢
 rw [h1]
 unfold Vf
 have h2:b % B32 ^ k=b:=Nd (Cg hb (T6 (by decide) hk))
 rw [h2,Jg a i,Nat.pow_zero,Nf,Nat.mul_zero,Pj,Nat.add_zero,Ec]
 have:dig a i*b*B32 ^ i=B32 ^ i*dig a i*b:=by rw [Nat.mul_right_comm,Ik (dig a i)]
 omega
theorem MulAt.done {F:Nat→Nat} {a b:Nat} (h:MulAt F 0 a b 2 0) (ha:a<B32 ^ 2):∀j,j<5→F j=dig (a*b) j:=by
 intro j hj
 have h1:=h.eq
 have h2:Vf a b 2 0=a*b:=by
  unfold Vf
  rw [Nd ha,Nat.pow_zero,Nf]
  simp
 rw [h2,Pj,Nat.add_zero] at h1
 rw [←h1]
 exact (ki h.dg j hj).symm
set_option maxRecDepth 4000
theorem AG6 {x y:Nat} (hx:x<4294967296) (hy:y<4294967296):IntKind.u64.wrap ((x:Int)*(y:Int))=((x*y:Nat):Int):=by
 have:=Gt hx hy
 rw [IntKind.wrap_u64,show (x:Int)*(y:Int)=((x*y:Nat):Int) by simp]
 omega
theorem AAh {x:Nat} (h:x=0):(0:Int).tmod 4294967296=((x % 4294967296:Nat):Int):=by subst h;rfl
theorem AAi {x:Nat} (h:x=0):IntKind.u64.wrap ((0:Int).tdiv 4294967296)=((x / 4294967296:Nat):Int):=by subst h;rfl
theorem n8 {b k:Nat} (hb:b<B32 ^ 2) (hk:2≤k):dig b k=0:=Eh (Cg hb (T6 (by decide) hk))
theorem c88 (sa:Bool) (a:Nat) (sb:Bool) (b:Nat) (ha:a<B32 ^ 2) (hb:b<B32 ^ 2) (Hp:List AObj):AFun Tryz.prog 88 [.agg (wF sa (dig a)),.agg (wF sb (dig b))] Hp (.agg (wF (sa != sb) (dig (a*b)))):=by
 refine Ae [.cell 4 100] [0,1] Tryz.func88 Tryz.ntmps88 (fun d=>?_)
 refine Z1 ?_;refine O0 ?_;refine Wh ?_;refine Z1 ?_;refine Z13 ?_;refine Z82 ?_;refine A0 [2,3,4,5] ?_;refine Z32 ?_;refine A0 [2,3,4,5,6] ?_
 refine Be (α:=Nat×(Nat→Nat)) (fun x=>⟨68,A4 2 (.ro (wF sa (dig a))) (A4 3 (.ro (wF sb (dig b))) (A4 4 (.ptr (oid Hp.length 0) 0) (A4 5 (.ptr (oid Hp.length 1) 0) (A4 6 (A5 (x.1:Nat)) (fun _=>.any))))),Hp,[.cells 100 [Ar false,Bf 0,Bf 0,Bf 0,Bf 0,Bf 0],.cells 100 (wF (sa != sb) (x.2))],[],none⟩) (fun x=>x.1≤2∧MulAt x.2 0 a b x.1 0) (fun x=>2-x.1) ((0,fun _=>0)) ⟨Ah _,.start a b⟩ (B0 rfl) rfl (fun x hx=>?_)
 obtain ⟨i,F0⟩:=x
 simp only at hx ⊢
 refine Z8 ?_;refine A0 [2,3,4,5,6,18] ?_
 refine A1 (fun ht18=>?_) (fun ht18=>?_)
 ·have hi:i<2:=by simp at ht18;omega
  refine Z44 ?_;refine Z2 ?_;refine A0 [2,3,4,5,6,7] ?_;refine Z2 ?_;refine qz ?_
  refine Be (α:=Nat×Nat×(Nat→Nat)) (fun y=>⟨68,A4 2 (.ro (wF sa (dig a))) (A4 3 (.ro (wF sb (dig b))) (A4 4 (.ptr (oid Hp.length 0) 0) (A4 5 (.ptr (oid Hp.length 1) 0) (A4 6 (A5 (i:Nat)) (A4 7 (Bf (y.2.1:Nat)) (A4 8 (A5 (y.1:Nat)) (fun _=>.any))))))),Hp,[.cells 100 [Ar false,Bf 0,Bf 0,Bf 0,Bf 0,Bf 0],.cells 100 (wF (sa != sb) (y.2.2))],[],none⟩) (fun y=>MulAt y.2.2 y.2.1 a b i y.1) (fun y=>5-(i+y.1)) ((0,0,F0)) hx.2 (B0 rfl) rfl (fun y hm=>?_)
  obtain ⟨k,c,F⟩:=y
  simp only at hm ⊢
  refine Z27 ?_;refine Kl ?_;refine A0 [2,3,4,5,6,7,8,26] ?_
  refine A1 (fun ht26=>?_) (fun ht26=>?_)
  ·have hp4:=hm.idx ha hb hi (by have h26:=ht26;simp at h26;omega)
   refine Z44 ?_;refine Z2 ?_;refine A0 [2,3,4,5,6,7,8,9] ?_;refine Z8 ?_;refine A0 [2,3,4,5,6,7,8,9,30] ?_
   refine A1 (fun ht30=>?_) (fun ht30=>?_)
   ·have hk2:k<2:=by simp at ht30;omega
    refine W.draw0 [0,0,3,7,0,0,48,112,255,511] 8 An (by kernel_rfl) ?_;refine Z17 ?_;refine fm (i) jU Tryz.sizeOf77 (by omega) (hoff:=Q4 (by omega)) ?_;refine Z45 ?_;refine fm (k) jU Tryz.sizeOf77 (by omega) (hoff:=Q4 (by omega)) ?_;refine Qu ?_;refine Z0 ?_;refine A0 [2,3,4,5,6,7,8,9] ?_;refine Dk ?_;refine Dv ?_
    first|rw [AG6 (Br a i) (Br b k)]|skip
    refine AEm ?_
    refine A2 (h:=J7 (hy:=S4 (by omega))) (hr:=?_)
    refine Z0 ?_
    first|rw [Sp (dig a i*dig b k)]|rw [AAh hz]
    refine A2 (h:=Er) (hr:=?_)
    refine Z0 ?_
    rw [Sp c]
    refine A2 (h:=Er) (hr:=?_)
    refine A2 ?_;refine wv ?_;refine Dv ?_
    rw [n4 (by have:=Gt (Br a i) (Br b k);have:=hm.dg (i+k);have:=hm.c2;omega)]
    refine Z67 ?_
    rw [Sp (F (i+k)+dig a i*dig b k % 4294967296+c % 4294967296)]
    refine AEk ?_
    refine J9 jS (hput:=Zd (g:=n6 F (i+k) ((F (i+k)+dig a i*dig b k % 4294967296+c % 4294967296) % 4294967296)) (by omega) (if_pos rfl) (fun j hj=>if_neg hj)) (hfit:=by simp;omega) ?_
    refine wv ?_;refine Z31 ?_
    rw [Sq (x:=(F (i+k)+dig a i*dig b k % 4294967296+c % 4294967296)) (by have:=Gt (Br a i) (Br b k);have:=hm.dg (i+k);have:=hm.c2;omega)]
    refine Z0 ?_
    first|rw [Sq (x:=dig a i*dig b k) (Gt (Br a i) (Br b k)).2]|rw [AAi hz]
    refine A2 (h:=Er) (hr:=?_)
    refine Z0 ?_
    rw [Sq (x:=c) (by have:=Gt (Br a i) (Br b k);have:=hm.dg (i+k);have:=hm.c2;omega)]
    refine A2 (h:=Er) (hr:=?_)
    rw [n4 (by have:=Gt (Br a i) (Br b k);have:=hm.dg (i+k);have:=hm.c2;omega)]
    refine A2 ?_;refine qz ?_;refine Z88 ?_;refine qz ?_
    refine As (k+1,_,_) (hm.step (by omega)) (by show 5-(i+(k+1))<5-(i+k);omega) (Bk rfl)
   have hk2:2≤k:=by simp at ht30;omega
   have hz:dig a i*dig b k=0:=by rw [n8 hb hk2,Nat.mul_zero]
   refine Z3 ?_;refine Dv ?_
   first|rw [AG6 (Br a i) (Br b k)]|skip
   refine AEm ?_
   refine A2 (h:=J7 (hy:=S4 (by omega))) (hr:=?_)
   refine Z0 ?_
   first|rw [Sp (dig a i*dig b k)]|rw [AAh hz]
   refine A2 (h:=Er) (hr:=?_)
   refine Z0 ?_
   rw [Sp c]
   refine A2 (h:=Er) (hr:=?_)
   refine A2 ?_;refine wv ?_;refine Dv ?_
   rw [n4 (by have:=Gt (Br a i) (Br b k);have:=hm.dg (i+k);have:=hm.c2;omega)]
   refine Z67 ?_
   rw [Sp (F (i+k)+dig a i*dig b k % 4294967296+c % 4294967296)]
   refine AEk ?_
   refine J9 jS (hput:=Zd (g:=n6 F (i+k) ((F (i+k)+dig a i*dig b k % 4294967296+c % 4294967296) % 4294967296)) (by omega) (if_pos rfl) (fun j hj=>if_neg hj)) (hfit:=by simp;omega) ?_
   refine wv ?_;refine Z31 ?_
   rw [Sq (x:=(F (i+k)+dig a i*dig b k % 4294967296+c % 4294967296)) (by have:=Gt (Br a i) (Br b k);have:=hm.dg (i+k);have:=hm.c2;omega)]
   refine Z0 ?_
   first|rw [Sq (x:=dig a i*dig b k) (Gt (Br a i) (Br b k)).2]|rw [AAi hz]
   refine A2 (h:=Er) (hr:=?_)
   refine Z0 ?_
   rw [Sq (x:=c) (by have:=Gt (Br a i) (Br b k);have:=hm.dg (i+k);have:=hm.c2;omega)]
   refine A2 (h:=Er) (hr:=?_)
   rw [n4 (by have:=Gt (Br a i) (Br b k);have:=hm.dg (i+k);have:=hm.c2;omega)]
   refine A2 ?_;refine qz ?_;refine Z88 ?_;refine qz ?_
   refine As (k+1,_,_) (hm.step (by omega)) (by show 5-(i+(k+1))<5-(i+k);omega) (Bk rfl)
  have hkc:2≤k∧c=0:=by simp at ht26;omega
  obtain ⟨hk2,hc0⟩:=hkc
  subst hc0
  refine Z38 ?_;refine K.lpE ?_;refine Z88 ?_;refine A0 [2,3,4,5,6] ?_
  refine As (i+1,F) ⟨hi,hm.next hb hk2⟩ (by show 2-(i+1)<2-i;omega) (Bk rfl)
 have hie:i=2:=by have:=hx.1;simp at ht18;omega
 have hF:=MulAt.done (hie ▸ hx.2) ha
 refine Z47 ?_;refine Z2 ?_;refine F9 ?_;refine Z21 ?_;exact A7 (Ai (Ch jA jS)) ⟨by rw [hF 0 (by decide),hF 1 (by decide),hF 2 (by decide),hF 3 (by decide),hF 4 (by decide)],rfl⟩

/-- A wide number as a number of 64 bits. -/
def E5 (s:Bool) (m:Nat):Int×Int:=if (s&&decide (m≤9223372036854775808))=true then (-(m:Int),0) else if ((!s)&&decide (m≤9223372036854775807))=true then ((m:Int),0) else (0,4)
def Gk (s:Bool) (m:Nat):Int:=if s then -(m:Int) else m
theorem It (s:Bool) (m:Nat):E5 s m=if -9223372036854775808≤Gk s m∧Gk s m≤9223372036854775807 then (Gk s m,0) else (0,4):=by
 unfold E5 Gk
 cases s
 ·simp only [Bl,At,B5,A8,if_false]
  by_cases h:m≤9223372036854775807
  ·rw [if_pos (by simpa using h),if_pos ⟨by omega,by omega⟩]
  rw [if_neg (by simpa using h),if_neg (by omega)]
 simp only [B5,Aq,Bl,A8,if_false,if_true]
 by_cases h:m≤9223372036854775808
 ·rw [if_pos (by simpa using h),if_pos ⟨by omega,by omega⟩]
 rw [if_neg (by simpa using h),if_neg (by omega)]
theorem Vg {x y:Nat} (hx:x<4294967296) (hy:y<4294967296):IntKind.u64.wrap (IntKind.u64.wrap ((y:Int)*4294967296)+(x:Int))=((x+4294967296*y:Nat):Int):=by
 simp only [IntKind.wrap_u64];omega
theorem n9 {m:Nat} (hm:m<B32 ^ 5) (h:(decide (0<((dig m 2+dig m 3+dig m 4:Nat):Int)) || decide (4294967296≤((dig m 1:Nat):Int)))=true):18446744073709551616≤m:=by
 rcases Bh m 18446744073709551616 with h1|h1
 ·exfalso
  have e2:dig m 2=0:=Eh (Cg h1 (by decide))
  have e3:dig m 3=0:=Eh (Cg h1 (by decide))
  have e4:dig m 4=0:=Eh (Cg h1 (by decide))
  have:=Br m 1
  rw [e2,e3,e4] at h
  simp at h
  omega
 exact h1
theorem na {m:Nat} (hm:m<B32 ^ 5) (h:(decide (0<((dig m 2+dig m 3+dig m 4:Nat):Int)) || decide (4294967296≤((dig m 1:Nat):Int)))=false):dig m 0+4294967296*dig m 1=m:=by
 simp only [Cm,decide_eq_false_iff_not] at h
 have h2:dig m 2=0:=by omega
 have h3:dig m 3=0:=by omega
 have h4:dig m 4=0:=by omega
 have e:=ki (F:=dig m) (fun j=>Br m j)
 have m0:=Nc m 4294967296
 have m1:=Nc (m / 4294967296) 4294967296
 unfold dig at *
 simp only [B32,Nat.reducePow,Nat.div_one,Nat.pow_zero,Nat.pow_one] at *
 omega
theorem xx {s:Bool} {m:Nat} (h:18446744073709551616≤m):E5 s m=(0,4):=by
 unfold E5
 rw [if_neg (by simp;omega),if_neg (by simp;omega)]
theorem AG7 {u:Nat} (h:u≤9223372036854775808):IntKind.i64.wrap (IntKind.u64.wrap (0-(u:Int))) = -(u:Int):=by
 simp only [IntKind.wrap_u64,IntKind.wrap_i64];omega
theorem AG8 {u:Nat} (h:u≤9223372036854775807):IntKind.i64.wrap (u:Int)=(u:Int):=by
 simp only [IntKind.wrap_i64];omega
theorem c90 (s:Bool) (m:Nat) (hm:m<B32 ^ 5) (Hp:List AObj):AFun Tryz.prog 90 [.agg (wF s (dig m))] Hp (.tup [A5 (E5 s m).1,A5 (E5 s m).2]):=by
 refine Ae [.tmp 2,.tmp 3] [0] Tryz.func90 Tryz.ntmps90 (fun d=>?_)
 refine Z18 ?_;refine A0 [1] ?_;refine Z2 ?_;refine U4 (1) jU Tryz.sizeOf77 (by decide) (hoff:=Q4 (by decide)) ?_;refine Z13 ?_;refine U4 (0) jU Tryz.sizeOf77 (by decide) (hoff:=Q4 (by decide)) ?_;refine A2 ?_
 refine A2 (h:=Er) (hr:=?_)
 rw [Vg (Br m 0) (Br m 1)]
 refine A2 ?_;refine A0 [1,4] ?_;refine Z32 ?_;refine U4 (2) jU Tryz.sizeOf77 (by decide) (hoff:=Q4 (by decide)) ?_;refine Z0 ?_;refine U4 (3) jU Tryz.sizeOf77 (by decide) (hoff:=Q4 (by decide)) ?_;refine A2 ?_
 refine A2 (h:=Er) (hr:=?_)
 refine A2 ?_;refine U4 (4) jU Tryz.sizeOf77 (by decide) (hoff:=Q4 (by decide)) ?_;refine A2 ?_
 refine A2 (h:=Er) (hr:=?_)
 rw [n4 (by have:=Br m 2;have:=Br m 3;have:=Br m 4;omega)]
 refine gb ?_;refine G.indexArrRo (1) jU Tryz.sizeOf77 (by decide) (hoff:=Q4 (by decide)) ?_;refine Kl ?_;refine A0 [1,4,30] ?_
 refine A1 (fun ht30=>?_) (fun ht30=>?_)
 ·have hw:=xx (s:=s) (n9 hm ht30)
  refine m6 ?_;exact AB1
 have hu:=na hm ht30
 rw [hu]
 refine Z66 ?_;refine Kl ?_;refine A0 [1,4,36] ?_
 refine A1 (fun ht36=>?_) (fun ht36=>?_)
 ·have hw:E5 s m=(-(m:Int),0):=if_pos (by simp at ht36 ⊢;exact ⟨ht36.1,by omega⟩)
  refine Z2 ?_
  refine A2 (h:=Ie) (hr:=?_)
  refine A2 ?_
  rw [AG7 (by simp at ht36;omega)]
  refine Z0 ?_;refine Z54 ?_;exact AB1
 refine Mt ?_;refine Z29 ?_;refine A2 ?_;refine A0 [4,46] ?_
 refine A1 (fun ht46=>?_) (fun ht46=>?_)
 ·have hw:E5 s m=((m:Int),0):=by
   unfold E5
   rw [if_neg (by simp at ht46 ⊢;simp [ht46.1]),if_pos (by simp at ht46 ⊢;exact ⟨ht46.1,by omega⟩)]
  refine Z1 ?_
  rw [AG8 (by simp at ht46;omega)]
  refine Z0 ?_;refine Z54 ?_;exact AB1
 have hw:E5 s m=(0,4):=by
  unfold E5
  rw [if_neg (by simp at ht36 ⊢;intro hs;have:=ht36 hs;omega),if_neg (by simp at ht46 ⊢;intro hs;have:=ht46 hs;omega)]
 refine Z84 ?_;refine Z54 ?_;exact A7 (Aj A3 A3) ⟨by rw [hw],rfl⟩

/-- ref16.num -/
def nb (s:Bool) (m:Nat):Rs:=if ((E5 s m).2 != 0)=true then (noV,(E5 s m).2) else (⟨1,(E5 s m).1,[]⟩,0)
theorem c61 (s:Bool) (m:Nat) (hm:m<B32 ^ 5) (Hp:List AObj):AFun Tryz.prog 61 [.agg (wF s (dig m))] Hp (My (nb s m)):=by
 refine Ae [.cell 2 44,.tmp 3] [0] Tryz.func61 Tryz.ntmps61 (fun d=>?_)
 refine Z2 ?_;refine Z55 ?_;refine A0 [1,2] ?_;refine Z2 ?_;refine A6 Tryz.call90 (c90 s m hm _) ?_;refine Z67 ?_;refine A0 [2,4,5] ?_;refine Z8 ?_;refine A0 [2,4,5,12] ?_
 refine A1 (fun ht12=>?_) (fun ht12=>?_)
 ·have hw:nb s m=(noV,(E5 s m).2):=if_pos ht12
  refine Z48 ?_;refine A2 ?_;refine Z7 ?_;refine Z54 ?_;refine C4 ?_;exact wt
 have hw:nb s m=(⟨1,(E5 s m).1,[]⟩,0):=if_neg (by rw [ht12];simp)
 refine Ja ?_;refine Z14 ?_;refine Z54 ?_;exact wt

theorem c59 (b:Bool) (Hp:List AObj):AFun Tryz.prog 59 [Ar b] Hp (Ba (Dl b)):=by
 refine Ae [.cell 2 44] [0] Tryz.func59 Tryz.ntmps59 (fun d=>?_)
 refine b7 ?_;refine Z32 ?_;refine A0 [2,3] ?_
 refine A1 (fun ht3=>?_) (fun ht3=>?_)
 ·have hb:b=true:=ht3
  refine Z48 ?_;refine Z22 ?_;refine C4 ?_;exact AF0
 have hb:b=false:=ht3
 refine Z3 ?_;refine Z48 ?_;refine Z22 ?_;exact AF0

theorem AG9 {x y:Nat} (h:x<18446744073709551616):IntKind.u64.wrap ((x:Int).tdiv (y:Int))=((x / y:Nat):Int):=by
 have:x / y≤x:=T0 x y
 rw [To (by omega),IntKind.wrap_u64,←Int.natCast_ediv]
 generalize x / y=z at *
 omega
theorem AGa (x y:Nat):(x:Int).tmod (y:Int)=((x % y:Nat):Int):=by
 rw [Tp (by omega),←Int.natCast_emod]
theorem cq {s:Bool} {q:Nat} (h:q<18446744073709551616):[Ar s,Bf (q % 4294967296:Nat),Bf (q / 4294967296:Nat),Bf 0,Bf 0,Bf 0]=wF s (dig q):=by
 have e2:dig q 2=0:=Eh (Cg h (by decide))
 have e3:dig q 3=0:=Eh (Cg h (by decide))
 have e4:dig q 4=0:=Eh (Cg h (by decide))
 unfold wF
 rw [kg,tc,e2,e3,e4,Nd (show q / 4294967296<4294967296 by omega)]
 rfl
theorem Xd {m:Nat} (h:m<18446744073709551616):dig m 0+4294967296*dig m 1=m:=by
 rw [kg,tc]
 omega
theorem c89 (a b:Int) (a0 : -9223372036854775808≤a) (a1:a≤9223372036854775807) (b0 : -9223372036854775808≤b) (b1:b≤9223372036854775807) (hb:b≠0) (Hp:List AObj):AFun Tryz.prog 89 [A5 a,A5 b] Hp (.tup [.agg (wF (decide (a<0) != decide (b<0)) (dig (a.natAbs / b.natAbs))),.agg (wF (decide (a<0)) (dig (a.natAbs % b.natAbs)))]):=by
 have hA:a.natAbs<18446744073709551616:=by omega
 have hB:b.natAbs<18446744073709551616:=by omega
 have hB0:((b.natAbs:Nat):Int)≠0:=by omega
 have hq:(a.natAbs / b.natAbs)<18446744073709551616:=Ph (T0 _ _) hA
 have hr:(a.natAbs % b.natAbs)<18446744073709551616:=Ph (Pi _ _) hA
 refine Ae [.cell 4 100,.cell 5 100] [0,1] Tryz.func89 Tryz.ntmps89 (fun d=>?_)
 refine Z98 ?_;refine O0 ?_;refine A0 [0,1,4,5] ?_;refine Z2 ?_;refine A6 Tryz.call63 (n5 a a0 a1 _) ?_;refine A2 ?_;refine A6 Tryz.call63 (n5 b b0 b1 _) ?_;refine O0 ?_;refine ql ?_;refine A0 [4,5,6,7] ?_;refine Hm [0,1,3,7,0,16,48,127,0,256,768,1792,0,4096,12288,32512,255,131071] 17 An (by kernel_rfl) ?_;refine Ag ?_;refine U3 (1) jU Tryz.sizeOf77 (by decide) ?_;refine Z45 ?_;refine U3 (0) jU Tryz.sizeOf77 (by decide) ?_;refine Ag ?_
 refine Ag (h:=Er) (hr:=?_)
 refine Ag ?_;refine U3 (1) jU Tryz.sizeOf77 (by decide) ?_;refine Z45 ?_;refine U3 (0) jU Tryz.sizeOf77 (by decide) ?_;refine Ag ?_
 refine Ag (h:=Er) (hr:=?_)
 refine Qu ?_;refine A2 ?_;refine A0 [4,5,6,7,8,9] ?_;refine Hm [0,0,3,0,0,24,7,127] 7 An (by kernel_rfl) ?_
 rw [Vg (Br a.natAbs 0) (Br a.natAbs 1),Vg (Br b.natAbs 0) (Br b.natAbs 1),Xd hA,Xd hB]
 refine Z17 ?_
 refine Ag (h:=Q.quo (h0:=fun _=>hB0)) (hr:=?_)
 refine Z17 ?_
 refine Ag (h:=Q.rem (h0:=fun _=>hB0)) (hr:=?_)
 refine Qu ?_;refine A2 ?_;refine A0 [4,5,6,7,10,11] ?_;refine Dv ?_
 rw [AG9 hA,AGa]
 refine Z67 ?_;refine Z82 ?_;refine A0 [4,5,6,10,11,12] ?_;refine Z39 ?_
 rw [Sp (a.natAbs / b.natAbs),Sq hq]
 refine vm ?_;refine Z7 ?_;refine vj ?_;refine A0 [4,5,6,11,12] ?_;refine Z1 ?_;refine Z82 ?_;refine A0 [4,5,11,12,13] ?_;refine Z39 ?_
 rw [Sp (a.natAbs % b.natAbs),Sq hr]
 refine vm ?_;refine Z7 ?_;refine vj ?_;refine A0 [4,5,12,13] ?_
 refine Mp [0,0,1,7] [2] [.q 2 [] [],.s [] (some 0) [] []] (fun _=>Hp) (fun B=>[.cells 100 (if B 0=true then [Ar (decide (a<0) != decide (b<0)),Bf ((a.natAbs / b.natAbs) % 4294967296:Nat),Bf ((a.natAbs / b.natAbs) / 4294967296:Nat),Bf 0,Bf 0,Bf 0] else [Ar false,Bf 0,Bf 0,Bf 0,Bf 0,Bf 0]),.cells 100 [Ar false,Bf 0,Bf 0,Bf 0,Bf 0,Bf 0],.cells 100 (wF (decide (a<0)) (dig a.natAbs)),.cells 100 (wF (decide (b<0)) (dig b.natAbs)),.cells 100 [Ar (decide (a<0) != decide (b<0)),Bf ((a.natAbs / b.natAbs) % 4294967296:Nat),Bf ((a.natAbs / b.natAbs) / 4294967296:Nat),Bf 0,Bf 0,Bf 0],.cells 100 [Ar (decide (a<0)),Bf ((a.natAbs % b.natAbs) % 4294967296:Nat),Bf ((a.natAbs % b.natAbs) / 4294967296:Nat),Bf 0,Bf 0,Bf 0]]) An (by kernel_rfl) rfl rfl (fun _=>rfl) ?_
 apply Y.q
 ·intro B hT hF
  refine Z17 ?_;exact D.end rfl rfl
 case hTF=>decide
 refine Y.storeOwn (u:=Hp.length) (n:=0) (t':=100) (cs:=[Ar false,Bf 0,Bf 0,Bf 0,Bf 0,Bf 0]) (cs':=[Ar (decide (a<0) != decide (b<0)),Bf ((a.natAbs / b.natAbs) % 4294967296:Nat),Bf ((a.natAbs / b.natAbs) / 4294967296:Nat),Bf 0,Bf 0,Bf 0]) Tryz.sizeOf100 (fun B hB=>⟨rfl,by simp only [hB];rfl,by simp [upd],rfl⟩) ?_
 refine Oo (tn:=[2]) (O:=[.cells 100 [Ar (decide (a<0) != decide (b<0)),Bf ((a.natAbs / b.natAbs) % 4294967296:Nat),Bf ((a.natAbs / b.natAbs) / 4294967296:Nat),Bf 0,Bf 0,Bf 0],.cells 100 [Ar false,Bf 0,Bf 0,Bf 0,Bf 0,Bf 0],.cells 100 (wF (decide (a<0)) (dig a.natAbs)),.cells 100 (wF (decide (b<0)) (dig b.natAbs)),.cells 100 [Ar (decide (a<0) != decide (b<0)),Bf ((a.natAbs / b.natAbs) % 4294967296:Nat),Bf ((a.natAbs / b.natAbs) / 4294967296:Nat),Bf 0,Bf 0,Bf 0],.cells 100 [Ar (decide (a<0)),Bf ((a.natAbs % b.natAbs) % 4294967296:Nat),Bf ((a.natAbs % b.natAbs) / 4294967296:Nat),Bf 0,Bf 0,Bf 0]]) ?_;refine F9 ?_;refine Z12 ?_;exact A7 (Aj (Ch jA jS) (Ch jA jS)) ⟨by rw [cq hq,cq hr],rfl⟩

/-- ref04.Before -/
def Gu (a b:Val):Bool:=if (a.kind != b.kind)=true then decide (a.kind<b.kind) else if (a.kind != 2)=true then decide (a.n<b.n) else decide (Lib.compareBytes a.s b.s<0)
theorem xy {s t:Str} {k:Nat} (hs:k<s.length) (ht:k<t.length) (he:s[k]=t[k]):Lib.compareBytes (s.drop k) (t.drop k)=Lib.compareBytes (s.drop (k+1)) (t.drop (k+1)):=by
 rw [Gx hs,Gx ht,Lib.compareBytes,he,if_neg (by simp),if_neg (by simp)]
theorem xz {s t:Str} {k:Nat} (hs:k<s.length) (ht:k<t.length) (he:s[k]≠t[k]):decide (Lib.compareBytes (s.drop k) (t.drop k)<0)=decide ((s[k].toNat:Int)<(t[k].toNat:Int)):=by
 rw [Gx hs,Gx ht,Lib.compareBytes]
 have e1:s[k]<t[k]↔s[k].toNat<t[k].toNat:=T7
 have e2:t[k]<s[k]↔t[k].toNat<s[k].toNat:=T7
 have e3:s[k].toNat≠t[k].toNat:=fun e=>he (Ng.1 e)
 by_cases h:s[k]<t[k]
 ·rw [if_pos h,decide_eq_true (show (-1:Int)<0 by decide),decide_eq_true (by have:=e1.1 h;omega)]
 have hnl:¬s[k].toNat<t[k].toNat:=fun h'=>h (e1.2 h')
 rw [if_neg h,if_pos (e2.2 (by omega)),decide_eq_false (show ¬(1:Int)<0 by decide),decide_eq_false (by omega)]
theorem ABv {s t:Str} {k:Nat} (hs:k≤s.length) (ht:k≤t.length) (h:¬(k<s.length∧k<t.length)):decide (Lib.compareBytes (s.drop k) (t.drop k)<0)=decide ((s.length:Int)<(t.length:Int)):=by
 by_cases h1:k<s.length
 ·have h2:t.length=k:=by omega
  rw [Qi (l:=t) (by omega),Gx h1]
  rw [decide_eq_false (show ¬Lib.compareBytes _ _<0 by rw [Lib.compareBytes];decide),decide_eq_false (by omega)]
 rw [Qi (l:=s) (by omega)]
 by_cases h2:k<t.length
 ·rw [Gx h2]
  rw [decide_eq_true (show Lib.compareBytes _ _<0 by rw [Lib.compareBytes];decide),decide_eq_true (by omega)]
 rw [Qi (l:=t) (by omega)]
 rw [decide_eq_false (show ¬Lib.compareBytes _ _<0 by rw [Lib.compareBytes];decide),decide_eq_false (by omega)]
theorem c86 (a b:Val) (ha:a.s.length≤1048576) (Hp:List AObj):AFun Tryz.prog 86 [Ba a,Ba b] Hp (Ar (Gu a b)):=by
 refine Ae [.tmp 4] [0,1] Tryz.func86 Tryz.ntmps86 (fun d=>?_)
 refine fq ?_;refine M2 ?_;refine A0 [2,3,10] ?_
 refine A1 (fun ht10=>?_) (fun ht10=>?_)
 ·have hm:Gu a b=decide (a.kind<b.kind):=if_pos ht10
  refine Z39 ?_;refine Ua ?_;exact Z23
 have e1:¬(a.kind != b.kind)=true:=by rw [ht10];simp
 refine Z66 ?_;refine A0 [2,3,18] ?_
 refine A1 (fun ht18=>?_) (fun ht18=>?_)
 ·have hm:Gu a b=decide (a.n<b.n):=by unfold Gu;rw [if_neg e1,if_pos ht18]
  refine Z39 ?_;refine Ua ?_;exact Z23
 have hm:Gu a b=decide (Lib.compareBytes a.s b.s<0):=by unfold Gu;rw [if_neg e1,if_neg (by rw [ht18];simp)]
 refine Pq ?_;refine A0 [2,3,5] ?_
 refine Be (α:=Nat) (fun k=>⟨63,A4 2 (.ro [A5 a.kind,A5 a.n,Ax a.s]) (A4 3 (.ro [A5 b.kind,A5 b.n,Ax b.s]) (A4 5 (A5 (k:Nat)) (fun _=>.any))),Hp,[],[],none⟩) (fun k=>k≤a.s.length∧k≤b.s.length∧Lib.compareBytes a.s b.s=Lib.compareBytes (a.s.drop k) (b.s.drop k)) (fun k=>a.s.length-k) (0) ⟨Ah _,Ah _,rfl⟩ (B0 rfl) rfl (fun k hx=>?_)
 refine Z76 ?_;refine Z53 ?_;refine Z50 ?_;refine A0 [2,3,5,35] ?_
 refine A1 (fun ht35=>?_) (fun ht35=>?_)
 ·have hk:k<a.s.length∧k<b.s.length:=by have h35:=ht35;simp at h35;exact h35
  refine Z44 ?_;refine Hm [0,1,0,7,0,16,0,112,255] 8 An (by kernel_rfl) ?_;refine Z45 ?_
  refine Ag (h:=Ft k a.s[k] (fun _=>Aa hk.1)) (hr:=?_)
  refine Z45 ?_
  refine Ag (h:=Ft k b.s[k] (fun _=>Aa hk.2)) (hr:=?_)
  refine Fx ?_;refine A2 ?_;refine A0 [2,3,5,46] ?_
  refine A1 (fun ht46=>?_) (fun ht46=>?_)
  ·have hd:a.s[k]≠b.s[k]:=fun e=>by rw [e] at ht46;simp at ht46
   refine Hm [0,1,0,7,0,16,0,112,255,511] 8 An (by kernel_rfl) ?_;refine Z45 ?_
   refine Ag (h:=Ft k a.s[k] (fun _=>Aa hk.1)) (hr:=?_)
   refine Z45 ?_
   refine Ag (h:=Ft k b.s[k] (fun _=>Aa hk.2)) (hr:=?_)
   refine Fx ?_;refine Ua ?_;refine Z41 ?_;exact A7 (Ai A3) ⟨by rw [hm,hx.2.2,xz hk.1 hk.2 hd],rfl⟩
  have hd:a.s[k]=b.s[k]:=Ng.1 (by have h46:((a.s[k].toNat:Nat):Int)=(b.s[k].toNat:Int):=(by simpa using ht46);omega)
  refine Z79 ?_;refine A0 [2,3,5] ?_;exact As (k+1) ⟨hk.1,hk.2,by rw [hx.2.2];exact xy hk.1 hk.2 hd⟩ (by omega) (Bk rfl)
 have hk:¬(k<a.s.length∧k<b.s.length):=by have h35:=ht35;simp at h35;omega
 refine Z47 ?_;refine Z39 ?_;refine Z93 ?_;refine Z21 ?_;exact A7 (Ai A3) ⟨by rw [hm,hx.2.2,ABv hx.1 hx.2.1 hk],rfl⟩

set_option maxRecDepth 8000
/-! The reference's Bin is the program's. -/
theorem ABw (t:Str) (c:Int):(D4 t==3)=(Ea t c).2:=by
 unfold Ea
 by_cases h1:(t==[61])=true
 ·rw [if_pos h1,eq_of_beq h1];kernel_rfl
 rw [if_neg h1]
 by_cases h2:(t==[33,61])=true
 ·rw [if_pos h2,eq_of_beq h2];kernel_rfl
 rw [if_neg h2]
 by_cases h3:(t==[60])=true
 ·rw [if_pos h3,eq_of_beq h3];kernel_rfl
 rw [if_neg h3]
 by_cases h4:(t==[60,61])=true
 ·rw [if_pos h4,eq_of_beq h4];kernel_rfl
 rw [if_neg h4]
 by_cases h5:(t==[62])=true
 ·rw [if_pos h5,eq_of_beq h5];kernel_rfl
 rw [if_neg h5]
 by_cases h6:(t==[62,61])=true
 ·rw [if_pos h6,eq_of_beq h6];kernel_rfl
 rw [if_neg h6]
 show (D4 t==3)=false
 cases h:D4 t==3 with
 | false=>rfl
 | true =>
  exfalso
  have h':D4 t=3:=by simpa using h
  unfold D4 at h'
  split at h'
  ·rename_i i hi
   have e:i=3:=by omega
   subst e
   obtain ⟨hl,hp,_⟩:=Hj.1 hi
   have hm:t∈levels[3]:=by simpa using hp
   have:t∈([[61],[33,61],[60],[60,61],[62],[62,61]]:List Str):=hm
   simp only [C2,Js,or_false] at this
   rcases this with rfl|rfl|rfl|rfl|rfl|rfl
   ·exact h1 rfl
   ·exact h2 rfl
   ·exact h3 rfl
   ·exact h4 rfl
   ·exact h5 rfl
   exact h6 rfl
  cases h'
def Ze (lt gt:Bool) (t:Str):Bool:=if t==[61] then !lt && !gt else if t==[33,61] then lt || gt else if t==[60] then lt else if t==[60,61] then !gt else if t==[62] then gt else !lt
theorem y6 {t:Str} {c:Int} (h:(Ea t c).2=true):(Ea t c).1=Ze (decide (c<0)) (decide (0<c)) t:=by
 unfold Ea at h ⊢
 unfold Ze
 split
 ·rw [K5];simp;omega
 rename_i h1
 rw [if_neg h1] at h
 split
 ·rw [K5];simp;omega
 rename_i h2
 rw [if_neg h2] at h
 split
 ·rfl
 rename_i h3
 rw [if_neg h3] at h
 split
 ·rw [K5];simp
 rename_i h4
 rw [if_neg h4] at h
 split
 ·rfl
 rename_i h5
 rw [if_neg h5] at h
 split
 ·rw [K5];simp
 rename_i h6
 rw [if_neg h6] at h
 cases h
theorem kj:∀s t:Str,Lib.compareBytes t s = -Lib.compareBytes s t
 | [],[]=>rfl
 | [],b::r=>rfl
 | a::r,[]=>rfl
 | a::r,b::q=>by
  rw [Lib.compareBytes,Lib.compareBytes]
  by_cases h1:a<b
  ·rw [if_neg (by have:=T7.1 h1;rw [T7];omega),if_pos h1,if_pos h1];rfl
  rw [if_neg h1,if_neg h1]
  by_cases h2:b<a
  ·rw [if_pos h2,if_pos h2]
  rw [if_neg h2,if_neg h2];exact kj r q
theorem td {a b:Val} (ha:C8 a=true) (hb:C8 b=true) (hk:a.kind=b.kind):P5 a b=if a.kind=2 then Lib.compareBytes a.s b.s else Io a.n b.n:=by
 obtain ⟨k,n,s⟩:=a
 obtain ⟨k',n',s'⟩:=b
 simp only at hk
 subst hk
 unfold P5
 rw [ha,hb,if_neg (by simp)]
 have e0:Io k k=0:=by simp [Io]
 simp only [orI,e0]
 unfold C8 at ha hb
 simp only at ha hb
 by_cases h2:k=2
 ·subst h2
  simp at ha hb
  rw [ha.1,hb.1]
  simp [Io]
  intro h;exact h.symm
 have hs:s=[]∧s'=[]:=by
  split at ha
  ·rename_i h;rw [if_pos h] at hb;simp at ha hb;exact ⟨ha.2,hb.2⟩
  rename_i h
  rw [if_neg h] at hb
  split at ha
  ·rename_i h;rw [if_pos h] at hb;simp at ha hb;exact ⟨ha,hb⟩
  rename_i h
  rw [if_neg h] at hb
  rw [if_neg (by simpa using h2)] at ha hb
  simp at ha hb
  exact ⟨ha.1.1.2,hb.1.1.2⟩
 rw [hs.1,hs.2,if_neg h2]
 simp [Lib.compareBytes]
 intro h;exact h.symm
theorem nc {a b:Val} (ha:C8 a=true) (hb:C8 b=true) (hk:a.kind=b.kind):Gu a b=decide (P5 a b<0):=by
 rw [td ha hb hk]
 unfold Gu
 rw [if_neg (by simp [hk])]
 by_cases h2:a.kind=2
 ·rw [if_pos h2,if_neg (by simp [h2])]
 rw [if_neg h2,if_pos (by simp [h2])]
 unfold Io
 rw [decide_eq_decide]
 split
 ·rename_i h;simp at h;omega
 rename_i h
 simp at h
 split<;>omega
theorem nd {a b:Val} (ha:C8 a=true) (hb:C8 b=true) (hk:a.kind=b.kind):Gu b a=decide (0<P5 a b):=by
 rw [td ha hb hk]
 unfold Gu
 rw [if_neg (by simp [hk])]
 by_cases h2:a.kind=2
 ·rw [if_pos h2,if_neg (by rw [←hk];simp [h2]),kj a.s b.s,decide_eq_decide]
  omega
 rw [if_neg h2,if_pos (by rw [←hk];simp [h2])]
 unfold Io
 rw [decide_eq_decide]
 split
 ·rename_i h;simp at h;omega
 rename_i h
 simp at h
 split
 ·rename_i h';simp at h';omega
 rename_i h';simp at h';omega
theorem y7 {t:Str} {a b:Val} (ha:C8 a=true) (hb:C8 b=true) (h3:(D4 t==3)=true) (hk:(a.kind != b.kind)=false):Gc t a b=(Dl (Ze (Gu a b) (Gu b a) t),0):=by
 have hk':a.kind=b.kind:=by simpa using hk
 rw [nc ha hb hk',nd ha hb hk']
 have h:=h3
 rw [ABw t (P5 a b)] at h
 unfold Gc
 rw [if_pos h,if_neg (by rw [hk];simp),y6 h]
theorem tg {t:Str} {a b:Val} (h3:(D4 t==3)=true) (hk:(a.kind != b.kind)=true):Gc t a b=(noV,10):=by
 rw [ABw t (P5 a b)] at h3
 unfold Gc
 rw [if_pos h3,if_pos hk]
 rfl
theorem Vh {t:Str} {a b:Val} (h3:(D4 t==3)=false):Gc t a b=if t==[38] then H3 a b else if !Bm [a,b] [1,1] then Ck 10 else Eg (E1 t a.n b.n):=by
 rw [ABw t (P5 a b)] at h3
 unfold Gc
 rw [if_neg (by rw [h3];simp)]
/-! Numbers. -/
theorem Iu (s:Bool) (m:Nat):nb s m=Eg (E5 s m):=rfl
section
variable {a b:Int}
theorem cr (s:Bool) (m:Nat) (s':Bool) (m':Nat):Gk (Q5 s m s' m').1 (Q5 s m s' m').2=Gk s m+Gk s' m':=by
 unfold Q5 hiW loW Gk
 by_cases h:m<m'
 ·cases s<;>cases s'<;>simp [h]<;>omega
 cases s<;>cases s'<;>simp [h]<;>omega
theorem N0 (a:Int):Gk (decide (a<0)) a.natAbs=a:=by
 unfold Gk
 by_cases h:a<0
 ·rw [if_pos (by simpa using h)];omega
 rw [if_neg (by simpa using h)];omega
theorem ct (s:Bool) (m:Nat):Gk (!s) m = -Gk s m:=by
 unfold Gk
 cases s<;>simp
theorem nf (a0 : -9223372036854775808≤a) (a1:a≤9223372036854775807) (b0 : -9223372036854775808≤b) (b1:b≤9223372036854775807):E5 (Q5 (decide (a<0)) a.natAbs (decide (b<0)) b.natAbs).1 (Q5 (decide (a<0)) a.natAbs (decide (b<0)) b.natAbs).2=V7 a b:=by
 rw [It,cr,N0,N0,xm a0 a1 b0 b1]
theorem ng (a0 : -9223372036854775808≤a) (a1:a≤9223372036854775807) (b0 : -9223372036854775808≤b) (b1:b≤9223372036854775807):E5 (Q5 (decide (a<0)) a.natAbs (!decide (b<0)) b.natAbs).1 (Q5 (decide (a<0)) a.natAbs (!decide (b<0)) b.natAbs).2=In a b:=by
 rw [It,cr,ct,N0,N0,kb a0 a1 b0 b1,Int.sub_eq_add_neg]
theorem th:Gk (decide (a<0) != decide (b<0)) (a.natAbs*b.natAbs)=a*b:=by
 have h1:=Int.natAbs_mul a b
 unfold Gk
 rw [←h1]
 by_cases ha:a<0<;>by_cases hb:b<0
 ·have:=Int.mul_pos_of_neg_of_neg ha hb
  simp [ha,hb];omega
 ·have:a*b≤0:=Int.mul_nonpos_of_nonpos_of_nonneg (by omega) (by omega)
  simp [ha,hb];omega
 ·have:a*b≤0:=Int.mul_nonpos_of_nonneg_of_nonpos (by omega) (by omega)
  simp [ha,hb];omega
 have:0≤a*b:=Int.mul_nonneg (by omega) (by omega)
 simp [ha,hb];omega
theorem nh (a0 : -9223372036854775808≤a) (a1:a≤9223372036854775807) (b0 : -9223372036854775808≤b) (b1:b≤9223372036854775807):E5 (decide (a<0) != decide (b<0)) (a.natAbs*b.natAbs)=P3 a b:=by
 rw [It,th,xn a0 a1 b0 b1]
end
/-! Divided. -/
theorem Nt (a:Int):(a<0∧a = -(a.natAbs:Int))∨(¬a<0∧a=(a.natAbs:Int)):=by omega
theorem cu (a b:Int):Gk (decide (a<0) != decide (b<0)) (a.natAbs / b.natAbs)=a.tdiv b:=by
 have key:((a.natAbs / b.natAbs:Nat):Int)=(a.natAbs:Int).tdiv (b.natAbs:Int):=by
  rw [To (by omega),Int.natCast_ediv]
 unfold Gk
 rcases Nt a with ⟨ha,ea⟩|⟨ha,ea⟩<;>rcases Nt b with ⟨hb,eb⟩|⟨hb,eb⟩
 ·rw [show (decide (a<0) != decide (b<0))=false by simp [ha,hb]]
  conv=>rhs;rw [ea,eb,Int.neg_tdiv,Int.tdiv_neg,Int.neg_neg]
  exact key
 ·rw [show (decide (a<0) != decide (b<0))=true by simp [ha,hb]]
  conv=>rhs;rw [ea,eb,Int.neg_tdiv]
  rw [if_pos rfl,key]
 ·rw [show (decide (a<0) != decide (b<0))=true by simp [ha,hb]]
  conv=>rhs;rw [ea,eb,Int.tdiv_neg]
  rw [if_pos rfl,key]
 rw [show (decide (a<0) != decide (b<0))=false by simp [ha,hb]]
 conv=>rhs;rw [ea,eb]
 exact key
theorem cv (a b:Int):Gk (decide (a<0)) (a.natAbs % b.natAbs)=a.tmod b:=by
 have key:((a.natAbs % b.natAbs:Nat):Int)=(a.natAbs:Int).tmod (b.natAbs:Int):=by
  rw [Tp (by omega),Int.natCast_emod]
 unfold Gk
 rcases Nt a with ⟨ha,ea⟩|⟨ha,ea⟩<;>rcases Nt b with ⟨hb,eb⟩|⟨hb,eb⟩
 ·rw [show decide (a<0)=true by simp [ha]]
  conv=>rhs;rw [ea,eb,ek,el]
  rw [if_pos rfl,key]
 ·rw [show decide (a<0)=true by simp [ha]]
  conv=>rhs;rw [ea,eb,ek]
  rw [if_pos rfl,key]
 ·rw [show decide (a<0)=false by simp [ha]]
  conv=>rhs;rw [ea,eb,el]
  exact key
 rw [show decide (a<0)=false by simp [ha]]
 conv=>rhs;rw [ea,eb]
 exact key
section
variable {a b:Int}
theorem ni (a0 : -9223372036854775808≤a) (a1:a≤9223372036854775807) (b0 : -9223372036854775808≤b) (b1:b≤9223372036854775807) (hb:(b==0)=false):E5 (decide (a<0) != decide (b<0)) (a.natAbs / b.natAbs)=So a b:=by
 have hb':b≠0:=by simpa using hb
 have e1:So a b=if ((a == -9223372036854775808)&&(b == -1))=true then (0,4) else (IntKind.i64.wrap (a.tdiv b),0):=by
  unfold So
  rw [if_neg (by rw [hb];simp)]
 rw [It,cu,e1]
 by_cases h:a = -9223372036854775808∧b = -1
 ·obtain ⟨rfl,rfl⟩:=h
  rfl
 have e2:¬((a == -9223372036854775808)&&(b == -1))=true:=by simpa using h
 rw [if_neg e2]
 have hw:=cu a b
 have hle:a.natAbs / b.natAbs≤a.natAbs:=T0 _ _
 have h2:2≤b.natAbs→a.natAbs / b.natAbs≤a.natAbs / 2:=fun h=>Nat.div_le_div_left h (by decide)
 have hr : -9223372036854775808≤a.tdiv b∧a.tdiv b≤9223372036854775807:=by
  unfold Gk at hw
  generalize a.tdiv b=q at *
  generalize a.natAbs / b.natAbs=z at *
  by_cases ha:a<0<;>by_cases hbn:b<0<;>simp [ha,hbn] at hw<;>omega
 rw [if_pos hr]
 congr 1
 rw [IntKind.wrap_i64]
 omega
theorem nj (a0 : -9223372036854775808≤a) (a1:a≤9223372036854775807) (b0 : -9223372036854775808≤b) (b1:b≤9223372036854775807) (hb:(b==0)=false):E5 (decide (a<0)) (a.natAbs % b.natAbs)=P4 a b:=by
 have hb':b≠0:=by simpa using hb
 have e1:P4 a b=if (b == -1)=true then (0,0) else (IntKind.i64.wrap (a.tmod b),0):=by
  unfold P4
  rw [if_neg (by rw [hb];simp)]
 rw [It,cv,e1]
 have hw:=cv a b
 have hlt:a.natAbs % b.natAbs<b.natAbs:=Gq _ (by omega)
 have hr : -9223372036854775808≤a.tmod b∧a.tmod b≤9223372036854775807:=by
  unfold Gk at hw
  generalize a.tmod b=q at *
  generalize a.natAbs % b.natAbs=z at *
  by_cases ha:a<0<;>simp [ha] at hw<;>omega
 rw [if_pos hr]
 by_cases h:b = -1
 ·rw [if_pos (by simp [h]),h]
  congr 1
  simp [el]
 rw [if_neg (by simpa using h)]
 congr 1
 rw [IntKind.wrap_i64]
 omega
end
theorem tj {a b:Int} {s s':Bool} (a0 : -9223372036854775808≤a) (a1:a≤9223372036854775807) (b0 : -9223372036854775808≤b) (b1:b≤9223372036854775807):(Q5 s a.natAbs s' b.natAbs).2<B32 ^ 5:=by
 have:(Q5 s a.natAbs s' b.natAbs).2≤a.natAbs+b.natAbs:=by
  unfold Q5 hiW loW
  split
  ·exact Ao _
  simp only
  split<;>simp only<;>omega
 have h2:(36893488147419103232:Nat)≤B32 ^ 5:=by decide
 omega
end Go.SX.Nb
namespace Go.SX
variable [GI:GlobInv]
open Classical
section
variable {P:Program} {d:Nat} {st:St} {ty:TypeId} {pos:String} {aft:Array Edge} {gd:Option (Nat×Bool)}
/-- A variable of its own, not laid yet. -/
theorem AOp.allocP {t:TypeId} {z:Value} {k s:Nat} (hz:∀w,(zeroValue t).run P w=.ok z w) (hk:z.cells.size=k) (hs:s<st.sz):
  AOp P d ⟨some s,.alloc t,ty,pos,aft,gd⟩ st (·=st.set s (.cellp k)):=by
 subst hk
 intro G a w h Q'
 let G':Gh:={ G with tag:=fun b o=>if b=w.heap.size∧o<z.cells.size then .tail (.slot d s) else G.tag b o }
 have hfree:∀o,G.tag w.heap.size o=.free:=fun o=>H8 h.tags _ o (Ao _)
 have hne:∀b o,G.tag b o≠.free→¬(b=w.heap.size∧o<z.cells.size):=fun b o hb hc=>by rw [hc.1] at hb;exact hb (hfree o)
 have hkeep:∀b o,G.tag b o≠.free→G'.tag b o=G.tag b o:=fun b o hb=>by simp only [G'];rw [if_neg (hne b o hb)]
 have hcell:∀b o,G.tag b o≠.free→(w.alloc (.cells z.cells t)).cell? ⟨b,o,none⟩=w.cell? ⟨b,o,none⟩:=fun b o hb=>by
  refine World.cell?_alloc_old _ _ _ ?_
  show b≠w.heap.size
  rintro rfl
  exact hb (hfree o)
 have T:Turn G w G' (w.alloc (.cells z.cells t)):=by
  refine ⟨fun b o hb=>⟨by rw [hkeep b o (by rw [hb];simp)];exact hb,hcell b o (by rw [hb];simp)⟩,fun b o L hb=>by rw [hkeep b o (by rw [hb];simp)];exact hb,fun b o i hb=>by rw [hkeep b o (by rw [hb];simp)];exact hb,Ao _,fun o ho=>rfl,rfl,rfl,rfl,by simp,Y9 _ (fun b o hb=>.inl (by simp only [G'];rw [if_neg (by omega)])) (fun i hi=>.inl ⟨hi,rfl⟩)⟩
 have h1:StRel d G' st a (w.alloc (.cells z.cells t)):=by
  refine h.turn (U:=st.up) (O:=st.own) T ⟨fun i x hx=>T.objRel ?_ ?_ (h.heap.obj i x hx) (fun b hb=>?_),h.heap.n,h.heap.inj⟩ rfl h.defsAt ⟨fun b o hb=>?_,fun b o i hb=>?_,fun b o L hb=>?_,h.tags.globKeep T.old⟩ h.low
  ·rw [h.heap.n];exact (Ac.1 hx).1
  ·have:=(h.heap.obj i x hx).blt
   show (w.heap.push _)[G.blk i]? = _
   rw [M7,if_neg (by omega)]
  ·have:=hb.lt
   show (w.heap.push _)[b]? = _
   rw [M7,if_neg (by omega)]
  ·simp only [G'] at hb
   split at hb
   ·rename_i hc
    obtain ⟨rfl,hlt⟩:=hc
    exact ⟨z.cells[o],by rw [World.cell?_alloc_new];exact Ev hlt⟩
   rw [hcell b o hb]
   exact h.tags.ex b o hb
  ·simp only [G'] at hb
   split at hb
   ·cases hb
   rw [World.frozen?_alloc_old]
   ·exact h.tags.obj b o i hb
   show b≠w.heap.size
   rintro rfl
   rw [hfree] at hb;cases hb
  simp only [G'] at hb
  split at hb
  ·rename_i hc
   obtain ⟨rfl,hlt⟩:=hc
   exact World.frozen?_alloc_new _ _ _ _
  rw [World.frozen?_alloc_old]
  ·exact h.tags.tail b o L hb
  show b≠w.heap.size
  rintro rfl
  rw [hfree] at hb;cases hb
 have hrun:(execOp a.eval (⟨some s,.alloc t,ty,pos,aft,gd⟩:Oper)).run P w=.ok (.value (.pointer (some ⟨w.heap.size,0,none⟩))) (w.alloc (.cells z.cells t)):=by
  simp [execOp,Instr.alloc,hz,newVar,newRow]
 refine D3 (by intro c h;cases h) hrun ⟨G',_,h1.put (s:=s) (y:=.cellp z.cells.size) hs ?_,T.keep d,rfl,rfl,rfl,rfl⟩
 exact .cellp _ _ _ ⟨_,rfl,fun o ho=>by simp [G',ho]⟩

/-- It is laid: from now on nobody writes it. -/
theorem AOp.storeP {t:TypeId} {x:Operand} {r k:Nat} {y:AV} (hsz:∀w,(sizeOf t).run P w=.ok k w) (hf:st.fr r=.cellp k) (hx:st.ev x=y) (hk:y.cells.length=k) (hk0:0<k) (h1:y.cells.all AV.one=true):
  AOp P d ⟨none,.store t (.tmp r) x,ty,pos,aft,gd⟩ st (·=st.set r (.ro y.cells)):=by
 intro G a w h Q'
 have hone:∀c∈y.cells,c.one=true:=fun c hc=>B9.1 h1 c hc
 obtain ⟨hc,hcc⟩:=(hx ▸ h.eval x).cells hone
 have hsl:=h.slots r
 rw [hf] at hsl
 generalize hv:a.tmps.getD r undef=v at hsl
 cases hsl with
 | cellp l k b ho =>
  obtain ⟨L,hL,ht⟩:=ho
  injection hL with hL
  subst hL
  let us:=(a.eval x).cells.toList
  have hul:us.length=k:=by simp only [us,Array.length_toList];omega
  have huone:∀u∈us,u.oneCell'=true:=fun u hu=>by
   obtain ⟨j,hj⟩:=Ca hu
   have hj':(a.eval x).cells[j]? = some u:=by rw [←Tm];exact hj
   have hlt:j<y.cells.length:=by rw [←hc];exact (Rw.1 hj').1
   exact (hcc j _ u (Aa hlt) hj').one (hone _ (Az hlt))
  have hrun0:=run_storeCells_cells (P:=P) b 0 us 0 w (fun j hj=>by
    obtain ⟨u,hu⟩:=h.tags.ex b j (by rw [ht j (by omega)];simp)
    simp only [Nat.add_zero,Bn];rw [hu];rfl) (fun j hj=>by simpa using h.tags.tail _ _ _ (ht j (by omega))) huone
  simp only [Nat.add_zero] at hrun0
  let W:=w.setCells b 0 us
  let G':Gh:={ G with tag:=fun b' o=>if b'=b∧o<k then .fix else G.tag b' o }
  have htag:∀b' o,G.tag b' o≠.tail (.slot d r)→G'.tag b' o=G.tag b' o:=fun b' o hb=>by
   simp only [G']
   rw [if_neg]
   rintro ⟨rfl,ho⟩
   exact hb (ht o ho)
  have hout:∀b' o,¬(b'=b∧o<k)→W.cell? ⟨b',o,none⟩=w.cell? ⟨b',o,none⟩:=fun b' o hn =>
   World.cell?_setCells_out _ us 0 w ⟨b',o,none⟩ (fun hb _=>by
    simp only at hb ⊢
    exact .inr (T3 fun h''=>hn ⟨hb,by omega⟩))
  have hcell:∀b' o,G.tag b' o≠.tail (.slot d r)→W.cell? ⟨b',o,none⟩=w.cell? ⟨b',o,none⟩:=fun b' o hb=>hout b' o (fun hn=>hb (by rw [hn.1];exact ht o hn.2))
  have hnb:∀i,i<G.n→G.blk i≠b:=Lu h.heap h.tags (ht 0 hk0)
  have hheap:∀b',b'≠b→W.heap[b']? = w.heap[b']? := fun b' hb=>Ep _ _ _ _ _ hb
  have hsize:W.heap.size=w.heap.size:=Fl _ _ _ _
  have hstill:Still G w G' W:=L9 (fun b' hb'=>hheap b' (fun e=>Lt (ht 0 hk0) (e ▸ hb'))) (Ju hsize.symm) (fun b' o _=>by
   by_cases hc:b'=b∧o<k
   ·exact .inr ⟨_,by rw [hc.1];exact ht o hc.2⟩
   exact .inl (by simp only [G'];rw [if_neg hc])) (fun i hi=>.inl ⟨hi,rfl⟩)
  have hfix:∀b' o,G.tag b' o=.fix→G'.tag b' o=.fix∧W.cell? ⟨b',o,none⟩=w.cell? ⟨b',o,none⟩:=fun b' o hb=>⟨by rw [htag b' o (by rw [hb];simp)];exact hb,hcell b' o (by rw [hb];simp)⟩
  have htail:∀b' o L,L≠.slot d r→G.tag b' o=.tail L→G'.tag b' o=.tail L:=fun b' o L hL hb=>by
   rw [htag b' o (by rw [hb];intro e;injection e with e;exact hL e)];exact hb
  have hobj:∀b' o i,G.tag b' o=.obj i→G'.tag b' o=.obj i:=fun b' o i hb=>by rw [htag b' o (by rw [hb];simp)];exact hb
  have hrep:∀{l:Option Loc} {z:AV} {u:Value},l≠some (.slot d r)→Rep G w l z u→Rep G' W l z u:=fun hl hz =>
   hz.mono (G':=G') hfix (Ao _) (fun _ _=>rfl) (fun L hL b' o ht'=>htail b' o L (fun e=>hl (by rw [hL,e])) ht')
  have hkeep:Keep d G w G' W:=⟨hfix,fun b' o e s he ht'=>htail b' o _ (by rintro ⟨⟩;omega) ht',Ao _,fun _ _=>rfl,Jx _ _ _ _,Hy _ _ _ _,Gr _ _ _ _,Ju hsize.symm,hstill⟩
  have hvec:∀j u,us[j]? = some u→W.cell? ⟨b,j,none⟩=some u:=fun j u hu=>by
   have hj:=(Ac.1 hu).1
   have hex:∃u',w.cell? ⟨b,j,none⟩=some u':=h.tags.ex b j (by rw [ht j (by omega)];simp)
   obtain ⟨u',hu'⟩:=hex
   have hbk:∃vs e fz,w.heap[b]? = some (.cells vs e fz):=by
    simp only [World.cell?] at hu'
    split at hu'
    ·rename_i vs e fz hb;exact ⟨vs,e,fz,hb⟩
    cases hu'
   obtain ⟨vs,e,fz,hbk⟩:=hbk
   have hlen:0+us.length≤vs.size:=by
    rw [hul,Bn]
    rcases Bh vs.size k with h'|h'
    ·exfalso
     obtain ⟨u2,hu2⟩:=h.tags.ex b vs.size (by rw [ht _ h'];simp)
     simp [World.cell?,hbk] at hu2
    exact h'
   obtain ⟨vs',b1,b2,b3⟩:=J4 b e fz us 0 w vs hbk hlen
   have b3':=b3 j
   rw [if_pos (by omega)] at b3'
   show (w.setCells b 0 us).cell? ⟨b,j,none⟩=some u
   simp only [World.cell?,b1]
   rw [b3',Nat.sub_zero]
   exact hu
  have hst:StRel d G' (st.set r (.ro y.cells)) a W:=by
   refine ⟨h.size,fun s=>?_,⟨fun i z hz=>?_,h.heap.n,h.heap.inj⟩,h.defs,h.defsAt,h.defsNodup,h.defsGe,⟨fun b' o hb=>?_,fun b' o i hb=>?_,fun b' o L hb=>?_,h.tags.globKeep hstill⟩,h.rnd,h.low,h.top⟩
   ·show Rep G' W _ (A4 r (.ro y.cells) st.fr s) _
    unfold A4
    by_cases hs:s=r
    ·subst hs
     rw [if_pos rfl,hv]
     refine .ro _ _ ⟨b,0,none⟩ (fun j=>(a.eval x).cells.getD j undef) rfl hone (fun j c hj=>?_) (fun j c hj=>?_)
     all_goals
      have hlt:j<y.cells.length:=(Ac.1 hj).1
      have hu:(a.eval x).cells[j]? = some ((a.eval x).cells[j]'(by omega)):=Ev _
      have e1:(a.eval x).cells.getD j undef=(a.eval x).cells[j]'(by omega):=by rw [Kg,hu];rfl
      rw [e1]
     ·refine ⟨by simp only [G',Bn];rw [if_pos ⟨trivial,by omega⟩],?_⟩
      rw [Bn]
      exact hvec j _ (by simp only [us];rw [Tm];exact hu)
     exact hrep (by simp) (hcc j c _ hj hu)
    rw [if_neg hs]
    exact hrep (by simp;exact fun e=>hs e) (h.slots s)
   ·have hob:=h.heap.obj i z hz
    have hi:i<G.n:=by rw [h.heap.n];exact (Ac.1 hz).1
    have hb:=hheap (G.blk i) (hnb i hi)
    cases z with
    | cells t cs =>
     obtain ⟨vs,a1,a2,a3,a4⟩:=hob
     exact ⟨vs,hb.trans a1,a2,fun j y u p q=>hrep (by simp) (a3 j y u p q),fun j hj=>hobj _ _ _ (a4 j hj)⟩
    | loop sta pd fr sz ps asg bd df =>
     obtain ⟨fn,tmps,a1,a2,a3,a4⟩:=hob
     exact ⟨fn,tmps,hb.trans a1,a2,fun s=>hrep (by simp) (a3 s),a4⟩
    | defs=>exact hb.trans hob
    | dead=>exact hb.trans hob
    | bld t e bs=>exact BldRel.turn hob rfl (fun b' o ho=>hobj b' o i ho) hb (fun b' ha=>hheap b' (fun e=>by
      have:=ha.tag h.tags (o:=0) (by rw [e,ht 0 hk0];simp)
      rw [e,ht 0 hk0] at this;cases this))
    | gone =>
     obtain ⟨vs,t,fz,a1,a2⟩:=hob
     exact ⟨vs,t,fz,hb.trans a1,fun j hj=>(hfix _ _ (a2 j hj)).1⟩
   ·by_cases hc:b'=b∧o<k
    ·obtain ⟨rfl,ho⟩:=hc
     exact ⟨us[o]'(by omega),hvec o _ (Aa _)⟩
    rw [hout b' o hc]
    simp only [G',if_neg hc] at hb
    exact h.tags.ex b' o hb
   ·rw [World.frozen?_setCells]
    simp only [G'] at hb
    split at hb
    ·cases hb
    exact h.tags.obj b' o i hb
   rw [World.frozen?_setCells]
   simp only [G'] at hb
   split at hb
   ·cases hb
   exact h.tags.tail b' o L hb
  have hrun:(execOp a.eval (⟨none,.store t (.tmp r) x,ty,pos,aft,gd⟩:Oper)).run P w=.ok .skip W:=
   I3 hsz (show a.eval (.tmp r)=_ from hv) (by omega) hrun0
  exact H6 (by intro c h;cases h) hrun ⟨G',_,hst,hkeep,rfl,rfl,rfl,rfl⟩
end
section
variable {P:Program} {d:Nat} {sz:Nat} {dfs:List Nat} {rnd:Option Nat} {l0:List Oper} {up own:(Nat→Bool)→List AObj} {KP:List PanicEntry→St→Prop} {E:List Oper→(Nat→AV)→Prop} {S:List SegY} {l:List Oper} {fr:Nat→AV} {ty:TypeId} {pos:String} {aft:Array Edge} {s:Nat} {T F:List Nat}
theorem Y.allocP {t:TypeId} {z:Value} {k:Nat} (hz:∀w,(zeroValue t).run P w=.ok z w) (h:ChainY P d l0 sz up own dfs rnd KP E S l (A4 s (.cellp k) fr)) (hk:z.cells.size=k:=by rfl) (hs:Nat.blt s sz=true:=by rfl):
  ChainY P d l0 sz up own dfs rnd KP E (.s [s] none T F::S) (⟨some s,.alloc t,ty,pos,aft,none⟩::l) fr:=by
 refine ⟨_,l,[(s,.cellp k)],rfl,⟨rfl,rfl,fun B f _ _ _ hf=>.of ?_⟩,h⟩
 exact AOp.allocP (st:=⟨sz,f,up B,own B,dfs,rnd⟩) hz hk (by simpa using hs)
theorem Y.storeP {t:TypeId} {x:Operand} {r k:Nat} {y:AV} {ys:List AV} (hsz:∀w,(Go.sizeOf t).run P w=.ok k w) (h:ChainY P d l0 sz up own dfs rnd KP E S l (A4 r (.ro ys) fr))
  (hf:fr r=.cellp k:=by exact sL0) (hx:Bw fr x=y:=by exact sL0) (hc:y.cells=ys:=by exact sL0)
  (hk:ys.length=k:=by rfl) (hk0:0<k:=by decide) (h1:ys.all AV.one=true:=by exact sL1):
  ChainY P d l0 sz up own dfs rnd KP E (.s [r] none T F::S) (⟨none,.store t (.tmp r) x,ty,pos,aft,none⟩::l) fr:=by
 subst hc
 refine ⟨_,l,[(r,.ro y.cells)],rfl,⟨rfl,rfl,fun B f _ _ _ hfr=>.of ?_⟩,h⟩
 have e:f r=fr r:=hfr r (by simp [lk,f5,Op.operands])
 have ex:Bw f x=y:=by rw [agr hfr (by simp [Op.operands])];exact hx
 exact AOp.storeP (st:=⟨sz,f,up B,own B,dfs,rnd⟩) hsz (e.trans hf) ex hk hk0 h1
end
end Go.SX
