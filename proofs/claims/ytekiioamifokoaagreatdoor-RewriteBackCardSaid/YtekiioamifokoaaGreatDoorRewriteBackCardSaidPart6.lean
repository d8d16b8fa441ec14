/- On the way (part 6). -/
import Derived.ReadAgain
import Derived.ChangeSame
import Derived.ChangeArms
import Derived.ChangeOld
import Derived.ChangeFn
import Derived.MapPlaces
import Derived.DataReads
import Derived.OpenShut
import Derived.RowKit
import Derived.Deep.DeepHandedRow
import Derived.Test.YtekiioamifokoaaGreatDoorCards
import Derived.Test.YtekiioamifokoaaGreatDoorTie
import Derived.Lay
import Derived.Lib.LaidTab
import Derived.Stop.LaidErr
import Derived.Shelf.Vars
import Derived.ChangeBears
import Derived.Lib.ParseIntBTie
import Derived.Lib.AtoiAllCases
import Derived.Lib.AtoiTie
import Derived.Lib.SliceRun
import Derived.Test.YtekiioamifokoaaGreatDoorRewriteBackCardSaidPart5
set_option linter.all false
namespace Go.SX
variable [GI:GlobInv]
open Classical Go.RowKit Go.ChangeShapes
section
variable {P:Program} {H:Type} {enc:TypeId×Value→H}

/-- The first ghost: whatever lies there is read for good. -/
noncomputable def G0 (W:World):Gh:=⟨fun b o=>if (W.cell? ⟨b,o,none⟩).isSome then .fix else .free,fun _=>0,0⟩
theorem ALi {W:World} {b o:Nat} {u:Value} (h:W.cell? ⟨b,o,none⟩=some u):(G0 W).tag b o=.fix:=by simp [G0,h]
theorem Va {W:World} {b:Nat} (h:b<W.heap.size):N7 (G0 W) W b:=⟨h,fun o=>by simp only [G0];split<;>simp,fun i hi=>absurd hi (Nat.not_lt_zero _)⟩
theorem AH6 (W:World):HeapRel (G0 W) [] W:=⟨fun i x h=>by simp at h,rfl,fun i j hi=>absurd hi (Nat.not_lt_zero _)⟩
theorem AH7 {W:World} (h:K2 W):TagOK (G0 W) W:=by
 refine ⟨fun b o hb=>?_,fun b o i hb=>?_,fun b o L hb=>?_,fun x hx=>?_⟩
 ·simp only [G0] at hb
  split at hb
  ·rename_i hs;exact Option.isSome_iff_exists.1 hs
  exact absurd rfl hb
 ·simp only [G0] at hb;split at hb<;>cases hb
 ·simp only [G0] at hb;split at hb<;>cases hb
 obtain ⟨v,h1,h2⟩:=h x hx
 exact ⟨Va (P6.1 h1).1,v,h1,h2⟩

/-- What a datum of a plain type AR7 as. -/
inductive DRep (P:Program):TypeId→DataW H→AV→Prop
 | int {t:TypeId} {k:IntKind} {n:Int} (hu:P.underlying t=some (.int k)) (wf:(Lit.int k n).wf=true):DRep P t (.lit (.int k n)) (.v (.int k n))
 | bool {t:TypeId} {b:Bool} (hu:P.underlying t=some .bool):DRep P t (.lit (.bool b)) (.v (.bool b))
 | str {t:TypeId} {bs:List UInt8} (hu:P.underlying t=some .string):DRep P t (.lit (.string bs)) (.v (sv bs))
 | nil {t e:TypeId} (hu:P.underlying t=some (.slice e)):DRep P t .nil (.slice false (P.cellsOf e) [])
 | slice {t e:TypeId} {elems spare:List (DataW H)} {ys:List AV} (hu:P.underlying t=some (.slice e)) (hn:ys.length=elems.length)
   (h:∀(i:Nat) (d:DataW H) (y:AV),elems[i]? = some d→ys[i]? = some y→DRep P e d y):DRep P t (.slice elems spare) (.slice false (P.cellsOf e) ys)
 | struct {t:TypeId} {fs:Array Field} {parts:List (DataW H)} {ys:List AV} (hu:P.underlying t=some (.struct fs)) (hn:parts.length=fs.size) (hn':ys.length=fs.size)
   (h:∀(i:Nat) (f:Field) (d:DataW H) (y:AV),fs[i]? = some f→parts[i]? = some d→ys[i]? = some y→DRep P f.type d y):DRep P t (.agg parts) (.agg (ys.flatMap AV.cells))

/-- Types that are made of numbers, texts, bools, slices and structs alone. -/
structure PlainT (P:Program) (T:TypeId→Prop):Prop where
 look:∀t,T t→(P.cellsOf t=1∧((∃k,P.underlying t=some (.int k))∨P.underlying t=some .bool∨P.underlying t=some .string∨(∃e,P.underlying t=some (.slice e)∧T e∧0<P.cellsOf e))) ∨
  (∃fs,P.underlying t=some (.struct fs)∧(∀f∈fs.toList,T f.type)∧P.cellsOf t=(fs.toList.map fun f=>P.cellsOf f.type).sum ∧
   ∀(j:Nat) (f:Field),fs.toList[j]? = some f→f.offset=((fs.toList.take j).map fun f=>P.cellsOf f.type).sum)

/-- The reading of a row of cells. -/
def CRep (W:World) (y:AV) (cs:List Value):Prop:=
 y.cells.length=cs.length∧(∀c∈y.cells,c.one=true)∧∀(j:Nat) (c:AV) (v:Value),y.cells[j]? = some c→cs[j]? = some v→Rep (G0 W) W none c v

theorem CRep.v1 {W:World} {x:Value} (h:x.oneCell'=true):CRep W (.v x) [x]:=
 ⟨rfl,by simp [AV.cells,AV.one,h],fun j c v h1 h2=>by
  match j with
  | 0=>simp [AV.cells] at h1 h2;subst h1;subst h2;exact .v _ _
  | j+1=>simp [AV.cells] at h1⟩

theorem lz {f:AV→List AV}:∀(ys:List AV) (j:Nat) (c:AV),(ys.flatMap f)[j]? = some c→∃(i:Nat) (y:AV) (q:Nat),ys[i]? = some y∧(f y)[q]? = some c∧j=((ys.take i).map fun y=>(f y).length).sum+q
 | [],j,c,h=>by simp at h
 | y::r,j,c,h=>by
  rw [gc] at h
  rcases Bw j (f y).length with h'|h'
  ·rw [Dm h'] at h
   exact ⟨0,y,j,rfl,h,by simp⟩
  rw [Dn h'] at h
  obtain ⟨i,z,q,h1,h2,h3⟩:=lz r _ c h
  exact ⟨i+1,z,q,h1,h2,by simp only [List.take_succ_cons,Bm,List.sum_cons];omega⟩
theorem Qc {α:Type} {R:Nat→α→Prop}:∀(n:Nat),(∀i,i<n→∃y,R i y)→∃ys:List α,ys.length=n∧∀(i:Nat) (y:α),ys[i]? = some y→R i y
 | 0,_=>⟨[],rfl,fun i y h=>by simp at h⟩
 | n+1,h=>by
  obtain ⟨ys,h1,h2⟩:=Qc n (fun i hi=>h i (by omega))
  obtain ⟨y,hy⟩:=h n (by omega)
  refine ⟨ys++[y],by simp [h1],fun i z hz=>?_⟩
  rcases Bw i n with h'|h'
  ·rw [Dm (by omega)] at hz;exact h2 i z hz
  rw [Dn (by omega)] at hz
  have:i=n:=by
   have:=(Ad.1 hz).1
   simp at this;omega
  subst this
  rw [h1] at hz
  simp at hz
  exact hz ▸ hy
theorem Sm {α β:Type} {f:α→Nat} {g:β→Nat}:∀(l:List α) (m:List β),l.length=m.length→(∀(i:Nat) (a:α) (b:β),l[i]? = some a→m[i]? = some b→f a=g b)→(l.map f).sum=(m.map g).sum
 | [],[],_,_=>rfl
 | [],b::m,h,_=>by simp at h
 | a::l,[],h,_=>by simp at h
 | a::l,b::m,h,hh=>by
  simp only [Bm,List.sum_cons]
  rw [hh 0 a b rfl rfl,Sm l m (by simpa using h) (fun i a b h1 h2=>hh (i+1) a b h1 h2)]

theorem AD9 {T:TypeId→Prop} (PT:PlainT P T) {W:World}:∀(n:Nat) (t:TypeId) (cs:List Value) (x:DataW H×List MemPlace),T t→DataW.trod enc P W 0 (fun _=>true) true n t cs=some x →
  ∃y,DRep P t x.1 y∧CRep W y cs∧cs.length=P.cellsOf t:=by
 intro n
 induction n with
 | zero=>intro t cs x _ h;simp [DataW.trod] at h
 | succ n ih =>
  intro t cs x hT h
  rcases PT.look t hT with ⟨hc1,⟨k,hu⟩|hu|hu|⟨e,hu,he,hz⟩⟩|⟨fs,hu,hf,hsum,hoff⟩
  ·obtain ⟨m,rfl,rfl,hw⟩:=DataW.trod_int hu h
   exact ⟨_,.int hu hw,.v1 rfl,hc1.symm⟩
  ·obtain ⟨b,rfl,rfl⟩:=DataW.trod_bool hu h
   exact ⟨_,.bool hu,.v1 rfl,hc1.symm⟩
  ·obtain ⟨s,rfl,rfl,_⟩:=DataW.trod_string hu h
   exact ⟨_,.str hu,.v1 rfl,hc1.symm⟩
  ·rcases DataW.trod_slice hu h with ⟨rfl,rfl⟩|⟨a,len,cap,elems,rest,m,hm,rfl,rfl,hb,hlc,hcm,hel,hE,_,_⟩
   ·refine ⟨_,.nil hu,⟨rfl,by simp [AV.cells,AV.one],fun j c v h1 h2=>?_⟩,hc1.symm⟩
    match j with
    | 0=>simp [AV.cells] at h1 h2;subst h1;subst h2;exact .slice0 _ _ _
    | j+1=>simp [AV.cells] at h1
   injection hm with hm
   subst hm
   subst hel
   have hEi:∀i,i<elems.length→∃y,(∀d,elems[i]? = some d→DRep P e d.1 y)∧∃ci,W.cells? 0 (a.add (i*P.cellsOf e)) (P.cellsOf e)=some ci∧CRep W y ci:=fun i hi=>by
    have h1:=hE i hi
    rw [Ab hi,Option.bind_eq_some_iff] at h1
    obtain ⟨ci,h2,h3⟩:=h1
    obtain ⟨y,h4,h5,_⟩:=ih e ci _ he h3
    exact ⟨y,fun d hd=>by rw [Ab hi] at hd;injection hd with hd;subst hd;exact h4,ci,h2,h5⟩
   obtain ⟨ys,hyl,hys⟩:=Qc elems.length hEi
   refine ⟨.slice false (P.cellsOf e) ys,.slice hu (by simp [hyl]) (fun i d y hd hy=>?_),⟨rfl,by simp [AV.cells,AV.one],fun j c v h1 h2=>?_⟩,hc1.symm⟩
   ·rw [C5,En] at hd
    obtain ⟨d',hd',rfl⟩:=hd
    exact (hys i y hy).1 d' hd'
   match j with
   | j+1=>simp [AV.cells] at h1
   | 0 =>
    simp [AV.cells] at h1 h2
    subst h1;subst h2
    by_cases h0:elems.length=0
    ·have:ys=[]:=ga (by omega)
     subst this
     rw [h0]
     exact .sliceE _ _ _ _
    have hspot:a.spot=none:=by
     obtain ⟨ci,hci,_⟩:=(hys 0 ys[0] (Ab (by omega))).2
     obtain ⟨_,g1,g2⟩:=World.cells?_some hci
     have g3:=g2 0 hz
     rw [Ab (by omega)] at g3
     simp only [Nat.zero_mul,Addr.add,if_true] at g3
     unfold World.cell? at g3
     split at g3
     ·split at g3
      ·cases g3
      rename_i hs;simpa using hs
     cases g3
    refine .slice _ false _ ys a _ cap (fun i j=>(W.cell? ⟨a.block,a.off+i*P.cellsOf e+j,none⟩).getD undef) hspot hyl.symm hlc (fun x hx=>?_) (fun x hx=>?_) (fun i x j y hx hy=>?_) (fun i x j y hx hy=>?_) (fun h=>by cases h)
    ·obtain ⟨i,hi⟩:=Cb hx
     obtain ⟨ci,hci,hcr⟩:=(hys i x hi).2
     rw [hcr.1]
     exact (World.cells?_some hci).2.1
    ·obtain ⟨i,hi⟩:=Cb hx
     obtain ⟨ci,hci,hcr⟩:=(hys i x hi).2
     exact hcr.2.1
    ·obtain ⟨ci,hci,hcr⟩:=(hys i x hx).2
     obtain ⟨_,g1,g2⟩:=World.cells?_some hci
     have hj:j<P.cellsOf e:=by
      have:=(Ad.1 hy).1
      rw [hcr.1] at this;omega
     have g3:=g2 j hj
     rw [Ab (by omega),Dd hspot,Dd rfl] at g3
     exact ⟨ALi g3,by rw [g3];rfl⟩
    obtain ⟨ci,hci,hcr⟩:=(hys i x hx).2
    obtain ⟨_,g1,g2⟩:=World.cells?_some hci
    have hj:j<P.cellsOf e:=by
     have:=(Ad.1 hy).1
     rw [hcr.1] at this;omega
    have g3:=g2 j hj
    rw [Ab (by omega),Dd hspot,Dd rfl] at g3
    simp only at g3
    rw [g3]
    exact hcr.2.2 j y _ hy (Ab (by omega))
  obtain ⟨xs,m,hm,rfl,hcl,hxl,hX⟩:=DataW.trod_struct hu h
  injection hm with hm
  subst hm
  have hXi:∀i,i<fs.size→∃y,∀(f:Field),fs[i]? = some f→(∀d,xs[i]? = some d→DRep P f.type d.1 y)∧CRep W y ((cs.drop f.offset).take (P.cellsOf f.type))∧y.cells.length=P.cellsOf f.type:=fun i hi=>by
   have h1:=hX i fs[i] (Ev hi)
   rw [Ab (by omega)] at h1
   obtain ⟨y,h2,h3,h4⟩:=ih _ _ _ (hf _ (by simp)) h1
   refine ⟨y,fun f hf'=>?_⟩
   rw [Ev hi] at hf'
   injection hf' with hf'
   subst hf'
   exact ⟨fun d hd=>by rw [Ab (by omega)] at hd;injection hd with hd;subst hd;exact h2,h3,by rw [h3.1,h4]⟩
  obtain ⟨ys,hyl,hys⟩:=Qc fs.size hXi
  have hlenI:∀(i:Nat),((ys.take i).map fun y=>y.cells.length).sum=((fs.toList.take i).map fun f=>P.cellsOf f.type).sum:=fun i=>by
   refine Sm _ _ (by simp [hyl]) (fun j y f h1 h2=>?_)
   rw [I0] at h1 h2
   split at h1
   ·rename_i hj
    rw [if_pos hj] at h2
    exact (hys j y h1 f (by simpa using h2)).2.2
   cases h1
  have htot:(ys.flatMap AV.cells).length=cs.length:=by
   rw [List.length_flatMap,hcl,hsum]
   refine Sm _ _ (by simp [hyl]) (fun j y f h1 h2=>(hys j y h1 f (by simpa using h2)).2.2)
  refine ⟨.agg (ys.flatMap AV.cells),.struct hu (by simp [hxl]) hyl (fun i f d y hf' hd hy=>?_),⟨htot,fun c hc=>?_,fun j c v h1 h2=>?_⟩,hcl⟩
  ·rw [C5,En] at hd
   obtain ⟨d',hd',rfl⟩:=hd
   exact (hys i y hy f hf').1 d' hd'
  ·obtain ⟨y,hy,hcy⟩:=List.mem_flatMap.1 hc
   obtain ⟨i,hi⟩:=Cb hy
   have hlt:i<fs.size:=by rw [←hyl];exact (Ad.1 hi).1
   exact ((hys i y hi fs[i] (Ev hlt)).2.1).2.1 c hcy
  obtain ⟨i,y,q,g1,g2,rfl⟩:=lz ys j c h1
  have hlt:i<fs.size:=by rw [←hyl];exact (Ad.1 g1).1
  obtain ⟨_,k2,k3⟩:=hys i y g1 fs[i] (Ev hlt)
  have hq:q<P.cellsOf (fs[i]).type:=by have:=(Ad.1 g2).1;omega
  refine k2.2.2 q c v g2 ?_
  rw [I0,if_pos hq,H5,hoff i fs[i] (by simp [hlt]),←hlenI i]
  exact h2

/-- A measure of data. -/
structure Bulk (B:DataW H→Nat):Prop where
 str:∀bs,bs.length≤B (.lit (.string bs))
 slice:∀elems spare,elems.length≤B (.slice elems spare)∧∀d∈elems,B d≤B (.slice elems spare)
 agg:∀parts,∀d∈parts,B d≤B (.agg parts)
theorem DRep.int' {t:TypeId} {k:IntKind} {d:DataW H} {y:AV} (hu:P.underlying t=some (.int k)) (h:DRep P t d y):∃n,d=.lit (.int k n)∧y=.v (.int k n)∧k.min≤n∧n≤k.max:=by
 cases h with
 | int hu' wf=>rw [hu] at hu';injection hu' with e;injection e with e;subst e;exact ⟨_,rfl,rfl,by simpa [Lit.wf] using wf⟩
 | _ hu'=>rw [hu] at hu';cases hu'
theorem DRep.bool' {t:TypeId} {d:DataW H} {y:AV} (hu:P.underlying t=some .bool) (h:DRep P t d y):∃b,d=.lit (.bool b)∧y=.v (.bool b):=by
 cases h with
 | bool hu'=>exact ⟨_,rfl,rfl⟩
 | _ hu'=>rw [hu] at hu';cases hu'
theorem DRep.str' {t:TypeId} {d:DataW H} {y:AV} (hu:P.underlying t=some .string) (h:DRep P t d y):∃s,d=.lit (.string s)∧y=.v (sv s):=by
 cases h with
 | str hu'=>exact ⟨_,rfl,rfl⟩
 | _ hu'=>rw [hu] at hu';cases hu'
theorem DRep.slice' {t e:TypeId} {d:DataW H} {y:AV} {B:DataW H→Nat} (hB:Bulk B) {α:Type} (A:α→AV) (R:α→Prop) {b:Nat} (hu:P.underlying t=some (.slice e)) (h:DRep P t d y) (hb:B d≤b)
  (hE:∀d y,B d≤b→DRep P e d y→∃x,y=A x∧R x):∃l:List α,y=.slice false (P.cellsOf e) (l.map A)∧l.length≤b∧∀x∈l,R x:=by
 cases h with
 | nil hu'=>rw [hu] at hu';injection hu' with e';injection e' with e';subst e';exact ⟨[],rfl,Au _,fun x hx=>by cases hx⟩
 | slice hu' hn hh =>
  rw [hu] at hu';injection hu' with e';injection e' with e';subst e'
  rename_i elems spare ys
  obtain ⟨h1,h2⟩:=hB.slice elems spare
  have key:∀(ys:List AV) (es:List (DataW H)),ys.length=es.length→(∀d∈es,B d≤b)→(∀(i:Nat) (d:DataW H) (y:AV),es[i]? = some d→ys[i]? = some y→DRep P e d y)→∃l:List α,ys=l.map A∧∀x∈l,R x:=by
   intro ys
   induction ys with
   | nil=>exact fun es _ _ _=>⟨[],rfl,fun x hx=>by cases hx⟩
   | cons y ys ih =>
    intro es hl hb2 hr
    cases es with
    | nil=>simp at hl
    | cons d es =>
     obtain ⟨x,rfl,hx⟩:=hE d y (hb2 d (by simp)) (hr 0 d y rfl rfl)
     obtain ⟨l,rfl,hR⟩:=ih es (by simpa using hl) (fun d hd=>hb2 d (by simp [hd])) (fun i d y a c=>hr (i+1) d y a c)
     exact ⟨x::l,rfl,fun z hz=>by
      rcases B3.1 hz with rfl|hz
      ·exact hx
      exact hR z hz⟩
  obtain ⟨l,rfl,hR⟩:=key ys elems hn (fun d hd=>Ic (h2 d hd) hb) hh
  exact ⟨l,rfl,by simp at hn;omega,hR⟩
 | _ hu'=>rw [hu] at hu';cases hu'
theorem DRep.struct' {t:TypeId} {fs:Array Field} {d:DataW H} {y:AV} {B:DataW H→Nat} (hB:Bulk B) (hu:P.underlying t=some (.struct fs)) (h:DRep P t d y):
  ∃ys:List AV,ys.length=fs.size∧y=.agg (ys.flatMap AV.cells)∧∀(i:Nat) (f:Field) (z:AV),fs[i]? = some f→ys[i]? = some z→∃d',B d'≤B d∧DRep P f.type d' z:=by
 cases h with
 | struct hu' hn hn' hh =>
  rw [hu] at hu';injection hu' with e';injection e' with e';subst e'
  rename_i parts ys
  refine ⟨ys,hn',rfl,fun i f z h1 h2=>?_⟩
  have hlt:i<parts.length:=by rw [hn];exact (P6.1 h1).1
  exact ⟨parts[i],hB.agg parts _ (Bl hlt),hh i f parts[i] z h1 (Ab hlt) h2⟩
 | _ hu'=>rw [hu] at hu';cases hu'

/-- An argument's reading. -/
theorem AH8 {T:TypeId→Prop} (PT:PlainT P T) {W:World} {t:TypeId} {v:Value} {d:DataW H} {ps:List MemPlace} {b0:Nat} (hT:T t) (hok:Value.okWide P W .any b0 t v) (h:DataW.Trod enc P W 0 (fun _=>true) true t v d ps):
  ∃y,DRep P t d y∧Rep (G0 W) W none y v:=by
 obtain ⟨n,hn⟩:=h
 obtain ⟨y,h1,h2,h3⟩:=AD9 PT n t _ _ hT hn
 refine ⟨y,h1,?_⟩
 rcases PT.look t hT with ⟨hc1,hone⟩|⟨fs,hu,_⟩
 ·have hva:∀cs,v≠.agg cs:=fun cs e=>by
   subst e
   rcases hone with ⟨k,hu⟩|hu|hu|⟨e,hu,he,hz⟩<;>simp [Value.okWide,hu,Cell.okWide,Cell.ok] at hok
  have hvc:v.cells=#[v]:=by cases v<;>first|rfl|exact absurd rfl (hva _)
  have hyc:y.cells=[y]:=by
   cases h1 with
   | struct hu=>rcases hone with ⟨k,hu'⟩|hu'|hu'|⟨e,hu',he,hz⟩<;>rw [hu] at hu'<;>cases hu'
   | _=>rfl
  have:=h2.2.2 0 y v (by rw [hyc];rfl) (by rw [hvc];rfl)
  exact this
 obtain ⟨cs,rfl,hsz,_⟩:∃cs,v=.agg cs∧cs.size=P.cellsOf t∧Row.okWide P W .any b0 t cs:=by
  simp only [Value.okWide,hu] at hok
  exact hok
 cases h1 with
 | struct hu' hn1 hn2 hh =>
  refine .agg _ _ _ (by have:=h2.1;simp only [AV.cells,Value.cells,Array.length_toList] at this;exact this.symm) h2.2.1 (fun i c u a b=>h2.2.2 i c u a (by simpa [Value.cells] using b))
 | int hu'=>rw [hu] at hu';cases hu'
 | bool hu'=>rw [hu] at hu';cases hu'
 | str hu'=>rw [hu] at hu';cases hu'
 | nil hu'=>rw [hu] at hu';cases hu'
 | slice hu'=>rw [hu] at hu';cases hu'

def DReps (P:Program):List TypeId→List (DataW H)→List AV→Prop
 | [],[],[]=>True
 | t::ts,d::ds,y::ys=>DRep P t d y∧DReps P ts ds ys
 | _,_,_=>False

theorem DReps.cons' {t:TypeId} {ts:List TypeId} {ds:List (DataW H)} {ys:List AV} (h:DReps P (t::ts) ds ys):∃d ds' y ys',ds=d::ds'∧ys=y::ys'∧DRep P t d y∧DReps P ts ds' ys':=by
 match ds,ys,h with
 | d::ds',y::ys',⟨h1,h2⟩=>exact ⟨d,ds',y,ys',rfl,rfl,h1,h2⟩
 | [],_,h=>simp [DReps] at h
 | _::_,[],h=>simp [DReps] at h
theorem DReps.nil' {ds:List (DataW H)} {ys:List AV} (h:DReps P [] ds ys):ds=[]∧ys=[]:=by
 match ds,ys,h with
 | [],[],_=>exact ⟨rfl,rfl⟩
 | [],_::_,h=>simp [DReps] at h
 | _::_,_,h=>simp [DReps] at h
theorem dl {T:TypeId→Prop} (PT:PlainT P T) {W:World} {b0:Nat}:∀(ts:List TypeId) (vs:List Value) (ds:List (DataW H)) (ps:List MemPlace),(∀t∈ts,T t) →
  (∀(j:Nat) t v,ts[j]? = some t→vs[j]? = some v→Value.okWide P W .any b0 t v)→DataW.TrodAll enc P W 0 (fun _=>true) true ts vs ds ps →
  ∃ys,DReps P ts ds ys∧ys.length=vs.length∧∀(i:Nat) (y:AV) (u:Value),ys[i]? = some y→vs[i]? = some u→Rep (G0 W) W none y u
 | [],[],[],_,_,_,_=>⟨[],trivial,rfl,fun i y u h=>by simp at h⟩
 | t::ts,v::vs,d::ds,ps,hT,hok,⟨p,q,h1,h2,_⟩=>by
  obtain ⟨y,k1,k2⟩:=AH8 PT (hT t (by simp)) (hok 0 t v rfl rfl) h1
  obtain ⟨ys,k3,k4,k5⟩:=dl PT ts vs ds q (fun t ht=>hT t (by simp [ht])) (fun j t v a b=>hok (j+1) t v a b) h2
  refine ⟨y::ys,⟨k1,k3⟩,by simp [k4],fun i z u a b=>?_⟩
  match i with
  | 0=>simp at a b;subst a;subst b;exact k2
  | i+1=>exact k5 i z u a b
 | [],_::_,_,_,_,_,h=>by simp [DataW.TrodAll] at h
 | [],[],_::_,_,_,_,h=>by simp [DataW.TrodAll] at h
 | _::_,[],_,_,_,_,h=>by simp [DataW.TrodAll] at h
 | _::_,_::_,[],_,_,_,h=>by simp [DataW.TrodAll] at h

theorem Wg {W:World} {sp:Nat→Bool} {hd:Bool}:∀{ts:List TypeId} {vs:List Value} {ds:List (DataW H)} {ps:List MemPlace},DataW.TrodAll enc P W 0 sp hd ts vs ds ps→ds.length=ts.length
 | [],[],[],_,_=>rfl
 | _::_,_::_,_::_,_,⟨_,_,_,h,_⟩=>by rw [B0,B0,Wg h]
 | [],_::_,_,_,h=>by simp [DataW.TrodAll] at h
 | [],[],_::_,_,h=>by simp [DataW.TrodAll] at h
 | _::_,[],_,_,h=>by simp [DataW.TrodAll] at h
 | _::_,_::_,[],_,h=>by simp [DataW.TrodAll] at h
theorem Qd {W W':World} {sp:Nat→Bool}:∀{ts:List TypeId} {vs:List Value} {ds:List (DataW H)} {ps:List MemPlace},DataW.TrodAll enc P W 0 sp true ts vs ds ps→(∀p∈ps,W.sameAt W' p)→DataW.TrodAll enc P W' 0 sp true ts vs ds ps
 | [],[],[],_,h,_=>h
 | _::_,_::_,_::_,_,⟨p,q,⟨n,hn⟩,h2,e⟩,hs=>⟨p,q,⟨n,DataW.trod_carry n _ _ _ hn (fun x hx=>hs x (by rw [e];exact T3 _ hx))⟩,Qd h2 (fun x hx=>hs x (by rw [e];exact T5 _ hx)),e⟩
 | [],_::_,_,_,h,_=>by simp [DataW.TrodAll] at h
 | [],[],_::_,_,h,_=>by simp [DataW.TrodAll] at h
 | _::_,[],_,_,h,_=>by simp [DataW.TrodAll] at h
 | _::_,_::_,[],_,h,_=>by simp [DataW.TrodAll] at h

/-- **A law that answers true, for whatever can be read.** -/
theorem yq {f:FuncId} {fn:Func} {s:ChangeSpec} {T:TypeId→Prop} {tb:TypeId} {W:World} {base:Nat} {args:Array Value} {ds gs:List (DataW H)} {before:List MemPlace} (K:Kids P (·<P.types.size)) (hz:∀t e,t<P.types.size→P.underlying t=some (.slice e)→0<P.cellsOf e)
  (PT:PlainT P T) (hT:∀t∈fn.params.toList,T t∧t<P.types.size) (hb:P.underlying tb=some .bool) (hres:fn.resultTypes=#[tb]) (hvars:s.vars=[])
  (hspec:∀ds:List (DataW H),ds.length=fn.params.size→s.fn H ds={ results:=[.lit (.bool true)],args:=ds })
  (hval:∀(j:Nat) t v,fn.params[j]? = some t→args[j]? = some v→Value.okWide P W .any base t v) (hW:DataW.Whole enc P fn.params.toList s.vars false W args.toList ds gs before)
  (hglob:K2 W)
  (main:∀ys:List AV,DReps P fn.params.toList ds ys→AFun P f ys [] (.v (.bool true))) (hbd:GI.bd≤0:=by exact Al 0):
  Calls P f args W (fun e W'=>∃v,e=.returned v∧s.post enc P fn false true false false W args v W'):=by
 have hW0:=hW
 obtain ⟨p,q,hA,hV,hpq,hfz,hnd⟩:=hW
 rw [hvars] at hV
 obtain ⟨rfl,rfl⟩:=trodVars_none hV
 rw [H4] at hpq
 subst hpq
 obtain ⟨ys,h1,h2,h3⟩:=dl PT _ _ _ _ (fun t ht=>(hT t ht).1) (fun j t v a b=>hval j t v (by simpa using a) (by simpa using b)) hA
 have hlen:=Wg hA
 have hc:=main ys h1 0 (G0 W) W args (by simpa using h2.symm) (fun i y u a b=>(h3 i y u a (by simpa using b)).lift) (AH6 W) (AH7 hglob)
 refine (callsIn_wide.1 (hc hbd)).mono ?_
 rintro e W' ⟨v,G',r,H',rfl,hr,hH,hTg,hk,hl,rfl,rfl⟩
 have hv:=T7 hr
 subst hv
 refine ⟨_,rfl,ds,[],before,[],before,[],hW0,?_,?_,?_,?_,fun h=>by cases h⟩
 ·rw [hres,H4,hspec ds (by simpa using hlen)]
  exact trodAll_cons_mk (p:=[]) (shut_bool hb true) trodAll_mk0
 ·rw [H4,hspec ds (by simpa using hlen)]
  refine Qd (DataW.TrodAll.respare K hz (fun t ht=>(hT t ht).2) hA (fun p hp=>by simpa using hW0.lt p hp)) (fun p hp=>?_)
  have hlt:=hW0.lt p hp
  have hb:=(hk.old _ (Va hlt)).1
  cases p with
  | cell b o=>exact Km hb
  | map b=>exact hb
 ·rw [hvars,H4,hspec ds (by simpa using hlen)]
  rfl
 refine ⟨hk.os,hk.output,fun i hi=>?_⟩
 have hb:=(hk.old i (Va hi)).1
 rw [hb]
 cases ho:W.heap[i]? with
 | none=>simp
 | some o=>cases o<;>simp
end
end Go.SX
namespace Go.Proofs.YtekiioamifokoaaGreatDoor
open Go Go.SX Go.SX.Nb Go.ChangeShapes Go.RowKit
set_option maxRecDepth 100000

theorem own:ownKnob Tryz.prog.godebug=none:=by kernel_rfl
theorem kids:Kids Tryz.prog (·<Tryz.prog.types.size):=kids_rows (by kernel_rfl) (by kernel_rfl)
theorem full:∀t e,t<Tryz.prog.types.size→Tryz.prog.underlying t=some (.slice e)→0<Tryz.prog.cellsOf e:=slices_full_of Tryz.prog (by kernel_rfl)
theorem ADa {H:Type}:∀d:DataW H,1≤Rows.uptoBulk d
 | .lit (.string b)=>by rw [Rows.uptoBulk];omega
 | .lit (.bool _)=>by simp [Rows.uptoBulk]
 | .lit (.int _ _)=>by simp [Rows.uptoBulk]
 | .lit (.float _ _)=>by simp [Rows.uptoBulk]
 | .lit .nil=>by simp [Rows.uptoBulk]
 | .nil=>by simp [Rows.uptoBulk]
 | .ptr d=>by rw [Rows.uptoBulk];omega
 | .slice a b=>by rw [Rows.uptoBulk];omega
 | .agg a=>by rw [Rows.uptoBulk];omega
 | .iface _ d=>by rw [Rows.uptoBulk];omega
 | .map a=>by rw [Rows.uptoBulk];omega
 | .held _=>by simp [Rows.uptoBulk]
theorem Ys {H:Type}:∀l:List (DataW H),l.length≤Rows.uptoBulkAll l∧∀d∈l,Rows.uptoBulk d≤Rows.uptoBulkAll l
 | []=>⟨Nat.zero_le _,fun d h=>by cases h⟩
 | d::r=>by
  obtain ⟨h1,h2⟩:=Ys r
  have:=ADa d
  rw [Rows.uptoBulkAll,List.length_cons]
  refine ⟨by omega,fun x hx=>?_⟩
  rcases List.mem_cons.1 hx with rfl|hx
  ·omega
  have:=h2 x hx;omega
theorem ce {H:Type}:Bulk (Rows.uptoBulk (H:=H)) where
 str:=fun bs=>by rw [Rows.uptoBulk];omega
 slice:=fun elems spare=>by
  obtain ⟨h1,h2⟩:=Ys elems
  rw [Rows.uptoBulk]
  exact ⟨by omega,fun d hd=>by have:=h2 d hd;omega⟩
 agg:=fun parts d hd=>by
  have:=(Ys parts).2 d hd
  rw [Rows.uptoBulk]
  omega

/-- What the rows of this seat list. -/
def ug:List (String×DataW Unit):=Rows.rewriteTellsUptoRow.laid
theorem dm:∀u,Tryz.prog.typeName? 3 u=some "*errors.errorString" → u=267:=by
 intro u hu
 exact typeName_ptr_named (nm := "errors.errorString") (by kernel_rfl) (by kernel_rfl) (by decide) u hu
theorem AH9 {W:World} (h:laidMet Tryz.prog ug W):∃a:Addr,W.var? Tryz.prog "strconv.ErrRange" = some #[.iface 267 (.pointer (some a))]:=by
 have h':=h.tail.tail.tail.tail
 obtain ⟨a,s,h1,_⟩:=laid_sentinel (g:=1) (ti:=164) (tp:=267) (te:=269) (ts:=9) h' (by kernel_rfl) (by kernel_rfl) Tryz.underlying164 dm Tryz.underlying267 Tryz.underlying269 rfl rfl Tryz.underlying9 (by kernel_rfl) (by kernel_rfl)
 exact ⟨a,h1⟩
theorem ADb {W:World} (h:laidMet Tryz.prog ug W):∃a:Addr,W.var? Tryz.prog "strconv.ErrSyntax" = some #[.iface 267 (.pointer (some a))]:=by
 have h':=h.tail.tail.tail.tail.tail
 obtain ⟨a,s,h1,_⟩:=laid_sentinel (g:=0) (ti:=164) (tp:=267) (te:=269) (ts:=9) h' (by kernel_rfl) (by kernel_rfl) Tryz.underlying164 dm Tryz.underlying267 Tryz.underlying269 rfl rfl Tryz.underlying9 (by kernel_rfl) (by kernel_rfl)
 exact ⟨a,h1⟩
theorem AHa {W:World} (h:laidMet Tryz.prog ug W):Lib.TabIs Tryz.prog W "internal/strconv.uint64pow10" .u64 Lib.pow10Tab:=
 Lib.tabIs_of_head (g:=5) (t:=327) (e:=249) (n:=20) (by kernel_rfl) (by kernel_rfl) (by kernel_rfl) (by kernel_rfl) (by kernel_rfl) (by kernel_rfl) h.tail.tail
theorem Vb {P:Program} {W:World} {n:String} {g:Nat} {cs:Array Value} (hg:P.globalNamed n=some g) (h:W.var? P n=some cs):∃t f,W.heap[g]? = some (.cells cs t f):=by
 unfold World.var? at h
 rw [hg] at h
 simp only [Option.bind_some] at h
 split at h
 ·rename_i cs' t f e
  injection h with h
  subst h
  exact ⟨t,f,e⟩
 cases h
theorem glob {W:World} [E:ErrAt] (h:W.ShapedOpen Tryz.prog) (hl:laidMet Tryz.prog ug W) (he:W.var? Tryz.prog "strconv.ErrRange" = some #[.iface 267 (.pointer (some E.b))]) (he2:W.var? Tryz.prog "strconv.ErrSyntax" = some #[.iface 267 (.pointer (some E.bs))]):K2 W:=by
 intro x hx
 have hx':x∈Ya:=hx
 unfold Ya at hx'
 simp only [List.mem_cons,List.mem_nil_iff,or_false] at hx'
 rcases hx' with rfl|rfl|rfl|rfl
 ·obtain ⟨m,hm⟩:=cell_of_shapedOpen_int (g:=2) (t:=3) (zero:=#[.int .i64 0]) (k:=.i64) h (of_decide_eq_true (by kernel_rfl)) (by kernel_rfl) rfl (by kernel_rfl) (by kernel_rfl) Tryz.underlying3
  obtain ⟨cs,hh,hs,_⟩:=h.1 2 #[.int .i64 0] 3 (of_decide_eq_true (by kernel_rfl)) (by kernel_rfl)
  have hs':cs.size=1:=hs
  have h1:0<cs.size:=by omega
  have hc:cs[0]=.int .i64 m:=by
   simp [World.cell?,hh,h1] at hm
   exact hm
  have:cs=#[.int .i64 m]:=by
   apply Array.ext
   ·simpa using hs'
   intro i h1 h2
   have:i=0:=by omega
   subst this
   simpa using hc
  rw [this] at hh
  exact ⟨_,hh,m,3,_,rfl⟩
 ·obtain ⟨t,f,e⟩:=Vb (g:=1) (by kernel_rfl) he
  exact ⟨_,e,t,f,rfl⟩
 ·obtain ⟨t,f,e⟩:=Vb (g:=0) (by kernel_rfl) he2
  exact ⟨_,e,t,f,rfl⟩
 obtain ⟨t,f,e⟩:=Vb (g:=5) (by kernel_rfl) (AHa hl)
 exact ⟨_,e,t,f,rfl⟩
end Go.Proofs.YtekiioamifokoaaGreatDoor
namespace Go.SX.Nb
open Go Go.SX Go.Proofs
variable [ErrAt]
set_option maxRecDepth 4000
mutual
def depthE:Expr→Nat
 | .mk _ _ _ k=>Qe k+1
def Qe:List Expr→Nat
  | []=>0
  | e::r=>max (depthE e) (Qe r)
 end
mutual
def Dy (p:Expr→Bool):Expr→Bool
 | .mk o t v k=>p (.mk o t v k)&&Nr p k
def Nr (p:Expr→Bool):List Expr→Bool
  | []=>true
  | e::r=>Dy p e&&Nr p r
 end
mutual
def Yt:Expr→List Expr
 | .mk o t v k=>.mk o t v k::Vc k
def Vc:List Expr→List Expr
  | []=>[]
  | e::r=>Yt e++Vc r
 end
theorem dn (e:Expr):depthE e=Qe e.kids+1:=by cases e;rfl
theorem Jc (p:Expr→Bool) (e:Expr):Dy p e=(p e&&Nr p e.kids):=by cases e;rfl
theorem To:∀a b,Eg (a++b)=Eg a+Eg b
 | [],b=>by rw [D9,Eg,Bz]
 | e::r,b=>by rw [Dh,Eg,Eg,To r b,Li]
theorem Fu (p:Expr→Bool):∀l:List Expr,Nr p l=true↔∀y∈l,Dy p y=true
 | []=>by simp [Nr]
 | e::r=>by rw [Nr,As,Fu p r];simp
mutual
theorem Hj:∀(d:Int) (e:Expr),(C3 d e).length=sizeE e
 | d,.mk o t v k=>by rw [C3,sizeE,B0,Yu (d+1) k,Nat.add_comm]
theorem Yu:∀(d:Int) (l:List Expr),(C0 d l).length=Eg l
  | d,[]=>rfl
  | d,e::r=>by rw [C0,Eg,Ai,Hj d e,Yu d r]
 end
mutual
theorem Yv:∀(d:Int) (e:Expr),(C3 d e).map (·.2)=Yt e
 | d,.mk o t v k=>by rw [C3,Yt,Bm,Yw (d+1) k]
theorem Yw:∀(d:Int) (l:List Expr),(C0 d l).map (·.2)=Vc l
  | d,[]=>rfl
  | d,e::r=>by rw [C0,Vc,Bj,Yv d e,Yw d r]
 end
mutual
theorem dp (p:Expr→Bool):∀e:Expr,(Yt e).all p=Dy p e
 | .mk o t v k=>by rw [Yt,Dy,List.all_cons,Yx p k]
theorem Yx (p:Expr→Bool):∀l:List Expr,(Vc l).all p=Nr p l
  | []=>rfl
  | e::r=>by rw [Vc,Nr,List.all_append,dp p e,Yx p r]
 end
theorem yr (p:Expr→Bool) (d:Int) (e:Expr):((C3 d e).all fun it=>p it.2)=Dy p e:=by
 rw [←dp p e,←Yv d e,List.all_map]
 rfl
def Gf (m:Int) (L:List (Int×Expr)):Int:=L.foldl (fun m it=>max m it.1) m
mutual
theorem Yy:∀(d m:Int) (e:Expr),Gf m (C3 d e)=max m (d-1+depthE e)
 | d,m,.mk o t v k=>by
  rw [C3,depthE]
  show Gf (max m d) (C0 (d+1) k)=_
  rw [Yz (d+1) (max m d) k (by omega)]
  omega
theorem Yz:∀(d m:Int) (l:List Expr),d-1≤m→Gf m (C0 d l)=max m (d-1+Qe l)
  | d,m,[],h=>by
    rw [C0,Qe]
    show m=_
    omega
  | d,m,e::r,h=>by
    rw [C0,Qe]
    unfold Gf
    rw [oz]
    show Gf (Gf m (C3 d e)) (C0 d r)=_
    rw [Yy d m e,Yz d _ r (by omega)]
    omega
 end
theorem Wh (e:Expr):Gf 0 (C3 1 e)=depthE e:=by rw [Yy];omega
theorem m0:∀(L:List (Int×Expr)) (m b:Int),m≤b→(Gf m L≤b↔∀it∈L,it.1≤b)
 | [],m,b,h=>by simp [Gf,h]
 | it::r,m,b,h=>by
  show Gf (max m it.1) r≤b↔_
  rcases Decidable.em (it.1≤b) with h1|h1
  ·rw [m0 r (max m it.1) b (by omega)]
   simp [h1]
  constructor
  ·intro h2
   have:∀(r:List (Int×Expr)) (m:Int),m≤Gf m r:=by
    intro r
    induction r with
    | nil=>intro m;exact Int.le_refl _
    | cons a r ih=>intro m;have:=ih (max m a.1);show m≤Gf (max m a.1) r;omega
   have:=this r (max m it.1)
   omega
  intro h2
  exact absurd (h2 it (by simp)) h1
theorem AHb (e:Expr) {b:Nat}:(∀it∈C3 1 e,it.1≤(b:Int))↔depthE e≤b:=by
 rw [←m0 (C3 1 e) 0 b (by omega),Wh]
 omega
def Ga (e:Expr):Bool:=(decide (depthE e≤30)&&decide (sizeE e≤300))&&Dy F1 e
theorem Fv (e:Expr):Az e=Ga e:=by
 have hpos:1≤sizeE e:=by rw [Tm];omega
 rw [Un]
 unfold Az Ga
 rw [B5]
 simp only [As,decide_eq_true_eq,Qv,Hj]
 rw [←AHb e,←yr F1 1 e,B5]
 constructor
 ·intro h
  have key:∀(k:Nat) (hk:k<(C3 1 e).length),F1 (C3 1 e)[k].2=true∧(C3 1 e)[k].1≤30∧(k:Int)+1≤300:=fun k hk=>by
   have:=h k (by rw [Hj] at hk;exact hk)
   rw [j9 (Ab hk)] at this
   simp only [Iy,Ei,Ph,decide_eq_false_iff_not] at this
   exact ⟨this.1.1,by have:=this.1.2;omega,by have:=this.2;omega⟩
  refine ⟨⟨fun it hit=>?_,?_⟩,fun it hit=>?_⟩
  ·obtain ⟨k,hk,rfl⟩:=Us hit
   exact (key k hk).2.1
  ·have:=(key (sizeE e-1) (by rw [Hj];omega)).2.2
   omega
  obtain ⟨k,hk,rfl⟩:=Us hit
  exact (key k hk).1
 rintro ⟨⟨h1,h2⟩,h3⟩ k hk
 have hk':k<(C3 1 e).length:=by rw [Hj];exact hk
 rw [j9 (Ab hk')]
 have a1:=h1 _ (Bl hk')
 have a3:=h3 _ (Bl hk')
 have a3':F1 (C3 1 e)[k].2=true:=a3
 rw [a3']
 simp only [Iy,Ei,Ig,decide_eq_false_iff_not]
 exact ⟨⟨trivial,by have:(C3 1 e)[k].1≤(30:Int):=a1;omega⟩,by omega⟩
/-- Its number is one of 64 bits. -/
def Ge (e:Expr):Bool:=decide (-9223372036854775808≤e.val.n)&&decide (e.val.n≤9223372036854775807)
/-! Names. -/
mutual
def eqE:Expr→Expr→Bool
 | .mk o t v k,.mk o' t' v' k'=>((((o==o')&&(t==t'))&&((v.kind==v'.kind&&v.n==v'.n)&&v.s==v'.s)))&&eqL k k'
def eqL:List Expr→List Expr→Bool
  | [],[]=>true
  | e::r,e'::r'=>eqE e e'&&eqL r r'
  | _,_=>false
 end
theorem ALj (x y:Expr):eqE x y=((((x.op==y.op)&&(x.text==y.text))&&((x.val.kind==y.val.kind&&x.val.n==y.val.n)&&x.val.s==y.val.s))&&eqL x.kids y.kids):=by
 cases x;cases y;rw [eqE];rfl
mutual
theorem Xd:∀x y:Expr,eqE x y=true↔x=y
 | .mk o t v k,.mk o' t' v' k'=>by
  rw [eqE]
  simp only [As,beq_iff_eq,Tp k k',Expr.mk.injEq]
  constructor
  ·rintro ⟨⟨⟨rfl,rfl⟩,⟨h1,h2⟩,h3⟩,rfl⟩
   refine ⟨rfl,rfl,?_,rfl⟩
   cases v;cases v'
   simp_all
  rintro ⟨rfl,rfl,rfl,rfl⟩
  exact ⟨⟨⟨rfl,rfl⟩,⟨rfl,rfl⟩,rfl⟩,rfl⟩
theorem Tp:∀x y:List Expr,eqL x y=true↔x=y
  | [],[]=>by simp [eqL]
  | [],e::r=>by simp [eqL]
  | e::r,[]=>by simp [eqL]
  | e::r,e'::r'=>by rw [eqL,As,Xd e e',Tp r r',Up]
 end
theorem AHc:∀{x y:List Expr},eqL x y=true→x.length=y.length:=fun h=>by rw [(Tp _ _).1 h]
theorem ADc (x:Expr):eqE x x=true:=(Xd x x).2 rfl
/-! A node by itself, and marks. -/
theorem jd {of:Str} {ws:List Str} (h:of=Qb ws) (hp:∀w∈ws,(32:UInt8)∉w) (s:Str):R7 s of=(!(s==[])&&ws.contains s):=by
 unfold R7
 rw [lx]
 cases hb:s.contains 32 with
 | false =>
  have h2:(32:UInt8)∉s:=by simpa using hb
  rw [h,M8 s h2 ws hp,Xl,Xk]
  congr 1
  rw [List.contains_eq_any_beq]
  congr 1
  funext w
  rw [Un,beq_iff_eq,beq_iff_eq]
  exact eq_comm
 | true =>
  have h2:(32:UInt8)∈s:=by simpa using hb
  have h3:ws.contains s=false:=by
   rw [Ky]
   intro h4
   exact hp s (by simpa using h4) h2
  rw [h3]
  simp
def levels:List (List Str):=[[[111,114]],[[97,110,100]],[],[[61],[33,61],[60],[60,61],[62],[62,61]],[[43],[45],[38]],[[42],[47],[37]]]
def Om (s:Str):Int:=match levels.findIdx? (fun l=>l.contains s) with|some i=>i|none => -1
def Vd:List Str:=[[111,114],[],[97,110,100],[],[61],[33,61],[60],[60,61],[62],[62,61],[],[43],[45],[38],[],[42],[47],[37]]
theorem rf:R8=Qb Vd:=by kernel_rfl
theorem m8:∀w∈Vd,(32:UInt8)∉w:=by decide
theorem rg (s:Str):R7 s R8=decide (0≤Om s):=by
 rw [jd rf m8 s]
 have h1:decide (0≤Om s)=levels.any (fun l=>l.contains s):=by
  unfold Om
  cases h:levels.findIdx? (fun l=>l.contains s) with
  | some i =>
   have:levels.any (fun l=>l.contains s)=true:=by
    have:=N4.1 h
    obtain ⟨hi,hp,_⟩:=this
    exact Fy.2 ⟨_,Bl hi,hp⟩
   rw [this]
   simp
  | none =>
   have:=S5.1 h
   have e:levels.any (fun l=>l.contains s)=false:=by
    rw [Iz]
    intro l hl
    rw [this l hl]
    simp
   rw [e]
   rfl
 rw [h1]
 by_cases h0:s=[]
 ·subst h0;rfl
 have:(s==[])=false:=by simpa using h0
 rw [this,Xl,S4]
 simp [levels,Vd,h0,Bool.or_assoc]
def Za (e:Expr):Bool:=
 if e.op==1 then ((Er e.val&&decide (0≤e.val.n))&&(e.text==[]))&&((e.kids.length:Int)==0)
 else if !(Pb e.val) then false
 else if e.op==2 then Rr e.text&&((e.kids.length:Int)==0)
 else if e.op==3 || e.op==4 then (e.text==[])&&((e.kids.length:Int)==1)
 else if e.op==5 then decide (0≤Om e.text)&&((e.kids.length:Int)==2)
 else if e.op==6 then Cn e.text==(e.kids.length:Int)
 else false
theorem m9 (e:Expr):F1 e=Za e:=by
 unfold F1 Za
 rw [rg,Im]
 cases Pb e.val<;>simp
/-! What is wide. -/
def Ve (e:Expr):Bool:=((decide ((100:Int)<e.text.length) || decide ((400:Int)<e.val.s.length)) || decide ((100:Int)<e.kids.length))
/-- Among trees, when n have been seen: is one too much? -/
def Rt (l:List Expr) (n:Nat):Bool:=decide (500<n+l.length) || l.any Ve
def I3:Nat→List Expr→Nat→Bool
 | 0,l,n => !l.isEmpty
 | f+1,l,n=>if l.isEmpty then false else if Rt l n then true else if decide ((500:Int)<(l.flatMap Expr.kids).length) then true else I3 f (l.flatMap Expr.kids) (n+l.length)
theorem Zb:∀l:List Expr,Eg l=l.length+Eg (l.flatMap Expr.kids)
 | []=>rfl
 | e::r=>by
  rw [Eg,Tm,gc,To,Zb r,B0]
  omega
theorem Zc {l:List Expr} {n:Nat} (h:Rt l n=false):n+l.length≤500∧∀e∈l,Ve e=false:=by
 unfold Rt at h
 simp only [Ei,decide_eq_false_iff_not,Iz,S3] at h
 exact ⟨by omega,h.2⟩
theorem je {e:Expr} (h:Ve e=false):e.text.length≤100∧e.val.s.length≤400∧e.kids.length≤100:=by
 unfold Ve at h
 simp only [Ei,decide_eq_false_iff_not] at h
 omega
theorem dq {f:Nat} {l:List Expr} {n:Nat} (h:I3 (f+1) l n=false) (hl:l.isEmpty=false):Rt l n=false∧(l.flatMap Expr.kids).length≤500∧I3 f (l.flatMap Expr.kids) (n+l.length)=false:=by
 rw [I3,if_neg (by rw [hl];simp)] at h
 split at h
 ·cases h
 rename_i h1
 split at h
 ·cases h
 rename_i h2
 simp only [decide_eq_true_eq] at h2
 exact ⟨by simpa using h1,by omega,h⟩
theorem uh:∀(f:Nat) (l:List Expr) (n:Nat),I3 f l n=false→∀e∈l,okE f e∧Dy (fun y => !Ve y) e=true
 | 0,l,n,h,e,he=>by
  have:l=[]:=by simpa [I3] using h
  subst this
  cases he
 | f+1,l,n,h,e,he=>by
  have hl:l.isEmpty=false:=by cases l<;>simp_all
  obtain ⟨h1,h2,h3⟩:=dq h hl
  have h4:=je ((Zc h1).2 e he)
  have ih:=uh f _ _ h3
  have hk:∀y∈e.kids,okE f y∧Dy (fun y => !Ve y) y=true:=fun y hy=>ih y (List.mem_flatMap.2 ⟨e,he,hy⟩)
  refine ⟨⟨by omega,by omega,fun y hy=>(hk y hy).1⟩,?_⟩
  rw [Jc,(Zc h1).2 e he,(Fu _ _).2 fun y hy=>(hk y hy).2]
  rfl
theorem dr:∀(f:Nat) (l:List Expr) (n:Nat),n≤500→I3 f l n=false→n+Eg l≤500
 | 0,l,n,hn,h=>by
  have:l=[]:=by simpa [I3] using h
  subst this
  simpa [Eg] using hn
 | f+1,l,n,hn,h=>by
  by_cases hl:l.isEmpty=true
  ·have:l=[]:=by simpa using hl
   subst this
   simpa [Eg] using hn
  have hl':l.isEmpty=false:=by simpa using hl
  obtain ⟨h1,h2,h3⟩:=dq h hl'
  have:=dr f _ _ (Zc h1).1 h3
  rw [Zb l]
  omega
def Qf (e:Expr):Bool:=I3 61 [e] 0
/-- A tree that is gone through. -/
structure Slim (e:Expr):Prop where
 ok:okE 61 e
 size:sizeE e≤500
 slim:Dy (fun y => !Ve y) e=true
theorem ui {e:Expr} (h:Qf e=false):Slim e:=by
 obtain ⟨h1,h2⟩:=uh _ _ _ h e (by simp)
 have:=dr _ _ _ (by decide) h
 exact ⟨h1,by simpa [Eg] using this,h2⟩
end Go.SX.Nb
namespace Go.Proofs.YtekiioamifokoaaGreatDoor
open Go Go.SX Go.SX.Nb Go.ChangeShapes Go.RowKit
set_option maxRecDepth 100000
theorem rh {ys:List AV} (h:∀(i:Nat) (y:AV),ys[i]? = some y→∃e:Nb.Expr,y=Aa e∧Dy Ge e=true):∃l:List Nb.Expr,ys=l.map Aa∧Nr Ge l=true:=by
 induction ys with
 | nil=>exact ⟨[],rfl,rfl⟩
 | cons y ys ih =>
  obtain ⟨e,rfl,he⟩:=h 0 y rfl
  obtain ⟨l,rfl,hl⟩:=ih (fun i z hz=>h (i+1) z hz)
  exact ⟨e::l,rfl,by rw [Nr,he,hl];rfl⟩
theorem uj {H:Type} [ErrAt] (d:DataW H) (y:AV) (h:DRep Tryz.prog 24 d y):∃v:Val,y=Bq v ∧ -9223372036854775808≤v.n∧v.n≤9223372036854775807:=by
 obtain ⟨ys,hn,rfl,hh⟩:=h.struct' ce Tryz.underlying24
 match ys,hn with
 | [y0,y1,y2],_ =>
  obtain ⟨d0,b0,h0⟩:=hh 0 _ y0 rfl rfl
  obtain ⟨d1,b1,h1⟩:=hh 1 _ y1 rfl rfl
  obtain ⟨d2,b2,h2⟩:=hh 2 _ y2 rfl rfl
  obtain ⟨k,rfl,rfl,_⟩:=h0.int' Tryz.underlying3
  obtain ⟨n,rfl,rfl,hn1,hn2⟩:=h1.int' Tryz.underlying2
  obtain ⟨s,rfl,rfl⟩:=h2.str' Tryz.underlying9
  exact ⟨⟨k,n,s⟩,rfl,hn1,hn2⟩
theorem ma {H:Type} [ErrAt] {t:TypeId} {d:DataW H} {y:AV} (h:DRep Tryz.prog t d y):(t=27→∃e:Nb.Expr,y=Aa e∧Dy Ge e=true)∧(t=25→∃l:List Nb.Expr,y=.slice false 6 (l.map Aa)∧Nr Ge l=true):=by
 induction h with
 | int hu _=>exact ⟨fun e=>(by subst e;rw [Tryz.underlying27] at hu;cases hu),fun e=>by subst e;rw [Tryz.underlying25] at hu;cases hu⟩
 | bool hu=>exact ⟨fun e=>(by subst e;rw [Tryz.underlying27] at hu;cases hu),fun e=>by subst e;rw [Tryz.underlying25] at hu;cases hu⟩
 | str hu=>exact ⟨fun e=>(by subst e;rw [Tryz.underlying27] at hu;cases hu),fun e=>by subst e;rw [Tryz.underlying25] at hu;cases hu⟩
 | nil hu =>
  refine ⟨fun e=>(by subst e;rw [Tryz.underlying27] at hu;cases hu),fun e=>?_⟩
  subst e
  rw [Tryz.underlying25] at hu
  injection hu with hu
  injection hu with hu
  subst hu
  exact ⟨[],by rw [show Tryz.prog.cellsOf 27=6 by kernel_rfl];rfl,rfl⟩
 | slice hu hn hh ih =>
  refine ⟨fun e=>(by subst e;rw [Tryz.underlying27] at hu;cases hu),fun e=>?_⟩
  subst e
  rw [Tryz.underlying25] at hu
  injection hu with hu
  injection hu with hu
  subst hu
  rename_i elems spare ys
  obtain ⟨l,rfl,hl⟩:=rh (ys:=ys) (fun i y hy=>by
   have hlt:i<elems.length:=by rw [←hn];exact (List.getElem?_eq_some_iff.1 hy).1
   exact (ih i elems[i] y (List.getElem?_eq_getElem hlt) hy).1 rfl)
  exact ⟨l,by rw [show Tryz.prog.cellsOf 27=6 by kernel_rfl],hl⟩
 | struct hu hn hn' hh ih =>
  refine ⟨fun e=>?_,fun e=>by subst e;rw [Tryz.underlying25] at hu;cases hu⟩
  subst e
  rw [Tryz.underlying27] at hu
  injection hu with hu
  injection hu with hu
  subst hu
  rename_i parts ys
  match parts,hn,ys,hn' with
  | [p0,p1,p2,p3],_,[y0,y1,y2,y3],_ =>
   obtain ⟨o,rfl,rfl,_⟩:=(hh 0 _ p0 y0 rfl rfl rfl).int' Tryz.underlying3
   obtain ⟨s,rfl,rfl⟩:=(hh 1 _ p1 y1 rfl rfl rfl).str' Tryz.underlying9
   obtain ⟨v,rfl,hv1,hv2⟩:=uj p2 y2 (hh 2 _ p2 y2 rfl rfl rfl)
   obtain ⟨l,rfl,hl⟩:=(ih 3 _ p3 y3 rfl rfl rfl).2 rfl
   refine ⟨.mk o s v l,?_,?_⟩
   ·rw [Ap];rfl
   rw [Dy,hl,Bool.and_true]
   show (decide (-9223372036854775808≤v.n)&&decide (v.n≤9223372036854775807))=true
   simp [hv1,hv2]
theorem ADd {H:Type} [ErrAt] (d:DataW H) (y:AV) (h:DRep Tryz.prog 27 d y):∃e:Nb.Expr,y=Aa e∧Dy Ge e=true:=(ma h).1 rfl
end Go.Proofs.YtekiioamifokoaaGreatDoor
namespace Go.SX.Nb
open Go Go.SX Go.Proofs
variable [ErrAt]
set_option maxRecDepth 4000
/-- The lexer from a place between two words on. -/
def AS7 (f q:Nat) (s:Str):List (Tok×Int):=K5 f (q+gapM s) (s.drop (gapM s))
theorem mb {f q:Nat} {s:Str} (h:s≠[]):∃(n:Nat),K5 (f+1) q s=(⟨(Cv s).1,(Cv s).2.1,q⟩,(Cv s).2.2.2)::(if (Cv s).2.2.2=0 then AS7 f (q+n) (s.drop n) else [])∧((Cv s).2.2.2=0→(Cv s).2.2.1=(n:Int)∧1≤n∧n≤s.length):=by
 refine ⟨(Cv s).2.2.1.toNat,?_,fun he=>?_⟩
 ·rw [Qa h]
  simp only [beq_iff_eq]
  rfl
 obtain ⟨n,h1,h2,h3⟩:=ue (s:=s) (by cases s with|nil=>exact absurd rfl h|cons c r=>simp) he
 rw [h1]
 exact ⟨rfl,by simpa using h2,by simpa using h3⟩
/-! ### Gaps -/
/-! ### Words -/
theorem AHd {s:Str} (h:(Bs s).2.1=0):s.length≤4000∧(∀it∈Ct s,it.2=0)∧Bs s=((Ct s).map (·.1)++[⟨0,[],s.length⟩],0,0):=by
 unfold Bs at h ⊢
 split at h
 ·exact absurd h (show ¬(3:Int)=0 by decide)
 rename_i hl
 rw [if_neg hl]
 cases hf:(Ct s).find? (fun it=>it.2 != 0) with
 | some it =>
  rw [hf] at h
  have:=gb hf
  simp at this
  exact absurd h this
 | none =>
  rw [N3] at hf
  refine ⟨by omega,fun it hit=>by simpa using hf it hit,rfl⟩
def Wi (s:Str):Int:=if Db 1==s then 1 else if Db 2==s then 2 else if Db 3==s then 3 else 0
structure KindUpto (s:Str) (x:Nat):Prop where
 le:x≤3
 a:1≤x→(Db 1==s)=false
 b:2≤x→(Db 2==s)=false
 c:3≤x→(Db 3==s)=false
theorem AHe {s:Str} {x:Nat} (h:KindUpto s x) (hx:x<3) (e:(Db ((x:Int)+1)==s)=true):Wi s=(x:Int)+1:=by
 have h3:x=0∨x=1∨x=2:=by omega
 unfold Wi
 rcases h3 with rfl|rfl|rfl
 ·have e:(Db 1==s)=true:=e
  rw [if_pos e];rfl
 ·have e:(Db 2==s)=true:=e
  rw [if_neg (by rw [h.a (by omega)];simp),if_pos e];rfl
 have e:(Db 3==s)=true:=e
 rw [if_neg (by rw [h.a (by omega)];simp),if_neg (by rw [h.b (by omega)];simp),if_pos e];rfl
theorem AHf {s:Str} {x:Nat} (h:KindUpto s x) (hx:x<3) (e:(Db ((x:Int)+1)==s)=false):KindUpto s (x+1):=by
 have h3:x=0∨x=1∨x=2:=by omega
 rcases h3 with rfl|rfl|rfl
 ·exact ⟨by omega,fun _=>e,fun h=>by omega,fun h=>by omega⟩
 ·exact ⟨by omega,fun _=>h.a (by omega),fun _=>e,fun h=>by omega⟩
 exact ⟨by omega,fun _=>h.a (by omega),fun _=>h.b (by omega),fun _=>e⟩
theorem AHg {s:Str} {x:Nat} (h:KindUpto s x) (hx:3≤x):Wi s=0:=by
 unfold Wi
 rw [if_neg (by rw [h.a (by omega)];simp),if_neg (by rw [h.b (by omega)];simp),if_neg (by rw [h.c (by omega)];simp)]
theorem AS8 (s:Str) (Hp:List AObj):AFun Tryz.prog 254 [Ac s] Hp (A3 (Wi s)):=by
 refine Ae [.tmp 2] [0] Tryz.func254 Tryz.ntmps254 (fun d=>?_)
 refine Z42 ?_;refine Z33 ?_;refine No ?_
 refine Bi (α:=Nat) (fun x=>⟨13,A6 0 (Ac s) (A6 3 (A3 ((x:Nat)+1)) (fun _=>.any)),Hp,[],[],none⟩) (fun x=>KindUpto s x) (fun x=>3-x) (0) ⟨by omega,fun h=>by omega,fun h=>by omega,fun h=>by omega⟩ (N8 _) rfl (fun x hx=>?_)
 refine Z7 ?_;refine A2 [0,3,5] ?_
 refine A4 (fun ht5=>?_) (fun ht5=>?_)
 ·have hx3:x<3:=by simp at ht5;omega
  refine Tg ?_;refine Z2 ?_;refine A7 Tryz.call97 (c97 _ _) ?_;refine Z0 ?_;refine A2 [0,3,11] ?_
  refine A4 (fun ht11=>?_) (fun ht11=>?_)
  ·refine Z1 ?_;refine Z4 ?_;refine Z48 ?_;exact A9 (Ao A8) ⟨by rw [AHe hx hx3 (by simpa using ht11)],rfl⟩
  refine im ?_;refine No ?_;exact Bt (x+1) (AHf hx hx3 (by simpa using ht11)) (by omega) (Dx (by simp))
 have hx3:3≤x:=by simp at ht5;omega
 refine Th ?_;refine Z46 ?_;exact A9 (Ao A8) ⟨by rw [AHg hx hx3],rfl⟩

def yt (c:UInt8):Str:=if c=39 then [39,39] else [c]
def Tq (t:Str):Str:=t.flatMap yt
theorem Vf (c:UInt8) (r:Str):Tq (c::r)=yt c++Tq r:=by unfold Tq;rw [gc]
theorem uk:∀s:Str,(Lib.index s [39] = -1∧Tq s=s)∨∃i:Nat,Lib.index s [39]=(i:Int)∧i<s.length∧Tq s=s.take i++[39,39]++Tq (s.drop (i+1))
 | []=>.inl ⟨rfl,rfl⟩
 | b::l=>by
  by_cases hb:b=39
  ·subst hb
   refine .inr ⟨0,by simp [Lib.index,List.isPrefixOf],by simp,?_⟩
   rw [Vf]
   simp [yt]
  have hp:([39]:Str).isPrefixOf (b::l)=false:=by
   simp [List.isPrefixOf,Ne.symm hb]
  have hd:Tq (b::l)=b::Tq l:=by
   rw [Vf,yt,if_neg hb]
   rfl
  rcases uk l with ⟨h1,h2⟩|⟨i,h1,h2,h3⟩
  ·refine .inl ⟨?_,by rw [hd,h2]⟩
   rw [Lib.index,hp,h1];rfl
  refine .inr ⟨i+1,?_,by simp;omega,?_⟩
  ·rw [Lib.index,hp,h1,if_neg (by simp),if_neg (by simp)]
   rfl
  rw [hd,h3]
  simp
theorem Tr:∀(n:Nat) (s:Str),s.length≤n→Lib.replaceK [39] [39,39] (Lib.count s [39]) s=Tq s
 | n,s,hn=>by
  rcases uk s with ⟨h1,h2⟩|⟨i,h1,h2,h3⟩
  ·rw [Lib.count_miss h1,h2];rfl
  cases n with
  | zero=>omega
  | succ n =>
   rw [Lib.count_hit (by decide) h1,Nat.add_comm,Lib.replaceK_hit _ _ _ _ i h1]
   have e:i+([39]:Str).length=i+1:=rfl
   rw [e,Tr n (s.drop (i+1)) (by rw [H9];omega),h3]
theorem mc (s:Str):Lib.replaceAll s [39] [39,39]=Tq s:=by
 unfold Lib.replaceAll Lib.replace
 rw [if_neg (by decide)]
 have e:Lib.replaceNum s [39] (-1)=Lib.count s [39]:=by unfold Lib.replaceNum;rw [if_pos (.inl (by decide))]
 rw [e]
 exact Tr _ s (Al _)
def ul (t:Tok):Str:=if t.kind=4 then [39]++Tq t.text++[39] else t.text
theorem ri {q:Str} (h0:q.headD 0=39) (h1:1≤q.length) (h:(Ja q).2=0):[39]++Tq (Ja q).1.s++[39]=q:=by
 cases q with
 | nil=>simp at h1
 | cons c r =>
  have hc:c=39:=h0
  subst hc
  unfold Ja at h ⊢
  have n1:((39::r:Str)==[110,117,108,108])=false:=by rw [beq_eq_false_iff_ne];intro e;injection e with e;exact absurd e (by decide)
  have n2:((39::r:Str)==[116,114,117,101])=false:=by rw [beq_eq_false_iff_ne];intro e;injection e with e;exact absurd e (by decide)
  have n3:((39::r:Str)==[102,97,108,115,101])=false:=by rw [beq_eq_false_iff_ne];intro e;injection e with e;exact absurd e (by decide)
  rw [n1,n2,n3] at h ⊢
  simp only [Bg,if_false,Bool.or_self] at h ⊢
  by_cases hq:db (39::r)=true
  ·rw [if_pos hq] at h ⊢
   unfold lj at h ⊢
   split at h
   ·exact absurd h (show ¬(7:Int)=0 by decide)
   rename_i hp
   rw [if_neg hp]
   have hp':Nd (Yd (39::r))=39::r:=by simpa using hp
   have hk:(Yd (39::r)).kind=2:=rfl
   show [39]++Tq (Yd (39::r)).s++[39]=39::r
   generalize Yd (39::r)=v at hp' hk
   have hne:Nd v≠[]:=by rw [hp'];simp
   rw [←hp']
   unfold Nd at hne ⊢
   split at hne
   ·exact absurd rfl hne
   rename_i hpl
   rw [if_neg hpl,hk,if_neg (by decide),if_pos (by decide),mc]
  rw [if_neg hq] at h
  have hd:M6 (39::r)=true:=by
   unfold M6
   have e:Wa (39::r)=39::r:=by
    rcases Wb (39::r) with ⟨_,h4⟩|⟨r',h3,_⟩
    ·exact h4
    injection h3 with h3;exact absurd h3 (by decide)
   rw [e]
   have:(Lib.trimS (39::r) digs==[])=false:=by
    rw [beq_eq_false_iff_ne]
    intro e
    rw [d7] at e
    exact absurd (e 39 (by simp)) (by decide)
   rw [this]
   simp
  have hn:D3 (39::r)=(0,6):=by unfold D3;rw [if_pos hd]
  rw [hn] at h
  simp at h
theorem cf (s:Str) (m:Nat):s.take (s.take m).length=s.take m:=by
 rw [C1]
 rcases Nat.le_total m s.length with h|h
 ·rw [tw h]
 rw [Nat.min_eq_right h,E9 (Al _),E9 h]
theorem Qg (s of:Str):s.take (Es s of).length=Es s of:=by
 unfold Es
 exact cf s _
/-- What a word's print spells is what was read. -/
theorem rj {s:Str} {n p:Nat} (h0:1≤s.length) (he:(Cv s).2.2.2=0) (hn:(Cv s).2.2.1=(n:Int)):ul ⟨(Cv s).1,(Cv s).2.1,p⟩=s.take n:=by
 cases s with
 | nil=>simp at h0
 | cons c r =>
  unfold Cv at he hn ⊢
  by_cases c1:decide (0<Tj ((c::r).take 1) letters)=true
  ·rw [if_pos c1] at he hn
   simp only [if_pos c1]
   unfold Si at he hn ⊢
   by_cases r1:Hr (Es (c::r) tails)=true
   ·rw [if_pos r1] at hn
    simp only [if_pos r1]
    have hn':(((Es (c::r) tails).length:Nat):Int)=n:=hn
    have e:n=(Es (c::r) tails).length:=by omega
    rw [e,Qg]
    rfl
   rw [if_neg r1] at he hn
   simp only [if_neg r1]
   by_cases r2:(!Eb (Es (c::r) tails))=true
   ·rw [if_pos r2] at he;exact absurd he (show ¬(3:Int)=0 by decide)
   rw [if_neg r2] at hn
   simp only [if_neg r2]
   have hn':(((Es (c::r) tails).length:Nat):Int)=n:=hn
   have e:n=(Es (c::r) tails).length:=by omega
   rw [e,Qg]
   rfl
  rw [if_neg c1] at he hn
  simp only [if_neg c1]
  by_cases c2:decide (0<Tj ((c::r).take 1) digs)=true
  ·rw [if_pos c2] at he hn
   simp only [if_pos c2]
   have hn':(((Es (c::r) digs).length:Nat):Int)=n:=hn
   have e:n=(Es (c::r) digs).length:=by omega
   rw [e,Qg]
   rfl
  rw [if_neg c2] at he hn
  simp only [if_neg c2]
  by_cases c3:(((((c::r)).getD 0 0).toNat:Int)==39)=true
  ·rw [if_pos c3] at he hn
   simp only [if_pos c3]
   have hc:c=39:=by
    have c3':((c.toNat:Int)==39)=true:=c3
    exact gq.1 (by have:(39:UInt8).toNat=39:=rfl;simp at c3';omega)
   unfold Mv at he hn ⊢
   cases hq:E7 ((c::r).drop 1) with
   | none=>rw [hq] at he;exact absurd he (show ¬(7:Int)=0 by decide)
   | some m =>
    rw [hq] at he hn
    simp only at he hn ⊢
    split at he
    ·exact absurd he (show ¬(3:Int)=0 by decide)
    rename_i hr
    rw [if_neg hr] at hn
    simp only [if_neg hr]
    have hm':(((m+1:Nat)):Int)=n:=hn
    have hm:n=m+1:=by omega
    subst hm
    have hr':(Ja ((c::r).take (m+1))).2=0:=by simpa using hr
    have:=ri (q:=(c::r).take (m+1)) (by rw [hc];rfl) (by simp) hr'
    unfold ul
    rw [if_pos rfl]
    exact this
  rw [if_neg c3] at he hn
  simp only [if_neg c3]
  unfold Yh at he hn ⊢
  split at hn
  ·rename_i h2
   simp only [if_pos h2]
   have hn':(2:Int)=n:=hn
   have:n=2:=by omega
   subst this
   rfl
  rename_i h2
  rw [if_neg h2] at he
  simp only [if_neg h2]
  split at hn
  ·rename_i h3
   simp only [if_pos h3]
   have hn':(1:Int)=n:=hn
   have:n=1:=by omega
   subst this
   rfl
  rename_i h3
  rw [if_neg h3] at he
  exact absurd he (show ¬(7:Int)=0 by decide)
theorem wrap_u64 {n:Int} (h1:0≤n) (h2:n<18446744073709551616):IntKind.u64.wrap n=n:=by
 have e1:(2 ^ IntKind.u64.bits:Int)=18446744073709551616:=rfl
 have e3:IntKind.u64.signed=false:=rfl
 unfold IntKind.wrap
 simp only [e1,e3,oh]
 simp
 omega
theorem um:∀t:Str,t.length≤(Tq t).length
 | []=>Al _
 | c::r=>by
  have:=um r
  rw [Vf,Ai,B0]
  have h:1≤(yt c).length:=by unfold yt;split<;>simp
  omega
theorem AHh (t:Tok):t.text.length≤(ul t).length:=by
 unfold ul
 split
 ·have:=um t.text
  simp only [Ai,B0,Bu]
  omega
 exact Al _
/-- Words with an end. -/
structure TokEnd (l:List Tok):Prop where
 split:∃L z,l=L++[z]∧z.kind=0∧∀t∈L,t.kind≠0
 texts:∀t∈l,t.text.length≤1048576
theorem TokEnd.pos {l:List Tok} (h:TokEnd l):1≤l.length:=by
 obtain ⟨L,z,rfl,_,_⟩:=h.split
 simp
theorem TokEnd.text {l:List Tok} (h:TokEnd l) (i:Nat):(Af l i).text.length≤1048576:=by
 unfold Af
 rcases Bw i l.length with hi|hi
 ·rw [Bv,Ab hi]
  exact h.texts _ (Bl hi)
 rw [Bv,Gg hi]
 exact qd
theorem AHi (s:Str) (he:(Cv s).2.2.2=0):(Cv s).1≠0:=by
 revert he
 unfold Cv Si j8 Mv Yh
 repeat' split
 all_goals simp
theorem md:∀(f q:Nat) (s:Str),(∀it∈K5 f q s,it.2=0)→∀it∈K5 f q s,it.1.kind≠0∧it.1.text.length≤s.length
 | 0,_,_,_,it,hm=>by cases hm
 | f+1,q,s,h,it,hm=>by
  by_cases hs:s=[]
  ·subst hs;cases hm
  obtain ⟨n,h1,h2⟩:=mb (f:=f) (q:=q) hs
  rw [h1] at hm h
  have h0:(Cv s).2.2.2=0:=h (⟨(Cv s).1,(Cv s).2.1,q⟩,(Cv s).2.2.2) (G5 ..)
  obtain ⟨hn,hn1,hn2⟩:=h2 h0
  rw [if_pos h0] at hm h
  rcases B3.1 hm with rfl|hm
  ·refine ⟨AHi s h0,?_⟩
   have hs1:1≤s.length:=by cases s with|nil=>exact absurd rfl hs|cons c r=>simp
   have:=rj (p:=q) hs1 h0 hn
   have h3:=AHh ⟨(Cv s).1,(Cv s).2.1,q⟩
   rw [this] at h3
   simp only [C1] at h3
   show (Cv s).2.1.length≤s.length
   omega
  have:=md f _ _ (fun it hit=>h it (J2 _ hit)) it hm
  simp only [H9] at this
  exact ⟨this.1,by omega⟩
theorem un {s:Str} (h:(Bs s).2.1=0):TokEnd (Bs s).1:=by
 by_cases h4:4000<s.length
 ·unfold Bs at h
  rw [if_pos h4] at h
  exact iw
 have e:Bs s=((Ct s).map (·.1)++[⟨0,[],s.length⟩],0,0)∧∀it∈Ct s,it.2=0:=by
  unfold Bs at h ⊢
  rw [if_neg h4] at h ⊢
  cases hf:(Ct s).find? (fun it=>it.2 != 0) with
  | none =>
   rw [N3] at hf
   exact ⟨rfl,fun it hit=>by simpa using hf it hit⟩
  | some it =>
   rw [hf] at h
   have:=gb hf
   simp only [bne_iff_ne] at this
   exact absurd h this
 obtain ⟨e,hz⟩:=e
 have hnz:=md _ _ _ hz
 rw [e]
 refine ⟨⟨_,_,rfl,rfl,fun t ht=>?_⟩,fun t ht=>?_⟩
 ·obtain ⟨it,hit,rfl⟩:=C2.1 ht
  exact (hnz it hit).1
 rcases El.1 ht with ht|ht
 ·obtain ⟨it,hit,rfl⟩:=C2.1 ht
  have:=(hnz it hit).2
  simp only [H9] at this
  omega
 have e:t=⟨0,[],s.length⟩:=by simpa using ht
 subst e
 exact qd
/-- Where a parser of expressions stands: its word, its nest, its fault. -/
structure PS where
 i:Nat
 nest:Nat
 code:Int
 at_:Int
def noV:Val:=⟨0,0,[]⟩
def Av:Expr:=.mk 0 [] noV []
def F8 (e a:Int) (S:PS):PS:=if S.code==0 then ⟨S.i,S.nest,e,a⟩ else S
def isM (l:List Tok) (of:Str) (S:PS):Bool:=(((Af l S.i).kind==5) || ((Af l S.i).kind==2))&&R7 (Af l S.i).text of
def At (S:PS):PS:=⟨S.i+1,S.nest,S.code,S.at_⟩
def E8 (S:PS):PS:=⟨S.i,S.nest+1,S.code,S.at_⟩
def dt (S:PS):PS:=⟨S.i,S.nest-1,S.code,S.at_⟩
def Gs (l:List Tok) (s:Str) (S:PS):PS:=if S.code != 0 then S else if ((Af l S.i).kind != 5) || !((Af l S.i).text==s) then F8 8 (Af l S.i).at_ S else At S
/-- What stands one nest deeper. -/
structure Fam where
 ei:PS→Expr×PS
 no:PS→Expr×PS
 ne:PS→Expr×PS
def Da (a:Int) (f:PS→Expr×PS) (S:PS):Expr×PS:=if (S.nest:Int)==30 then (Av,F8 18 a S) else ((f (E8 S)).1,dt (f (E8 S)).2)
def Ml (t:Str) (x y:Expr):Expr:=.mk 5 t noV [x,y]
def me (l:List Tok) (of:Str) (f:PS→Expr×PS):Nat→Expr×PS→Expr×PS
 | 0,r=>r
 | n+1,r=>if (r.2.code==0)&&isM l of r.2 then me l of f n (Ml (Af l r.2.i).text r.1 (f (At r.2)).1,(f (At r.2)).2) else r
def Hw (l:List Tok) (of:Str) (f:PS→Expr×PS) (S:PS):Expr×PS:=me l of f l.length (f S)
def Zd:Str:=[32,44,32]
def argsF (l:List Tok) (f:PS→Expr×PS):Nat→List Expr×PS→List Expr×PS
 | 0,r=>r
 | n+1,r=>if (r.2.code==0)&&isM l Zd r.2 then argsF l f n (r.1++[(f (At r.2)).1],(f (At r.2)).2) else r
def Js (l:List Tok) (f:PS→Expr×PS) (S:PS):List Expr×PS:=argsF l f l.length ([(f S).1],(f S).2)
def Wj (l:List Tok) (a:Int) (f:PS→Expr×PS) (S:PS):List Expr×PS:=if (S.nest:Int)==30 then ([],F8 18 a S) else ((Js l f (E8 S)).1,dt (Js l f (E8 S)).2)
def Gn:Str:=[41]
def Et (l:List Tok) (D:Fam) (S:PS):List Expr×PS:=Wj l (Af l S.i).at_ D.ei (At S)
def Jt (l:List Tok) (D:Fam) (t:Tok) (S:PS):Expr×PS:=
 if Cn t.text<0 then (Av,F8 9 t.at_ S)
 else if ((Gs l Gn (Et l D S).2).code==0) && !(((Et l D S).1.length:Int)==Cn t.text) then (Av,F8 8 t.at_ (Gs l Gn (Et l D S).2))
 else (.mk 6 t.text noV (Et l D S).1,Gs l Gn (Et l D S).2)
def orT:Str:=[32,111,114,32]
def ADe:Str:=[32,97,110,100,32]
def ALk:Str:=[32,110,111,116,32]
def ALl:Str:=[32,61,32,33,61,32,60,32,60,61,32,62,32,62,61,32]
def ADf:Str:=[32,43,32,45,32,38,32]
def mf:Str:=[32,42,32,47,32,37,32]
def ALm:Str:=[32,45,32]
def opT:Str:=[32,40,32]
def ALn:Str:=[32,116,114,117,101,32,102,97,108,115,101,32,110,117,108,108,32]
def On (v:Val):Expr:=.mk 1 [] v []
def I4 (l:List Tok) (D:Fam) (S:PS):Expr×PS:=
 if S.code != 0 then (Av,S)
 else if ((Af l S.i).kind==3) || isM l ALn S then (On (Ja (Af l S.i).text).1,At S)
 else if (Af l S.i).kind==4 then (On ⟨2,0,(Af l S.i).text.take 200⟩,At S)
 else if (Af l S.i).kind==1 then (if isM l opT (At S) then Jt l D (Af l S.i) (At S) else (D6 (Af l S.i).text,At S))
 else if isM l opT S then ((Da (Af l S.i).at_ D.ei (At S)).1,Gs l Gn (Da (Af l S.i).at_ D.ei (At S)).2)
 else (Av,F8 8 (Af l S.i).at_ S)
def Lk (op:Int) (x:Expr):Expr:=.mk op [] noV [x]
def Ze (l:List Tok) (D:Fam) (S:PS):Expr×PS:=if !isM l ALm S then I4 l D S else (Lk 3 (Da (Af l S.i).at_ D.ne (At S)).1,(Da (Af l S.i).at_ D.ne (At S)).2)
def uo (l:List Tok) (D:Fam):PS→Expr×PS:=Hw l mf (Ze l D)
def Fw (l:List Tok) (D:Fam):PS→Expr×PS:=Hw l ADf (uo l D)
def Hl (l:List Tok) (D:Fam) (S:PS):Expr×PS:=
 if ((Fw l D S).2.code != 0) || !isM l ALl (Fw l D S).2 then Fw l D S
 else (Ml (Af l (Fw l D S).2.i).text (Fw l D S).1 (Fw l D (At (Fw l D S).2)).1,(Fw l D (At (Fw l D S).2)).2)
def Zf (l:List Tok) (D:Fam) (S:PS):Expr×PS:=if !isM l ALk S then Hl l D S else (Lk 4 (Da (Af l S.i).at_ D.no (At S)).1,(Da (Af l S.i).at_ D.no (At S)).2)
def uq (l:List Tok) (D:Fam):PS→Expr×PS:=Hw l ADe (Zf l D)
def jf (l:List Tok) (D:Fam):PS→Expr×PS:=Hw l orT (uq l D)
def Gt (l:List Tok):Nat→Fam
 | 0=>⟨fun S=>(Av,S),fun S=>(Av,S),fun S=>(Av,S)⟩
 | d+1=>⟨jf l (Gt l d),Zf l (Gt l d),Ze l (Gt l d)⟩

/-! What is so of them. -/
theorem I1:∀{n m:Nat},n≤m→∀{e:Expr},okE n e→okE m e
 | 0,_,_,_,h=>h.elim
 | n+1,0,h,_,_=>by omega
 | n+1,m+1,h,_,ho=>⟨ho.1,ho.2.1,fun y hy=>I1 (by omega) (ho.2.2 y hy)⟩
theorem Zg:sizeE Av=1:=rfl
theorem yu (t:Str) (a b:Expr):sizeE (Ml t a b)=1+(sizeE a+(sizeE b+0)):=by rw [Ml,sizeE,Eg,Eg,Eg]
theorem yw (o:Int) (a:Expr):sizeE (Lk o a)=1+(sizeE a+0):=by rw [Lk,sizeE,Eg,Eg]
theorem du:∀a b:List Expr,Eg (a++b)=Eg a+Eg b
 | [],b=>by rw [D9,Eg,Bz]
 | e::r,b=>by rw [Dh,Eg,Eg,du r b,Li]
theorem Ts {n:Nat} (h:1≤n):okE n Av:=I1 h ⟨by decide,by decide,fun y hy=>by cases hy⟩
theorem ur {n:Nat} (h:1≤n) (v:Val):okE n (On v):=I1 h ⟨by simp [On,Expr.text],by simp [On,Expr.kids],fun y hy=>by cases hy⟩
structure Fact (l:List Tok) (S:PS) (r:Expr×PS):Prop where
 le:S.i≤r.2.i
 lt:r.2.i<l.length
 nest:r.2.nest=S.nest
 ok:okE (2*(r.2.i-S.i)+1) r.1
 sz:sizeE r.1≤2*(r.2.i-S.i)+1
def Fp (l:List Tok) (n:Nat) (f:PS→Expr×PS):Prop:=∀S,S.i<l.length→S.nest=n→Fact l S (f S)
theorem TokEnd.step {l:List Tok} (h:TokEnd l) {i:Nat} (hi:i<l.length) (hk:(Af l i).kind≠0):i+1<l.length:=by
 obtain ⟨L,z,rfl,hz,_⟩:=h.split
 rcases Bw i L.length with h1|h1
 ·simp only [Ai,B0,Bu];omega
 have:i=L.length:=by simp only [Ai,B0,Bu] at hi;omega
 subst this
 exact absurd (by unfold Af;simpa using hz) hk
theorem ADg {l:List Tok} {of:Str} {S:PS} (h:isM l of S=true):(Af l S.i).kind≠0:=by
 unfold isM at h
 simp only [As,D7,beq_iff_eq] at h
 omega
theorem TokEnd.stepIs {l:List Tok} (h:TokEnd l) {of:Str} {S:PS} (hi:S.i<l.length) (hk:isM l of S=true):(At S).i<l.length:=h.step hi (ADg hk)
theorem failM_i {e a:Int} {S:PS}:(F8 e a S).i=S.i∧(F8 e a S).nest=S.nest:=by unfold F8;split<;>exact ⟨rfl,rfl⟩
theorem ut {l:List Tok} (hl:TokEnd l) {s:Str} {S:PS} (hi:S.i<l.length):S.i≤(Gs l s S).i∧(Gs l s S).i<l.length∧(Gs l s S).nest=S.nest:=by
 unfold Gs
 split
 ·exact ⟨Al _,hi,rfl⟩
 split
 ·rw [failM_i.1,failM_i.2];exact ⟨Al _,hi,rfl⟩
 rename_i h
 simp only [D7,bne_iff_ne,ne_eq,not_or,Classical.not_not] at h
 have:=hl.step hi (by rw [h.1];decide)
 exact ⟨J5 _,this,rfl⟩
theorem Tt {l:List Tok} {S S0:PS} (h0:S0.i≤S.i) (h1:S.i<l.length) (h2:S.nest=S0.nest) (e a:Int):Fact l S0 (Av,F8 e a S):=by
 refine ⟨?_,?_,?_,Ts (by omega),by rw [Zg];omega⟩
 ·show _≤(F8 e a S).i;rw [failM_i.1];exact h0
 ·show (F8 e a S).i<_;rw [failM_i.1];exact h1
 show (F8 e a S).nest=_;rw [failM_i.2];exact h2
/-- A state of a loop of marks. -/
structure LeftAt (l:List Tok) (of:Str) (f:PS→Expr×PS) (S:PS) (r:Expr×PS):Prop where
 fact:Fact l S r
 eq:∃n,l.length≤r.2.i+n∧Hw l of f S=me l of f n r
theorem LeftAt.start {l:List Tok} {of:Str} {f:PS→Expr×PS} {S:PS} (h:Fact l S (f S)):LeftAt l of f S (f S):=⟨h,l.length,by omega,rfl⟩
theorem uu {l:List Tok} {S:PS} {r q:Expr×PS} (h:Fact l S r) (hq:Fact l (At r.2) q) (hl:TokEnd l):Fact l S (Ml (Af l r.2.i).text r.1 q.1,q.2):=by
 have h1:=h.le
 have h2:r.2.i+1≤q.2.i:=hq.le
 refine ⟨by show S.i≤q.2.i;omega,hq.lt,by show q.2.nest=S.nest;rw [hq.nest];exact h.nest,?_,?_⟩
 rotate_left
 ·have s1:=h.sz
  have s2:sizeE q.1≤2*(q.2.i-(r.2.i+1))+1:=hq.sz
  show sizeE (Ml _ r.1 q.1)≤2*(q.2.i-S.i)+1
  rw [yu]
  omega
 show okE (2*(q.2.i-S.i)+1) _
 refine ⟨hl.text _,by simp [Ml,Expr.kids],fun y hy=>?_⟩
 have hy':y=r.1∨y=q.1:=by simpa [Ml,Expr.kids] using hy
 rcases hy' with rfl|rfl
 ·exact I1 (by omega) h.ok
 exact I1 (by show 2*(q.2.i-(r.2.i+1))+1≤_;omega) hq.ok
theorem LeftAt.on {l:List Tok} {of:Str} {f:PS→Expr×PS} {S:PS} {r:Expr×PS} (hl:TokEnd l) (h:LeftAt l of f S r) (hc:((r.2.code==0)&&isM l of r.2)=true) (hf:Fp l S.nest f):(At r.2).i<l.length∧Fact l (At r.2) (f (At r.2))∧LeftAt l of f S (Ml (Af l r.2.i).text r.1 (f (At r.2)).1,(f (At r.2)).2):=by
 have hi:=hl.stepIs h.fact.lt (AB2.1 hc).2
 have hq:=hf (At r.2) hi h.fact.nest
 obtain ⟨n,hn,e⟩:=h.eq
 have h1:=h.fact.lt
 have h2:r.2.i+1≤(f (At r.2)).2.i:=hq.le
 obtain ⟨m,rfl⟩:∃m,n=m+1:=⟨n-1,by omega⟩
 refine ⟨hi,hq,uu h.fact hq hl,m,by show l.length≤(f (At r.2)).2.i+m;omega,?_⟩
 rw [e,me,if_pos hc]
theorem LeftAt.out {l:List Tok} {of:Str} {f:PS→Expr×PS} {S:PS} {r:Expr×PS} (h:LeftAt l of f S r) (hc:¬((r.2.code==0)&&isM l of r.2)=true):Hw l of f S=r:=by
 obtain ⟨n,hn,e⟩:=h.eq
 have h1:=h.fact.lt
 obtain ⟨m,rfl⟩:∃m,n=m+1:=⟨n-1,by omega⟩
 rw [e,me,if_neg hc]
theorem mg {l:List Tok} {of:Str} {f:PS→Expr×PS} {S:PS} (hl:TokEnd l) (hf:Fp l S.nest f):∀(k:Nat) (r:Expr×PS),l.length-r.2.i≤k→LeftAt l of f S r→Fact l S (Hw l of f S)
 | 0,r,hk,h=>by have:=h.fact.lt;omega
 | k+1,r,hk,h=>by
  by_cases hc:((r.2.code==0)&&isM l of r.2)=true
  ·obtain ⟨h1,h2,h3⟩:=h.on hl hc hf
   have h4:r.2.i+1≤(f (At r.2)).2.i:=h2.le
   exact mg hl hf k _ (by show l.length-(f (At r.2)).2.i≤k;have:=h.fact.lt;omega) h3
  rw [h.out hc];exact h.fact
theorem Io {l:List Tok} {of:Str} {f:PS→Expr×PS} {n:Nat} (hl:TokEnd l) (hf:Fp l n f):Fp l n (Hw l of f):=fun S hi hn=>mg hl (hn ▸ hf) l.length (f S) (by omega) (.start (hf S hi hn))
theorem Ll {l:List Tok} {f:PS→Expr×PS} {S:PS} (a:Int) (hi:S.i<l.length) (hf:S.nest≠30→Fp l (S.nest+1) f):Fact l S (Da a f S):=by
 unfold Da
 split
 ·exact Tt (Al _) hi rfl _ _
 rename_i h
 have h30:S.nest≠30:=fun e=>h (by rw [e];rfl)
 have:=hf h30 (E8 S) hi rfl
 refine ⟨this.le,this.lt,?_,this.ok,this.sz⟩
 show (f (E8 S)).2.nest-1=S.nest
 rw [this.nest]
 rfl
/-- What is so of some kids. -/
structure KFact (l:List Tok) (S:PS) (r:List Expr×PS):Prop where
 le:S.i≤r.2.i
 lt:r.2.i<l.length
 nest:r.2.nest=S.nest
 len:r.1.length≤r.2.i-S.i+1
 ok:∀y∈r.1,okE (2*(r.2.i-S.i)+1) y
 sz:Eg r.1≤2*(r.2.i-S.i)+1
structure ArgsAt (l:List Tok) (f:PS→Expr×PS) (S:PS) (r:List Expr×PS):Prop where
 fact:KFact l S r
 eq:∃n,l.length≤r.2.i+n∧Js l f S=argsF l f n r
theorem ArgsAt.start {l:List Tok} {f:PS→Expr×PS} {S:PS} (h:Fact l S (f S)):ArgsAt l f S ([(f S).1],(f S).2):=⟨⟨h.le,h.lt,h.nest,by simp,fun y hy=>by rw [B9.1 hy];exact h.ok,by have:=h.sz;show sizeE (f S).1+0≤_;exact this⟩,l.length,by omega,rfl⟩
theorem ArgsAt.on {l:List Tok} {f:PS→Expr×PS} {S:PS} {r:List Expr×PS} (hl:TokEnd l) (h:ArgsAt l f S r) (hc:((r.2.code==0)&&isM l Zd r.2)=true) (hf:Fp l S.nest f):(At r.2).i<l.length∧Fact l (At r.2) (f (At r.2))∧ArgsAt l f S (r.1++[(f (At r.2)).1],(f (At r.2)).2):=by
 have hi:=hl.stepIs h.fact.lt (AB2.1 hc).2
 have hq:=hf (At r.2) hi h.fact.nest
 obtain ⟨n,hn,e⟩:=h.eq
 have h1:=h.fact.lt
 have h0:=h.fact.le
 have h2:r.2.i+1≤(f (At r.2)).2.i:=hq.le
 obtain ⟨m,rfl⟩:∃m,n=m+1:=⟨n-1,by omega⟩
 refine ⟨hi,hq,⟨by show S.i≤(f (At r.2)).2.i;omega,hq.lt,by show (f (At r.2)).2.nest=_;rw [hq.nest];exact h.fact.nest,?_,fun y hy=>?_,?_⟩,m,by show l.length≤(f (At r.2)).2.i+m;omega,?_⟩
 ·have:=h.fact.len
  show (r.1++_).length≤(f (At r.2)).2.i-S.i+1
  simp only [Ai,B0,Bu]
  omega
 ·show okE (2*((f (At r.2)).2.i-S.i)+1) y
  rcases El.1 hy with hy|hy
  ·exact I1 (by omega) (h.fact.ok y hy)
  rw [B9.1 hy]
  exact I1 (by show 2*((f (At r.2)).2.i-(r.2.i+1))+1≤_;omega) hq.ok
 ·have s1:=h.fact.sz
  have s2:sizeE (f (At r.2)).1≤2*((f (At r.2)).2.i-(r.2.i+1))+1:=hq.sz
  show Eg (r.1++[(f (At r.2)).1])≤2*((f (At r.2)).2.i-S.i)+1
  rw [du,Eg,Eg]
  omega
 rw [e,argsF,if_pos hc]
theorem ArgsAt.out {l:List Tok} {f:PS→Expr×PS} {S:PS} {r:List Expr×PS} (h:ArgsAt l f S r) (hc:¬((r.2.code==0)&&isM l Zd r.2)=true):Js l f S=r:=by
 obtain ⟨n,hn,e⟩:=h.eq
 have h1:=h.fact.lt
 obtain ⟨m,rfl⟩:∃m,n=m+1:=⟨n-1,by omega⟩
 rw [e,argsF,if_neg hc]
theorem mh {l:List Tok} {f:PS→Expr×PS} {S:PS} (hl:TokEnd l) (hf:Fp l S.nest f):∀(k:Nat) (r:List Expr×PS),l.length-r.2.i≤k→ArgsAt l f S r→KFact l S (Js l f S)
 | 0,r,hk,h=>by have:=h.fact.lt;omega
 | k+1,r,hk,h=>by
  by_cases hc:((r.2.code==0)&&isM l Zd r.2)=true
  ·obtain ⟨h1,h2,h3⟩:=h.on hl hc hf
   have h4:r.2.i+1≤(f (At r.2)).2.i:=h2.le
   exact mh hl hf k _ (by show l.length-(f (At r.2)).2.i≤k;have:=h.fact.lt;omega) h3
  rw [h.out hc];exact h.fact
theorem Zh {l:List Tok} {f:PS→Expr×PS} {S:PS} (hl:TokEnd l) (hi:S.i<l.length) (hf:Fp l S.nest f):KFact l S (Js l f S):=mh hl hf l.length _ (by show l.length-(f S).2.i≤_;omega) (.start (hf S hi rfl))
theorem Zi {l:List Tok} {f:PS→Expr×PS} {S:PS} (hl:TokEnd l) (a:Int) (hi:S.i<l.length) (hf:S.nest≠30→Fp l (S.nest+1) f):KFact l S (Wj l a f S):=by
 unfold Wj
 split
 ·refine ⟨?_,?_,?_,by simp,fun y hy=>(by cases hy),by simp [Eg]⟩
  ·show _≤(F8 _ _ S).i;rw [failM_i.1];exact Al _
  ·show (F8 _ _ S).i<_;rw [failM_i.1];exact hi
  show (F8 _ _ S).nest=_;rw [failM_i.2]
 rename_i h
 have h30:S.nest≠30:=fun e=>h (by rw [e];rfl)
 have:=Zh (S:=E8 S) hl hi (hf h30)
 refine ⟨this.le,this.lt,?_,this.len,this.ok,this.sz⟩
 show (Js l f (E8 S)).2.nest-1=S.nest
 rw [this.nest]
 rfl
theorem rk {l:List Tok} {D:Fam} {S:PS} (hl:TokEnd l) (hll:l.length≤1048576) {t:Tok} (ht:t.text.length≤1048576) (hi:(At S).i<l.length) (hf:S.nest≠30→Fp l (S.nest+1) D.ei):Fact l S (Jt l D t S):=by
 have hk:KFact l (At S) (Et l D S):=Zi hl _ hi hf
 have h1:S.i+1≤(Et l D S).2.i:=hk.le
 obtain ⟨w1,w2,w3⟩:=ut (s:=Gn) hl hk.lt
 unfold Jt
 split
 ·exact Tt (Al _) (by show S.i<_;have:S.i+1<l.length:=hi;omega) rfl _ _
 split
 ·exact Tt (show S.i≤(Gs l Gn (Et l D S).2).i by omega) w2 (w3.trans hk.nest) 8 t.at_
 refine ⟨by show S.i≤(Gs l Gn (Et l D S).2).i;omega,w2,w3.trans hk.nest,?_,?_⟩
 rotate_left
 ·have s1:Eg (Et l D S).1≤2*((Et l D S).2.i-(S.i+1))+1:=hk.sz
  show sizeE (.mk 6 t.text noV (Et l D S).1)≤2*((Gs l Gn (Et l D S).2).i-S.i)+1
  rw [sizeE]
  omega
 show okE (2*((Gs l Gn (Et l D S).2).i-S.i)+1) _
 refine ⟨ht,?_,fun y hy=>?_⟩
 ·have h5:(Et l D S).1.length≤(Et l D S).2.i-(At S).i+1:=hk.len
  have h6:=hk.lt
  show (Et l D S).1.length≤1048576
  omega
 exact I1 (by show 2*((Et l D S).2.i-(S.i+1))+1≤_;omega) (hk.ok y hy)
theorem rl {l:List Tok} {D:Fam} {n:Nat} (hl:TokEnd l) (hll:l.length≤1048576) (hf:n≠30→Fp l (n+1) D.ei):Fp l n (I4 l D):=by
 intro S hi hn
 subst hn
 unfold I4
 have leaf:∀e:Expr,okE 1 e→sizeE e=1→(Af l S.i).kind≠0→Fact l S (e,At S):=fun e he hs hk=>⟨J5 _,hl.step hi hk,rfl,I1 (by omega) he,by show sizeE e≤_;omega⟩
 split
 ·exact ⟨Al _,hi,rfl,Ts (by omega),by show sizeE Av≤_;rw [Zg];omega⟩
 split
 ·rename_i h
  refine leaf _ (ur (Al _) _) rfl ?_
  rcases Bool.or_eq_true_iff.1 h with h|h
  ·rw [beq_iff_eq] at h;rw [h];decide
  exact ADg h
 split
 ·rename_i h
  rw [beq_iff_eq] at h
  exact leaf _ (ur (Al _) _) rfl (by rw [h];decide)
 split
 ·rename_i h
  rw [beq_iff_eq] at h
  have hk:(Af l S.i).kind≠0:=by rw [h];decide
  split
  ·rename_i h2
   have hi1:(At S).i<l.length:=hl.step hi hk
   have:=rk (S:=At S) (D:=D) hl hll (hl.text S.i) (hl.stepIs hi1 h2) hf
   have h3:S.i+1≤(Jt l D (Af l S.i) (At S)).2.i:=this.le
   have h4:sizeE (Jt l D (Af l S.i) (At S)).1≤2*((Jt l D (Af l S.i) (At S)).2.i-(S.i+1))+1:=this.sz
   exact ⟨by omega,this.lt,this.nest,I1 (by show 2*((Jt l D (Af l S.i) (At S)).2.i-(S.i+1))+1≤_;omega) this.ok,by omega⟩
  exact leaf _ (lu _ (hl.text _)) rfl hk
 split
 ·rename_i h
  have hi1:(At S).i<l.length:=hl.stepIs hi h
  have:=Ll (S:=At S) (l:=l) (f:=D.ei) (Af l S.i).at_ hi1 hf
  obtain ⟨w1,w2,w3⟩:=ut (s:=Gn) hl this.lt
  have h3:S.i+1≤(Da (Af l S.i).at_ D.ei (At S)).2.i:=this.le
  have h4:sizeE (Da (Af l S.i).at_ D.ei (At S)).1≤2*((Da (Af l S.i).at_ D.ei (At S)).2.i-(S.i+1))+1:=this.sz
  refine ⟨by show S.i≤(Gs l Gn _).i;omega,w2,w3.trans this.nest,I1 ?_ this.ok,by show sizeE (Da (Af l S.i).at_ D.ei (At S)).1≤2*((Gs l Gn (Da (Af l S.i).at_ D.ei (At S)).2).i-S.i)+1;omega⟩
  show 2*((Da (Af l S.i).at_ D.ei (At S)).2.i-(S.i+1))+1≤2*((Gs l Gn (Da (Af l S.i).at_ D.ei (At S)).2).i-S.i)+1
  omega
 exact Tt (Al _) hi rfl _ _
theorem uv {l:List Tok} {S:PS} {r:Expr×PS} (h:Fact l (At S) r) (op:Int):Fact l S (Lk op r.1,r.2):=by
 have h1:S.i+1≤r.2.i:=h.le
 refine ⟨by show S.i≤r.2.i;omega,h.lt,h.nest,?_,?_⟩
 rotate_left
 ·have s1:sizeE r.1≤2*(r.2.i-(S.i+1))+1:=h.sz
  show sizeE (Lk op r.1)≤2*(r.2.i-S.i)+1
  rw [yw]
  omega
 show okE (2*(r.2.i-S.i)+1) _
 refine ⟨by simp [Lk,Expr.text],by simp [Lk,Expr.kids],fun y hy=>?_⟩
 have hy':y=r.1:=by simpa [Lk,Expr.kids] using hy
 subst hy'
 exact I1 (by show 2*(r.2.i-(S.i+1))+1≤_;omega) h.ok
theorem Vg {l:List Tok} {D:Fam} {n:Nat} (hl:TokEnd l) (hll:l.length≤1048576) (hf:n≠30→Fp l (n+1) D.ei) (hg:n≠30→Fp l (n+1) D.ne):Fp l n (Ze l D):=by
 intro S hi hn
 unfold Ze
 split
 ·exact rl hl hll hf S hi hn
 rename_i h
 subst hn
 exact uv (Ll (S:=At S) _ (hl.stepIs hi (by simpa using h)) hg) 3
theorem dv {l:List Tok} {D:Fam} {n:Nat} (hl:TokEnd l) (hll:l.length≤1048576) (hf:n≠30→Fp l (n+1) D.ei) (hg:n≠30→Fp l (n+1) D.ne):Fp l n (Fw l D):=Io hl (Io hl (Vg hl hll hf hg))
theorem Ru {l:List Tok} {D:Fam} {n:Nat} (hl:TokEnd l) (hll:l.length≤1048576) (hf:n≠30→Fp l (n+1) D.ei) (hg:n≠30→Fp l (n+1) D.ne):Fp l n (Hl l D):=by
 intro S hi hn
 have h1:=dv hl hll hf hg S hi hn
 unfold Hl
 split
 ·exact h1
 rename_i h
 simp only [D7,not_or,S3,Ph] at h
 exact uu h1 (dv hl hll hf hg _ (hl.stepIs h1.lt h.2) (h1.nest.trans hn)) hl
theorem dw {l:List Tok} {D:Fam} {n:Nat} (hl:TokEnd l) (hll:l.length≤1048576) (hf:n≠30→Fp l (n+1) D.ei) (hg:n≠30→Fp l (n+1) D.ne) (hh:n≠30→Fp l (n+1) D.no):Fp l n (Zf l D):=by
 intro S hi hn
 unfold Zf
 split
 ·exact Ru hl hll hf hg S hi hn
 rename_i h
 subst hn
 exact uv (Ll (S:=At S) _ (hl.stepIs hi (by simpa using h)) hh) 4
theorem Vh {l:List Tok} (hl:TokEnd l) (hll:l.length≤1048576):∀(d n:Nat),n+d=31→n≠31→Fp l n (Gt l d).ei∧Fp l n (Gt l d).no∧Fp l n (Gt l d).ne
 | 0,n,h,h2=>by omega
 | d+1,n,h,_=>by
  have ih:n≠30→_:=fun h30=>Vh hl hll d (n+1) (by omega) (by omega)
  have hn:=dw (D:=Gt l d) (n:=n) hl hll (fun h=>(ih h).1) (fun h=>(ih h).2.2) (fun h=>(ih h).2.1)
  exact ⟨Io hl (Io hl hn),hn,Vg hl hll (fun h=>(ih h).1) (fun h=>(ih h).2.2)⟩
/-! What is printed of columns, word by word. -/
structure ColOk (x:Col):Prop where
 name:Eb x.name=true
 lo:1≤x.kind
 hi:x.kind≤3
set_option maxRecDepth 8000
theorem Wk (s:Str):s∈levels.flatten∨(Om s = -1∧∀l∈levels,l.contains s=false):=by
 by_cases h:s∈levels.flatten
 ·exact .inl h
 have h2:∀l∈levels,l.contains s=false:=fun l hl=>by
  rw [Ky]
  intro h3
  exact h (List.mem_flatten.2 ⟨l,hl,by simpa using h3⟩)
 refine .inr ⟨?_,h2⟩
 unfold Om
 rw [S5.2 fun l hl=>h2 l hl]
theorem AHj {v:Val} (h:Pb v=true):v=noV:=by
 unfold Pb at h
 simp only [As,beq_iff_eq] at h
 cases v
 simp_all [noV]
/-- What a right node is. -/
inductive NodeC:Expr→Prop
 | val (v:Val) (h:Er v=true) (h0:0≤v.n):NodeC (On v)
 | name (t:Str) (h:Rr t=true):NodeC (D6 t)
 | neg (a:Expr):NodeC (Lk 3 a)
 | no (a:Expr):NodeC (Lk 4 a)
 | bin (t:Str) (a b:Expr) (h:0≤Om t):NodeC (Ml t a b)
 | call (t:Str) (k:List Expr) (h:Cn t=(k.length:Int)):NodeC (.mk 6 t noV k)
theorem Zj (o:Int) (t:Str) (v:Val) (k:List Expr):Za (.mk o t v k) =
 if o==1 then ((Er v&&decide (0≤v.n))&&(t==[]))&&((k.length:Int)==0)
 else if !(Pb v) then false
 else if o==2 then Rr t&&((k.length:Int)==0)
 else if o==3 || o==4 then (t==[])&&((k.length:Int)==1)
 else if o==5 then decide (0≤Om t)&&((k.length:Int)==2)
 else if o==6 then Cn t==(k.length:Int)
 else false:=rfl
theorem M9 {e:Expr} (h:F1 e=true):NodeC e:=by
 rw [m9] at h
 cases e with
 | mk o t v k =>
 rw [Zj] at h
 by_cases h1:(o==1)=true
 ·rw [if_pos h1] at h
  simp only [As,beq_iff_eq,decide_eq_true_eq] at h h1
  obtain ⟨⟨⟨a1,a2⟩,a3⟩,a4⟩:=h
  subst h1
  subst a3
  have:k=[]:=by cases k with|nil=>rfl|cons x r=>simp at a4;omega
  subst this
  exact .val v a1 a2
 rw [if_neg h1] at h
 by_cases hb:(!(Pb v))=true
 ·rw [if_pos hb] at h;cases h
 rw [if_neg hb] at h
 have hv:v=noV:=AHj (by simpa using hb)
 subst hv
 by_cases h2:(o==2)=true
 ·rw [if_pos h2] at h
  simp only [As,beq_iff_eq] at h h2
  subst h2
  have:k=[]:=by cases k with|nil=>rfl|cons x r=>have:=h.2;simp at this;omega
  subst this
  exact .name t h.1
 rw [if_neg h2] at h
 by_cases h3:(o==3 || o==4)=true
 ·rw [if_pos h3] at h
  simp only [As,D7,beq_iff_eq] at h h3
  obtain ⟨rfl,h4⟩:=h
  match k,h4 with
  | [a],_ =>
   rcases h3 with rfl|rfl
   ·exact .neg a
   exact .no a
  | [],h4=>simp at h4
  | _::_::_,h4=>simp at h4;omega
 rw [if_neg h3] at h
 by_cases h5:(o==5)=true
 ·rw [if_pos h5] at h
  simp only [As,beq_iff_eq,decide_eq_true_eq] at h h5
  subst h5
  match k,h.2 with
  | [a,b],_=>exact .bin t a b h.1
  | [],h4=>simp at h4
  | [_],h4=>simp at h4
  | _::_::_::_,h4=>simp at h4;omega
 rw [if_neg h5] at h
 by_cases h6:(o==6)=true
 ·rw [if_pos h6] at h
  simp only [beq_iff_eq] at h h6
  subst h6
  exact .call t k h
 rw [if_neg h6] at h;cases h
theorem yx {e:Expr} {n:Nat} (h:sizeE e≤n+1) {y:Expr} (hy:y∈e.kids):sizeE y≤n:=by
 rw [Tm] at h
 obtain ⟨i,hi,rfl⟩:=Us hy
 have:=dh e.kids hi
 omega
/-! The parser from a word on, and of a source. -/
def atS (l:List Tok) (i:Nat) (r:Expr×PS):PS:=if r.2.code != 0 then r.2 else if decide ((30:Int)<depthE r.1) then F8 18 (Af l i).at_ r.2 else if decide ((300:Int)<sizeE r.1) then F8 3 (Af l i).at_ r.2 else r.2
def atR (l:List Tok) (i:Nat):Expr×PS:=jf l (Gt l 30) ⟨i,0,0,0⟩
/-- The tree, the word behind it, the fault. -/
def atM (l:List Tok) (i:Nat):Expr×Int×Int×Int:=if (atS l i (atR l i)).code != 0 then (Av,0,(atS l i (atR l i)).code,(atS l i (atR l i)).at_) else ((atR l i).1,((atS l i (atR l i)).i:Int),0,0)
set_option maxRecDepth 4000
/-! What is printed of a schema is read. -/
/-- What goes together: names of their own. -/
theorem ADh {c:List Col} (h:Jq c=true):(∀y∈c,ColOk y)∧(c.map (·.name)).Nodup:=by
 rw [qi] at h
 have hat:∀(j:Nat) (y:Col),c[j]? = some y→Rr y.name=true∧1≤y.kind∧y.kind≤3∧Ay y.name c=(j:Int):=by
  intro j y hj
  have:=h j y hj
  unfold u6 at this
  simp only [Iy,Ei,Ph,decide_eq_false_iff_not,bne_eq_false_iff_eq] at this
  obtain ⟨⟨⟨h1,h2⟩,h3⟩,h4⟩:=this
  exact ⟨h1,by omega,by omega,h4⟩
 refine ⟨fun y hy=>?_,?_⟩
 ·obtain ⟨j,hj⟩:=Cb hy
  obtain ⟨h1,h2,h3,_⟩:=hat j y hj
  exact ⟨by rw [Im];exact h1,h2,h3⟩
 show List.Pairwise _ _
 rw [tm]
 intro i j hi hj hij e
 simp only [Ah] at hi hj
 simp only [Pl] at e
 have e1:=(hat i c[i] (Ab hi)).2.2.2
 have e2:=(hat j c[j] (Ab hj)).2.2.2
 rw [e] at e1
 omega
theorem Tu {c:List Col} (h:Yq c=true):c.length≤12∧(∀y∈c,ColOk y)∧(c.map (·.name)).Nodup:=by
 rw [Kq] at h
 unfold Cs at h
 rw [As] at h
 obtain ⟨h1,h2⟩:=h
 have:=of_decide_eq_true h1
 exact ⟨by omega,ADh h2⟩
theorem uw {c:List Col} (h:Mu c=false):OkCols c:=by
 unfold Mu at h
 simp only [Ei,decide_eq_false_iff_not,Iz,decide_eq_true_eq] at h
 refine ⟨by omega,fun y hy=>?_⟩
 have:=h.2 y hy
 omega
def Jp {α:Type} [BEq α] (v:α) (l:List α):Int:=match l.findIdx? (·==v) with|some i=>i|none => -1
theorem ALo {α:Type} [BEq α] [LawfulBEq α] {v:α} {l:List α} {x:Nat} (h:x<l.length) (h1:l[x]=v) (h2:∀(j:Nat) (y:α),j<x→l[j]? = some y→¬(y=v)):Jp v l=x:=by
 have:l.findIdx? (·==v)=some x:=by
  rw [N4]
  exact ⟨h,by simpa using h1,fun j hj=>by simpa using h2 j l[j] hj (Ab _)⟩
 simp [Jp,this]
theorem ADi {α:Type} [BEq α] [LawfulBEq α] {v:α} {l:List α} (h:∀(j:Nat) (y:α),l[j]? = some y→¬(y=v)):Jp v l = -1:=by
 have:l.findIdx? (·==v)=none:=by
  rw [S5]
  intro y hy
  obtain ⟨j,hj⟩:=Cb hy
  simpa using h j y hj
 simp [Jp,this]
theorem Xe {α:Type} [BEq α] [LawfulBEq α] (v:α) (l:List α):decide (0≤Jp v l)=l.contains v:=by
 unfold Jp
 cases h:l.findIdx? (·==v) with
 | none =>
  rw [S5] at h
  have:l.contains v=false:=by
   rw [Ky]
   intro hc
   have:=h v (by simpa using hc)
   simp at this
  rw [this];rfl
 | some i =>
  rw [N4] at h
  obtain ⟨hi,e,_⟩:=h
  have:l.contains v=true:=by
   have:l[i]=v:=by simpa using e
   rw [←this]
   simp
  rw [this]
  simp only [decide_eq_true_eq]
  omega
theorem c82 (l:List Str) (v:Str) (hl:l.length≤1048576) (Hp:List AObj):AFun Tryz.prog 82 [G9 l,Ac v] Hp (A3 (Jp v l)):=by
 refine Ae [.tmp 4] [0,1] Tryz.func82 Tryz.ntmps82 (fun d=>?_)
 refine io ?_
 refine Bi (α:=Nat) (fun x=>⟨19,A6 0 (G9 l) (A6 1 (Ac v) (A6 7 (A3 l.length) (A6 8 (A3 (x:Nat)) (fun _=>.any)))),Hp,[],[],none⟩) (fun x=>x≤l.length∧∀(j:Nat) (y:Str),j<x→l[j]? = some y→¬(y=v)) (fun x=>l.length-x) (0) (by simp) (Bo (by simp)) rfl (fun x hx=>?_)
 refine ig ?_
 refine Ck (fun ht9=>?_) (fun ht9=>?_)
 ·have hlt:x<l.length:=by simpa using ht9
  refine ik ?_
  refine A5 (h:=Ag (x) (Ac l[x]) (fun _=>B7 hlt)) (hr:=?_)
  refine Z0 ?_;refine iv ?_
  refine A4 (fun ht16=>?_) (fun ht16=>?_)
  ·refine l3 ?_;refine Z48 ?_;exact A9 (Ao A8) ⟨by rw [ALo hlt (by simpa using (Eq.symm (by simpa using ht16):l[x]=v)) hx.2],rfl⟩
  refine Z70 ?_;refine A2 [0,1,7,8] ?_;exact Bt (x+1) ⟨hlt,Di hlt hx.2 (fun e=>by rw [e] at ht16;simp at ht16)⟩ (by omega) (Dx rfl)
 refine Z27 ?_;refine Z44 ?_;exact A9 (Ao A8) ⟨by rw [ADi (Q9 (by simp at ht9;omega) hx.2)],rfl⟩

theorem c95 (l:List Str) (v:Str) (hl:l.length≤1048576) (Hp:List AObj):AFun Tryz.prog 95 [G9 l,Ac v] Hp (B4 (l.contains v)):=by
 refine Ae [.tmp 4] [0,1] Tryz.func95 Tryz.ntmps95 (fun d=>?_)
 refine iq ?_;refine A7 Tryz.call82 (c82 l v hl _) ?_;refine Z0 ?_;refine Z14 ?_;exact A9 (Ao A8) ⟨by rw [Xe],rfl⟩

theorem yy {n k:Nat} {o:Bool} {l:List Col} {z:Col}:Low n (.slice o k (l.map Cc++[Cc z])):=by
 refine .slice _ _ _ (fun y hy=>?_)
 have key:∀c:Col,∀w∈(Cc c).cells,Low n w:=by
  intro c w hw
  have hw':w∈[AV.v (sv c.name),AV.v (.int .i64 c.kind)]:=hw
  simp only [B3,Em,or_false] at hw'
  rcases hw' with rfl|rfl
  ·exact .v _
  exact .v _
 rcases El.1 hy with hy|hy
 ·obtain ⟨a,_,rfl⟩:=C2.1 hy
  exact key a
 rw [B9.1 hy]
 exact key z
def R9 (c:List Col) (take:List Str) (j:Nat) (nm:Str):Bool := !(decide (Ay nm c<0) || (Jp nm take != (j:Int)))
def Jd (c:List Col) (take:List Str):Bool:=take.zipIdx.all fun x=>R9 c take x.2 x.1
theorem takenM_true {c:List Col} {take:List Str}:Jd c take=true↔∀(j:Nat) (y:Str),take[j]? = some y→R9 c take j y=true:=Sg
def Tv (c:List Col) (x:Nat) (y:Col):Bool := !((!Rr y.name) || (Ay y.name c != (x:Int)))
def Ma (c:List Col):Bool:=c.zipIdx.all fun x=>Tv c x.2 x.1
theorem namedC_true {c:List Col}:Ma c=true↔∀(j:Nat) (y:Col),c[j]? = some y→Tv c j y=true:=Sg
def Dg (c:List Col) (take:List Str):List Col:=c.filter fun y => !take.contains y.name
theorem AHk {c:List Col} {take:List Str} {k:Nat} {y:Col} (h:c[k]? = some y) (hn:take.contains y.name=false):Dg (c.take (k+1)) take=Dg (c.take k) take++[y]:=by
 unfold Dg
 have e:c.take (k+1)=c.take k++[y]:=by rw [O6,h];rfl
 have hm:¬y.name∈take:=by simpa using hn
 rw [e,Pk]
 simp [Hz,hm]
theorem yz {c:List Col} {take:List Str} {k:Nat} {y:Col} (h:c[k]? = some y) (hn:take.contains y.name=true):Dg (c.take (k+1)) take=Dg (c.take k) take:=by
 unfold Dg
 have e:c.take (k+1)=c.take k++[y]:=by rw [O6,h];rfl
 have hm:y.name∈take:=by simpa using hn
 rw [e,Pk]
 simp [Hz,hm]
theorem Kr (c:List Col) (take:List Str):(Dg c take).length≤c.length:=gg _ _
def E2 (c:List Col) (take:List Str) (give:List Col):List Col×Int:=
 if Cs c=false then ([],1) else if Jd c take=false then ([],9) else if Ma (Dg c take++give)=false then ([],9)
 else if Jq (Dg c take++give)=false then ([],10) else if 12<(Dg c take++give).length then ([],3) else (Dg c take++give,0)
theorem ADj {c:List Col} {take:List Str} {give:List Col} (h:Cs c=false):E2 c take give=([],1):=by unfold E2;rw [if_pos h]
theorem ADk {c:List Col} {take:List Str} {give:List Col} (h:Cs c=true) (h2:Jd c take=false):E2 c take give=([],9):=by unfold E2;rw [if_neg (by rw [h];simp),if_pos h2]
theorem ADl {c:List Col} {take:List Str} {give out:List Col} (h:Cs c=true) (h2:Jd c take=true) (ho:Dg c take++give=out) (h3:Ma out=false):E2 c take give=([],9):=by
 unfold E2;rw [ho,if_neg (by rw [h];simp),if_neg (by rw [h2];simp),if_pos h3]
theorem ADm {c:List Col} {take:List Str} {give out:List Col} (h:Cs c=true) (h2:Jd c take=true) (ho:Dg c take++give=out) (h3:Ma out=true) (h4:Jq out=false):E2 c take give=([],10):=by
 unfold E2;rw [ho,if_neg (by rw [h];simp),if_neg (by rw [h2];simp),if_neg (by rw [h3];simp),if_pos h4]
theorem ADn {c:List Col} {take:List Str} {give out:List Col} (h:Cs c=true) (h2:Jd c take=true) (ho:Dg c take++give=out) (h3:Ma out=true) (h4:Jq out=true) (h5:12<out.length):E2 c take give=([],3):=by
 unfold E2;rw [ho,if_neg (by rw [h];simp),if_neg (by rw [h2];simp),if_neg (by rw [h3];simp),if_neg (by rw [h4];simp),if_pos h5]
theorem ADo {c:List Col} {take:List Str} {give out:List Col} (h:Cs c=true) (h2:Jd c take=true) (ho:Dg c take++give=out) (h3:Ma out=true) (h4:Jq out=true) (h5:¬12<out.length):E2 c take give=(out,0):=by
 unfold E2;rw [ho,if_neg (by rw [h];simp),if_neg (by rw [h2];simp),if_neg (by rw [h3];simp),if_neg (by rw [h4];simp),if_neg h5]
theorem Vi {c:List Col} (h:Cs c=true):c.length≤12:=by
 unfold Cs at h
 simp at h
 omega
theorem ADp {c give:List Col} {take:List Str} {out:List Col} (hc:OkCols c) (h:Cs c=true) (hg:OkCols give) (hg2:give.length≤1000000) (ho:Dg c take++give=out):OkCols out:=by
 subst ho
 have h1:=Kr c take
 have h2:=Vi h
 refine ⟨by simp only [Ai];omega,fun y hy=>?_⟩
 rcases El.1 hy with hy|hy
 ·exact hc.2 y ((O3.1 hy).1)
 exact hg.2 y hy
theorem AS9 (c:List Col) (hc:OkCols c) (take:List Str) (ht:take.length≤1048576) (Hp:List AObj):AFun Tryz.prog 210 [Am c,G9 take] Hp (B4 (Jd c take)):=by
 refine Ae [.tmp 4] [0,1] Tryz.func210 Tryz.ntmps210 (fun d=>?_)
 refine Z36 ?_;refine Z29 ?_;refine A2 [0,1,7,8,9] ?_
 refine Bi (α:=Nat) (fun x=>⟨26,A6 0 (Am c) (A6 1 (G9 take) (A6 7 (G9 take) (A6 8 (A3 take.length) (A6 9 (A3 (x:Nat)) (fun _=>.any))))),Hp,[],[],none⟩) (fun x=>x≤take.length∧∀(j:Nat) (y:Str),j<x→take[j]? = some y→R9 c take j y=true) (fun x=>take.length-x) (0) (by simp) (Bo (by simp)) rfl (fun x hx=>?_)
 refine Z2 ?_;refine A2 [0,1,7,8,9,10] ?_
 refine Ck (fun ht10=>?_) (fun ht10=>?_)
 ·have hlt:x<take.length:=by simpa using ht10
  refine Rh ?_
  refine A5 (h:=Ag (x) (Ac take[x]) (fun _=>B7 hlt)) (hr:=?_)
  refine Z12 ?_;refine A2 [0,1,5,6,7,8,9] ?_;refine Z1 ?_;refine A7 Tryz.call60 (c60 c hc _ _) ?_;refine Z38 ?_;refine Ca Tryz.call82 (fun hB=>c82 take _ ht _) ?_;refine ip ?_;refine A2 [0,1,7,8,9,24] ?_
  refine A4 (fun ht24=>?_) (fun ht24=>?_)
  ·refine Z44 ?_;refine Z48 ?_
   exact A9 (Ao A8) ⟨by rw [show Jd c take=false from Ky.2 fun h=>by have:=takenM_true.1 h x take[x] (Ab hlt);unfold R9 at this;rw [ht24] at this;cases this],rfl⟩
  refine Z70 ?_;refine A2 [0,1,7,8,9] ?_;exact Bt (x+1) ⟨hlt,K3 hlt hx.2 (by unfold R9;rw [ht24];rfl)⟩ (by omega) (Dx rfl)
 refine Z27 ?_;refine Z44 ?_;exact A9 (Ao A8) ⟨by rw [takenM_true.2 (R6 (by simp at ht10;omega) hx.2)],rfl⟩

theorem ASa (c:List Col) (hc:OkCols c) (Hp:List AObj):AFun Tryz.prog 212 [Am c] Hp (B4 (Ma c)):=by
 refine Ae [.tmp 2] [0] Tryz.func212 Tryz.ntmps212 (fun d=>?_)
 refine la ?_;refine A2 [0,5,6,7] ?_
 refine Bi (α:=Nat) (fun x=>⟨25,A6 0 (Am c) (A6 5 (Am c) (A6 6 (A3 c.length) (A6 7 (A3 (x:Nat)) (fun _=>.any)))),Hp,[],[],none⟩) (fun x=>x≤c.length∧∀(j:Nat) (y:Col),j<x→c[j]? = some y→Tv c j y=true) (fun x=>c.length-x) (0) (by simp) (Bo (by simp)) rfl (fun x hx=>?_)
 refine Z2 ?_;refine A2 [0,5,6,7,8] ?_
 refine Ck (fun ht8=>?_) (fun ht8=>?_)
 ·have hlt:x<c.length:=by simpa using ht8
  have hcl:=hc.len
  refine Rh ?_
  refine A5 (h:=Ag (x) (Cc c[x]) (fun _=>B7 hlt)) (hr:=?_)
  refine l7 ?_;refine A2 [0,3,4,5,6,7] ?_;refine Z1 ?_;refine A7 Tryz.call105 (ACt _ (hc.names _ (Bl hlt)) _) ?_;refine il ?_;refine Ca Tryz.call60 (fun hB=>c60 c hc _ _) ?_;refine ip ?_;refine A2 [0,5,6,7,23] ?_
  refine A4 (fun ht23=>?_) (fun ht23=>?_)
  ·rw [Im] at ht23
   refine xp ?_
   exact A9 (Ao A8) ⟨by rw [show Ma c=false from Ky.2 fun h=>by have:=namedC_true.1 h x c[x] (Ab hlt);unfold Tv at this;rw [ht23] at this;cases this],rfl⟩
  rw [Im] at ht23
  refine Z70 ?_;refine A2 [0,5,6,7] ?_
  refine Bt (x+1) ⟨hlt,K3 hlt hx.2 (by unfold Tv;rw [ht23];rfl)⟩ (by omega) ?_
  exact D0 (own:=[]) (fun _=>.refl _) (by repeat (first|exact Bb|refine Ba (by simp [or_imp,forall_and]) ?_)) (by simp) (by simp)
 refine Z27 ?_;refine Z46 ?_;exact A9 (Ao A8) ⟨by rw [namedC_true.2 (R6 (by simp at ht8;omega) hx.2)],rfl⟩

theorem ASb (c:List Col) (take:List Str) (Hp:List AObj):AFun Tryz.prog 211 [Am c,G9 take] Hp (.fn (.func 239) [] [.ro [Am c],.ro [G9 take]]):=by
 refine Ae [.tmp 4] [0,1] Tryz.func211 Tryz.ntmps211 (fun d=>?_)
 refine Z15 ?_;refine Jz ?_;refine pz ?_;exact AKi

theorem ASc (l:Nat) (c:List Col) (take:List Str) (hc:c.length≤1048576) (ht:take.length≤1048576) (U:Nat→List AObj) (hlen:∀k,(U k).length=(U 0).length) (hll:l<(U 0).length)
  (hlw:∀k,∀x∈U k,ObjLow (U 0).length x) (hn:∀k y,c[k]? = some y→take.contains y.name=true→U (k+1)=U k)
  (hy:∀k y X,c[k]? = some y→take.contains y.name=false→AYield Tryz.prog l [Cc y] (U k++X) (fun b H'=>b=true∧H'=U (k+1)++X)):ACall Tryz.prog 239 [.yield l,.ro [Am c],.ro [G9 take]] (U 0) (fun _ H'=>H'=U c.length):=by
 refine Ae [] [0,1,2] Tryz.func239 Tryz.ntmps239 (fun d=>?_)
 refine Z15 ?_;refine A2 [0,2,6,7,8] ?_
 refine Bi (α:=Nat) (fun x=>⟨24,A6 0 (.yield l) (A6 2 (.ro [G9 take]) (A6 6 (Am c) (A6 7 (A3 c.length) (A6 8 (A3 (x:Nat)) (fun _=>.any))))),U x,[],[],none⟩) (fun x=>x≤c.length) (fun x=>c.length-x) (0) (Au _) (Bo (by simp)) rfl (fun x hx=>?_)
 refine Z2 ?_;refine A2 [0,2,6,7,8,9] ?_
 refine Ck (fun ht9=>?_) (fun ht9=>?_)
 ·have hlt:x<c.length:=by simpa using ht9
  refine Z73 ?_
  refine A5 (h:=Ag (x) (Cc c[x]) (fun _=>B7 hlt)) (hr:=?_)
  refine Z99 ?_;refine A2 [0,2,5,6,7,8] ?_;refine Z15 ?_;refine A7 Tryz.call95 (c95 take _ ht _) ?_;refine Z38 ?_
  refine G.yield (l:=l) (C:=((!take.contains c[x].name)==true)) (args:=[Cc c[x]]) (fun hC=>hy x c[x] _ (Ab hlt) (by simpa using hC)) ?_
  intro b V O hV hb hb0
  have hVO:V=U (x+1)∧O=[AObj.cells 69 [Ac c[x].name,A3 c[x].kind]]∧(take.contains c[x].name=false→b=true):=by
   cases hcn:take.contains c[x].name with
   | true =>
    obtain ⟨h1,h2⟩:=hb0 (by rw [hcn];rfl)
    exact ⟨h1.trans (hn x c[x] (Ab hlt) hcn).symm,h2,fun e=>by cases e⟩
   | false =>
    obtain ⟨h1,h2⟩:=hb (by rw [hcn];rfl)
    have h3:=J0 h2 (by rw [hV,hlen x,hlen (x+1)])
    exact ⟨h3.1,h3.2,fun _=>h1⟩
  obtain ⟨rfl,rfl,hbt⟩:=hVO
  refine ⟨fun _=>by rw [hlen (x+1)];exact hlw (x+1),fun o ho=>(by cases ho),?_⟩
  refine Z55 ?_;refine A2 [0,2,6,7,8,22] ?_
  refine A4 (fun ht22=>?_) (fun ht22=>?_)
  ·exfalso
   have hcf:take.contains c[x].name=false:=by simp at ht22 ⊢;exact ht22.1
   rw [hbt hcf] at ht22
   simp at ht22
  refine Z70 ?_;refine A2 [0,2,6,7,8] ?_;refine qe ?_
  exact D0 (own:=[]) (fun _=>.refl _) (by repeat (first|exact Bb|refine Ba (by first|(simp [or_imp,forall_and];done)|(have:=hlen (x+1);simp;omega)) ?_)) (by simp) (by simp)
 have hxe:x=c.length:=by simp at ht9;omega
 exact AOg

/-! What went and came, taken back: the same columns. -/
theorem ADq {α β:Type} {f:α→β} {c:List α} (h:(c.map f).Nodup) {i j:Nat} {y z:α} (hi:c[i]? = some y) (hj:c[j]? = some z) (e:f y=f z):i=j:=by
 obtain ⟨hi',ei⟩:=Ad.1 hi
 obtain ⟨hj',ej⟩:=Ad.1 hj
 have h':List.Pairwise (·≠·) (c.map f):=h
 rw [tm] at h'
 rcases Nat.lt_trichotomy i j with hlt|rfl|hlt
 ·have h2:=h' i j (by simpa using hi') (by simpa using hj') hlt
  rw [Pl,Pl,ei,ej] at h2
  exact absurd e h2
 ·rfl
 have h2:=h' j i (by simpa using hj') (by simpa using hi') hlt
 rw [Pl,Pl,ei,ej] at h2
 exact absurd e.symm h2
theorem Oo {c:List Col} (h:(c.map (·.name)).Nodup) {j:Nat} {y:Col} (hj:c[j]? = some y):Ay y.name c=(j:Int):=by
 obtain ⟨hj',ej⟩:=Ad.1 hj
 exact lg hj' (by rw [ej]) (fun k z hk hz e=>by have:=ADq h hz hj e;omega)
theorem find_mem {nm:Str} {c:List Col}:¬(Ay nm c<0)↔∃(j:Nat) (y:Col),c[j]? = some y∧y.name=nm∧Ay nm c=(j:Int):=by
 unfold Ay
 cases h:c.findIdx? (fun y=>y.name==nm) with
 | none =>
  constructor
  ·intro h';exact absurd (by decide) h'
  rintro ⟨j,y,_,_,e⟩
  exact absurd (show (-1:Int)=(j:Int) from e) (by omega)
 | some i =>
  rw [N4] at h
  obtain ⟨hi,e,_⟩:=h
  constructor
  ·intro _;exact ⟨i,c[i],Ab hi,by simpa using e,rfl⟩
  intro _ h'
  have:(i:Int)<0:=h'
  omega
theorem AHl {c:List Col} {take:List Str} {give:List Col} (h:(E2 c take give).2=0):Cs c=true∧Jd c take=true∧Jq (Dg c take++give)=true∧(Dg c take++give).length≤12∧E2 c take give=(Dg c take++give,0):=by
 cases h1:Cs c with
 | false=>rw [ADj h1] at h;exact absurd (show (1:Int)=0 from h) (by decide)
 | true =>
  cases h2:Jd c take with
  | false=>rw [ADk h1 h2] at h;exact absurd (show (9:Int)=0 from h) (by decide)
  | true =>
   cases h3:Ma (Dg c take++give) with
   | false=>rw [ADl h1 h2 rfl h3] at h;exact absurd (show (9:Int)=0 from h) (by decide)
   | true =>
    cases h4:Jq (Dg c take++give) with
    | false=>rw [ADm h1 h2 rfl h3 h4] at h;exact absurd (show (10:Int)=0 from h) (by decide)
    | true =>
     by_cases h5:12<(Dg c take++give).length
     ·rw [ADn h1 h2 rfl h3 h4 h5] at h;exact absurd (show (3:Int)=0 from h) (by decide)
     exact ⟨rfl,rfl,rfl,by omega,ADo h1 h2 rfl h3 h4 h5⟩
set_option maxRecDepth 8000
/-! The words of a print. -/
/-- What a node asks of its kids, and what it is. -/
structure Sign where
 kids:List Int
 own:Int
def Ec (s:Str):Sign:=if (s==[111,114]) || (s==[97,110,100]) then ⟨[3,3],3⟩ else if (((((s==[61]) || (s==[33,61])) || (s==[60])) || (s==[60,61])) || (s==[62])) || (s==[62,61]) then ⟨[-1, -1],3⟩ else if s==[38] then ⟨[2,2],2⟩ else ⟨[1,1],1⟩
def G6 (s:Str):Sign:=if (s==[108,101,110]) || (s==[110,117,109]) then ⟨[2],1⟩ else if s==[115,116,114] then ⟨[1],2⟩ else if (s==[108,101,102,116]) || (s==[114,105,103,104,116]) then ⟨[2,1],2⟩ else if s==[105,115,110,117,108,108] then ⟨[-2],3⟩ else if s==[110,118,108] then ⟨[-1, -1], -1⟩ else ⟨[3, -1, -1], -1⟩
def La (o:Int) (t:Str):Sign:=if o==3 then ⟨[1],1⟩ else if o==4 then ⟨[3],3⟩ else if o==5 then Ec t else G6 t
def Fe (a b:Int):Int×Bool:=if a==0 then (b,true) else if (b==0) || (a==b) then (a,true) else (0,false)
def H7:List Int→List Int→Int→Option Int
 | _,[],c=>some c
 | [],_::_,_=>none
 | w::ws,k::ks,c=>if w == -2 then H7 ws ks c else if w == -1 then (if (Fe c k).2 then H7 ws ks (Fe c k).1 else none) else if (Fe w k).2 then H7 ws ks c else none
def Pd (s:Sign) (ks:List Int):Int×Int:=match H7 s.kids ks 0 with|none=>(0,10)|some c=>if s.own == -1 then (c,0) else (s.own,0)
def Je (c:List Col) (t:Str):Int×Int:=if Ay t c<0 then (0,9) else ((c.getD (Ay t c).toNat ⟨[],0⟩).kind,0)
def Ns (c:List Col) (o:Int) (t:Str) (v:Val) (ks:List (Int×Int)):Int×Int:=
 if o==1 then (v.kind,0) else if o==2 then Je c t else match ks.find? (fun q=>q.2 != 0) with|some q=>(0,q.2)|none=>Pd (La o t) (ks.map (·.1))
mutual
def Bh (c:List Col):Expr→Int×Int
 | .mk o t v k=>Ns c o t v (Nt c k)
def Nt (c:List Col):List Expr→List (Int×Int)
  | []=>[]
  | e::r=>Bh c e::Nt c r
 end
theorem Vj (c:List Col):∀l,Nt c l=l.map (Bh c)
 | []=>rfl
 | e::r=>by rw [Nt,Vj c r];rfl
theorem Qh (c:List Col) (e:Expr):Bh c e=Ns c e.op e.text e.val (e.kids.map (Bh c)):=by cases e;rw [Bh,Vj];rfl
/-- infer.Kind. -/
def Gb (e:Expr) (c:List Col):Int×Int:=if (!(Az e)) || !(Jb c) then (0,1) else Bh c e
/-! The signs have as many as the nodes have kids. -/
theorem rm (s:Str):(Ec s).kids.length=2:=by
 unfold Ec;repeat' split
 all_goals rfl
theorem rn {t:Str} {n:Nat} (h:Cn t=(n:Int)):(G6 t).kids.length=n:=by
 rw [show Cn t=Cn t from rfl] at h
 by_cases hm:t∈arityList.map (·.1)
 ·have:((arityList.map (·.1)).all fun s=>decide (((G6 s).kids.length:Int)=Cn s))=true:=by kernel_rfl
  have:=of_decide_eq_true (B5.1 this t hm)
  omega
 have h1:Cn t = -1:=by
  unfold Cn
  rw [N3.2 fun p hp=>by
   simp only [beq_iff_eq]
   rintro rfl
   exact hm (C2.2 ⟨p,hp,rfl⟩)]
 omega
theorem ADr {e:Expr} (h:F1 e=true) (h1:(e.op==1)=false) (h2:(e.op==2)=false):(La e.op e.text).kids.length=e.kids.length:=by
 unfold F1 at h
 rw [h1,h2] at h
 simp only [Bg,if_false] at h
 unfold La
 by_cases h3:(e.op==3)=true
 ·rw [h3] at h
  simp only [Ly,if_true,As,beq_iff_eq] at h
  rw [if_pos h3]
  show 1=_
  omega
 have h3':(e.op==3)=false:=by simpa using h3
 rw [if_neg h3]
 rw [h3'] at h
 by_cases h4:(e.op==4)=true
 ·rw [h4] at h
  simp only [Fb,if_true,As,beq_iff_eq] at h
  rw [if_pos h4]
  show 1=_
  omega
 have h4':(e.op==4)=false:=by simpa using h4
 rw [if_neg h4]
 rw [h4'] at h
 simp only [Pi,Bg,if_false] at h
 by_cases h5:(e.op==5)=true
 ·rw [h5] at h
  simp only [if_true,As,beq_iff_eq] at h
  rw [if_pos h5,rm]
  omega
 have h5':(e.op==5)=false:=by simpa using h5
 rw [if_neg h5]
 rw [h5'] at h
 simp only [Bg,if_false] at h
 by_cases h6:(e.op==6)=true
 ·rw [h6] at h
  simp only [if_true,As,beq_iff_eq] at h
  exact rn h.2
 have h6':(e.op==6)=false:=by simpa using h6
 rw [h6'] at h
 cases h
/-! More columns. -/
theorem mi {c:List Col} {o:Int} {t:Str} {v:Val} {ks:List (Int×Int)} (h:(Ns c o t v ks).2=0) (h1:(o==1)=false) (h2:(o==2)=false):∀q∈ks,q.2=0:=by
 unfold Ns at h
 rw [h1,h2] at h
 simp only [Bg,if_false] at h
 cases hf:ks.find? (fun q=>q.2 != 0) with
 | some q =>
  rw [hf] at h
  have:=gb hf
  simp only [bne_iff_ne] at this
  exact absurd h this
 | none =>
  intro q hq
  have:=N3.1 hf q hq
  simpa using this
/-- What a name's kind is. -/
theorem rp {c:List Col} {t:Str} (hn:(c.map (·.name)).Nodup) {y:Col} (hy:y∈c) (h:y.name=t):Je c t=(y.kind,0):=by
 obtain ⟨j,hj⟩:=Cb hy
 have hf:=Oo hn hj
 rw [h] at hf
 unfold Je
 rw [hf,if_neg (by omega)]
 have:(c.getD ((j:Int)).toNat ⟨[],0⟩)=y:=by
  rw [Int.toNat_natCast,Bv,hj]
  rfl
 rw [this]
/-! A tree in a column's place. -/
set_option maxRecDepth 4000
abbrev pr (l:List Tok) (S:PS):AObj:=.cells 197 [.slice false 3 (l.map Ix),A3 (S.i:Int),A3 (S.nest:Int),A3 S.code,A3 S.at_]
theorem Dz {n:Nat} {l:List Tok} {S:PS}:ObjLow n (pr l S):=by
 show ∀y∈[AV.slice false 3 (l.map Ix),A3 (S.i:Int),A3 (S.nest:Int),A3 S.code,A3 S.at_],Low n y
 intro y hy
 simp only [B3,Em,or_false] at hy
 rcases hy with rfl|rfl|rfl|rfl|rfl
 ·simp [or_imp,forall_and]
 all_goals simp
theorem mj (o:Int) (t:Str) (v:Val):Le (.agg [A3 o,Ac t,A3 v.kind,A3 v.n,Ac v.s,.nil]) (Aa (.mk o t v [])):=by
 rw [Ap]
 refine .agg _ _ rfl (by simp [AV.one,Value.oneCell',sv]) fun i y y' h1 h2=>?_
 match i with
 | 0=>simp at h1 h2;subst h1;subst h2;exact .inl rfl
 | 1=>simp at h1 h2;subst h1;subst h2;exact .inl rfl
 | 2=>simp at h1 h2;subst h1;subst h2;exact .inl rfl
 | 3=>simp at h1 h2;subst h1;subst h2;exact .inl rfl
 | 4=>simp at h1 h2;subst h1;subst h2;exact .inl rfl
 | 5=>simp at h1 h2;subst h1;subst h2;exact .inr ⟨rfl,6,rfl⟩
 | i+6=>simp at h1
theorem Tw:Le (.agg [A3 0,Ac [],A3 0,A3 0,Ac [],.nil]) (Aa Av):=mj 0 [] noV
theorem APq (l:List Tok) (S:PS) (o:Nat) (Hp:List AObj) (ho:Hp[o]? = some (pr l S)) (hi:S.i<l.length):AFun Tryz.prog 255 [.ptr o 0] Hp (Ix (Af l S.i)):=by
 refine Ae [.cell 2 118] [0] Tryz.func255 Tryz.ntmps255 (fun d=>?_)
 refine AO8 ?_;refine Z35 ?_
 refine Aq (h:=Bd ho) (hr:=?_)
 refine Z35 ?_
 refine Aq (h:=Bd ho) (hr:=?_)
 refine Ik ?_
 refine A5 (h:=Ag (S.i) (Ix (Af l S.i)) (fun _=>Ng hi)) (hr:=?_)
 refine A5 ?_;exact AGi

theorem ml (l:List Tok) (S:PS) (of:Str) (o:Nat) (Hp:List AObj) (ho:Hp[o]? = some (pr l S)) (hi:S.i<l.length) (hl:TokEnd l) (hof:of.length≤1048576):AFun Tryz.prog 232 [.ptr o 0,Ac of] Hp (B4 (isM l of S)):=by
 refine Ae [.tmp 4] [0,1] Tryz.func232 Tryz.ntmps232 (fun d=>?_)
 refine Z36 ?_;refine AKs ?_;refine Z9 ?_;refine A2 [1,5] ?_;refine Z23 ?_;refine Z77 ?_;refine il ?_;refine Ca Tryz.call175 (fun hB=>APl (Af l S.i).text of (hl.text _) hof _) ?_;exact AGy

theorem ADs (l:List Tok) (S:PS) (o:Nat) (Hp:List AObj) (ho:Hp[o]? = some (pr l S)) (hi:S.i<l.length) (hll:l.length≤1048576):ACall Tryz.prog 233 [.ptr o 0] Hp (fun r H'=>r=Ix (Af l S.i)∧H'=Hp.set o (pr l (At S))):=by
 refine Ae [.cell 2 118] [0] Tryz.func233 Tryz.ntmps233 (fun d=>?_)
 refine Z64 ?_;refine AKs ?_;refine ky ?_;refine Z15 ?_
 refine A5 (h:=Bd ho) (hr:=?_)
 refine Z12 ?_
 refine Cx jS ho ?_ ?_
 ·simp
 refine Jz ?_;refine Z2 ?_;exact AGi

theorem z3 (l:List Tok) (S:PS) (e a:Int) (o:Nat) (Hp:List AObj) (ho:Hp[o]? = some (pr l S)):ACall Tryz.prog 156 [.ptr o 0,A3 e,A3 a] Hp (fun r H'=>r=Aa Av∧H'=Hp.set o (pr l (F8 e a S))):=by
 refine Ae [.cell 6 27] [0,1,2] Tryz.func156 Tryz.ntmps156 (fun d=>?_)
 refine AGn ?_;refine Z79 ?_
 refine A5 (h:=Bd ho) (hr:=?_)
 refine A5 ?_;refine A2 [0,1,2,6,12] ?_
 refine A4 (fun ht12=>?_) (fun ht12=>?_)
 ·have e:F8 e a S=⟨S.i,S.nest,e,a⟩:=if_pos ht12
  refine Z49 ?_;refine lb ?_;refine Z0 ?_
  refine Cx jS ho ?_ ?_
  ·simp
  refine A2 [6] ?_;refine Il ?_;refine AKh ?_;refine R.wk 19 _ Tw ?_;refine Hh ?_;refine Z75 ?_;exact A9 (Ao (B6 jA jS)) ⟨rfl,by rw [e]⟩ (hlow:=Ak _ Av)
 have e:F8 e a S=S:=if_neg (by rw [ht12];simp)
 refine Z3 ?_;refine AKh ?_;refine R.wk 19 _ Tw ?_;refine Hh ?_;refine Z75 ?_;exact A9 (Ao (B6 jA jS)) ⟨rfl,by rw [e];exact (Cm ho).symm⟩ (hlow:=Ak _ Av)

theorem APr (v:Val) (Hp:List AObj):AFun Tryz.prog 337 [Bq v] Hp (Aa (On v)):=by
 refine Ae [.cell 2 27] [0] Tryz.func337 Tryz.ntmps337 (fun d=>?_)
 refine ACc ?_;refine A2 [1,2] ?_;refine Z2 ?_;refine y6 ?_;refine R.wk 4 _ (mj 1 [] v) ?_;refine Z40 ?_;exact A9 (Ao (B6 jA jS)) ⟨rfl,rfl⟩ (hlow:=Ak _ (On v))

theorem APs (l:List Tok) (S:PS) (s:Str) (o:Nat) (Hp:List AObj) (ho:Hp[o]? = some (pr l S)) (hi:S.i<l.length) (hll:l.length≤1048576):ACall Tryz.prog 339 [.ptr o 0,Ac s] Hp (fun r H'=>r=.v (.tuple #[])∧H'=Hp.set o (pr l (Gs l s S))):=by
 refine Ae [] [0,1] Tryz.func339 Tryz.ntmps339 (fun d=>?_)
 refine Z79 ?_
 refine A5 (h:=Bd ho) (hr:=?_)
 refine A5 ?_;refine A2 [0,1,10] ?_
 refine A4 (fun ht10=>?_) (fun ht10=>?_)
 ·have e:Gs l s S=S:=if_pos ht10
  refine Z34 ?_;exact A9 .nores (hp:=⟨rfl,by rw [e];exact (Cm ho).symm⟩)
 have e0:¬(S.code != 0)=true:=by rw [ht10];simp
 refine Ri ?_;refine A7 Tryz.call255 (APq l S o _ (Aj ho) hi) ?_;refine Z9 ?_;refine A2 [0,1,4] ?_;refine Z23 ?_;refine Q5 ?_;refine A5 ?_;refine A2 [0,4,21] ?_
 refine A4 (fun ht21=>?_) (fun ht21=>?_)
 ·have e:Gs l s S=F8 8 (Af l S.i).at_ S:=by unfold Gs;rw [if_neg e0,if_pos ht21]
  refine ANw ?_;refine ABu ?_;exact A9 .nores (hp:=⟨rfl,by rw [e]⟩)
 have e:Gs l s S=At S:=by unfold Gs;rw [if_neg e0,if_neg (by rw [ht21];simp)]
 refine Z3 ?_;refine Z49 ?_
 refine A5 (h:=Bd ho) (hr:=?_)
 refine Z12 ?_
 refine Cx jS ho ?_ ?_
 ·simp
 refine Mk ?_;exact F4 .nores (hp:=⟨rfl,by rw [e];rfl⟩)

/-- The contract of one of the parser's functions. -/
def PC (g:FuncId) (l:List Tok) (f:PS→Expr×PS) (n:Nat):Prop:=∀(o:Nat) (Hp:List AObj) (S:PS),Hp[o]? = some (pr l S)→S.i<l.length→S.nest=n→ACall Tryz.prog g [.ptr o 0] Hp (fun r H'=>r=Aa (f S).1∧H'=Hp.set o (pr l (f S).2))
abbrev Nh:AObj:=.cells 27 [A3 0,Ac [],A3 0,A3 0,Ac [],.nil]
theorem jg {n:Nat}:ObjLow n Nh:=by
 show ∀y∈[A3 0,Ac [],A3 0,A3 0,Ac [],AV.nil],Low n y
 simp
theorem AHm {n:Nat} (e:Expr):ObjLow n (.cells 27 (Ex e)):=by
 have h:=Ak n e
 rw [Ap] at h
 show ∀y∈Ex e,Low n y
 intro y hy
 cases h with
 | agg _ h=>exact h y hy
theorem AHn (l:List Tok) (S:PS) (a:Int) (g:FuncId) (first caps:List AV) (x:Expr) (S2:PS) (o:Nat) (Hp Hx:List AObj) (ho:Hp[o]? = some (pr l S)) (hnl:S.nest≤1048576) (hgc:∀args w,(callFunc g args).run Tryz.prog w=.ok (.enter g args) w) (hxl:Hx.length=Hp.length) (hxo:Hx[o]? = some (pr l S2)) (hn2:S2.nest=S.nest+1) (hlow:(∀y∈Hp.set o (pr l (E8 S)),ObjLow Hp.length y)→∀y∈Hx,ObjLow Hp.length y) (hcf:S.nest≠30→∀own,ACall Tryz.prog g (first++caps) (Hp.set o (pr l (E8 S))++own) (fun y H'=>y=Aa x∧H'=Hx++own)):ACall Tryz.prog 257 [.ptr o 0,A3 a,.fn (.func g) first caps] Hp (fun r H'=>(S.nest=30→r=Aa Av∧H'=Hp.set o (pr l (F8 18 a S)))∧(S.nest≠30→r=Aa x∧H'=Hx.set o (pr l (dt S2)))):=by
 refine Ae [.cell 6 27] [0,1,2] Tryz.func257 Tryz.ntmps257 (fun d=>?_)
 refine AGn ?_;refine Z29 ?_
 refine A5 (h:=Bd ho) (hr:=?_)
 refine A5 ?_;refine A2 [0,1,2,6,12] ?_
 refine A4 (fun ht12=>?_) (fun ht12=>?_)
 ·have hn30:S.nest=30:=by have:=ht12;simp at this;omega
  refine Z1 ?_;refine Cr Tryz.call156 ho (by simp) Dz (z3 l S 18 a o _ (Aj ho)) ?_;refine Hh ?_;refine pw ?_;exact A9 (Ao (B6 jA jS)) ⟨fun _=>⟨by rw [Ap],rfl⟩,fun h=>absurd hn30 h⟩ (hlow:=by have:=Ak Hp.length Av;rw [Ap] at this;simpa using this)
 have hn30:S.nest≠30:=by have:=ht12;simp at this;omega
 refine Q4 ?_
 refine A5 (h:=Bd ho) (hr:=?_)
 refine Z12 ?_
 refine Cx jS ho ?_ ?_
 ·simp
 refine A2 [0,2,6] ?_;refine Z2 ?_
 refine R.callVX (up':=Hx) (own':=[Nh]) hgc (hcf hn30 [Nh]) (by simpa using hxl) (by rw [E1];exact hlow) ?_
 rw [←hxl]
 refine Z9 ?_;refine A2 [0,6,7] ?_;refine Z15 ?_
 refine A5 (h:=Bd hxo) (hr:=?_)
 refine Z12 ?_
 refine Cx jS hxo ?_ ?_
 ·simp
 refine A2 [6,7] ?_;refine Z82 ?_;refine Z75 ?_;exact A9 (Ao (B6 jA jS)) ⟨fun h=>absurd h hn30,fun _=>⟨by rw [Ap],by rw [show ((S2.nest:Int)-1)=((dt S2).nest:Int) by show _=((S2.nest-1:Nat):Int);omega];rfl⟩⟩ (hlow:=by have:=Ak Hx.length x;rw [Ap] at this;simpa using this)

theorem z4 (t:Str) (a b:Expr):Ex (Ml t a b)=[A3 5,.v (sv t),A3 0,A3 0,Ac [],.slice false 6 [Aa a,Aa b]]:=rfl
theorem AHo {n:Nat} (t:Str) (a b:Expr):ObjLow n (.cells 27 [A3 5,.v (sv t),A3 0,A3 0,Ac [],.slice false 6 [Aa a,Aa b]]):=AHm (Ml t a b)
theorem AHp {n:Nat} {U:List AObj} {i:Nat} {x:AObj} (h:∀y∈U,ObjLow n y) (hx:ObjLow n x):∀y∈U.set i x,ObjLow n y:=by
 intro y hy
 rcases Mm hy with h1|h1
 ·exact h y h1
 rw [h1];exact hx
/-- within, with a method's value. -/
theorem ADt {g:FuncId} (hgc:∀args w,(callFunc g args).run Tryz.prog w=.ok (.enter g args) w) (l:List Tok) (S:PS) (a:Int) (f:PS→Expr×PS) (o:Nat) (Hp:List AObj) (ho:Hp[o]? = some (pr l S)) (hi:S.i<l.length) (hnl:S.nest≤30) (hf:S.nest≠30→Fp l (S.nest+1) f) (hcf:S.nest≠30→PC g l f (S.nest+1)):
  ACall Tryz.prog 257 [.ptr o 0,A3 a,.fn (.func g) [.ptr o 0] []] Hp (fun r H'=>r=Aa (Da a f S).1∧H'=Hp.set o (pr l (Da a f S).2)):=by
 have hlt:=(Ad.1 ho).1
 by_cases h30:S.nest=30
 ·refine (AHn l S a g [.ptr o 0] [] Av (E8 S) o Hp (Hp.set o (pr l (E8 S))) ho (by omega) hgc (by simp) (by simp [hlt]) rfl (fun h=>h) (fun h=>absurd h30 h)).mono fun r H' h=>?_
  have e:Da a f S=(Av,F8 18 a S):=if_pos (by rw [h30];rfl)
  rw [e]
  exact h.1 h30
 have hq:=hf h30 (E8 S) hi rfl
 refine (AHn l S a g [.ptr o 0] [] (f (E8 S)).1 (f (E8 S)).2 o Hp (Hp.set o (pr l (f (E8 S)).2)) ho (by omega) hgc (by simp) (by simp [hlt]) hq.nest (fun h y hy=>?_) (fun _ own=>?_)).mono fun r H' h=>?_
 ·rcases Mm hy with h1|h1
  ·obtain ⟨i,hi',rfl⟩:=Us h1
   by_cases hio:i=o
   ·subst hio
    have:Hp[i]=pr l S:=by rw [Ab hi'] at ho;injection ho
    rw [this];exact Dz
   refine h _ ?_
   rw [th]
   exact ⟨i,by rw [Bk (Ne.symm hio),Ab hi']⟩
  rw [h1];exact Dz
 ·have hg:(Hp.set o (pr l (E8 S))++own)[o]? = some (pr l (E8 S)):=Aj (by simp [hlt])
  refine (hcf h30 o (Hp.set o (pr l (E8 S))++own) (E8 S) hg hi rfl).mono fun r H' h=>⟨h.1,h.2.trans ?_⟩
  rw [Lh _ _ (by simpa using hlt),C6]
 have e:Da a f S=((f (E8 S)).1,dt (f (E8 S)).2):=if_neg (by
  show ¬(((S.nest:Int)==30)=true)
  simp
  omega)
 rw [e]
 obtain ⟨h1,h2⟩:=h.2 h30
 exact ⟨h1,by rw [h2,C6]⟩
theorem AHq {g:FuncId} (hgc:∀args w,(callFunc g args).run Tryz.prog w=.ok (.enter g args) w) (l:List Tok) (S:PS) (of:Str) (hof:of.length≤1048576) (f:PS→Expr×PS) (o:Nat) (Hp:List AObj) (ho:Hp[o]? = some (pr l S)) (hi:S.i<l.length) (hl:TokEnd l) (hll:l.length≤1048576) (hf:Fp l S.nest f) (hcf:PC g l f S.nest):ACall Tryz.prog 198 [.ptr o 0,Ac of,.fn (.func g) [.ptr o 0] []] Hp (fun r H'=>r=Aa (Hw l of f S).1∧H'=Hp.set o (pr l (Hw l of f S).2)):=by
 have holt:=(Ad.1 ho).1
 refine Ae [.cell 6 27] [0,1,2] Tryz.func198 Tryz.ntmps198 (fun d=>?_)
 refine AGn ?_;refine Z2 ?_;refine R.callVUp hgc ho (by simp) Dz (hcf o _ S (Aj ho) hi rfl) ?_;refine Z9 ?_;refine A2 [0,1,2,6,7] ?_;refine L0 ?_
 refine Bi (α:=Expr×PS) (fun r=>⟨32,A6 0 (.ptr o 0) (A6 1 (Ac of) (A6 2 (.fn (.func g) [.ptr o 0] []) (A6 6 (.ptr (oid Hp.length 0) 0) (A6 7 (.ptr (oid Hp.length 1) 0) (fun _=>.any))))),Hp.set o (pr l r.2),[.cells 27 [A3 0,Ac [],A3 0,A3 0,Ac [],.nil],.cells 27 (Ex r.1)],[],none⟩) (fun r=>LeftAt l of f S r) (fun r=>l.length-r.2.i) (f S) (.start (hf S hi rfl)) (Bo (by simp)) rfl (fun r hx=>?_)
 refine Z79 ?_
 refine A5 (h:=Bd (getset ho)) (hr:=?_)
 refine Z38 ?_;refine Ca Tryz.call232 (fun hB=>ml l r.2 of o _ (Aj (getset ho)) hx.fact.lt hl hof) ?_;refine A5 ?_;refine A2 [0,1,2,6,7,21] ?_
 refine A4 (fun ht21=>?_) (fun ht21=>?_)
 ·have hon:=hx.on hl ht21 hf
  have hle:=hon.2.1.le
  have hlt0:=hx.fact.lt
  have hU1:(Hp.set o (pr l r.2)).set o (pr l (At r.2))=Hp.set o (pr l (At r.2)):=C6 ..
  refine ACd ?_;refine Z2 ?_;refine Cr Tryz.call233 (getset ho) (by simp) Dz (ADs l r.2 o _ (Aj (getset ho)) hx.fact.lt hll) ?_;refine Z9 ?_;refine A2 [0,1,2,6,7,8] ?_;refine Se [0,1,0,0,8,28,63,127] [4] [.q 4 [] [],.s [28] (some 0) [] [],.q 1 [0] []] (fun B=>Hp.set o (if B 0=true then pr l (f (At r.2)).2 else pr l (At r.2))) (fun _=>[.cells 27 [A3 0,Ac [],A3 0,A3 0,Ac [],.nil],.cells 27 (Ex r.1),.cells 118 [A3 (Af l r.2.i).kind,Ac (Af l r.2.i).text,A3 (Af l r.2.i).at_]]) An (by kernel_rfl) (by simp [C6]) rfl (fun B=>by simp) ?_
  apply Y.q
  ·intro B hT hF
   exact l4
  case hTF=>decide
  refine Y.callVUp (r:=Aa (f (At r.2)).1) (o:=o) (x0:=pr l (At r.2)) (x:=pr l (f (At r.2)).2) hgc (fun B hT hF hB=>⟨by simp only [hB];exact getset ho,by simp [upd],rfl,Dz,?_⟩) ?_
  ·simp only [hB]
   exact hcf o _ (At r.2) (Aj (getset ho)) hon.1 hx.fact.nest
  apply Y.q
  ·intro B hT hF
   exact Z39
  case hTF=>decide
  refine Ej (tn:=[4]) (U:=Hp.set o (pr l (f (At r.2)).2)) ?_;refine Z28 ?_;refine A2 [0,1,2,6,7] ?_;refine N9 ?_
  refine Bt (Ml (Af l r.2.i).text r.1 (f (At r.2)).1,(f (At r.2)).2) hon.2.2 (by show l.length-(f (At r.2)).2.i<l.length-r.2.i;have:r.2.i+1≤(f (At r.2)).2.i:=hle;omega) ?_
  simp only [z4]
  have hlow2:=fun n=>AHo (n:=n) (Af l r.2.i).text r.1 (f (At r.2)).1
  simp only [Ap] at hlow2 ⊢
  exact D0 (fun _=>.refl _) (by repeat (first|exact Bb|refine Ba (by simp [oid]<;>omega) ?_)) (by intro y hy;rcases B3.1 hy with rfl|hy;exact jg;rw [B9.1 hy];exact hlow2 _) (by simp)
 have hout:=hx.out (by rw [ht21];simp)
 refine Th ?_;refine Z82 ?_;refine Z75 ?_;exact A9 (Ao (B6 jA jS)) ⟨by rw [hout,Ap],by rw [hout]⟩ (hlow:=by have:=Ak (Hp.set o (pr l r.2)).length r.1;rw [Ap] at this;simpa using this)

theorem ASd (l:List Tok) (S:PS) (f:PS→Expr×PS) (o:Nat) (Hp:List AObj) (ho:Hp[o]? = some (pr l S)) (hi:S.i<l.length) (hl:TokEnd l) (hll:l.length≤1048576) (hf:Fp l S.nest f) (hcf:PC 199 l f S.nest):ACall Tryz.prog 154 [.ptr o 0] Hp (fun r H'=>r=Aa (Hw l orT f S).1∧H'=Hp.set o (pr l (Hw l orT f S).2)):=by
 refine Ae [.cell 2 27] [0] Tryz.func154 Tryz.ntmps154 (fun d=>?_)
 refine Z64 ?_;refine Z1 ?_;refine J9 ?_;refine Cr Tryz.call198 ho (by simp) Dz (AHq Tryz.call199 l S orT (by decide) f o _ (Aj ho) hi hl hll hf hcf) ?_;refine Z40 ?_;exact A9 (Ao (B6 jA jS)) ⟨by rw [Ap],rfl⟩ (hlow:=by have:=Ak Hp.length (Hw l orT f S).1;rw [Ap] at this;simpa using this)

theorem ASe (l:List Tok) (S:PS) (f:PS→Expr×PS) (o:Nat) (Hp:List AObj) (ho:Hp[o]? = some (pr l S)) (hi:S.i<l.length) (hl:TokEnd l) (hll:l.length≤1048576) (hf:Fp l S.nest f) (hcf:PC 234 l f S.nest):ACall Tryz.prog 199 [.ptr o 0] Hp (fun r H'=>r=Aa (Hw l ADe f S).1∧H'=Hp.set o (pr l (Hw l ADe f S).2)):=by
 refine Ae [.cell 2 27] [0] Tryz.func199 Tryz.ntmps199 (fun d=>?_)
 refine Z64 ?_;refine Z1 ?_;refine J9 ?_;refine Cr Tryz.call198 ho (by simp) Dz (AHq Tryz.call234 l S ADe (by decide) f o _ (Aj ho) hi hl hll hf hcf) ?_;refine Z40 ?_;exact A9 (Ao (B6 jA jS)) ⟨by rw [Ap],rfl⟩ (hlow:=by have:=Ak Hp.length (Hw l ADe f S).1;rw [Ap] at this;simpa using this)

theorem ASf (l:List Tok) (S:PS) (f:PS→Expr×PS) (o:Nat) (Hp:List AObj) (ho:Hp[o]? = some (pr l S)) (hi:S.i<l.length) (hl:TokEnd l) (hll:l.length≤1048576) (hf:Fp l S.nest f) (hcf:PC 299 l f S.nest):ACall Tryz.prog 282 [.ptr o 0] Hp (fun r H'=>r=Aa (Hw l ADf f S).1∧H'=Hp.set o (pr l (Hw l ADf f S).2)):=by
 refine Ae [.cell 2 27] [0] Tryz.func282 Tryz.ntmps282 (fun d=>?_)
 refine Z64 ?_;refine Z1 ?_;refine J9 ?_;refine Cr Tryz.call198 ho (by simp) Dz (AHq Tryz.call299 l S ADf (by decide) f o _ (Aj ho) hi hl hll hf hcf) ?_;refine Z40 ?_;exact A9 (Ao (B6 jA jS)) ⟨by rw [Ap],rfl⟩ (hlow:=by have:=Ak Hp.length (Hw l ADf f S).1;rw [Ap] at this;simpa using this)

theorem ASg (l:List Tok) (S:PS) (f:PS→Expr×PS) (o:Nat) (Hp:List AObj) (ho:Hp[o]? = some (pr l S)) (hi:S.i<l.length) (hl:TokEnd l) (hll:l.length≤1048576) (hf:Fp l S.nest f) (hcf:PC 317 l f S.nest):ACall Tryz.prog 299 [.ptr o 0] Hp (fun r H'=>r=Aa (Hw l mf f S).1∧H'=Hp.set o (pr l (Hw l mf f S).2)):=by
 refine Ae [.cell 2 27] [0] Tryz.func299 Tryz.ntmps299 (fun d=>?_)
 refine Z64 ?_;refine Z1 ?_;refine J9 ?_;refine Cr Tryz.call198 ho (by simp) Dz (AHq Tryz.call317 l S mf (by decide) f o _ (Aj ho) hi hl hll hf hcf) ?_;refine Z40 ?_;exact A9 (Ao (B6 jA jS)) ⟨by rw [Ap],rfl⟩ (hlow:=by have:=Ak Hp.length (Hw l mf f S).1;rw [Ap] at this;simpa using this)

/-- What is so of the functions one nest deeper. -/
structure DeepC (l:List Tok) (Dv:Fam) (n:Nat):Prop where
 ei:n≠30→Fp l (n+1) Dv.ei∧PC 154 l Dv.ei (n+1)
 no:n≠30→Fp l (n+1) Dv.no∧PC 234 l Dv.no (n+1)
 ne:n≠30→Fp l (n+1) Dv.ne∧PC 317 l Dv.ne (n+1)
theorem Xf (op:Int) (x:Expr):Aa (Lk op x)=.agg [A3 op,Ac [],A3 0,A3 0,Ac [],.slice false 6 [Aa x]]:=by rw [Ap];rfl
theorem ux (t:Str) (a b:Expr):Aa (Ml t a b)=.agg [A3 5,.v (sv t),A3 0,A3 0,Ac [],.slice false 6 [Aa a,Aa b]]:=by rw [Ap];rfl
theorem low_agg {n:Nat} (e:Expr):Low n (.agg [.v (.int .i64 e.op),.v (sv e.text),.v (.int .i64 e.val.kind),.v (.int .i64 e.val.n),.v (sv e.val.s),.slice false 6 (e.kids.map Aa)]):=by
 have:=Ak n e
 rwa [Ap] at this
theorem ASh (l:List Tok) (S:PS) (Dv:Fam) (o:Nat) (Hp:List AObj) (ho:Hp[o]? = some (pr l S)) (hi:S.i<l.length) (hl:TokEnd l) (hll:l.length≤1048576) (hnl:S.nest≤30) (hd:DeepC l Dv S.nest) (hc:PC 331 l (I4 l Dv) S.nest):ACall Tryz.prog 317 [.ptr o 0] Hp (fun r H'=>r=Aa (Ze l Dv S).1∧H'=Hp.set o (pr l (Ze l Dv S).2)):=by
 refine Ae [.cell 2 27] [0] Tryz.func317 Tryz.ntmps317 (fun d=>?_)
 refine Z64 ?_;refine Z33 ?_;refine A7 Tryz.call232 (ml l S ALm o _ (Aj ho) hi hl (by decide)) ?_;refine A5 ?_;refine A2 [0,2,6] ?_
 refine A4 (fun ht6=>?_) (fun ht6=>?_)
 ·have e:Ze l Dv S=I4 l Dv S:=if_pos ht6
  refine Z2 ?_;refine Cr Tryz.call331 ho (by simp) Dz (hc o _ S (Aj ho) hi rfl) ?_;refine Z40 ?_;exact Z83
 have his:isM l ALm S=true:=by simpa using ht6
 have hi1:(At S).i<l.length:=hl.stepIs hi his
 have e:Ze l Dv S=(Lk 3 (Da (Af l S.i).at_ Dv.ne (At S)).1,(Da (Af l S.i).at_ Dv.ne (At S)).2):=if_neg (by rw [ht6];simp)
 refine Z3 ?_;refine Z71 ?_;refine ky ?_;refine Z23 ?_;refine J9 ?_;refine Cr Tryz.call257 (getset ho) (by simp) Dz (ADt Tryz.call317 l (At S) (Af l S.i).at_ Dv.ne o _ (Aj (getset ho)) hi1 hnl (fun h=>(hd.ne h).1) (fun h=>(hd.ne h).2)) ?_;refine Ti ?_;refine Z28 ?_;refine Z4 ?_;exact A9 (Ao (B6 jA jS)) ⟨by rw [e,Xf];simp only [Ap],by rw [e,C6]⟩ (hlow:=by have:=Ak Hp.length (Lk 3 (Da (Af l S.i).at_ Dv.ne (At S)).1);rw [Xf] at this;simp only [Ap] at this;simpa only [E1] using this)

theorem ASi (l:List Tok) (S:PS) (Dv:Fam) (o:Nat) (Hp:List AObj) (ho:Hp[o]? = some (pr l S)) (hi:S.i<l.length) (hl:TokEnd l) (hll:l.length≤1048576) (hnl:S.nest≤30) (hd:DeepC l Dv S.nest) (hc:PC 256 l (Hl l Dv) S.nest):ACall Tryz.prog 234 [.ptr o 0] Hp (fun r H'=>r=Aa (Zf l Dv S).1∧H'=Hp.set o (pr l (Zf l Dv S).2)):=by
 refine Ae [.cell 2 27] [0] Tryz.func234 Tryz.ntmps234 (fun d=>?_)
 refine Z64 ?_;refine Z33 ?_;refine A7 Tryz.call232 (ml l S ALk o _ (Aj ho) hi hl (by decide)) ?_;refine A5 ?_;refine A2 [0,2,6] ?_
 refine A4 (fun ht6=>?_) (fun ht6=>?_)
 ·have e:Zf l Dv S=Hl l Dv S:=if_pos ht6
  refine Z2 ?_;refine Cr Tryz.call256 ho (by simp) Dz (hc o _ S (Aj ho) hi rfl) ?_;refine Z40 ?_;exact Z83
 have his:isM l ALk S=true:=by simpa using ht6
 have hi1:(At S).i<l.length:=hl.stepIs hi his
 have e:Zf l Dv S=(Lk 4 (Da (Af l S.i).at_ Dv.no (At S)).1,(Da (Af l S.i).at_ Dv.no (At S)).2):=if_neg (by rw [ht6];simp)
 refine Z3 ?_;refine Z71 ?_;refine ky ?_;refine Z23 ?_;refine J9 ?_;refine Cr Tryz.call257 (getset ho) (by simp) Dz (ADt Tryz.call234 l (At S) (Af l S.i).at_ Dv.no o _ (Aj (getset ho)) hi1 hnl (fun h=>(hd.no h).1) (fun h=>(hd.no h).2)) ?_;refine Ti ?_;refine Z28 ?_;refine Z4 ?_;exact A9 (Ao (B6 jA jS)) ⟨by rw [e,Xf];simp only [Ap],by rw [e,C6]⟩ (hlow:=by have:=Ak Hp.length (Lk 4 (Da (Af l S.i).at_ Dv.no (At S)).1);rw [Xf] at this;simp only [Ap] at this;simpa only [E1] using this)

theorem ASj (l:List Tok) (S:PS) (Dv:Fam) (o:Nat) (Hp:List AObj) (ho:Hp[o]? = some (pr l S)) (hi:S.i<l.length) (hl:TokEnd l) (hll:l.length≤1048576) (hnl:S.nest≤30) (hd:DeepC l Dv S.nest) (hg:Fp l S.nest (Fw l Dv)) (hc:PC 282 l (Fw l Dv) S.nest):ACall Tryz.prog 256 [.ptr o 0] Hp (fun r H'=>r=Aa (Hl l Dv S).1∧H'=Hp.set o (pr l (Hl l Dv S).2)):=by
 have hq:=hg S hi rfl
 refine Ae [.cell 2 27] [0] Tryz.func256 Tryz.ntmps256 (fun d=>?_)
 refine Z64 ?_;refine Z2 ?_;refine Cr Tryz.call282 ho (by simp) Dz (hc o _ S (Aj ho) hi rfl) ?_;refine ky ?_;refine Z79 ?_
 refine A5 (h:=Bd (getset ho)) (hr:=?_)
 refine Rg ?_;refine Ca Tryz.call232 (fun hB=>ml l (Fw l Dv S).2 ALl o _ (Aj (getset ho)) hq.lt hl (by decide)) ?_;refine Z55 ?_;refine A2 [0,2,3,17] ?_
 refine A4 (fun ht17=>?_) (fun ht17=>?_)
 ·have e:Hl l Dv S=Fw l Dv S:=if_pos ht17
  refine Z2 ?_;refine Z40 ?_;exact Z83
 have his:isM l ALl (Fw l Dv S).2=true:=by
  have:=ht17
  simp only [Ei,Ph] at this
  exact this.2
 have hi1:(At (Fw l Dv S).2).i<l.length:=hl.stepIs hq.lt his
 have e:Hl l Dv S=(Ml (Af l (Fw l Dv S).2.i).text (Fw l Dv S).1 (Fw l Dv (At (Fw l Dv S).2)).1,(Fw l Dv (At (Fw l Dv S).2)).2):=if_neg (by rw [ht17];simp)
 refine Oi ?_;refine Cr Tryz.call233 (getset ho) (by simp) Dz (ADs l (Fw l Dv S).2 o _ (Aj (getset ho)) hq.lt hll) ?_;refine Z9 ?_;refine A2 [0,2,3,4] ?_;refine Fd [0,1,0,0,8,28,63,127] [4] [.q 4 [] [],.s [25] (some 0) [] [],.q 1 [0] []] (fun B=>Hp.set o (if B 0=true then pr l (Fw l Dv (At (Fw l Dv S).2)).2 else pr l (At (Fw l Dv S).2))) (fun _=>[.cells 27 [A3 0,Ac [],A3 0,A3 0,Ac [],.nil],.cells 27 (Ex (Fw l Dv S).1),.cells 118 [A3 (Af l (Fw l Dv S).2.i).kind,Ac (Af l (Fw l Dv S).2.i).text,A3 (Af l (Fw l Dv S).2.i).at_]]) An (by kernel_rfl) (by simp [C6]) rfl (fun B=>by simp) ?_
 apply Y.q
 ·intro B hT hF
  exact l4
 case hTF=>decide
 refine Og (r:=Aa (Fw l Dv (At (Fw l Dv S).2)).1) (o:=o) (x0:=pr l (At (Fw l Dv S).2)) (x:=pr l (Fw l Dv (At (Fw l Dv S).2)).2) Tryz.call282 (fun B hT hF hB=>⟨by simp only [hB];exact getset ho,by simp [upd],rfl,Dz,?_⟩) ?_
 ·simp only [hB]
  exact hc o _ (At (Fw l Dv S).2) (Aj (getset ho)) hi1 hq.nest
 apply Y.q
 ·intro B hT hF
  exact Z39
 case hTF=>decide
 refine Ej (tn:=[4]) (U:=Hp.set o (pr l (Fw l Dv (At (Fw l Dv S).2)).2)) ?_;refine Z28 ?_;refine Z4 ?_;exact A9 (Ao (B6 jA jS)) ⟨by rw [e,ux];simp only [Ap],by rw [e]⟩ (hlow:=by have:=Ak Hp.length (Ml (Af l (Fw l Dv S).2.i).text (Fw l Dv S).1 (Fw l Dv (At (Fw l Dv S).2)).1);rw [ux] at this;simp only [Ap] at this;simpa only [E1] using this)

/-- The contract of the parser of calls. -/
def mm (l:List Tok) (Dv:Fam) (n:Nat):Prop:=∀(o:Nat) (Hp:List AObj) (S:PS) (t:Tok),Hp[o]? = some (pr l S)→(At S).i<l.length→S.nest=n→t.text.length≤1048576→isM l opT S=true→ACall Tryz.prog 338 [.ptr o 0,Ix t] Hp (fun r H'=>r=Aa (Jt l Dv t S).1∧H'=Hp.set o (pr l (Jt l Dv t S).2))
theorem ADu:Aa Av=.agg [A3 0,Ac [],A3 0,A3 0,Ac [],.slice false 6 []]:=by rw [Ap];rfl
theorem ASk (l:List Tok) (S:PS) (Dv:Fam) (o:Nat) (Hp:List AObj) (ho:Hp[o]? = some (pr l S)) (hi:S.i<l.length) (hl:TokEnd l) (hll:l.length≤1048576) (hnl:S.nest≤30) (hd:DeepC l Dv S.nest) (hcl:mm l Dv S.nest):ACall Tryz.prog 331 [.ptr o 0] Hp (fun r H'=>r=Aa (I4 l Dv S).1∧H'=Hp.set o (pr l (I4 l Dv S).2)):=by
 refine Ae [.cell 2 27] [0] Tryz.func331 Tryz.ntmps331 (fun d=>?_)
 refine Z64 ?_;refine AKs ?_;refine ky ?_;refine Z79 ?_
 refine A5 (h:=Bd ho) (hr:=?_)
 refine A5 ?_;refine A2 [0,2,3,14] ?_
 refine A4 (fun ht14=>?_) (fun ht14=>?_)
 ·have e:I4 l Dv S=(Av,S):=if_pos ht14
  refine AKh ?_;refine R.wk 15 _ Tw ?_;refine Z40 ?_;refine Cz ?_;exact A9 (Ao (B6 jA jS)) ⟨by rw [e,Ap],by rw [e];exact (Cm ho).symm⟩ (hlow:=by have:=Ak Hp.length (Av);simpa only [Ap,E1] using this)
 have e0:¬(S.code != 0)=true:=by rw [ht14];simp
 refine Tg ?_;refine xu ?_;refine Ca Tryz.call232 (fun hB=>ml l S ALn o _ (Aj ho) hi hl (by decide)) ?_;refine Z0 ?_;refine A2 [0,2,3,16] ?_
 refine A4 (fun ht16=>?_) (fun ht16=>?_)
 ·have e:I4 l Dv S=(On (Ja (Af l S.i).text).1,At S):=by unfold I4;rw [if_neg e0,if_pos ht16]
  refine Z71 ?_;refine A5 ?_;refine A7 Tryz.call227 (ALd (Af l S.i).text (hl.text _) _) ?_;refine Rf ?_;refine A2 [2,4] ?_;refine Z2 ?_;refine A7 Tryz.call337 (APr (Ja (Af l S.i).text).1 _) ?_;refine Z40 ?_;refine Z5 ?_;exact A9 (Ao (B6 jA jS)) ⟨by rw [e,Ap],by rw [e]⟩ (hlow:=by have:=Ak Hp.length (On (Ja (Af l S.i).text).1);simpa only [Ap,E1] using this)
 have e1:¬(((Af l S.i).kind==3) || isM l ALn S)=true:=by rw [ht16];simp
 refine Z23 ?_;refine A2 [0,2,3,33] ?_
 refine A4 (fun ht33=>?_) (fun ht33=>?_)
 ·have e:I4 l Dv S=(On ⟨2,0,(Af l S.i).text.take 200⟩,At S):=by unfold I4;rw [if_neg e0,if_neg e1,if_pos ht33]
  refine Z71 ?_;refine A5 ?_;refine A7 Tryz.call275 (yh (Af l S.i).text _) ?_;refine A7 Tryz.call337 (APr ⟨2,0,(Af l S.i).text.take 200⟩ _) ?_;refine Z40 ?_;refine Z5 ?_;exact A9 (Ao (B6 jA jS)) ⟨by rw [e,Ap],by rw [e]⟩ (hlow:=by have:=Ak Hp.length (On ⟨2,0,(Af l S.i).text.take 200⟩);simpa only [Ap,E1] using this)
 have e2:¬((Af l S.i).kind==4)=true:=by rw [ht33];simp
 refine Z23 ?_;refine A2 [0,2,3,42] ?_
 refine A4 (fun ht42=>?_) (fun ht42=>?_)
 ·have hi1:(At S).i<l.length:=hl.step hi (by rw [beq_iff_eq] at ht42;rw [ht42];decide)
  refine Z71 ?_;refine A2 [0,2,3] ?_;refine Z33 ?_;refine A7 Tryz.call232 (ml l (At S) opT o _ (Aj (getset ho)) hi1 hl (by decide)) ?_;refine A2 [0,2,3,49] ?_
  refine A4 (fun ht49=>?_) (fun ht49=>?_)
  ·have e:I4 l Dv S=Jt l Dv (Af l S.i) (At S):=by unfold I4;rw [if_neg e0,if_neg e1,if_neg e2,if_pos ht42,if_pos ht49]
   have hi2:(At (At S)).i<l.length:=hl.stepIs hi1 ht49
   refine Z1 ?_;refine Cr Tryz.call338 (getset ho) (by simp) Dz (hcl o _ (At S) (Af l S.i) (Aj (getset ho)) hi2 rfl (hl.text _) ht49) ?_;refine Z40 ?_;refine Cz ?_;refine Z5 ?_;exact A9 (Ao (B6 jA jS)) ⟨by rw [e,Ap],by rw [e,C6]⟩ (hlow:=by have:=Ak Hp.length ((Jt l Dv (Af l S.i) (At S)).1);simpa only [Ap,E1] using this)
  have e:I4 l Dv S=(D6 (Af l S.i).text,At S):=by unfold I4;rw [if_neg e0,if_neg e1,if_neg e2,if_pos ht42,if_neg (by rw [ht49];simp)]
  refine Nc ?_;refine y6 ?_;refine R.wk 55 _ (ls _) ?_;refine Z40 ?_;refine Z5 ?_;exact A9 (Ao (B6 jA jS)) ⟨by rw [e,Ap],by rw [e]⟩ (hlow:=by have:=Ak Hp.length (D6 (Af l S.i).text);simpa only [Ap,E1] using this)
 have e3:¬((Af l S.i).kind==1)=true:=by rw [ht42];simp
 refine Z2 ?_;refine A7 Tryz.call232 (ml l S opT o _ (Aj ho) hi hl (by decide)) ?_;refine A5 ?_;refine A2 [0,2,3,56] ?_
 refine A4 (fun ht56=>?_) (fun ht56=>?_)
 ·have e:I4 l Dv S=((Da (Af l S.i).at_ Dv.ei (At S)).1,Gs l Gn (Da (Af l S.i).at_ Dv.ei (At S)).2):=by unfold I4;rw [if_neg e0,if_neg e1,if_neg e2,if_neg e3,if_pos ht56]
  have hi1:(At S).i<l.length:=hl.stepIs hi ht56
  have hwf:=Ll (S:=At S) (l:=l) (f:=Dv.ei) (Af l S.i).at_ hi1 (fun h=>(hd.ei h).1)
  refine Z71 ?_;refine A2 [0,2,3] ?_;refine Z23 ?_;refine J9 ?_;refine Cr Tryz.call257 (getset ho) (by simp) Dz (ADt Tryz.call154 l (At S) (Af l S.i).at_ Dv.ei o _ (Aj (getset ho)) hi1 hnl (fun h=>(hd.ei h).1) (fun h=>(hd.ei h).2)) ?_;refine Z9 ?_;refine A2 [0,2,6] ?_;refine Z2 ?_;refine Cr Tryz.call339 (getset (getset ho)) (by simp) Dz (APs l (Da (Af l S.i).at_ Dv.ei (At S)).2 Gn o _ (Aj (getset (getset ho))) hwf.lt hll) ?_;refine A2 [2,6] ?_;refine Z2 ?_;refine Z40 ?_;refine Z5 ?_;exact A9 (Ao (B6 jA jS)) ⟨by rw [e,Ap],by rw [e,C6,C6]⟩ (hlow:=by have:=Ak Hp.length ((Da (Af l S.i).at_ Dv.ei (At S)).1);simpa only [Ap,E1] using this)
 have e:I4 l Dv S=(Av,F8 8 (Af l S.i).at_ S):=by unfold I4;rw [if_neg e0,if_neg e1,if_neg e2,if_neg e3,if_neg (by rw [ht56];simp)]
 refine Z20 ?_;refine ANw ?_;refine Z40 ?_;exact A9 (Ao (B6 jA jS)) ⟨by rw [e,Ap],by rw [e]⟩ (hlow:=by have:=Ak Hp.length (Av);simpa only [Ap,E1] using this)

theorem AHr {l:List Tok} (hl:TokEnd l) (hll:l.length≤1048576) {d n:Nat} (h:n+(d+1)=31) (hp:n≠30→PC 154 l (Gt l d).ei (n+1)∧PC 234 l (Gt l d).no (n+1)∧PC 317 l (Gt l d).ne (n+1)):DeepC l (Gt l d) n:=by
 have g:n≠30→_:=fun h30=>Vh hl hll d (n+1) (by omega) (by omega)
 exact ⟨fun h=>⟨(g h).1,(hp h).1⟩,fun h=>⟨(g h).2.1,(hp h).2.1⟩,fun h=>⟨(g h).2.2,(hp h).2.2⟩⟩
/-- All functions of the parser. -/
theorem mn {l:List Tok} (hl:TokEnd l) (hll:l.length≤1048576) (hcl:∀n Dv,n≤30→DeepC l Dv n→mm l Dv n):∀(d n:Nat),n+d=31→n≤30→PC 154 l (Gt l d).ei n∧PC 234 l (Gt l d).no n∧PC 317 l (Gt l d).ne n
 | 0,n,h,hn=>by omega
 | d+1,n,h,hn=>by
  have hd:DeepC l (Gt l d) n:=AHr hl hll h (fun h30=>mn hl hll hcl d (n+1) (by omega) (by omega))
  have g1:Fp l n (Ze l (Gt l d)):=Vg hl hll (fun h=>(hd.ei h).1) (fun h=>(hd.ne h).1)
  have g2:Fp l n (uo l (Gt l d)):=Io hl g1
  have g3:Fp l n (Fw l (Gt l d)):=Io hl g2
  have g4:Fp l n (Hl l (Gt l d)):=Ru hl hll (fun h=>(hd.ei h).1) (fun h=>(hd.ne h).1)
  have g5:Fp l n (Zf l (Gt l d)):=dw hl hll (fun h=>(hd.ei h).1) (fun h=>(hd.ne h).1) (fun h=>(hd.no h).1)
  have g6:Fp l n (uq l (Gt l d)):=Io hl g5
  have p0:PC 331 l (I4 l (Gt l d)) n:=fun o Hp S ho hi hS=>by
   subst hS
   exact ASk l S (Gt l d) o Hp ho hi hl hll hn hd (hcl _ _ hn hd)
  have p1:PC 317 l (Ze l (Gt l d)) n:=fun o Hp S ho hi hS=>by
   subst hS
   exact ASh l S (Gt l d) o Hp ho hi hl hll hn hd p0
  have p2:PC 299 l (uo l (Gt l d)) n:=fun o Hp S ho hi hS=>by
   subst hS
   exact ASg l S (Ze l (Gt l d)) o Hp ho hi hl hll g1 p1
  have p3:PC 282 l (Fw l (Gt l d)) n:=fun o Hp S ho hi hS=>by
   subst hS
   exact ASf l S (uo l (Gt l d)) o Hp ho hi hl hll g2 p2
  have p4:PC 256 l (Hl l (Gt l d)) n:=fun o Hp S ho hi hS=>by
   subst hS
   exact ASj l S (Gt l d) o Hp ho hi hl hll hn hd g3 p3
  have p5:PC 234 l (Zf l (Gt l d)) n:=fun o Hp S ho hi hS=>by
   subst hS
   exact ASi l S (Gt l d) o Hp ho hi hl hll hn hd p4
  have p6:PC 199 l (uq l (Gt l d)) n:=fun o Hp S ho hi hS=>by
   subst hS
   exact ASe l S (Zf l (Gt l d)) o Hp ho hi hl hll g5 p5
  have p7:PC 154 l (jf l (Gt l d)) n:=fun o Hp S ho hi hS=>by
   subst hS
   exact ASd l S (uq l (Gt l d)) o Hp ho hi hl hll g6 p6
  exact ⟨p7,p5,p1⟩
theorem uz {n:Nat} {U F:Nat→List AObj} {H':List AObj} (h:Nq (fun _=>true) U F n H'):H'=U n:=by
 rcases h with ⟨_,h⟩|⟨j,_,_,h,_⟩
 ·exact h
 cases h
theorem z6 {α:Type} {l:List α} {k:Nat} {y:α} (h:l[k]? = some y):l.take (k+1)=l.take k++[y]:=by rw [List.take_add_one,h];rfl
theorem ADv {L:List (Int×Expr)} {k:Nat} {it:Int×Expr} (h:L[k]? = some it):Gf 0 (L.take (k+1))=if Gf 0 (L.take k)<it.1 then it.1 else Gf 0 (L.take k):=by
 have e:Gf 0 (L.take (k+1))=max (Gf 0 (L.take k)) it.1:=by
  unfold Gf
  rw [z6 h,oz]
  rfl
 rw [e]
 split<;>omega
theorem dx {n k:Nat} {o:Bool} {l:List Str}:Low n (.slice o k (l.map Ac)):=by simp [or_imp,forall_and]
theorem ASl (n:Nat) (e:Expr) (hok:okE n e) (hn:n≤1048576) (hs:sizeE e≤1048576) (Hp:List AObj):AFun Tryz.prog 155 [Aa e] Hp (A3 (depthE e:Nat)):=by
 refine Ae [.tmp 2] [0,4] Tryz.func155 Tryz.ntmps155 (fun d=>?_)
 refine Z1 ?_;refine A2 [1,4] ?_;refine bo ?_;refine A2 [1,3,4] ?_;refine Z43 ?_
 refine Jx (fun hlow=>?_)
 refine AKx ?_;refine A2 [3,4,6] ?_;refine K1 ?_
 refine L2 (m:=1) Tryz.call173 (fun FR as' bd' hFR has hbd=>?_)
 have hFRl:∀s,Low (Hp.length+3) (FR s):=by
  intro s
  rw [hFR]
  refine Lz ?_
  revert s
  repeat (first|exact Bb|refine Ba (by simp [oid,Ak]<;>try omega) ?_)
 have hOl:∀{k:Nat},∀x∈[AObj.cells 3 [A3 (Gf 0 ((C3 1 e).take k))],AObj.defs,AObj.loop LoopState.ready none FR 13 #[7,8] as' bd' (oid Hp.length 1)],ObjLow (Hp.length+3) x:=by
  intro k x hx
  simp only [B3,E5,or_false] at hx
  rcases hx with rfl|rfl|rfl
  ·intro y hy
   rw [B9.1 hy]
   first|exact dx|simp
  ·trivial
  exact ACg
 refine ⟨fun _ H'=>Nq (fun _=>true) (fun k=>Hp++[AObj.cells 3 [A3 (Gf 0 ((C3 1 e).take k))],AObj.defs,AObj.loop LoopState.ready none FR 13 #[7,8] as' bd' (oid Hp.length 1)]) (fun k=>Hp++[AObj.cells 3 [A3 (Gf 0 ((C3 1 e).take k))],AObj.defs,AObj.loop LoopState.ready none FR 13 #[7,8] as' bd' (oid Hp.length 1)]) (C3 1 e).length H',ALg (l:=oid Hp.length 2) (go:=fun _=>true) (U:=fun k=>Hp++[AObj.cells 3 [A3 (Gf 0 ((C3 1 e).take k))],AObj.defs,AObj.loop LoopState.ready none FR 13 #[7,8] as' bd' (oid Hp.length 1)]) (F:=fun k=>Hp++[AObj.cells 3 [A3 (Gf 0 ((C3 1 e).take k))],AObj.defs,AObj.loop LoopState.ready none FR 13 #[7,8] as' bd' (oid Hp.length 1)]) (n0:=Hp.length+3) ⟨fun k=>by simp,fun k=>by simp,fun k x hx=>?_,fun k x hx=>?_,by simp [oid],fun X k it hit hgo=>?_⟩ n hok hn,?_⟩
 ·exact ACh
 ·exact ACh
 ·have hklt:k<sizeE e:=by rw [←Hj 1 e];exact (Ad.1 hit).1
  generalize hV:(Hp++[AObj.cells 3 [A3 (Gf 0 ((C3 1 e).take k))],AObj.defs,AObj.loop LoopState.ready none FR 13 #[7,8] as' bd' (oid Hp.length 1)]++X)=V
  have hL:V[oid Hp.length 2]? = some (AObj.loop LoopState.ready none FR 13 #[7,8] as' bd' (oid Hp.length 1)):=by rw [←hV,Ax,Ar];rfl
  have hA0:V[oid Hp.length 0]? = some (AObj.cells 3 [A3 (Gf 0 ((C3 1 e).take k))]):=by rw [←hV,Ax,Ar];rfl
  refine J8 (pd:=none) (fr:=FR) (sz:=13) (ps:=#[7,8]) (df:=oid Hp.length 1) (asg:=as') (bd:=bd') hL rfl (by decide) (fun d=>?_)
  subst hFR has hbd
  refine Fo [3,7,8] ?_;refine Z50 ?_;refine A2 [3,4] ?_
  refine ⟨rfl,none,hL,?_⟩
  generalize hbz:(AObj.loop LoopState.busy _ _ _ _ _ _ _)=bz
  have hA:(V.set (oid Hp.length 2) bz)[oid Hp.length 0]? = some (AObj.cells 3 [A3 (Gf 0 ((C3 1 e).take k))]):=by rw [Bk (Bf (by decide))];exact hA0
  refine K1 ?_;refine Ih ?_
  refine A5 (h:=Bd hA) (hr:=?_)
  refine A5 ?_;refine R.maxI ?_
  refine Cx jS hA ?_ ?_
  ·simp
  refine Z91 ?_
  subst hbz
  refine ACi ?_
  refine ⟨rfl,?_⟩
  rw [if_pos rfl]
  subst hV
  simp only [Ax,Cp,Dh,D9,List.set_cons_succ,List.set_cons_zero]
  rw [ADv hit]
 intro r H' hq
 obtain rfl:=uz hq
 refine ⟨Hp,_,_,_,rfl,rfl,fun h=>h,?_,rfl,by simp,?_⟩
 ·intro o ho
  have:o=oid Hp.length 1:=by simpa using ho
  subst this
  rw [Ar]
  rfl
 refine Z13 ?_;refine Z1 ?_;refine Z4 ?_;exact A9 (Ao A8) ⟨by rw [Mp,Wh],rfl⟩

theorem ASm (n:Nat) (e:Expr) (hok:okE n e) (hn:n≤1048576) (hs:sizeE e≤1048576) (Hp:List AObj):AFun Tryz.prog 157 [Aa e] Hp (A3 (sizeE e:Nat)):=by
 refine Ae [.tmp 2] [0] Tryz.func157 Tryz.ntmps157 (fun d=>?_)
 refine Z92 ?_;refine bo ?_;refine A2 [1,3] ?_;refine Z43 ?_
 refine Jx (fun hlow=>?_)
 refine AKx ?_;refine A2 [3,5] ?_;refine K1 ?_
 refine L2 (m:=1) Tryz.call173 (fun FR as' bd' hFR has hbd=>?_)
 have hFRl:∀s,Low (Hp.length+3) (FR s):=by
  intro s
  rw [hFR]
  refine Lz ?_
  revert s
  repeat (first|exact Bb|refine Ba (by simp [oid,Ak]<;>try omega) ?_)
 have hOl:∀{k:Nat},∀x∈[AObj.cells 3 [A3 ((k:Nat))],AObj.defs,AObj.loop LoopState.ready none FR 11 #[6,7] as' bd' (oid Hp.length 1)],ObjLow (Hp.length+3) x:=by
  intro k x hx
  simp only [B3,E5,or_false] at hx
  rcases hx with rfl|rfl|rfl
  ·intro y hy
   rw [B9.1 hy]
   first|exact dx|simp
  ·trivial
  exact ACg
 refine ⟨fun _ H'=>Nq (fun _=>true) (fun k=>Hp++[AObj.cells 3 [A3 ((k:Nat))],AObj.defs,AObj.loop LoopState.ready none FR 11 #[6,7] as' bd' (oid Hp.length 1)]) (fun k=>Hp++[AObj.cells 3 [A3 ((k:Nat))],AObj.defs,AObj.loop LoopState.ready none FR 11 #[6,7] as' bd' (oid Hp.length 1)]) (C3 1 e).length H',ALg (l:=oid Hp.length 2) (go:=fun _=>true) (U:=fun k=>Hp++[AObj.cells 3 [A3 ((k:Nat))],AObj.defs,AObj.loop LoopState.ready none FR 11 #[6,7] as' bd' (oid Hp.length 1)]) (F:=fun k=>Hp++[AObj.cells 3 [A3 ((k:Nat))],AObj.defs,AObj.loop LoopState.ready none FR 11 #[6,7] as' bd' (oid Hp.length 1)]) (n0:=Hp.length+3) ⟨fun k=>by simp,fun k=>by simp,fun k x hx=>?_,fun k x hx=>?_,by simp [oid],fun X k it hit hgo=>?_⟩ n hok hn,?_⟩
 ·exact ACh
 ·exact ACh
 ·have hklt:k<sizeE e:=by rw [←Hj 1 e];exact (Ad.1 hit).1
  generalize hV:(Hp++[AObj.cells 3 [A3 ((k:Nat))],AObj.defs,AObj.loop LoopState.ready none FR 11 #[6,7] as' bd' (oid Hp.length 1)]++X)=V
  have hL:V[oid Hp.length 2]? = some (AObj.loop LoopState.ready none FR 11 #[6,7] as' bd' (oid Hp.length 1)):=by rw [←hV,Ax,Ar];rfl
  have hA0:V[oid Hp.length 0]? = some (AObj.cells 3 [A3 ((k:Nat))]):=by rw [←hV,Ax,Ar];rfl
  refine J8 (pd:=none) (fr:=FR) (sz:=11) (ps:=#[6,7]) (df:=oid Hp.length 1) (asg:=as') (bd:=bd') hL rfl (by decide) (fun d=>?_)
  subst hFR has hbd
  refine Fo [3,6,7] ?_;refine Oa ?_
  refine ⟨rfl,none,hL,?_⟩
  generalize hbz:(AObj.loop LoopState.busy _ _ _ _ _ _ _)=bz
  have hA:(V.set (oid Hp.length 2) bz)[oid Hp.length 0]? = some (AObj.cells 3 [A3 ((k:Nat))]):=by rw [Bk (Bf (by decide))];exact hA0
  refine K1 ?_;refine Ih ?_
  refine A5 (h:=Bd hA) (hr:=?_)
  refine A5 ?_
  refine Cx jS hA ?_ ?_
  ·simp
  refine Z91 ?_
  subst hbz
  refine ACi ?_
  refine ⟨rfl,?_⟩
  rw [if_pos rfl]
  subst hV
  simp only [Ax,Cp,Dh,D9,List.set_cons_succ,List.set_cons_zero]
  rfl
 intro r H' hq
 obtain rfl:=uz hq
 refine ⟨Hp,_,_,_,rfl,rfl,fun h=>h,?_,rfl,by simp,?_⟩
 ·intro o ho
  have:o=oid Hp.length 1:=by simpa using ho
  subst this
  rw [Ar]
  rfl
 refine Z13 ?_;refine Z1 ?_;refine Z4 ?_;exact A9 (Ao A8) ⟨by rw [Hj],rfl⟩

theorem Zk {l:List Tok} (hl:TokEnd l) (hll:l.length≤1048576) {i:Nat} (hi:i<l.length):Fact l ⟨i,0,0,0⟩ (atR l i):=(Vh hl hll 31 0 rfl (by decide)).1 ⟨i,0,0,0⟩ hi rfl
theorem ALp {l:List Tok} {i:Nat} (hi:i<l.length) (hl:TokEnd l) (hll:l.length≤1048576) (hcl:∀n Dv,n≤30→DeepC l Dv n→mm l Dv n) (o:Nat) (Hp:List AObj) (ho:Hp[o]? = some (pr l ⟨i,0,0,0⟩)):ACall Tryz.prog 154 [.ptr o 0] Hp (fun r H'=>r=Aa (atR l i).1∧H'=Hp.set o (pr l (atR l i).2)):=(mn hl hll hcl 31 0 rfl (by decide)).1 o Hp ⟨i,0,0,0⟩ ho hi rfl
theorem mo {l:List Tok} (hl:TokEnd l):(Af l (l.length-1)).kind=0:=by
 obtain ⟨L,z,rfl,hz,_⟩:=hl.split
 unfold Af
 simp [hz]
theorem APt (l:List Tok) (i:Nat) (hi:i<l.length) (hl:TokEnd l) (hll:l.length≤500000) (hcl:∀n Dv,n≤30→DeepC l Dv n→mm l Dv n) (Hp:List AObj):AFun Tryz.prog 120 [uc l,A3 (i:Int)] Hp (.tup [Aa (atM l i).1,A3 (atM l i).2.1,.agg [A3 (atM l i).2.2.1,A3 (atM l i).2.2.2]]):=by
 have hmap:(l.map Ix).length=l.length:=Ah ..
 have hll1:l.length≤1048576:=by omega
 have hq:=Zk hl hll1 hi
 have hlast:=mo hl
 have hpos:=hl.pos
 have hqlt:=hq.lt
 have hqs:=hq.sz
 have hok0:okE 1048576 (atR l i).1:=I1 (by have:=hq.lt;omega) hq.ok
 have hsz0:sizeE (atR l i).1≤1048576:=by have:=hq.sz;have:=hq.lt;omega
 refine Ae [.cell 4 27,.tmp 5,.cell 6 73] [0,1] Tryz.func120 Tryz.ntmps120 (fun d=>?_)
 refine l8 ?_;refine Rj ?_;refine A2 [0,1,4,6] ?_;refine Z29 ?_;refine Q5 ?_;refine Z86 ?_
 refine Cw (h:=Ag ((l.length-1)) (Ix (Af l (l.length-1))) (fun _=>Ng (by omega))) (hr:=?_)
 refine Z6 ?_;refine Z55 ?_;refine A2 [0,1,4,6,26] ?_
 refine A4 (fun ht26=>?_) (fun ht26=>?_)
 ·simp only [D7,decide_eq_true_eq,bne_iff_ne,ne_eq] at ht26
  rcases ht26 with (h|h)|h
  ·omega
  ·simp at h;omega
  exact absurd hlast h
 refine Nc ?_;refine Pv (places:=#[(0,1),(1,1),(2,1),(3,2)]) jU (fun w=>by simp) jZ ?_;refine R.box ?_;refine A5 ?_;refine A2 [0,1,4,6,7] ?_;refine Z2 ?_
 refine Ux (n:=2) (x:=pr l (atR l i).2) Tryz.call154 (ALp hi hl hll1 hcl (oid Hp.length 2) _ (by rw [Ar];rfl)) ?_
 refine Z9 ?_;refine A2 [0,1,4,6,7,8] ?_
 refine W.join ⟨81,A6 4 (.ptr (oid Hp.length 0) 0) (A6 6 (.ptr (oid Hp.length 1) 0) (A6 7 (.ptr (oid Hp.length 2) 0) (A6 8 (.ptr (oid Hp.length 3) 0) (fun _=>.any)))),Hp,[.cells 27 [A3 0,Ac [],A3 0,A3 0,Ac [],.nil],.cells 73 [A3 0,A3 0],pr l (atS l i (atR l i)),.cells 27 (Ex (atR l i).1)],[],none⟩ ?_ ?_
 ·refine K1 ?_;refine Z23 ?_;refine Z12 ?_;refine A2 [0,1,4,6,7,8,35] ?_
  refine A4 (fun ht35=>?_) (fun ht35=>?_)
  ·have e:atS l i (atR l i)=(atR l i).2:=if_pos ht35
   refine Fo [4,6,7,8] ?_;refine px ?_;exact AGh
  have e0:¬((atR l i).2.code != 0)=true:=by rw [ht35];simp
  refine Z2 ?_;refine A7 Tryz.call155 (ASl 1048576 _ hok0 (Al _) hsz0 _) ?_;refine Z0 ?_;refine A2 [0,1,4,6,7,8,42] ?_
  refine A4 (fun ht42=>?_) (fun ht42=>?_)
  ·have e:atS l i (atR l i)=F8 18 (Af l i).at_ (atR l i).2:=by unfold atS;rw [if_neg e0,if_pos ht42]
   refine Z49 ?_
   refine A5 (h:=Ag (i) (Ix (Af l i)) (fun _=>Ng hi)) (hr:=?_)
   refine Z0 ?_
   refine Ux (n:=2) (x:=pr l (F8 18 (Af l i).at_ (atR l i).2)) Tryz.call156 (z3 l (atR l i).2 18 (Af l i).at_ (oid Hp.length 2) _ (by rw [Ar];rfl)) ?_
   refine A2 [4,6,7,8] ?_;refine N9 ?_;exact AGh
  have e1:¬decide ((30:Int)<depthE (atR l i).1)=true:=by rw [ht42];simp
  refine Z2 ?_;refine A7 Tryz.call157 (ASm 1048576 _ hok0 (Al _) hsz0 _) ?_;refine Z0 ?_;refine A2 [0,1,4,6,7,8,53] ?_
  refine A4 (fun ht53=>?_) (fun ht53=>?_)
  ·have e:atS l i (atR l i)=F8 3 (Af l i).at_ (atR l i).2:=by unfold atS;rw [if_neg e0,if_neg e1,if_pos ht53]
   refine Z49 ?_
   refine A5 (h:=Ag (i) (Ix (Af l i)) (fun _=>Ng hi)) (hr:=?_)
   refine Z0 ?_
   refine Ux (n:=2) (x:=pr l (F8 3 (Af l i).at_ (atR l i).2)) Tryz.call156 (z3 l (atR l i).2 3 (Af l i).at_ (oid Hp.length 2) _ (by rw [Ar];rfl)) ?_
   refine A2 [4,6,7,8] ?_;refine N9 ?_;exact AGh
  have e:atS l i (atR l i)=(atR l i).2:=by unfold atS;rw [if_neg e0,if_neg e1,if_neg (by rw [ht53];simp)]
  refine Fo [4,6,7,8] ?_;refine px ?_;exact AGh
 refine Z7 ?_;refine Z68 ?_;refine A2 [4,6,7,8,69] ?_
 refine A4 (fun ht69=>?_) (fun ht69=>?_)
 ·have e:atM l i=(Av,0,(atS l i (atR l i)).code,(atS l i (atR l i)).at_):=if_pos ht69
  refine Fd [0,0,2,6,14,1,33,127] [5] [.q 5 [] [],.s [] (some 0) [] [],.q 1 [0] []] (fun _=>Hp) (fun _=>[.cells 27 [A3 0,Ac [],A3 0,A3 0,Ac [],.nil],.cells 73 [A3 0,A3 0],pr l (atS l i (atR l i)),.cells 27 (Ex (atR l i).1)]) An (by kernel_rfl) rfl rfl (fun _=>rfl) ?_
  apply Y.q
  ·intro B hT hF
   refine D.build (places:=#[(0,1),(1,1),(2,3),(5,1)]) jU (fun w=>by simp) jZ ?_;exact l4
  case hTF=>decide
  refine Y.storeOwn (u:=Hp.length) (n:=0) (t':=27) (cs:=[A3 0,Ac [],A3 0,A3 0,Ac [],.nil]) (cs':=[A3 0,Ac [],A3 0,A3 0,Ac [],.nil]) Tryz.sizeOf27 (fun B hB=>⟨rfl,rfl,rfl,rfl⟩) ?_
  apply Y.q
  ·intro B hT hF
   exact Z56
  case hTF=>decide
  refine Ej (tn:=[5])  ?_;refine Hg 0 5 6 ?_;refine Hh ?_;refine A2 [4,5,6] ?_;refine Z34 ?_;exact A9 (V.three (B6 jA jS) A8 (B6 jA jS)) ⟨by rw [e,ADu]<;>rfl,rfl⟩
 have e:atM l i=((atR l i).1,((atS l i (atR l i)).i:Int),0,0):=if_neg (by rw [ht69];simp)
 refine Z3 ?_;refine Fd [0,0,2,6,14,0,1,95,255] [6] [.q 6 [] [],.s [] (some 0) [] [],.q 1 [0] []] (fun _=>Hp) (fun B=>[.cells 27 (if B 0=true then Ex (atR l i).1 else [A3 0,Ac [],A3 0,A3 0,Ac [],.nil]),.cells 73 [A3 0,A3 0],pr l (atS l i (atR l i)),.cells 27 (Ex (atR l i).1)]) An (by kernel_rfl) rfl rfl (fun _=>rfl) ?_
 apply Y.q
 ·intro B hT hF
  refine Z8 ?_;refine Z35 ?_;exact ANl
 case hTF=>decide
 refine Y.storeOwn (u:=Hp.length) (n:=0) (t':=27) (cs:=[A3 0,Ac [],A3 0,A3 0,Ac [],.nil]) (cs':=Ex (atR l i).1) Tryz.sizeOf27 (fun B hB=>⟨rfl,by simp only [hB];rfl,by simp [upd],rfl⟩) ?_
 apply Y.q
 ·intro B hT hF
  exact Z56
 case hTF=>decide
 refine Ej (tn:=[6]) (O:=[.cells 27 (Ex (atR l i).1),.cells 73 [A3 0,A3 0],pr l (atS l i (atR l i)),.cells 27 (Ex (atR l i).1)]) ?_;refine Hh ?_;refine A2 [4,5,6] ?_;refine Fc ?_;exact A9 (V.three (B6 jA jS) A8 (B6 jA jS)) ⟨by rw [e,Ap]<;>rfl,rfl⟩ (hlow:=by have:=low_agg (n:=Hp.length) (atR l i).1;simp at this ⊢;exact this)

theorem v0 {s:Str} (h:(Bs s).2.1=0):(Bs s).1.length≤4002:=by
 obtain ⟨h1,_,h3⟩:=AHd h
 have h2:=Yn s
 rw [h3]
 simp only [Ai,Ah,B0,Bu]
 omega
theorem jh {l:List Tok} (hl:TokEnd l) (hll:l.length≤1048576) {i:Nat} (hi:i<l.length) (h:(atM l i).2.2.1=0):∃k:Nat,(atM l i).2.1=(k:Int)∧k<l.length:=by
 have hq:=Zk hl hll hi
 unfold atM at h ⊢
 split at h
 ·rename_i h1
  have:(atS l i (atR l i)).code=0:=h
  rw [this] at h1
  cases h1
 rename_i h1
 rw [if_neg h1]
 refine ⟨(atS l i (atR l i)).i,rfl,?_⟩
 have e:(atS l i (atR l i)).i=(atR l i).2.i:=by
  unfold atS
  repeat' split
  all_goals first|rfl|exact failM_i.1
 rw [e]
 exact hq.lt
theorem Rv {α:Type} {a b:List α} (hl:a.length=b.length) (h:∀(j:Nat) (y:α),j<a.length→a[j]? = some y→b[j]? = some y):a=b:=by
 apply ow hl
 intro j h1 h2
 have:=h j a[j] h1 (Ab h1)
 rw [Ab h2] at this
 injection this with this
 exact this.symm
theorem Dj {n k:Nat} {o:Bool} {l:List Expr}:Low n (.slice o k (l.map Aa)):=low_slice.2 fun y hy=>by
 obtain ⟨a,_,rfl⟩:=C2.1 hy
 exact Ak _ a
theorem z7 {l:List Expr} {n f:Nat} (h0:l.isEmpty=false) (h:Rt l n=true):I3 f l n=true:=by
 cases f with
 | zero=>rw [I3,h0];rfl
 | succ f=>rw [I3,if_neg (by rw [h0];simp),if_pos h]
theorem AHs {l:List Expr} {n y:Nat} (hy:y<l.length) (h:500<n+y+1∨Ve l[y]=true):Rt l n=true:=by
 unfold Rt
 rcases h with h|h
 ·rw [decide_eq_true (by omega)];rfl
 rw [Fy.2 ⟨_,Bl hy,h⟩,Lx]
theorem Zl {l:List Expr}:∀(y:Nat),y≤l.length→(∀(j:Nat) (e:Expr),j<y→l[j]? = some e→Ve e=false)→((l.take y).flatMap Expr.kids).length≤100*y
 | 0,_,_=>by simp
 | y+1,hy,h=>by
  rw [J4 hy,List.flatMap_append,Ai]
  have h1:=Zl y (by omega) (fun j e hj he=>h j e (by omega) he)
  have h2:=je (h y l[y] (by omega) (Ab _))
  simp only [gc,List.flatMap_nil,H4]
  omega
structure WideAt (l0:List Expr) (x:List Expr×Nat×Nat):Prop where
 eq:I3 61 l0 0=I3 x.2.2 x.1 x.2.1
 f:x.2.2≤61
 n:x.2.1≤500
theorem c73 (l0:List Expr) (Hp:List AObj):AFun Tryz.prog 73 [.slice false 6 (l0.map Aa),A3 0] Hp (B4 (I3 61 l0 0)):=by
 refine Ae [.tmp 4] [0,1] Tryz.func73 Tryz.ntmps73 (fun d=>?_)
 refine Z36 ?_;refine Z2 ?_;refine bt ?_;refine L0 ?_
 refine Bi (α:=List Expr×Nat×Nat) (fun x=>⟨67,A6 0 (.slice false 6 (x.1.map Aa)) (A6 1 (A3 (61-(x.2.2:Int))) (A6 5 (A3 (x.2.1:Nat)) (fun _=>.any))),Hp,[],[],none⟩) (fun x=>WideAt l0 x) (fun x=>x.2.2) ((l0,0,61)) ⟨rfl,Al _,Au _⟩ (Bo (by simp)) rfl (fun x hx=>?_)
 refine Z29 ?_;refine A2 [0,1,5,10] ?_
 refine A4 (fun ht10=>?_) (fun ht10=>?_)
 ·have hpos:0<x.1.length:=by simpa using ht10
  have hne:x.1.isEmpty=false:=by cases hxx:x.1 with
   | nil=>rw [hxx] at hpos;simp at hpos
   | cons a r=>rfl
  have hxf:=hx.f
  refine ACd ?_;refine Z41 ?_;refine Oj ?_;refine A2 [0,1,5,6] ?_;refine Z33 ?_;refine A2 [0,1,5,6,7] ?_
  refine Bi (α:=Nat) (fun y=>⟨67,A6 0 (.slice false 6 (x.1.map Aa)) (A6 1 (A3 (61-(x.2.2:Int))) (A6 5 (A3 ((x.2.1+y:Nat):Int)) (A6 6 (.slice true 6 (((x.1.take y).flatMap Expr.kids).map Aa)) (A6 7 (A3 (y:Nat)) (fun _=>.any))))),Hp,[],[],none⟩) (fun y=>y≤x.1.length∧x.2.1+y≤500∧∀(j:Nat) (e:Expr),j<y→x.1[j]? = some e→Ve e=false) (fun y=>x.1.length-y) (0) ⟨Au _,hx.n,fun j e h=>by omega⟩ (Bo (by simp)) rfl (fun y hy=>?_)
  refine Z79 ?_;refine A2 [0,1,5,6,7,15] ?_
  refine A4 (fun ht15=>?_) (fun ht15=>?_)
  ·have hlt:y<x.1.length:=by simpa using ht15
   have hyn:=hy.2.1
   refine xq ?_;refine A2 [0,1,5,6,7] ?_;refine Z29 ?_;refine Z6 ?_
   refine Cw (h:=Ag (y) (Aa x.1[y]) (fun _=>B7 hlt)) (hr:=?_)
   refine Q5 ?_;refine Z38 ?_
   refine Cw (h:=Ag (y) (Aa x.1[y]) (fun _=>B7 hlt)) (hr:=?_)
   refine Z6 ?_;refine Z77 ?_;refine Z38 ?_
   refine Cw (h:=Ag (y) (Aa x.1[y]) (fun _=>B7 hlt)) (hr:=?_)
   refine Q5 ?_;refine A5 ?_;refine A2 [0,1,5,6,7,49] ?_
   refine A4 (fun ht49=>?_) (fun ht49=>?_)
   ·have hm:Rt x.1 x.2.1=true:=AHs hlt (by
     simp only [D7,decide_eq_true_eq,Ah] at ht49
     unfold Ve
     simp only [D7,decide_eq_true_eq]
     omega)
    have hw:=z7 (f:=x.2.2) hne hm
    refine Z44 ?_;refine Cz ?_;refine Z48 ?_;refine xl ?_;exact ANx
   have hfat:Ve x.1[y]=false∧x.2.1+y+1≤500:=by
    simp only [Ei,decide_eq_false_iff_not,Ah] at ht49
    unfold Ve
    simp only [Ei,decide_eq_false_iff_not]
    omega
   have hkl:=(je hfat.1).2.2
   have hfm:(x.1.take (y+1)).flatMap Expr.kids=(x.1.take y).flatMap Expr.kids++x.1[y].kids:=by rw [J4 hlt,List.flatMap_append];simp
   refine Z3 ?_;refine bi ?_;refine Z0 ?_
   refine A5 (h:=Ag (y) (Aa x.1[y]) (fun _=>B7 hlt)) (hr:=?_)
   refine Z0 ?_
   refine E6 jU Tryz.type27 ?_ ?_ ?_
   ·have h1:=Zl y hy.1 hy.2.2;have h2:=hkl;have h3:=hy.2.1;simp only [Ah,Tryz.t27];omega
   ·have h1:=Zl y hy.1 hy.2.2;have h2:=hkl;have h3:=hy.2.1;simp only [Ah,Tryz.t27];omega
   refine Oj ?_;refine A2 [0,1,5,6,7] ?_;refine Z13 ?_;refine Z49 ?_;refine A2 [0,1,5,6,7] ?_
   refine Bt (y+1) ⟨hlt,by omega,Di hlt hy.2.2 hfat.1⟩ (by omega) (Dx ?_)
   rw [hfm,Bj]
   rfl
  have hye:x.1.take y=x.1:=E9 (by simp at ht15;omega)
  have hyl:y=x.1.length:=by have:=hy.1;simp at ht15;omega
  have hmany:Rt x.1 x.2.1=false:=by
   unfold Rt
   rw [decide_eq_false (by have:=hy.2.1;omega),Fb,Iz]
   intro e he
   obtain ⟨j,hj⟩:=Cb he
   rw [hy.2.2 j e (by have:=(Ad.1 hj).1;omega) hj]
   simp
  refine Th ?_;refine Z7 ?_;refine Z38 ?_;refine A5 ?_;refine A2 [1,5,6,63] ?_
  refine A4 (fun ht63=>?_) (fun ht63=>?_)
  ·have hw:I3 x.2.2 x.1 x.2.1=true:=by
    have h9:=ht63
    rw [hye] at h9
    simp only [D7,decide_eq_true_eq,Ah] at h9
    cases hf:x.2.2 with
    | zero=>rw [I3,hne];rfl
    | succ f =>
     rw [I3,if_neg (by rw [hne];simp),if_neg (by rw [hmany];simp),if_pos (by rw [decide_eq_true_eq];omega)]
   refine Z44 ?_;refine Cz ?_;refine xl ?_;exact ANx
  have h9:=ht63
  rw [hye] at h9
  simp only [Ei,decide_eq_false_iff_not,Ah] at h9
  obtain ⟨f,hf⟩:∃f,x.2.2=f+1:=⟨x.2.2-1,by omega⟩
  have hw:I3 x.2.2 x.1 x.2.1=I3 f (x.1.flatMap Expr.kids) (x.2.1+x.1.length):=by
   rw [hf,I3,if_neg (by rw [hne];simp),if_neg (by rw [hmany];simp),if_neg (by rw [decide_eq_true_eq];omega)]
  refine Nc ?_;refine bt ?_;refine Z49 ?_;refine bt ?_;refine N9 ?_
  refine Bt (x.1.flatMap Expr.kids,x.2.1+x.1.length,f) ⟨hx.eq.trans hw,by show f≤61;omega,by show x.2.1+x.1.length≤500;have:=hy.2.1;omega⟩ (by show f<x.2.2;omega) (Dx ?_)
  rw [hye,hyl]
  congr 4
  simp only [AV.v.injEq,Value.int.injEq,true_and]
  omega
 have hnil:x.1=[]:=by have:=ht10;simp at this;exact this
 refine Th ?_;refine Z44 ?_;exact A9 (Ao A8) ⟨by rw [hx.eq,hnil];cases x.2.2<;>rfl,rfl⟩

theorem c31 (e:Expr) (Hp:List AObj):AFun Tryz.prog 31 [Aa e] Hp (B4 (Qf e)):=by
 refine Ae [.tmp 2] [0] Tryz.func31 Tryz.ntmps31 (fun d=>?_)
 refine Z92 ?_;refine Z2 ?_;refine Ti ?_;refine A7 Tryz.call73 (c73 [e] _) ?_;refine A5 ?_;exact AGk

set_option maxRecDepth 8000
/-! What a tree comes to: eval's model. -/
abbrev Rs:=Val×Int
def Dr (e:Int):Rs:=(noV,e)
def cg (s:Str):Val:=⟨2,0,s.take 200⟩
def Ip (x:Int×Int):Rs:=if x.2 != 0 then Dr x.2 else (⟨1,x.1,[]⟩,0)
def rq (a b:Int):Int×Int:=if decide (cw .i64 (W5 .i64 a (IntKind.i64.wrap (a+b))) (W5 .i64 b (IntKind.i64.wrap (a+b)))<0) then (0,4) else (IntKind.i64.wrap (a+b),0)
def Oq (a b:Int):Int×Int:=if decide (cw .i64 (W5 .i64 a b) (W5 .i64 a (IntKind.i64.wrap (a-b)))<0) then (0,4) else (IntKind.i64.wrap (a-b),0)
def Wl (a:Int):Int:=if decide (a<0) then IntKind.u64.wrap (0-IntKind.u64.wrap a) else IntKind.u64.wrap a
def E0:List Val→List Int→Bool
 | _,[]=>true
 | [],_::_=>false
 | v::vs,k::ks=>(v.kind==k)&&E0 vs ks
def Qi (a b:Val):Rs:=if !E0 [a,b] [2,2] then Dr 10 else if decide ((200:Int)<(a.s.length:Int)+(b.s.length:Int)) then Dr 3 else (cg (a.s++b.s),0)
def Be (r:Rs):Rs:=if (r.2==0)&&(r.1.kind != 0)&&(r.1.kind != 3) then Dr 10 else r
def Jf (strong:Val) (a b:Rs):Rs:=if ((Be a).2 != 0) || ((Be a).1==strong) then Be a else if (((Be b).2 != 0) || ((Be b).1==strong)) || ((Be a).1.kind != 0) then Be b else ((Be a).1,0)
def ifW:Str:=[105,102]
def Vk:Str:=[110,118,108]
def Ch:Str:=[105,115,110,117,108,108]
def Fk (t:Str) (a b c:Rs):Rs:=
 if t==ifW then (if (Be a).2 != 0 then Dr (Be a).2 else if (Be a).1==Jr true then b else c)
 else if a.2 != 0 then Dr a.2 else if t==Ch then (Jr (a.1.kind==0),0) else if a.1.kind != 0 then (a.1,0) else b
def Ni (strict:List Val→Rs) (l:List Rs):Rs:=match l.find? (fun q=>q.2 != 0) with|some q=>Dr q.2|none=>if l.any (fun q=>q.1.kind==0) then (noV,0) else strict (l.map (·.1))
def Qj (c:List Col) (l:List Val) (t:Str):Rs:=if Ay t c<0 then Dr 9 else (l.getD (Ay t c).toNat noV,0)
def orW:Str:=[111,114]
def ji:Str:=[97,110,100]
/-- A node, of what its kids come to; what a strict node comes to is a parameter. -/
def Ks (strict:Int→Str→List Val→Rs) (c:List Col) (l:List Val) (o:Int) (t:Str) (v:Val) (ks:List Rs):Rs:=
 if o==1 then (v,0) else if o==2 then Qj c l t
 else if (o==5)&&(t==orW) then Jf (Jr true) (ks.getD 0 (noV,0)) (ks.getD 1 (noV,0))
 else if (o==5)&&(t==ji) then Jf (Jr false) (ks.getD 0 (noV,0)) (ks.getD 1 (noV,0))
 else if (o==6)&&(((t==ifW) || (t==Vk)) || (t==Ch)) then Fk t (ks.getD 0 (noV,0)) (ks.getD 1 (noV,0)) (ks.getD 2 (noV,0))
 else Ni (strict o t) ks
mutual
def Fz (strict:Int→Str→List Val→Rs) (c:List Col) (l:List Val):Expr→Rs
 | .mk o t v k=>Ks strict c l o t v (dy strict c l k)
def dy (strict:Int→Str→List Val→Rs) (c:List Col) (l:List Val):List Expr→List Rs
  | []=>[]
  | e::r=>Fz strict c l e::dy strict c l r
 end
theorem Lu (f:Int→Str→List Val→Rs) (c:List Col) (l:List Val):∀k,dy f c l k=k.map (Fz f c l)
 | []=>rfl
 | e::r=>by rw [dy,Lu f c l r];rfl
theorem Nu (f:Int→Str→List Val→Rs) (c:List Col) (l:List Val) (e:Expr):Fz f c l e=Ks f c l e.op e.text e.val (e.kids.map (Fz f c l)):=by cases e;rw [Fz,Lu];rfl
def Ew (c:List Col) (l:List Val):Bool:=(Jb c&&(l.length==c.length))&&(l.zip c).all fun p=>Er p.1&&((p.1.kind==0) || (p.1.kind==p.2.kind))
/-- eval.Eval. -/
def Tx (f:Int→Str→List Val→Rs) (x:Expr) (c:List Col) (l:List Val):Rs:=if (!(Az x)) || !(Ew c l) then Dr 1 else Fz f c l x
/-! A tree in a column's place comes to what its value would there. -/
/-! Who is not named plays no part. -/
/-! What a strict node comes to. -/
def Zm (a b:Int):Int×Int:=
 let p:=Wl a*Wl b
 let below:=decide (a<0) != decide (b<0)
 if decide (0<p / 18446744073709551616) || decide ((if below then 9223372036854775808 else 9223372036854775807)<p % 18446744073709551616) then (0,4)
 else if below then (IntKind.i64.wrap (IntKind.u64.wrap (0-p % 18446744073709551616)),0) else (IntKind.i64.wrap (p % 18446744073709551616),0)
def rr (a b:Int):Int×Int:=if b==0 then (0,5) else if (a == -9223372036854775808)&&(b == -1) then (0,4) else (IntKind.i64.wrap (a.tdiv b),0)
def cj (a b:Int):Int×Int:=if b==0 then (0,5) else if b == -1 then (0,0) else (IntKind.i64.wrap (a.tmod b),0)
def K7 (t:Str) (a b:Int):Int×Int:=if t==[43] then rq a b else if t==[45] then Oq a b else if t==[42] then Zm a b else if t==[47] then rr a b else cj a b
def Is (t:Str) (c:Int):Bool×Bool:=if t==[61] then (c==0,true) else if t==[33,61] then (c != 0,true) else if t==[60] then (decide (c<0),true) else if t==[60,61] then (decide (c≤0),true) else if t==[62] then (decide (0<c),true) else if t==[62,61] then (decide (0≤c),true) else (false,false)
def Pe (a b:Int):Int:=if decide (a<b) then -1 else if decide (b<a) then 1 else 0
def orI:List Int→Int
 | []=>0
 | a::r=>if a != 0 then a else orI r
def mp (a b:Val):Int:=if (!(Er a)) || !(Er b) then 0 else orI [Pe a.kind b.kind,Pe a.n b.n,Lib.compareBytes a.s b.s]
def Nv (t:Str) (a b:Val):Rs:=if (Is t (mp a b)).2 then (if a.kind != b.kind then Dr 10 else (Jr (Is t (mp a b)).1,0)) else if t==[38] then Qi a b else if !E0 [a,b] [1,1] then Dr 10 else Ip (K7 t a.n b.n)
def Ju (t:Str) (v:Val):Rs:=if (t==[115,116,114])&&(v.kind==1) then (cg (Lib.itoa v.n),0) else if (t==[108,101,110])&&(v.kind==2) then (⟨1,v.s.length,[]⟩,0) else if (t==[110,117,109])&&(v.kind==2) then Ip (D3 v.s) else Dr 10
def Qk (t:Str) (s:Str) (n:Int):Val:=if t==[108,101,102,116] then cg (s.take (max 0 (min n s.length)).toNat) else cg (s.drop (s.length-(max 0 (min n s.length)).toNat))
def B8 (o:Int) (t:Str) (l:List Val):Rs:=
 if o==5 then Nv t (l.getD 0 noV) (l.getD 1 noV) else if (o==3)&&E0 l [1] then Ip (Oq 0 (l.getD 0 noV).n) else if (o==4)&&E0 l [3] then (Jr ((l.getD 0 noV).n==0),0)
 else if o != 6 then Dr 10 else if (l.length:Int)==1 then Ju t (l.getD 0 noV) else if !E0 l [2,1] then Dr 10 else (Qk t (l.getD 0 noV).s (l.getD 1 noV).n,0)
abbrev C9 (c:List Col) (l:List Val) (e:Expr):Rs:=Fz B8 c l e
abbrev Bx (x:Expr) (c:List Col) (l:List Val):Rs:=Tx B8 x c l
/-! Values are plain, and their numbers have 64 bits. -/
structure Fine (v:Val):Prop where
 plain:Er v=true
 lo : -9223372036854775808≤v.n
 hi:v.n≤9223372036854775807
theorem Mx:Fine noV:=⟨rfl,by decide,by decide⟩
theorem Vl (b:Bool):Fine (Jr b):=by cases b<;>exact ⟨rfl,by decide,by decide⟩
theorem mq {n:Int} (h0 : -9223372036854775808≤n) (h1:n≤9223372036854775807):Fine ⟨1,n,[]⟩:=⟨rfl,h0,h1⟩
theorem Zn (s:Str):Fine (cg s):=⟨by
 unfold Er cg
 simp only [show ((2:Int)==0)=false from rfl,show ((2:Int)==1)=false from rfl,show ((2:Int)==2)=true from rfl,Bg,if_false,if_true,show ((0:Int)==0)=true from rfl,S4,decide_eq_true_eq,C1]
 omega,by show -9223372036854775808≤(0:Int);decide,by show (0:Int)≤9223372036854775807;decide⟩
theorem Fine.len {v:Val} (h:Fine v):v.s.length≤200:=by
 have h:=h.plain
 unfold Er at h
 split at h
 ·simp only [As,beq_iff_eq] at h;rw [h.2];exact Au _
 split at h
 ·rw [beq_iff_eq] at h;rw [h];exact Au _
 split at h
 ·simp only [As,decide_eq_true_eq] at h;omega
 simp only [As,beq_iff_eq] at h;rw [h.1.1.2];exact Au _
theorem Sn {x:Int×Int} (h0:x.2=0 → -9223372036854775808≤x.1) (h1:x.2=0→x.1≤9223372036854775807):Fine (Ip x).1:=by
 unfold Ip
 split
 ·exact Mx
 rename_i h
 have h:x.2=0:=by simpa using h
 exact mq (h0 h) (h1 h)
theorem Zo (e:Int):Fine (Dr e).1:=Mx
theorem Ot (n:Int) : -9223372036854775808≤IntKind.i64.wrap n∧IntKind.i64.wrap n≤9223372036854775807:=by rw [IntKind.wrap_i64];omega
theorem ADw (a b:Int):Fine (Ip (Oq a b)).1:=by
 refine Sn (fun _=>?_) (fun _=>?_)<;>unfold Oq<;>split
 ·show -9223372036854775808≤(0:Int);decide
 ·exact (Ot _).1
 ·show (0:Int)≤9223372036854775807;decide
 exact (Ot _).2
theorem mr (t:Str) (a b:Int) : -9223372036854775808≤(K7 t a b).1∧(K7 t a b).1≤9223372036854775807:=by
 have z : -9223372036854775808≤(0:Int)∧(0:Int)≤9223372036854775807:=by decide
 unfold K7
 split
 ·unfold rq;split;exact z;exact Ot _
 split
 ·unfold Oq;split;exact z;exact Ot _
 split
 ·unfold Zm
  simp only
  repeat' split
  all_goals first|exact z|exact Ot _
 split
 ·unfold rr;split;exact z;split;exact z;exact Ot _
 unfold cj;split;exact z;split;exact z;exact Ot _
theorem ADx {t:Str} {a b:Val}:Fine (Nv t a b).1:=by
 unfold Nv
 split
 ·split
  ·exact bu
  exact Vl _
 split
 ·unfold Qi
  split
  ·exact bu
  split
  ·exact bu
  exact Zn _
 split
 ·exact bu
 exact Sn (fun _=>(mr _ _ _).1) (fun _=>(mr _ _ _).2)
theorem ADy (s:Str) : -9223372036854775808≤(D3 s).1∧(D3 s).1≤9223372036854775807:=by
 unfold D3
 split
 ·decide
 split
 ·rename_i v h
  have:=Lib.parseIntB_bounds h
  simp only [show ((2 ^ (64-1):Nat):Int)=9223372036854775808 by decide] at this
  show -9223372036854775808≤v∧v≤9223372036854775807
  omega
 ·decide
 decide
theorem ADz {t:Str} {v:Val} (h:Fine v):Fine (Ju t v).1:=by
 unfold Ju
 split
 ·exact Zn _
 split
 ·have:=h.len
  exact mq (by omega) (by omega)
 split
 ·exact Sn (fun _=>(ADy _).1) (fun _=>(ADy _).2)
 exact bu
theorem mt {o:Int} {t:Str} {l:List Val} (h:∀v∈l,Fine v):Fine (B8 o t l).1:=by
 have h0:Fine (l.getD 0 noV):=by cases l with|nil=>exact Mx|cons a r=>exact h a G5
 unfold B8
 split
 ·exact ADx
 split
 ·exact ADw _ _
 split
 ·exact Vl _
 split
 ·exact bu
 split
 ·exact ADz h0
 split
 ·exact bu
 unfold Qk
 split<;>exact Zn _
theorem So {r:Rs} (h:Fine r.1):Fine (Be r).1:=by
 unfold Be
 split
 ·exact bu
 exact h
theorem Zp {s:Val} {a b:Rs} (ha:Fine a.1) (hb:Fine b.1):Fine (Jf s a b).1:=by
 unfold Jf
 split
 ·exact So ha
 split
 ·exact So hb
 exact So ha
theorem z8 {t:Str} {a b c:Rs} (ha:Fine a.1) (hb:Fine b.1) (hc:Fine c.1):Fine (Fk t a b c).1:=by
 unfold Fk
 repeat' split
 all_goals first|exact Zo _|exact hb|exact hc|exact ha|exact Vl _
theorem AE0 {f:List Val→Rs} {l:List Rs} (hf:∀k:List Val,(∀v∈k,Fine v)→Fine (f k).1) (h:∀r∈l,Fine r.1):Fine (Ni f l).1:=by
 unfold Ni
 split
 ·exact bu
 split
 ·exact Mx
 refine hf _ fun v hv=>?_
 obtain ⟨r,hr,rfl⟩:=C2.1 hv
 exact h r hr
theorem z9 {c:List Col} {l:List Val} (h:∀v∈l,Fine v) (t:Str):Fine (Qj c l t).1:=by
 unfold Qj
 split
 ·exact bu
 show Fine (l.getD _ noV)
 rw [Bv]
 cases hg:l[(Ay t c).toNat]? with
 | none=>exact Mx
 | some v=>exact h v (Aw hg)
def Nw (e:Expr):Bool := !(e.op==1) || Er e.val
theorem K8 {k:List Rs} (h:∀r∈k,Fine r.1) (i:Nat):Fine (k.getD i (noV,0)).1:=by
 rw [Bv]
 cases hg:k[i]? with
 | none=>exact Mx
 | some r=>exact h r (Aw hg)
mutual
theorem Vm {c:List Col} {l:List Val} (h:∀v∈l,Fine v):∀e:Expr,Dy Nw e=true→Dy Ge e=true→Fine (C9 c l e).1
 | .mk o t v k,h1,h2=>by
  rw [Dy,As] at h1 h2
  have hk:=Zq (c:=c) h k h1.2 h2.2
  rw [C9,Fz]
  unfold Ks
  split
  ·rename_i ho
   have p:=h1.1
   unfold Nw at p
   rw [show (Expr.mk o t v k).op=o from rfl,ho] at p
   have q:=h2.1
   unfold Ge at q
   simp only [As,decide_eq_true_eq] at q
   exact ⟨by show Er (Expr.mk o t v k).val=true;simpa using p,q.1,q.2⟩
  split
  ·exact z9 h t
  split
  ·exact Zp (K8 hk 0) (K8 hk 1)
  split
  ·exact Zp (K8 hk 0) (K8 hk 1)
  split
  ·exact z8 (K8 hk 0) (K8 hk 1) (K8 hk 2)
  exact AE0 (fun _ hl=>mt hl) hk
theorem Zq {c:List Col} {l:List Val} (h:∀v∈l,Fine v):∀k:List Expr,Nr Nw k=true→Nr Ge k=true→∀r∈dy B8 c l k,Fine r.1
  | [],_,_=>fun r hr=>by cases hr
  | e::k,h1,h2=>by
    rw [Nr,As] at h1 h2
    intro r hr
    rw [dy] at hr
    rcases B3.1 hr with rfl|hr
    · exact Vm h e h1.1 h2.1
    exact Zq h k h1.2 h2.2 r hr
 end
/-! A text between marks. -/
theorem mu {x:Expr} {c:List Col} (h:(Gb x c).2=0):Az x=true∧Jq c=true∧Gb x c=Bh c x:=by
 unfold Gb at h ⊢
 split at h
 ·cases h
 rename_i h1
 rw [if_neg h1]
 simp only [D7,Iy,not_or,Uo] at h1
 exact ⟨h1.1,by rw [←Mw];exact h1.2,rfl⟩
set_option maxRecDepth 4000
theorem AE1 {a b:List Expr} (hl:a.length=b.length) (h:∀(j:Nat) (y z:Expr),j<a.length→a[j]? = some y→b[j]? = some z→eqE y z=true):eqL a b=true:=by
 rw [Tp]
 refine Rv hl fun j y hj hy=>?_
 have hjb:j<b.length:=by omega
 have:=h j y b[j] hj hy (Ab hjb)
 rw [Ab hjb,(Xd _ _).1 this]
theorem ALq {a b:List Expr} (h:eqL a b=true) {j:Nat} (hj:j<a.length) (hb:j<b.length):eqE a[j] b[j]=true:=by
 have e:=(Tp _ _).1 h
 subst e
 exact ADc _
theorem ALr {a b:List Expr} {j:Nat} (hj:j<a.length) (hb:j<b.length) (h:eqE a[j] b[j]=false):eqL a b=false:=by
 rw [Ky]
 intro h2
 rw [ALq h2 hj hb] at h
 cases h
theorem AHt {a b:List Expr} (h:a.length≠b.length):eqL a b=false:=by
 rw [Ky]
 exact fun h2=>h (AHc h2)
theorem APu {a b:List Expr} {x:Nat} (hx:x<a.length) (hb:x<b.length) (h:∀(j:Nat) (y z:Expr),j<x→a[j]? = some y→b[j]? = some z→eqE y z=true) (he:eqE a[x] b[x]=true):∀(j:Nat) (y z:Expr),j<x+1→a[j]? = some y→b[j]? = some z→eqE y z=true:=by
 intro j y z hj h1 h2
 rcases Bw j x with h3|h3
 ·exact h j y z h3 h1 h2
 have:j=x:=by omega
 subst this
 rw [Ab hx] at h1
 rw [Ab hb] at h2
 injection h1 with h1
 injection h2 with h2
 rw [←h1,←h2]
 exact he
theorem ASn (n:Nat) (a b:List Expr) (ha:a.length≤1048576) (hok:∀y∈a,okE n y) (ih:∀(x:Expr),okE n x→∀(y:Expr) (Hp:List AObj),AFun Tryz.prog 109 [Aa x,Aa y] Hp (B4 (eqE x y))) (Hp:List AObj):AFun Tryz.prog 145 [.slice false 6 (a.map Aa),.slice false 6 (b.map Aa),.fn (.func 109) [] []] Hp (B4 (eqL a b)):=by
 refine Ae [.tmp 6] [0,1,2] Tryz.func145 Tryz.ntmps145 (fun d=>?_)
 refine Z2 ?_;refine Y8 ?_;refine br ?_;refine A2 [0,1,2,14] ?_
 refine A4 (fun ht14=>?_) (fun ht14=>?_)
 ·have hf:eqL a b=false:=AHt (by have:=ht14;simp at this;omega)
  refine Z2 ?_;refine pw ?_;exact A9 (Ao A8) ⟨by rw [hf],rfl⟩
 have hlen:a.length=b.length:=by have:=ht14;simp at this;omega
 refine ir ?_;refine A2 [1,2,15,16,17] ?_
 refine Bi (α:=Nat) (fun i=>⟨32,A6 1 (.slice false 6 (b.map Aa)) (A6 2 (.fn (.func 109) [] []) (A6 15 (.slice false 6 (a.map Aa)) (A6 16 (A3 (a.length:Nat)) (A6 17 (A3 (i:Nat)) (fun _=>.any))))),Hp,[],[],none⟩) (fun i=>i≤a.length∧∀(j:Nat) (y z:Expr),j<i→a[j]? = some y→b[j]? = some z→eqE y z=true) (fun i=>a.length-i) (0) ⟨Au _,fun j y z h=>by omega⟩ (Bo (by simp)) rfl (fun i hi=>?_)
 refine Z2 ?_;refine A2 [1,2,15,16,17,18] ?_
 refine Ck (fun ht18=>?_) (fun ht18=>?_)
 ·have hlt:i<a.length:=by simpa using ht18
  have hlb:i<b.length:=by omega
  refine Rh ?_
  refine A5 (h:=Ag (i) (Aa a[i]) (fun _=>B7 hlt)) (hr:=?_)
  refine l7 ?_;refine A2 [1,2,7,8,15,16,17] ?_;refine Z1 ?_
  refine A5 (h:=Ag (i) (Aa b[i]) (fun _=>B7 hlb)) (hr:=?_)
  refine Z99 ?_;refine A2 [1,2,8,9,15,16,17] ?_;refine Z15 ?_;refine Od Tryz.call109 (ih a[i] (hok _ (Bl hlt)) b[i] _) ?_;refine A5 ?_;refine A2 [1,2,15,16,17,30] ?_
  refine A4 (fun ht30=>?_) (fun ht30=>?_)
  ·have hf:eqL a b=false:=ALr hlt hlb (by simpa using ht30)
   refine Z2 ?_;refine Z75 ?_;refine Z48 ?_;exact A9 (Ao A8) ⟨by rw [hf],rfl⟩
  have he:eqE a[i] b[i]=true:=by simpa using ht30
  refine Z70 ?_;refine A2 [1,2,15,16,17] ?_;refine Bt (i+1) ⟨hlt,APu hlt hlb hi.2 he⟩ (by omega) ?_
  exact D0 (own:=[]) (fun _=>.refl _) (by repeat (first|exact Bb|refine Ba (by first|exact Dj|(simp;done)) ?_)) (by simp) (by simp)
 have hxe:a.length≤i:=by simpa using ht18
 refine qc ?_;refine Z75 ?_;exact A9 (Ao A8) ⟨by rw [AE1 hlen (fun j y z hj=>hi.2 j y z (by omega))],rfl⟩

theorem ALs:∀(n:Nat) (x:Expr),okE n x→∀(y:Expr) (Hp:List AObj),AFun Tryz.prog 109 [Aa x,Aa y] Hp (B4 (eqE x y)):=by
 intro n
 induction n with
 | zero=>exact fun x h=>h.elim
 | succ n ih =>
 intro x hok y Hp
 refine Ae [.tmp 4] [0,1] Tryz.func109 Tryz.ntmps109 (fun d=>?_)
 refine Z15 ?_;refine Jz ?_;refine Z23 ?_;refine Z38 ?_;refine Z77 ?_;refine Z86 ?_
 refine Cw (h:=Sb bv (fun w=>Kh x.val.kind x.val.n y.val.kind y.val.n x.val.s y.val.s w)) (hr:=?_)
 refine Z86 ?_;refine Ca Tryz.call145 (fun hB=>ASn n x.kids y.kids hok.2.1 hok.2.2 ih _) ?_;refine Z0 ?_;refine Z14 ?_;exact A9 (Ao A8) ⟨by rw [ALj],rfl⟩

theorem Zr (o:Int) (t:Str) (v:Val) (k:List Expr):Aa (.mk o t v k)=.agg [A3 o,.v (sv t),A3 v.kind,A3 v.n,.v (sv v.s),.slice false 6 (k.map Aa)]:=by rw [Ap];rfl
theorem Ty {α β:Type} {f:α→β} {l:List α} {x:Nat} (h:x<l.length):(l.take (x+1)).map f=(l.take x).map f++[f l[x]]:=by rw [J4 h,Bj];rfl
theorem AE2 {n:Nat} {x:Expr} {o:Bool} {l:List Expr}:ObjLow n (.cells 27 [A3 x.op,.v (sv x.text),A3 x.val.kind,A3 x.val.n,.v (sv x.val.s),.slice o 6 (l.map Aa)]):=by
 show ∀z∈[A3 x.op,AV.v (sv x.text),A3 x.val.kind,A3 x.val.n,AV.v (sv x.val.s),AV.slice o 6 (l.map Aa)],Low n z
 intro z hz
 simp only [B3,Em,or_false] at hz
 rcases hz with rfl|rfl|rfl|rfl|rfl|rfl
 all_goals first|exact Dj|simp
theorem ASo {α:Type} {P:α→Prop} {a b:α} (h1:P a) (h2:P b):∀x∈[a,b],P x:=by
 intro x hx
 simp only [B3,Em,or_false] at hx
 rcases hx with rfl|rfl
 ·exact h1
 exact h2
set_option maxRecDepth 8000
/-! Who decides decides: the law's sources, columns and truths. -/
/-! Rows. -/
theorem row_iff {c:List Col} {l:List Val}:Ew c l=true↔Jq c=true∧l.length=c.length∧∀(i:Nat) (v:Val) (y:Col),l[i]? = some v→c[i]? = some y→Er v=true∧(v.kind=0∨v.kind=y.kind):=by
 unfold Ew
 rw [As,As,Mw,beq_iff_eq,B5,and_assoc]
 refine and_congr_right fun _=>and_congr_right fun hl=>⟨fun h i v y hv hy=>?_,fun h p hp=>?_⟩
 ·have:=h (v,y) (Aw (i:=i) (by rw [N6];exact ⟨hv,hy⟩))
  simpa using this
 obtain ⟨i,hi⟩:=Cb hp
 rw [N6] at hi
 have:=h i p.1 p.2 hi.1 hi.2
 simpa using this
theorem AHu {x:Expr} {c:List Col} {l:List Val} (h1:Az x=true) (h2:Ew c l=true):Bx x c l=C9 c l x:=by
 unfold Bx Tx
 rw [h1,h2]
 rfl
/-! Rows that differ in what is not named. -/
/-! Who has a kind comes to it. -/
/-- What a tree of this kind may come to. -/
structure KOk (k:Int) (r:Rs):Prop where
 kind:r.2=0→r.1.kind=k∨r.1.kind=0
 err:r.2≠0→r.2=4∨r.2=5∨r.2=6∨r.2=3
theorem KOk.null (k:Int):KOk k (noV,0):=⟨fun _=>.inr rfl,fun h=>absurd rfl h⟩
theorem KOk.val {k:Int} {v:Val} (h:v.kind=k):KOk k (v,0):=⟨fun _=>.inl h,fun h=>absurd rfl h⟩
theorem KOk.wrong {k e:Int} (h:e=4∨e=5∨e=6∨e=3):KOk k (Dr e):=⟨fun h0=>by rw [show e=0 from h0] at h;omega,fun _=>h⟩
theorem KOk.whole {x:Int×Int} (h:x.2≠0→x.2=4∨x.2=5∨x.2=6∨x.2=3):KOk 1 (Ip x):=by
 unfold Ip
 split
 ·rename_i h1;exact .wrong (h (by simpa using h1))
 exact .val rfl
theorem KOk.mono {k k':Int} {r:Rs} (h:KOk k r) (hk:k=k'∨k=0):KOk k' r:=⟨fun h0=>by have:=h.kind h0;omega,h.err⟩
theorem Wm {α:Type} {g:α→Int} {r:α→Rs} {l:List α} (h:∀y∈l,KOk (g y) (r y)) {k:Int} {f:List Val→Rs} (hs:∀vs:List Val,vs.map (·.kind)=l.map g→(∀v∈vs,v.kind≠0)→KOk k (f vs)):KOk k (Ni f (l.map r)):=by
 unfold Ni
 split
 ·rename_i q hq
  have h1:=gb hq
  obtain ⟨y,hy,rfl⟩:=C2.1 (List.mem_of_find?_eq_some hq)
  exact .wrong ((h y hy).err (by simpa using h1))
 rename_i hq
 have h0:∀y∈l,(r y).2=0:=fun y hy=>by
  have:=N3.1 hq (r y) (gh hy)
  simpa using this
 split
 ·exact .null k
 rename_i hn
 have hnn:∀y∈l,(r y).1.kind≠0:=fun y hy e=>hn (by rw [Fy];exact ⟨r y,gh hy,by simpa using e⟩)
 refine hs _ ?_ ?_
 ·rw [Kd,Kd]
  refine X2 fun y hy=>?_
  have:=(h y hy).kind (h0 y hy)
  have:=hnn y hy
  show (r y).1.kind=g y
  omega
 intro v hv
 rw [Kd] at hv
 obtain ⟨y,hy,rfl⟩:=C2.1 hv
 exact hnn y hy
theorem Tz {a b:Int} (h:(Fe a b).2=true):((a=0∧(Fe a b).1=b)∨(a≠0∧(b=0∨b=a)∧(Fe a b).1=a)):=by
 unfold Fe at h ⊢
 split
 ·rename_i e;exact .inl ⟨by simpa using e,rfl⟩
 rename_i e
 rw [if_neg e] at h
 split
 ·rename_i e2
  exact .inr ⟨by simpa using e,by simp only [D7,beq_iff_eq] at e2;omega,rfl⟩
 rename_i e2
 rw [if_neg e2] at h
 cases h
theorem ALt {s:Sign} {ks:List Int} (h:(Pd s ks).2=0):∃c,H7 s.kids ks 0=some c∧(Pd s ks).1=if s.own == -1 then c else s.own:=by
 unfold Pd at h ⊢
 cases hk:H7 s.kids ks 0 with
 | none=>rw [hk] at h;cases h
 | some c=>exact ⟨c,rfl,by simp only;split<;>rfl⟩
/-- One kid, of a kind. -/
theorem za {w k0 c:Int} (h1:(w == -2)=false) (h2:(w == -1)=false) (h3:w≠0) (h:H7 [w] [k0] 0=some c):k0=0∨k0=w:=by
 rw [H7,h1,h2] at h
 simp only [Bg,if_false] at h
 split at h
 ·rename_i hm;have:=Tz hm;omega
 cases h
theorem zb {w w' k0 k1 c:Int} (h1:(w == -2)=false) (h2:(w == -1)=false) (h3:w≠0) (h1':(w' == -2)=false) (h2':(w' == -1)=false) (h3':w'≠0) (h:H7 [w,w'] [k0,k1] 0=some c):(k0=0∨k0=w)∧(k1=0∨k1=w'):=by
 rw [H7,h1,h2] at h
 simp only [Bg,if_false] at h
 split at h
 ·rename_i hm
  rw [H7,h1',h2'] at h
  simp only [Bg,if_false] at h
  split at h
  ·rename_i hm';have:=Tz hm;have:=Tz hm';omega
  cases h
 cases h
/-- Two kids of one kind, whichever. -/
theorem jk {k0 k1 c c0:Int} (h:H7 [-1, -1] [k0,k1] c0=some c) (h0:c0=0):(k0=0∨k0=c)∧(k1=0∨k1=c)∧(k0≠0→k1≠0→k0=k1):=by
 subst h0
 rw [H7] at h
 simp only [show ((-1:Int) == -2)=false from rfl,show ((-1:Int) == -1)=true from rfl,Bg,if_false,if_true] at h
 split at h
 ·rename_i hm
  rw [H7] at h
  simp only [show ((-1:Int) == -2)=false from rfl,show ((-1:Int) == -1)=true from rfl,Bg,if_false,if_true] at h
  split at h
  ·rename_i hm'
   rw [H7] at h
   injection h with h
   have a:=Tz hm
   have b:=Tz hm'
   omega
  cases h
 cases h
theorem Ra {c:List Col} {o:Int} {t:Str} {v:Val} {k:List Expr} (h:(Bh c (.mk o t v k)).2=0) (h1:(o==1)=false) (h2:(o==2)=false):
  (∀y∈k,(Bh c y).2=0)∧∃m,H7 (La o t).kids (k.map fun y=>(Bh c y).1) 0=some m∧(Bh c (.mk o t v k)).1=if (La o t).own == -1 then m else (La o t).own:=by
 rw [Bh] at h ⊢
 have hk:=mi h h1 h2
 rw [Vj] at hk h ⊢
 have hk':∀y∈k,(Bh c y).2=0:=fun y hy=>hk _ (gh hy)
 refine ⟨hk',?_⟩
 have e:Ns c o t v (k.map (Bh c))=Pd (La o t) (k.map fun y=>(Bh c y).1):=by
  unfold Ns
  rw [h1,h2]
  have:(k.map (Bh c)).find? (fun q=>q.2 != 0)=none:=N3.2 fun q hq=>by simpa using hk q hq
  simp only [Bg,if_false,this,Kd]
  rfl
 rw [e] at h ⊢
 exact ALt h
theorem zc (t:Str) (a b:Int):(K7 t a b).2≠0→(K7 t a b).2=4∨(K7 t a b).2=5∨(K7 t a b).2=6∨(K7 t a b).2=3:=by
 unfold K7 rq Oq Zm rr cj
 simp only
 repeat' split
 all_goals simp
theorem AHv (a b:Int):(Oq a b).2≠0→(Oq a b).2=4∨(Oq a b).2=5∨(Oq a b).2=6∨(Oq a b).2=3:=by
 unfold Oq
 repeat' split
 all_goals simp
theorem AHw (s:Str):(D3 s).2≠0→(D3 s).2=4∨(D3 s).2=5∨(D3 s).2=6∨(D3 s).2=3:=by
 unfold D3
 repeat' split
 all_goals simp
theorem ALu {a b:Val} (ha:a.kind=2) (hb:b.kind=2):KOk 2 (Qi a b):=by
 unfold Qi
 rw [show E0 [a,b] [2,2]=true by simp [E0,ha,hb]]
 simp only [Ig,Bg,if_false]
 split
 ·exact .wrong (by omega)
 exact .val rfl
/-- A mark of two values of the kinds that its sign asks for. -/
theorem APv {t:Str} {a b:Val} (ht:t∈[[61],[33,61],[60],[60,61],[62],[62,61],[43],[45],[38],[42],[47],[37]]) {m:Int} (hf:H7 (Ec t).kids [a.kind,b.kind] 0=some m) (ha:a.kind≠0) (hb:b.kind≠0):
  KOk (if (Ec t).own == -1 then m else (Ec t).own) (Nv t a b):=by
 have hcmp:∀t:Str,(Is t (mp a b)).2=true→Ec t=⟨[-1, -1],3⟩→H7 (Ec t).kids [a.kind,b.kind] 0=some m→KOk (if (Ec t).own == -1 then m else (Ec t).own) (Nv t a b):=fun t h1 h2 hf=>by
  rw [h2] at hf ⊢
  have:=jk hf rfl
  have e:a.kind=b.kind:=this.2.2 ha hb
  unfold Nv
  rw [h1,if_pos rfl,e]
  simp only [bne_self_eq_false,Bg,if_false]
  exact .val rfl
 have har:∀t:Str,(Is t (mp a b)).2=false→(t==[38])=false→Ec t=⟨[1,1],1⟩→H7 (Ec t).kids [a.kind,b.kind] 0=some m→KOk (if (Ec t).own == -1 then m else (Ec t).own) (Nv t a b):=fun t h1 h2 h3 hf=>by
  rw [h3] at hf ⊢
  have:=zb rfl rfl (by decide) rfl rfl (by decide) hf
  unfold Nv
  rw [h1,h2,show E0 [a,b] [1,1]=true by simp [E0];omega]
  exact KOk.whole (zc _ _ _)
 simp only [B3,Em,or_false] at ht
 rcases ht with rfl|rfl|rfl|rfl|rfl|rfl|rfl|rfl|rfl|rfl|rfl|rfl
 ·exact y7
 ·exact y7
 ·exact y7
 ·exact y7
 ·exact y7
 ·exact y7
 ·exact ACj
 ·exact ACj
 ·have h3:Ec [38]=⟨[2,2],2⟩:=rfl
  rw [h3] at hf ⊢
  have:=zb rfl rfl (by decide) rfl rfl (by decide) hf
  exact ALu (by omega) (by omega)
 ·exact ACj
 ·exact ACj
 exact ACj
theorem jl {r:Rs} (h:KOk 3 r):Be r=r:=by
 unfold Be
 split
 ·rename_i e
  simp only [As,beq_iff_eq,bne_iff_ne] at e
  have:=h.kind e.1.1
  omega
 rfl
theorem v6 {s:Val} {a b:Rs} (ha:KOk 3 a) (hb:KOk 3 b):KOk 3 (Jf s a b):=by
 unfold Jf
 rw [jl ha,jl hb]
 split
 ·exact ha
 rename_i h1
 split
 ·exact hb
 simp only [D7,bne_iff_ne,not_or,Decidable.not_not] at h1
 exact ⟨fun _=>ha.kind h1.1,fun h=>absurd rfl h⟩
theorem Ou {t:Str} {n:Nat} (h:Cn t=(n:Int)):(t=[108,101,110]∧n=1)∨(t=[115,116,114]∧n=1)∨(t=[110,117,109]∧n=1)∨(t=Ch∧n=1)∨(t=Vk∧n=2)∨(t=[108,101,102,116]∧n=2)∨(t=[114,105,103,104,116]∧n=2)∨(t=ifW∧n=3):=by
 by_cases hm:t∈arityList.map (·.1)
 ·have ha:∀s∈arityList.map (·.1),(s=[108,101,110]∧Cn s=1)∨(s=[115,116,114]∧Cn s=1)∨(s=[110,117,109]∧Cn s=1)∨(s=Ch∧Cn s=1)∨(s=Vk∧Cn s=2)∨(s=[108,101,102,116]∧Cn s=2)∨(s=[114,105,103,104,116]∧Cn s=2)∨(s=ifW∧Cn s=3):=by
   have:((arityList.map (·.1)).all fun s=>decide ((s=[108,101,110]∧Cn s=1)∨(s=[115,116,114]∧Cn s=1)∨(s=[110,117,109]∧Cn s=1)∨(s=Ch∧Cn s=1)∨(s=Vk∧Cn s=2)∨(s=[108,101,102,116]∧Cn s=2)∨(s=[114,105,103,104,116]∧Cn s=2)∨(s=ifW∧Cn s=3)))=true:=by kernel_rfl
   exact fun s hs=>of_decide_eq_true (B5.1 this s hs)
  have:=ha t hm
  rw [h] at this
  rcases this with ⟨e,h2⟩|⟨e,h2⟩|⟨e,h2⟩|⟨e,h2⟩|⟨e,h2⟩|⟨e,h2⟩|⟨e,h2⟩|⟨e,h2⟩
  ·exact .inl ⟨e,by omega⟩
  ·exact .inr (.inl ⟨e,by omega⟩)
  ·exact .inr (.inr (.inl ⟨e,by omega⟩))
  ·exact .inr (.inr (.inr (.inl ⟨e,by omega⟩)))
  ·exact .inr (.inr (.inr (.inr (.inl ⟨e,by omega⟩))))
  ·exact .inr (.inr (.inr (.inr (.inr (.inl ⟨e,by omega⟩)))))
  ·exact .inr (.inr (.inr (.inr (.inr (.inr (.inl ⟨e,by omega⟩))))))
  exact .inr (.inr (.inr (.inr (.inr (.inr (.inr ⟨e,by omega⟩))))))
 have h1:Cn t = -1:=by
  unfold Cn
  rw [N3.2 fun p hp=>by
   simp only [beq_iff_eq]
   rintro rfl
   exact hm (C2.2 ⟨p,hp,rfl⟩)]
 omega
theorem Xg {k:List Expr} (h:k.length=1):∃a,k=[a]:=by match k,h with|[a],_=>exact ⟨a,rfl⟩
theorem Rb {k:List Expr} (h:k.length=2):∃a b,k=[a,b]:=by match k,h with|[a,b],_=>exact ⟨a,b,rfl⟩
theorem zd {k:List Expr} (h:k.length=3):∃a b c,k=[a,b,c]:=by match k,h with|[a,b,c],_=>exact ⟨a,b,c,rfl⟩
theorem Nx {vs:List Val} {k:Int} (h:vs.map (·.kind)=[k]):∃v,vs=[v]∧v.kind=k:=by
 match vs,h with
 | [v],h=>exact ⟨v,rfl,by simpa using h⟩
theorem Vn {vs:List Val} {k k':Int} (h:vs.map (·.kind)=[k,k']):∃v v',vs=[v,v']∧v.kind=k∧v'.kind=k':=by
 match vs,h with
 | [v,v'],h=>exact ⟨v,v',rfl,by simpa using h⟩
theorem v7 {c:List Col} {l:List Val} (hl:Ew c l=true):∀(n:Nat) (e:Expr),sizeE e≤n→Dy F1 e=true→(Bh c e).2=0→KOk (Bh c e).1 (C9 c l e)
 | 0,e,hn,_,_=>by have:=Tm e;omega
 | n+1,e,hn,hnd,hk=>by
  have hnd0:=hnd
  rw [Jc,As] at hnd0
  have ih:∀y∈e.kids,(Bh c y).2=0→KOk (Bh c y).1 (C9 c l y):=fun y hy h0=>v7 hl n y (yx hn hy) ((Fu _ _).1 hnd0.2 y hy) h0
  obtain ⟨r1,r2,r3⟩:=row_iff.1 hl
  have hNC:=M9 hnd0.1
  cases hNC with
  | val v hp h0 =>
   have:Bh c (On v)=(v.kind,0):=by rw [On,Bh];rfl
   rw [this]
   exact .val rfl
  | name t ht =>
   have e1:Bh c (D6 t)=Je c t:=by rw [D6,Bh];rfl
   have e2:C9 c l (D6 t)=Qj c l t:=by rw [C9,D6,Fz];rfl
   rw [e1] at hk ⊢
   rw [e2]
   unfold Je at hk ⊢
   unfold Qj
   split at hk
   ·cases hk
   rename_i hf
   rw [if_neg hf,if_neg hf]
   obtain ⟨j,z,hj,hz,hfj⟩:=find_mem.1 hf
   have hjl:j<l.length:=by rw [r2];exact (Ad.1 hj).1
   have:=r3 j l[j] z (Ab hjl) hj
   rw [hfj,Int.toNat_natCast,Bv,Bv,hj,Ab hjl]
   exact ⟨fun _=>by show l[j].kind=z.kind∨l[j].kind=0;omega,fun h=>absurd rfl h⟩
  | neg a =>
   rw [Lk] at hk ⊢
   obtain ⟨hky,m,hf,ho⟩:=Ra hk rfl rfl
   rw [ho,C9,Fz,Lu]
   have hs:La 3 []=⟨[1],1⟩:=rfl
   rw [hs] at hf ⊢
   have hm:=za rfl rfl (by decide) hf
   show KOk 1 (Ni (B8 3 []) ([a].map (Fz B8 c l)))
   refine Wm (g:=fun y=>(Bh c y).1) (fun y hy=>ih y hy (hky y hy)) (fun vs hvs hnz=>?_)
   obtain ⟨v,rfl,hv⟩:=Nx hvs
   have hv0:=hnz v (by simp)
   have hv1:v.kind=1:=by omega
   unfold B8
   rw [show E0 [v] [1]=true by simp [E0,hv1]]
   exact KOk.whole (AHv _ _)
  | no a =>
   rw [Lk] at hk ⊢
   obtain ⟨hky,m,hf,ho⟩:=Ra hk rfl rfl
   rw [ho,C9,Fz,Lu]
   have hs:La 4 []=⟨[3],3⟩:=rfl
   rw [hs] at hf ⊢
   have hm:=za rfl rfl (by decide) hf
   show KOk 3 (Ni (B8 4 []) ([a].map (Fz B8 c l)))
   refine Wm (g:=fun y=>(Bh c y).1) (fun y hy=>ih y hy (hky y hy)) (fun vs hvs hnz=>?_)
   obtain ⟨v,rfl,hv⟩:=Nx hvs
   have hv0:=hnz v (by simp)
   have hv1:v.kind=3:=by omega
   unfold B8
   rw [show E0 [v] [3]=true by simp [E0,hv1]]
   exact KOk.val rfl
  | bin t a b ht =>
   rw [Ml] at hk ⊢
   obtain ⟨hky,m,hf,ho⟩:=Ra hk rfl rfl
   have ha:=ih a (by simp [Ml,Expr.kids]) (hky a (by simp))
   have hb:=ih b (by simp [Ml,Expr.kids]) (hky b (by simp))
   rw [ho,C9,Fz,Lu]
   rw [show La 5 t=Ec t from rfl] at hf ⊢
   have hmem:t∈levels.flatten:=by
    rcases Wk t with h|h
    ·exact h
    omega
   by_cases h1:(t==orW)=true
   ·have e:t=orW:=by simpa using h1
    subst e
    rw [show Ec orW=⟨[3,3],3⟩ from rfl] at hf ⊢
    have hm:((Bh c a).1=0∨(Bh c a).1=3)∧((Bh c b).1=0∨(Bh c b).1=3):=zb rfl rfl (by decide) rfl rfl (by decide) hf
    exact v6 (ha.mono (by omega)) (hb.mono (by omega))
   by_cases h2:(t==ji)=true
   ·have e:t=ji:=by simpa using h2
    subst e
    rw [show Ec ji=⟨[3,3],3⟩ from rfl] at hf ⊢
    have hm:((Bh c a).1=0∨(Bh c a).1=3)∧((Bh c b).1=0∨(Bh c b).1=3):=zb rfl rfl (by decide) rfl rfl (by decide) hf
    exact v6 (ha.mono (by omega)) (hb.mono (by omega))
   have e:Ks B8 c l 5 t noV ([a,b].map (Fz B8 c l))=Ni (B8 5 t) ([a,b].map (Fz B8 c l)):=by
    unfold Ks
    rw [show (t==orW)=false by simpa using h1,show (t==ji)=false by simpa using h2]
    rfl
   rw [e]
   have hm12:t∈[[61],[33,61],[60],[60,61],[62],[62,61],[43],[45],[38],[42],[47],[37]]:=by
    have h1':t≠orW:=by simpa using h1
    have h2':t≠ji:=by simpa using h2
    simp only [levels,List.flatten_cons,List.flatten_nil,Dh,D9,H4,B3,Em,or_false] at hmem ⊢
    rcases hmem with h|h|h
    ·exact absurd h h1'
    ·exact absurd h h2'
    exact h
   refine Wm (g:=fun y=>(Bh c y).1) (fun y hy=>ih y hy (hky y hy)) (fun vs hvs hnz=>?_)
   obtain ⟨v,v',rfl,hv,hv'⟩:=Vn hvs
   have hf':H7 (Ec t).kids [v.kind,v'.kind] 0=some m:=by rw [hv,hv'];exact hf
   exact APv hm12 hf' (hnz v (by simp)) (hnz v' (by simp))
  | call t k ht =>
   obtain ⟨hky,m,hf,ho⟩:=Ra hk rfl rfl
   rw [ho,C9,Fz,Lu]
   rw [show La 6 t=G6 t from rfl] at hf ⊢
   rcases Ou ht with ⟨rfl,hn1⟩|⟨rfl,hn1⟩|⟨rfl,hn1⟩|⟨rfl,hn1⟩|⟨rfl,hn1⟩|⟨rfl,hn1⟩|⟨rfl,hn1⟩|⟨rfl,hn1⟩
   ·obtain ⟨a,rfl⟩:=Xg hn1
    have hs:G6 [108,101,110]=⟨[2],1⟩:=rfl
    rw [hs] at hf ⊢
    have hm:=za rfl rfl (by decide) hf
    show KOk 1 (Ni (B8 6 [108,101,110]) ([a].map (Fz B8 c l)))
    refine Wm (g:=fun y=>(Bh c y).1) (fun y hy=>ih y hy (hky y hy)) (fun vs hvs hnz=>?_)
    obtain ⟨v,rfl,hv⟩:=Nx hvs
    have hv0:=hnz v (by simp)
    have hv1:v.kind=2:=by omega
    show KOk 1 (Ju [108,101,110] v)
    unfold Ju
    rw [hv1]
    exact KOk.val rfl
   ·obtain ⟨a,rfl⟩:=Xg hn1
    have hs:G6 [115,116,114]=⟨[1],2⟩:=rfl
    rw [hs] at hf ⊢
    have hm:=za rfl rfl (by decide) hf
    show KOk 2 (Ni (B8 6 [115,116,114]) ([a].map (Fz B8 c l)))
    refine Wm (g:=fun y=>(Bh c y).1) (fun y hy=>ih y hy (hky y hy)) (fun vs hvs hnz=>?_)
    obtain ⟨v,rfl,hv⟩:=Nx hvs
    have hv0:=hnz v (by simp)
    have hv1:v.kind=1:=by omega
    show KOk 2 (Ju [115,116,114] v)
    unfold Ju
    rw [hv1]
    exact KOk.val rfl
   ·obtain ⟨a,rfl⟩:=Xg hn1
    have hs:G6 [110,117,109]=⟨[2],1⟩:=rfl
    rw [hs] at hf ⊢
    have hm:=za rfl rfl (by decide) hf
    show KOk 1 (Ni (B8 6 [110,117,109]) ([a].map (Fz B8 c l)))
    refine Wm (g:=fun y=>(Bh c y).1) (fun y hy=>ih y hy (hky y hy)) (fun vs hvs hnz=>?_)
    obtain ⟨v,rfl,hv⟩:=Nx hvs
    have hv0:=hnz v (by simp)
    have hv1:v.kind=2:=by omega
    show KOk 1 (Ju [110,117,109] v)
    unfold Ju
    rw [hv1]
    exact KOk.whole (AHw _)
   ·obtain ⟨a,rfl⟩:=Xg hn1
    have ha:=ih a (by simp [Expr.kids]) (hky a (by simp))
    have hs:G6 Ch=⟨[-2],3⟩:=rfl
    rw [hs]
    show KOk 3 (Fk Ch (C9 c l a) (noV,0) (noV,0))
    unfold Fk
    rw [show (Ch==ifW)=false from rfl,show (Ch==Ch)=true from rfl]
    simp only [Bg,if_false,if_true]
    split
    ·rename_i h;exact .wrong (ha.err (by simpa using h))
    exact .val rfl
   ·obtain ⟨a,b,rfl⟩:=Rb hn1
    have ha:=ih a (by simp [Expr.kids]) (hky a (by simp))
    have hb:=ih b (by simp [Expr.kids]) (hky b (by simp))
    have hs:G6 Vk=⟨[-1, -1], -1⟩:=rfl
    rw [hs] at hf ⊢
    have hm:((Bh c a).1=0∨(Bh c a).1=m)∧((Bh c b).1=0∨(Bh c b).1=m)∧((Bh c a).1≠0→(Bh c b).1≠0→(Bh c a).1=(Bh c b).1):=jk hf rfl
    show KOk m (Fk Vk (C9 c l a) (C9 c l b) (noV,0))
    unfold Fk
    rw [show (Vk==ifW)=false from rfl,show (Vk==Ch)=false from rfl]
    simp only [Bg,if_false]
    split
    ·rename_i h;exact .wrong (ha.err (by simpa using h))
    rename_i h
    split
    ·rename_i h2
     have:=ha.kind (by simpa using h)
     have h2:(C9 c l a).1.kind≠0:=by simpa using h2
     exact .val (by omega)
    exact hb.mono (by omega)
   ·obtain ⟨a,b,rfl⟩:=Rb hn1
    have hs:G6 [108,101,102,116]=⟨[2,1],2⟩:=rfl
    rw [hs] at hf ⊢
    have hm:=zb rfl rfl (by decide) rfl rfl (by decide) hf
    show KOk 2 (Ni (B8 6 [108,101,102,116]) ([a,b].map (Fz B8 c l)))
    refine Wm (g:=fun y=>(Bh c y).1) (fun y hy=>ih y hy (hky y hy)) (fun vs hvs hnz=>?_)
    obtain ⟨v,v',rfl,hv,hv'⟩:=Vn hvs
    have hv0:=hnz v (by simp)
    have hv0':=hnz v' (by simp)
    have hv1:v.kind=2:=by omega
    have hv1':v'.kind=1:=by omega
    unfold B8
    rw [show E0 [v,v'] [2,1]=true by simp [E0,hv1,hv1']]
    exact KOk.val rfl
   ·obtain ⟨a,b,rfl⟩:=Rb hn1
    have hs:G6 [114,105,103,104,116]=⟨[2,1],2⟩:=rfl
    rw [hs] at hf ⊢
    have hm:=zb rfl rfl (by decide) rfl rfl (by decide) hf
    show KOk 2 (Ni (B8 6 [114,105,103,104,116]) ([a,b].map (Fz B8 c l)))
    refine Wm (g:=fun y=>(Bh c y).1) (fun y hy=>ih y hy (hky y hy)) (fun vs hvs hnz=>?_)
    obtain ⟨v,v',rfl,hv,hv'⟩:=Vn hvs
    have hv0:=hnz v (by simp)
    have hv0':=hnz v' (by simp)
    have hv1:v.kind=2:=by omega
    have hv1':v'.kind=1:=by omega
    unfold B8
    rw [show E0 [v,v'] [2,1]=true by simp [E0,hv1,hv1']]
    exact KOk.val rfl
   obtain ⟨a,b,d,rfl⟩:=zd hn1
   have ha:=ih a (by simp [Expr.kids]) (hky a (by simp))
   have hb:=ih b (by simp [Expr.kids]) (hky b (by simp))
   have hd:=ih d (by simp [Expr.kids]) (hky d (by simp))
   have hs:G6 ifW=⟨[3, -1, -1], -1⟩:=rfl
   rw [hs] at hf ⊢
   have hf':H7 [3] [(Bh c a).1] 0=some 0∧H7 [-1, -1] [(Bh c b).1,(Bh c d).1] 0=some m:=by
    simp only [Bm,Dc] at hf
    rw [H7] at hf
    simp only [show ((3:Int) == -2)=false from rfl,show ((3:Int) == -1)=false from rfl,Bg,if_false] at hf
    split at hf
    ·rename_i hm
     refine ⟨?_,hf⟩
     rw [H7]
     simp only [show ((3:Int) == -2)=false from rfl,show ((3:Int) == -1)=false from rfl,Bg,if_false,hm,if_true]
     rw [H7]
    cases hf
   have hm1:=za rfl rfl (by decide) hf'.1
   have hm:=jk hf'.2 rfl
   show KOk m (Fk ifW (C9 c l a) (C9 c l b) (C9 c l d))
   unfold Fk
   rw [show (ifW==ifW)=true from rfl,if_pos rfl,jl (ha.mono (by omega))]
   split
   ·rename_i h;exact .wrong (ha.err (by simpa using h))
   split
   ·exact hb.mono (by omega)
   exact hd.mono (by omega)
/-! The print of a tree, and its words. -/
/-! What was parsed nests no deeper than may be. -/
/-! What nests too deep is told to be too deep. -/
/-! What was parsed is right, where the words are the lexer's. -/
/-! The lexer's words. -/
/-! The parse laws where nothing is too deep. -/
/-! The parser from a word on, and of a source. -/
/-! Other trees have other words, and other prints. -/
/-! The laws of printing. -/
theorem Ov {x:Expr} (h:Ga x=true):Dy F1 x=true:=by
 unfold Ga at h
 rw [As] at h
 exact h.2
set_option maxRecDepth 4000
abbrev xo (own:Bool) (t:Str) (ks:List Expr):AObj:=.cells 27 [A3 6,Ac t,A3 0,A3 0,Ac [],.slice own 6 (ks.map Aa)]
theorem ALv {n:Nat} {own:Bool} {t:Str} {ks:List Expr}:ObjLow n (xo own t ks):=by
 show ∀z∈[A3 6,Ac t,A3 0,A3 0,Ac [],AV.slice own 6 (ks.map Aa)],Low n z
 intro z hz
 simp only [B3,Em,or_false] at hz
 rcases hz with rfl|rfl|rfl|rfl|rfl|rfl
 all_goals first|exact Dj|simp
theorem AHx:Ey (.agg #[.int .i64 0,.string ⟨#[]⟩,.int .i64 0,.int .i64 0,.string ⟨#[]⟩,.slice none 0 0])=.agg [A3 0,Ac [],A3 0,A3 0,Ac [],.nil]:=rfl
attribute [go_sem] AHx
theorem gA {Hp:List AObj} {o ox:Nat} {z A B:AObj} (ho:Hp[o]? = some z) (hne:ox≠o):((Hp.set o A).set ox B)[o]? = some A:=by rw [List.getElem?_set_ne hne];exact getset ho
theorem gB {Hp:List AObj} {o ox:Nat} {z A B:AObj} (hox:Hp[ox]? = some z):((Hp.set o A).set ox B)[ox]? = some B:=by
 have:=(List.getElem?_eq_some_iff.1 hox).1
 simp [this]
theorem AE3 {Hp:List AObj} {o ox:Nat} {A A' B:AObj} (hne:ox≠o):((Hp.set o A).set ox B).set o A'=(Hp.set o A').set ox B:=by rw [List.set_comm _ _ hne,List.set_set]
theorem Sp (ks:List Expr) (x:Expr):ks.map Aa++[.agg [.v (.int .i64 x.op),.v (sv x.text),.v (.int .i64 x.val.kind),.v (.int .i64 x.val.n),.v (sv x.val.s),.slice false 6 (x.kids.map Aa)]]=(ks++[x]).map Aa:=by rw [List.map_append,List.map_cons,List.map_nil,Ap x]
theorem ASp (l:List Tok) (S:PS) (t:Str) (Dv:Fam) (o ox:Nat) (Hp:List AObj) (hne:ox≠o) (ho:Hp[o]? = some (pr l S)) (hox:Hp[ox]? = some (xo true t [])) (hi:S.i<l.length) (hl:TokEnd l) (hll:l.length≤1048576) (hf:Fp l S.nest Dv.ei) (hcf:PC 154 l Dv.ei S.nest):ACall Tryz.prog 340 [.ptr ox 0,.ro [.ptr o 0]] Hp (fun r H'=>r=Aa (.mk 6 t noV (Js l Dv.ei S).1)∧H'=(Hp.set o (pr l (Js l Dv.ei S).2)).set ox (xo true t (Js l Dv.ei S).1)):=by
 have hoxl:=(List.getElem?_eq_some_iff.1 hox).1
 have hol:=(List.getElem?_eq_some_iff.1 ho).1
 refine ACall.body [.cell 2 27] [0,1] Tryz.func340 Tryz.ntmps340 (fun d=>?_)
 refine Z24 ?_;refine Y8 ?_
 refine W.drawT [0,1,0,4,3,0,63,127,255,127,639] [1,3] [.q 1 [] [0],.s [4] (some 0) [] [],.q 1 [] [1],.s [6] (some 1) [] [],.q 2 [] []] (fun B=>(Hp.set o (if B 1=true then pr l (Dv.ei S).2 else pr l S)).set ox (if B 0=true then xo false t [] else xo true t [])) (fun _=>[Nh]) An (by kernel_rfl) (by simp only [Bool.false_eq_true,if_false];rw [Cm ho,Cm hox]) rfl (fun B=>by simp) ?_
 apply Y.q
 ·intro B hT hF
  exact Z56
 case hTF=>decide
 refine Y.loadUpT (o:=ox) (t':=27) (cs:=[A3 6,Ac t,A3 0,A3 0,Ac [],.slice true 6 ([].map Aa)]) (cs':=[A3 6,Ac t,A3 0,A3 0,Ac [],.slice false 6 ([].map Aa)]) Tryz.isAgg25 (fun B hB=>⟨by simp only [hB];exact gB hox,by simp [upd,List.set_set]<;>rfl,rfl⟩) ?_
 apply Y.q
 ·intro B hT hF
  exact Z56
 case hTF=>decide
 refine Y.callUp (r:=Aa (Dv.ei S).1) (o:=o) (x0:=pr l S) (x:=pr l (Dv.ei S).2) Tryz.call154 (fun B hT hF hB=>⟨by simp only [hB];exact gA ho hne,?_,rfl,Dz,?_⟩) ?_
 ·simp only [upd,hB,Nat.reduceEqDiff,if_false,if_true,Bool.false_eq_true]
  exact (AE3 hne).symm
 ·simp only [hB]
  exact hcf o _ S (Aj (gA ho hne)) hi rfl
 apply Y.q
 ·intro B hT hF
  exact pv
 case hTF=>decide
 refine Y.appendPut (tn:=[1,3]) (U:=(Hp.set o (pr l (Dv.ei S).2)).set ox (xo false t [])) (O:=[Nh]) (o:=ox) (t':=27) (cs:=[A3 6,Ac t,A3 0,A3 0,Ac [],.slice false 6 ([].map Aa)]) (by kernel_rfl) jU Tryz.type27 Tryz.sizeOf27 Tryz.sizeOf25 jU (Aj (gB hox)) ?_ ?_ ?_ (hfsz:=Tryz.sizeOf25)
 ·simp [Tryz.t27]
 ·simp [Tryz.t27]
 refine R.go ?_
 refine R.storeUpT jS (gB hox) ?_ ?_
 ·first|(rw [Sp];exact Dj)|(have:=Dj (n:=((Hp.set o (pr l (Dv.ei S).2)).set ox (xo false t [])).length) (k:=6) (o:=true) (l:=[(Dv.ei S).1]);simp only [List.map_cons,List.map_nil,Ap] at this;exact this)
 refine Y8 ?_;refine W.seq ?_
 refine AW.loopC (α:=List Expr×PS) (fun r=>⟨34,A6 0 (.ptr ox 0) (A6 1 (.ro [.ptr o 0]) (A6 2 (.ptr (oid Hp.length 0) 0) (fun _=>.any))),(Hp.set o (pr l r.2)).set ox (xo true t r.1),[Nh],[],none⟩) (fun r=>ArgsAt l Dv.ei S r) (fun r=>l.length-r.2.i) (([(Dv.ei S).1],(Dv.ei S).2)) (.start (hf S hi rfl)) (StLe.of_eq (by simp [List.set_set,xo,Ap])) rfl (fun r hx=>?_)
 refine Z79 ?_
 refine R.go (h:=Q.loadUp (gA ho hne)) (hr:=?_)
 refine Rg ?_;refine G.call Tryz.call232 (fun hB=>ml l r.2 Zd o _ (Aj (gA ho hne)) hx.fact.lt hl (by decide)) ?_;refine R.go ?_;refine R.fin [0,1,2,21] ?_
 refine W.cond (fun ht21=>?_) (fun ht21=>?_)
 ·have hon:=hx.on hl ht21 hf
  have hle:=hon.2.1.le
  have hlt0:=hx.fact.lt
  refine ACd ?_;refine Z2 ?_;refine R.callUp Tryz.call233 (gA ho hne) (by simp) Dz (ADs l r.2 o _ (Aj (gA ho hne)) hx.fact.lt hll) ?_;refine Y8 ?_
  refine W.drawT0 [0,1,0,4,3,0,63,127,255,127,639] [1,3] [.q 1 [] [0],.s [25] (some 0) [] [],.q 1 [] [1],.s [27] (some 1) [] [],.q 2 [] []] (fun B=>(Hp.set o (if B 1=true then pr l (Dv.ei (At r.2)).2 else pr l (At r.2))).set ox (if B 0=true then xo false t r.1 else xo true t r.1)) (fun _=>[Nh]) An (by kernel_rfl) (by simp only [Bool.false_eq_true,if_false];exact (AE3 hne).symm) rfl (fun B=>by simp) ?_
  apply Y.q
  ·intro B hT hF
   exact Z56
  case hTF=>decide
  refine Y.loadUpT (o:=ox) (t':=27) (cs:=[A3 6,Ac t,A3 0,A3 0,Ac [],.slice true 6 (r.1.map Aa)]) (cs':=[A3 6,Ac t,A3 0,A3 0,Ac [],.slice false 6 (r.1.map Aa)]) Tryz.isAgg25 (fun B hB=>⟨by simp only [hB];exact gB hox,by simp [upd,List.set_set]<;>rfl,rfl⟩) ?_
  apply Y.q
  ·intro B hT hF
   exact Z56
  case hTF=>decide
  refine Y.callUp (r:=Aa (Dv.ei (At r.2)).1) (o:=o) (x0:=pr l (At r.2)) (x:=pr l (Dv.ei (At r.2)).2) Tryz.call154 (fun B hT hF hB=>⟨by simp only [hB];exact gA ho hne,?_,rfl,Dz,?_⟩) ?_
  ·simp only [upd,hB,Nat.reduceEqDiff,if_false,if_true,Bool.false_eq_true]
   exact (AE3 hne).symm
  ·simp only [hB]
   exact hcf o _ (At r.2) (Aj (gA ho hne)) hon.1 hx.fact.nest
  apply Y.q
  ·intro B hT hF
   exact pv
  case hTF=>decide
  refine Y.appendPut (tn:=[1,3]) (U:=(Hp.set o (pr l (Dv.ei (At r.2)).2)).set ox (xo false t r.1)) (O:=[Nh]) (o:=ox) (t':=27) (cs:=[A3 6,Ac t,A3 0,A3 0,Ac [],.slice false 6 (r.1.map Aa)]) (by kernel_rfl) jU Tryz.type27 Tryz.sizeOf27 Tryz.sizeOf25 jU (Aj (gB hox)) ?_ ?_ ?_ (hfsz:=Tryz.sizeOf25)
  ·have:=hx.fact.len;have:=hx.fact.lt;simp only [List.length_map,Tryz.t27];omega
  ·have:=hx.fact.len;have:=hx.fact.lt;simp only [List.length_map,Tryz.t27];omega
  refine R.go ?_
  refine R.storeUpT jS (gB hox) ?_ ?_
  ·first|(rw [Sp];exact Dj)|(have:=Dj (n:=((Hp.set o (pr l (Dv.ei S).2)).set ox (xo false t [])).length) (k:=6) (o:=true) (l:=[(Dv.ei S).1]);simp only [List.map_cons,List.map_nil,Ap] at this;exact this)
  refine Y8 ?_;refine K.blN ?_
  refine K.lpN (r.1++[(Dv.ei (At r.2)).1],(Dv.ei (At r.2)).2) hon.2.2 (by show l.length-(Dv.ei (At r.2)).2.i<l.length-r.2.i;have:r.2.i+1≤(Dv.ei (At r.2)).2.i:=hle;omega) (StCut.of_eq ?_)
  simp only [show Tryz.t27.size=6 from rfl,Sp,List.set_set]
 have hout:=hx.out (by rw [ht21];simp)
 refine Th ?_;refine F0 ?_
 refine R.go (h:=Q.loadUpN (gB hox)) (hr:=?_)
 refine Z40 ?_;exact K.fin (V.one (V.cellN jA jS)) ⟨by rw [hout,Zr];rfl,by rw [hout]⟩ (hlow:=by have:=Ak Hp.length (.mk 6 t noV r.1);rw [Zr] at this;simpa using this)

/-- within, with the function that gathers a call's kids. -/
theorem APw (l:List Tok) (S:PS) (a:Int) (t:Str) (Dv:Fam) (o:Nat) (Hp:List AObj) (A0 A1:AObj) (l0:ObjLow 0 A0) (ho:Hp[o]? = some (pr l S)) (hi:S.i<l.length) (hl:TokEnd l) (hll:l.length≤1048576) (hnl:S.nest≤30) (hd:DeepC l Dv S.nest):
  ACall Tryz.prog 257 [.ptr o 0,A3 a,.fn (.func 340) [] [.ptr (oid Hp.length 2) 0,.ro [.ptr o 0]]] (Hp++[A0,A1,xo true t []]) (fun r H'=>r=Aa (if S.nest=30 then Av else .mk 6 t noV (Wj l a Dv.ei S).1)∧H'=Hp.set o (pr l (Wj l a Dv.ei S).2)++[A0,A1,xo true t (Wj l a Dv.ei S).1]):=by
 have hlt:=(Ad.1 ho).1
 have ho':(Hp++[A0,A1,xo true t []])[o]? = some (pr l S):=Aj ho
 by_cases h30:S.nest=30
 ·refine (AHn l S a 340 [] [.ptr (oid Hp.length 2) 0,.ro [.ptr o 0]] Av (E8 S) o (Hp++[A0,A1,xo true t []]) ((Hp++[A0,A1,xo true t []]).set o (pr l (E8 S))) ho' (by omega) Tryz.call340 (by simp) (getset ho') rfl (fun h=>h) (fun h=>absurd h30 h)).mono fun r H' h=>?_
  have e:Wj l a Dv.ei S=([],F8 18 a S):=if_pos (by rw [h30];rfl)
  rw [e,if_pos h30]
  obtain ⟨h1,h2⟩:=h.1 h30
  exact ⟨h1,by rw [h2,Lh _ _ hlt]⟩
 have hq:=Zh (S:=E8 S) hl hi (hd.ei h30).1
 refine (AHn l S a 340 [] [.ptr (oid Hp.length 2) 0,.ro [.ptr o 0]] (.mk 6 t noV (Js l Dv.ei (E8 S)).1) (Js l Dv.ei (E8 S)).2 o (Hp++[A0,A1,xo true t []]) (Hp.set o (pr l (Js l Dv.ei (E8 S)).2)++[A0,A1,xo true t (Js l Dv.ei (E8 S)).1]) ho' (by omega) Tryz.call340 (by simp) (Aj (getset ho)) hq.nest (fun h y hy=>?_) (fun _ own=>?_)).mono fun r H' h=>?_
 ·rw [Lh _ _ hlt] at h
  rcases El.1 hy with hy|hy
  ·rcases Mm hy with h1|h1
   ·obtain ⟨i,hi',rfl⟩:=Us h1
    by_cases hio:i=o
    ·subst hio
     have:Hp[i]=pr l S:=by rw [Ab hi'] at ho;injection ho
     rw [this];exact Dz
    refine h _ (T3 _ ?_)
    rw [th]
    exact ⟨i,by rw [Bk (Ne.symm hio),Ab hi']⟩
   rw [h1];exact Dz
  simp only [B3,Em,or_false] at hy
  rcases hy with rfl|rfl|rfl
  ·exact h _ (T5 _ (by simp))
  ·exact h _ (T5 _ (by simp))
  exact ALv
 ·have hoid:oid Hp.length 2≠o:=by unfold oid;omega
  have e1:(Hp++[A0,A1,xo true t []]).set o (pr l (E8 S))++own=(Hp.set o (pr l (E8 S))++[A0,A1,xo true t []])++own:=by rw [Lh _ _ hlt]
  rw [e1]
  have g1:((Hp.set o (pr l (E8 S))++[A0,A1,xo true t []])++own)[o]? = some (pr l (E8 S)):=Aj (Aj (getset ho))
  have g2:((Hp.set o (pr l (E8 S))++[A0,A1,xo true t []])++own)[oid Hp.length 2]? = some (xo true t []):=Aj (by
   have:=Ar (U:=Hp.set o (pr l (E8 S))) (O:=[A0,A1,xo true t []]) (n:=2)
   rw [E1] at this
   exact this)
  refine (ASp l (E8 S) t Dv o (oid Hp.length 2) _ hoid g1 g2 hi hl hll (hd.ei h30).1 (hd.ei h30).2).mono fun r H' h=>⟨h.1,h.2.trans ?_⟩
  rw [Ax,Lh _ _ (by simpa using hlt),C6]
  have:=Cp (U:=Hp.set o (pr l (Js l Dv.ei (E8 S)).2)) (O:=[A0,A1,xo true t []]++own) (n:=2) (x:=xo true t (Js l Dv.ei (E8 S)).1)
  rw [E1] at this
  rw [this]
  simp
 have e:Wj l a Dv.ei S=((Js l Dv.ei (E8 S)).1,dt (Js l Dv.ei (E8 S)).2):=if_neg (by
  show ¬(((S.nest:Int)==30)=true)
  simp
  omega)
 rw [e,if_neg h30]
 obtain ⟨h1,h2⟩:=h.2 h30
 exact ⟨h1,by rw [h2,Lh _ _ (by simpa using hlt),C6]⟩
theorem ASq (l:List Tok) (S:PS) (Dv:Fam) (t:Tok) (o:Nat) (Hp:List AObj) (ho:Hp[o]? = some (pr l S)) (hi:(At S).i<l.length) (hl:TokEnd l) (hll:l.length≤1048576) (hnl:S.nest≤30) (hd:DeepC l Dv S.nest):ACall Tryz.prog 338 [.ptr o 0,Ix t] Hp (fun r H'=>r=Aa (Jt l Dv t S).1∧H'=Hp.set o (pr l (Jt l Dv t S).2)):=by
 have hi0:S.i<l.length:=by have:S.i+1<l.length:=hi;omega
 have hol:=(Ad.1 ho).1
 have hkf:KFact l (At S) (Et l Dv S):=Zi hl _ hi (fun h=>(hd.ei h).1)
 refine Ae [.cell 4 27] [0,1] Tryz.func338 Tryz.ntmps338 (fun d=>?_)
 refine Z1 ?_;refine Rj ?_;refine A2 [2,3,4] ?_;refine Z1 ?_;refine A7 Tryz.call176 (ALa t.text _) ?_;refine A5 ?_;refine A2 [2,3,4,5] ?_;refine Z7 ?_;refine A2 [2,3,4,5,12] ?_
 refine A4 (fun ht12=>?_) (fun ht12=>?_)
 ·have hlt0:Cn t.text<0:=by simpa using ht12
  have e:Jt l Dv t S=(Av,F8 9 t.at_ S):=if_pos hlt0
  refine Z15 ?_;refine Cr Tryz.call156 ho (by simp) Dz (z3 l S 9 t.at_ o _ (Aj ho)) ?_;refine Hh ?_;refine Z14 ?_;exact Z83
 have hge:¬Cn t.text<0:=by simpa using ht12
 refine Oi ?_;refine Cr Tryz.call233 ho (by simp) Dz (ADs l S o _ (Aj ho) hi0 hll) ?_;refine Z9 ?_;refine A2 [2,3,4,5,6] ?_;refine AKj ?_;refine Z9 ?_;refine A2 [2,3,4,5,6,7] ?_;refine F0 ?_;refine Hg 2 5 6 ?_;refine Z12 ?_;refine J9 ?_
 refine Hf (up':=(Hp.set o (pr l (At S))).set o (pr l (Et l Dv S).2)) (own':=[Nh,.cells 118 [A3 (Af l S.i).kind,Ac (Af l S.i).text,A3 (Af l S.i).at_],xo true t.text (Et l Dv S).1]) Tryz.call257 (by have:=APw l (At S) (Af l S.i).at_ t.text Dv o (Hp.set o (pr l (At S))) Nh (.cells 118 [A3 (Af l S.i).kind,Ac (Af l S.i).text,A3 (Af l S.i).at_]) jg (getset ho) hi hl hll hnl hd;rw [E1] at this;exact this) (by simp) (fun h=>AHp h Dz) ?_
 refine A2 [2,3,4,5,7] ?_;refine Z2 ?_;refine Cr Tryz.call339 (getset (getset ho)) (by simp) Dz (APs l (Et l Dv S).2 Gn o _ (Aj (getset (getset ho))) hkf.lt hll) ?_;refine A2 [2,3,4,5,7] ?_;refine Z79 ?_
 refine A5 (h:=Bd (getset (getset (getset ho)))) (hr:=?_)
 refine Z86 ?_;refine Z55 ?_;refine A2 [2,3,4,7,41] ?_
 refine A4 (fun ht41=>?_) (fun ht41=>?_)
 ·have e:Jt l Dv t S=(Av,F8 8 t.at_ (Gs l Gn (Et l Dv S).2)):=by
   unfold Jt
   rw [if_neg hge,if_pos (by have:=ht41;simp only [Ah] at this;exact this)]
  refine Z15 ?_;refine Cr Tryz.call156 (getset (getset (getset ho))) (by simp) Dz (z3 l (Gs l Gn (Et l Dv S).2) 8 t.at_ o _ (Aj (getset (getset (getset ho))))) ?_;refine Hh ?_;refine Z14 ?_;refine Cz ?_;exact A9 (Ao (B6 jA jS)) ⟨by rw [e,Ap],by rw [e,C6,C6,C6]⟩ (hlow:=low_agg _)
 have e:Jt l Dv t S=(.mk 6 t.text noV (Et l Dv S).1,(Gs l Gn (Et l Dv S).2)):=by
  unfold Jt
  rw [if_neg hge,if_neg (by have:=ht41;simp only [Ah] at this;rw [Ky] at this;exact this)]
 refine Z3 ?_;refine Z82 ?_;refine Z14 ?_;exact A9 (Ao (B6 jA jS)) ⟨by rw [e,Zr];rfl,by rw [e,C6,C6]⟩ (hlow:=by have:=Ak Hp.length (.mk 6 t.text noV (Et l Dv S).1);rw [Zr] at this;simpa using this)

theorem dz {l:List Tok} (hl:TokEnd l) (hll:l.length≤1048576) (n:Nat) (Dv:Fam) (hn:n≤30) (hd:DeepC l Dv n):mm l Dv n:=fun o Hp S t ho hi hS _ _=>by
 subst hS
 exact ASq l S Dv t o Hp ho hi hl hll hn hd
/-! Queries: what query.Parse, Print, Right, Same answer. -/
structure Qry where
 all:Bool
 cols:List Str
 whr:Expr
 lim:Int
/-- A parser: where it is, and the first fault. -/
structure QS where
 i:Nat
 code:Int
 at_:Int
def Jv (l:List Tok) (e:Int) (S:QS):QS:=if S.code==0 then ⟨S.i,e,((Af l S.i).at_:Int)⟩ else S
def isQ (l:List Tok) (s:Str) (S:QS):Bool:=((S.code==0)&&(((Af l S.i).kind==5) || ((Af l S.i).kind==2)))&&((Af l S.i).text==s)
def Ff (S:QS):QS:=⟨S.i+1,S.code,S.at_⟩
def mv (l:List Tok) (s:Str) (S:QS):QS:=if isQ l s S then Ff S else S
def U0 (l:List Tok) (s:Str) (S:QS):QS:=if isQ l s S then Ff S else Jv l 8 S
def Hy (l:List Tok) (r:Qry×QS):Qry×QS:=
 if r.2.code != 0 then r else if (Af l r.2.i).kind != 1 then (r.1,Jv l 8 r.2) else if (r.1.cols.length:Int)==12 then (r.1,Jv l 3 r.2)
 else (⟨r.1.all,r.1.cols++[(Af l r.2.i).text],r.1.whr,r.1.lim⟩,Ff r.2)
def Mb (l:List Tok):Nat→Qry×QS→Qry×QS
 | 0,r=>r
 | n+1,r=>if isQ l [44] r.2 then Mb l n (Hy l (r.1,Ff r.2)) else r
def Nj (b:Bool) (q:Qry):Qry:=⟨b,q.cols,q.whr,q.lim⟩
def Ow (l:List Tok) (r:Qry×QS):Qry×QS:=if isQ l [42] r.2 then (Nj true r.1,Ff r.2) else Mb l l.length (Hy l (Nj false r.1,r.2))
def Ql:Str:=[119,104,101,114,101]
def Ox:Str:=[108,105,109,105,116]
def jm:Str:=[115,101,108,101,99,116]
def L4 (l:List Tok) (r:Qry×QS):Qry×QS:=
 if isQ l Ql r.2 then
  if (atM l (r.2.i+1)).2.2.1 != 0 then (r.1,⟨r.2.i+1,(atM l (r.2.i+1)).2.2.1,(atM l (r.2.i+1)).2.2.2⟩)
  else (⟨r.1.all,r.1.cols,(atM l (r.2.i+1)).1,r.1.lim⟩,⟨(atM l (r.2.i+1)).2.1.toNat,r.2.code,r.2.at_⟩)
 else r
/-- The number that strconv.Atoi hands back. -/
def Wn (s:Str):Int:=match Lib.atoiAll s with|.ok v=>v|.range=>Lib.atoiSat s|_=>0
def Jg (l:List Tok) (r:Qry×QS):Qry×QS:=
 if isQ l Ox r.2 then
  if (Af l (r.2.i+1)).kind != 3 then (r.1,Jv l 8 (Ff r.2))
  else if decide ((100000:Int)<Wn (Af l (r.2.i+1)).text) then (r.1,Jv l 3 (Ff r.2))
  else (⟨r.1.all,r.1.cols,r.1.whr,Wn (Af l (r.2.i+1)).text⟩,Ff (Ff r.2))
 else r
def mw:Qry:=⟨false,[],Av,0⟩
def APx (l:List Tok) (S:QS):QS:=if (Af l S.i).kind != 0 then Jv l 8 S else S
def v8 (l:List Tok):Qry×QS:=
 let r:=Jg l (L4 l (Ow l (⟨false,[],Av, -1⟩,U0 l jm ⟨0,0,0⟩)))
 (r.1,APx l (U0 l [59] r.2))
def v9 (l:List Tok):Qry×Int×Int:=if (v8 l).2.code != 0 then (mw,(v8 l).2.code,(v8 l).2.at_) else ((v8 l).1,0,0)
def Nk (s:Str):Qry×Int×Int:=if (Bs s).2.1 != 0 then (mw,(Bs s).2.1,((Bs s).2.2:Int)) else v9 (Bs s).1
def Mc (q:Qry):Bool := !(eqE q.whr Av)
def Md (q:Qry):Bool:=
 if (((q.all != ((q.cols.length:Int)==0)) || decide ((12:Int)<(q.cols.length:Int))) || decide (q.lim < -1)) || decide ((100000:Int)<q.lim) then false
 else (q.cols.all Eb)&&(!(Mc q) || Ga q.whr)
/-! The words of what is printed. -/
set_option maxRecDepth 8000
/-! The document's kinds of trees are infer's. -/
/-! Moves: what mig.Right, sound.* and the document's layers 18, 19 answer. -/
structure Mov where
 kind:Int
 take:List Str
 give:List Col
 ahead:List Expr
 back:List Expr
abbrev C4 (l:List Expr):AV:=.slice false 6 (l.map Aa)
abbrev Kt (m:Mov):List AV:=[A3 m.kind,G9 m.take,Am m.give,C4 m.ahead,C4 m.back]
abbrev Hs (m:Mov):AV:=.agg (Kt m)
abbrev Eh (l:List Mov):AV:=.slice false 5 (l.map Hs)
/-- Trees that may be walked. -/
structure OkEs (l:List Expr):Prop where
 len:l.length≤1048576
 ok:∀e∈l,okE 61 e
 size:∀e∈l,sizeE e≤1048576
 rng:∀e∈l,Dy Ge e=true
structure OkMov (m:Mov):Prop where
 takes:m.take.length≤1048576
 names:∀s∈m.take,s.length≤1048576
 gives:OkCols m.give
 gives2:m.give.length≤1000000
 ahead:OkEs m.ahead
 back:OkEs m.back
structure OkMovs (l:List Mov):Prop where
 len:l.length≤1048576
 each:∀m∈l,OkMov m
def Ha (m:Mov):Bool:=
 if ((m.ahead.length:Int) != (m.give.length:Int)) || ((m.back.length:Int) != (m.take.length:Int)) then false
 else if m.kind==1 then ((m.take.length:Int)==0)&&((m.give.length:Int)==1)
 else if m.kind==2 then ((m.take.length:Int)==1)&&((m.give.length:Int)==0)
 else if (m.kind==3) || (m.kind==6) then ((m.take.length:Int)==1)&&((m.give.length:Int)==1)
 else if m.kind==4 then ((m.take.length:Int)==1)&&decide ((1:Int)<(m.give.length:Int))
 else if m.kind==5 then decide ((1:Int)<(m.take.length:Int))&&((m.give.length:Int)==1)
 else false
def Qm (m:Mov) (c:Col):Bool:=Eb c.name&&(((Db c.kind==[])==(m.kind==3)) && !((m.kind==3)&&(c.kind != 0)))
def Sq (m:Mov):Bool:=
 if m.kind==3 then eqE (m.ahead.getD 0 Av) (D6 (m.take.getD 0 []))&&eqE (m.back.getD 0 Av) (D6 (m.give.getD 0 ⟨[],0⟩).name)
 else if m.kind==6 then m.take.getD 0 []==(m.give.getD 0 ⟨[],0⟩).name else true
def I5 (m:Mov):Bool:=(((((Ha m&&m.give.all (Qm m))&&m.take.all Eb)&&m.ahead.all Az)&&m.back.all Az)&&Sq m)
def rt (l:List Mov):Bool:=decide ((l.length:Int)≤8)&&l.all I5
/-! Columns behind moves. -/
def Rw (e:Expr) (c:List Col) (w:Int):Bool:=((Gb e c).2==0)&&(((Gb e c).1==w) || ((Gb e c).1==0))
def By (c:List Col) (m:Mov):List Col:=
 if m.kind==3 then (if Ay (m.take.getD 0 []) c<0 then m.give else match m.give with
  | []=>[]
  | y::r=>⟨y.name,(c.getD (Ay (m.take.getD 0 []) c).toNat ⟨[],0⟩).kind⟩::r)
 else m.give
def Rk (e:Expr) (c:List Col) (w:Int):Int:=if (Gb e c).2 != 0 then (Gb e c).2 else if !Rw e c w then 10 else 0
def D8 (over:List Col):List Expr→List Col→Int
 | x::r,w::ws=>if Rk x over w.kind != 0 then Rk x over w.kind else D8 over r ws
 | _,_=>0
def Gp (c:List Col) (m:Mov):List Col:=m.take.map fun s=>c.getD (Ay s c).toNat ⟨[],0⟩
def Bp (c:List Col) (m:Mov):List Col×Int:=
 if (E2 c m.take (By c m)).2 != 0 then ([],(E2 c m.take (By c m)).2)
 else if D8 c m.ahead (By c m) != 0 then ([],D8 c m.ahead (By c m))
 else if D8 (E2 c m.take (By c m)).1 m.back (Gp c m) != 0 then ([],D8 (E2 c m.take (By c m)).1 m.back (Gp c m))
 else ((E2 c m.take (By c m)).1,0)
/-- The columns ahead of each move and behind the last one, till one is wrong; the error. -/
def C7 (c:List Col):List Mov→List (List Col)×Int
 | []=>([c],0)
 | m::r=>if (Bp c m).2 != 0 then ([c],(Bp c m).2) else (c::(C7 (Bp c m).1 r).1,(C7 (Bp c m).1 r).2)
def L5 (c:List Col) (l:List Mov):Bool:=Cs c&&rt l
/-- ref19.Steps. -/
def K9 (c:List Col) (l:List Mov):List (List Col)×Int:=if L5 c l then C7 c l else ([],1)
/-- sound.Steps. -/
def Bn (c:List Col) (l:List Mov):List (List Col)×Int:=if (K9 c l).2 != 0 then ([],(K9 c l).2) else K9 c l
def Fl (c:List Col) (l:List Mov):List Col×Int:=if (Bn c l).2 != 0 then ([],(Bn c l).2) else ((Bn c l).1.getLastD [],0)
theorem It {m:Mov} (h:I5 m=true):Ha m=true:=by
 unfold I5 at h
 simp only [As] at h
 exact h.1.1.1.1.1
theorem Fg {m:Mov} (h:Ha m=true):m.ahead.length=m.give.length∧m.back.length=m.take.length:=by
 unfold Ha at h
 split at h
 ·cases h
 rename_i h1
 simp only [D7,bne_iff_ne,ne_eq,not_or,Classical.not_not] at h1
 omega
theorem Zs {m:Mov} (h:Ha m=true) (h3:((m.kind==3) || (m.kind==6))=true):m.take.length=1∧m.give.length=1:=by
 unfold Ha at h
 split at h
 ·cases h
 have h1:(m.kind==1)=false:=by simp at h3 ⊢;omega
 have h2:(m.kind==2)=false:=by simp at h3 ⊢;omega
 simp only [h1,h2,h3,if_true,if_false,Bg,As,beq_iff_eq] at h
 omega
theorem Ka (c:List Col) (m:Mov):(By c m).length=m.give.length:=by
 unfold By
 split
 ·split
  ·rfl
  split<;>simp_all
 rfl
set_option maxRecDepth 4000
/-! What query.Check, query.Run answer. -/
def Cu (q:Qry) (c:List Col):Int:=
 if !Md q || !Jb c then 1 else if q.cols.any (fun s=>decide (Ay s c<0)) then 9 else if !Mc q then 0
 else if (Gb q.whr c).2 != 0 then (Gb q.whr c).2 else if !Rw q.whr c 3 then 10 else 0
def U1 (r:Rs):Int:=if (((r.2==0)&&(r.1.kind != 0))&&(r.1.kind != 3))=true then 10 else r.2
def Zt (r:Rs):Bool:=(U1 r==0)&&(((r.1.kind==3)&&(r.1.n==1))&&(r.1.s==[]))
def Cj (q:Qry) (c:List Col) (l:List Val):Bool×Int:=if !Ew c l then (false,1) else if !Mc q then (true,0) else (Zt (Bx q.whr c l),U1 (Bx q.whr c l))
def Ku (q:Qry) (c:List Col) (x:Row):Row:=⟨x.key,if q.all then x.l else q.cols.map fun s=>x.l.getD (Ay s c).toNat noV⟩
def Nl (q:Qry) (c:List Col):List Row→List Row→List Row×Int
 | [],o=>(o,0)
 | x::r,o=>if (Cj q c x.l).2 != 0 then ([],(Cj q c x.l).2) else if (Cj q c x.l).1 then
   (if ((o.length+1:Nat):Int)==q.lim then (o++[Ku q c x],0) else Nl q c r (o++[Ku q c x])) else Nl q c r o
def Vo (q:Qry) (c:List Col) (rows:List Row):List Row×Int:=if (Cu q c != 0) || (q.lim==0) then ([],Cu q c) else Nl q c rows []
/-! A limit cuts the answer. -/
/-! Some of all. -/
theorem ze {q:Qry} {c:List Col} {l:List Val} (h:((Cj q c l).2 != 0)=false):Ew c l=true:=by
 cases hr:Ew c l with
 | true=>rfl
 | false=>simp [Cj,hr] at h
abbrev Zu (s:Sign):AV:=.agg [.slice false 1 (s.kids.map A3),A3 s.own]
theorem AE4 {m:Sign} {a o:Int} (h:m=⟨[a],o⟩):AV.agg [.slice false 1 [A3 a],A3 o]=Zu m:=by rw [h];rfl
theorem AE5 {m:Sign} {a b o:Int} (h:m=⟨[a,b],o⟩):AV.agg [.slice false 1 [A3 a,A3 b],A3 o]=Zu m:=by rw [h];rfl
theorem AE6 {m:Sign} {a b c o:Int} (h:m=⟨[a,b,c],o⟩):AV.agg [.slice false 1 [A3 a,A3 b,A3 c],A3 o]=Zu m:=by rw [h];rfl
theorem ASr (s:Str) (Hp:List AObj):AFun Tryz.prog 181 [Ac s] Hp (Zu (Ec s)):=by
 refine Ae [.cell 2 186] [0] Tryz.func181 Tryz.ntmps181 (fun d=>?_)
 refine Z64 ?_;refine Z33 ?_;refine Jz ?_;refine K1 ?_
 refine W.join ⟨24,A6 2 (.ptr (oid Hp.length 0) 0) (A6 3 (Ac s) (A6 4 (B4 ((s==[111,114]) || (s==[97,110,100]))) (fun _=>.any))),Hp,[.cells 186 [.nil,A3 0]],[],none⟩ ?_ ?_
 ·refine Z1 ?_;refine A2 [2,3,4] ?_
  refine A4 (fun ht4=>?_) (fun ht4=>?_)
  ·refine Fo [2,3,4] ?_;exact AGg
  refine Z21 ?_;refine A2 [2,3,4] ?_;exact Z61
 refine A4 (fun ht4=>?_) (fun ht4=>?_)
 ·refine kz ?_;exact Z63
 refine W.join ⟨24,A6 2 (.ptr (oid Hp.length 0) 0) (A6 3 (Ac s) (A6 9 (B4 ((((((s==[61]) || (s==[33,61])) || (s==[60])) || (s==[60,61])) || (s==[62])) || (s==[62,61]))) (fun _=>.any))),Hp,[.cells 186 [.nil,A3 0]],[],none⟩ ?_ ?_
 ·refine xg ?_
  refine A4 (fun ht9=>?_) (fun ht9=>?_)
  ·exact ABw
  refine xg ?_
  refine A4 (fun ht9=>?_) (fun ht9=>?_)
  ·exact ABw
  refine xg ?_
  refine A4 (fun ht9=>?_) (fun ht9=>?_)
  ·exact ABw
  refine xg ?_
  refine A4 (fun ht9=>?_) (fun ht9=>?_)
  ·exact ABw
  refine xg ?_
  refine A4 (fun ht9=>?_) (fun ht9=>?_)
  ·exact ABw
  refine Z21 ?_;refine A2 [2,3,9] ?_;exact Z61
 refine A4 (fun ht9=>?_) (fun ht9=>?_)
 ·refine kz ?_;exact Z63
 refine Z1 ?_;refine A2 [2,18] ?_
 refine A4 (fun ht18=>?_) (fun ht18=>?_)
 ·refine kz ?_;exact Z63
 refine Z20 ?_;refine kz ?_;exact AOr
theorem ASs (s:Str) (Hp:List AObj):AFun Tryz.prog 182 [Ac s] Hp (Zu (G6 s)):=by
 refine Ae [.cell 2 186] [0] Tryz.func182 Tryz.ntmps182 (fun d=>?_)
 refine Z64 ?_;refine Z33 ?_;refine Jz ?_;refine K1 ?_
 refine W.join ⟨28,A6 2 (.ptr (oid Hp.length 0) 0) (A6 3 (Ac s) (A6 4 (B4 ((s==[108,101,110]) || (s==[110,117,109]))) (fun _=>.any))),Hp,[.cells 186 [.nil,A3 0]],[],none⟩ ?_ ?_
 ·refine Z1 ?_;refine A2 [2,3,4] ?_
  refine A4 (fun ht4=>?_) (fun ht4=>?_)
  ·refine Fo [2,3,4] ?_;exact AGg
  refine Z21 ?_;refine A2 [2,3,4] ?_;exact Z61
 refine A4 (fun ht4=>?_) (fun ht4=>?_)
 ·exact AC0
 refine xg ?_
 refine A4 (fun ht9=>?_) (fun ht9=>?_)
 ·exact AC0
 refine W.join ⟨28,A6 2 (.ptr (oid Hp.length 0) 0) (A6 3 (Ac s) (A6 13 (B4 ((s==[108,101,102,116]) || (s==[114,105,103,104,116]))) (fun _=>.any))),Hp,[.cells 186 [.nil,A3 0]],[],none⟩ ?_ ?_
 ·refine Z1 ?_;refine A2 [2,3,13] ?_
  refine A4 (fun ht13=>?_) (fun ht13=>?_)
  ·refine Fo [2,3,13] ?_;exact AGg
  refine Z21 ?_;refine A2 [2,3,13] ?_;exact Z61
 refine A4 (fun ht13=>?_) (fun ht13=>?_)
 ·exact AC0
 refine Z1 ?_;refine A2 [2,3,18] ?_
 refine A4 (fun ht18=>?_) (fun ht18=>?_)
 ·exact AC0
 refine Z1 ?_;refine A2 [2,22] ?_
 refine A4 (fun ht22=>?_) (fun ht22=>?_)
 ·exact AC0
 refine Z20 ?_;refine kz ?_;exact AOs
theorem ASt (e:Expr) (Hp:List AObj):AFun Tryz.prog 146 [Aa e] Hp (Zu (La e.op e.text)):=by
 refine Ae [.cell 2 186] [0] Tryz.func146 Tryz.ntmps146 (fun d=>?_)
 refine ACc ?_;refine A2 [1,2] ?_;refine Z7 ?_;refine A2 [1,2,4] ?_;refine X0 ?_;refine A2 [1,2,4,5] ?_
 refine A4 (fun ht5=>?_) (fun ht5=>?_)
 ·refine kz ?_;exact AKk
 refine Z1 ?_;refine A2 [1,2,4,9] ?_
 refine A4 (fun ht9=>?_) (fun ht9=>?_)
 ·refine kz ?_;exact AKk
 refine Z1 ?_;refine A2 [1,2,13] ?_
 refine A4 (fun ht13=>?_) (fun ht13=>?_)
 ·refine Z1 ?_;refine A7 Tryz.call181 (ASr e.text _) ?_;refine Z40 ?_;exact AKk
 refine Z20 ?_;refine Z1 ?_;refine A7 Tryz.call182 (ASs e.text _) ?_;refine Z40 ?_;exact AOt

theorem APy (a b:Int) (Hp:List AObj):AFun Tryz.prog 183 [A3 a,A3 b] Hp (.tup [A3 (Fe a b).1,B4 (Fe a b).2]):=by
 refine Ae [.tmp 4,.tmp 5] [0,1] Tryz.func183 Tryz.ntmps183 (fun d=>?_)
 refine ij ?_;refine l9 ?_;refine A2 [0,1,6] ?_
 refine A4 (fun ht6=>?_) (fun ht6=>?_)
 ·refine Z15 ?_;refine Z10 ?_;exact ANs
 refine Z15 ?_;refine Y7 ?_;refine A2 [0,10] ?_
 refine A4 (fun ht10=>?_) (fun ht10=>?_)
 ·refine Z15 ?_;refine Z10 ?_;exact ANs
 refine Z20 ?_;refine ii ?_;exact AOu

structure FitAt (s:Sign) (ks:List Int) (x:Nat×Int):Prop where
 le:x.1≤ks.length
 eq:H7 s.kids ks 0=H7 (s.kids.drop x.1) (ks.drop x.1) x.2
theorem FitAt.step {s:Sign} {ks:List Int} {x:Nat×Int} (h:FitAt s ks x) (hk:x.1<ks.length) (hs:x.1<s.kids.length):H7 s.kids ks 0=(if s.kids[x.1] == -2 then H7 (s.kids.drop (x.1+1)) (ks.drop (x.1+1)) x.2 else if s.kids[x.1] == -1 then (if (Fe x.2 ks[x.1]).2 then H7 (s.kids.drop (x.1+1)) (ks.drop (x.1+1)) (Fe x.2 ks[x.1]).1 else none) else if (Fe s.kids[x.1] ks[x.1]).2 then H7 (s.kids.drop (x.1+1)) (ks.drop (x.1+1)) x.2 else none):=by
 rw [h.eq,J1 hk,J1 hs,H7]
theorem FitAt.skip {s:Sign} {ks:List Int} {x:Nat×Int} (h:FitAt s ks x) (hk:x.1<ks.length) (hs:x.1<s.kids.length) (h2:(s.kids[x.1] == -2)=true):FitAt s ks (x.1+1,x.2):=⟨hk,by rw [h.step hk hs,if_pos h2]⟩
theorem FitAt.same {s:Sign} {ks:List Int} {x:Nat×Int} (h:FitAt s ks x) (hk:x.1<ks.length) (hs:x.1<s.kids.length) (h2:(s.kids[x.1] == -2)=false) (h1:(s.kids[x.1] == -1)=true) (hm:(Fe x.2 ks[x.1]).2=true):FitAt s ks (x.1+1,(Fe x.2 ks[x.1]).1):=⟨hk,by rw [h.step hk hs,if_neg (by rw [h2];simp),if_pos h1,if_pos hm]⟩
theorem FitAt.want {s:Sign} {ks:List Int} {x:Nat×Int} (h:FitAt s ks x) (hk:x.1<ks.length) (hs:x.1<s.kids.length) (h2:(s.kids[x.1] == -2)=false) (h1:(s.kids[x.1] == -1)=false) (hm:(Fe s.kids[x.1] ks[x.1]).2=true):FitAt s ks (x.1+1,x.2):=⟨hk,by rw [h.step hk hs,if_neg (by rw [h2];simp),if_neg (by rw [h1];simp),if_pos hm]⟩
theorem FitAt.bad {s:Sign} {ks:List Int} {x:Nat×Int} (h:FitAt s ks x) (hk:x.1<ks.length) (hs:x.1<s.kids.length) (h2:(s.kids[x.1] == -2)=false) (hm:(if s.kids[x.1] == -1 then (Fe x.2 ks[x.1]).2 else (Fe s.kids[x.1] ks[x.1]).2)=false):Pd s ks=(0,10):=by
 unfold Pd
 rw [h.step hk hs,if_neg (by rw [h2];simp)]
 split at hm
 ·rename_i h1
  rw [if_pos h1,if_neg (by rw [hm];simp)]
 rename_i h1
 rw [if_neg h1,if_neg (by rw [hm];simp)]
theorem FitAt.out {s:Sign} {ks:List Int} {x:Nat×Int} (h:FitAt s ks x) (hk:ks.length≤x.1):Pd s ks=if s.own == -1 then (x.2,0) else (s.own,0):=by
 unfold Pd
 rw [h.eq,ot hk]
 cases s.kids.drop x.1<;>rfl
theorem ASu (s:Sign) (ks:List Int) (hks:ks.length≤s.kids.length) (hk2:ks.length≤1048576) (Hp:List AObj):AFun Tryz.prog 147 [Zu s,.slice false 1 (ks.map A3)] Hp (.tup [A3 (Pd s ks).1,A3 (Pd s ks).2]):=by
 refine Ae [.tmp 4,.tmp 5] [0,1] Tryz.func147 Tryz.ntmps147 (fun d=>?_)
 refine Z15 ?_;refine A2 [1,2] ?_;refine bo ?_;refine A2 [1,2,6] ?_;refine Z29 ?_;refine y8 ?_
 refine Bi (α:=Nat×Int) (fun x=>⟨49,A6 2 (.ro [.slice false 1 (s.kids.map A3),A3 s.own]) (A6 6 (.ptr (oid Hp.length 0) 0) (A6 13 (.slice false 1 (ks.map A3)) (A6 14 (A3 (ks.length:Nat)) (A6 15 (A3 (x.1:Nat)) (fun _=>.any))))),Hp,[.cells 3 [A3 x.2]],[],none⟩) (fun x=>FitAt s ks x) (fun x=>ks.length-x.1) ((0,0)) ⟨Au _,rfl⟩ (Bo (by simp)) rfl (fun x hx=>?_)
 refine Z2 ?_;refine A2 [2,6,13,14,15,16] ?_
 refine Ck (fun ht16=>?_) (fun ht16=>?_)
 ·have hlt:x.1<ks.length:=by simpa using ht16
  have hls:x.1<s.kids.length:=by omega
  refine Rh ?_
  refine A5 (h:=Ag (x.1) (A3 ks[x.1]) (fun _=>B7 hlt)) (hr:=?_)
  refine Z12 ?_;refine A2 [2,6,7,8,13,14,15] ?_;refine Z15 ?_
  refine A5 (h:=Ag (x.1) (A3 s.kids[x.1]) (fun _=>B7 hls)) (hr:=?_)
  refine Z99 ?_;refine A2 [2,6,8,9,13,14,15] ?_;refine Z7 ?_;refine A2 [2,6,8,9,13,14,15,26] ?_
  refine A4 (fun ht26=>?_) (fun ht26=>?_)
  ·refine Fo [2,6,13,14,15] ?_;refine Z52 ?_;refine AC9 ?_;refine Z21 ?_;refine y8 ?_
   first|(refine Bt (x.1+1,x.2) (hx.skip hlt hls ht26) (by show ks.length-(x.1+1)<ks.length-x.1;omega) ?_;exact D0 (own:=[.cells 3 [A3 x.2]]) (fun _=>.refl _) (by repeat (first|exact Bb|refine Ba (by first|(simp [or_imp,forall_and];done)|(simp [oid]<;>omega)) ?_)) (by intro y hy;rw [B9.1 hy];intro z hz;rw [B9.1 hz];simp) (by simp))|(refine Bt (x.1+1,(Fe x.2 ks[x.1]).1) (hx.same hlt hls ht26 ht28 (by simpa using ht38)) (by show ks.length-(x.1+1)<ks.length-x.1;omega) ?_;exact D0 (own:=[.cells 3 [A3 (Fe x.2 ks[x.1]).1]]) (fun _=>.refl _) (by repeat (first|exact Bb|refine Ba (by first|(simp [or_imp,forall_and];done)|(simp [oid]<;>omega)) ?_)) (by intro y hy;rw [B9.1 hy];intro z hz;rw [B9.1 hz];simp) (by simp))|(refine Bt (x.1+1,x.2) (hx.want hlt hls ht26 ht28 (by simpa using ht38)) (by show ks.length-(x.1+1)<ks.length-x.1;omega) ?_;exact D0 (own:=[.cells 3 [A3 x.2]]) (fun _=>.refl _) (by repeat (first|exact Bb|refine Ba (by first|(simp [or_imp,forall_and];done)|(simp [oid]<;>omega)) ?_)) (by intro y hy;rw [B9.1 hy];intro z hz;rw [B9.1 hz];simp) (by simp))
  refine Oi ?_;refine A2 [2,6,8,9,10,13,14,15] ?_;refine Z7 ?_;refine A2 [2,6,8,10,13,14,15,28] ?_
  refine A4 (fun ht28=>?_) (fun ht28=>?_)
  ·refine Z50 ?_;refine A2 [2,6,8,10,13,14,15] ?_;refine Il ?_;refine Z23 ?_;refine A7 Tryz.call183 (APy _ _ _) ?_;refine Z59 ?_;refine A2 [2,6,10,11,12,13,14,15] ?_;refine Z7 ?_;refine A2 [2,6,10,11,13,14,15,38] ?_
   refine A4 (fun ht38=>?_) (fun ht38=>?_)
   ·have hbad:=hx.bad hlt hls ht26 (by first|(rw [if_pos ht28];simpa using ht38)|(rw [if_neg (by rw [ht28];simp)];simpa using ht38))
    refine AC1 ?_;exact AO0
   refine Z3 ?_;refine Z49 ?_;refine Hh ?_;refine y8 ?_;refine Q3 ?_;refine y8 ?_
   first|(refine Bt (x.1+1,x.2) (hx.skip hlt hls ht26) (by show ks.length-(x.1+1)<ks.length-x.1;omega) ?_;exact D0 (own:=[.cells 3 [A3 x.2]]) (fun _=>.refl _) (by repeat (first|exact Bb|refine Ba (by first|(simp [or_imp,forall_and];done)|(simp [oid]<;>omega)) ?_)) (by intro y hy;rw [B9.1 hy];intro z hz;rw [B9.1 hz];simp) (by simp))|(refine Bt (x.1+1,(Fe x.2 ks[x.1]).1) (hx.same hlt hls ht26 ht28 (by simpa using ht38)) (by show ks.length-(x.1+1)<ks.length-x.1;omega) ?_;exact D0 (own:=[.cells 3 [A3 (Fe x.2 ks[x.1]).1]]) (fun _=>.refl _) (by repeat (first|exact Bb|refine Ba (by first|(simp [or_imp,forall_and];done)|(simp [oid]<;>omega)) ?_)) (by intro y hy;rw [B9.1 hy];intro z hz;rw [B9.1 hz];simp) (by simp))|(refine Bt (x.1+1,x.2) (hx.want hlt hls ht26 ht28 (by simpa using ht38)) (by show ks.length-(x.1+1)<ks.length-x.1;omega) ?_;exact D0 (own:=[.cells 3 [A3 x.2]]) (fun _=>.refl _) (by repeat (first|exact Bb|refine Ba (by first|(simp [or_imp,forall_and];done)|(simp [oid]<;>omega)) ?_)) (by intro y hy;rw [B9.1 hy];intro z hz;rw [B9.1 hz];simp) (by simp))
  refine Y6 ?_;refine A7 Tryz.call183 (APy _ _ _) ?_;refine Z59 ?_;refine A2 [2,6,10,11,12,13,14,15] ?_;refine Z7 ?_;refine A2 [2,6,10,11,13,14,15,38] ?_
  refine A4 (fun ht38=>?_) (fun ht38=>?_)
  ·have hbad:=hx.bad hlt hls ht26 (by first|(rw [if_pos ht28];simpa using ht38)|(rw [if_neg (by rw [ht28];simp)];simpa using ht38))
   refine AC1 ?_;exact AO0
  refine Z3 ?_;refine Z49 ?_;refine Hh ?_;refine y8 ?_;refine Q3 ?_;refine y8 ?_
  first|(refine Bt (x.1+1,x.2) (hx.skip hlt hls ht26) (by show ks.length-(x.1+1)<ks.length-x.1;omega) ?_;exact D0 (own:=[.cells 3 [A3 x.2]]) (fun _=>.refl _) (by repeat (first|exact Bb|refine Ba (by first|(simp [or_imp,forall_and];done)|(simp [oid]<;>omega)) ?_)) (by intro y hy;rw [B9.1 hy];intro z hz;rw [B9.1 hz];simp) (by simp))|(refine Bt (x.1+1,(Fe x.2 ks[x.1]).1) (hx.same hlt hls ht26 ht28 (by simpa using ht38)) (by show ks.length-(x.1+1)<ks.length-x.1;omega) ?_;exact D0 (own:=[.cells 3 [A3 (Fe x.2 ks[x.1]).1]]) (fun _=>.refl _) (by repeat (first|exact Bb|refine Ba (by first|(simp [or_imp,forall_and];done)|(simp [oid]<;>omega)) ?_)) (by intro y hy;rw [B9.1 hy];intro z hz;rw [B9.1 hz];simp) (by simp))|(refine Bt (x.1+1,x.2) (hx.want hlt hls ht26 ht28 (by simpa using ht38)) (by show ks.length-(x.1+1)<ks.length-x.1;omega) ?_;exact D0 (own:=[.cells 3 [A3 x.2]]) (fun _=>.refl _) (by repeat (first|exact Bb|refine Ba (by first|(simp [or_imp,forall_and];done)|(simp [oid]<;>omega)) ?_)) (by intro y hy;rw [B9.1 hy];intro z hz;rw [B9.1 hz];simp) (by simp))
 have hxe:ks.length≤x.1:=by simpa using ht16
 have hout:=hx.out hxe
 refine Z27 ?_;refine Z29 ?_;refine A2 [2,6,45] ?_
 refine A4 (fun ht45=>?_) (fun ht45=>?_)
 ·refine Z15 ?_;refine Z10 ?_;refine Cz ?_;exact A9 (B1 A8 A8) ⟨by rw [hout,if_pos ht45],rfl⟩
 refine Y6 ?_;refine Z10 ?_;exact A9 (B1 A8 A8) ⟨by rw [hout,if_neg (by rw [ht45];simp)],rfl⟩

theorem AE7 {n k:Nat} {own:Bool} {l:List Int}:Low n (.slice own k (l.map A3)):=low_slice.2 fun y hy=>by
 obtain ⟨z,_,rfl⟩:=C2.1 hy
 simp
theorem vd {n:Nat} {e:Expr}:Low n (.ro (Ex e)):=by have:=Ak n e;rw [Ap] at this;simpa using this
theorem Gu {c:List Col} {t:Str} (h:¬(Ay t c<0)):∃(j:Nat),Ay t c=(j:Int)∧j<c.length:=by
 obtain ⟨j,y,h2,_,h3⟩:=find_mem.1 h
 exact ⟨j,h3,(Ad.1 h2).1⟩
theorem AE8 {c:List Col} {e:Expr} (h:(e.op==1)=true):Bh c e=(e.val.kind,0):=by rw [Qh];unfold Ns;rw [if_pos h]
theorem zf {c:List Col} {e:Expr} (h1:(e.op==1)=false) (h:(e.op==2)=true):Bh c e=Je c e.text:=by rw [Qh];unfold Ns;rw [h1,if_pos h];rfl
theorem AE9 {c:List Col} {e:Expr} (h1:(e.op==1)=false) (h2:(e.op==2)=false) {x:Nat} (hx:x<e.kids.length) (h0:∀(j:Nat) (y:Expr),j<x→e.kids[j]? = some y→((Bh c y).2 != 0)=false) (hb:((Bh c e.kids[x]).2 != 0)=true):Bh c e=(0,(Bh c e.kids[x]).2):=by
 rw [Qh]
 unfold Ns
 rw [h1,h2]
 have:(e.kids.map (Bh c)).find? (fun q=>q.2 != 0)=some ((e.kids.map (Bh c))[x]'(by simpa using hx)):=iz (by simpa using hx) (by simpa using hb) (fun j y hj hy=>by
  rw [C5,En] at hy
  obtain ⟨z,hz,rfl⟩:=hy
  exact h0 j z hj hz)
 rw [this]
 simp
theorem AEa {c:List Col} {e:Expr} (h1:(e.op==1)=false) (h2:(e.op==2)=false) (h0:∀(j:Nat) (y:Expr),j<e.kids.length→e.kids[j]? = some y→((Bh c y).2 != 0)=false):Bh c e=Pd (La e.op e.text) (e.kids.map fun y=>(Bh c y).1):=by
 rw [Qh]
 unfold Ns
 rw [h1,h2]
 have:(e.kids.map (Bh c)).find? (fun q=>q.2 != 0)=none:=V2 (fun j y hy=>by
  rw [C5,En] at hy
  obtain ⟨z,hz,rfl⟩:=hy
  exact h0 j z (Ad.1 hz).1 hz)
 rw [this]
 simp only [Kd]
 rfl
theorem zg (f:Expr→Int) (l:List Expr) {x:Nat} (h:x<l.length):((l.take x).map f).map A3++[A3 (f l[x])]=((l.take (x+1)).map f).map A3:=by rw [J4 h,Bj,Bj];rfl
theorem ASv (c:List Col) (hc:OkCols c):∀(n:Nat) (e:Expr),okE n e→Dy F1 e=true→∀Hp:List AObj,AFun Tryz.prog 110 [Aa e,Am c] Hp (.tup [A3 (Bh c e).1,A3 (Bh c e).2]):=by
 intro n
 induction n with
 | zero=>exact fun e h=>h.elim
 | succ n ih =>
 intro e hok hnd Hp
 have hnd0:=hnd
 rw [Jc,As] at hnd0
 refine Ae [.tmp 4,.tmp 5] [0,1] Tryz.func110 Tryz.ntmps110 (fun d=>?_)
 refine Z15 ?_;refine A2 [1,2] ?_;refine Z7 ?_;refine A2 [1,2,13] ?_;refine X0 ?_;refine A2 [1,2,13,14] ?_
 refine A4 (fun ht14=>?_) (fun ht14=>?_)
 ·have hk:=AE8 (c:=c) ht14
  refine Z1 ?_;refine Z12 ?_;refine Z10 ?_;refine Z5 ?_;exact AKz
 refine Z1 ?_;refine A2 [1,2,19] ?_
 refine A4 (fun ht19=>?_) (fun ht19=>?_)
 ·have hk:=zf (c:=c) ht14 ht19
  refine Z15 ?_;refine A7 Tryz.call60 (c60 c hc e.text _) ?_;refine A5 ?_;refine A2 [1,6] ?_;refine Z7 ?_;refine A2 [1,6,26] ?_
  refine A4 (fun ht26=>?_) (fun ht26=>?_)
  ·have hk2:Je c e.text=(0,9):=if_pos (by simpa using ht26)
   refine AC1 ?_;exact AO1
  have hneg:¬(Ay e.text c<0):=by simpa using ht26
  obtain ⟨j,hj,hjl⟩:=Gu hneg
  have hk2:Je c e.text=(c[j].kind,0):=by
   unfold Je
   rw [if_neg hneg,hj,Int.toNat_natCast,Bv,Ab hjl]
   rfl
  rw [hj]
  refine Nc ?_
  refine A5 (h:=Ag (j) (Cc c[j]) (fun _=>B7 hjl)) (hr:=?_)
  refine Z68 ?_;refine Z10 ?_;exact AO1
 refine Z20 ?_;refine Z2 ?_;refine A2 [1,2,7] ?_;refine Z43 ?_;refine Na 7 1 ?_;refine Z68 ?_;refine A2 [1,2,7,33,34,35] ?_
 refine Bi (α:=Nat) (fun x=>⟨59,A6 1 (Am c) (A6 2 (.ro (Ex e)) (A6 7 (.slice true 1 (((e.kids.take x).map fun y=>(Bh c y).1).map A3)) (A6 33 (.slice false 6 (e.kids.map Aa)) (A6 34 (A3 (e.kids.length:Nat)) (A6 35 (A3 (x:Nat)) (fun _=>.any)))))),Hp,[],[],none⟩) (fun x=>x≤e.kids.length∧∀(j:Nat) (y:Expr),j<x→e.kids[j]? = some y→((Bh c y).2 != 0)=false) (fun x=>e.kids.length-x) (0) ⟨Au _,fun j y h=>by omega⟩ (Bo (by simp)) rfl (fun x hx=>?_)
 refine Z2 ?_;refine A2 [1,2,7,33,34,35,36] ?_
 refine Ck (fun ht36=>?_) (fun ht36=>?_)
 ·have hlt:x<e.kids.length:=by simpa using ht36
  have hkl:=hok.2.1
  refine Z73 ?_
  refine A5 (h:=Ag (x) (Aa e.kids[x]) (fun _=>B7 hlt)) (hr:=?_)
  refine Z99 ?_;refine A2 [1,2,7,9,33,34,35] ?_;refine Z1 ?_;refine A7 Tryz.call110 (ih e.kids[x] (hok.2.2 _ (Bl hlt)) ((Fu _ _).1 hnd0.2 _ (Bl hlt)) _) ?_;refine Z59 ?_;refine A2 [1,2,7,10,11,33,34,35] ?_;refine Z7 ?_;refine A2 [1,2,7,10,11,33,34,35,46] ?_
  refine A4 (fun ht46=>?_) (fun ht46=>?_)
  ·have hkb:=AE9 (c:=c) ht14 ht19 hlt hx.2 ht46
   refine Z15 ?_;refine Z10 ?_;refine Cz ?_;refine Z48 ?_;exact A9 (B1 A8 A8) ⟨by rw [hkb],rfl⟩
  refine Z3 ?_;refine bi ?_;refine Z58 ?_
  refine E6 jU Tryz.type3 ?_ ?_ ?_
  ·simp only [Ah,C1,B0,Bu,Tryz.t3];omega
  ·simp only [Ah,C1,B0,Bu,Tryz.t3];omega
  refine Oj ?_;refine A2 [1,2,7,33,34,35] ?_;refine Q3 ?_;refine A2 [1,2,7,33,34,35] ?_;refine Bt (x+1) ⟨hlt,Di hlt hx.2 ht46⟩ (by omega) ?_
  simp only [show Tryz.t3.size=1 from rfl,zg]
  exact D0 (own:=[]) (fun _=>.refl _) (by repeat (first|exact Bb|refine Ba (by first|exact AE7|exact vd|exact Dj|(simp [or_imp,forall_and];done)) ?_)) (by simp) (by simp)
 have hxe:e.kids.take x=e.kids:=E9 (by simp at ht36;omega)
 have hxl:e.kids.length≤x:=by simp at ht36;omega
 have hka:=AEa (c:=c) ht14 ht19 (fun j y hj hy=>hx.2 j y (by omega) hy)
 rw [hxe]
 refine qc ?_;refine A7 Tryz.call146 (ASt e _) ?_;refine A5 ?_
 refine A7 Tryz.call147 (ASu (La e.op e.text) (e.kids.map fun y=>(Bh c y).1) (by rw [ADr hnd0.1 ht14 ht19];simp) (by simpa using hok.2.1) _) ?_
 refine Z68 ?_;refine Z10 ?_;exact A9 (B1 A8 A8) ⟨by rw [hka],rfl⟩

theorem My {e:Expr} (h:Az e=true):Dy F1 e=true:=by
 rw [Fv] at h
 unfold Ga at h
 rw [As] at h
 exact h.2
theorem c62 (n:Nat) (e:Expr) (hok:okE n e) (hn:n≤1048576) (c:List Col) (hc:OkCols c) (Hp:List AObj):AFun Tryz.prog 62 [Aa e,Am c] Hp (.tup [A3 (Gb e c).1,A3 (Gb e c).2]):=by
 refine Ae [.tmp 4,.tmp 5] [0,1] Tryz.func62 Tryz.ntmps62 (fun d=>?_)
 refine Z15 ?_;refine A2 [1,2] ?_;refine Z33 ?_;refine A7 Tryz.call96 (c96 n e hok hn _) ?_;refine Rg ?_;refine Ca Tryz.call50 (fun hB=>c50 c hc _) ?_;refine Z55 ?_;refine A2 [1,2,13] ?_
 refine A4 (fun ht13=>?_) (fun ht13=>?_)
 ·have hk:Gb e c=(0,1):=if_pos ht13
  refine AC1 ?_;exact AKz
 have hk:Gb e c=Bh c e:=if_neg (by rw [ht13];simp)
 have hr:Az e=true:=by simp only [Ei,Ph] at ht13;exact ht13.1
 refine Nc ?_;refine A7 Tryz.call110 (ASv c hc n e hok (My hr) _) ?_;refine Z68 ?_;refine Z10 ?_;exact AKz

theorem D5 {n k:Nat} {o:Bool} {l:List Col}:Low n (.slice o k (l.map Cc)):=by simp [or_imp,forall_and]
theorem ck {α β:Type} {f:α→β} {l:List α} {k:Nat} {y:α} (h:l[k]? = some y):(l.map f)[k]? = some (f y):=by rw [C5,h];rfl
theorem ASw (c:List Col) (hc:OkCols c) (take:List Str) (ht:take.length≤1048576) (give:List Col) (hg:OkCols give) (hg2:give.length≤1000000) (Hp:List AObj):AFun Tryz.prog 165 [Am c,G9 take,Am give] Hp (.tup [Am (E2 c take give).1,A3 (E2 c take give).2]):=by
 refine Ae [.tmp 6,.tmp 7] [0,1,2,9] Tryz.func165 Tryz.ntmps165 (fun d=>?_)
 refine Z1 ?_;refine A2 [0,1,2,9] ?_;refine Z33 ?_;refine A7 Tryz.call125 (APp c hc _) ?_;refine A5 ?_;refine A2 [0,1,2,9,12] ?_
 refine A4 (fun ht12=>?_) (fun ht12=>?_)
 ·have hr:Cs c=false:=by rw [Kq] at ht12;simpa using ht12
  refine AC5 ?_;refine q8 ?_;exact A9 (B1 A8 A8) ⟨by rw [ADj hr];try rfl,rfl⟩
 have hr:Cs c=true:=by rw [Kq] at ht12;simpa using ht12
 refine iu ?_;refine A7 Tryz.call210 (AS9 c hc take ht _) ?_;refine A5 ?_;refine A2 [0,1,2,9,16] ?_
 refine A4 (fun ht16=>?_) (fun ht16=>?_)
 ·have hk:Jd c take=false:=by simpa using ht16
  refine AC5 ?_;refine q8 ?_;exact A9 (B1 A8 A8) ⟨by rw [ADk hr hk];try rfl,rfl⟩
 have hk:Jd c take=true:=by simpa using ht16
 refine Z3 ?_;refine Z24 ?_;refine A2 [0,1,2,8,9] ?_;refine Z43 ?_;refine L1 0 2 ?_
 refine Jx (fun hlow=>?_)
 refine Z0 ?_;refine A7 Tryz.call211 (ASb c take _) ?_;refine A2 [2,8,9,19] ?_;refine K1 ?_
 refine L2 (m:=1) Tryz.call239 (fun FR as' bd' hFR has hbd=>?_)
 have hFRl:∀s,Low (Hp.length+3) (FR s):=by
  intro s
  rw [hFR]
  refine Lz ?_
  revert s
  repeat (first|exact Bb|refine Ba (by simp [oid,or_imp,forall_and]<;>try omega) ?_)
 have hOl:∀{k:Nat},∀x∈[AObj.cells 30 [.slice true 2 ((Dg (c.take k) take).map Cc)],AObj.defs,AObj.loop LoopState.ready none FR 41 #[20] as' bd' (oid Hp.length 1)],ObjLow (Hp.length+3) x:=by
  intro k x hx
  simp only [B3,E5,or_false] at hx
  rcases hx with rfl|rfl|rfl
  ·intro y hy
   rw [B9.1 hy]
   exact D5
  ·trivial
  exact ACg
 refine ⟨_,ASc (oid Hp.length 2) c take hc.len ht (fun k=>Hp++[AObj.cells 30 [.slice true 2 ((Dg (c.take k) take).map Cc)],AObj.defs,AObj.loop LoopState.ready none FR 41 #[20] as' bd' (oid Hp.length 1)]) (fun k=>by simp) (by simp [oid]) (fun k x hx=>?_) (fun k y hk hcn=>by simp only [yz hk hcn]) (fun k y X hk hcn=>?_),?_⟩
 ·have:=Id (fun x hx=>L3 (by omega) (hlow x hx)) hOl x hx
  simpa using this
 ·generalize hV:Hp++[AObj.cells 30 [.slice true 2 ((Dg (c.take k) take).map Cc)],AObj.defs,AObj.loop LoopState.ready none FR 41 #[20] as' bd' (oid Hp.length 1)]++X=V
  have hL:V[oid Hp.length 2]? = some (AObj.loop LoopState.ready none FR 41 #[20] as' bd' (oid Hp.length 1)):=by rw [←hV,Ax,Ar];rfl
  have hA0:V[oid Hp.length 0]? = some (AObj.cells 30 [.slice true 2 ((Dg (c.take k) take).map Cc)]):=by rw [←hV,Ax,Ar];rfl
  refine J8 (pd:=none) (fr:=FR) (sz:=41) (ps:=#[20]) (df:=oid Hp.length 1) (asg:=as') (bd:=bd') hL rfl (by decide) (fun d=>?_)
  subst hFR has hbd
  refine Fo [8,20] ?_;refine AC8 ?_;refine A2 [8,9] ?_
  refine ⟨rfl,none,hL,?_⟩
  generalize hbz:(AObj.loop LoopState.busy _ _ _ _ _ _ _)=bz
  have hA:(V.set (oid Hp.length 2) bz)[oid Hp.length 0]? = some (AObj.cells 30 [.slice true 2 ((Dg (c.take k) take).map Cc)]):=by rw [Bk (Bf (by decide))];exact hA0
  refine K1 ?_;refine Ih ?_;refine AGq ?_
  refine E6 jU Tryz.type69 ?_ ?_ ?_
  ·have h1:=Kr (c.take k) take;have h2:=hc.len;simp only [C1] at h1;simp [Tryz.t69];omega
  ·have h1:=Kr (c.take k) take;have h2:=hc.len;simp only [C1] at h1;simp [Tryz.t69];omega
  refine Gm jS (getset hA) ?_ ?_
  ·exact yy
  refine Z91 ?_
  subst hbz
  refine xy ?_
  refine ⟨rfl,?_⟩
  subst hV
  simp only [Ax,Cp,Dh,D9,List.set_cons_succ,List.set_cons_zero]
  rw [AHk hk hcn,Bj]
  rfl
 rintro r H' rfl
 simp only [Mp]
 refine ⟨Hp,_,_,_,rfl,rfl,fun h=>h,?_,rfl,by simp,?_⟩
 ·intro o ho
  have:o=oid Hp.length 1:=by simpa using ho
  subst this
  rw [Ar]
  rfl
 refine Z13 ?_;refine F0 ?_;refine Y0 jA ?_;refine A5 ?_
 refine E6 jU Tryz.type69 ?_ ?_ ?_
 ·have h1:=Kr c take;have h2:=Vi hr;simp [Tryz.t69];omega
 ·have h1:=Kr c take;have h2:=Vi hr;simp [Tryz.t69];omega
 refine Y1 jS ?_;refine A2 [8] ?_;refine Z73 ?_
 have e10:(Dg c take).map Cc++give.map Cc=(Dg c take++give).map Cc:=(Bj ..).symm
 rw [e10]
 generalize hout:Dg c take++give=out
 have ho:OkCols out:=ADp hc hr hg hg2 hout
 refine A5 ?_;refine A7 Tryz.call212 (ASa out ho _) ?_;refine Z0 ?_;refine A2 [8,28] ?_
 refine A4 (fun ht28=>?_) (fun ht28=>?_)
 ·have hn:Ma out=false:=by simpa using ht28
  refine AC5 ?_;refine Z96 ?_;refine Z5 ?_;exact A9 (B1 A8 A8) ⟨by rw [ADl hr hk hout hn];try rfl,rfl⟩
 have hn:Ma out=true:=by simpa using ht28
 refine Z2 ?_;refine A7 Tryz.call50 (c50 out ho _) ?_;refine Z0 ?_;refine A2 [8,32] ?_
 refine A4 (fun ht32=>?_) (fun ht32=>?_)
 ·have hq:Jq out=false:=by rw [Mw] at ht32;simpa using ht32
  refine AC5 ?_;refine Z96 ?_;refine Z5 ?_;exact A9 (B1 A8 A8) ⟨by rw [ADm hr hk hout hn hq];try rfl,rfl⟩
 have hq:Jq out=true:=by rw [Mw] at ht32;simpa using ht32
 refine Z23 ?_;refine A2 [8,36] ?_
 refine A4 (fun ht36=>?_) (fun ht36=>?_)
 ·have h12:12<out.length:=by simp at ht36;omega
  refine AC5 ?_;refine Z96 ?_;refine Z5 ?_;exact A9 (B1 A8 A8) ⟨by rw [ADn hr hk hout hn hq h12];try rfl,rfl⟩
 have h12:¬12<out.length:=by simp at ht36;omega
 refine Z20 ?_;refine Z15 ?_;refine Z16 ?_;exact A9 (B1 A8 A8) ⟨by rw [ADo hr hk hout hn hq h12];try rfl,rfl⟩

theorem c6u (c:List Col) (Hp:List AObj):AFun Tryz.prog 9 [Am c] Hp (B4 (Mu c)):=by
 refine Ae [.tmp 2] [0] Tryz.func9 Tryz.ntmps9 (fun d=>?_)
 refine la ?_;refine A2 [0,6] ?_
 refine A4 (fun ht6=>?_) (fun ht6=>?_)
 ·rw [Ah] at ht6
  have hm:Mu c=true:=by unfold Mu;rw [ht6];rfl
  exact AC2
 rw [Ah] at ht6
 have hl50:c.length≤50:=by simp at ht6;omega
 refine Ri ?_;refine No ?_
 refine Bi (α:=Nat) (fun x=>⟨20,A6 0 (Am c) (A6 3 (A3 (x:Nat)) (fun _=>.any)),Hp,[],[],none⟩) (fun x=>x≤c.length∧∀(j:Nat) (v:Col),j<x→c[j]? = some v→decide ((100:Int)<(v.name.length:Int))=false) (fun x=>c.length-x) (0) ⟨Au _,fun j v h=>by omega⟩ (Bo (by simp)) rfl (fun x hx=>?_)
 refine Z79 ?_;refine A2 [0,3,10] ?_
 refine A4 (fun ht10=>?_) (fun ht10=>?_)
 ·have hlt:x<c.length:=by simpa using ht10
  refine Tg ?_;refine Z1 ?_
  refine A5 (h:=Ag (x) (Cc c[x]) (fun _=>B7 hlt)) (hr:=?_)
  refine Z68 ?_;refine A2 [0,3,19] ?_
  refine A4 (fun ht19=>?_) (fun ht19=>?_)
  ·have hm:Mu c=true:=by unfold Mu;rw [D7];exact .inr (Fy.2 ⟨c[x],Bl hlt,ht19⟩)
   refine Z46 ?_;exact Y4
  refine Z20 ?_;refine Z50 ?_
  refine A5 (h:=Sa (h1:=fun _=>by omega) (h2:=fun _=>by omega)) (hr:=?_)
  refine A5 ?_;refine No ?_;exact ANk
 have hxe:c.length≤x:=by simpa using ht10
 have hm:Mu c=false:=by
  unfold Mu
  rw [ht6,Fb,Iz]
  intro v hv
  obtain ⟨j,hj⟩:=Cb hv
  have:=hx.2 j v (by have:=(Ad.1 hj).1;omega) hj
  rw [this]
  simp
 exact AGr

/-- law18.Wide. -/
def Me (m:Mov):Bool:=(((((Mu m.give || decide ((20:Int)<(m.take.length:Int))) || decide ((20:Int)<(m.ahead.length:Int))) || decide ((20:Int)<(m.back.length:Int))) || m.take.any fun s=>decide ((100:Int)<(s.length:Int))) || m.ahead.any Qf) || m.back.any Qf
def Jh (l:List Mov):Bool:=decide ((12:Int)<(l.length:Int)) || l.any Me
theorem Ny {α:Type} {p:α→Bool} {l:List α} {x:Nat} (h:l.length≤x) (hp:∀(j:Nat) (v:α),j<x→l[j]? = some v→p v=false):l.any p=false:=by
 rw [Iz]
 intro v hv
 obtain ⟨j,hj⟩:=Cb hv
 rw [hp j v (by have:=(Ad.1 hj).1;omega) hj]
 simp
theorem Ji {n:Nat} {m:Mov}:∀y∈Kt m,Low n y:=by
 intro y hy
 simp only [Kt,B3,E5,or_false] at hy
 rcases hy with rfl|rfl|rfl|rfl|rfl<;>simp [or_imp,forall_and,Ak]
theorem mx {n:Nat} {m:Mov}:Low n (Hs m):=Go.SX.low_agg.2 Ji
theorem Gv {n k:Nat} {o:Bool} {l:List Mov}:Low n (.slice o k (l.map Hs)):=low_slice.2 fun y hy=>by
 obtain ⟨m,_,rfl⟩:=C2.1 hy
 exact mx
theorem Mz {α:Type} {p:α→Bool} (l:List α):(l.any fun s => !(p s)) = !(l.all p):=by
 induction l with
 | nil=>rfl
 | cons a r ih=>rw [List.any_cons,List.all_cons,ih];cases p a<;>simp
theorem c10 (l:List Mov) (Hp:List AObj):AFun Tryz.prog 10 [Eh l] Hp (B4 (Jh l)):=by
 refine Ae [.tmp 2] [0] Tryz.func10 Tryz.ntmps10 (fun d=>?_)
 refine la ?_;refine A2 [0,10] ?_
 refine A4 (fun ht10=>?_) (fun ht10=>?_)
 ·rw [Ah] at ht10
  have hm:Jh l=true:=by unfold Jh;rw [ht10];rfl
  exact AC2
 rw [Ah] at ht10
 have hl12:l.length≤12:=by simp at ht10;omega
 refine Ri ?_;refine No ?_
 refine Bi (α:=Nat) (fun x=>⟨82,A6 0 (Eh l) (A6 3 (A3 (x:Nat)) (fun _=>.any)),Hp,[],[],none⟩) (fun x=>x≤l.length∧∀(j:Nat) (v:Mov),j<x→l[j]? = some v→Me v=false) (fun x=>l.length-x) (0) ⟨Au _,fun j v h=>by omega⟩ (Bo (by simp)) rfl (fun x hx=>?_)
 refine Z79 ?_;refine A2 [0,3,14] ?_
 refine A4 (fun ht14=>?_) (fun ht14=>?_)
 ·have hlt:x<l.length:=by simpa using ht14
  have hbad:Me l[x]=true→Jh l=true:=fun h=>by unfold Jh;rw [D7];exact .inr (Fy.2 ⟨l[x],Bl hlt,h⟩)
  refine Tg ?_;refine Z1 ?_
  refine A5 (h:=Ag (x) (Hs l[x]) (fun _=>B7 hlt)) (hr:=?_)
  refine Z99 ?_;refine A2 [0,3,4] ?_;refine Z7 ?_;refine A7 Tryz.call9 (c6u l[x].give _) ?_;refine A5 ?_;refine Q5 ?_;refine Z86 ?_;refine Z86 ?_;refine A5 ?_;refine A2 [0,3,4,41] ?_
  refine A4 (fun ht41=>?_) (fun ht41=>?_)
  ·simp only [Ah] at ht41
   have hm:Jh l=true:=hbad (by unfold Me;rw [ht41];rfl)
   refine Z46 ?_;refine Cz ?_;exact Y4
  simp only [Ah] at ht41
  have hk:l[x].take.length≤20∧l[x].ahead.length≤20∧l[x].back.length≤20:=by simp only [Ei,decide_eq_false_iff_not] at ht41;omega
  refine Ri ?_;refine A2 [0,3,4,5] ?_
  refine Bi (α:=Nat) (fun a=>⟨82,A6 0 (Eh l) (A6 3 (A3 (x:Nat)) (A6 4 (.ptr (oid Hp.length 0) 0) (A6 5 (A3 (a:Nat)) (fun _=>.any)))),Hp,[.cells 80 (Kt l[x])],[],none⟩) (fun a=>a≤l[x].take.length∧∀(j:Nat) v,j<a→l[x].take[j]? = some v→(fun s:Str=>decide ((100:Int)<(s.length:Int))) v=false) (fun a=>l[x].take.length-a) (0) ⟨Au _,fun j v h=>by omega⟩ (Bo (by simp)) rfl (fun a ha=>?_)
  refine br ?_;refine A2 [0,3,4,5,46] ?_
  refine A4 (fun ht46=>?_) (fun ht46=>?_)
  ·have ha1:a<l[x].take.length:=by simpa using ht46
   refine xq ?_
   refine A5 (h:=Ag (a) (Ac l[x].take[a]) (fun _=>B7 ha1)) (hr:=?_)
   refine Z12 ?_;refine A2 [0,3,4,5,55] ?_
   refine A4 (fun ht55=>?_) (fun ht55=>?_)
   ·have hm:Jh l=true:=hbad (by unfold Me;rw [ht41,Fy.2 ⟨_,Bl ha1,ht55⟩];rfl)
    refine xp ?_;exact Y4
   refine im ?_;refine A2 [0,3,4,5] ?_;exact Bt (a+1) ⟨ha1,Di ha1 ha.2 ht55⟩ (by omega) (Dx rfl)
  have hae:l[x].take.length≤a:=by simpa using ht46
  have e1:=Ny hae ha.2
  refine Th ?_;refine Z33 ?_;refine A2 [0,3,4,6] ?_
  refine Bi (α:=Nat) (fun b=>⟨82,A6 0 (Eh l) (A6 3 (A3 (x:Nat)) (A6 4 (.ptr (oid Hp.length 0) 0) (A6 6 (A3 (b:Nat)) (fun _=>.any)))),Hp,[.cells 80 (Kt l[x])],[],none⟩) (fun b=>b≤l[x].ahead.length∧∀(j:Nat) v,j<b→l[x].ahead[j]? = some v→Qf v=false) (fun b=>l[x].ahead.length-b) (0) ⟨Au _,fun j v h=>by omega⟩ (Bo (by simp)) rfl (fun b hb=>?_)
  refine br ?_;refine A2 [0,3,4,6,60] ?_
  refine A4 (fun ht60=>?_) (fun ht60=>?_)
  ·have hb1:b<l[x].ahead.length:=by simpa using ht60
   refine xq ?_
   refine A5 (h:=Ag (b) (Aa l[x].ahead[b]) (fun _=>B7 hb1)) (hr:=?_)
   refine A5 ?_;refine A7 Tryz.call31 (c31 l[x].ahead[b] _) ?_;refine A2 [0,3,4,6,68] ?_
   refine A4 (fun ht68=>?_) (fun ht68=>?_)
   ·have hm:Jh l=true:=hbad (by unfold Me;rw [Fy.2 ⟨_,Bl hb1,ht68⟩];simp)
    refine xp ?_;exact Y4
   refine im ?_;refine A2 [0,3,4,6] ?_;exact Bt (b+1) ⟨hb1,Di hb1 hb.2 ht68⟩ (by omega) (Dx rfl)
  have hbe:l[x].ahead.length≤b:=by simpa using ht60
  have e2:=Ny hbe hb.2
  refine Th ?_;refine Z2 ?_;refine A2 [0,3,4,7] ?_
  refine Bi (α:=Nat) (fun e=>⟨82,A6 0 (Eh l) (A6 3 (A3 (x:Nat)) (A6 4 (.ptr (oid Hp.length 0) 0) (A6 7 (A3 (e:Nat)) (fun _=>.any)))),Hp,[.cells 80 (Kt l[x])],[],none⟩) (fun e=>e≤l[x].back.length∧∀(j:Nat) v,j<e→l[x].back[j]? = some v→Qf v=false) (fun e=>l[x].back.length-e) (0) ⟨Au _,fun j v h=>by omega⟩ (Bo (by simp)) rfl (fun e he=>?_)
  refine br ?_;refine A2 [0,3,4,7,73] ?_
  refine A4 (fun ht73=>?_) (fun ht73=>?_)
  ·have he1:e<l[x].back.length:=by simpa using ht73
   refine xq ?_
   refine A5 (h:=Ag (e) (Aa l[x].back[e]) (fun _=>B7 he1)) (hr:=?_)
   refine A5 ?_;refine A7 Tryz.call31 (c31 l[x].back[e] _) ?_;refine A2 [0,3,4,7,81] ?_
   refine A4 (fun ht81=>?_) (fun ht81=>?_)
   ·have hm:Jh l=true:=hbad (by unfold Me;rw [Fy.2 ⟨_,Bl he1,ht81⟩];simp)
    refine Z46 ?_;refine Z26 ?_;exact Y4
   refine im ?_;refine A2 [0,3,4,7] ?_;exact Bt (e+1) ⟨he1,Di he1 he.2 ht81⟩ (by omega) (Dx rfl)
  have hee:l[x].back.length≤e:=by simpa using ht73
  have e3:=Ny hee he.2
  have e4:Me l[x]=false:=by unfold Me;rw [ht41,e1,e2,e3];rfl
  refine Z52 ?_;refine K.lpE ?_;refine Z13 ?_;refine Z49 ?_;refine No ?_;refine Bt (x+1) ⟨hlt,Di hlt hx.2 e4⟩ (by omega) ?_
  exact D0 (own:=[]) (fun _=>.refl _) (by repeat (first|exact Bb|refine Ba (by first|(simp [or_imp,forall_and];done)|exact Gv|(simp [oid]<;>omega)) ?_)) (by simp) (by simp)
 have hxe:l.length≤x:=by simpa using ht14
 have hm:Jh l=false:=by unfold Jh;rw [ht10,Ny hxe hx.2];rfl
 exact AGr

theorem c63 (n:Nat) (e:Expr) (hok:okE n e) (hn:n≤1048576) (c:List Col) (hc:OkCols c) (w:Int) (Hp:List AObj):AFun Tryz.prog 63 [Aa e,Am c,A3 w] Hp (B4 (Rw e c w)):=by
 refine Ae [.tmp 6] [0,1,2] Tryz.func63 Tryz.ntmps63 (fun d=>?_)
 refine Z1 ?_;refine A2 [1,2,3] ?_;refine Z1 ?_;refine A7 Tryz.call62 (c62 n e hok hn c hc _) ?_;refine Z59 ?_;refine A2 [2,7,8] ?_;refine Z15 ?_;refine Q5 ?_;refine Y7 ?_;refine Z75 ?_;exact A9 (Ao A8) ⟨by unfold Rw;rfl,rfl⟩

theorem AHy {c:List Col} {m:Mov} (h:(m.kind==3)=false):By c m=m.give:=by unfold By;rw [if_neg (by rw [h];simp)]
theorem AHz {c:List Col} {m:Mov} {s:Str} {y:Col} (h:(m.kind==3)=true) (ht:m.take=[s]) (hg:m.give=[y]) (hf:Ay s c<0):By c m=[y]:=by
 unfold By
 rw [if_pos h,ht,hg]
 exact if_pos hf
theorem AEb {c:List Col} {m:Mov} {s:Str} {y:Col} (h:(m.kind==3)=true) (ht:m.take=[s]) (hg:m.give=[y]) (hf:¬Ay s c<0):By c m=[⟨y.name,(c.getD (Ay s c).toNat ⟨[],0⟩).kind⟩]:=by
 unfold By
 rw [if_pos h,ht,hg]
 exact if_neg hf
theorem my (l:List Col):∀x∈l.map Cc,x.cells.length=2:=by
 intro x hx
 obtain ⟨c,_,rfl⟩:=C2.1 hx
 rfl
theorem ve {c:Col} {y:AV} (h:y∈(Cc c).cells):y=Ac c.name∨y=A3 c.kind:=by
 have h':y∈[Ac c.name,A3 c.kind]:=h
 simpa using h'
theorem mz (l:List Col):∀x∈l.map Cc,∀y∈x.cells,y.one=true:=by
 intro x hx y hy
 obtain ⟨c,_,rfl⟩:=C2.1 hx
 rcases ve hy with rfl|rfl<;>rfl
theorem Zv (l:List Col):∀x∈l.map Cc,∀y∈x.cells,y.strip=y:=by
 intro x hx y hy
 obtain ⟨c,_,rfl⟩:=C2.1 hx
 rcases ve hy with rfl|rfl<;>rfl
theorem AEc {α:Type} {l:List α} (h:l.length=1):∃y,l=[y]:=by
 match l,h with
 | [y],_=>exact ⟨y,rfl⟩
theorem vf {c:List Col} {s:Str} (hf:¬Ay s c<0):(c.map Cc)[(Ay s c).toNat]? = some (Cc (c.getD (Ay s c).toNat ⟨[],0⟩)):=by
 obtain ⟨j,hj,hjl⟩:=Gu hf
 rw [hj,Int.toNat_natCast,C5,Ab hjl,Bv,Ab hjl]
 rfl
end Go.SX.Nb
namespace Go.SX
variable [GI:GlobInv]
open Classical
variable {P:Program} {d:Nat} {ops:Array Oper} {rest:List Oper} {sz:Nat} {fr:Nat→AV} {up own:List AObj} {dfs:List Nat} {rnd:Option Nat} {Q:St→Prop} {s:Nat} {ty:TypeId} {pos:String} {aft:Array Edge}
/-- Whether a slice is nil is known only of one that has elements. -/
theorem R.eqlNil {t e u:TypeId} {x y:Operand} {o:Bool} {k:Nat} {xs:List AV} (ht:P.underlying t=some (.slice e)) (hg:P.eqGuardType P.depth t=false)
  (hr:∀b:Bool,(b=true→xs=[])→ARun P d ops rest ⟨sz,A6 s (.v (.bool b)) fr,up,own,dfs,rnd⟩ Q)
  (hx:Bc fr x=.slice o k xs:=by exact sL0) (hy:Bc fr y=.nil:=by exact sL0) (hs:Nat.blt s sz=true:=by rfl):
  ARun P d ops (⟨some s,.binOp .eql t x y u,ty,pos,aft,none⟩::rest) ⟨sz,fr,up,own,dfs,rnd⟩ Q:=by
 refine Xp rfl (Q1:=fun s'=>∃b:Bool,(b=true→xs=[])∧s'=⟨sz,A6 s (.v (.bool b)) fr,up,own,dfs,rnd⟩) ?_ (by rintro _ ⟨b,hb,rfl⟩;exact hr b hb)
 intro G a w hrel Q'
 have h1:=hrel.eval x
 rw [show St.ev ⟨sz,fr,up,own,dfs,rnd⟩ x=.slice o k xs from hx] at h1
 have h2:=hrel.eval y
 rw [show St.ev ⟨sz,fr,up,own,dfs,rnd⟩ y=.nil from hy] at h2
 have key:∀b:Bool,(b=true→xs=[])→(execOp a.eval ⟨some s,.binOp .eql t x y u,ty,pos,aft,none⟩).run P w=.ok (.value (.bool b)) w →
   Oper.wpIn (Fr ((St.mk sz fr up own dfs rnd).rnd.map G.blk)) 0 P ⟨some s,.binOp .eql t x y u,ty,pos,aft,none⟩ a w (Post d ⟨sz,fr,up,own,dfs,rnd⟩ G w (fun s'=>∃b:Bool,(b=true→xs=[])∧s'=⟨sz,A6 s (.v (.bool b)) fr,up,own,dfs,rnd⟩)) Q':=fun b hb hv =>
  Dp (by intro c h;cases h) hv ⟨G,_,hrel.put (y:=.v (.bool b)) (by simpa using hs) (.v _ _),Gj d G w,rfl,rfl,rfl,b,hb,rfl⟩
 generalize hya:a.eval y=vy at h2
 generalize hxa:a.eval x=vx at h1
 cases h2
 cases h1 with
 | slice0=>exact key true (fun _=>rfl) (by simp only [execOp,hxa,hya,eqGuard];simp [Lib.run_eql_slice_nil _ _ _ _ _ _ _ _ ht,hg])
 | sliceE=>exact key false (fun h=>by cases h) (by simp only [execOp,hxa,hya,eqGuard];simp [Lib.run_eql_slice_nil _ _ _ _ _ _ _ _ ht,hg])
 | slice=>exact key false (fun h=>by cases h) (by simp only [execOp,hxa,hya,eqGuard];simp [Lib.run_eql_slice_nil _ _ _ _ _ _ _ _ ht,hg])
/-! A guarded slice that may be appended to. -/
end Go.SX
namespace Go.SX
variable [GI:GlobInv]
open Classical
section
variable {P:Program} {d:Nat}
/-- A call that returns and may leave more objects than it found; they are the caller's. -/
def ACallO (P:Program) (g:FuncId) (args:List AV) (H:List AObj) (post:AV→List AObj→Prop):Prop:=
 ∀(d:Nat) (G:Gh) (w:World) (vs:Array Value),vs.size=args.length→(∀(i:Nat) (y:AV) (u:Value),args[i]? = some y→vs[i]? = some u→Rep G w (some (.slot (d+1) i)) y u)→HeapRel G H w→TagOK G w→GI.bd≤d →
  CallsIn Fence.wide 0 P g vs w (fun e w'=>∃(v:Value) (G':Gh) (r:AV) (H':List AObj),e=.returned v∧Rep G' w' none r v∧HeapRel G' H' w'∧TagOK G' w'∧Keep (d+1) G w G' w'∧post r H')
/-- What is asked at a body's end: the first j of its objects are handed back. -/
def FO (P:Program) (rs:List ResultVar) (n:Nat) (post:AV→List AObj→Prop) (e:Exit) (st':St):Prop:=
 (e=.normal∨e=.ret)∧st'.defs=[]∧∃(r:AV) (rv:ResultVar) (j:Nat),rs=[rv]∧ResV P st' rv r∧Low (n+j) r∧(∀x∈st'.up++st'.own.take j,ObjLow (n+j) x)∧j≤st'.own.length∧post r (st'.up++st'.own.take j)
theorem ACallO.ofBody {g:FuncId} {fn:Func} {c:Code} {args:List AV} {H:List AObj} {post:AV→List AObj→Prop} {rs:List ResultVar} {n:Nat} (hf:P.funcs[g]? = some fn) (hb:fn.body=some c) (hrs:fn.results=rs.toArray)
  (hn:fn.ntmps=n) (hargs:args.length≤n) (h:∀d,AW P (d+1) c ⟨n,argsF args,H,[],[],none⟩ (FO P rs H.length post)):ACallO P g args H post:=by
 intro d G w vs hvs hrep hH hT hTop
 refine callsIn_of_wp_marks hf hb trivial ?_
 have hst:StRel (d+1) G ⟨n,argsF args,H,[],[],none⟩ { tmps:=vs++Array.replicate (fn.ntmps-vs.size) undef,defers:=[] } w:=by
  refine ⟨?_,fun s=>?_,by simpa using hH,(by rw [Gr hTop];rfl),(fun o ho=>by simp at ho),Mo,(fun o ho=>by simp at ho),hT,(fun l hl=>by cases hl),fun x hx=>?_,O7 hTop⟩
  ·simp only [N2,g0,hvs,hn];omega
  ·show Rep G w _ (args.getD s (.v undef)) _
   rw [Bv,Kk]
   rcases Bw s args.length with h'|h'
   ·rw [Ab h',Lw (by omega),Ev (by omega)]
    exact hrep s _ _ (Ab h') (Ev (by omega))
   rw [Gg h',Pf (by omega)]
   simp only [Option.getD_none]
   have:((Array.replicate (fn.ntmps-vs.size) undef)[s-vs.size]?).getD undef=undef:=by
    rw [Pg];split<;>rfl
   rw [this]
   exact .v _ _
  obtain ⟨i,hi⟩:=Cb hx
  have hob:=hH.obj i x hi
  show ObjLow H.length x
  rw [←hH.n]
  exact hob.low
 have hw:=h d G _ w hst
 refine wpIn_mono hw ?_
 rintro e a' w' ⟨G1,st',h1,k1,e1,e2,e3,hcase,hdefs,r,rv,j,rfl,hres,hlow,hobjs,hj,hpost⟩
 have fin:LeavesInM Fence.wide 0 P fn a'.tmps (fun e w'=>∃(v:Value) (G':Gh) (r:AV) (H':List AObj),e=.returned v∧Rep G' w' none r v∧HeapRel G' H' w'∧TagOK G' w'∧Keep (d+1) G w G' w'∧post r H') a'.defers .returning w':=by
  rw [h1.defs,hdefs,Gr hTop]
  obtain ⟨v,hv,hr⟩:=hres.run h1
  have hupl:st'.up.length=H.length:=e1
  have hgn:G1.n=st'.up.length+st'.own.length:=by rw [h1.heap.n,Ai]
  have hget:∀(i:Nat) (x:AObj),(st'.up++st'.own.take j)[i]? = some x→(st'.up++st'.own)[i]? = some x:=fun i x hx=>by
   rcases Bw i st'.up.length with h'|h'
   ·rw [Dm h'] at hx ⊢;exact hx
   rw [Dn h'] at hx ⊢
   rw [I0] at hx
   split at hx
   ·exact hx
   cases hx
  refine ⟨v,by simp [Gl,hrs,hv],v,{ G1 with n:=H.length+j },r,st'.up++st'.own.take j,rfl,hr.cut hlow,⟨fun i x hx=>(h1.heap.obj i x (hget i x hx)).cut (hobjs x (Aw hx)),?_,fun a b ha hb' e=>?_⟩,
   ⟨h1.tags.ex,h1.tags.obj,h1.tags.tail,h1.tags.globCut (by rw [hgn];omega)⟩,?_,hpost⟩
  ·show H.length+j=_
   rw [Ai,C1,tw hj,hupl]
  ·exact h1.heap.inj a b (by rw [hgn];simp only at ha;omega) (by rw [hgn];simp only at hb';omega) e
  have hGn:G.n=H.length:=hH.n
  exact ⟨k1.fix,k1.slot,by rw [hGn];exact Nat.le_add_right _ _,k1.blk,k1.os,k1.tape,k1.output,k1.size,k1.old.cut (by rw [hgn];omega)⟩
 rcases hcase with rfl|rfl
 ·exact fin
 exact fin
end
section
variable {P:Program} {d:Nat} {ops:Array Oper} {rest:List Oper} {sz s:Nat} {fr:Nat→AV} {up own:List AObj} {dfs:List Nat} {rnd:Option Nat} {Q:St→Prop} {ty:TypeId} {pos:String} {aft:Array Edge}
theorem ACallO.body {g:FuncId} {fn:Func} {c:Code} {args:List AV} {H:List AObj} {post:AV→List AObj→Prop} {fr':Nat→AV} (rs:List ResultVar) (l:List Nat) {n:Nat} (hf:P.funcs[g]? = some fn) (hn:fn.ntmps=n)
  (h:∀d,AW P (d+1) c ⟨n,fr',H,[],[],none⟩ (FO P rs H.length post)) (hb:fn.body=some c:=by rfl) (hrs:fn.results=rs.toArray:=by rfl) (hargs:args.length≤n:=by exact sL1)
  (hk:P9 l (argsF args)=fr':=by exact sL0):ACallO P g args H post:=
 ACallO.ofBody hf hb hrs hn hargs (fun d=>cv l hk (h d))
/-- The end of such a body. -/
theorem K.finO {rs:List ResultVar} {n:Nat} {post:AV→List AObj→Prop} {r:AV} {rv:ResultVar} {st:St} (j:Nat) (hres:ResV P st rv r) (hp:post r (st.up++st.own.take j)) (hlow:Low (n+j) r) (hobj:∀x∈st.up++st.own.take j,ObjLow (n+j) x)
  (hd:st.defs=[]:=by rfl) (hr:rs=[rv]:=by rfl) (hj:j≤st.own.length:=by simp):FO P rs n post .ret st:=⟨.inr rfl,hd,r,rv,j,hr,hres,hlow,hobj,hj,hp⟩
/-- A call of such a function. -/
theorem R.callO {g:FuncId} {xs:List Operand} {ats:Array TypeId} {args:List AV} {post:AV→List AObj→Prop} (hcall:∀args w,(callFunc g args).run P w=.ok (.enter g args) w)
  (h:ACallO P g args (up++own) post) (hp:∀r H',post r H'→∃O,H'=up++(own++O)∧ARun P d ops rest ⟨sz,A6 s r fr,up,own++O,dfs,rnd⟩ Q)
  (ha:xs.map (Bc fr)=args:=by exact sL0) (hs:Nat.blt s sz=true:=by rfl):
  ARun P d ops (⟨some s,.call ⟨.value (.func g),xs.toArray,ats⟩,ty,pos,aft,none⟩::rest) ⟨sz,fr,up,own,dfs,rnd⟩ Q:=by
 refine Xp rfl (Q1:=fun s'=>ARun P d ops rest s' Q) ?_ (fun s' e=>e)
 intro G a w hr Q'
 have hs:s<sz:=by simpa using hs
 have hxr:=Ta hr xs
 have ha':xs.map (St.ev ⟨sz,fr,up,own,dfs,rnd⟩)=args:=ha
 rw [ha'] at hxr
 have hrun:(execOp a.eval (⟨some s,.call ⟨.value (.func g),xs.toArray,ats⟩,ty,pos,aft,none⟩:Oper)).run P w=.ok (.enter g (xs.map a.eval).toArray) w:=by
  have:=S9 (P:=P) (dst:=some s) (ty:=ty) (pos:=pos) (aft:=aft) (gd:=none) (ats:=ats) (f:=.func g) (xs:=xs) (g:=g) (va:=#[]) (vc:=#[]) (a:=a) (w:=w) hcall rfl
  simpa using this
 refine S8 (by intro c h;cases h) hrun (h d G w _ (by rw [←ha'];simp) (fun i y u hy hu=>(hxr i y u hy hu).lift) hr.heap hr.tags hr.top) ?_
 rintro e w' ⟨v,G',r,H',rfl,hrep,hH,hT,hk,hpo⟩
 obtain ⟨O,rfl,hrn⟩:=hp r H' hpo
 have h3:=hr.called (U:=up) (O:=own++O) hH hT hk rfl rfl (fun o ho=>by
  have:=hr.defsAt o ho
  rw [←Ax,Dm (Ad.1 this).1]
  exact this) hr.low
 obtain ⟨h4,k4⟩:=h3.took hrep.lift (s:=s) hs
 exact ⟨v,rfl,_,_,h4,(hk.less (J5 d)).trans k4,rfl,rfl,rfl,hrn⟩
end
end Go.SX
