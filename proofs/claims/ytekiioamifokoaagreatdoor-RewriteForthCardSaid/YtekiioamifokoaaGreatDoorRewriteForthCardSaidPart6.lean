/- On the way (part 6). -/
import Derived.ReadAgain
import Derived.ChangeSame
import Derived.ChangeArms
import Derived.ChangeOld
import Derived.ChangeFn
import Derived.MapPlaces
import Derived.DataReads
import Derived.OpenShut
import Derived.RowKit
import Derived.Deep.DeepHandedRow
import Derived.Test.YtekiioamifokoaaGreatDoorCards
import Derived.Test.YtekiioamifokoaaGreatDoorTie
import Derived.Lay
import Derived.Lib.LaidTab
import Derived.Stop.LaidErr
import Derived.Shelf.Vars
import Derived.ChangeBears
import Derived.Lib.ParseIntBTie
import Derived.Lib.AtoiAllCases
import Derived.Lib.AtoiTie
import Derived.Lib.SliceRun
import Derived.Test.YtekiioamifokoaaGreatDoorRewriteForthCardSaidPart5
set_option linter.all false
namespace Go.SX
variable [GI:GlobInv]
open Classical Go.RowKit Go.ChangeShapes
section
variable {P:Program} {H:Type} {enc:TypeId×Value→H}

/-- The first ghost: whatever lies there is read for good. -/
noncomputable def G0 (W:World):Gh:=⟨fun b o=>if (W.cell? ⟨b,o,none⟩).isSome then .fix else .free,fun _=>0,0⟩
theorem AIy {W:World} {b o:Nat} {u:Value} (h:W.cell? ⟨b,o,none⟩=some u):(G0 W).tag b o=.fix:=by simp [G0,h]
theorem Ua {W:World} {b:Nat} (h:b<W.heap.size):M7 (G0 W) W b:=⟨h,fun o=>by simp only [G0];split<;>simp,fun i hi=>absurd hi (Nat.not_lt_zero _)⟩
theorem AEw (W:World):HeapRel (G0 W) [] W:=⟨fun i x h=>by simp at h,rfl,fun i j hi=>absurd hi (Nat.not_lt_zero _)⟩
theorem AEx {W:World} (h:Jc W):TagOK (G0 W) W:=by
 refine ⟨fun b o hb=>?_,fun b o i hb=>?_,fun b o L hb=>?_,fun x hx=>?_⟩
 ·simp only [G0] at hb
  split at hb
  ·rename_i hs;exact Option.isSome_iff_exists.1 hs
  exact absurd rfl hb
 ·simp only [G0] at hb;split at hb<;>cases hb
 ·simp only [G0] at hb;split at hb<;>cases hb
 obtain ⟨v,h1,h2⟩:=h x hx
 exact ⟨Ua (O3.1 h1).1,v,h1,h2⟩

/-- What a datum of a plain type AO6 as. -/
inductive DRep (P:Program):TypeId→DataW H→AV→Prop
 | int {t:TypeId} {k:IntKind} {n:Int} (hu:P.underlying t=some (.int k)) (wf:(Lit.int k n).wf=true):DRep P t (.lit (.int k n)) (.v (.int k n))
 | bool {t:TypeId} {b:Bool} (hu:P.underlying t=some .bool):DRep P t (.lit (.bool b)) (.v (.bool b))
 | str {t:TypeId} {bs:List UInt8} (hu:P.underlying t=some .string):DRep P t (.lit (.string bs)) (.v (sv bs))
 | nil {t e:TypeId} (hu:P.underlying t=some (.slice e)):DRep P t .nil (.slice false (P.cellsOf e) [])
 | slice {t e:TypeId} {elems spare:List (DataW H)} {ys:List AV} (hu:P.underlying t=some (.slice e)) (hn:ys.length=elems.length)
   (h:∀(i:Nat) (d:DataW H) (y:AV),elems[i]? = some d→ys[i]? = some y→DRep P e d y):DRep P t (.slice elems spare) (.slice false (P.cellsOf e) ys)
 | struct {t:TypeId} {fs:Array Field} {parts:List (DataW H)} {ys:List AV} (hu:P.underlying t=some (.struct fs)) (hn:parts.length=fs.size) (hn':ys.length=fs.size)
   (h:∀(i:Nat) (f:Field) (d:DataW H) (y:AV),fs[i]? = some f→parts[i]? = some d→ys[i]? = some y→DRep P f.type d y):DRep P t (.agg parts) (.agg (ys.flatMap AV.cells))

/-- Types that are made of numbers, texts, bools, slices and structs alone. -/
structure PlainT (P:Program) (T:TypeId→Prop):Prop where
 look:∀t,T t→(P.cellsOf t=1∧((∃k,P.underlying t=some (.int k))∨P.underlying t=some .bool∨P.underlying t=some .string∨(∃e,P.underlying t=some (.slice e)∧T e∧0<P.cellsOf e))) ∨
  (∃fs,P.underlying t=some (.struct fs)∧(∀f∈fs.toList,T f.type)∧P.cellsOf t=(fs.toList.map fun f=>P.cellsOf f.type).sum ∧
   ∀(j:Nat) (f:Field),fs.toList[j]? = some f→f.offset=((fs.toList.take j).map fun f=>P.cellsOf f.type).sum)

/-- The reading of a row of cells. -/
def CRep (W:World) (y:AV) (cs:List Value):Prop:=
 y.cells.length=cs.length∧(∀c∈y.cells,c.one=true)∧∀(j:Nat) (c:AV) (v:Value),y.cells[j]? = some c→cs[j]? = some v→Rep (G0 W) W none c v

theorem CRep.v1 {W:World} {x:Value} (h:x.oneCell'=true):CRep W (.v x) [x]:=
 ⟨rfl,by simp [AV.cells,AV.one,h],fun j c v h1 h2=>by
  match j with
  | 0=>simp [AV.cells] at h1 h2;subst h1;subst h2;exact .v _ _
  | j+1=>simp [AV.cells] at h1⟩

theorem k9 {f:AV→List AV}:∀(ys:List AV) (j:Nat) (c:AV),(ys.flatMap f)[j]? = some c→∃(i:Nat) (y:AV) (q:Nat),ys[i]? = some y∧(f y)[q]? = some c∧j=((ys.take i).map fun y=>(f y).length).sum+q
 | [],j,c,h=>by simp at h
 | y::r,j,c,h=>by
  rw [dn] at h
  rcases Bp j (f y).length with h'|h'
  ·rw [D8 h'] at h
   exact ⟨0,y,j,rfl,h,by simp⟩
  rw [D9 h'] at h
  obtain ⟨i,z,q,h1,h2,h3⟩:=k9 r _ c h
  exact ⟨i+1,z,q,h1,h2,by simp only [List.take_succ_cons,Bk,List.sum_cons];omega⟩
theorem P8 {α:Type} {R:Nat→α→Prop}:∀(n:Nat),(∀i,i<n→∃y,R i y)→∃ys:List α,ys.length=n∧∀(i:Nat) (y:α),ys[i]? = some y→R i y
 | 0,_=>⟨[],rfl,fun i y h=>by simp at h⟩
 | n+1,h=>by
  obtain ⟨ys,h1,h2⟩:=P8 n (fun i hi=>h i (by omega))
  obtain ⟨y,hy⟩:=h n (by omega)
  refine ⟨ys++[y],by simp [h1],fun i z hz=>?_⟩
  rcases Bp i n with h'|h'
  ·rw [D8 (by omega)] at hz;exact h2 i z hz
  rw [D9 (by omega)] at hz
  have:i=n:=by
   have:=(Ad.1 hz).1
   simp at this;omega
  subst this
  rw [h1] at hz
  simp at hz
  exact hz ▸ hy
theorem Rj {α β:Type} {f:α→Nat} {g:β→Nat}:∀(l:List α) (m:List β),l.length=m.length→(∀(i:Nat) (a:α) (b:β),l[i]? = some a→m[i]? = some b→f a=g b)→(l.map f).sum=(m.map g).sum
 | [],[],_,_=>rfl
 | [],b::m,h,_=>by simp at h
 | a::l,[],h,_=>by simp at h
 | a::l,b::m,h,hh=>by
  simp only [Bk,List.sum_cons]
  rw [hh 0 a b rfl rfl,Rj l m (by simpa using h) (fun i a b h1 h2=>hh (i+1) a b h1 h2)]

theorem AB7 {T:TypeId→Prop} (PT:PlainT P T) {W:World}:∀(n:Nat) (t:TypeId) (cs:List Value) (x:DataW H×List MemPlace),T t→DataW.trod enc P W 0 (fun _=>true) true n t cs=some x →
  ∃y,DRep P t x.1 y∧CRep W y cs∧cs.length=P.cellsOf t:=by
 intro n
 induction n with
 | zero=>intro t cs x _ h;simp [DataW.trod] at h
 | succ n ih =>
  intro t cs x hT h
  rcases PT.look t hT with ⟨hc1,⟨k,hu⟩|hu|hu|⟨e,hu,he,hz⟩⟩|⟨fs,hu,hf,hsum,hoff⟩
  ·obtain ⟨m,rfl,rfl,hw⟩:=DataW.trod_int hu h
   exact ⟨_,.int hu hw,.v1 rfl,hc1.symm⟩
  ·obtain ⟨b,rfl,rfl⟩:=DataW.trod_bool hu h
   exact ⟨_,.bool hu,.v1 rfl,hc1.symm⟩
  ·obtain ⟨s,rfl,rfl,_⟩:=DataW.trod_string hu h
   exact ⟨_,.str hu,.v1 rfl,hc1.symm⟩
  ·rcases DataW.trod_slice hu h with ⟨rfl,rfl⟩|⟨a,len,cap,elems,rest,m,hm,rfl,rfl,hb,hlc,hcm,hel,hE,_,_⟩
   ·refine ⟨_,.nil hu,⟨rfl,by simp [AV.cells,AV.one],fun j c v h1 h2=>?_⟩,hc1.symm⟩
    match j with
    | 0=>simp [AV.cells] at h1 h2;subst h1;subst h2;exact .slice0 _ _ _
    | j+1=>simp [AV.cells] at h1
   injection hm with hm
   subst hm
   subst hel
   have hEi:∀i,i<elems.length→∃y,(∀d,elems[i]? = some d→DRep P e d.1 y)∧∃ci,W.cells? 0 (a.add (i*P.cellsOf e)) (P.cellsOf e)=some ci∧CRep W y ci:=fun i hi=>by
    have h1:=hE i hi
    rw [Ab hi,Option.bind_eq_some_iff] at h1
    obtain ⟨ci,h2,h3⟩:=h1
    obtain ⟨y,h4,h5,_⟩:=ih e ci _ he h3
    exact ⟨y,fun d hd=>by rw [Ab hi] at hd;injection hd with hd;subst hd;exact h4,ci,h2,h5⟩
   obtain ⟨ys,hyl,hys⟩:=P8 elems.length hEi
   refine ⟨.slice false (P.cellsOf e) ys,.slice hu (by simp [hyl]) (fun i d y hd hy=>?_),⟨rfl,by simp [AV.cells,AV.one],fun j c v h1 h2=>?_⟩,hc1.symm⟩
   ·rw [C5,E7] at hd
    obtain ⟨d',hd',rfl⟩:=hd
    exact (hys i y hy).1 d' hd'
   match j with
   | j+1=>simp [AV.cells] at h1
   | 0 =>
    simp [AV.cells] at h1 h2
    subst h1;subst h2
    by_cases h0:elems.length=0
    ·have:ys=[]:=dl (by omega)
     subst this
     rw [h0]
     exact .sliceE _ _ _ _
    have hspot:a.spot=none:=by
     obtain ⟨ci,hci,_⟩:=(hys 0 ys[0] (Ab (by omega))).2
     obtain ⟨_,g1,g2⟩:=World.cells?_some hci
     have g3:=g2 0 hz
     rw [Ab (by omega)] at g3
     simp only [Nat.zero_mul,Addr.add,if_true] at g3
     unfold World.cell? at g3
     split at g3
     ·split at g3
      ·cases g3
      rename_i hs;simpa using hs
     cases g3
    refine .slice _ false _ ys a _ cap (fun i j=>(W.cell? ⟨a.block,a.off+i*P.cellsOf e+j,none⟩).getD undef) hspot hyl.symm hlc (fun x hx=>?_) (fun x hx=>?_) (fun i x j y hx hy=>?_) (fun i x j y hx hy=>?_) (fun h=>by cases h)
    ·obtain ⟨i,hi⟩:=C6 hx
     obtain ⟨ci,hci,hcr⟩:=(hys i x hi).2
     rw [hcr.1]
     exact (World.cells?_some hci).2.1
    ·obtain ⟨i,hi⟩:=C6 hx
     obtain ⟨ci,hci,hcr⟩:=(hys i x hi).2
     exact hcr.2.1
    ·obtain ⟨ci,hci,hcr⟩:=(hys i x hx).2
     obtain ⟨_,g1,g2⟩:=World.cells?_some hci
     have hj:j<P.cellsOf e:=by
      have:=(Ad.1 hy).1
      rw [hcr.1] at this;omega
     have g3:=g2 j hj
     rw [Ab (by omega),Cy hspot,Cy rfl] at g3
     exact ⟨AIy g3,by rw [g3];rfl⟩
    obtain ⟨ci,hci,hcr⟩:=(hys i x hx).2
    obtain ⟨_,g1,g2⟩:=World.cells?_some hci
    have hj:j<P.cellsOf e:=by
     have:=(Ad.1 hy).1
     rw [hcr.1] at this;omega
    have g3:=g2 j hj
    rw [Ab (by omega),Cy hspot,Cy rfl] at g3
    simp only at g3
    rw [g3]
    exact hcr.2.2 j y _ hy (Ab (by omega))
  obtain ⟨xs,m,hm,rfl,hcl,hxl,hX⟩:=DataW.trod_struct hu h
  injection hm with hm
  subst hm
  have hXi:∀i,i<fs.size→∃y,∀(f:Field),fs[i]? = some f→(∀d,xs[i]? = some d→DRep P f.type d.1 y)∧CRep W y ((cs.drop f.offset).take (P.cellsOf f.type))∧y.cells.length=P.cellsOf f.type:=fun i hi=>by
   have h1:=hX i fs[i] (Ei hi)
   rw [Ab (by omega)] at h1
   obtain ⟨y,h2,h3,h4⟩:=ih _ _ _ (hf _ (by simp)) h1
   refine ⟨y,fun f hf'=>?_⟩
   rw [Ei hi] at hf'
   injection hf' with hf'
   subst hf'
   exact ⟨fun d hd=>by rw [Ab (by omega)] at hd;injection hd with hd;subst hd;exact h2,h3,by rw [h3.1,h4]⟩
  obtain ⟨ys,hyl,hys⟩:=P8 fs.size hXi
  have hlenI:∀(i:Nat),((ys.take i).map fun y=>y.cells.length).sum=((fs.toList.take i).map fun f=>P.cellsOf f.type).sum:=fun i=>by
   refine Rj _ _ (by simp [hyl]) (fun j y f h1 h2=>?_)
   rw [Hi] at h1 h2
   split at h1
   ·rename_i hj
    rw [if_pos hj] at h2
    exact (hys j y h1 f (by simpa using h2)).2.2
   cases h1
  have htot:(ys.flatMap AV.cells).length=cs.length:=by
   rw [List.length_flatMap,hcl,hsum]
   refine Rj _ _ (by simp [hyl]) (fun j y f h1 h2=>(hys j y h1 f (by simpa using h2)).2.2)
  refine ⟨.agg (ys.flatMap AV.cells),.struct hu (by simp [hxl]) hyl (fun i f d y hf' hd hy=>?_),⟨htot,fun c hc=>?_,fun j c v h1 h2=>?_⟩,hcl⟩
  ·rw [C5,E7] at hd
   obtain ⟨d',hd',rfl⟩:=hd
   exact (hys i y hy f hf').1 d' hd'
  ·obtain ⟨y,hy,hcy⟩:=List.mem_flatMap.1 hc
   obtain ⟨i,hi⟩:=C6 hy
   have hlt:i<fs.size:=by rw [←hyl];exact (Ad.1 hi).1
   exact ((hys i y hi fs[i] (Ei hlt)).2.1).2.1 c hcy
  obtain ⟨i,y,q,g1,g2,rfl⟩:=k9 ys j c h1
  have hlt:i<fs.size:=by rw [←hyl];exact (Ad.1 g1).1
  obtain ⟨_,k2,k3⟩:=hys i y g1 fs[i] (Ei hlt)
  have hq:q<P.cellsOf (fs[i]).type:=by have:=(Ad.1 g2).1;omega
  refine k2.2.2 q c v g2 ?_
  rw [Hi,if_pos hq,Gn,hoff i fs[i] (by simp [hlt]),←hlenI i]
  exact h2

/-- A measure of data. -/
structure Bulk (B:DataW H→Nat):Prop where
 str:∀bs,bs.length≤B (.lit (.string bs))
 slice:∀elems spare,elems.length≤B (.slice elems spare)∧∀d∈elems,B d≤B (.slice elems spare)
 agg:∀parts,∀d∈parts,B d≤B (.agg parts)
theorem DRep.int' {t:TypeId} {k:IntKind} {d:DataW H} {y:AV} (hu:P.underlying t=some (.int k)) (h:DRep P t d y):∃n,d=.lit (.int k n)∧y=.v (.int k n)∧k.min≤n∧n≤k.max:=by
 cases h with
 | int hu' wf=>rw [hu] at hu';injection hu' with e;injection e with e;subst e;exact ⟨_,rfl,rfl,by simpa [Lit.wf] using wf⟩
 | _ hu'=>rw [hu] at hu';cases hu'
theorem DRep.bool' {t:TypeId} {d:DataW H} {y:AV} (hu:P.underlying t=some .bool) (h:DRep P t d y):∃b,d=.lit (.bool b)∧y=.v (.bool b):=by
 cases h with
 | bool hu'=>exact ⟨_,rfl,rfl⟩
 | _ hu'=>rw [hu] at hu';cases hu'
theorem DRep.str' {t:TypeId} {d:DataW H} {y:AV} (hu:P.underlying t=some .string) (h:DRep P t d y):∃s,d=.lit (.string s)∧y=.v (sv s):=by
 cases h with
 | str hu'=>exact ⟨_,rfl,rfl⟩
 | _ hu'=>rw [hu] at hu';cases hu'
theorem DRep.slice' {t e:TypeId} {d:DataW H} {y:AV} {B:DataW H→Nat} (hB:Bulk B) {α:Type} (A:α→AV) (R:α→Prop) {b:Nat} (hu:P.underlying t=some (.slice e)) (h:DRep P t d y) (hb:B d≤b)
  (hE:∀d y,B d≤b→DRep P e d y→∃x,y=A x∧R x):∃l:List α,y=.slice false (P.cellsOf e) (l.map A)∧l.length≤b∧∀x∈l,R x:=by
 cases h with
 | nil hu'=>rw [hu] at hu';injection hu' with e';injection e' with e';subst e';exact ⟨[],rfl,Aq _,fun x hx=>by cases hx⟩
 | slice hu' hn hh =>
  rw [hu] at hu';injection hu' with e';injection e' with e';subst e'
  rename_i elems spare ys
  obtain ⟨h1,h2⟩:=hB.slice elems spare
  have key:∀(ys:List AV) (es:List (DataW H)),ys.length=es.length→(∀d∈es,B d≤b)→(∀(i:Nat) (d:DataW H) (y:AV),es[i]? = some d→ys[i]? = some y→DRep P e d y)→∃l:List α,ys=l.map A∧∀x∈l,R x:=by
   intro ys
   induction ys with
   | nil=>exact fun es _ _ _=>⟨[],rfl,fun x hx=>by cases hx⟩
   | cons y ys ih =>
    intro es hl hb2 hr
    cases es with
    | nil=>simp at hl
    | cons d es =>
     obtain ⟨x,rfl,hx⟩:=hE d y (hb2 d (by simp)) (hr 0 d y rfl rfl)
     obtain ⟨l,rfl,hR⟩:=ih es (by simpa using hl) (fun d hd=>hb2 d (by simp [hd])) (fun i d y a c=>hr (i+1) d y a c)
     exact ⟨x::l,rfl,fun z hz=>by
      rcases B3.1 hz with rfl|hz
      ·exact hx
      exact hR z hz⟩
  obtain ⟨l,rfl,hR⟩:=key ys elems hn (fun d hd=>Hu (h2 d hd) hb) hh
  exact ⟨l,rfl,by simp at hn;omega,hR⟩
 | _ hu'=>rw [hu] at hu';cases hu'
theorem DRep.struct' {t:TypeId} {fs:Array Field} {d:DataW H} {y:AV} {B:DataW H→Nat} (hB:Bulk B) (hu:P.underlying t=some (.struct fs)) (h:DRep P t d y):
  ∃ys:List AV,ys.length=fs.size∧y=.agg (ys.flatMap AV.cells)∧∀(i:Nat) (f:Field) (z:AV),fs[i]? = some f→ys[i]? = some z→∃d',B d'≤B d∧DRep P f.type d' z:=by
 cases h with
 | struct hu' hn hn' hh =>
  rw [hu] at hu';injection hu' with e';injection e' with e';subst e'
  rename_i parts ys
  refine ⟨ys,hn',rfl,fun i f z h1 h2=>?_⟩
  have hlt:i<parts.length:=by rw [hn];exact (O3.1 h1).1
  exact ⟨parts[i],hB.agg parts _ (Bf hlt),hh i f parts[i] z h1 (Ab hlt) h2⟩
 | _ hu'=>rw [hu] at hu';cases hu'

/-- An argument's reading. -/
theorem AEy {T:TypeId→Prop} (PT:PlainT P T) {W:World} {t:TypeId} {v:Value} {d:DataW H} {ps:List MemPlace} {b0:Nat} (hT:T t) (hok:Value.okWide P W .any b0 t v) (h:DataW.Trod enc P W 0 (fun _=>true) true t v d ps):
  ∃y,DRep P t d y∧Rep (G0 W) W none y v:=by
 obtain ⟨n,hn⟩:=h
 obtain ⟨y,h1,h2,h3⟩:=AB7 PT n t _ _ hT hn
 refine ⟨y,h1,?_⟩
 rcases PT.look t hT with ⟨hc1,hone⟩|⟨fs,hu,_⟩
 ·have hva:∀cs,v≠.agg cs:=fun cs e=>by
   subst e
   rcases hone with ⟨k,hu⟩|hu|hu|⟨e,hu,he,hz⟩<;>simp [Value.okWide,hu,Cell.okWide,Cell.ok] at hok
  have hvc:v.cells=#[v]:=by cases v<;>first|rfl|exact absurd rfl (hva _)
  have hyc:y.cells=[y]:=by
   cases h1 with
   | struct hu=>rcases hone with ⟨k,hu'⟩|hu'|hu'|⟨e,hu',he,hz⟩<;>rw [hu] at hu'<;>cases hu'
   | _=>rfl
  have:=h2.2.2 0 y v (by rw [hyc];rfl) (by rw [hvc];rfl)
  exact this
 obtain ⟨cs,rfl,hsz,_⟩:∃cs,v=.agg cs∧cs.size=P.cellsOf t∧Row.okWide P W .any b0 t cs:=by
  simp only [Value.okWide,hu] at hok
  exact hok
 cases h1 with
 | struct hu' hn1 hn2 hh =>
  refine .agg _ _ _ (by have:=h2.1;simp only [AV.cells,Value.cells,Array.length_toList] at this;exact this.symm) h2.2.1 (fun i c u a b=>h2.2.2 i c u a (by simpa [Value.cells] using b))
 | int hu'=>rw [hu] at hu';cases hu'
 | bool hu'=>rw [hu] at hu';cases hu'
 | str hu'=>rw [hu] at hu';cases hu'
 | nil hu'=>rw [hu] at hu';cases hu'
 | slice hu'=>rw [hu] at hu';cases hu'

def DReps (P:Program):List TypeId→List (DataW H)→List AV→Prop
 | [],[],[]=>True
 | t::ts,d::ds,y::ys=>DRep P t d y∧DReps P ts ds ys
 | _,_,_=>False

theorem DReps.cons' {t:TypeId} {ts:List TypeId} {ds:List (DataW H)} {ys:List AV} (h:DReps P (t::ts) ds ys):∃d ds' y ys',ds=d::ds'∧ys=y::ys'∧DRep P t d y∧DReps P ts ds' ys':=by
 match ds,ys,h with
 | d::ds',y::ys',⟨h1,h2⟩=>exact ⟨d,ds',y,ys',rfl,rfl,h1,h2⟩
 | [],_,h=>simp [DReps] at h
 | _::_,[],h=>simp [DReps] at h
theorem DReps.nil' {ds:List (DataW H)} {ys:List AV} (h:DReps P [] ds ys):ds=[]∧ys=[]:=by
 match ds,ys,h with
 | [],[],_=>exact ⟨rfl,rfl⟩
 | [],_::_,h=>simp [DReps] at h
 | _::_,_,h=>simp [DReps] at h
theorem bg {T:TypeId→Prop} (PT:PlainT P T) {W:World} {b0:Nat}:∀(ts:List TypeId) (vs:List Value) (ds:List (DataW H)) (ps:List MemPlace),(∀t∈ts,T t) →
  (∀(j:Nat) t v,ts[j]? = some t→vs[j]? = some v→Value.okWide P W .any b0 t v)→DataW.TrodAll enc P W 0 (fun _=>true) true ts vs ds ps →
  ∃ys,DReps P ts ds ys∧ys.length=vs.length∧∀(i:Nat) (y:AV) (u:Value),ys[i]? = some y→vs[i]? = some u→Rep (G0 W) W none y u
 | [],[],[],_,_,_,_=>⟨[],trivial,rfl,fun i y u h=>by simp at h⟩
 | t::ts,v::vs,d::ds,ps,hT,hok,⟨p,q,h1,h2,_⟩=>by
  obtain ⟨y,k1,k2⟩:=AEy PT (hT t (by simp)) (hok 0 t v rfl rfl) h1
  obtain ⟨ys,k3,k4,k5⟩:=bg PT ts vs ds q (fun t ht=>hT t (by simp [ht])) (fun j t v a b=>hok (j+1) t v a b) h2
  refine ⟨y::ys,⟨k1,k3⟩,by simp [k4],fun i z u a b=>?_⟩
  match i with
  | 0=>simp at a b;subst a;subst b;exact k2
  | i+1=>exact k5 i z u a b
 | [],_::_,_,_,_,_,h=>by simp [DataW.TrodAll] at h
 | [],[],_::_,_,_,_,h=>by simp [DataW.TrodAll] at h
 | _::_,[],_,_,_,_,h=>by simp [DataW.TrodAll] at h
 | _::_,_::_,[],_,_,_,h=>by simp [DataW.TrodAll] at h

theorem Vc {W:World} {sp:Nat→Bool} {hd:Bool}:∀{ts:List TypeId} {vs:List Value} {ds:List (DataW H)} {ps:List MemPlace},DataW.TrodAll enc P W 0 sp hd ts vs ds ps→ds.length=ts.length
 | [],[],[],_,_=>rfl
 | _::_,_::_,_::_,_,⟨_,_,_,h,_⟩=>by rw [B2,B2,Vc h]
 | [],_::_,_,_,h=>by simp [DataW.TrodAll] at h
 | [],[],_::_,_,h=>by simp [DataW.TrodAll] at h
 | _::_,[],_,_,h=>by simp [DataW.TrodAll] at h
 | _::_,_::_,[],_,h=>by simp [DataW.TrodAll] at h
theorem P9 {W W':World} {sp:Nat→Bool}:∀{ts:List TypeId} {vs:List Value} {ds:List (DataW H)} {ps:List MemPlace},DataW.TrodAll enc P W 0 sp true ts vs ds ps→(∀p∈ps,W.sameAt W' p)→DataW.TrodAll enc P W' 0 sp true ts vs ds ps
 | [],[],[],_,h,_=>h
 | _::_,_::_,_::_,_,⟨p,q,⟨n,hn⟩,h2,e⟩,hs=>⟨p,q,⟨n,DataW.trod_carry n _ _ _ hn (fun x hx=>hs x (by rw [e];exact qy _ hx))⟩,P9 h2 (fun x hx=>hs x (by rw [e];exact S1 _ hx)),e⟩
 | [],_::_,_,_,h,_=>by simp [DataW.TrodAll] at h
 | [],[],_::_,_,h,_=>by simp [DataW.TrodAll] at h
 | _::_,[],_,_,h,_=>by simp [DataW.TrodAll] at h
 | _::_,_::_,[],_,h,_=>by simp [DataW.TrodAll] at h

/-- **A law that answers true, for whatever can be read.** -/
theorem wg {f:FuncId} {fn:Func} {s:ChangeSpec} {T:TypeId→Prop} {tb:TypeId} {W:World} {base:Nat} {args:Array Value} {ds gs:List (DataW H)} {before:List MemPlace} (K:Kids P (·<P.types.size)) (hz:∀t e,t<P.types.size→P.underlying t=some (.slice e)→0<P.cellsOf e)
  (PT:PlainT P T) (hT:∀t∈fn.params.toList,T t∧t<P.types.size) (hb:P.underlying tb=some .bool) (hres:fn.resultTypes=#[tb]) (hvars:s.vars=[])
  (hspec:∀ds:List (DataW H),ds.length=fn.params.size→s.fn H ds={ results:=[.lit (.bool true)],args:=ds })
  (hval:∀(j:Nat) t v,fn.params[j]? = some t→args[j]? = some v→Value.okWide P W .any base t v) (hW:DataW.Whole enc P fn.params.toList s.vars false W args.toList ds gs before)
  (hglob:Jc W)
  (main:∀ys:List AV,DReps P fn.params.toList ds ys→AFun P f ys [] (.v (.bool true))) (hbd:GI.bd≤0:=by exact Aj 0):
  Calls P f args W (fun e W'=>∃v,e=.returned v∧s.post enc P fn false true false false W args v W'):=by
 have hW0:=hW
 obtain ⟨p,q,hA,hV,hpq,hfz,hnd⟩:=hW
 rw [hvars] at hV
 obtain ⟨rfl,rfl⟩:=trodVars_none hV
 rw [Gm] at hpq
 subst hpq
 obtain ⟨ys,h1,h2,h3⟩:=bg PT _ _ _ _ (fun t ht=>(hT t ht).1) (fun j t v a b=>hval j t v (by simpa using a) (by simpa using b)) hA
 have hlen:=Vc hA
 have hc:=main ys h1 0 (G0 W) W args (by simpa using h2.symm) (fun i y u a b=>(h3 i y u a (by simpa using b)).lift) (AEw W) (AEx hglob)
 refine (callsIn_wide.1 (hc hbd)).mono ?_
 rintro e W' ⟨v,G',r,H',rfl,hr,hH,hTg,hk,hl,rfl,rfl⟩
 have hv:=S4 hr
 subst hv
 refine ⟨_,rfl,ds,[],before,[],before,[],hW0,?_,?_,?_,?_,fun h=>by cases h⟩
 ·rw [hres,Gm,hspec ds (by simpa using hlen)]
  exact trodAll_cons_mk (p:=[]) (shut_bool hb true) trodAll_mk0
 ·rw [Gm,hspec ds (by simpa using hlen)]
  refine P9 (DataW.TrodAll.respare K hz (fun t ht=>(hT t ht).2) hA (fun p hp=>by simpa using hW0.lt p hp)) (fun p hp=>?_)
  have hlt:=hW0.lt p hp
  have hb:=(hk.old _ (Ua hlt)).1
  cases p with
  | cell b o=>exact Jx hb
  | map b=>exact hb
 ·rw [hvars,Gm,hspec ds (by simpa using hlen)]
  rfl
 refine ⟨hk.os,hk.output,fun i hi=>?_⟩
 have hb:=(hk.old i (Ua hi)).1
 rw [hb]
 cases ho:W.heap[i]? with
 | none=>simp
 | some o=>cases o<;>simp
end
end Go.SX
namespace Go.Proofs.YtekiioamifokoaaGreatDoor
open Go Go.SX Go.SX.Nb Go.ChangeShapes Go.RowKit
set_option maxRecDepth 100000

theorem own:ownKnob Tryz.prog.godebug=none:=by kernel_rfl
theorem kids:Kids Tryz.prog (·<Tryz.prog.types.size):=kids_rows (by kernel_rfl) (by kernel_rfl)
theorem full:∀t e,t<Tryz.prog.types.size→Tryz.prog.underlying t=some (.slice e)→0<Tryz.prog.cellsOf e:=slices_full_of Tryz.prog (by kernel_rfl)
theorem AB8 {H:Type}:∀d:DataW H,1≤Rows.uptoBulk d
 | .lit (.string b)=>by rw [Rows.uptoBulk];omega
 | .lit (.bool _)=>by simp [Rows.uptoBulk]
 | .lit (.int _ _)=>by simp [Rows.uptoBulk]
 | .lit (.float _ _)=>by simp [Rows.uptoBulk]
 | .lit .nil=>by simp [Rows.uptoBulk]
 | .nil=>by simp [Rows.uptoBulk]
 | .ptr d=>by rw [Rows.uptoBulk];omega
 | .slice a b=>by rw [Rows.uptoBulk];omega
 | .agg a=>by rw [Rows.uptoBulk];omega
 | .iface _ d=>by rw [Rows.uptoBulk];omega
 | .map a=>by rw [Rows.uptoBulk];omega
 | .held _=>by simp [Rows.uptoBulk]
theorem Xs {H:Type}:∀l:List (DataW H),l.length≤Rows.uptoBulkAll l∧∀d∈l,Rows.uptoBulk d≤Rows.uptoBulkAll l
 | []=>⟨Nat.zero_le _,fun d h=>by cases h⟩
 | d::r=>by
  obtain ⟨h1,h2⟩:=Xs r
  have:=AB8 d
  rw [Rows.uptoBulkAll,List.length_cons]
  refine ⟨by omega,fun x hx=>?_⟩
  rcases List.mem_cons.1 hx with rfl|hx
  ·omega
  have:=h2 x hx;omega
theorem ac {H:Type}:Bulk (Rows.uptoBulk (H:=H)) where
 str:=fun bs=>by rw [Rows.uptoBulk];omega
 slice:=fun elems spare=>by
  obtain ⟨h1,h2⟩:=Xs elems
  rw [Rows.uptoBulk]
  exact ⟨by omega,fun d hd=>by have:=h2 d hd;omega⟩
 agg:=fun parts d hd=>by
  have:=(Xs parts).2 d hd
  rw [Rows.uptoBulk]
  omega

/-- What the rows of this seat list. -/
def rt:List (String×DataW Unit):=Rows.rewriteTellsUptoRow.laid
theorem bh:∀u,Tryz.prog.typeName? 3 u=some "*errors.errorString" → u=267:=by
 intro u hu
 exact typeName_ptr_named (nm := "errors.errorString") (by kernel_rfl) (by kernel_rfl) (by decide) u hu
theorem AEz {W:World} (h:laidMet Tryz.prog rt W):∃a:Addr,W.var? Tryz.prog "strconv.ErrRange" = some #[.iface 267 (.pointer (some a))]:=by
 have h':=h.tail.tail.tail.tail
 obtain ⟨a,s,h1,_⟩:=laid_sentinel (g:=1) (ti:=164) (tp:=267) (te:=269) (ts:=9) h' (by kernel_rfl) (by kernel_rfl) Tryz.underlying164 bh Tryz.underlying267 Tryz.underlying269 rfl rfl Tryz.underlying9 (by kernel_rfl) (by kernel_rfl)
 exact ⟨a,h1⟩
theorem AB9 {W:World} (h:laidMet Tryz.prog rt W):∃a:Addr,W.var? Tryz.prog "strconv.ErrSyntax" = some #[.iface 267 (.pointer (some a))]:=by
 have h':=h.tail.tail.tail.tail.tail
 obtain ⟨a,s,h1,_⟩:=laid_sentinel (g:=0) (ti:=164) (tp:=267) (te:=269) (ts:=9) h' (by kernel_rfl) (by kernel_rfl) Tryz.underlying164 bh Tryz.underlying267 Tryz.underlying269 rfl rfl Tryz.underlying9 (by kernel_rfl) (by kernel_rfl)
 exact ⟨a,h1⟩
theorem AF0 {W:World} (h:laidMet Tryz.prog rt W):Lib.TabIs Tryz.prog W "internal/strconv.uint64pow10" .u64 Lib.pow10Tab:=
 Lib.tabIs_of_head (g:=5) (t:=327) (e:=249) (n:=20) (by kernel_rfl) (by kernel_rfl) (by kernel_rfl) (by kernel_rfl) (by kernel_rfl) (by kernel_rfl) h.tail.tail
theorem Ub {P:Program} {W:World} {n:String} {g:Nat} {cs:Array Value} (hg:P.globalNamed n=some g) (h:W.var? P n=some cs):∃t f,W.heap[g]? = some (.cells cs t f):=by
 unfold World.var? at h
 rw [hg] at h
 simp only [Option.bind_some] at h
 split at h
 ·rename_i cs' t f e
  injection h with h
  subst h
  exact ⟨t,f,e⟩
 cases h
theorem glob {W:World} [E:ErrAt] (h:W.ShapedOpen Tryz.prog) (hl:laidMet Tryz.prog rt W) (he:W.var? Tryz.prog "strconv.ErrRange" = some #[.iface 267 (.pointer (some E.b))]) (he2:W.var? Tryz.prog "strconv.ErrSyntax" = some #[.iface 267 (.pointer (some E.bs))]):Jc W:=by
 intro x hx
 have hx':x∈Xa:=hx
 unfold Xa at hx'
 simp only [List.mem_cons,List.mem_nil_iff,or_false] at hx'
 rcases hx' with rfl|rfl|rfl|rfl
 ·obtain ⟨m,hm⟩:=cell_of_shapedOpen_int (g:=2) (t:=3) (zero:=#[.int .i64 0]) (k:=.i64) h (of_decide_eq_true (by kernel_rfl)) (by kernel_rfl) rfl (by kernel_rfl) (by kernel_rfl) Tryz.underlying3
  obtain ⟨cs,hh,hs,_⟩:=h.1 2 #[.int .i64 0] 3 (of_decide_eq_true (by kernel_rfl)) (by kernel_rfl)
  have hs':cs.size=1:=hs
  have h1:0<cs.size:=by omega
  have hc:cs[0]=.int .i64 m:=by
   simp [World.cell?,hh,h1] at hm
   exact hm
  have:cs=#[.int .i64 m]:=by
   apply Array.ext
   ·simpa using hs'
   intro i h1 h2
   have:i=0:=by omega
   subst this
   simpa using hc
  rw [this] at hh
  exact ⟨_,hh,m,3,_,rfl⟩
 ·obtain ⟨t,f,e⟩:=Ub (g:=1) (by kernel_rfl) he
  exact ⟨_,e,t,f,rfl⟩
 ·obtain ⟨t,f,e⟩:=Ub (g:=0) (by kernel_rfl) he2
  exact ⟨_,e,t,f,rfl⟩
 obtain ⟨t,f,e⟩:=Ub (g:=5) (by kernel_rfl) (AF0 hl)
 exact ⟨_,e,t,f,rfl⟩
end Go.Proofs.YtekiioamifokoaaGreatDoor
namespace Go.SX.Nb
open Go Go.SX Go.Proofs
variable [ErrAt]
set_option maxRecDepth 4000
mutual
def depthE:Expr→Nat
 | .mk _ _ _ k=>Pa k+1
def Pa:List Expr→Nat
  | []=>0
  | e::r=>max (depthE e) (Pa r)
 end
mutual
def Dq (p:Expr→Bool):Expr→Bool
 | .mk o t v k=>p (.mk o t v k)&&Mr p k
def Mr (p:Expr→Bool):List Expr→Bool
  | []=>true
  | e::r=>Dq p e&&Mr p r
 end
mutual
def Xt:Expr→List Expr
 | .mk o t v k=>.mk o t v k::Uc k
def Uc:List Expr→List Expr
  | []=>[]
  | e::r=>Xt e++Uc r
 end
theorem bi (e:Expr):depthE e=Pa e.kids+1:=by cases e;rfl
theorem Ip (p:Expr→Bool) (e:Expr):Dq p e=(p e&&Mr p e.kids):=by cases e;rfl
theorem Sj:∀a b,E2 (a++b)=E2 a+E2 b
 | [],b=>by rw [E5,E2,Bq]
 | e::r,b=>by rw [E9,E2,E2,Sj r b,Km]
theorem Ff (p:Expr→Bool):∀l:List Expr,Mr p l=true↔∀y∈l,Dq p y=true
 | []=>by simp [Mr]
 | e::r=>by rw [Mr,Ao,Ff p r];simp
mutual
theorem H7:∀(d:Int) (e:Expr),(Bu d e).length=sizeE e
 | d,.mk o t v k=>by rw [Bu,sizeE,B2,Xu (d+1) k,Nat.add_comm]
theorem Xu:∀(d:Int) (l:List Expr),(Bs d l).length=E2 l
  | d,[]=>rfl
  | d,e::r=>by rw [Bs,E2,At,H7 d e,Xu d r]
 end
mutual
theorem Xv:∀(d:Int) (e:Expr),(Bu d e).map (·.2)=Xt e
 | d,.mk o t v k=>by rw [Bu,Xt,Bk,Xw (d+1) k]
theorem Xw:∀(d:Int) (l:List Expr),(Bs d l).map (·.2)=Uc l
  | d,[]=>rfl
  | d,e::r=>by rw [Bs,Uc,Bj,Xv d e,Xw d r]
 end
mutual
theorem bj (p:Expr→Bool):∀e:Expr,(Xt e).all p=Dq p e
 | .mk o t v k=>by rw [Xt,Dq,List.all_cons,Xx p k]
theorem Xx (p:Expr→Bool):∀l:List Expr,(Uc l).all p=Mr p l
  | []=>rfl
  | e::r=>by rw [Uc,Mr,List.all_append,bj p e,Xx p r]
 end
theorem wh (p:Expr→Bool) (d:Int) (e:Expr):((Bu d e).all fun it=>p it.2)=Dq p e:=by
 rw [←bj p e,←Xv d e,List.all_map]
 rfl
def Fx (m:Int) (L:List (Int×Expr)):Int:=L.foldl (fun m it=>max m it.1) m
mutual
theorem Xy:∀(d m:Int) (e:Expr),Fx m (Bu d e)=max m (d-1+depthE e)
 | d,m,.mk o t v k=>by
  rw [Bu,depthE]
  show Fx (max m d) (Bs (d+1) k)=_
  rw [Xz (d+1) (max m d) k (by omega)]
  omega
theorem Xz:∀(d m:Int) (l:List Expr),d-1≤m→Fx m (Bs d l)=max m (d-1+Pa l)
  | d,m,[],h=>by
    rw [Bs,Pa]
    show m=_
    omega
  | d,m,e::r,h=>by
    rw [Bs,Pa]
    unfold Fx
    rw [n6]
    show Fx (Fx m (Bu d e)) (Bs d r)=_
    rw [Xy d m e,Xz d _ r (by omega)]
    omega
 end
theorem Vd (e:Expr):Fx 0 (Bu 1 e)=depthE e:=by rw [Xy];omega
theorem ka:∀(L:List (Int×Expr)) (m b:Int),m≤b→(Fx m L≤b↔∀it∈L,it.1≤b)
 | [],m,b,h=>by simp [Fx,h]
 | it::r,m,b,h=>by
  show Fx (max m it.1) r≤b↔_
  rcases Decidable.em (it.1≤b) with h1|h1
  ·rw [ka r (max m it.1) b (by omega)]
   simp [h1]
  constructor
  ·intro h2
   have:∀(r:List (Int×Expr)) (m:Int),m≤Fx m r:=by
    intro r
    induction r with
    | nil=>intro m;exact Int.le_refl _
    | cons a r ih=>intro m;have:=ih (max m a.1);show m≤Fx (max m a.1) r;omega
   have:=this r (max m it.1)
   omega
  intro h2
  exact absurd (h2 it (by simp)) h1
theorem AF1 (e:Expr) {b:Nat}:(∀it∈Bu 1 e,it.1≤(b:Int))↔depthE e≤b:=by
 rw [←ka (Bu 1 e) 0 b (by omega),Vd]
 omega
def Fs (e:Expr):Bool:=(decide (depthE e≤30)&&decide (sizeE e≤300))&&Dq Es e
theorem Ga (e:Expr):Au e=Fs e:=by
 have hpos:1≤sizeE e:=by rw [Sh];omega
 rw [Tj]
 unfold Au Fs
 rw [Az]
 simp only [Ao,decide_eq_true_eq,Ps,H7]
 rw [←AF1 e,←wh Es 1 e,Az]
 constructor
 ·intro h
  have key:∀(k:Nat) (hk:k<(Bu 1 e).length),Es (Bu 1 e)[k].2=true∧(Bu 1 e)[k].1≤30∧(k:Int)+1≤300:=fun k hk=>by
   have:=h k (by rw [H7] at hk;exact hk)
   rw [gg (Ab hk)] at this
   simp only [K6,E3,Oe,decide_eq_false_iff_not] at this
   exact ⟨this.1.1,by have:=this.1.2;omega,by have:=this.2;omega⟩
  refine ⟨⟨fun it hit=>?_,?_⟩,fun it hit=>?_⟩
  ·obtain ⟨k,hk,rfl⟩:=To hit
   exact (key k hk).2.1
  ·have:=(key (sizeE e-1) (by rw [H7];omega)).2.2
   omega
  obtain ⟨k,hk,rfl⟩:=To hit
  exact (key k hk).1
 rintro ⟨⟨h1,h2⟩,h3⟩ k hk
 have hk':k<(Bu 1 e).length:=by rw [H7];exact hk
 rw [gg (Ab hk')]
 have a1:=h1 _ (Bf hk')
 have a3:=h3 _ (Bf hk')
 have a3':Es (Bu 1 e)[k].2=true:=a3
 rw [a3']
 simp only [K6,E3,Hw,decide_eq_false_iff_not]
 exact ⟨⟨trivial,by have:(Bu 1 e)[k].1≤(30:Int):=a1;omega⟩,by omega⟩
/-- Its number is one of 64 bits. -/
def Ge (e:Expr):Bool:=decide (-9223372036854775808≤e.val.n)&&decide (e.val.n≤9223372036854775807)
/-! Names. -/
mutual
def eqE:Expr→Expr→Bool
 | .mk o t v k,.mk o' t' v' k'=>((((o==o')&&(t==t'))&&((v.kind==v'.kind&&v.n==v'.n)&&v.s==v'.s)))&&eqL k k'
def eqL:List Expr→List Expr→Bool
  | [],[]=>true
  | e::r,e'::r'=>eqE e e'&&eqL r r'
  | _,_=>false
 end
theorem AIz (x y:Expr):eqE x y=((((x.op==y.op)&&(x.text==y.text))&&((x.val.kind==y.val.kind&&x.val.n==y.val.n)&&x.val.s==y.val.s))&&eqL x.kids y.kids):=by
 cases x;cases y;rw [eqE];rfl
mutual
theorem Wf:∀x y:Expr,eqE x y=true↔x=y
 | .mk o t v k,.mk o' t' v' k'=>by
  rw [eqE]
  simp only [Ao,beq_iff_eq,Sk k k',Expr.mk.injEq]
  constructor
  ·rintro ⟨⟨⟨rfl,rfl⟩,⟨h1,h2⟩,h3⟩,rfl⟩
   refine ⟨rfl,rfl,?_,rfl⟩
   cases v;cases v'
   simp_all
  rintro ⟨rfl,rfl,rfl,rfl⟩
  exact ⟨⟨⟨rfl,rfl⟩,⟨rfl,rfl⟩,rfl⟩,rfl⟩
theorem Sk:∀x y:List Expr,eqL x y=true↔x=y
  | [],[]=>by simp [eqL]
  | [],e::r=>by simp [eqL]
  | e::r,[]=>by simp [eqL]
  | e::r,e'::r'=>by rw [eqL,Ao,Wf e e',Sk r r',Tl]
 end
theorem AF2:∀{x y:List Expr},eqL x y=true→x.length=y.length:=fun h=>by rw [(Sk _ _).1 h]
theorem ABa (x:Expr):eqE x x=true:=(Wf x x).2 rfl
/-! A node by itself, and marks. -/
theorem gk {of:Str} {ws:List Str} (h:of=P7 ws) (hp:∀w∈ws,(32:UInt8)∉w) (s:Str):Q5 s of=(!(s==[])&&ws.contains s):=by
 unfold Q5
 rw [k8]
 cases hb:s.contains 32 with
 | false =>
  have h2:(32:UInt8)∉s:=by simpa using hb
  rw [h,Lf s h2 ws hp,Wn,Wm]
  congr 1
  rw [List.contains_eq_any_beq]
  congr 1
  funext w
  rw [Tj,beq_iff_eq,beq_iff_eq]
  exact eq_comm
 | true =>
  have h2:(32:UInt8)∈s:=by simpa using hb
  have h3:ws.contains s=false:=by
   rw [K5]
   intro h4
   exact hp s (by simpa using h4) h2
  rw [h3]
  simp
def levels:List (List Str):=[[[111,114]],[[97,110,100]],[],[[61],[33,61],[60],[60,61],[62],[62,61]],[[43],[45],[38]],[[42],[47],[37]]]
def Nm (s:Str):Int:=match levels.findIdx? (fun l=>l.contains s) with|some i=>i|none => -1
def Ud:List Str:=[[111,114],[],[97,110,100],[],[61],[33,61],[60],[60,61],[62],[62,61],[],[43],[45],[38],[],[42],[47],[37]]
theorem ot:Q6=P7 Ud:=by kernel_rfl
theorem kb:∀w∈Ud,(32:UInt8)∉w:=by decide
theorem ou (s:Str):Q5 s Q6=decide (0≤Nm s):=by
 rw [gk ot kb s]
 have h1:decide (0≤Nm s)=levels.any (fun l=>l.contains s):=by
  unfold Nm
  cases h:levels.findIdx? (fun l=>l.contains s) with
  | some i =>
   have:levels.any (fun l=>l.contains s)=true:=by
    have:=Wp.1 h
    obtain ⟨hi,hp,_⟩:=this
    exact Fi.2 ⟨_,Bf hi,hp⟩
   rw [this]
   simp
  | none =>
   have:=Wo.1 h
   have e:levels.any (fun l=>l.contains s)=false:=by
    rw [If]
    intro l hl
    rw [this l hl]
    simp
   rw [e]
   rfl
 rw [h1]
 by_cases h0:s=[]
 ·subst h0;rfl
 have:(s==[])=false:=by simpa using h0
 rw [this,Wn,Qz]
 simp [levels,Ud,h0,Bool.or_assoc]
def Y0 (e:Expr):Bool:=
 if e.op==1 then ((Ec e.val&&decide (0≤e.val.n))&&(e.text==[]))&&((e.kids.length:Int)==0)
 else if !(O8 e.val) then false
 else if e.op==2 then Qq e.text&&((e.kids.length:Int)==0)
 else if e.op==3 || e.op==4 then (e.text==[])&&((e.kids.length:Int)==1)
 else if e.op==5 then decide (0≤Nm e.text)&&((e.kids.length:Int)==2)
 else if e.op==6 then Cf e.text==(e.kids.length:Int)
 else false
theorem kc (e:Expr):Es e=Y0 e:=by
 unfold Es Y0
 rw [ou,I1]
 cases O8 e.val<;>simp
/-! What is wide. -/
def Ue (e:Expr):Bool:=((decide ((100:Int)<e.text.length) || decide ((400:Int)<e.val.s.length)) || decide ((100:Int)<e.kids.length))
/-- Among trees, when n have been seen: is one too much? -/
def Qr (l:List Expr) (n:Nat):Bool:=decide (500<n+l.length) || l.any Ue
def Hn:Nat→List Expr→Nat→Bool
 | 0,l,n => !l.isEmpty
 | f+1,l,n=>if l.isEmpty then false else if Qr l n then true else if decide ((500:Int)<(l.flatMap Expr.kids).length) then true else Hn f (l.flatMap Expr.kids) (n+l.length)
theorem Y1:∀l:List Expr,E2 l=l.length+E2 (l.flatMap Expr.kids)
 | []=>rfl
 | e::r=>by
  rw [E2,Sh,dn,Sj,Y1 r,B2]
  omega
theorem Y2 {l:List Expr} {n:Nat} (h:Qr l n=false):n+l.length≤500∧∀e∈l,Ue e=false:=by
 unfold Qr at h
 simp only [E3,decide_eq_false_iff_not,If,Tk] at h
 exact ⟨by omega,h.2⟩
theorem gm {e:Expr} (h:Ue e=false):e.text.length≤100∧e.val.s.length≤400∧e.kids.length≤100:=by
 unfold Ue at h
 simp only [E3,decide_eq_false_iff_not] at h
 omega
theorem bn {f:Nat} {l:List Expr} {n:Nat} (h:Hn (f+1) l n=false) (hl:l.isEmpty=false):Qr l n=false∧(l.flatMap Expr.kids).length≤500∧Hn f (l.flatMap Expr.kids) (n+l.length)=false:=by
 rw [Hn,if_neg (by rw [hl];simp)] at h
 split at h
 ·cases h
 rename_i h1
 split at h
 ·cases h
 rename_i h2
 simp only [decide_eq_true_eq] at h2
 exact ⟨by simpa using h1,by omega,h⟩
theorem ru:∀(f:Nat) (l:List Expr) (n:Nat),Hn f l n=false→∀e∈l,okE f e∧Dq (fun y => !Ue y) e=true
 | 0,l,n,h,e,he=>by
  have:l=[]:=by simpa [Hn] using h
  subst this
  cases he
 | f+1,l,n,h,e,he=>by
  have hl:l.isEmpty=false:=by cases l<;>simp_all
  obtain ⟨h1,h2,h3⟩:=bn h hl
  have h4:=gm ((Y2 h1).2 e he)
  have ih:=ru f _ _ h3
  have hk:∀y∈e.kids,okE f y∧Dq (fun y => !Ue y) y=true:=fun y hy=>ih y (List.mem_flatMap.2 ⟨e,he,hy⟩)
  refine ⟨⟨by omega,by omega,fun y hy=>(hk y hy).1⟩,?_⟩
  rw [Ip,(Y2 h1).2 e he,(Ff _ _).2 fun y hy=>(hk y hy).2]
  rfl
theorem bo:∀(f:Nat) (l:List Expr) (n:Nat),n≤500→Hn f l n=false→n+E2 l≤500
 | 0,l,n,hn,h=>by
  have:l=[]:=by simpa [Hn] using h
  subst this
  simpa [E2] using hn
 | f+1,l,n,hn,h=>by
  by_cases hl:l.isEmpty=true
  ·have:l=[]:=by simpa using hl
   subst this
   simpa [E2] using hn
  have hl':l.isEmpty=false:=by simpa using hl
  obtain ⟨h1,h2,h3⟩:=bn h hl'
  have:=bo f _ _ (Y2 h1).1 h3
  rw [Y1 l]
  omega
def Pb (e:Expr):Bool:=Hn 61 [e] 0
/-- A tree that is gone through. -/
structure Slim (e:Expr):Prop where
 ok:okE 61 e
 size:sizeE e≤500
 slim:Dq (fun y => !Ue y) e=true
theorem rx {e:Expr} (h:Pb e=false):Slim e:=by
 obtain ⟨h1,h2⟩:=ru _ _ _ h e (by simp)
 have:=bo _ _ _ (by decide) h
 exact ⟨h1,by simpa [E2] using this,h2⟩
end Go.SX.Nb
namespace Go.Proofs.YtekiioamifokoaaGreatDoor
open Go Go.SX Go.SX.Nb Go.ChangeShapes Go.RowKit
set_option maxRecDepth 100000
theorem ov {ys:List AV} (h:∀(i:Nat) (y:AV),ys[i]? = some y→∃e:Nb.Expr,y=A8 e∧Dq Ge e=true):∃l:List Nb.Expr,ys=l.map A8∧Mr Ge l=true:=by
 induction ys with
 | nil=>exact ⟨[],rfl,rfl⟩
 | cons y ys ih =>
  obtain ⟨e,rfl,he⟩:=h 0 y rfl
  obtain ⟨l,rfl,hl⟩:=ih (fun i z hz=>h (i+1) z hz)
  exact ⟨e::l,rfl,by rw [Mr,he,hl];rfl⟩
theorem ry {H:Type} [ErrAt] (d:DataW H) (y:AV) (h:DRep Tryz.prog 24 d y):∃v:Val,y=Bn v ∧ -9223372036854775808≤v.n∧v.n≤9223372036854775807:=by
 obtain ⟨ys,hn,rfl,hh⟩:=h.struct' ac Tryz.underlying24
 match ys,hn with
 | [y0,y1,y2],_ =>
  obtain ⟨d0,b0,h0⟩:=hh 0 _ y0 rfl rfl
  obtain ⟨d1,b1,h1⟩:=hh 1 _ y1 rfl rfl
  obtain ⟨d2,b2,h2⟩:=hh 2 _ y2 rfl rfl
  obtain ⟨k,rfl,rfl,_⟩:=h0.int' Tryz.underlying3
  obtain ⟨n,rfl,rfl,hn1,hn2⟩:=h1.int' Tryz.underlying2
  obtain ⟨s,rfl,rfl⟩:=h2.str' Tryz.underlying9
  exact ⟨⟨k,n,s⟩,rfl,hn1,hn2⟩
theorem ke {H:Type} [ErrAt] {t:TypeId} {d:DataW H} {y:AV} (h:DRep Tryz.prog t d y):(t=27→∃e:Nb.Expr,y=A8 e∧Dq Ge e=true)∧(t=25→∃l:List Nb.Expr,y=.slice false 6 (l.map A8)∧Mr Ge l=true):=by
 induction h with
 | int hu _=>exact ⟨fun e=>(by subst e;rw [Tryz.underlying27] at hu;cases hu),fun e=>by subst e;rw [Tryz.underlying25] at hu;cases hu⟩
 | bool hu=>exact ⟨fun e=>(by subst e;rw [Tryz.underlying27] at hu;cases hu),fun e=>by subst e;rw [Tryz.underlying25] at hu;cases hu⟩
 | str hu=>exact ⟨fun e=>(by subst e;rw [Tryz.underlying27] at hu;cases hu),fun e=>by subst e;rw [Tryz.underlying25] at hu;cases hu⟩
 | nil hu =>
  refine ⟨fun e=>(by subst e;rw [Tryz.underlying27] at hu;cases hu),fun e=>?_⟩
  subst e
  rw [Tryz.underlying25] at hu
  injection hu with hu
  injection hu with hu
  subst hu
  exact ⟨[],by rw [show Tryz.prog.cellsOf 27=6 by kernel_rfl];rfl,rfl⟩
 | slice hu hn hh ih =>
  refine ⟨fun e=>(by subst e;rw [Tryz.underlying27] at hu;cases hu),fun e=>?_⟩
  subst e
  rw [Tryz.underlying25] at hu
  injection hu with hu
  injection hu with hu
  subst hu
  rename_i elems spare ys
  obtain ⟨l,rfl,hl⟩:=ov (ys:=ys) (fun i y hy=>by
   have hlt:i<elems.length:=by rw [←hn];exact (List.getElem?_eq_some_iff.1 hy).1
   exact (ih i elems[i] y (List.getElem?_eq_getElem hlt) hy).1 rfl)
  exact ⟨l,by rw [show Tryz.prog.cellsOf 27=6 by kernel_rfl],hl⟩
 | struct hu hn hn' hh ih =>
  refine ⟨fun e=>?_,fun e=>by subst e;rw [Tryz.underlying25] at hu;cases hu⟩
  subst e
  rw [Tryz.underlying27] at hu
  injection hu with hu
  injection hu with hu
  subst hu
  rename_i parts ys
  match parts,hn,ys,hn' with
  | [p0,p1,p2,p3],_,[y0,y1,y2,y3],_ =>
   obtain ⟨o,rfl,rfl,_⟩:=(hh 0 _ p0 y0 rfl rfl rfl).int' Tryz.underlying3
   obtain ⟨s,rfl,rfl⟩:=(hh 1 _ p1 y1 rfl rfl rfl).str' Tryz.underlying9
   obtain ⟨v,rfl,hv1,hv2⟩:=ry p2 y2 (hh 2 _ p2 y2 rfl rfl rfl)
   obtain ⟨l,rfl,hl⟩:=(ih 3 _ p3 y3 rfl rfl rfl).2 rfl
   refine ⟨.mk o s v l,?_,?_⟩
   ·rw [Al];rfl
   rw [Dq,hl,Bool.and_true]
   show (decide (-9223372036854775808≤v.n)&&decide (v.n≤9223372036854775807))=true
   simp [hv1,hv2]
theorem ABb {H:Type} [ErrAt] (d:DataW H) (y:AV) (h:DRep Tryz.prog 27 d y):∃e:Nb.Expr,y=A8 e∧Dq Ge e=true:=(ke h).1 rfl
end Go.Proofs.YtekiioamifokoaaGreatDoor
namespace Go.SX.Nb
open Go Go.SX Go.Proofs
variable [ErrAt]
set_option maxRecDepth 4000
/-- The lexer from a place between two words on. -/
def AP6 (f q:Nat) (s:Str):List (Tok×Int):=Je f (q+gapM s) (s.drop (gapM s))
theorem kg {f q:Nat} {s:Str} (h:s≠[]):∃(n:Nat),Je (f+1) q s=(⟨(Cn s).1,(Cn s).2.1,q⟩,(Cn s).2.2.2)::(if (Cn s).2.2.2=0 then AP6 f (q+n) (s.drop n) else [])∧((Cn s).2.2.2=0→(Cn s).2.2.1=(n:Int)∧1≤n∧n≤s.length):=by
 refine ⟨(Cn s).2.2.1.toNat,?_,fun he=>?_⟩
 ·rw [P6 h]
  simp only [beq_iff_eq]
  rfl
 obtain ⟨n,h1,h2,h3⟩:=rq (s:=s) (by cases s with|nil=>exact absurd rfl h|cons c r=>simp) he
 rw [h1]
 exact ⟨rfl,by simpa using h2,by simpa using h3⟩
/-! ### Gaps -/
/-! ### Words -/
theorem AF3 {s:Str} (h:(Bi s).2.1=0):s.length≤4000∧(∀it∈Cl s,it.2=0)∧Bi s=((Cl s).map (·.1)++[⟨0,[],s.length⟩],0,0):=by
 unfold Bi at h ⊢
 split at h
 ·exact absurd h (show ¬(3:Int)=0 by decide)
 rename_i hl
 rw [if_neg hl]
 cases hf:(Cl s).find? (fun it=>it.2 != 0) with
 | some it =>
  rw [hf] at h
  have:=dm hf
  simp at this
  exact absurd h this
 | none =>
  rw [M5] at hf
  refine ⟨by omega,fun it hit=>by simpa using hf it hit,rfl⟩
def Ve (s:Str):Int:=if Cw 1==s then 1 else if Cw 2==s then 2 else if Cw 3==s then 3 else 0
structure KindUpto (s:Str) (x:Nat):Prop where
 le:x≤3
 a:1≤x→(Cw 1==s)=false
 b:2≤x→(Cw 2==s)=false
 c:3≤x→(Cw 3==s)=false
theorem AF4 {s:Str} {x:Nat} (h:KindUpto s x) (hx:x<3) (e:(Cw ((x:Int)+1)==s)=true):Ve s=(x:Int)+1:=by
 have h3:x=0∨x=1∨x=2:=by omega
 unfold Ve
 rcases h3 with rfl|rfl|rfl
 ·have e:(Cw 1==s)=true:=e
  rw [if_pos e];rfl
 ·have e:(Cw 2==s)=true:=e
  rw [if_neg (by rw [h.a (by omega)];simp),if_pos e];rfl
 have e:(Cw 3==s)=true:=e
 rw [if_neg (by rw [h.a (by omega)];simp),if_neg (by rw [h.b (by omega)];simp),if_pos e];rfl
theorem AF5 {s:Str} {x:Nat} (h:KindUpto s x) (hx:x<3) (e:(Cw ((x:Int)+1)==s)=false):KindUpto s (x+1):=by
 have h3:x=0∨x=1∨x=2:=by omega
 rcases h3 with rfl|rfl|rfl
 ·exact ⟨by omega,fun _=>e,fun h=>by omega,fun h=>by omega⟩
 ·exact ⟨by omega,fun _=>h.a (by omega),fun _=>e,fun h=>by omega⟩
 exact ⟨by omega,fun _=>h.a (by omega),fun _=>h.b (by omega),fun _=>e⟩
theorem AF6 {s:Str} {x:Nat} (h:KindUpto s x) (hx:3≤x):Ve s=0:=by
 unfold Ve
 rw [if_neg (by rw [h.a (by omega)];simp),if_neg (by rw [h.b (by omega)];simp),if_neg (by rw [h.c (by omega)];simp)]
theorem AP7 (s:Str) (Hp:List AObj):AFun Tryz.prog 254 [Ac s] Hp (A3 (Ve s)):=by
 refine Ae [.tmp 2] [0] Tryz.func254 Tryz.ntmps254 (fun d=>?_)
 refine Z41 ?_;refine Z31 ?_;refine Mn ?_
 refine Bg (α:=Nat) (fun x=>⟨13,A6 0 (Ac s) (A6 3 (A3 ((x:Nat)+1)) (fun _=>.any)),Hp,[],[],none⟩) (fun x=>KindUpto s x) (fun x=>3-x) (0) ⟨by omega,fun h=>by omega,fun h=>by omega,fun h=>by omega⟩ (M8 _) rfl (fun x hx=>?_)
 refine Z7 ?_;refine A2 [0,3,5] ?_
 refine A4 (fun ht5=>?_) (fun ht5=>?_)
 ·have hx3:x<3:=by simp at ht5;omega
  refine Tx ?_;refine Z2 ?_;refine A9 Tryz.call97 (c97 _ _) ?_;refine Z0 ?_;refine A2 [0,3,11] ?_
  refine A4 (fun ht11=>?_) (fun ht11=>?_)
  ·refine Z1 ?_;refine Z4 ?_;refine Z51 ?_;exact Aa (Ai A7) ⟨by rw [AF4 hx hx3 (by simpa using ht11)],rfl⟩
  refine jc ?_;refine Mn ?_;exact Bm (x+1) (AF5 hx hx3 (by simpa using ht11)) (by omega) (Ds (by simp))
 have hx3:3≤x:=by simp at ht5;omega
 refine Sc ?_;refine Z42 ?_;exact Aa (Ai A7) ⟨by rw [AF6 hx hx3],rfl⟩

def wi (c:UInt8):Str:=if c=39 then [39,39] else [c]
def Sl (t:Str):Str:=t.flatMap wi
theorem Uf (c:UInt8) (r:Str):Sl (c::r)=wi c++Sl r:=by unfold Sl;rw [dn]
theorem rz:∀s:Str,(Lib.index s [39] = -1∧Sl s=s)∨∃i:Nat,Lib.index s [39]=(i:Int)∧i<s.length∧Sl s=s.take i++[39,39]++Sl (s.drop (i+1))
 | []=>.inl ⟨rfl,rfl⟩
 | b::l=>by
  by_cases hb:b=39
  ·subst hb
   refine .inr ⟨0,by simp [Lib.index,List.isPrefixOf],by simp,?_⟩
   rw [Uf]
   simp [wi]
  have hp:([39]:Str).isPrefixOf (b::l)=false:=by
   simp [List.isPrefixOf,Ne.symm hb]
  have hd:Sl (b::l)=b::Sl l:=by
   rw [Uf,wi,if_neg hb]
   rfl
  rcases rz l with ⟨h1,h2⟩|⟨i,h1,h2,h3⟩
  ·refine .inl ⟨?_,by rw [hd,h2]⟩
   rw [Lib.index,hp,h1];rfl
  refine .inr ⟨i+1,?_,by simp;omega,?_⟩
  ·rw [Lib.index,hp,h1,if_neg (by simp),if_neg (by simp)]
   rfl
  rw [hd,h3]
  simp
theorem Sm:∀(n:Nat) (s:Str),s.length≤n→Lib.replaceK [39] [39,39] (Lib.count s [39]) s=Sl s
 | n,s,hn=>by
  rcases rz s with ⟨h1,h2⟩|⟨i,h1,h2,h3⟩
  ·rw [Lib.count_miss h1,h2];rfl
  cases n with
  | zero=>omega
  | succ n =>
   rw [Lib.count_hit (by decide) h1,Nat.add_comm,Lib.replaceK_hit _ _ _ _ i h1]
   have e:i+([39]:Str).length=i+1:=rfl
   rw [e,Sm n (s.drop (i+1)) (by rw [Gv];omega),h3]
theorem ki (s:Str):Lib.replaceAll s [39] [39,39]=Sl s:=by
 unfold Lib.replaceAll Lib.replace
 rw [if_neg (by decide)]
 have e:Lib.replaceNum s [39] (-1)=Lib.count s [39]:=by unfold Lib.replaceNum;rw [if_pos (.inl (by decide))]
 rw [e]
 exact Sm _ s (Aj _)
def s6 (t:Tok):Str:=if t.kind=4 then [39]++Sl t.text++[39] else t.text
theorem ow {q:Str} (h0:q.headD 0=39) (h1:1≤q.length) (h:(Im q).2=0):[39]++Sl (Im q).1.s++[39]=q:=by
 cases q with
 | nil=>simp at h1
 | cons c r =>
  have hc:c=39:=h0
  subst hc
  unfold Im at h ⊢
  have n1:((39::r:Str)==[110,117,108,108])=false:=by rw [beq_eq_false_iff_ne];intro e;injection e with e;exact absurd e (by decide)
  have n2:((39::r:Str)==[116,114,117,101])=false:=by rw [beq_eq_false_iff_ne];intro e;injection e with e;exact absurd e (by decide)
  have n3:((39::r:Str)==[102,97,108,115,101])=false:=by rw [beq_eq_false_iff_ne];intro e;injection e with e;exact absurd e (by decide)
  rw [n1,n2,n3] at h ⊢
  simp only [Bd,if_false,Bool.or_self] at h ⊢
  by_cases hq:b7 (39::r)=true
  ·rw [if_pos hq] at h ⊢
   unfold jq at h ⊢
   split at h
   ·exact absurd h (show ¬(7:Int)=0 by decide)
   rename_i hp
   rw [if_neg hp]
   have hp':Mc (Xd (39::r))=39::r:=by simpa using hp
   have hk:(Xd (39::r)).kind=2:=rfl
   show [39]++Sl (Xd (39::r)).s++[39]=39::r
   generalize Xd (39::r)=v at hp' hk
   have hne:Mc v≠[]:=by rw [hp'];simp
   rw [←hp']
   unfold Mc at hne ⊢
   split at hne
   ·exact absurd rfl hne
   rename_i hpl
   rw [if_neg hpl,hk,if_neg (by decide),if_pos (by decide),ki]
  rw [if_neg hq] at h
  have hd:Lc (39::r)=true:=by
   unfold Lc
   have e:V6 (39::r)=39::r:=by
    rcases V7 (39::r) with ⟨_,h4⟩|⟨r',h3,_⟩
    ·exact h4
    injection h3 with h3;exact absurd h3 (by decide)
   rw [e]
   have:(Lib.trimS (39::r) digs==[])=false:=by
    rw [beq_eq_false_iff_ne]
    intro e
    rw [ax] at e
    exact absurd (e 39 (by simp)) (by decide)
   rw [this]
   simp
  have hn:Cq (39::r)=(0,6):=by unfold Cq;rw [if_pos hd]
  rw [hn] at h
  simp at h
theorem ae (s:Str) (m:Nat):s.take (s.take m).length=s.take m:=by
 rw [C0]
 rcases Nat.le_total m s.length with h|h
 ·rw [rc h]
 rw [Nat.min_eq_right h,Ej (Aj _),Ej h]
theorem Pc (s of:Str):s.take (Ed s of).length=Ed s of:=by
 unfold Ed
 exact ae s _
/-- What a word's print spells is what was read. -/
theorem oy {s:Str} {n p:Nat} (h0:1≤s.length) (he:(Cn s).2.2.2=0) (hn:(Cn s).2.2.1=(n:Int)):s6 ⟨(Cn s).1,(Cn s).2.1,p⟩=s.take n:=by
 cases s with
 | nil=>simp at h0
 | cons c r =>
  unfold Cn at he hn ⊢
  by_cases c1:decide (0<Se ((c::r).take 1) letters)=true
  ·rw [if_pos c1] at he hn
   simp only [if_pos c1]
   unfold Rf at he hn ⊢
   by_cases r1:Hb (Ed (c::r) tails)=true
   ·rw [if_pos r1] at hn
    simp only [if_pos r1]
    have hn':(((Ed (c::r) tails).length:Nat):Int)=n:=hn
    have e:n=(Ed (c::r) tails).length:=by omega
    rw [e,Pc]
    rfl
   rw [if_neg r1] at he hn
   simp only [if_neg r1]
   by_cases r2:(!Dy (Ed (c::r) tails))=true
   ·rw [if_pos r2] at he;exact absurd he (show ¬(3:Int)=0 by decide)
   rw [if_neg r2] at hn
   simp only [if_neg r2]
   have hn':(((Ed (c::r) tails).length:Nat):Int)=n:=hn
   have e:n=(Ed (c::r) tails).length:=by omega
   rw [e,Pc]
   rfl
  rw [if_neg c1] at he hn
  simp only [if_neg c1]
  by_cases c2:decide (0<Se ((c::r).take 1) digs)=true
  ·rw [if_pos c2] at he hn
   simp only [if_pos c2]
   have hn':(((Ed (c::r) digs).length:Nat):Int)=n:=hn
   have e:n=(Ed (c::r) digs).length:=by omega
   rw [e,Pc]
   rfl
  rw [if_neg c2] at he hn
  simp only [if_neg c2]
  by_cases c3:(((((c::r)).getD 0 0).toNat:Int)==39)=true
  ·rw [if_pos c3] at he hn
   simp only [if_pos c3]
   have hc:c=39:=by
    have c3':((c.toNat:Int)==39)=true:=c3
    exact dy.1 (by have:(39:UInt8).toNat=39:=rfl;simp at c3';omega)
   unfold Ly at he hn ⊢
   cases hq:Dt ((c::r).drop 1) with
   | none=>rw [hq] at he;exact absurd he (show ¬(7:Int)=0 by decide)
   | some m =>
    rw [hq] at he hn
    simp only at he hn ⊢
    split at he
    ·exact absurd he (show ¬(3:Int)=0 by decide)
    rename_i hr
    rw [if_neg hr] at hn
    simp only [if_neg hr]
    have hm':(((m+1:Nat)):Int)=n:=hn
    have hm:n=m+1:=by omega
    subst hm
    have hr':(Im ((c::r).take (m+1))).2=0:=by simpa using hr
    have:=ow (q:=(c::r).take (m+1)) (by rw [hc];rfl) (by simp) hr'
    unfold s6
    rw [if_pos rfl]
    exact this
  rw [if_neg c3] at he hn
  simp only [if_neg c3]
  unfold Xh at he hn ⊢
  split at hn
  ·rename_i h2
   simp only [if_pos h2]
   have hn':(2:Int)=n:=hn
   have:n=2:=by omega
   subst this
   rfl
  rename_i h2
  rw [if_neg h2] at he
  simp only [if_neg h2]
  split at hn
  ·rename_i h3
   simp only [if_pos h3]
   have hn':(1:Int)=n:=hn
   have:n=1:=by omega
   subst this
   rfl
  rename_i h3
  rw [if_neg h3] at he
  exact absurd he (show ¬(7:Int)=0 by decide)
theorem wrap_u64 {n:Int} (h1:0≤n) (h2:n<18446744073709551616):IntKind.u64.wrap n=n:=by
 have e1:(2 ^ IntKind.u64.bits:Int)=18446744073709551616:=rfl
 have e3:IntKind.u64.signed=false:=rfl
 unfold IntKind.wrap
 simp only [e1,e3,mr]
 simp
 omega
theorem s7:∀t:Str,t.length≤(Sl t).length
 | []=>Aj _
 | c::r=>by
  have:=s7 r
  rw [Uf,At,B2]
  have h:1≤(wi c).length:=by unfold wi;split<;>simp
  omega
theorem AF7 (t:Tok):t.text.length≤(s6 t).length:=by
 unfold s6
 split
 ·have:=s7 t.text
  simp only [At,B2,Bz]
  omega
 exact Aj _
/-- Words with an end. -/
structure TokEnd (l:List Tok):Prop where
 split:∃L z,l=L++[z]∧z.kind=0∧∀t∈L,t.kind≠0
 texts:∀t∈l,t.text.length≤1048576
theorem TokEnd.pos {l:List Tok} (h:TokEnd l):1≤l.length:=by
 obtain ⟨L,z,rfl,_,_⟩:=h.split
 simp
theorem TokEnd.text {l:List Tok} (h:TokEnd l) (i:Nat):(Af l i).text.length≤1048576:=by
 unfold Af
 rcases Bp i l.length with hi|hi
 ·rw [Cc,Ab hi]
  exact h.texts _ (Bf hi)
 rw [Cc,Gp hi]
 exact Aq _
theorem AF8 (s:Str) (he:(Cn s).2.2.2=0):(Cn s).1≠0:=by
 revert he
 unfold Cn Rf ge Ly Xh
 repeat' split
 all_goals simp
theorem kj:∀(f q:Nat) (s:Str),(∀it∈Je f q s,it.2=0)→∀it∈Je f q s,it.1.kind≠0∧it.1.text.length≤s.length
 | 0,_,_,_,it,hm=>by cases hm
 | f+1,q,s,h,it,hm=>by
  by_cases hs:s=[]
  ·subst hs;cases hm
  obtain ⟨n,h1,h2⟩:=kg (f:=f) (q:=q) hs
  rw [h1] at hm h
  have h0:(Cn s).2.2.2=0:=h (⟨(Cn s).1,(Cn s).2.1,q⟩,(Cn s).2.2.2) (Gw ..)
  obtain ⟨hn,hn1,hn2⟩:=h2 h0
  rw [if_pos h0] at hm h
  rcases B3.1 hm with rfl|hm
  ·refine ⟨AF8 s h0,?_⟩
   have hs1:1≤s.length:=by cases s with|nil=>exact absurd rfl hs|cons c r=>simp
   have:=oy (p:=q) hs1 h0 hn
   have h3:=AF7 ⟨(Cn s).1,(Cn s).2.1,q⟩
   rw [this] at h3
   simp only [C0] at h3
   show (Cn s).2.1.length≤s.length
   omega
  have:=kj f _ _ (fun it hit=>h it (Jp _ hit)) it hm
  simp only [Gv] at this
  exact ⟨this.1,by omega⟩
theorem s8 {s:Str} (h:(Bi s).2.1=0):TokEnd (Bi s).1:=by
 by_cases h4:4000<s.length
 ·unfold Bi at h
  rw [if_pos h4] at h
  exact fx
 have e:Bi s=((Cl s).map (·.1)++[⟨0,[],s.length⟩],0,0)∧∀it∈Cl s,it.2=0:=by
  unfold Bi at h ⊢
  rw [if_neg h4] at h ⊢
  cases hf:(Cl s).find? (fun it=>it.2 != 0) with
  | none =>
   rw [M5] at hf
   exact ⟨rfl,fun it hit=>by simpa using hf it hit⟩
  | some it =>
   rw [hf] at h
   have:=dm hf
   simp only [bne_iff_ne] at this
   exact absurd h this
 obtain ⟨e,hz⟩:=e
 have hnz:=kj _ _ _ hz
 rw [e]
 refine ⟨⟨_,_,rfl,rfl,fun t ht=>?_⟩,fun t ht=>?_⟩
 ·obtain ⟨it,hit,rfl⟩:=C3.1 ht
  exact (hnz it hit).1
 rcases E4.1 ht with ht|ht
 ·obtain ⟨it,hit,rfl⟩:=C3.1 ht
  have:=(hnz it hit).2
  simp only [Gv] at this
  omega
 have e:t=⟨0,[],s.length⟩:=by simpa using ht
 subst e
 exact Aq _
/-- Where a parser of expressions stands: its word, its nest, its fault. -/
structure PS where
 i:Nat
 nest:Nat
 code:Int
 at_:Int
def noV:Val:=⟨0,0,[]⟩
def Av:Expr:=.mk 0 [] noV []
def Ey (e a:Int) (S:PS):PS:=if S.code==0 then ⟨S.i,S.nest,e,a⟩ else S
def isM (l:List Tok) (of:Str) (S:PS):Bool:=(((Af l S.i).kind==5) || ((Af l S.i).kind==2))&&Q5 (Af l S.i).text of
def Ap (S:PS):PS:=⟨S.i+1,S.nest,S.code,S.at_⟩
def Du (S:PS):PS:=⟨S.i,S.nest+1,S.code,S.at_⟩
def bq (S:PS):PS:=⟨S.i,S.nest-1,S.code,S.at_⟩
def Gf (l:List Tok) (s:Str) (S:PS):PS:=if S.code != 0 then S else if ((Af l S.i).kind != 5) || !((Af l S.i).text==s) then Ey 8 (Af l S.i).at_ S else Ap S
/-- What stands one nest deeper. -/
structure Fam where
 ei:PS→Expr×PS
 no:PS→Expr×PS
 ne:PS→Expr×PS
def Cv (a:Int) (f:PS→Expr×PS) (S:PS):Expr×PS:=if (S.nest:Int)==30 then (Av,Ey 18 a S) else ((f (Du S)).1,bq (f (Du S)).2)
def Lp (t:Str) (x y:Expr):Expr:=.mk 5 t noV [x,y]
def km (l:List Tok) (of:Str) (f:PS→Expr×PS):Nat→Expr×PS→Expr×PS
 | 0,r=>r
 | n+1,r=>if (r.2.code==0)&&isM l of r.2 then km l of f n (Lp (Af l r.2.i).text r.1 (f (Ap r.2)).1,(f (Ap r.2)).2) else r
def He (l:List Tok) (of:Str) (f:PS→Expr×PS) (S:PS):Expr×PS:=km l of f l.length (f S)
def Y3:Str:=[32,44,32]
def argsF (l:List Tok) (f:PS→Expr×PS):Nat→List Expr×PS→List Expr×PS
 | 0,r=>r
 | n+1,r=>if (r.2.code==0)&&isM l Y3 r.2 then argsF l f n (r.1++[(f (Ap r.2)).1],(f (Ap r.2)).2) else r
def J5 (l:List Tok) (f:PS→Expr×PS) (S:PS):List Expr×PS:=argsF l f l.length ([(f S).1],(f S).2)
def Vf (l:List Tok) (a:Int) (f:PS→Expr×PS) (S:PS):List Expr×PS:=if (S.nest:Int)==30 then ([],Ey 18 a S) else ((J5 l f (Du S)).1,bq (J5 l f (Du S)).2)
def Gb:Str:=[41]
def Ee (l:List Tok) (D:Fam) (S:PS):List Expr×PS:=Vf l (Af l S.i).at_ D.ei (Ap S)
def J6 (l:List Tok) (D:Fam) (t:Tok) (S:PS):Expr×PS:=
 if Cf t.text<0 then (Av,Ey 9 t.at_ S)
 else if ((Gf l Gb (Ee l D S).2).code==0) && !(((Ee l D S).1.length:Int)==Cf t.text) then (Av,Ey 8 t.at_ (Gf l Gb (Ee l D S).2))
 else (.mk 6 t.text noV (Ee l D S).1,Gf l Gb (Ee l D S).2)
def orT:Str:=[32,111,114,32]
def ABc:Str:=[32,97,110,100,32]
def AJ0:Str:=[32,110,111,116,32]
def AJ1:Str:=[32,61,32,33,61,32,60,32,60,61,32,62,32,62,61,32]
def ABd:Str:=[32,43,32,45,32,38,32]
def kn:Str:=[32,42,32,47,32,37,32]
def AJ2:Str:=[32,45,32]
def opT:Str:=[32,40,32]
def AJ3:Str:=[32,116,114,117,101,32,102,97,108,115,101,32,110,117,108,108,32]
def Nn (v:Val):Expr:=.mk 1 [] v []
def Ho (l:List Tok) (D:Fam) (S:PS):Expr×PS:=
 if S.code != 0 then (Av,S)
 else if ((Af l S.i).kind==3) || isM l AJ3 S then (Nn (Im (Af l S.i).text).1,Ap S)
 else if (Af l S.i).kind==4 then (Nn ⟨2,0,(Af l S.i).text.take 200⟩,Ap S)
 else if (Af l S.i).kind==1 then (if isM l opT (Ap S) then J6 l D (Af l S.i) (Ap S) else (Cu (Af l S.i).text,Ap S))
 else if isM l opT S then ((Cv (Af l S.i).at_ D.ei (Ap S)).1,Gf l Gb (Cv (Af l S.i).at_ D.ei (Ap S)).2)
 else (Av,Ey 8 (Af l S.i).at_ S)
def Kq (op:Int) (x:Expr):Expr:=.mk op [] noV [x]
def Y4 (l:List Tok) (D:Fam) (S:PS):Expr×PS:=if !isM l AJ2 S then Ho l D S else (Kq 3 (Cv (Af l S.i).at_ D.ne (Ap S)).1,(Cv (Af l S.i).at_ D.ne (Ap S)).2)
def s9 (l:List Tok) (D:Fam):PS→Expr×PS:=He l kn (Y4 l D)
def Fg (l:List Tok) (D:Fam):PS→Expr×PS:=He l ABd (s9 l D)
def H8 (l:List Tok) (D:Fam) (S:PS):Expr×PS:=
 if ((Fg l D S).2.code != 0) || !isM l AJ1 (Fg l D S).2 then Fg l D S
 else (Lp (Af l (Fg l D S).2.i).text (Fg l D S).1 (Fg l D (Ap (Fg l D S).2)).1,(Fg l D (Ap (Fg l D S).2)).2)
def Y5 (l:List Tok) (D:Fam) (S:PS):Expr×PS:=if !isM l AJ0 S then H8 l D S else (Kq 4 (Cv (Af l S.i).at_ D.no (Ap S)).1,(Cv (Af l S.i).at_ D.no (Ap S)).2)
def sa (l:List Tok) (D:Fam):PS→Expr×PS:=He l ABc (Y5 l D)
def gn (l:List Tok) (D:Fam):PS→Expr×PS:=He l orT (sa l D)
def Gg (l:List Tok):Nat→Fam
 | 0=>⟨fun S=>(Av,S),fun S=>(Av,S),fun S=>(Av,S)⟩
 | d+1=>⟨gn l (Gg l d),Y5 l (Gg l d),Y4 l (Gg l d)⟩

/-! What is so of them. -/
theorem Hl:∀{n m:Nat},n≤m→∀{e:Expr},okE n e→okE m e
 | 0,_,_,_,h=>h.elim
 | n+1,0,h,_,_=>by omega
 | n+1,m+1,h,_,ho=>⟨ho.1,ho.2.1,fun y hy=>Hl (by omega) (ho.2.2 y hy)⟩
theorem Y6:sizeE Av=1:=rfl
theorem wj (t:Str) (a b:Expr):sizeE (Lp t a b)=1+(sizeE a+(sizeE b+0)):=by rw [Lp,sizeE,E2,E2,E2]
theorem wl (o:Int) (a:Expr):sizeE (Kq o a)=1+(sizeE a+0):=by rw [Kq,sizeE,E2,E2]
theorem br:∀a b:List Expr,E2 (a++b)=E2 a+E2 b
 | [],b=>by rw [E5,E2,Bq]
 | e::r,b=>by rw [E9,E2,E2,br r b,Km]
theorem Sn {n:Nat} (h:1≤n):okE n Av:=Hl h ⟨by decide,by decide,fun y hy=>by cases hy⟩
theorem sb {n:Nat} (h:1≤n) (v:Val):okE n (Nn v):=Hl h ⟨by simp [Nn,Expr.text],by simp [Nn,Expr.kids],fun y hy=>by cases hy⟩
structure Fact (l:List Tok) (S:PS) (r:Expr×PS):Prop where
 le:S.i≤r.2.i
 lt:r.2.i<l.length
 nest:r.2.nest=S.nest
 ok:okE (2*(r.2.i-S.i)+1) r.1
 sz:sizeE r.1≤2*(r.2.i-S.i)+1
def Fc (l:List Tok) (n:Nat) (f:PS→Expr×PS):Prop:=∀S,S.i<l.length→S.nest=n→Fact l S (f S)
theorem TokEnd.step {l:List Tok} (h:TokEnd l) {i:Nat} (hi:i<l.length) (hk:(Af l i).kind≠0):i+1<l.length:=by
 obtain ⟨L,z,rfl,hz,_⟩:=h.split
 rcases Bp i L.length with h1|h1
 ·simp only [At,B2,Bz];omega
 have:i=L.length:=by simp only [At,B2,Bz] at hi;omega
 subst this
 exact absurd (by unfold Af;simpa using hz) hk
theorem ABe {l:List Tok} {of:Str} {S:PS} (h:isM l of S=true):(Af l S.i).kind≠0:=by
 unfold isM at h
 simp only [Ao,Cx,beq_iff_eq] at h
 omega
theorem TokEnd.stepIs {l:List Tok} (h:TokEnd l) {of:Str} {S:PS} (hi:S.i<l.length) (hk:isM l of S=true):(Ap S).i<l.length:=h.step hi (ABe hk)
theorem failM_i {e a:Int} {S:PS}:(Ey e a S).i=S.i∧(Ey e a S).nest=S.nest:=by unfold Ey;split<;>exact ⟨rfl,rfl⟩
theorem sc {l:List Tok} (hl:TokEnd l) {s:Str} {S:PS} (hi:S.i<l.length):S.i≤(Gf l s S).i∧(Gf l s S).i<l.length∧(Gf l s S).nest=S.nest:=by
 unfold Gf
 split
 ·exact ⟨Aj _,hi,rfl⟩
 split
 ·rw [failM_i.1,failM_i.2];exact ⟨Aj _,hi,rfl⟩
 rename_i h
 simp only [Cx,bne_iff_ne,ne_eq,not_or,Classical.not_not] at h
 have:=hl.step hi (by rw [h.1];decide)
 exact ⟨Ii _,this,rfl⟩
theorem So {l:List Tok} {S S0:PS} (h0:S0.i≤S.i) (h1:S.i<l.length) (h2:S.nest=S0.nest) (e a:Int):Fact l S0 (Av,Ey e a S):=by
 refine ⟨?_,?_,?_,Sn (by omega),by rw [Y6];omega⟩
 ·show _≤(Ey e a S).i;rw [failM_i.1];exact h0
 ·show (Ey e a S).i<_;rw [failM_i.1];exact h1
 show (Ey e a S).nest=_;rw [failM_i.2];exact h2
/-- A state of a loop of marks. -/
structure LeftAt (l:List Tok) (of:Str) (f:PS→Expr×PS) (S:PS) (r:Expr×PS):Prop where
 fact:Fact l S r
 eq:∃n,l.length≤r.2.i+n∧He l of f S=km l of f n r
theorem LeftAt.start {l:List Tok} {of:Str} {f:PS→Expr×PS} {S:PS} (h:Fact l S (f S)):LeftAt l of f S (f S):=⟨h,l.length,by omega,rfl⟩
theorem sd {l:List Tok} {S:PS} {r q:Expr×PS} (h:Fact l S r) (hq:Fact l (Ap r.2) q) (hl:TokEnd l):Fact l S (Lp (Af l r.2.i).text r.1 q.1,q.2):=by
 have h1:=h.le
 have h2:r.2.i+1≤q.2.i:=hq.le
 refine ⟨by show S.i≤q.2.i;omega,hq.lt,by show q.2.nest=S.nest;rw [hq.nest];exact h.nest,?_,?_⟩
 rotate_left
 ·have s1:=h.sz
  have s2:sizeE q.1≤2*(q.2.i-(r.2.i+1))+1:=hq.sz
  show sizeE (Lp _ r.1 q.1)≤2*(q.2.i-S.i)+1
  rw [wj]
  omega
 show okE (2*(q.2.i-S.i)+1) _
 refine ⟨hl.text _,by simp [Lp,Expr.kids],fun y hy=>?_⟩
 have hy':y=r.1∨y=q.1:=by simpa [Lp,Expr.kids] using hy
 rcases hy' with rfl|rfl
 ·exact Hl (by omega) h.ok
 exact Hl (by show 2*(q.2.i-(r.2.i+1))+1≤_;omega) hq.ok
theorem LeftAt.on {l:List Tok} {of:Str} {f:PS→Expr×PS} {S:PS} {r:Expr×PS} (hl:TokEnd l) (h:LeftAt l of f S r) (hc:((r.2.code==0)&&isM l of r.2)=true) (hf:Fc l S.nest f):(Ap r.2).i<l.length∧Fact l (Ap r.2) (f (Ap r.2))∧LeftAt l of f S (Lp (Af l r.2.i).text r.1 (f (Ap r.2)).1,(f (Ap r.2)).2):=by
 have hi:=hl.stepIs h.fact.lt (yy.1 hc).2
 have hq:=hf (Ap r.2) hi h.fact.nest
 obtain ⟨n,hn,e⟩:=h.eq
 have h1:=h.fact.lt
 have h2:r.2.i+1≤(f (Ap r.2)).2.i:=hq.le
 obtain ⟨m,rfl⟩:∃m,n=m+1:=⟨n-1,by omega⟩
 refine ⟨hi,hq,sd h.fact hq hl,m,by show l.length≤(f (Ap r.2)).2.i+m;omega,?_⟩
 rw [e,km,if_pos hc]
theorem LeftAt.out {l:List Tok} {of:Str} {f:PS→Expr×PS} {S:PS} {r:Expr×PS} (h:LeftAt l of f S r) (hc:¬((r.2.code==0)&&isM l of r.2)=true):He l of f S=r:=by
 obtain ⟨n,hn,e⟩:=h.eq
 have h1:=h.fact.lt
 obtain ⟨m,rfl⟩:∃m,n=m+1:=⟨n-1,by omega⟩
 rw [e,km,if_neg hc]
theorem ko {l:List Tok} {of:Str} {f:PS→Expr×PS} {S:PS} (hl:TokEnd l) (hf:Fc l S.nest f):∀(k:Nat) (r:Expr×PS),l.length-r.2.i≤k→LeftAt l of f S r→Fact l S (He l of f S)
 | 0,r,hk,h=>by have:=h.fact.lt;omega
 | k+1,r,hk,h=>by
  by_cases hc:((r.2.code==0)&&isM l of r.2)=true
  ·obtain ⟨h1,h2,h3⟩:=h.on hl hc hf
   have h4:r.2.i+1≤(f (Ap r.2)).2.i:=h2.le
   exact ko hl hf k _ (by show l.length-(f (Ap r.2)).2.i≤k;have:=h.fact.lt;omega) h3
  rw [h.out hc];exact h.fact
theorem I2 {l:List Tok} {of:Str} {f:PS→Expr×PS} {n:Nat} (hl:TokEnd l) (hf:Fc l n f):Fc l n (He l of f):=fun S hi hn=>ko hl (hn ▸ hf) l.length (f S) (by omega) (.start (hf S hi hn))
theorem Kr {l:List Tok} {f:PS→Expr×PS} {S:PS} (a:Int) (hi:S.i<l.length) (hf:S.nest≠30→Fc l (S.nest+1) f):Fact l S (Cv a f S):=by
 unfold Cv
 split
 ·exact So (Aj _) hi rfl _ _
 rename_i h
 have h30:S.nest≠30:=fun e=>h (by rw [e];rfl)
 have:=hf h30 (Du S) hi rfl
 refine ⟨this.le,this.lt,?_,this.ok,this.sz⟩
 show (f (Du S)).2.nest-1=S.nest
 rw [this.nest]
 rfl
/-- What is so of some kids. -/
structure KFact (l:List Tok) (S:PS) (r:List Expr×PS):Prop where
 le:S.i≤r.2.i
 lt:r.2.i<l.length
 nest:r.2.nest=S.nest
 len:r.1.length≤r.2.i-S.i+1
 ok:∀y∈r.1,okE (2*(r.2.i-S.i)+1) y
 sz:E2 r.1≤2*(r.2.i-S.i)+1
structure ArgsAt (l:List Tok) (f:PS→Expr×PS) (S:PS) (r:List Expr×PS):Prop where
 fact:KFact l S r
 eq:∃n,l.length≤r.2.i+n∧J5 l f S=argsF l f n r
theorem ArgsAt.start {l:List Tok} {f:PS→Expr×PS} {S:PS} (h:Fact l S (f S)):ArgsAt l f S ([(f S).1],(f S).2):=⟨⟨h.le,h.lt,h.nest,by simp,fun y hy=>by rw [Bo.1 hy];exact h.ok,by have:=h.sz;show sizeE (f S).1+0≤_;exact this⟩,l.length,by omega,rfl⟩
theorem ArgsAt.on {l:List Tok} {f:PS→Expr×PS} {S:PS} {r:List Expr×PS} (hl:TokEnd l) (h:ArgsAt l f S r) (hc:((r.2.code==0)&&isM l Y3 r.2)=true) (hf:Fc l S.nest f):(Ap r.2).i<l.length∧Fact l (Ap r.2) (f (Ap r.2))∧ArgsAt l f S (r.1++[(f (Ap r.2)).1],(f (Ap r.2)).2):=by
 have hi:=hl.stepIs h.fact.lt (yy.1 hc).2
 have hq:=hf (Ap r.2) hi h.fact.nest
 obtain ⟨n,hn,e⟩:=h.eq
 have h1:=h.fact.lt
 have h0:=h.fact.le
 have h2:r.2.i+1≤(f (Ap r.2)).2.i:=hq.le
 obtain ⟨m,rfl⟩:∃m,n=m+1:=⟨n-1,by omega⟩
 refine ⟨hi,hq,⟨by show S.i≤(f (Ap r.2)).2.i;omega,hq.lt,by show (f (Ap r.2)).2.nest=_;rw [hq.nest];exact h.fact.nest,?_,fun y hy=>?_,?_⟩,m,by show l.length≤(f (Ap r.2)).2.i+m;omega,?_⟩
 ·have:=h.fact.len
  show (r.1++_).length≤(f (Ap r.2)).2.i-S.i+1
  simp only [At,B2,Bz]
  omega
 ·show okE (2*((f (Ap r.2)).2.i-S.i)+1) y
  rcases E4.1 hy with hy|hy
  ·exact Hl (by omega) (h.fact.ok y hy)
  rw [Bo.1 hy]
  exact Hl (by show 2*((f (Ap r.2)).2.i-(r.2.i+1))+1≤_;omega) hq.ok
 ·have s1:=h.fact.sz
  have s2:sizeE (f (Ap r.2)).1≤2*((f (Ap r.2)).2.i-(r.2.i+1))+1:=hq.sz
  show E2 (r.1++[(f (Ap r.2)).1])≤2*((f (Ap r.2)).2.i-S.i)+1
  rw [br,E2,E2]
  omega
 rw [e,argsF,if_pos hc]
theorem ArgsAt.out {l:List Tok} {f:PS→Expr×PS} {S:PS} {r:List Expr×PS} (h:ArgsAt l f S r) (hc:¬((r.2.code==0)&&isM l Y3 r.2)=true):J5 l f S=r:=by
 obtain ⟨n,hn,e⟩:=h.eq
 have h1:=h.fact.lt
 obtain ⟨m,rfl⟩:∃m,n=m+1:=⟨n-1,by omega⟩
 rw [e,argsF,if_neg hc]
theorem kp {l:List Tok} {f:PS→Expr×PS} {S:PS} (hl:TokEnd l) (hf:Fc l S.nest f):∀(k:Nat) (r:List Expr×PS),l.length-r.2.i≤k→ArgsAt l f S r→KFact l S (J5 l f S)
 | 0,r,hk,h=>by have:=h.fact.lt;omega
 | k+1,r,hk,h=>by
  by_cases hc:((r.2.code==0)&&isM l Y3 r.2)=true
  ·obtain ⟨h1,h2,h3⟩:=h.on hl hc hf
   have h4:r.2.i+1≤(f (Ap r.2)).2.i:=h2.le
   exact kp hl hf k _ (by show l.length-(f (Ap r.2)).2.i≤k;have:=h.fact.lt;omega) h3
  rw [h.out hc];exact h.fact
theorem Y7 {l:List Tok} {f:PS→Expr×PS} {S:PS} (hl:TokEnd l) (hi:S.i<l.length) (hf:Fc l S.nest f):KFact l S (J5 l f S):=kp hl hf l.length _ (by show l.length-(f S).2.i≤_;omega) (.start (hf S hi rfl))
theorem Y8 {l:List Tok} {f:PS→Expr×PS} {S:PS} (hl:TokEnd l) (a:Int) (hi:S.i<l.length) (hf:S.nest≠30→Fc l (S.nest+1) f):KFact l S (Vf l a f S):=by
 unfold Vf
 split
 ·refine ⟨?_,?_,?_,by simp,fun y hy=>(by cases hy),by simp [E2]⟩
  ·show _≤(Ey _ _ S).i;rw [failM_i.1];exact Aj _
  ·show (Ey _ _ S).i<_;rw [failM_i.1];exact hi
  show (Ey _ _ S).nest=_;rw [failM_i.2]
 rename_i h
 have h30:S.nest≠30:=fun e=>h (by rw [e];rfl)
 have:=Y7 (S:=Du S) hl hi (hf h30)
 refine ⟨this.le,this.lt,?_,this.len,this.ok,this.sz⟩
 show (J5 l f (Du S)).2.nest-1=S.nest
 rw [this.nest]
 rfl
theorem oz {l:List Tok} {D:Fam} {S:PS} (hl:TokEnd l) (hll:l.length≤1048576) {t:Tok} (ht:t.text.length≤1048576) (hi:(Ap S).i<l.length) (hf:S.nest≠30→Fc l (S.nest+1) D.ei):Fact l S (J6 l D t S):=by
 have hk:KFact l (Ap S) (Ee l D S):=Y8 hl _ hi hf
 have h1:S.i+1≤(Ee l D S).2.i:=hk.le
 obtain ⟨w1,w2,w3⟩:=sc (s:=Gb) hl hk.lt
 unfold J6
 split
 ·exact So (Aj _) (by show S.i<_;have:S.i+1<l.length:=hi;omega) rfl _ _
 split
 ·exact So (show S.i≤(Gf l Gb (Ee l D S).2).i by omega) w2 (w3.trans hk.nest) 8 t.at_
 refine ⟨by show S.i≤(Gf l Gb (Ee l D S).2).i;omega,w2,w3.trans hk.nest,?_,?_⟩
 rotate_left
 ·have s1:E2 (Ee l D S).1≤2*((Ee l D S).2.i-(S.i+1))+1:=hk.sz
  show sizeE (.mk 6 t.text noV (Ee l D S).1)≤2*((Gf l Gb (Ee l D S).2).i-S.i)+1
  rw [sizeE]
  omega
 show okE (2*((Gf l Gb (Ee l D S).2).i-S.i)+1) _
 refine ⟨ht,?_,fun y hy=>?_⟩
 ·have h5:(Ee l D S).1.length≤(Ee l D S).2.i-(Ap S).i+1:=hk.len
  have h6:=hk.lt
  show (Ee l D S).1.length≤1048576
  omega
 exact Hl (by show 2*((Ee l D S).2.i-(S.i+1))+1≤_;omega) (hk.ok y hy)
theorem p8 {l:List Tok} {D:Fam} {n:Nat} (hl:TokEnd l) (hll:l.length≤1048576) (hf:n≠30→Fc l (n+1) D.ei):Fc l n (Ho l D):=by
 intro S hi hn
 subst hn
 unfold Ho
 have leaf:∀e:Expr,okE 1 e→sizeE e=1→(Af l S.i).kind≠0→Fact l S (e,Ap S):=fun e he hs hk=>⟨Ii _,hl.step hi hk,rfl,Hl (by omega) he,by show sizeE e≤_;omega⟩
 split
 ·exact ⟨Aj _,hi,rfl,Sn (by omega),by show sizeE Av≤_;rw [Y6];omega⟩
 split
 ·rename_i h
  refine leaf _ (sb (Aj _) _) rfl ?_
  rcases Bool.or_eq_true_iff.1 h with h|h
  ·rw [beq_iff_eq] at h;rw [h];decide
  exact ABe h
 split
 ·rename_i h
  rw [beq_iff_eq] at h
  exact leaf _ (sb (Aj _) _) rfl (by rw [h];decide)
 split
 ·rename_i h
  rw [beq_iff_eq] at h
  have hk:(Af l S.i).kind≠0:=by rw [h];decide
  split
  ·rename_i h2
   have hi1:(Ap S).i<l.length:=hl.step hi hk
   have:=oz (S:=Ap S) (D:=D) hl hll (hl.text S.i) (hl.stepIs hi1 h2) hf
   have h3:S.i+1≤(J6 l D (Af l S.i) (Ap S)).2.i:=this.le
   have h4:sizeE (J6 l D (Af l S.i) (Ap S)).1≤2*((J6 l D (Af l S.i) (Ap S)).2.i-(S.i+1))+1:=this.sz
   exact ⟨by omega,this.lt,this.nest,Hl (by show 2*((J6 l D (Af l S.i) (Ap S)).2.i-(S.i+1))+1≤_;omega) this.ok,by omega⟩
  exact leaf _ (jy _ (hl.text _)) rfl hk
 split
 ·rename_i h
  have hi1:(Ap S).i<l.length:=hl.stepIs hi h
  have:=Kr (S:=Ap S) (l:=l) (f:=D.ei) (Af l S.i).at_ hi1 hf
  obtain ⟨w1,w2,w3⟩:=sc (s:=Gb) hl this.lt
  have h3:S.i+1≤(Cv (Af l S.i).at_ D.ei (Ap S)).2.i:=this.le
  have h4:sizeE (Cv (Af l S.i).at_ D.ei (Ap S)).1≤2*((Cv (Af l S.i).at_ D.ei (Ap S)).2.i-(S.i+1))+1:=this.sz
  refine ⟨by show S.i≤(Gf l Gb _).i;omega,w2,w3.trans this.nest,Hl ?_ this.ok,by show sizeE (Cv (Af l S.i).at_ D.ei (Ap S)).1≤2*((Gf l Gb (Cv (Af l S.i).at_ D.ei (Ap S)).2).i-S.i)+1;omega⟩
  show 2*((Cv (Af l S.i).at_ D.ei (Ap S)).2.i-(S.i+1))+1≤2*((Gf l Gb (Cv (Af l S.i).at_ D.ei (Ap S)).2).i-S.i)+1
  omega
 exact So (Aj _) hi rfl _ _
theorem se {l:List Tok} {S:PS} {r:Expr×PS} (h:Fact l (Ap S) r) (op:Int):Fact l S (Kq op r.1,r.2):=by
 have h1:S.i+1≤r.2.i:=h.le
 refine ⟨by show S.i≤r.2.i;omega,h.lt,h.nest,?_,?_⟩
 rotate_left
 ·have s1:sizeE r.1≤2*(r.2.i-(S.i+1))+1:=h.sz
  show sizeE (Kq op r.1)≤2*(r.2.i-S.i)+1
  rw [wl]
  omega
 show okE (2*(r.2.i-S.i)+1) _
 refine ⟨by simp [Kq,Expr.text],by simp [Kq,Expr.kids],fun y hy=>?_⟩
 have hy':y=r.1:=by simpa [Kq,Expr.kids] using hy
 subst hy'
 exact Hl (by show 2*(r.2.i-(S.i+1))+1≤_;omega) h.ok
theorem Uh {l:List Tok} {D:Fam} {n:Nat} (hl:TokEnd l) (hll:l.length≤1048576) (hf:n≠30→Fc l (n+1) D.ei) (hg:n≠30→Fc l (n+1) D.ne):Fc l n (Y4 l D):=by
 intro S hi hn
 unfold Y4
 split
 ·exact p8 hl hll hf S hi hn
 rename_i h
 subst hn
 exact se (Kr (S:=Ap S) _ (hl.stepIs hi (by simpa using h)) hg) 3
theorem bt {l:List Tok} {D:Fam} {n:Nat} (hl:TokEnd l) (hll:l.length≤1048576) (hf:n≠30→Fc l (n+1) D.ei) (hg:n≠30→Fc l (n+1) D.ne):Fc l n (Fg l D):=I2 hl (I2 hl (Uh hl hll hf hg))
theorem Qs {l:List Tok} {D:Fam} {n:Nat} (hl:TokEnd l) (hll:l.length≤1048576) (hf:n≠30→Fc l (n+1) D.ei) (hg:n≠30→Fc l (n+1) D.ne):Fc l n (H8 l D):=by
 intro S hi hn
 have h1:=bt hl hll hf hg S hi hn
 unfold H8
 split
 ·exact h1
 rename_i h
 simp only [Cx,not_or,Tk,Oe] at h
 exact sd h1 (bt hl hll hf hg _ (hl.stepIs h1.lt h.2) (h1.nest.trans hn)) hl
theorem bu {l:List Tok} {D:Fam} {n:Nat} (hl:TokEnd l) (hll:l.length≤1048576) (hf:n≠30→Fc l (n+1) D.ei) (hg:n≠30→Fc l (n+1) D.ne) (hh:n≠30→Fc l (n+1) D.no):Fc l n (Y5 l D):=by
 intro S hi hn
 unfold Y5
 split
 ·exact Qs hl hll hf hg S hi hn
 rename_i h
 subst hn
 exact se (Kr (S:=Ap S) _ (hl.stepIs hi (by simpa using h)) hh) 4
theorem Ui {l:List Tok} (hl:TokEnd l) (hll:l.length≤1048576):∀(d n:Nat),n+d=31→n≠31→Fc l n (Gg l d).ei∧Fc l n (Gg l d).no∧Fc l n (Gg l d).ne
 | 0,n,h,h2=>by omega
 | d+1,n,h,_=>by
  have ih:n≠30→_:=fun h30=>Ui hl hll d (n+1) (by omega) (by omega)
  have hn:=bu (D:=Gg l d) (n:=n) hl hll (fun h=>(ih h).1) (fun h=>(ih h).2.2) (fun h=>(ih h).2.1)
  exact ⟨I2 hl (I2 hl hn),hn,Uh hl hll (fun h=>(ih h).1) (fun h=>(ih h).2.2)⟩
/-! What is printed of columns, word by word. -/
structure ColOk (x:Col):Prop where
 name:Dy x.name=true
 lo:1≤x.kind
 hi:x.kind≤3
set_option maxRecDepth 8000
theorem Vg (s:Str):s∈levels.flatten∨(Nm s = -1∧∀l∈levels,l.contains s=false):=by
 by_cases h:s∈levels.flatten
 ·exact .inl h
 have h2:∀l∈levels,l.contains s=false:=fun l hl=>by
  rw [K5]
  intro h3
  exact h (List.mem_flatten.2 ⟨l,hl,by simpa using h3⟩)
 refine .inr ⟨?_,h2⟩
 unfold Nm
 rw [Wo.2 fun l hl=>h2 l hl]
theorem AF9 {v:Val} (h:O8 v=true):v=noV:=by
 unfold O8 at h
 simp only [Ao,beq_iff_eq] at h
 cases v
 simp_all [noV]
/-- What a right node is. -/
inductive NodeC:Expr→Prop
 | val (v:Val) (h:Ec v=true) (h0:0≤v.n):NodeC (Nn v)
 | name (t:Str) (h:Qq t=true):NodeC (Cu t)
 | neg (a:Expr):NodeC (Kq 3 a)
 | no (a:Expr):NodeC (Kq 4 a)
 | bin (t:Str) (a b:Expr) (h:0≤Nm t):NodeC (Lp t a b)
 | call (t:Str) (k:List Expr) (h:Cf t=(k.length:Int)):NodeC (.mk 6 t noV k)
theorem Y9 (o:Int) (t:Str) (v:Val) (k:List Expr):Y0 (.mk o t v k) =
 if o==1 then ((Ec v&&decide (0≤v.n))&&(t==[]))&&((k.length:Int)==0)
 else if !(O8 v) then false
 else if o==2 then Qq t&&((k.length:Int)==0)
 else if o==3 || o==4 then (t==[])&&((k.length:Int)==1)
 else if o==5 then decide (0≤Nm t)&&((k.length:Int)==2)
 else if o==6 then Cf t==(k.length:Int)
 else false:=rfl
theorem Lg {e:Expr} (h:Es e=true):NodeC e:=by
 rw [kc] at h
 cases e with
 | mk o t v k =>
 rw [Y9] at h
 by_cases h1:(o==1)=true
 ·rw [if_pos h1] at h
  simp only [Ao,beq_iff_eq,decide_eq_true_eq] at h h1
  obtain ⟨⟨⟨a1,a2⟩,a3⟩,a4⟩:=h
  subst h1
  subst a3
  have:k=[]:=by cases k with|nil=>rfl|cons x r=>simp at a4;omega
  subst this
  exact .val v a1 a2
 rw [if_neg h1] at h
 by_cases hb:(!(O8 v))=true
 ·rw [if_pos hb] at h;cases h
 rw [if_neg hb] at h
 have hv:v=noV:=AF9 (by simpa using hb)
 subst hv
 by_cases h2:(o==2)=true
 ·rw [if_pos h2] at h
  simp only [Ao,beq_iff_eq] at h h2
  subst h2
  have:k=[]:=by cases k with|nil=>rfl|cons x r=>have:=h.2;simp at this;omega
  subst this
  exact .name t h.1
 rw [if_neg h2] at h
 by_cases h3:(o==3 || o==4)=true
 ·rw [if_pos h3] at h
  simp only [Ao,Cx,beq_iff_eq] at h h3
  obtain ⟨rfl,h4⟩:=h
  match k,h4 with
  | [a],_ =>
   rcases h3 with rfl|rfl
   ·exact .neg a
   exact .no a
  | [],h4=>simp at h4
  | _::_::_,h4=>simp at h4;omega
 rw [if_neg h3] at h
 by_cases h5:(o==5)=true
 ·rw [if_pos h5] at h
  simp only [Ao,beq_iff_eq,decide_eq_true_eq] at h h5
  subst h5
  match k,h.2 with
  | [a,b],_=>exact .bin t a b h.1
  | [],h4=>simp at h4
  | [_],h4=>simp at h4
  | _::_::_::_,h4=>simp at h4;omega
 rw [if_neg h5] at h
 by_cases h6:(o==6)=true
 ·rw [if_pos h6] at h
  simp only [beq_iff_eq] at h h6
  subst h6
  exact .call t k h
 rw [if_neg h6] at h;cases h
theorem wm {e:Expr} {n:Nat} (h:sizeE e≤n+1) {y:Expr} (hy:y∈e.kids):sizeE y≤n:=by
 rw [Sh] at h
 obtain ⟨i,hi,rfl⟩:=To hy
 have:=bb e.kids hi
 omega
/-! The parser from a word on, and of a source. -/
def atS (l:List Tok) (i:Nat) (r:Expr×PS):PS:=if r.2.code != 0 then r.2 else if decide ((30:Int)<depthE r.1) then Ey 18 (Af l i).at_ r.2 else if decide ((300:Int)<sizeE r.1) then Ey 3 (Af l i).at_ r.2 else r.2
def atR (l:List Tok) (i:Nat):Expr×PS:=gn l (Gg l 30) ⟨i,0,0,0⟩
/-- The tree, the word behind it, the fault. -/
def atM (l:List Tok) (i:Nat):Expr×Int×Int×Int:=if (atS l i (atR l i)).code != 0 then (Av,0,(atS l i (atR l i)).code,(atS l i (atR l i)).at_) else ((atR l i).1,((atS l i (atR l i)).i:Int),0,0)
set_option maxRecDepth 4000
/-! What is printed of a schema is read. -/
/-- What goes together: names of their own. -/
theorem ABf {c:List Col} (h:J3 c=true):(∀y∈c,ColOk y)∧(c.map (·.name)).Nodup:=by
 rw [nu] at h
 have hat:∀(j:Nat) (y:Col),c[j]? = some y→Qq y.name=true∧1≤y.kind∧y.kind≤3∧Ay y.name c=(j:Int):=by
  intro j y hj
  have:=h j y hj
  unfold rh at this
  simp only [K6,E3,Oe,decide_eq_false_iff_not,bne_eq_false_iff_eq] at this
  obtain ⟨⟨⟨h1,h2⟩,h3⟩,h4⟩:=this
  exact ⟨h1,by omega,by omega,h4⟩
 refine ⟨fun y hy=>?_,?_⟩
 ·obtain ⟨j,hj⟩:=C6 hy
  obtain ⟨h1,h2,h3,_⟩:=hat j y hj
  exact ⟨by rw [I1];exact h1,h2,h3⟩
 show List.Pairwise _ _
 rw [r6]
 intro i j hi hj hij e
 simp only [An] at hi hj
 simp only [R2] at e
 have e1:=(hat i c[i] (Ab hi)).2.2.2
 have e2:=(hat j c[j] (Ab hj)).2.2.2
 rw [e] at e1
 omega
theorem kq {c:List Col} (h:Xq c=true):c.length≤12∧(∀y∈c,ColOk y)∧(c.map (·.name)).Nodup:=by
 rw [Mq] at h
 unfold D4 at h
 rw [Ao] at h
 obtain ⟨h1,h2⟩:=h
 have:=of_decide_eq_true h1
 exact ⟨by omega,ABf h2⟩
theorem sg {c:List Col} (h:Lx c=false):OkCols c:=by
 unfold Lx at h
 simp only [E3,decide_eq_false_iff_not,If,decide_eq_true_eq] at h
 refine ⟨by omega,fun y hy=>?_⟩
 have:=h.2 y hy
 omega
def kr {α:Type} [BEq α] (v:α) (l:List α):Int:=match l.findIdx? (·==v) with|some i=>i|none => -1
theorem AJ4 {α:Type} [BEq α] [LawfulBEq α] {v:α} {l:List α} {x:Nat} (h:x<l.length) (h1:l[x]=v) (h2:∀(j:Nat) (y:α),j<x→l[j]? = some y→¬(y=v)):kr v l=x:=by
 have:l.findIdx? (·==v)=some x:=by
  rw [Wp]
  exact ⟨h,by simpa using h1,fun j hj=>by simpa using h2 j l[j] hj (Ab _)⟩
 simp [kr,this]
theorem ABg {α:Type} [BEq α] [LawfulBEq α] {v:α} {l:List α} (h:∀(j:Nat) (y:α),l[j]? = some y→¬(y=v)):kr v l = -1:=by
 have:l.findIdx? (·==v)=none:=by
  rw [Wo]
  intro y hy
  obtain ⟨j,hj⟩:=C6 hy
  simpa using h j y hj
 simp [kr,this]
theorem AFa {α:Type} [BEq α] [LawfulBEq α] (v:α) (l:List α):decide (0≤kr v l)=l.contains v:=by
 unfold kr
 cases h:l.findIdx? (·==v) with
 | none =>
  rw [Wo] at h
  have:l.contains v=false:=by
   rw [K5]
   intro hc
   have:=h v (by simpa using hc)
   simp at this
  rw [this];rfl
 | some i =>
  rw [Wp] at h
  obtain ⟨hi,e,_⟩:=h
  have:l.contains v=true:=by
   have:l[i]=v:=by simpa using e
   rw [←this]
   simp
  rw [this]
  simp only [decide_eq_true_eq]
  omega
theorem c82 (l:List Str) (v:Str) (hl:l.length≤1048576) (Hp:List AObj):AFun Tryz.prog 82 [Fq l,Ac v] Hp (A3 (kr v l)):=by
 refine Ae [.tmp 4] [0,1] Tryz.func82 Tryz.ntmps82 (fun d=>?_)
 refine fk ?_
 refine Bg (α:=Nat) (fun x=>⟨19,A6 0 (Fq l) (A6 1 (Ac v) (A6 7 (A3 l.length) (A6 8 (A3 (x:Nat)) (fun _=>.any)))),Hp,[],[],none⟩) (fun x=>x≤l.length∧∀(j:Nat) (y:Str),j<x→l[j]? = some y→¬(y=v)) (fun x=>l.length-x) (0) (by simp) (Bl (by simp)) rfl (fun x hx=>?_)
 refine f9 ?_
 refine Co (fun ht9=>?_) (fun ht9=>?_)
 ·have hlt:x<l.length:=by simpa using ht9
  refine fm ?_
  refine A5 (h:=Ah (x) (Ac l[x]) (fun _=>B7 hlt)) (hr:=?_)
  refine Z0 ?_;refine fw ?_
  refine A4 (fun ht16=>?_) (fun ht16=>?_)
  ·refine j5 ?_;refine Z51 ?_;exact Aa (Ai A7) ⟨by rw [AJ4 hlt (by simpa using (Eq.symm (by simpa using ht16):l[x]=v)) hx.2],rfl⟩
  refine Z68 ?_;refine A2 [0,1,7,8] ?_;exact Bm (x+1) ⟨hlt,D3 hlt hx.2 (fun e=>by rw [e] at ht16;simp at ht16)⟩ (by omega) (Ds rfl)
 refine Z27 ?_;refine Z48 ?_;exact Aa (Ai A7) ⟨by rw [ABg (P5 (by simp at ht9;omega) hx.2)],rfl⟩

theorem c95 (l:List Str) (v:Str) (hl:l.length≤1048576) (Hp:List AObj):AFun Tryz.prog 95 [Fq l,Ac v] Hp (B0 (l.contains v)):=by
 refine Ae [.tmp 4] [0,1] Tryz.func95 Tryz.ntmps95 (fun d=>?_)
 refine fu ?_;refine A9 Tryz.call82 (c82 l v hl _) ?_;refine Z0 ?_;refine Z13 ?_;exact Aa (Ai A7) ⟨by rw [AFa],rfl⟩

theorem wn {n k:Nat} {o:Bool} {l:List Col} {z:Col}:Low n (.slice o k (l.map C2++[C2 z])):=by
 refine .slice _ _ _ (fun y hy=>?_)
 have key:∀c:Col,∀w∈(C2 c).cells,Low n w:=by
  intro c w hw
  have hw':w∈[AV.v (sv c.name),AV.v (.int .i64 c.kind)]:=hw
  simp only [B3,E6,or_false] at hw'
  rcases hw' with rfl|rfl
  ·exact .v _
  exact .v _
 rcases E4.1 hy with hy|hy
 ·obtain ⟨a,_,rfl⟩:=C3.1 hy
  exact key a
 rw [Bo.1 hy]
 exact key z
def Q7 (c:List Col) (take:List Str) (j:Nat) (nm:Str):Bool := !(decide (Ay nm c<0) || (kr nm take != (j:Int)))
def Iq (c:List Col) (take:List Str):Bool:=take.zipIdx.all fun x=>Q7 c take x.2 x.1
theorem takenM_true {c:List Col} {take:List Str}:Iq c take=true↔∀(j:Nat) (y:Str),take[j]? = some y→Q7 c take j y=true:=Rd
def Sp (c:List Col) (x:Nat) (y:Col):Bool := !((!Qq y.name) || (Ay y.name c != (x:Int)))
def Lh (c:List Col):Bool:=c.zipIdx.all fun x=>Sp c x.2 x.1
theorem namedC_true {c:List Col}:Lh c=true↔∀(j:Nat) (y:Col),c[j]? = some y→Sp c j y=true:=Rd
def Di (c:List Col) (take:List Str):List Col:=c.filter fun y => !take.contains y.name
theorem AFb {c:List Col} {take:List Str} {k:Nat} {y:Col} (h:c[k]? = some y) (hn:take.contains y.name=false):Di (c.take (k+1)) take=Di (c.take k) take++[y]:=by
 unfold Di
 have e:c.take (k+1)=c.take k++[y]:=by rw [N3,h];rfl
 have hm:¬y.name∈take:=by simpa using hn
 rw [e,Og]
 simp [Hh,hm]
theorem wo {c:List Col} {take:List Str} {k:Nat} {y:Col} (h:c[k]? = some y) (hn:take.contains y.name=true):Di (c.take (k+1)) take=Di (c.take k) take:=by
 unfold Di
 have e:c.take (k+1)=c.take k++[y]:=by rw [N3,h];rfl
 have hm:y.name∈take:=by simpa using hn
 rw [e,Og]
 simp [Hh,hm]
theorem K2 (c:List Col) (take:List Str):(Di c take).length≤c.length:=dq _ _
def Dn (c:List Col) (take:List Str) (give:List Col):List Col×Int:=
 if D4 c=false then ([],1) else if Iq c take=false then ([],9) else if Lh (Di c take++give)=false then ([],9)
 else if J3 (Di c take++give)=false then ([],10) else if 12<(Di c take++give).length then ([],3) else (Di c take++give,0)
theorem ABh {c:List Col} {take:List Str} {give:List Col} (h:D4 c=false):Dn c take give=([],1):=by unfold Dn;rw [if_pos h]
theorem ABi {c:List Col} {take:List Str} {give:List Col} (h:D4 c=true) (h2:Iq c take=false):Dn c take give=([],9):=by unfold Dn;rw [if_neg (by rw [h];simp),if_pos h2]
theorem ABj {c:List Col} {take:List Str} {give out:List Col} (h:D4 c=true) (h2:Iq c take=true) (ho:Di c take++give=out) (h3:Lh out=false):Dn c take give=([],9):=by
 unfold Dn;rw [ho,if_neg (by rw [h];simp),if_neg (by rw [h2];simp),if_pos h3]
theorem ABk {c:List Col} {take:List Str} {give out:List Col} (h:D4 c=true) (h2:Iq c take=true) (ho:Di c take++give=out) (h3:Lh out=true) (h4:J3 out=false):Dn c take give=([],10):=by
 unfold Dn;rw [ho,if_neg (by rw [h];simp),if_neg (by rw [h2];simp),if_neg (by rw [h3];simp),if_pos h4]
theorem ABl {c:List Col} {take:List Str} {give out:List Col} (h:D4 c=true) (h2:Iq c take=true) (ho:Di c take++give=out) (h3:Lh out=true) (h4:J3 out=true) (h5:12<out.length):Dn c take give=([],3):=by
 unfold Dn;rw [ho,if_neg (by rw [h];simp),if_neg (by rw [h2];simp),if_neg (by rw [h3];simp),if_neg (by rw [h4];simp),if_pos h5]
theorem ABm {c:List Col} {take:List Str} {give out:List Col} (h:D4 c=true) (h2:Iq c take=true) (ho:Di c take++give=out) (h3:Lh out=true) (h4:J3 out=true) (h5:¬12<out.length):Dn c take give=(out,0):=by
 unfold Dn;rw [ho,if_neg (by rw [h];simp),if_neg (by rw [h2];simp),if_neg (by rw [h3];simp),if_neg (by rw [h4];simp),if_neg h5]
theorem Uj {c:List Col} (h:D4 c=true):c.length≤12:=by
 unfold D4 at h
 simp at h
 omega
theorem ABn {c give:List Col} {take:List Str} {out:List Col} (hc:OkCols c) (h:D4 c=true) (hg:OkCols give) (hg2:give.length≤1000000) (ho:Di c take++give=out):OkCols out:=by
 subst ho
 have h1:=K2 c take
 have h2:=Uj h
 refine ⟨by simp only [At];omega,fun y hy=>?_⟩
 rcases E4.1 hy with hy|hy
 ·exact hc.2 y ((W5.1 hy).1)
 exact hg.2 y hy
theorem AP8 (c:List Col) (hc:OkCols c) (take:List Str) (ht:take.length≤1048576) (Hp:List AObj):AFun Tryz.prog 210 [Ar c,Fq take] Hp (B0 (Iq c take)):=by
 refine Ae [.tmp 4] [0,1] Tryz.func210 Tryz.ntmps210 (fun d=>?_)
 refine Z37 ?_;refine Z30 ?_;refine A2 [0,1,7,8,9] ?_
 refine Bg (α:=Nat) (fun x=>⟨26,A6 0 (Ar c) (A6 1 (Fq take) (A6 7 (Fq take) (A6 8 (A3 take.length) (A6 9 (A3 (x:Nat)) (fun _=>.any))))),Hp,[],[],none⟩) (fun x=>x≤take.length∧∀(j:Nat) (y:Str),j<x→take[j]? = some y→Q7 c take j y=true) (fun x=>take.length-x) (0) (by simp) (Bl (by simp)) rfl (fun x hx=>?_)
 refine Z2 ?_;refine A2 [0,1,7,8,9,10] ?_
 refine Co (fun ht10=>?_) (fun ht10=>?_)
 ·have hlt:x<take.length:=by simpa using ht10
  refine Qg ?_
  refine A5 (h:=Ah (x) (Ac take[x]) (fun _=>B7 hlt)) (hr:=?_)
  refine Z12 ?_;refine A2 [0,1,5,6,7,8,9] ?_;refine Z1 ?_;refine A9 Tryz.call60 (c60 c hc _ _) ?_;refine Z36 ?_;refine C1 Tryz.call82 (fun hB=>c82 take _ ht _) ?_;refine fl ?_;refine A2 [0,1,7,8,9,24] ?_
  refine A4 (fun ht24=>?_) (fun ht24=>?_)
  ·refine Z48 ?_;refine Z51 ?_
   exact Aa (Ai A7) ⟨by rw [show Iq c take=false from K5.2 fun h=>by have:=takenM_true.1 h x take[x] (Ab hlt);unfold Q7 at this;rw [ht24] at this;cases this],rfl⟩
  refine Z68 ?_;refine A2 [0,1,7,8,9] ?_;exact Bm (x+1) ⟨hlt,Ld hlt hx.2 (by unfold Q7;rw [ht24];rfl)⟩ (by omega) (Ds rfl)
 refine Z27 ?_;refine Z48 ?_;exact Aa (Ai A7) ⟨by rw [takenM_true.2 (Tz (by simp at ht10;omega) hx.2)],rfl⟩

theorem AP9 (c:List Col) (hc:OkCols c) (Hp:List AObj):AFun Tryz.prog 212 [Ar c] Hp (B0 (Lh c)):=by
 refine Ae [.tmp 2] [0] Tryz.func212 Tryz.ntmps212 (fun d=>?_)
 refine jf ?_;refine A2 [0,5,6,7] ?_
 refine Bg (α:=Nat) (fun x=>⟨25,A6 0 (Ar c) (A6 5 (Ar c) (A6 6 (A3 c.length) (A6 7 (A3 (x:Nat)) (fun _=>.any)))),Hp,[],[],none⟩) (fun x=>x≤c.length∧∀(j:Nat) (y:Col),j<x→c[j]? = some y→Sp c j y=true) (fun x=>c.length-x) (0) (by simp) (Bl (by simp)) rfl (fun x hx=>?_)
 refine Z2 ?_;refine A2 [0,5,6,7,8] ?_
 refine Co (fun ht8=>?_) (fun ht8=>?_)
 ·have hlt:x<c.length:=by simpa using ht8
  have hcl:=hc.len
  refine Qg ?_
  refine A5 (h:=Ah (x) (C2 c[x]) (fun _=>B7 hlt)) (hr:=?_)
  refine ja ?_;refine A2 [0,3,4,5,6,7] ?_;refine Z1 ?_;refine A9 Tryz.call105 (AAr _ (hc.names _ (Bf hlt)) _) ?_;refine fj ?_;refine C1 Tryz.call60 (fun hB=>c60 c hc _ _) ?_;refine fl ?_;refine A2 [0,5,6,7,23] ?_
  refine A4 (fun ht23=>?_) (fun ht23=>?_)
  ·rw [I1] at ht23
   refine Z42 ?_;refine Z51 ?_
   exact Aa (Ai A7) ⟨by rw [show Lh c=false from K5.2 fun h=>by have:=namedC_true.1 h x c[x] (Ab hlt);unfold Sp at this;rw [ht23] at this;cases this],rfl⟩
  rw [I1] at ht23
  refine Z68 ?_;refine A2 [0,5,6,7] ?_
  refine Bm (x+1) ⟨hlt,Ld hlt hx.2 (by unfold Sp;rw [ht23];rfl)⟩ (by omega) ?_
  exact D0 (own:=[]) (fun _=>.refl _) (by repeat (first|exact Bc|refine Bb (by simp [or_imp,forall_and]) ?_)) (by simp) (by simp)
 refine Z27 ?_;refine Z42 ?_;exact Aa (Ai A7) ⟨by rw [namedC_true.2 (Tz (by simp at ht8;omega) hx.2)],rfl⟩

theorem APa (c:List Col) (take:List Str) (Hp:List AObj):AFun Tryz.prog 211 [Ar c,Fq take] Hp (.fn (.func 239) [] [.ro [Ar c],.ro [Fq take]]):=by
 refine Ae [.tmp 4] [0,1] Tryz.func211 Tryz.ntmps211 (fun d=>?_)
 refine Z15 ?_;refine Jb ?_;refine vi ?_;exact AI1

theorem APb (l:Nat) (c:List Col) (take:List Str) (hc:c.length≤1048576) (ht:take.length≤1048576) (U:Nat→List AObj) (hlen:∀k,(U k).length=(U 0).length) (hll:l<(U 0).length)
  (hlw:∀k,∀x∈U k,ObjLow (U 0).length x) (hn:∀k y,c[k]? = some y→take.contains y.name=true→U (k+1)=U k)
  (hy:∀k y X,c[k]? = some y→take.contains y.name=false→AYield Tryz.prog l [C2 y] (U k++X) (fun b H'=>b=true∧H'=U (k+1)++X)):ACall Tryz.prog 239 [.yield l,.ro [Ar c],.ro [Fq take]] (U 0) (fun _ H'=>H'=U c.length):=by
 refine Ae [] [0,1,2] Tryz.func239 Tryz.ntmps239 (fun d=>?_)
 refine Z15 ?_;refine A2 [0,2,6,7,8] ?_
 refine Bg (α:=Nat) (fun x=>⟨24,A6 0 (.yield l) (A6 2 (.ro [Fq take]) (A6 6 (Ar c) (A6 7 (A3 c.length) (A6 8 (A3 (x:Nat)) (fun _=>.any))))),U x,[],[],none⟩) (fun x=>x≤c.length) (fun x=>c.length-x) (0) (Aq _) (Bl (by simp)) rfl (fun x hx=>?_)
 refine Z2 ?_;refine A2 [0,2,6,7,8,9] ?_
 refine Co (fun ht9=>?_) (fun ht9=>?_)
 ·have hlt:x<c.length:=by simpa using ht9
  refine Z77 ?_
  refine A5 (h:=Ah (x) (C2 c[x]) (fun _=>B7 hlt)) (hr:=?_)
  refine Qe ?_;refine A2 [0,2,5,6,7,8] ?_;refine Z15 ?_;refine A9 Tryz.call95 (c95 take _ ht _) ?_;refine Z36 ?_
  refine G.yield (l:=l) (C:=((!take.contains c[x].name)==true)) (args:=[C2 c[x]]) (fun hC=>hy x c[x] _ (Ab hlt) (by simpa using hC)) ?_
  intro b V O hV hb hb0
  have hVO:V=U (x+1)∧O=[AObj.cells 69 [Ac c[x].name,A3 c[x].kind]]∧(take.contains c[x].name=false→b=true):=by
   cases hcn:take.contains c[x].name with
   | true =>
    obtain ⟨h1,h2⟩:=hb0 (by rw [hcn];rfl)
    exact ⟨h1.trans (hn x c[x] (Ab hlt) hcn).symm,h2,fun e=>by cases e⟩
   | false =>
    obtain ⟨h1,h2⟩:=hb (by rw [hcn];rfl)
    have h3:=K7 h2 (by rw [hV,hlen x,hlen (x+1)])
    exact ⟨h3.1,h3.2,fun _=>h1⟩
  obtain ⟨rfl,rfl,hbt⟩:=hVO
  refine ⟨fun _=>by rw [hlen (x+1)];exact hlw (x+1),fun o ho=>(by cases ho),?_⟩
  refine Z53 ?_;refine A2 [0,2,6,7,8,22] ?_
  refine A4 (fun ht22=>?_) (fun ht22=>?_)
  ·exfalso
   have hcf:take.contains c[x].name=false:=by simp at ht22 ⊢;exact ht22.1
   rw [hbt hcf] at ht22
   simp at ht22
  refine Z68 ?_;refine A2 [0,2,6,7,8] ?_;refine AAf ?_
  exact D0 (own:=[]) (fun _=>.refl _) (by repeat (first|exact Bc|refine Bb (by first|(simp [or_imp,forall_and];done)|(have:=hlen (x+1);simp;omega)) ?_)) (by simp) (by simp)
 have hxe:x=c.length:=by simp at ht9;omega
 exact ALs

/-! What went and came, taken back: the same columns. -/
theorem ABo {α β:Type} {f:α→β} {c:List α} (h:(c.map f).Nodup) {i j:Nat} {y z:α} (hi:c[i]? = some y) (hj:c[j]? = some z) (e:f y=f z):i=j:=by
 obtain ⟨hi',ei⟩:=Ad.1 hi
 obtain ⟨hj',ej⟩:=Ad.1 hj
 have h':List.Pairwise (·≠·) (c.map f):=h
 rw [r6] at h'
 rcases Nat.lt_trichotomy i j with hlt|rfl|hlt
 ·have h2:=h' i j (by simpa using hi') (by simpa using hj') hlt
  rw [R2,R2,ei,ej] at h2
  exact absurd e h2
 ·rfl
 have h2:=h' j i (by simpa using hj') (by simpa using hi') hlt
 rw [R2,R2,ei,ej] at h2
 exact absurd e.symm h2
theorem Ya {c:List Col} (h:(c.map (·.name)).Nodup) {j:Nat} {y:Col} (hj:c[j]? = some y):Ay y.name c=(j:Int):=by
 obtain ⟨hj',ej⟩:=Ad.1 hj
 exact jn hj' (by rw [ej]) (fun k z hk hz e=>by have:=ABo h hz hj e;omega)
theorem find_mem {nm:Str} {c:List Col}:¬(Ay nm c<0)↔∃(j:Nat) (y:Col),c[j]? = some y∧y.name=nm∧Ay nm c=(j:Int):=by
 unfold Ay
 cases h:c.findIdx? (fun y=>y.name==nm) with
 | none =>
  constructor
  ·intro h';exact absurd (by decide) h'
  rintro ⟨j,y,_,_,e⟩
  exact absurd (show (-1:Int)=(j:Int) from e) (by omega)
 | some i =>
  rw [Wp] at h
  obtain ⟨hi,e,_⟩:=h
  constructor
  ·intro _;exact ⟨i,c[i],Ab hi,by simpa using e,rfl⟩
  intro _ h'
  have:(i:Int)<0:=h'
  omega
theorem AFc {c:List Col} {take:List Str} {give:List Col} (h:(Dn c take give).2=0):D4 c=true∧Iq c take=true∧J3 (Di c take++give)=true∧(Di c take++give).length≤12∧Dn c take give=(Di c take++give,0):=by
 cases h1:D4 c with
 | false=>rw [ABh h1] at h;exact absurd (show (1:Int)=0 from h) (by decide)
 | true =>
  cases h2:Iq c take with
  | false=>rw [ABi h1 h2] at h;exact absurd (show (9:Int)=0 from h) (by decide)
  | true =>
   cases h3:Lh (Di c take++give) with
   | false=>rw [ABj h1 h2 rfl h3] at h;exact absurd (show (9:Int)=0 from h) (by decide)
   | true =>
    cases h4:J3 (Di c take++give) with
    | false=>rw [ABk h1 h2 rfl h3 h4] at h;exact absurd (show (10:Int)=0 from h) (by decide)
    | true =>
     by_cases h5:12<(Di c take++give).length
     ·rw [ABl h1 h2 rfl h3 h4 h5] at h;exact absurd (show (3:Int)=0 from h) (by decide)
     exact ⟨rfl,rfl,rfl,by omega,ABm h1 h2 rfl h3 h4 h5⟩
set_option maxRecDepth 8000
/-! The words of a print. -/
/-- What a node asks of its kids, and what it is. -/
structure Sign where
 kids:List Int
 own:Int
def Dz (s:Str):Sign:=if (s==[111,114]) || (s==[97,110,100]) then ⟨[3,3],3⟩ else if (((((s==[61]) || (s==[33,61])) || (s==[60])) || (s==[60,61])) || (s==[62])) || (s==[62,61]) then ⟨[-1, -1],3⟩ else if s==[38] then ⟨[2,2],2⟩ else ⟨[1,1],1⟩
def Fl (s:Str):Sign:=if (s==[108,101,110]) || (s==[110,117,109]) then ⟨[2],1⟩ else if s==[115,116,114] then ⟨[1],2⟩ else if (s==[108,101,102,116]) || (s==[114,105,103,104,116]) then ⟨[2,1],2⟩ else if s==[105,115,110,117,108,108] then ⟨[-2],3⟩ else if s==[110,118,108] then ⟨[-1, -1], -1⟩ else ⟨[3, -1, -1], -1⟩
def Kf (o:Int) (t:Str):Sign:=if o==3 then ⟨[1],1⟩ else if o==4 then ⟨[3],3⟩ else if o==5 then Dz t else Fl t
def F5 (a b:Int):Int×Bool:=if a==0 then (b,true) else if (b==0) || (a==b) then (a,true) else (0,false)
def Gt:List Int→List Int→Int→Option Int
 | _,[],c=>some c
 | [],_::_,_=>none
 | w::ws,k::ks,c=>if w == -2 then Gt ws ks c else if w == -1 then (if (F5 c k).2 then Gt ws ks (F5 c k).1 else none) else if (F5 w k).2 then Gt ws ks c else none
def Oa (s:Sign) (ks:List Int):Int×Int:=match Gt s.kids ks 0 with|none=>(0,10)|some c=>if s.own == -1 then (c,0) else (s.own,0)
def Ir (c:List Col) (t:Str):Int×Int:=if Ay t c<0 then (0,9) else ((c.getD (Ay t c).toNat ⟨[],0⟩).kind,0)
def Ms (c:List Col) (o:Int) (t:Str) (v:Val) (ks:List (Int×Int)):Int×Int:=
 if o==1 then (v.kind,0) else if o==2 then Ir c t else match ks.find? (fun q=>q.2 != 0) with|some q=>(0,q.2)|none=>Oa (Kf o t) (ks.map (·.1))
mutual
def Ba (c:List Col):Expr→Int×Int
 | .mk o t v k=>Ms c o t v (Mt c k)
def Mt (c:List Col):List Expr→List (Int×Int)
  | []=>[]
  | e::r=>Ba c e::Mt c r
 end
theorem Uk (c:List Col):∀l,Mt c l=l.map (Ba c)
 | []=>rfl
 | e::r=>by rw [Mt,Uk c r];rfl
theorem Pd (c:List Col) (e:Expr):Ba c e=Ms c e.op e.text e.val (e.kids.map (Ba c)):=by cases e;rw [Ba,Uk];rfl
/-- infer.Kind. -/
def Ft (e:Expr) (c:List Col):Int×Int:=if (!(Au e)) || !(Io c) then (0,1) else Ba c e
/-! The signs have as many as the nodes have kids. -/
theorem p9 (s:Str):(Dz s).kids.length=2:=by
 unfold Dz;repeat' split
 all_goals rfl
theorem pc {t:Str} {n:Nat} (h:Cf t=(n:Int)):(Fl t).kids.length=n:=by
 rw [show Cf t=Cf t from rfl] at h
 by_cases hm:t∈arityList.map (·.1)
 ·have:((arityList.map (·.1)).all fun s=>decide (((Fl s).kids.length:Int)=Cf s))=true:=by kernel_rfl
  have:=of_decide_eq_true (Az.1 this t hm)
  omega
 have h1:Cf t = -1:=by
  unfold Cf
  rw [M5.2 fun p hp=>by
   simp only [beq_iff_eq]
   rintro rfl
   exact hm (C3.2 ⟨p,hp,rfl⟩)]
 omega
theorem ABp {e:Expr} (h:Es e=true) (h1:(e.op==1)=false) (h2:(e.op==2)=false):(Kf e.op e.text).kids.length=e.kids.length:=by
 unfold Es at h
 rw [h1,h2] at h
 simp only [Bd,if_false] at h
 unfold Kf
 by_cases h3:(e.op==3)=true
 ·rw [h3] at h
  simp only [L3,if_true,Ao,beq_iff_eq] at h
  rw [if_pos h3]
  show 1=_
  omega
 have h3':(e.op==3)=false:=by simpa using h3
 rw [if_neg h3]
 rw [h3'] at h
 by_cases h4:(e.op==4)=true
 ·rw [h4] at h
  simp only [F1,if_true,Ao,beq_iff_eq] at h
  rw [if_pos h4]
  show 1=_
  omega
 have h4':(e.op==4)=false:=by simpa using h4
 rw [if_neg h4]
 rw [h4'] at h
 simp only [Of,Bd,if_false] at h
 by_cases h5:(e.op==5)=true
 ·rw [h5] at h
  simp only [if_true,Ao,beq_iff_eq] at h
  rw [if_pos h5,p9]
  omega
 have h5':(e.op==5)=false:=by simpa using h5
 rw [if_neg h5]
 rw [h5'] at h
 simp only [Bd,if_false] at h
 by_cases h6:(e.op==6)=true
 ·rw [h6] at h
  simp only [if_true,Ao,beq_iff_eq] at h
  exact pc h.2
 have h6':(e.op==6)=false:=by simpa using h6
 rw [h6'] at h
 cases h
/-! More columns. -/
theorem kt {c:List Col} {o:Int} {t:Str} {v:Val} {ks:List (Int×Int)} (h:(Ms c o t v ks).2=0) (h1:(o==1)=false) (h2:(o==2)=false):∀q∈ks,q.2=0:=by
 unfold Ms at h
 rw [h1,h2] at h
 simp only [Bd,if_false] at h
 cases hf:ks.find? (fun q=>q.2 != 0) with
 | some q =>
  rw [hf] at h
  have:=dm hf
  simp only [bne_iff_ne] at this
  exact absurd h this
 | none =>
  intro q hq
  have:=M5.1 hf q hq
  simpa using this
/-- What a name's kind is. -/
theorem pe {c:List Col} {t:Str} (hn:(c.map (·.name)).Nodup) {y:Col} (hy:y∈c) (h:y.name=t):Ir c t=(y.kind,0):=by
 obtain ⟨j,hj⟩:=C6 hy
 have hf:=Ya hn hj
 rw [h] at hf
 unfold Ir
 rw [hf,if_neg (by omega)]
 have:(c.getD ((j:Int)).toNat ⟨[],0⟩)=y:=by
  rw [Int.toNat_natCast,Cc,hj]
  rfl
 rw [this]
/-! A tree in a column's place. -/
set_option maxRecDepth 4000
abbrev pr (l:List Tok) (S:PS):AObj:=.cells 197 [.slice false 3 (l.map Id),A3 (S.i:Int),A3 (S.nest:Int),A3 S.code,A3 S.at_]
theorem Dj {n:Nat} {l:List Tok} {S:PS}:ObjLow n (pr l S):=by
 show ∀y∈[AV.slice false 3 (l.map Id),A3 (S.i:Int),A3 (S.nest:Int),A3 S.code,A3 S.at_],Low n y
 intro y hy
 simp only [B3,E6,or_false] at hy
 rcases hy with rfl|rfl|rfl|rfl|rfl
 ·simp [or_imp,forall_and]
 all_goals simp
theorem ku (o:Int) (t:Str) (v:Val):Le (.agg [A3 o,Ac t,A3 v.kind,A3 v.n,Ac v.s,.nil]) (A8 (.mk o t v [])):=by
 rw [Al]
 refine .agg _ _ rfl (by simp [AV.one,Value.oneCell',sv]) fun i y y' h1 h2=>?_
 match i with
 | 0=>simp at h1 h2;subst h1;subst h2;exact .inl rfl
 | 1=>simp at h1 h2;subst h1;subst h2;exact .inl rfl
 | 2=>simp at h1 h2;subst h1;subst h2;exact .inl rfl
 | 3=>simp at h1 h2;subst h1;subst h2;exact .inl rfl
 | 4=>simp at h1 h2;subst h1;subst h2;exact .inl rfl
 | 5=>simp at h1 h2;subst h1;subst h2;exact .inr ⟨rfl,6,rfl⟩
 | i+6=>simp at h1
theorem Sq:Le (.agg [A3 0,Ac [],A3 0,A3 0,Ac [],.nil]) (A8 Av):=ku 0 [] noV
theorem AMx (l:List Tok) (S:PS) (o:Nat) (Hp:List AObj) (ho:Hp[o]? = some (pr l S)) (hi:S.i<l.length):AFun Tryz.prog 255 [.ptr o 0] Hp (Id (Af l S.i)):=by
 refine Ae [.cell 2 118] [0] Tryz.func255 Tryz.ntmps255 (fun d=>?_)
 refine ALk ?_;refine Z33 ?_
 refine As (h:=Bh ho) (hr:=?_)
 refine Z33 ?_
 refine As (h:=Bh ho) (hr:=?_)
 refine Gq ?_
 refine A5 (h:=Ah (S.i) (Id (Af l S.i)) (fun _=>Mf hi)) (hr:=?_)
 refine A5 ?_;exact AE7

theorem kv (l:List Tok) (S:PS) (of:Str) (o:Nat) (Hp:List AObj) (ho:Hp[o]? = some (pr l S)) (hi:S.i<l.length) (hl:TokEnd l) (hof:of.length≤1048576):AFun Tryz.prog 232 [.ptr o 0,Ac of] Hp (B0 (isM l of S)):=by
 refine Ae [.tmp 4] [0,1] Tryz.func232 Tryz.ntmps232 (fun d=>?_)
 refine Z37 ?_;refine AI9 ?_;refine Z14 ?_;refine A2 [1,5] ?_;refine Z23 ?_;refine Z73 ?_;refine fj ?_;refine C1 Tryz.call175 (fun hB=>AMs (Af l S.i).text of (hl.text _) hof _) ?_;exact AEo

theorem ABq (l:List Tok) (S:PS) (o:Nat) (Hp:List AObj) (ho:Hp[o]? = some (pr l S)) (hi:S.i<l.length) (hll:l.length≤1048576):ACall Tryz.prog 233 [.ptr o 0] Hp (fun r H'=>r=Id (Af l S.i)∧H'=Hp.set o (pr l (Ap S))):=by
 refine Ae [.cell 2 118] [0] Tryz.func233 Tryz.ntmps233 (fun d=>?_)
 refine Z63 ?_;refine AI9 ?_;refine iz ?_;refine Z15 ?_
 refine A5 (h:=Bh ho) (hr:=?_)
 refine Z12 ?_
 refine Dp jS ho ?_ ?_
 ·simp
 refine Jb ?_;refine Z2 ?_;exact AE7

theorem wp (l:List Tok) (S:PS) (e a:Int) (o:Nat) (Hp:List AObj) (ho:Hp[o]? = some (pr l S)):ACall Tryz.prog 156 [.ptr o 0,A3 e,A3 a] Hp (fun r H'=>r=A8 Av∧H'=Hp.set o (pr l (Ey e a S))):=by
 refine Ae [.cell 6 27] [0,1,2] Tryz.func156 Tryz.ntmps156 (fun d=>?_)
 refine AEd ?_;refine Z88 ?_
 refine A5 (h:=Bh ho) (hr:=?_)
 refine A5 ?_;refine A2 [0,1,2,6,12] ?_
 refine A4 (fun ht12=>?_) (fun ht12=>?_)
 ·have e:Ey e a S=⟨S.i,S.nest,e,a⟩:=if_pos ht12
  refine Z47 ?_;refine jk ?_;refine Z0 ?_
  refine Dp jS ho ?_ ?_
  ·simp
  refine A2 [6] ?_;refine H4 ?_;refine AI0 ?_;refine R.wk 19 _ Sq ?_;refine Gs ?_;refine Z76 ?_;exact Aa (Ai (B4 jA jS)) ⟨rfl,by rw [e]⟩ (hlow:=Am _ Av)
 have e:Ey e a S=S:=if_neg (by rw [ht12];simp)
 refine Z3 ?_;refine AI0 ?_;refine R.wk 19 _ Sq ?_;refine Gs ?_;refine Z76 ?_;exact Aa (Ai (B4 jA jS)) ⟨rfl,by rw [e];exact (Ce ho).symm⟩ (hlow:=Am _ Av)

theorem AMy (v:Val) (Hp:List AObj):AFun Tryz.prog 337 [Bn v] Hp (A8 (Nn v)):=by
 refine Ae [.cell 2 27] [0] Tryz.func337 Tryz.ntmps337 (fun d=>?_)
 refine AA9 ?_;refine A2 [1,2] ?_;refine Z2 ?_;refine AAg ?_;refine R.wk 4 _ (ku 1 [] v) ?_;refine Z38 ?_;exact Aa (Ai (B4 jA jS)) ⟨rfl,rfl⟩ (hlow:=Am _ (Nn v))

theorem AMz (l:List Tok) (S:PS) (s:Str) (o:Nat) (Hp:List AObj) (ho:Hp[o]? = some (pr l S)) (hi:S.i<l.length) (hll:l.length≤1048576):ACall Tryz.prog 339 [.ptr o 0,Ac s] Hp (fun r H'=>r=.v (.tuple #[])∧H'=Hp.set o (pr l (Gf l s S))):=by
 refine Ae [] [0,1] Tryz.func339 Tryz.ntmps339 (fun d=>?_)
 refine Z88 ?_
 refine A5 (h:=Bh ho) (hr:=?_)
 refine A5 ?_;refine A2 [0,1,10] ?_
 refine A4 (fun ht10=>?_) (fun ht10=>?_)
 ·have e:Gf l s S=S:=if_pos ht10
  refine Z34 ?_;exact Aa .nores (hp:=⟨rfl,by rw [e];exact (Ce ho).symm⟩)
 have e0:¬(S.code != 0)=true:=by rw [ht10];simp
 refine Qh ?_;refine A9 Tryz.call255 (AMx l S o _ (Ag ho) hi) ?_;refine Z14 ?_;refine A2 [0,1,4] ?_;refine Z23 ?_;refine Qi ?_;refine A5 ?_;refine A2 [0,4,21] ?_
 refine A4 (fun ht21=>?_) (fun ht21=>?_)
 ·have e:Gf l s S=Ey 8 (Af l S.i).at_ S:=by unfold Gf;rw [if_neg e0,if_pos ht21]
  refine AL8 ?_;refine j7 ?_;exact Aa .nores (hp:=⟨rfl,by rw [e]⟩)
 have e:Gf l s S=Ap S:=by unfold Gf;rw [if_neg e0,if_neg (by rw [ht21];simp)]
 refine Z3 ?_;refine Z47 ?_
 refine A5 (h:=Bh ho) (hr:=?_)
 refine Z12 ?_
 refine Dp jS ho ?_ ?_
 ·simp
 refine A2 [] ?_;exact F3 .nores (hp:=⟨rfl,by rw [e];rfl⟩)

/-- The contract of one of the parser's functions. -/
def PC (g:FuncId) (l:List Tok) (f:PS→Expr×PS) (n:Nat):Prop:=∀(o:Nat) (Hp:List AObj) (S:PS),Hp[o]? = some (pr l S)→S.i<l.length→S.nest=n→ACall Tryz.prog g [.ptr o 0] Hp (fun r H'=>r=A8 (f S).1∧H'=Hp.set o (pr l (f S).2))
abbrev Mg:AObj:=.cells 27 [A3 0,Ac [],A3 0,A3 0,Ac [],.nil]
theorem gq {n:Nat}:ObjLow n Mg:=by
 show ∀y∈[A3 0,Ac [],A3 0,A3 0,Ac [],AV.nil],Low n y
 simp
theorem AFd {n:Nat} (e:Expr):ObjLow n (.cells 27 (El e)):=by
 have h:=Am n e
 rw [Al] at h
 show ∀y∈El e,Low n y
 intro y hy
 cases h with
 | agg _ h=>exact h y hy
theorem AFe (l:List Tok) (S:PS) (a:Int) (g:FuncId) (first caps:List AV) (x:Expr) (S2:PS) (o:Nat) (Hp Hx:List AObj) (ho:Hp[o]? = some (pr l S)) (hnl:S.nest≤1048576) (hgc:∀args w,(callFunc g args).run Tryz.prog w=.ok (.enter g args) w) (hxl:Hx.length=Hp.length) (hxo:Hx[o]? = some (pr l S2)) (hn2:S2.nest=S.nest+1) (hlow:(∀y∈Hp.set o (pr l (Du S)),ObjLow Hp.length y)→∀y∈Hx,ObjLow Hp.length y) (hcf:S.nest≠30→∀own,ACall Tryz.prog g (first++caps) (Hp.set o (pr l (Du S))++own) (fun y H'=>y=A8 x∧H'=Hx++own)):ACall Tryz.prog 257 [.ptr o 0,A3 a,.fn (.func g) first caps] Hp (fun r H'=>(S.nest=30→r=A8 Av∧H'=Hp.set o (pr l (Ey 18 a S)))∧(S.nest≠30→r=A8 x∧H'=Hx.set o (pr l (bq S2)))):=by
 refine Ae [.cell 6 27] [0,1,2] Tryz.func257 Tryz.ntmps257 (fun d=>?_)
 refine AEd ?_;refine Z30 ?_
 refine A5 (h:=Bh ho) (hr:=?_)
 refine A5 ?_;refine A2 [0,1,2,6,12] ?_
 refine A4 (fun ht12=>?_) (fun ht12=>?_)
 ·have hn30:S.nest=30:=by have:=ht12;simp at this;omega
  refine Z1 ?_;refine Cj Tryz.call156 ho (by simp) Dj (wp l S 18 a o _ (Ag ho)) ?_;refine Gs ?_;refine ve ?_;exact Aa (Ai (B4 jA jS)) ⟨fun _=>⟨by rw [Al],rfl⟩,fun h=>absurd hn30 h⟩ (hlow:=by have:=Am Hp.length Av;rw [Al] at this;simpa using this)
 have hn30:S.nest≠30:=by have:=ht12;simp at this;omega
 refine Rb ?_
 refine A5 (h:=Bh ho) (hr:=?_)
 refine Z12 ?_
 refine Dp jS ho ?_ ?_
 ·simp
 refine A2 [0,2,6] ?_;refine Z2 ?_
 refine R.callVX (up':=Hx) (own':=[Mg]) hgc (hcf hn30 [Mg]) (by simpa using hxl) (by rw [Dl];exact hlow) ?_
 rw [←hxl]
 refine Z14 ?_;refine A2 [0,6,7] ?_;refine Z15 ?_
 refine A5 (h:=Bh hxo) (hr:=?_)
 refine Z12 ?_
 refine Dp jS hxo ?_ ?_
 ·simp
 refine A2 [6,7] ?_;refine Vy ?_;refine Z76 ?_;exact Aa (Ai (B4 jA jS)) ⟨fun h=>absurd h hn30,fun _=>⟨by rw [Al],by rw [show ((S2.nest:Int)-1)=((bq S2).nest:Int) by show _=((S2.nest-1:Nat):Int);omega];rfl⟩⟩ (hlow:=by have:=Am Hx.length x;rw [Al] at this;simpa using this)

theorem wq (t:Str) (a b:Expr):El (Lp t a b)=[A3 5,.v (sv t),A3 0,A3 0,Ac [],.slice false 6 [A8 a,A8 b]]:=rfl
theorem AFf {n:Nat} (t:Str) (a b:Expr):ObjLow n (.cells 27 [A3 5,.v (sv t),A3 0,A3 0,Ac [],.slice false 6 [A8 a,A8 b]]):=AFd (Lp t a b)
theorem AFg {n:Nat} {U:List AObj} {i:Nat} {x:AObj} (h:∀y∈U,ObjLow n y) (hx:ObjLow n x):∀y∈U.set i x,ObjLow n y:=by
 intro y hy
 rcases Lq hy with h1|h1
 ·exact h y h1
 rw [h1];exact hx
/-- within, with a method's value. -/
theorem ABr {g:FuncId} (hgc:∀args w,(callFunc g args).run Tryz.prog w=.ok (.enter g args) w) (l:List Tok) (S:PS) (a:Int) (f:PS→Expr×PS) (o:Nat) (Hp:List AObj) (ho:Hp[o]? = some (pr l S)) (hi:S.i<l.length) (hnl:S.nest≤30) (hf:S.nest≠30→Fc l (S.nest+1) f) (hcf:S.nest≠30→PC g l f (S.nest+1)):
  ACall Tryz.prog 257 [.ptr o 0,A3 a,.fn (.func g) [.ptr o 0] []] Hp (fun r H'=>r=A8 (Cv a f S).1∧H'=Hp.set o (pr l (Cv a f S).2)):=by
 have hlt:=(Ad.1 ho).1
 by_cases h30:S.nest=30
 ·refine (AFe l S a g [.ptr o 0] [] Av (Du S) o Hp (Hp.set o (pr l (Du S))) ho (by omega) hgc (by simp) (by simp [hlt]) rfl (fun h=>h) (fun h=>absurd h30 h)).mono fun r H' h=>?_
  have e:Cv a f S=(Av,Ey 18 a S):=if_pos (by rw [h30];rfl)
  rw [e]
  exact h.1 h30
 have hq:=hf h30 (Du S) hi rfl
 refine (AFe l S a g [.ptr o 0] [] (f (Du S)).1 (f (Du S)).2 o Hp (Hp.set o (pr l (f (Du S)).2)) ho (by omega) hgc (by simp) (by simp [hlt]) hq.nest (fun h y hy=>?_) (fun _ own=>?_)).mono fun r H' h=>?_
 ·rcases Lq hy with h1|h1
  ·obtain ⟨i,hi',rfl⟩:=To h1
   by_cases hio:i=o
   ·subst hio
    have:Hp[i]=pr l S:=by rw [Ab hi'] at ho;injection ho
    rw [this];exact Dj
   refine h _ ?_
   rw [qz]
   exact ⟨i,by rw [Bx (Ne.symm hio),Ab hi']⟩
  rw [h1];exact Dj
 ·have hg:(Hp.set o (pr l (Du S))++own)[o]? = some (pr l (Du S)):=Ag (by simp [hlt])
  refine (hcf h30 o (Hp.set o (pr l (Du S))++own) (Du S) hg hi rfl).mono fun r H' h=>⟨h.1,h.2.trans ?_⟩
  rw [Kk _ _ (by simpa using hlt),Bv]
 have e:Cv a f S=((f (Du S)).1,bq (f (Du S)).2):=if_neg (by
  show ¬(((S.nest:Int)==30)=true)
  simp
  omega)
 rw [e]
 obtain ⟨h1,h2⟩:=h.2 h30
 exact ⟨h1,by rw [h2,Bv]⟩
theorem AFh {g:FuncId} (hgc:∀args w,(callFunc g args).run Tryz.prog w=.ok (.enter g args) w) (l:List Tok) (S:PS) (of:Str) (hof:of.length≤1048576) (f:PS→Expr×PS) (o:Nat) (Hp:List AObj) (ho:Hp[o]? = some (pr l S)) (hi:S.i<l.length) (hl:TokEnd l) (hll:l.length≤1048576) (hf:Fc l S.nest f) (hcf:PC g l f S.nest):ACall Tryz.prog 198 [.ptr o 0,Ac of,.fn (.func g) [.ptr o 0] []] Hp (fun r H'=>r=A8 (He l of f S).1∧H'=Hp.set o (pr l (He l of f S).2)):=by
 have holt:=(Ad.1 ho).1
 refine Ae [.cell 6 27] [0,1,2] Tryz.func198 Tryz.ntmps198 (fun d=>?_)
 refine AEd ?_;refine Z2 ?_;refine R.callVUp hgc ho (by simp) Dj (hcf o _ S (Ag ho) hi rfl) ?_;refine Z14 ?_;refine A2 [0,1,2,6,7] ?_;refine K9 ?_
 refine Bg (α:=Expr×PS) (fun r=>⟨32,A6 0 (.ptr o 0) (A6 1 (Ac of) (A6 2 (.fn (.func g) [.ptr o 0] []) (A6 6 (.ptr (oid Hp.length 0) 0) (A6 7 (.ptr (oid Hp.length 1) 0) (fun _=>.any))))),Hp.set o (pr l r.2),[.cells 27 [A3 0,Ac [],A3 0,A3 0,Ac [],.nil],.cells 27 (El r.1)],[],none⟩) (fun r=>LeftAt l of f S r) (fun r=>l.length-r.2.i) (f S) (.start (hf S hi rfl)) (Bl (by simp)) rfl (fun r hx=>?_)
 refine Z88 ?_
 refine A5 (h:=Bh (getset ho)) (hr:=?_)
 refine Z36 ?_;refine C1 Tryz.call232 (fun hB=>kv l r.2 of o _ (Ag (getset ho)) hx.fact.lt hl hof) ?_;refine A5 ?_;refine A2 [0,1,2,6,7,21] ?_
 refine A4 (fun ht21=>?_) (fun ht21=>?_)
 ·have hon:=hx.on hl ht21 hf
  have hle:=hon.2.1.le
  have hlt0:=hx.fact.lt
  have hU1:(Hp.set o (pr l r.2)).set o (pr l (Ap r.2))=Hp.set o (pr l (Ap r.2)):=Bv ..
  refine AAa ?_;refine Z2 ?_;refine Cj Tryz.call233 (getset ho) (by simp) Dj (ABq l r.2 o _ (Ag (getset ho)) hx.fact.lt hll) ?_;refine Z14 ?_;refine A2 [0,1,2,6,7,8] ?_;refine Tw [0,1,0,0,8,28,63,127] [4] [.q 4 [] [],.s [28] (some 0) [] [],.q 1 [0] []] (fun B=>Hp.set o (if B 0=true then pr l (f (Ap r.2)).2 else pr l (Ap r.2))) (fun _=>[.cells 27 [A3 0,Ac [],A3 0,A3 0,Ac [],.nil],.cells 27 (El r.1),.cells 118 [A3 (Af l r.2.i).kind,Ac (Af l r.2.i).text,A3 (Af l r.2.i).at_]]) Ak (by kernel_rfl) (by simp [Bv]) rfl (fun B=>by simp) ?_
  apply Y.q
  ·intro B hT hF
   exact j6
  case hTF=>decide
  refine Y.callVUp (r:=A8 (f (Ap r.2)).1) (o:=o) (x0:=pr l (Ap r.2)) (x:=pr l (f (Ap r.2)).2) hgc (fun B hT hF hB=>⟨by simp only [hB];exact getset ho,by simp [upd],rfl,Dj,?_⟩) ?_
  ·simp only [hB]
   exact hcf o _ (Ap r.2) (Ag (getset ho)) hon.1 hx.fact.nest
  apply Y.q
  ·intro B hT hF
   exact Z39
  case hTF=>decide
  refine Er (tn:=[4]) (U:=Hp.set o (pr l (f (Ap r.2)).2)) ?_;refine Z28 ?_;refine A2 [0,1,2,6,7] ?_;refine M9 ?_
  refine Bm (Lp (Af l r.2.i).text r.1 (f (Ap r.2)).1,(f (Ap r.2)).2) hon.2.2 (by show l.length-(f (Ap r.2)).2.i<l.length-r.2.i;have:r.2.i+1≤(f (Ap r.2)).2.i:=hle;omega) ?_
  simp only [wq]
  have hlow2:=fun n=>AFf (n:=n) (Af l r.2.i).text r.1 (f (Ap r.2)).1
  simp only [Al] at hlow2 ⊢
  exact D0 (fun _=>.refl _) (by repeat (first|exact Bc|refine Bb (by simp [oid]<;>omega) ?_)) (by intro y hy;rcases B3.1 hy with rfl|hy;exact gq;rw [Bo.1 hy];exact hlow2 _) (by simp)
 have hout:=hx.out (by rw [ht21];simp)
 refine Sc ?_;refine Vy ?_;refine Z76 ?_;exact Aa (Ai (B4 jA jS)) ⟨by rw [hout,Al],by rw [hout]⟩ (hlow:=by have:=Am (Hp.set o (pr l r.2)).length r.1;rw [Al] at this;simpa using this)

theorem APc (l:List Tok) (S:PS) (f:PS→Expr×PS) (o:Nat) (Hp:List AObj) (ho:Hp[o]? = some (pr l S)) (hi:S.i<l.length) (hl:TokEnd l) (hll:l.length≤1048576) (hf:Fc l S.nest f) (hcf:PC 199 l f S.nest):ACall Tryz.prog 154 [.ptr o 0] Hp (fun r H'=>r=A8 (He l orT f S).1∧H'=Hp.set o (pr l (He l orT f S).2)):=by
 refine Ae [.cell 2 27] [0] Tryz.func154 Tryz.ntmps154 (fun d=>?_)
 refine Z63 ?_;refine Z1 ?_;refine Il ?_;refine Cj Tryz.call198 ho (by simp) Dj (AFh Tryz.call199 l S orT (by decide) f o _ (Ag ho) hi hl hll hf hcf) ?_;refine Z38 ?_;exact Aa (Ai (B4 jA jS)) ⟨by rw [Al],rfl⟩ (hlow:=by have:=Am Hp.length (He l orT f S).1;rw [Al] at this;simpa using this)

theorem APd (l:List Tok) (S:PS) (f:PS→Expr×PS) (o:Nat) (Hp:List AObj) (ho:Hp[o]? = some (pr l S)) (hi:S.i<l.length) (hl:TokEnd l) (hll:l.length≤1048576) (hf:Fc l S.nest f) (hcf:PC 234 l f S.nest):ACall Tryz.prog 199 [.ptr o 0] Hp (fun r H'=>r=A8 (He l ABc f S).1∧H'=Hp.set o (pr l (He l ABc f S).2)):=by
 refine Ae [.cell 2 27] [0] Tryz.func199 Tryz.ntmps199 (fun d=>?_)
 refine Z63 ?_;refine Z1 ?_;refine Il ?_;refine Cj Tryz.call198 ho (by simp) Dj (AFh Tryz.call234 l S ABc (by decide) f o _ (Ag ho) hi hl hll hf hcf) ?_;refine Z38 ?_;exact Aa (Ai (B4 jA jS)) ⟨by rw [Al],rfl⟩ (hlow:=by have:=Am Hp.length (He l ABc f S).1;rw [Al] at this;simpa using this)

theorem APe (l:List Tok) (S:PS) (f:PS→Expr×PS) (o:Nat) (Hp:List AObj) (ho:Hp[o]? = some (pr l S)) (hi:S.i<l.length) (hl:TokEnd l) (hll:l.length≤1048576) (hf:Fc l S.nest f) (hcf:PC 299 l f S.nest):ACall Tryz.prog 282 [.ptr o 0] Hp (fun r H'=>r=A8 (He l ABd f S).1∧H'=Hp.set o (pr l (He l ABd f S).2)):=by
 refine Ae [.cell 2 27] [0] Tryz.func282 Tryz.ntmps282 (fun d=>?_)
 refine Z63 ?_;refine Z1 ?_;refine Il ?_;refine Cj Tryz.call198 ho (by simp) Dj (AFh Tryz.call299 l S ABd (by decide) f o _ (Ag ho) hi hl hll hf hcf) ?_;refine Z38 ?_;exact Aa (Ai (B4 jA jS)) ⟨by rw [Al],rfl⟩ (hlow:=by have:=Am Hp.length (He l ABd f S).1;rw [Al] at this;simpa using this)

theorem APf (l:List Tok) (S:PS) (f:PS→Expr×PS) (o:Nat) (Hp:List AObj) (ho:Hp[o]? = some (pr l S)) (hi:S.i<l.length) (hl:TokEnd l) (hll:l.length≤1048576) (hf:Fc l S.nest f) (hcf:PC 317 l f S.nest):ACall Tryz.prog 299 [.ptr o 0] Hp (fun r H'=>r=A8 (He l kn f S).1∧H'=Hp.set o (pr l (He l kn f S).2)):=by
 refine Ae [.cell 2 27] [0] Tryz.func299 Tryz.ntmps299 (fun d=>?_)
 refine Z63 ?_;refine Z1 ?_;refine Il ?_;refine Cj Tryz.call198 ho (by simp) Dj (AFh Tryz.call317 l S kn (by decide) f o _ (Ag ho) hi hl hll hf hcf) ?_;refine Z38 ?_;exact Aa (Ai (B4 jA jS)) ⟨by rw [Al],rfl⟩ (hlow:=by have:=Am Hp.length (He l kn f S).1;rw [Al] at this;simpa using this)

/-- What is so of the functions one nest deeper. -/
structure DeepC (l:List Tok) (Dv:Fam) (n:Nat):Prop where
 ei:n≠30→Fc l (n+1) Dv.ei∧PC 154 l Dv.ei (n+1)
 no:n≠30→Fc l (n+1) Dv.no∧PC 234 l Dv.no (n+1)
 ne:n≠30→Fc l (n+1) Dv.ne∧PC 317 l Dv.ne (n+1)
theorem Wg (op:Int) (x:Expr):A8 (Kq op x)=.agg [A3 op,Ac [],A3 0,A3 0,Ac [],.slice false 6 [A8 x]]:=by rw [Al];rfl
theorem sh (t:Str) (a b:Expr):A8 (Lp t a b)=.agg [A3 5,.v (sv t),A3 0,A3 0,Ac [],.slice false 6 [A8 a,A8 b]]:=by rw [Al];rfl
theorem low_agg {n:Nat} (e:Expr):Low n (.agg [.v (.int .i64 e.op),.v (sv e.text),.v (.int .i64 e.val.kind),.v (.int .i64 e.val.n),.v (sv e.val.s),.slice false 6 (e.kids.map A8)]):=by
 have:=Am n e
 rwa [Al] at this
theorem APg (l:List Tok) (S:PS) (Dv:Fam) (o:Nat) (Hp:List AObj) (ho:Hp[o]? = some (pr l S)) (hi:S.i<l.length) (hl:TokEnd l) (hll:l.length≤1048576) (hnl:S.nest≤30) (hd:DeepC l Dv S.nest) (hc:PC 331 l (Ho l Dv) S.nest):ACall Tryz.prog 317 [.ptr o 0] Hp (fun r H'=>r=A8 (Y4 l Dv S).1∧H'=Hp.set o (pr l (Y4 l Dv S).2)):=by
 refine Ae [.cell 2 27] [0] Tryz.func317 Tryz.ntmps317 (fun d=>?_)
 refine Z63 ?_;refine Z31 ?_;refine A9 Tryz.call232 (kv l S AJ2 o _ (Ag ho) hi hl (by decide)) ?_;refine A5 ?_;refine A2 [0,2,6] ?_
 refine A4 (fun ht6=>?_) (fun ht6=>?_)
 ·have e:Y4 l Dv S=Ho l Dv S:=if_pos ht6
  refine Z2 ?_;refine Cj Tryz.call331 ho (by simp) Dj (hc o _ S (Ag ho) hi rfl) ?_;refine Z38 ?_;exact Z81
 have his:isM l AJ2 S=true:=by simpa using ht6
 have hi1:(Ap S).i<l.length:=hl.stepIs hi his
 have e:Y4 l Dv S=(Kq 3 (Cv (Af l S.i).at_ Dv.ne (Ap S)).1,(Cv (Af l S.i).at_ Dv.ne (Ap S)).2):=if_neg (by rw [ht6];simp)
 refine Z3 ?_;refine Z67 ?_;refine iz ?_;refine Z23 ?_;refine Il ?_;refine Cj Tryz.call257 (getset ho) (by simp) Dj (ABr Tryz.call317 l (Ap S) (Af l S.i).at_ Dv.ne o _ (Ag (getset ho)) hi1 hnl (fun h=>(hd.ne h).1) (fun h=>(hd.ne h).2)) ?_;refine Sd ?_;refine Z28 ?_;refine Z4 ?_;exact Aa (Ai (B4 jA jS)) ⟨by rw [e,Wg];simp only [Al],by rw [e,Bv]⟩ (hlow:=by have:=Am Hp.length (Kq 3 (Cv (Af l S.i).at_ Dv.ne (Ap S)).1);rw [Wg] at this;simp only [Al] at this;simpa only [Dl] using this)

theorem APh (l:List Tok) (S:PS) (Dv:Fam) (o:Nat) (Hp:List AObj) (ho:Hp[o]? = some (pr l S)) (hi:S.i<l.length) (hl:TokEnd l) (hll:l.length≤1048576) (hnl:S.nest≤30) (hd:DeepC l Dv S.nest) (hc:PC 256 l (H8 l Dv) S.nest):ACall Tryz.prog 234 [.ptr o 0] Hp (fun r H'=>r=A8 (Y5 l Dv S).1∧H'=Hp.set o (pr l (Y5 l Dv S).2)):=by
 refine Ae [.cell 2 27] [0] Tryz.func234 Tryz.ntmps234 (fun d=>?_)
 refine Z63 ?_;refine Z31 ?_;refine A9 Tryz.call232 (kv l S AJ0 o _ (Ag ho) hi hl (by decide)) ?_;refine A5 ?_;refine A2 [0,2,6] ?_
 refine A4 (fun ht6=>?_) (fun ht6=>?_)
 ·have e:Y5 l Dv S=H8 l Dv S:=if_pos ht6
  refine Z2 ?_;refine Cj Tryz.call256 ho (by simp) Dj (hc o _ S (Ag ho) hi rfl) ?_;refine Z38 ?_;exact Z81
 have his:isM l AJ0 S=true:=by simpa using ht6
 have hi1:(Ap S).i<l.length:=hl.stepIs hi his
 have e:Y5 l Dv S=(Kq 4 (Cv (Af l S.i).at_ Dv.no (Ap S)).1,(Cv (Af l S.i).at_ Dv.no (Ap S)).2):=if_neg (by rw [ht6];simp)
 refine Z3 ?_;refine Z67 ?_;refine iz ?_;refine Z23 ?_;refine Il ?_;refine Cj Tryz.call257 (getset ho) (by simp) Dj (ABr Tryz.call234 l (Ap S) (Af l S.i).at_ Dv.no o _ (Ag (getset ho)) hi1 hnl (fun h=>(hd.no h).1) (fun h=>(hd.no h).2)) ?_;refine Sd ?_;refine Z28 ?_;refine Z4 ?_;exact Aa (Ai (B4 jA jS)) ⟨by rw [e,Wg];simp only [Al],by rw [e,Bv]⟩ (hlow:=by have:=Am Hp.length (Kq 4 (Cv (Af l S.i).at_ Dv.no (Ap S)).1);rw [Wg] at this;simp only [Al] at this;simpa only [Dl] using this)

theorem APi (l:List Tok) (S:PS) (Dv:Fam) (o:Nat) (Hp:List AObj) (ho:Hp[o]? = some (pr l S)) (hi:S.i<l.length) (hl:TokEnd l) (hll:l.length≤1048576) (hnl:S.nest≤30) (hd:DeepC l Dv S.nest) (hg:Fc l S.nest (Fg l Dv)) (hc:PC 282 l (Fg l Dv) S.nest):ACall Tryz.prog 256 [.ptr o 0] Hp (fun r H'=>r=A8 (H8 l Dv S).1∧H'=Hp.set o (pr l (H8 l Dv S).2)):=by
 have hq:=hg S hi rfl
 refine Ae [.cell 2 27] [0] Tryz.func256 Tryz.ntmps256 (fun d=>?_)
 refine Z63 ?_;refine Z2 ?_;refine Cj Tryz.call282 ho (by simp) Dj (hc o _ S (Ag ho) hi rfl) ?_;refine iz ?_;refine Z88 ?_
 refine A5 (h:=Bh (getset ho)) (hr:=?_)
 refine Qf ?_;refine C1 Tryz.call232 (fun hB=>kv l (Fg l Dv S).2 AJ1 o _ (Ag (getset ho)) hq.lt hl (by decide)) ?_;refine Z53 ?_;refine A2 [0,2,3,17] ?_
 refine A4 (fun ht17=>?_) (fun ht17=>?_)
 ·have e:H8 l Dv S=Fg l Dv S:=if_pos ht17
  refine Z2 ?_;refine Z38 ?_;exact Z81
 have his:isM l AJ1 (Fg l Dv S).2=true:=by
  have:=ht17
  simp only [E3,Oe] at this
  exact this.2
 have hi1:(Ap (Fg l Dv S).2).i<l.length:=hl.stepIs hq.lt his
 have e:H8 l Dv S=(Lp (Af l (Fg l Dv S).2.i).text (Fg l Dv S).1 (Fg l Dv (Ap (Fg l Dv S).2)).1,(Fg l Dv (Ap (Fg l Dv S).2)).2):=if_neg (by rw [ht17];simp)
 refine Qj ?_;refine Cj Tryz.call233 (getset ho) (by simp) Dj (ABq l (Fg l Dv S).2 o _ (Ag (getset ho)) hq.lt hll) ?_;refine Z14 ?_;refine A2 [0,2,3,4] ?_;refine Fj [0,1,0,0,8,28,63,127] [4] [.q 4 [] [],.s [25] (some 0) [] [],.q 1 [0] []] (fun B=>Hp.set o (if B 0=true then pr l (Fg l Dv (Ap (Fg l Dv S).2)).2 else pr l (Ap (Fg l Dv S).2))) (fun _=>[.cells 27 [A3 0,Ac [],A3 0,A3 0,Ac [],.nil],.cells 27 (El (Fg l Dv S).1),.cells 118 [A3 (Af l (Fg l Dv S).2.i).kind,Ac (Af l (Fg l Dv S).2.i).text,A3 (Af l (Fg l Dv S).2.i).at_]]) Ak (by kernel_rfl) (by simp [Bv]) rfl (fun B=>by simp) ?_
 apply Y.q
 ·intro B hT hF
  exact j6
 case hTF=>decide
 refine Nf (r:=A8 (Fg l Dv (Ap (Fg l Dv S).2)).1) (o:=o) (x0:=pr l (Ap (Fg l Dv S).2)) (x:=pr l (Fg l Dv (Ap (Fg l Dv S).2)).2) Tryz.call282 (fun B hT hF hB=>⟨by simp only [hB];exact getset ho,by simp [upd],rfl,Dj,?_⟩) ?_
 ·simp only [hB]
  exact hc o _ (Ap (Fg l Dv S).2) (Ag (getset ho)) hi1 hq.nest
 apply Y.q
 ·intro B hT hF
  exact Z39
 case hTF=>decide
 refine Er (tn:=[4]) (U:=Hp.set o (pr l (Fg l Dv (Ap (Fg l Dv S).2)).2)) ?_;refine Z28 ?_;refine Z4 ?_;exact Aa (Ai (B4 jA jS)) ⟨by rw [e,sh];simp only [Al],by rw [e]⟩ (hlow:=by have:=Am Hp.length (Lp (Af l (Fg l Dv S).2.i).text (Fg l Dv S).1 (Fg l Dv (Ap (Fg l Dv S).2)).1);rw [sh] at this;simp only [Al] at this;simpa only [Dl] using this)

/-- The contract of the parser of calls. -/
def kw (l:List Tok) (Dv:Fam) (n:Nat):Prop:=∀(o:Nat) (Hp:List AObj) (S:PS) (t:Tok),Hp[o]? = some (pr l S)→(Ap S).i<l.length→S.nest=n→t.text.length≤1048576→isM l opT S=true→ACall Tryz.prog 338 [.ptr o 0,Id t] Hp (fun r H'=>r=A8 (J6 l Dv t S).1∧H'=Hp.set o (pr l (J6 l Dv t S).2))
theorem ABs:A8 Av=.agg [A3 0,Ac [],A3 0,A3 0,Ac [],.slice false 6 []]:=by rw [Al];rfl
theorem APj (l:List Tok) (S:PS) (Dv:Fam) (o:Nat) (Hp:List AObj) (ho:Hp[o]? = some (pr l S)) (hi:S.i<l.length) (hl:TokEnd l) (hll:l.length≤1048576) (hnl:S.nest≤30) (hd:DeepC l Dv S.nest) (hcl:kw l Dv S.nest):ACall Tryz.prog 331 [.ptr o 0] Hp (fun r H'=>r=A8 (Ho l Dv S).1∧H'=Hp.set o (pr l (Ho l Dv S).2)):=by
 refine Ae [.cell 2 27] [0] Tryz.func331 Tryz.ntmps331 (fun d=>?_)
 refine Z63 ?_;refine AI9 ?_;refine iz ?_;refine Z88 ?_
 refine A5 (h:=Bh ho) (hr:=?_)
 refine A5 ?_;refine A2 [0,2,3,14] ?_
 refine A4 (fun ht14=>?_) (fun ht14=>?_)
 ·have e:Ho l Dv S=(Av,S):=if_pos ht14
  refine AI0 ?_;refine R.wk 15 _ Sq ?_;refine Z38 ?_;refine Ck ?_;exact Aa (Ai (B4 jA jS)) ⟨by rw [e,Al],by rw [e];exact (Ce ho).symm⟩ (hlow:=by have:=Am Hp.length (Av);simpa only [Al,Dl] using this)
 have e0:¬(S.code != 0)=true:=by rw [ht14];simp
 refine Tx ?_;refine vl ?_;refine C1 Tryz.call232 (fun hB=>kv l S AJ3 o _ (Ag ho) hi hl (by decide)) ?_;refine Z0 ?_;refine A2 [0,2,3,16] ?_
 refine A4 (fun ht16=>?_) (fun ht16=>?_)
 ·have e:Ho l Dv S=(Nn (Im (Af l S.i).text).1,Ap S):=by unfold Ho;rw [if_neg e0,if_pos ht16]
  refine Z67 ?_;refine A5 ?_;refine A9 Tryz.call227 (AIt (Af l S.i).text (hl.text _) _) ?_;refine Ra ?_;refine A2 [2,4] ?_;refine Z2 ?_;refine A9 Tryz.call337 (AMy (Im (Af l S.i).text).1 _) ?_;refine Z38 ?_;refine Z5 ?_;exact Aa (Ai (B4 jA jS)) ⟨by rw [e,Al],by rw [e]⟩ (hlow:=by have:=Am Hp.length (Nn (Im (Af l S.i).text).1);simpa only [Al,Dl] using this)
 have e1:¬(((Af l S.i).kind==3) || isM l AJ3 S)=true:=by rw [ht16];simp
 refine Z23 ?_;refine A2 [0,2,3,33] ?_
 refine A4 (fun ht33=>?_) (fun ht33=>?_)
 ·have e:Ho l Dv S=(Nn ⟨2,0,(Af l S.i).text.take 200⟩,Ap S):=by unfold Ho;rw [if_neg e0,if_neg e1,if_pos ht33]
  refine Z67 ?_;refine A5 ?_;refine A9 Tryz.call275 (w4 (Af l S.i).text _) ?_;refine A9 Tryz.call337 (AMy ⟨2,0,(Af l S.i).text.take 200⟩ _) ?_;refine Z38 ?_;refine Z5 ?_;exact Aa (Ai (B4 jA jS)) ⟨by rw [e,Al],by rw [e]⟩ (hlow:=by have:=Am Hp.length (Nn ⟨2,0,(Af l S.i).text.take 200⟩);simpa only [Al,Dl] using this)
 have e2:¬((Af l S.i).kind==4)=true:=by rw [ht33];simp
 refine Z23 ?_;refine A2 [0,2,3,42] ?_
 refine A4 (fun ht42=>?_) (fun ht42=>?_)
 ·have hi1:(Ap S).i<l.length:=hl.step hi (by rw [beq_iff_eq] at ht42;rw [ht42];decide)
  refine Z67 ?_;refine A2 [0,2,3] ?_;refine Z31 ?_;refine A9 Tryz.call232 (kv l (Ap S) opT o _ (Ag (getset ho)) hi1 hl (by decide)) ?_;refine A2 [0,2,3,49] ?_
  refine A4 (fun ht49=>?_) (fun ht49=>?_)
  ·have e:Ho l Dv S=J6 l Dv (Af l S.i) (Ap S):=by unfold Ho;rw [if_neg e0,if_neg e1,if_neg e2,if_pos ht42,if_pos ht49]
   have hi2:(Ap (Ap S)).i<l.length:=hl.stepIs hi1 ht49
   refine Z1 ?_;refine Cj Tryz.call338 (getset ho) (by simp) Dj (hcl o _ (Ap S) (Af l S.i) (Ag (getset ho)) hi2 rfl (hl.text _) ht49) ?_;refine Z38 ?_;refine Ck ?_;refine Z5 ?_;exact Aa (Ai (B4 jA jS)) ⟨by rw [e,Al],by rw [e,Bv]⟩ (hlow:=by have:=Am Hp.length ((J6 l Dv (Af l S.i) (Ap S)).1);simpa only [Al,Dl] using this)
  have e:Ho l Dv S=(Cu (Af l S.i).text,Ap S):=by unfold Ho;rw [if_neg e0,if_neg e1,if_neg e2,if_pos ht42,if_neg (by rw [ht49];simp)]
  refine Z3 ?_;refine AE3 ?_;refine R.wk 55 _ (jx _) ?_;refine Z38 ?_;refine Z5 ?_;exact Aa (Ai (B4 jA jS)) ⟨by rw [e,Al],by rw [e]⟩ (hlow:=by have:=Am Hp.length (Cu (Af l S.i).text);simpa only [Al,Dl] using this)
 have e3:¬((Af l S.i).kind==1)=true:=by rw [ht42];simp
 refine Z2 ?_;refine A9 Tryz.call232 (kv l S opT o _ (Ag ho) hi hl (by decide)) ?_;refine A5 ?_;refine A2 [0,2,3,56] ?_
 refine A4 (fun ht56=>?_) (fun ht56=>?_)
 ·have e:Ho l Dv S=((Cv (Af l S.i).at_ Dv.ei (Ap S)).1,Gf l Gb (Cv (Af l S.i).at_ Dv.ei (Ap S)).2):=by unfold Ho;rw [if_neg e0,if_neg e1,if_neg e2,if_neg e3,if_pos ht56]
  have hi1:(Ap S).i<l.length:=hl.stepIs hi ht56
  have hwf:=Kr (S:=Ap S) (l:=l) (f:=Dv.ei) (Af l S.i).at_ hi1 (fun h=>(hd.ei h).1)
  refine Z67 ?_;refine A2 [0,2,3] ?_;refine Z23 ?_;refine Il ?_;refine Cj Tryz.call257 (getset ho) (by simp) Dj (ABr Tryz.call154 l (Ap S) (Af l S.i).at_ Dv.ei o _ (Ag (getset ho)) hi1 hnl (fun h=>(hd.ei h).1) (fun h=>(hd.ei h).2)) ?_;refine Z14 ?_;refine A2 [0,2,6] ?_;refine Z2 ?_;refine Cj Tryz.call339 (getset (getset ho)) (by simp) Dj (AMz l (Cv (Af l S.i).at_ Dv.ei (Ap S)).2 Gb o _ (Ag (getset (getset ho))) hwf.lt hll) ?_;refine A2 [2,6] ?_;refine Z2 ?_;refine Z38 ?_;refine Z5 ?_;exact Aa (Ai (B4 jA jS)) ⟨by rw [e,Al],by rw [e,Bv,Bv]⟩ (hlow:=by have:=Am Hp.length ((Cv (Af l S.i).at_ Dv.ei (Ap S)).1);simpa only [Al,Dl] using this)
 have e:Ho l Dv S=(Av,Ey 8 (Af l S.i).at_ S):=by unfold Ho;rw [if_neg e0,if_neg e1,if_neg e2,if_neg e3,if_neg (by rw [ht56];simp)]
 refine Z20 ?_;refine AL8 ?_;refine Z38 ?_;exact Aa (Ai (B4 jA jS)) ⟨by rw [e,Al],by rw [e]⟩ (hlow:=by have:=Am Hp.length (Av);simpa only [Al,Dl] using this)

theorem AFi {l:List Tok} (hl:TokEnd l) (hll:l.length≤1048576) {d n:Nat} (h:n+(d+1)=31) (hp:n≠30→PC 154 l (Gg l d).ei (n+1)∧PC 234 l (Gg l d).no (n+1)∧PC 317 l (Gg l d).ne (n+1)):DeepC l (Gg l d) n:=by
 have g:n≠30→_:=fun h30=>Ui hl hll d (n+1) (by omega) (by omega)
 exact ⟨fun h=>⟨(g h).1,(hp h).1⟩,fun h=>⟨(g h).2.1,(hp h).2.1⟩,fun h=>⟨(g h).2.2,(hp h).2.2⟩⟩
/-- All functions of the parser. -/
theorem kx {l:List Tok} (hl:TokEnd l) (hll:l.length≤1048576) (hcl:∀n Dv,n≤30→DeepC l Dv n→kw l Dv n):∀(d n:Nat),n+d=31→n≤30→PC 154 l (Gg l d).ei n∧PC 234 l (Gg l d).no n∧PC 317 l (Gg l d).ne n
 | 0,n,h,hn=>by omega
 | d+1,n,h,hn=>by
  have hd:DeepC l (Gg l d) n:=AFi hl hll h (fun h30=>kx hl hll hcl d (n+1) (by omega) (by omega))
  have g1:Fc l n (Y4 l (Gg l d)):=Uh hl hll (fun h=>(hd.ei h).1) (fun h=>(hd.ne h).1)
  have g2:Fc l n (s9 l (Gg l d)):=I2 hl g1
  have g3:Fc l n (Fg l (Gg l d)):=I2 hl g2
  have g4:Fc l n (H8 l (Gg l d)):=Qs hl hll (fun h=>(hd.ei h).1) (fun h=>(hd.ne h).1)
  have g5:Fc l n (Y5 l (Gg l d)):=bu hl hll (fun h=>(hd.ei h).1) (fun h=>(hd.ne h).1) (fun h=>(hd.no h).1)
  have g6:Fc l n (sa l (Gg l d)):=I2 hl g5
  have p0:PC 331 l (Ho l (Gg l d)) n:=fun o Hp S ho hi hS=>by
   subst hS
   exact APj l S (Gg l d) o Hp ho hi hl hll hn hd (hcl _ _ hn hd)
  have p1:PC 317 l (Y4 l (Gg l d)) n:=fun o Hp S ho hi hS=>by
   subst hS
   exact APg l S (Gg l d) o Hp ho hi hl hll hn hd p0
  have p2:PC 299 l (s9 l (Gg l d)) n:=fun o Hp S ho hi hS=>by
   subst hS
   exact APf l S (Y4 l (Gg l d)) o Hp ho hi hl hll g1 p1
  have p3:PC 282 l (Fg l (Gg l d)) n:=fun o Hp S ho hi hS=>by
   subst hS
   exact APe l S (s9 l (Gg l d)) o Hp ho hi hl hll g2 p2
  have p4:PC 256 l (H8 l (Gg l d)) n:=fun o Hp S ho hi hS=>by
   subst hS
   exact APi l S (Gg l d) o Hp ho hi hl hll hn hd g3 p3
  have p5:PC 234 l (Y5 l (Gg l d)) n:=fun o Hp S ho hi hS=>by
   subst hS
   exact APh l S (Gg l d) o Hp ho hi hl hll hn hd p4
  have p6:PC 199 l (sa l (Gg l d)) n:=fun o Hp S ho hi hS=>by
   subst hS
   exact APd l S (Y5 l (Gg l d)) o Hp ho hi hl hll g5 p5
  have p7:PC 154 l (gn l (Gg l d)) n:=fun o Hp S ho hi hS=>by
   subst hS
   exact APc l S (sa l (Gg l d)) o Hp ho hi hl hll g6 p6
  exact ⟨p7,p5,p1⟩
theorem si {n:Nat} {U F:Nat→List AObj} {H':List AObj} (h:Mp (fun _=>true) U F n H'):H'=U n:=by
 rcases h with ⟨_,h⟩|⟨j,_,_,h,_⟩
 ·exact h
 cases h
theorem wr {α:Type} {l:List α} {k:Nat} {y:α} (h:l[k]? = some y):l.take (k+1)=l.take k++[y]:=by rw [List.take_add_one,h];rfl
theorem ABt {L:List (Int×Expr)} {k:Nat} {it:Int×Expr} (h:L[k]? = some it):Fx 0 (L.take (k+1))=if Fx 0 (L.take k)<it.1 then it.1 else Fx 0 (L.take k):=by
 have e:Fx 0 (L.take (k+1))=max (Fx 0 (L.take k)) it.1:=by
  unfold Fx
  rw [wr h,n6]
  rfl
 rw [e]
 split<;>omega
theorem bv {n k:Nat} {o:Bool} {l:List Str}:Low n (.slice o k (l.map Ac)):=by simp [or_imp,forall_and]
theorem APk (n:Nat) (e:Expr) (hok:okE n e) (hn:n≤1048576) (hs:sizeE e≤1048576) (Hp:List AObj):AFun Tryz.prog 155 [A8 e] Hp (A3 (depthE e:Nat)):=by
 refine Ae [.tmp 2] [0,4] Tryz.func155 Tryz.ntmps155 (fun d=>?_)
 refine Z1 ?_;refine A2 [1,4] ?_;refine fh ?_;refine A2 [1,3,4] ?_;refine Z62 ?_
 refine Ma (fun hlow=>?_)
 refine AIf ?_;refine A2 [3,4,6] ?_;refine Lo ?_
 refine Nh (m:=1) Tryz.call173 (fun FR as' bd' hFR has hbd=>?_)
 have hFRl:∀s,Low (Hp.length+3) (FR s):=by
  intro s
  rw [hFR]
  refine Oi ?_
  revert s
  repeat (first|exact Bc|refine Bb (by simp [oid,Am]<;>try omega) ?_)
 have hOl:∀{k:Nat},∀x∈[AObj.cells 3 [A3 (Fx 0 ((Bu 1 e).take k))],AObj.defs,AObj.loop LoopState.ready none FR 13 #[7,8] as' bd' (oid Hp.length 1)],ObjLow (Hp.length+3) x:=by
  intro k x hx
  simp only [B3,Et,or_false] at hx
  rcases hx with rfl|rfl|rfl
  ·intro y hy
   rw [Bo.1 hy]
   first|exact bv|simp
  ·trivial
  exact AAd
 refine ⟨fun _ H'=>Mp (fun _=>true) (fun k=>Hp++[AObj.cells 3 [A3 (Fx 0 ((Bu 1 e).take k))],AObj.defs,AObj.loop LoopState.ready none FR 13 #[7,8] as' bd' (oid Hp.length 1)]) (fun k=>Hp++[AObj.cells 3 [A3 (Fx 0 ((Bu 1 e).take k))],AObj.defs,AObj.loop LoopState.ready none FR 13 #[7,8] as' bd' (oid Hp.length 1)]) (Bu 1 e).length H',AIw (l:=oid Hp.length 2) (go:=fun _=>true) (U:=fun k=>Hp++[AObj.cells 3 [A3 (Fx 0 ((Bu 1 e).take k))],AObj.defs,AObj.loop LoopState.ready none FR 13 #[7,8] as' bd' (oid Hp.length 1)]) (F:=fun k=>Hp++[AObj.cells 3 [A3 (Fx 0 ((Bu 1 e).take k))],AObj.defs,AObj.loop LoopState.ready none FR 13 #[7,8] as' bd' (oid Hp.length 1)]) (n0:=Hp.length+3) ⟨fun k=>by simp,fun k=>by simp,fun k x hx=>?_,fun k x hx=>?_,by simp [oid],fun X k it hit hgo=>?_⟩ n hok hn,?_⟩
 ·exact AAe
 ·exact AAe
 ·have hklt:k<sizeE e:=by rw [←H7 1 e];exact (Ad.1 hit).1
  generalize hV:(Hp++[AObj.cells 3 [A3 (Fx 0 ((Bu 1 e).take k))],AObj.defs,AObj.loop LoopState.ready none FR 13 #[7,8] as' bd' (oid Hp.length 1)]++X)=V
  have hL:V[oid Hp.length 2]? = some (AObj.loop LoopState.ready none FR 13 #[7,8] as' bd' (oid Hp.length 1)):=by rw [←hV,B8,Ax];rfl
  have hA0:V[oid Hp.length 0]? = some (AObj.cells 3 [A3 (Fx 0 ((Bu 1 e).take k))]):=by rw [←hV,B8,Ax];rfl
  refine L8 (pd:=none) (fr:=FR) (sz:=13) (ps:=#[7,8]) (df:=oid Hp.length 1) (asg:=as') (bd:=bd') hL rfl (by decide) (fun d=>?_)
  subst hFR has hbd
  refine G9 [3,7,8] ?_;refine Z52 ?_;refine A2 [3,4] ?_
  refine ⟨rfl,none,hL,?_⟩
  generalize hbz:(AObj.loop LoopState.busy _ _ _ _ _ _ _)=bz
  have hA:(V.set (oid Hp.length 2) bz)[oid Hp.length 0]? = some (AObj.cells 3 [A3 (Fx 0 ((Bu 1 e).take k))]):=by rw [Bx (Cb (by decide))];exact hA0
  refine Lo ?_;refine Hj ?_
  refine A5 (h:=Bh hA) (hr:=?_)
  refine A5 ?_;refine R.maxI ?_
  refine Dp jS hA ?_ ?_
  ·simp
  refine Vz ?_
  subst hbz
  refine K.rdN (iw hL (Cb (by decide))) ?_
  refine ⟨rfl,?_⟩
  rw [if_pos rfl]
  subst hV
  simp only [B8,Dm,E9,E5,List.set_cons_succ,List.set_cons_zero]
  rw [ABt hit]
 intro r H' hq
 obtain rfl:=si hq
 refine ⟨Hp,_,_,_,rfl,rfl,fun h=>h,?_,rfl,by simp,?_⟩
 ·intro o ho
  have:o=oid Hp.length 1:=by simpa using ho
  subst this
  rw [Ax]
  rfl
 refine Z11 ?_;refine Z1 ?_;refine Z4 ?_;exact Aa (Ai A7) ⟨by rw [Lt,Vd],rfl⟩

theorem APl (n:Nat) (e:Expr) (hok:okE n e) (hn:n≤1048576) (hs:sizeE e≤1048576) (Hp:List AObj):AFun Tryz.prog 157 [A8 e] Hp (A3 (sizeE e:Nat)):=by
 refine Ae [.tmp 2] [0] Tryz.func157 Tryz.ntmps157 (fun d=>?_)
 refine Z97 ?_;refine fh ?_;refine A2 [1,3] ?_;refine Z62 ?_
 refine Ma (fun hlow=>?_)
 refine AIf ?_;refine A2 [3,5] ?_;refine Lo ?_
 refine Nh (m:=1) Tryz.call173 (fun FR as' bd' hFR has hbd=>?_)
 have hFRl:∀s,Low (Hp.length+3) (FR s):=by
  intro s
  rw [hFR]
  refine Oi ?_
  revert s
  repeat (first|exact Bc|refine Bb (by simp [oid,Am]<;>try omega) ?_)
 have hOl:∀{k:Nat},∀x∈[AObj.cells 3 [A3 ((k:Nat))],AObj.defs,AObj.loop LoopState.ready none FR 11 #[6,7] as' bd' (oid Hp.length 1)],ObjLow (Hp.length+3) x:=by
  intro k x hx
  simp only [B3,Et,or_false] at hx
  rcases hx with rfl|rfl|rfl
  ·intro y hy
   rw [Bo.1 hy]
   first|exact bv|simp
  ·trivial
  exact AAd
 refine ⟨fun _ H'=>Mp (fun _=>true) (fun k=>Hp++[AObj.cells 3 [A3 ((k:Nat))],AObj.defs,AObj.loop LoopState.ready none FR 11 #[6,7] as' bd' (oid Hp.length 1)]) (fun k=>Hp++[AObj.cells 3 [A3 ((k:Nat))],AObj.defs,AObj.loop LoopState.ready none FR 11 #[6,7] as' bd' (oid Hp.length 1)]) (Bu 1 e).length H',AIw (l:=oid Hp.length 2) (go:=fun _=>true) (U:=fun k=>Hp++[AObj.cells 3 [A3 ((k:Nat))],AObj.defs,AObj.loop LoopState.ready none FR 11 #[6,7] as' bd' (oid Hp.length 1)]) (F:=fun k=>Hp++[AObj.cells 3 [A3 ((k:Nat))],AObj.defs,AObj.loop LoopState.ready none FR 11 #[6,7] as' bd' (oid Hp.length 1)]) (n0:=Hp.length+3) ⟨fun k=>by simp,fun k=>by simp,fun k x hx=>?_,fun k x hx=>?_,by simp [oid],fun X k it hit hgo=>?_⟩ n hok hn,?_⟩
 ·exact AAe
 ·exact AAe
 ·have hklt:k<sizeE e:=by rw [←H7 1 e];exact (Ad.1 hit).1
  generalize hV:(Hp++[AObj.cells 3 [A3 ((k:Nat))],AObj.defs,AObj.loop LoopState.ready none FR 11 #[6,7] as' bd' (oid Hp.length 1)]++X)=V
  have hL:V[oid Hp.length 2]? = some (AObj.loop LoopState.ready none FR 11 #[6,7] as' bd' (oid Hp.length 1)):=by rw [←hV,B8,Ax];rfl
  have hA0:V[oid Hp.length 0]? = some (AObj.cells 3 [A3 ((k:Nat))]):=by rw [←hV,B8,Ax];rfl
  refine L8 (pd:=none) (fr:=FR) (sz:=11) (ps:=#[6,7]) (df:=oid Hp.length 1) (asg:=as') (bd:=bd') hL rfl (by decide) (fun d=>?_)
  subst hFR has hbd
  refine G9 [3,6,7] ?_;refine N7 ?_
  refine ⟨rfl,none,hL,?_⟩
  generalize hbz:(AObj.loop LoopState.busy _ _ _ _ _ _ _)=bz
  have hA:(V.set (oid Hp.length 2) bz)[oid Hp.length 0]? = some (AObj.cells 3 [A3 ((k:Nat))]):=by rw [Bx (Cb (by decide))];exact hA0
  refine Lo ?_;refine Hj ?_
  refine A5 (h:=Bh hA) (hr:=?_)
  refine A5 ?_
  refine Dp jS hA ?_ ?_
  ·simp
  refine Vz ?_
  subst hbz
  refine K.rdN (iw hL (Cb (by decide))) ?_
  refine ⟨rfl,?_⟩
  rw [if_pos rfl]
  subst hV
  simp only [B8,Dm,E9,E5,List.set_cons_succ,List.set_cons_zero]
  rfl
 intro r H' hq
 obtain rfl:=si hq
 refine ⟨Hp,_,_,_,rfl,rfl,fun h=>h,?_,rfl,by simp,?_⟩
 ·intro o ho
  have:o=oid Hp.length 1:=by simpa using ho
  subst this
  rw [Ax]
  rfl
 refine Z11 ?_;refine Z1 ?_;refine Z4 ?_;exact Aa (Ai A7) ⟨by rw [H7],rfl⟩

theorem Yb {l:List Tok} (hl:TokEnd l) (hll:l.length≤1048576) {i:Nat} (hi:i<l.length):Fact l ⟨i,0,0,0⟩ (atR l i):=(Ui hl hll 31 0 rfl (by decide)).1 ⟨i,0,0,0⟩ hi rfl
theorem AJ5 {l:List Tok} {i:Nat} (hi:i<l.length) (hl:TokEnd l) (hll:l.length≤1048576) (hcl:∀n Dv,n≤30→DeepC l Dv n→kw l Dv n) (o:Nat) (Hp:List AObj) (ho:Hp[o]? = some (pr l ⟨i,0,0,0⟩)):ACall Tryz.prog 154 [.ptr o 0] Hp (fun r H'=>r=A8 (atR l i).1∧H'=Hp.set o (pr l (atR l i).2)):=(kx hl hll hcl 31 0 rfl (by decide)).1 o Hp ⟨i,0,0,0⟩ ho hi rfl
theorem ky {l:List Tok} (hl:TokEnd l):(Af l (l.length-1)).kind=0:=by
 obtain ⟨L,z,rfl,hz,_⟩:=hl.split
 unfold Af
 simp [hz]
theorem AN0 (l:List Tok) (i:Nat) (hi:i<l.length) (hl:TokEnd l) (hll:l.length≤500000) (hcl:∀n Dv,n≤30→DeepC l Dv n→kw l Dv n) (Hp:List AObj):AFun Tryz.prog 120 [rn l,A3 (i:Int)] Hp (.tup [A8 (atM l i).1,A3 (atM l i).2.1,.agg [A3 (atM l i).2.2.1,A3 (atM l i).2.2.2]]):=by
 have hmap:(l.map Id).length=l.length:=An ..
 have hll1:l.length≤1048576:=by omega
 have hq:=Yb hl hll1 hi
 have hlast:=ky hl
 have hpos:=hl.pos
 have hqlt:=hq.lt
 have hqs:=hq.sz
 have hok0:okE 1048576 (atR l i).1:=Hl (by have:=hq.lt;omega) hq.ok
 have hsz0:sizeE (atR l i).1≤1048576:=by have:=hq.sz;have:=hq.lt;omega
 refine Ae [.cell 4 27,.tmp 5,.cell 6 73] [0,1] Tryz.func120 Tryz.ntmps120 (fun d=>?_)
 refine jd ?_;refine P1 ?_;refine A2 [0,1,4,6] ?_;refine Z30 ?_;refine Qi ?_;refine Z85 ?_
 refine Cp (h:=Ah ((l.length-1)) (Id (Af l (l.length-1))) (fun _=>Mf (by omega))) (hr:=?_)
 refine Z6 ?_;refine Z53 ?_;refine A2 [0,1,4,6,26] ?_
 refine A4 (fun ht26=>?_) (fun ht26=>?_)
 ·simp only [Cx,decide_eq_true_eq,bne_iff_ne,ne_eq] at ht26
  rcases ht26 with (h|h)|h
  ·omega
  ·simp at h;omega
  exact absurd hlast h
 refine Ni ?_;refine Ou (places:=#[(0,1),(1,1),(2,1),(3,2)]) jU (fun w=>by simp) jZ ?_;refine R.box ?_;refine A5 ?_;refine A2 [0,1,4,6,7] ?_;refine Z2 ?_
 refine Tu (n:=2) (x:=pr l (atR l i).2) Tryz.call154 (AJ5 hi hl hll1 hcl (oid Hp.length 2) _ (by rw [Ax];rfl)) ?_
 refine Z14 ?_;refine A2 [0,1,4,6,7,8] ?_
 refine W.join ⟨81,A6 4 (.ptr (oid Hp.length 0) 0) (A6 6 (.ptr (oid Hp.length 1) 0) (A6 7 (.ptr (oid Hp.length 2) 0) (A6 8 (.ptr (oid Hp.length 3) 0) (fun _=>.any)))),Hp,[.cells 27 [A3 0,Ac [],A3 0,A3 0,Ac [],.nil],.cells 73 [A3 0,A3 0],pr l (atS l i (atR l i)),.cells 27 (El (atR l i).1)],[],none⟩ ?_ ?_
 ·refine Lo ?_;refine Z23 ?_;refine Z12 ?_;refine A2 [0,1,4,6,7,8,35] ?_
  refine A4 (fun ht35=>?_) (fun ht35=>?_)
  ·have e:atS l i (atR l i)=(atR l i).2:=if_pos ht35
   refine G9 [4,6,7,8] ?_;refine vf ?_;exact AE6
  have e0:¬((atR l i).2.code != 0)=true:=by rw [ht35];simp
  refine Z2 ?_;refine A9 Tryz.call155 (APk 1048576 _ hok0 (Aj _) hsz0 _) ?_;refine Z0 ?_;refine A2 [0,1,4,6,7,8,42] ?_
  refine A4 (fun ht42=>?_) (fun ht42=>?_)
  ·have e:atS l i (atR l i)=Ey 18 (Af l i).at_ (atR l i).2:=by unfold atS;rw [if_neg e0,if_pos ht42]
   refine Z47 ?_
   refine A5 (h:=Ah (i) (Id (Af l i)) (fun _=>Mf hi)) (hr:=?_)
   refine Z0 ?_
   refine Tu (n:=2) (x:=pr l (Ey 18 (Af l i).at_ (atR l i).2)) Tryz.call156 (wp l (atR l i).2 18 (Af l i).at_ (oid Hp.length 2) _ (by rw [Ax];rfl)) ?_
   refine A2 [4,6,7,8] ?_;refine M9 ?_;exact AE6
  have e1:¬decide ((30:Int)<depthE (atR l i).1)=true:=by rw [ht42];simp
  refine Z2 ?_;refine A9 Tryz.call157 (APl 1048576 _ hok0 (Aj _) hsz0 _) ?_;refine Z0 ?_;refine A2 [0,1,4,6,7,8,53] ?_
  refine A4 (fun ht53=>?_) (fun ht53=>?_)
  ·have e:atS l i (atR l i)=Ey 3 (Af l i).at_ (atR l i).2:=by unfold atS;rw [if_neg e0,if_neg e1,if_pos ht53]
   refine Z47 ?_
   refine A5 (h:=Ah (i) (Id (Af l i)) (fun _=>Mf hi)) (hr:=?_)
   refine Z0 ?_
   refine Tu (n:=2) (x:=pr l (Ey 3 (Af l i).at_ (atR l i).2)) Tryz.call156 (wp l (atR l i).2 3 (Af l i).at_ (oid Hp.length 2) _ (by rw [Ax];rfl)) ?_
   refine A2 [4,6,7,8] ?_;refine M9 ?_;exact AE6
  have e:atS l i (atR l i)=(atR l i).2:=by unfold atS;rw [if_neg e0,if_neg e1,if_neg (by rw [ht53];simp)]
  refine G9 [4,6,7,8] ?_;refine vf ?_;exact AE6
 refine Z7 ?_;refine Z58 ?_;refine A2 [4,6,7,8,69] ?_
 refine A4 (fun ht69=>?_) (fun ht69=>?_)
 ·have e:atM l i=(Av,0,(atS l i (atR l i)).code,(atS l i (atR l i)).at_):=if_pos ht69
  refine Fj [0,0,2,6,14,1,33,127] [5] [.q 5 [] [],.s [] (some 0) [] [],.q 1 [0] []] (fun _=>Hp) (fun _=>[.cells 27 [A3 0,Ac [],A3 0,A3 0,Ac [],.nil],.cells 73 [A3 0,A3 0],pr l (atS l i (atR l i)),.cells 27 (El (atR l i).1)]) Ak (by kernel_rfl) rfl rfl (fun _=>rfl) ?_
  apply Y.q
  ·intro B hT hF
   refine D.build (places:=#[(0,1),(1,1),(2,3),(5,1)]) jU (fun w=>by simp) jZ ?_;exact j6
  case hTF=>decide
  refine Y.storeOwn (u:=Hp.length) (n:=0) (t':=27) (cs:=[A3 0,Ac [],A3 0,A3 0,Ac [],.nil]) (cs':=[A3 0,Ac [],A3 0,A3 0,Ac [],.nil]) Tryz.sizeOf27 (fun B hB=>⟨rfl,rfl,rfl,rfl⟩) ?_
  apply Y.q
  ·intro B hT hF
   exact Z56
  case hTF=>decide
  refine Er (tn:=[5])  ?_;refine H5 0 5 6 ?_;refine Gs ?_;refine A2 [4,5,6] ?_;refine Z34 ?_;exact Aa (V.three (B4 jA jS) A7 (B4 jA jS)) ⟨by rw [e,ABs]<;>rfl,rfl⟩
 have e:atM l i=((atR l i).1,((atS l i (atR l i)).i:Int),0,0):=if_neg (by rw [ht69];simp)
 refine Z3 ?_;refine Fj [0,0,2,6,14,0,1,95,255] [6] [.q 6 [] [],.s [] (some 0) [] [],.q 1 [0] []] (fun _=>Hp) (fun B=>[.cells 27 (if B 0=true then El (atR l i).1 else [A3 0,Ac [],A3 0,A3 0,Ac [],.nil]),.cells 73 [A3 0,A3 0],pr l (atS l i (atR l i)),.cells 27 (El (atR l i).1)]) Ak (by kernel_rfl) rfl rfl (fun _=>rfl) ?_
 apply Y.q
 ·intro B hT hF
  refine Z8 ?_;refine Z33 ?_;exact AKy
 case hTF=>decide
 refine Y.storeOwn (u:=Hp.length) (n:=0) (t':=27) (cs:=[A3 0,Ac [],A3 0,A3 0,Ac [],.nil]) (cs':=El (atR l i).1) Tryz.sizeOf27 (fun B hB=>⟨rfl,by simp only [hB];rfl,by simp [upd],rfl⟩) ?_
 apply Y.q
 ·intro B hT hF
  exact Z56
 case hTF=>decide
 refine Er (tn:=[6]) (O:=[.cells 27 (El (atR l i).1),.cells 73 [A3 0,A3 0],pr l (atS l i (atR l i)),.cells 27 (El (atR l i).1)]) ?_;refine Gs ?_;refine A2 [4,5,6] ?_;refine G5 ?_;exact Aa (V.three (B4 jA jS) A7 (B4 jA jS)) ⟨by rw [e,Al]<;>rfl,rfl⟩ (hlow:=by have:=low_agg (n:=Hp.length) (atR l i).1;simp at this ⊢;exact this)

theorem sj {s:Str} (h:(Bi s).2.1=0):(Bi s).1.length≤4002:=by
 obtain ⟨h1,_,h3⟩:=AF3 h
 have h2:=Xn s
 rw [h3]
 simp only [At,An,B2,Bz]
 omega
theorem gr {l:List Tok} (hl:TokEnd l) (hll:l.length≤1048576) {i:Nat} (hi:i<l.length) (h:(atM l i).2.2.1=0):∃k:Nat,(atM l i).2.1=(k:Int)∧k<l.length:=by
 have hq:=Yb hl hll hi
 unfold atM at h ⊢
 split at h
 ·rename_i h1
  have:(atS l i (atR l i)).code=0:=h
  rw [this] at h1
  cases h1
 rename_i h1
 rw [if_neg h1]
 refine ⟨(atS l i (atR l i)).i,rfl,?_⟩
 have e:(atS l i (atR l i)).i=(atR l i).2.i:=by
  unfold atS
  repeat' split
  all_goals first|rfl|exact failM_i.1
 rw [e]
 exact hq.lt
theorem Qt {α:Type} {a b:List α} (hl:a.length=b.length) (h:∀(j:Nat) (y:α),j<a.length→a[j]? = some y→b[j]? = some y):a=b:=by
 apply mz hl
 intro j h1 h2
 have:=h j a[j] h1 (Ab h1)
 rw [Ab h2] at this
 injection this with this
 exact this.symm
theorem D5 {n k:Nat} {o:Bool} {l:List Expr}:Low n (.slice o k (l.map A8)):=low_slice.2 fun y hy=>by
 obtain ⟨a,_,rfl⟩:=C3.1 hy
 exact Am _ a
theorem wt {l:List Expr} {n f:Nat} (h0:l.isEmpty=false) (h:Qr l n=true):Hn f l n=true:=by
 cases f with
 | zero=>rw [Hn,h0];rfl
 | succ f=>rw [Hn,if_neg (by rw [h0];simp),if_pos h]
theorem AFj {l:List Expr} {n y:Nat} (hy:y<l.length) (h:500<n+y+1∨Ue l[y]=true):Qr l n=true:=by
 unfold Qr
 rcases h with h|h
 ·rw [decide_eq_true (by omega)];rfl
 rw [Fi.2 ⟨_,Bf hy,h⟩,L2]
theorem Yc {l:List Expr}:∀(y:Nat),y≤l.length→(∀(j:Nat) (e:Expr),j<y→l[j]? = some e→Ue e=false)→((l.take y).flatMap Expr.kids).length≤100*y
 | 0,_,_=>by simp
 | y+1,hy,h=>by
  rw [Kl hy,List.flatMap_append,At]
  have h1:=Yc y (by omega) (fun j e hj he=>h j e (by omega) he)
  have h2:=gm (h y l[y] (by omega) (Ab _))
  simp only [dn,List.flatMap_nil,Gm]
  omega
structure WideAt (l0:List Expr) (x:List Expr×Nat×Nat):Prop where
 eq:Hn 61 l0 0=Hn x.2.2 x.1 x.2.1
 f:x.2.2≤61
 n:x.2.1≤500
theorem c73 (l0:List Expr) (Hp:List AObj):AFun Tryz.prog 73 [.slice false 6 (l0.map A8),A3 0] Hp (B0 (Hn 61 l0 0)):=by
 refine Ae [.tmp 4] [0,1] Tryz.func73 Tryz.ntmps73 (fun d=>?_)
 refine Z37 ?_;refine Z2 ?_;refine Zs ?_;refine K9 ?_
 refine Bg (α:=List Expr×Nat×Nat) (fun x=>⟨67,A6 0 (.slice false 6 (x.1.map A8)) (A6 1 (A3 (61-(x.2.2:Int))) (A6 5 (A3 (x.2.1:Nat)) (fun _=>.any))),Hp,[],[],none⟩) (fun x=>WideAt l0 x) (fun x=>x.2.2) ((l0,0,61)) ⟨rfl,Aj _,Aq _⟩ (Bl (by simp)) rfl (fun x hx=>?_)
 refine Z30 ?_;refine A2 [0,1,5,10] ?_
 refine A4 (fun ht10=>?_) (fun ht10=>?_)
 ·have hpos:0<x.1.length:=by simpa using ht10
  have hne:x.1.isEmpty=false:=by cases hxx:x.1 with
   | nil=>rw [hxx] at hpos;simp at hpos
   | cons a r=>rfl
  have hxf:=hx.f
  refine AAa ?_;refine Z40 ?_;refine I0 ?_;refine A2 [0,1,5,6] ?_;refine Z31 ?_;refine A2 [0,1,5,6,7] ?_
  refine Bg (α:=Nat) (fun y=>⟨67,A6 0 (.slice false 6 (x.1.map A8)) (A6 1 (A3 (61-(x.2.2:Int))) (A6 5 (A3 ((x.2.1+y:Nat):Int)) (A6 6 (.slice true 6 (((x.1.take y).flatMap Expr.kids).map A8)) (A6 7 (A3 (y:Nat)) (fun _=>.any))))),Hp,[],[],none⟩) (fun y=>y≤x.1.length∧x.2.1+y≤500∧∀(j:Nat) (e:Expr),j<y→x.1[j]? = some e→Ue e=false) (fun y=>x.1.length-y) (0) ⟨Aq _,hx.n,fun j e h=>by omega⟩ (Bl (by simp)) rfl (fun y hy=>?_)
  refine Z88 ?_;refine A2 [0,1,5,6,7,15] ?_
  refine A4 (fun ht15=>?_) (fun ht15=>?_)
  ·have hlt:y<x.1.length:=by simpa using ht15
   have hyn:=hy.2.1
   refine vj ?_;refine A2 [0,1,5,6,7] ?_;refine Z30 ?_;refine Z6 ?_
   refine Cp (h:=Ah (y) (A8 x.1[y]) (fun _=>B7 hlt)) (hr:=?_)
   refine Qi ?_;refine Z36 ?_
   refine Cp (h:=Ah (y) (A8 x.1[y]) (fun _=>B7 hlt)) (hr:=?_)
   refine Z6 ?_;refine Z73 ?_;refine Z36 ?_
   refine Cp (h:=Ah (y) (A8 x.1[y]) (fun _=>B7 hlt)) (hr:=?_)
   refine Qi ?_;refine A5 ?_;refine A2 [0,1,5,6,7,49] ?_
   refine A4 (fun ht49=>?_) (fun ht49=>?_)
   ·have hm:Qr x.1 x.2.1=true:=AFj hlt (by
     simp only [Cx,decide_eq_true_eq,An] at ht49
     unfold Ue
     simp only [Cx,decide_eq_true_eq]
     omega)
    have hw:=wt (f:=x.2.2) hne hm
    refine Z48 ?_;refine Ck ?_;refine Z51 ?_;refine vg ?_;exact AL9
   have hfat:Ue x.1[y]=false∧x.2.1+y+1≤500:=by
    simp only [E3,decide_eq_false_iff_not,An] at ht49
    unfold Ue
    simp only [E3,decide_eq_false_iff_not]
    omega
   have hkl:=(gm hfat.1).2.2
   have hfm:(x.1.take (y+1)).flatMap Expr.kids=(x.1.take y).flatMap Expr.kids++x.1[y].kids:=by rw [Kl hlt,List.flatMap_append];simp
   refine Z3 ?_;refine fe ?_;refine Z0 ?_
   refine A5 (h:=Ah (y) (A8 x.1[y]) (fun _=>B7 hlt)) (hr:=?_)
   refine Z0 ?_
   refine Ek jU Tryz.type27 ?_ ?_ ?_
   ·have h1:=Yc y hy.1 hy.2.2;have h2:=hkl;have h3:=hy.2.1;simp only [An,Tryz.t27];omega
   ·have h1:=Yc y hy.1 hy.2.2;have h2:=hkl;have h3:=hy.2.1;simp only [An,Tryz.t27];omega
   refine I0 ?_;refine A2 [0,1,5,6,7] ?_;refine Z11 ?_;refine Z47 ?_;refine A2 [0,1,5,6,7] ?_
   refine Bm (y+1) ⟨hlt,by omega,D3 hlt hy.2.2 hfat.1⟩ (by omega) (Ds ?_)
   rw [hfm,Bj]
   rfl
  have hye:x.1.take y=x.1:=Ej (by simp at ht15;omega)
  have hyl:y=x.1.length:=by have:=hy.1;simp at ht15;omega
  have hmany:Qr x.1 x.2.1=false:=by
   unfold Qr
   rw [decide_eq_false (by have:=hy.2.1;omega),F1,If]
   intro e he
   obtain ⟨j,hj⟩:=C6 he
   rw [hy.2.2 j e (by have:=(Ad.1 hj).1;omega) hj]
   simp
  refine Sc ?_;refine Z7 ?_;refine Z36 ?_;refine A5 ?_;refine A2 [1,5,6,63] ?_
  refine A4 (fun ht63=>?_) (fun ht63=>?_)
  ·have hw:Hn x.2.2 x.1 x.2.1=true:=by
    have h9:=ht63
    rw [hye] at h9
    simp only [Cx,decide_eq_true_eq,An] at h9
    cases hf:x.2.2 with
    | zero=>rw [Hn,hne];rfl
    | succ f =>
     rw [Hn,if_neg (by rw [hne];simp),if_neg (by rw [hmany];simp),if_pos (by rw [decide_eq_true_eq];omega)]
   refine Z48 ?_;refine Ck ?_;refine vg ?_;exact AL9
  have h9:=ht63
  rw [hye] at h9
  simp only [E3,decide_eq_false_iff_not,An] at h9
  obtain ⟨f,hf⟩:∃f,x.2.2=f+1:=⟨x.2.2-1,by omega⟩
  have hw:Hn x.2.2 x.1 x.2.1=Hn f (x.1.flatMap Expr.kids) (x.2.1+x.1.length):=by
   rw [hf,Hn,if_neg (by rw [hne];simp),if_neg (by rw [hmany];simp),if_neg (by rw [decide_eq_true_eq];omega)]
  refine Ni ?_;refine Zs ?_;refine Z47 ?_;refine Zs ?_;refine M9 ?_
  refine Bm (x.1.flatMap Expr.kids,x.2.1+x.1.length,f) ⟨hx.eq.trans hw,by show f≤61;omega,by show x.2.1+x.1.length≤500;have:=hy.2.1;omega⟩ (by show f<x.2.2;omega) (Ds ?_)
  rw [hye,hyl]
  congr 4
  simp only [AV.v.injEq,Value.int.injEq,true_and]
  omega
 have hnil:x.1=[]:=by have:=ht10;simp at this;exact this
 refine Sc ?_;refine Z48 ?_;exact Aa (Ai A7) ⟨by rw [hx.eq,hnil];cases x.2.2<;>rfl,rfl⟩

theorem c31 (e:Expr) (Hp:List AObj):AFun Tryz.prog 31 [A8 e] Hp (B0 (Pb e)):=by
 refine Ae [.tmp 2] [0] Tryz.func31 Tryz.ntmps31 (fun d=>?_)
 refine Z97 ?_;refine Z2 ?_;refine Sd ?_;refine A9 Tryz.call73 (c73 [e] _) ?_;refine A5 ?_;exact AEa

set_option maxRecDepth 8000
/-! What a tree comes to: eval's model. -/
abbrev Rs:=Val×Int
def Dd (e:Int):Rs:=(noV,e)
def af (s:Str):Val:=⟨2,0,s.take 200⟩
def I3 (x:Int×Int):Rs:=if x.2 != 0 then Dd x.2 else (⟨1,x.1,[]⟩,0)
def pg (a b:Int):Int×Int:=if decide (au .i64 (V1 .i64 a (IntKind.i64.wrap (a+b))) (V1 .i64 b (IntKind.i64.wrap (a+b)))<0) then (0,4) else (IntKind.i64.wrap (a+b),0)
def No (a b:Int):Int×Int:=if decide (au .i64 (V1 .i64 a b) (V1 .i64 a (IntKind.i64.wrap (a-b)))<0) then (0,4) else (IntKind.i64.wrap (a-b),0)
def Vh (a:Int):Int:=if decide (a<0) then IntKind.u64.wrap (0-IntKind.u64.wrap a) else IntKind.u64.wrap a
def Dk:List Val→List Int→Bool
 | _,[]=>true
 | [],_::_=>false
 | v::vs,k::ks=>(v.kind==k)&&Dk vs ks
def Pe (a b:Val):Rs:=if !Dk [a,b] [2,2] then Dd 10 else if decide ((200:Int)<(a.s.length:Int)+(b.s.length:Int)) then Dd 3 else (af (a.s++b.s),0)
def B9 (r:Rs):Rs:=if (r.2==0)&&(r.1.kind != 0)&&(r.1.kind != 3) then Dd 10 else r
def Is (strong:Val) (a b:Rs):Rs:=if ((B9 a).2 != 0) || ((B9 a).1==strong) then B9 a else if (((B9 b).2 != 0) || ((B9 b).1==strong)) || ((B9 a).1.kind != 0) then B9 b else ((B9 a).1,0)
def ifW:Str:=[105,102]
def Ul:Str:=[110,118,108]
def C8:Str:=[105,115,110,117,108,108]
def Fa (t:Str) (a b c:Rs):Rs:=
 if t==ifW then (if (B9 a).2 != 0 then Dd (B9 a).2 else if (B9 a).1==J4 true then b else c)
 else if a.2 != 0 then Dd a.2 else if t==C8 then (J4 (a.1.kind==0),0) else if a.1.kind != 0 then (a.1,0) else b
def Mh (strict:List Val→Rs) (l:List Rs):Rs:=match l.find? (fun q=>q.2 != 0) with|some q=>Dd q.2|none=>if l.any (fun q=>q.1.kind==0) then (noV,0) else strict (l.map (·.1))
def Pf (c:List Col) (l:List Val) (t:Str):Rs:=if Ay t c<0 then Dd 9 else (l.getD (Ay t c).toNat noV,0)
def orW:Str:=[111,114]
def gt:Str:=[97,110,100]
/-- A node, of what its kids come to; what a strict node comes to is a parameter. -/
def K3 (strict:Int→Str→List Val→Rs) (c:List Col) (l:List Val) (o:Int) (t:Str) (v:Val) (ks:List Rs):Rs:=
 if o==1 then (v,0) else if o==2 then Pf c l t
 else if (o==5)&&(t==orW) then Is (J4 true) (ks.getD 0 (noV,0)) (ks.getD 1 (noV,0))
 else if (o==5)&&(t==gt) then Is (J4 false) (ks.getD 0 (noV,0)) (ks.getD 1 (noV,0))
 else if (o==6)&&(((t==ifW) || (t==Ul)) || (t==C8)) then Fa t (ks.getD 0 (noV,0)) (ks.getD 1 (noV,0)) (ks.getD 2 (noV,0))
 else Mh (strict o t) ks
mutual
def Fk (strict:Int→Str→List Val→Rs) (c:List Col) (l:List Val):Expr→Rs
 | .mk o t v k=>K3 strict c l o t v (bw strict c l k)
def bw (strict:Int→Str→List Val→Rs) (c:List Col) (l:List Val):List Expr→List Rs
  | []=>[]
  | e::r=>Fk strict c l e::bw strict c l r
 end
theorem L0 (f:Int→Str→List Val→Rs) (c:List Col) (l:List Val):∀k,bw f c l k=k.map (Fk f c l)
 | []=>rfl
 | e::r=>by rw [bw,L0 f c l r];rfl
theorem Mu (f:Int→Str→List Val→Rs) (c:List Col) (l:List Val) (e:Expr):Fk f c l e=K3 f c l e.op e.text e.val (e.kids.map (Fk f c l)):=by cases e;rw [Fk,L0];rfl
def F9 (c:List Col) (l:List Val):Bool:=(Io c&&(l.length==c.length))&&(l.zip c).all fun p=>Ec p.1&&((p.1.kind==0) || (p.1.kind==p.2.kind))
/-- eval.Eval. -/
def Sr (f:Int→Str→List Val→Rs) (x:Expr) (c:List Col) (l:List Val):Rs:=if (!(Au x)) || !(F9 c l) then Dd 1 else Fk f c l x
/-! A tree in a column's place comes to what its value would there. -/
/-! Who is not named plays no part. -/
/-! What a strict node comes to. -/
def Yd (a b:Int):Int×Int:=
 let p:=Vh a*Vh b
 let below:=decide (a<0) != decide (b<0)
 if decide (0<p / 18446744073709551616) || decide ((if below then 9223372036854775808 else 9223372036854775807)<p % 18446744073709551616) then (0,4)
 else if below then (IntKind.i64.wrap (IntKind.u64.wrap (0-p % 18446744073709551616)),0) else (IntKind.i64.wrap (p % 18446744073709551616),0)
def ph (a b:Int):Int×Int:=if b==0 then (0,5) else if (a == -9223372036854775808)&&(b == -1) then (0,4) else (IntKind.i64.wrap (a.tdiv b),0)
def ag (a b:Int):Int×Int:=if b==0 then (0,5) else if b == -1 then (0,0) else (IntKind.i64.wrap (a.tmod b),0)
def Jg (t:Str) (a b:Int):Int×Int:=if t==[43] then pg a b else if t==[45] then No a b else if t==[42] then Yd a b else if t==[47] then ph a b else ag a b
def I7 (t:Str) (c:Int):Bool×Bool:=if t==[61] then (c==0,true) else if t==[33,61] then (c != 0,true) else if t==[60] then (decide (c<0),true) else if t==[60,61] then (decide (c≤0),true) else if t==[62] then (decide (0<c),true) else if t==[62,61] then (decide (0≤c),true) else (false,false)
def Ob (a b:Int):Int:=if decide (a<b) then -1 else if decide (b<a) then 1 else 0
def orI:List Int→Int
 | []=>0
 | a::r=>if a != 0 then a else orI r
def kz (a b:Val):Int:=if (!(Ec a)) || !(Ec b) then 0 else orI [Ob a.kind b.kind,Ob a.n b.n,Lib.compareBytes a.s b.s]
def Mv (t:Str) (a b:Val):Rs:=if (I7 t (kz a b)).2 then (if a.kind != b.kind then Dd 10 else (J4 (I7 t (kz a b)).1,0)) else if t==[38] then Pe a b else if !Dk [a,b] [1,1] then Dd 10 else I3 (Jg t a.n b.n)
def J7 (t:Str) (v:Val):Rs:=if (t==[115,116,114])&&(v.kind==1) then (af (Lib.itoa v.n),0) else if (t==[108,101,110])&&(v.kind==2) then (⟨1,v.s.length,[]⟩,0) else if (t==[110,117,109])&&(v.kind==2) then I3 (Cq v.s) else Dd 10
def Pg (t:Str) (s:Str) (n:Int):Val:=if t==[108,101,102,116] then af (s.take (max 0 (min n s.length)).toNat) else af (s.drop (s.length-(max 0 (min n s.length)).toNat))
def B1 (o:Int) (t:Str) (l:List Val):Rs:=
 if o==5 then Mv t (l.getD 0 noV) (l.getD 1 noV) else if (o==3)&&Dk l [1] then I3 (No 0 (l.getD 0 noV).n) else if (o==4)&&Dk l [3] then (J4 ((l.getD 0 noV).n==0),0)
 else if o != 6 then Dd 10 else if (l.length:Int)==1 then J7 t (l.getD 0 noV) else if !Dk l [2,1] then Dd 10 else (Pg t (l.getD 0 noV).s (l.getD 1 noV).n,0)
abbrev Bw (c:List Col) (l:List Val) (e:Expr):Rs:=Fk B1 c l e
abbrev Br (x:Expr) (c:List Col) (l:List Val):Rs:=Sr B1 x c l
/-! Values are plain, and their numbers have 64 bits. -/
structure Fine (v:Val):Prop where
 plain:Ec v=true
 lo : -9223372036854775808≤v.n
 hi:v.n≤9223372036854775807
theorem Np:Fine noV:=⟨rfl,by decide,by decide⟩
theorem Um (b:Bool):Fine (J4 b):=by cases b<;>exact ⟨rfl,by decide,by decide⟩
theorem l3 {n:Int} (h0 : -9223372036854775808≤n) (h1:n≤9223372036854775807):Fine ⟨1,n,[]⟩:=⟨rfl,h0,h1⟩
theorem Ye (s:Str):Fine (af s):=⟨by
 unfold Ec af
 simp only [show ((2:Int)==0)=false from rfl,show ((2:Int)==1)=false from rfl,show ((2:Int)==2)=true from rfl,Bd,if_false,if_true,show ((0:Int)==0)=true from rfl,Qz,decide_eq_true_eq,C0]
 omega,by show -9223372036854775808≤(0:Int);decide,by show (0:Int)≤9223372036854775807;decide⟩
theorem Fine.len {v:Val} (h:Fine v):v.s.length≤200:=by
 have h:=h.plain
 unfold Ec at h
 split at h
 ·simp only [Ao,beq_iff_eq] at h;rw [h.2];exact Aq _
 split at h
 ·rw [beq_iff_eq] at h;rw [h];exact Aq _
 split at h
 ·simp only [Ao,decide_eq_true_eq] at h;omega
 simp only [Ao,beq_iff_eq] at h;rw [h.1.1.2];exact Aq _
theorem Rk {x:Int×Int} (h0:x.2=0 → -9223372036854775808≤x.1) (h1:x.2=0→x.1≤9223372036854775807):Fine (I3 x).1:=by
 unfold I3
 split
 ·exact Np
 rename_i h
 have h:x.2=0:=by simpa using h
 exact l3 (h0 h) (h1 h)
theorem Yf (e:Int):Fine (Dd e).1:=Np
theorem Nq (n:Int) : -9223372036854775808≤IntKind.i64.wrap n∧IntKind.i64.wrap n≤9223372036854775807:=by rw [IntKind.wrap_i64];omega
theorem ABu (a b:Int):Fine (I3 (No a b)).1:=by
 refine Rk (fun _=>?_) (fun _=>?_)<;>unfold No<;>split
 ·show -9223372036854775808≤(0:Int);decide
 ·exact (Nq _).1
 ·show (0:Int)≤9223372036854775807;decide
 exact (Nq _).2
theorem l4 (t:Str) (a b:Int) : -9223372036854775808≤(Jg t a b).1∧(Jg t a b).1≤9223372036854775807:=by
 have z : -9223372036854775808≤(0:Int)∧(0:Int)≤9223372036854775807:=by decide
 unfold Jg
 split
 ·unfold pg;split;exact z;exact Nq _
 split
 ·unfold No;split;exact z;exact Nq _
 split
 ·unfold Yd
  simp only
  repeat' split
  all_goals first|exact z|exact Nq _
 split
 ·unfold ph;split;exact z;split;exact z;exact Nq _
 unfold ag;split;exact z;split;exact z;exact Nq _
theorem ABv {t:Str} {a b:Val}:Fine (Mv t a b).1:=by
 unfold Mv
 split
 ·split
  ·exact Zt
  exact Um _
 split
 ·unfold Pe
  split
  ·exact Zt
  split
  ·exact Zt
  exact Ye _
 split
 ·exact Zt
 exact Rk (fun _=>(l4 _ _ _).1) (fun _=>(l4 _ _ _).2)
theorem ABw (s:Str) : -9223372036854775808≤(Cq s).1∧(Cq s).1≤9223372036854775807:=by
 unfold Cq
 split
 ·decide
 split
 ·rename_i v h
  have:=Lib.parseIntB_bounds h
  simp only [show ((2 ^ (64-1):Nat):Int)=9223372036854775808 by decide] at this
  show -9223372036854775808≤v∧v≤9223372036854775807
  omega
 ·decide
 decide
theorem ABx {t:Str} {v:Val} (h:Fine v):Fine (J7 t v).1:=by
 unfold J7
 split
 ·exact Ye _
 split
 ·have:=h.len
  exact l3 (by omega) (by omega)
 split
 ·exact Rk (fun _=>(ABw _).1) (fun _=>(ABw _).2)
 exact Zt
theorem l5 {o:Int} {t:Str} {l:List Val} (h:∀v∈l,Fine v):Fine (B1 o t l).1:=by
 have h0:Fine (l.getD 0 noV):=by cases l with|nil=>exact Np|cons a r=>exact h a Gw
 unfold B1
 split
 ·exact ABv
 split
 ·exact ABu _ _
 split
 ·exact Um _
 split
 ·exact Zt
 split
 ·exact ABx h0
 split
 ·exact Zt
 unfold Pg
 split<;>exact Ye _
theorem Rl {r:Rs} (h:Fine r.1):Fine (B9 r).1:=by
 unfold B9
 split
 ·exact Zt
 exact h
theorem Yg {s:Val} {a b:Rs} (ha:Fine a.1) (hb:Fine b.1):Fine (Is s a b).1:=by
 unfold Is
 split
 ·exact Rl ha
 split
 ·exact Rl hb
 exact Rl ha
theorem wu {t:Str} {a b c:Rs} (ha:Fine a.1) (hb:Fine b.1) (hc:Fine c.1):Fine (Fa t a b c).1:=by
 unfold Fa
 repeat' split
 all_goals first|exact Yf _|exact hb|exact hc|exact ha|exact Um _
theorem ABy {f:List Val→Rs} {l:List Rs} (hf:∀k:List Val,(∀v∈k,Fine v)→Fine (f k).1) (h:∀r∈l,Fine r.1):Fine (Mh f l).1:=by
 unfold Mh
 split
 ·exact Zt
 split
 ·exact Np
 refine hf _ fun v hv=>?_
 obtain ⟨r,hr,rfl⟩:=C3.1 hv
 exact h r hr
theorem wv {c:List Col} {l:List Val} (h:∀v∈l,Fine v) (t:Str):Fine (Pf c l t).1:=by
 unfold Pf
 split
 ·exact Zt
 show Fine (l.getD _ noV)
 rw [Cc]
 cases hg:l[(Ay t c).toNat]? with
 | none=>exact Np
 | some v=>exact h v (Aw hg)
def Mw (e:Expr):Bool := !(e.op==1) || Ec e.val
theorem Jh {k:List Rs} (h:∀r∈k,Fine r.1) (i:Nat):Fine (k.getD i (noV,0)).1:=by
 rw [Cc]
 cases hg:k[i]? with
 | none=>exact Np
 | some r=>exact h r (Aw hg)
mutual
theorem Un {c:List Col} {l:List Val} (h:∀v∈l,Fine v):∀e:Expr,Dq Mw e=true→Dq Ge e=true→Fine (Bw c l e).1
 | .mk o t v k,h1,h2=>by
  rw [Dq,Ao] at h1 h2
  have hk:=Yh (c:=c) h k h1.2 h2.2
  rw [Bw,Fk]
  unfold K3
  split
  ·rename_i ho
   have p:=h1.1
   unfold Mw at p
   rw [show (Expr.mk o t v k).op=o from rfl,ho] at p
   have q:=h2.1
   unfold Ge at q
   simp only [Ao,decide_eq_true_eq] at q
   exact ⟨by show Ec (Expr.mk o t v k).val=true;simpa using p,q.1,q.2⟩
  split
  ·exact wv h t
  split
  ·exact Yg (Jh hk 0) (Jh hk 1)
  split
  ·exact Yg (Jh hk 0) (Jh hk 1)
  split
  ·exact wu (Jh hk 0) (Jh hk 1) (Jh hk 2)
  exact ABy (fun _ hl=>l5 hl) hk
theorem Yh {c:List Col} {l:List Val} (h:∀v∈l,Fine v):∀k:List Expr,Mr Mw k=true→Mr Ge k=true→∀r∈bw B1 c l k,Fine r.1
  | [],_,_=>fun r hr=>by cases hr
  | e::k,h1,h2=>by
    rw [Mr,Ao] at h1 h2
    intro r hr
    rw [bw] at hr
    rcases B3.1 hr with rfl|hr
    · exact Un h e h1.1 h2.1
    exact Yh h k h1.2 h2.2 r hr
 end
/-! A text between marks. -/
theorem l6 {x:Expr} {c:List Col} (h:(Ft x c).2=0):Au x=true∧J3 c=true∧Ft x c=Ba c x:=by
 unfold Ft at h ⊢
 split at h
 ·cases h
 rename_i h1
 rw [if_neg h1]
 simp only [Cx,K6,not_or,dg] at h1
 exact ⟨h1.1,by rw [←Lz];exact h1.2,rfl⟩
set_option maxRecDepth 4000
theorem ABz {a b:List Expr} (hl:a.length=b.length) (h:∀(j:Nat) (y z:Expr),j<a.length→a[j]? = some y→b[j]? = some z→eqE y z=true):eqL a b=true:=by
 rw [Sk]
 refine Qt hl fun j y hj hy=>?_
 have hjb:j<b.length:=by omega
 have:=h j y b[j] hj hy (Ab hjb)
 rw [Ab hjb,(Wf _ _).1 this]
theorem AJ6 {a b:List Expr} (h:eqL a b=true) {j:Nat} (hj:j<a.length) (hb:j<b.length):eqE a[j] b[j]=true:=by
 have e:=(Sk _ _).1 h
 subst e
 exact ABa _
theorem AJ7 {a b:List Expr} {j:Nat} (hj:j<a.length) (hb:j<b.length) (h:eqE a[j] b[j]=false):eqL a b=false:=by
 rw [K5]
 intro h2
 rw [AJ6 h2 hj hb] at h
 cases h
theorem AFk {a b:List Expr} (h:a.length≠b.length):eqL a b=false:=by
 rw [K5]
 exact fun h2=>h (AF2 h2)
theorem AN1 {a b:List Expr} {x:Nat} (hx:x<a.length) (hb:x<b.length) (h:∀(j:Nat) (y z:Expr),j<x→a[j]? = some y→b[j]? = some z→eqE y z=true) (he:eqE a[x] b[x]=true):∀(j:Nat) (y z:Expr),j<x+1→a[j]? = some y→b[j]? = some z→eqE y z=true:=by
 intro j y z hj h1 h2
 rcases Bp j x with h3|h3
 ·exact h j y z h3 h1 h2
 have:j=x:=by omega
 subst this
 rw [Ab hx] at h1
 rw [Ab hb] at h2
 injection h1 with h1
 injection h2 with h2
 rw [←h1,←h2]
 exact he
theorem APm (n:Nat) (a b:List Expr) (ha:a.length≤1048576) (hok:∀y∈a,okE n y) (ih:∀(x:Expr),okE n x→∀(y:Expr) (Hp:List AObj),AFun Tryz.prog 109 [A8 x,A8 y] Hp (B0 (eqE x y))) (Hp:List AObj):AFun Tryz.prog 145 [.slice false 6 (a.map A8),.slice false 6 (b.map A8),.fn (.func 109) [] []] Hp (B0 (eqL a b)):=by
 refine Ae [.tmp 6] [0,1,2] Tryz.func145 Tryz.ntmps145 (fun d=>?_)
 refine Z2 ?_;refine Zu ?_;refine fq ?_;refine A2 [0,1,2,14] ?_
 refine A4 (fun ht14=>?_) (fun ht14=>?_)
 ·have hf:eqL a b=false:=AFk (by have:=ht14;simp at this;omega)
  refine Z2 ?_;refine ve ?_;exact Aa (Ai A7) ⟨by rw [hf],rfl⟩
 have hlen:a.length=b.length:=by have:=ht14;simp at this;omega
 refine jh ?_;refine A2 [1,2,15,16,17] ?_
 refine Bg (α:=Nat) (fun i=>⟨32,A6 1 (.slice false 6 (b.map A8)) (A6 2 (.fn (.func 109) [] []) (A6 15 (.slice false 6 (a.map A8)) (A6 16 (A3 (a.length:Nat)) (A6 17 (A3 (i:Nat)) (fun _=>.any))))),Hp,[],[],none⟩) (fun i=>i≤a.length∧∀(j:Nat) (y z:Expr),j<i→a[j]? = some y→b[j]? = some z→eqE y z=true) (fun i=>a.length-i) (0) ⟨Aq _,fun j y z h=>by omega⟩ (Bl (by simp)) rfl (fun i hi=>?_)
 refine Z2 ?_;refine A2 [1,2,15,16,17,18] ?_
 refine Co (fun ht18=>?_) (fun ht18=>?_)
 ·have hlt:i<a.length:=by simpa using ht18
  have hlb:i<b.length:=by omega
  refine Qg ?_
  refine A5 (h:=Ah (i) (A8 a[i]) (fun _=>B7 hlt)) (hr:=?_)
  refine ja ?_;refine A2 [1,2,7,8,15,16,17] ?_;refine Z1 ?_
  refine A5 (h:=Ah (i) (A8 b[i]) (fun _=>B7 hlb)) (hr:=?_)
  refine Qe ?_;refine A2 [1,2,8,9,15,16,17] ?_;refine Z15 ?_;refine Na Tryz.call109 (ih a[i] (hok _ (Bf hlt)) b[i] _) ?_;refine A5 ?_;refine A2 [1,2,15,16,17,30] ?_
  refine A4 (fun ht30=>?_) (fun ht30=>?_)
  ·have hf:eqL a b=false:=AJ7 hlt hlb (by simpa using ht30)
   refine Z2 ?_;refine Z76 ?_;refine Z51 ?_;exact Aa (Ai A7) ⟨by rw [hf],rfl⟩
  have he:eqE a[i] b[i]=true:=by simpa using ht30
  refine Z68 ?_;refine A2 [1,2,15,16,17] ?_;refine Bm (i+1) ⟨hlt,AN1 hlt hlb hi.2 he⟩ (by omega) ?_
  exact D0 (own:=[]) (fun _=>.refl _) (by repeat (first|exact Bc|refine Bb (by first|exact D5|(simp;done)) ?_)) (by simp) (by simp)
 have hxe:a.length≤i:=by simpa using ht18
 refine nq ?_;refine Z76 ?_;exact Aa (Ai A7) ⟨by rw [ABz hlen (fun j y z hj=>hi.2 j y z (by omega))],rfl⟩

theorem AJ8:∀(n:Nat) (x:Expr),okE n x→∀(y:Expr) (Hp:List AObj),AFun Tryz.prog 109 [A8 x,A8 y] Hp (B0 (eqE x y)):=by
 intro n
 induction n with
 | zero=>exact fun x h=>h.elim
 | succ n ih =>
 intro x hok y Hp
 refine Ae [.tmp 4] [0,1] Tryz.func109 Tryz.ntmps109 (fun d=>?_)
 refine Z15 ?_;refine Jb ?_;refine Z23 ?_;refine Z36 ?_;refine Z73 ?_;refine Z85 ?_
 refine Cp (h:=R6 g0 (fun w=>Ko x.val.kind x.val.n y.val.kind y.val.n x.val.s y.val.s w)) (hr:=?_)
 refine Z85 ?_;refine C1 Tryz.call145 (fun hB=>APm n x.kids y.kids hok.2.1 hok.2.2 ih _) ?_;refine Z0 ?_;refine Z13 ?_;exact Aa (Ai A7) ⟨by rw [AIz],rfl⟩

theorem Yi (o:Int) (t:Str) (v:Val) (k:List Expr):A8 (.mk o t v k)=.agg [A3 o,.v (sv t),A3 v.kind,A3 v.n,.v (sv v.s),.slice false 6 (k.map A8)]:=by rw [Al];rfl
theorem Ss {α β:Type} {f:α→β} {l:List α} {x:Nat} (h:x<l.length):(l.take (x+1)).map f=(l.take x).map f++[f l[x]]:=by rw [Kl h,Bj];rfl
theorem AC0 {n:Nat} {x:Expr} {o:Bool} {l:List Expr}:ObjLow n (.cells 27 [A3 x.op,.v (sv x.text),A3 x.val.kind,A3 x.val.n,.v (sv x.val.s),.slice o 6 (l.map A8)]):=by
 show ∀z∈[A3 x.op,AV.v (sv x.text),A3 x.val.kind,A3 x.val.n,AV.v (sv x.val.s),AV.slice o 6 (l.map A8)],Low n z
 intro z hz
 simp only [B3,E6,or_false] at hz
 rcases hz with rfl|rfl|rfl|rfl|rfl|rfl
 all_goals first|exact D5|simp
theorem APn {α:Type} {P:α→Prop} {a b:α} (h1:P a) (h2:P b):∀x∈[a,b],P x:=by
 intro x hx
 simp only [B3,E6,or_false] at hx
 rcases hx with rfl|rfl
 ·exact h1
 exact h2
set_option maxRecDepth 8000
/-! Who decides decides: the law's sources, columns and truths. -/
/-! Rows. -/
theorem row_iff {c:List Col} {l:List Val}:F9 c l=true↔J3 c=true∧l.length=c.length∧∀(i:Nat) (v:Val) (y:Col),l[i]? = some v→c[i]? = some y→Ec v=true∧(v.kind=0∨v.kind=y.kind):=by
 unfold F9
 rw [Ao,Ao,Lz,beq_iff_eq,Az,and_assoc]
 refine and_congr_right fun _=>and_congr_right fun hl=>⟨fun h i v y hv hy=>?_,fun h p hp=>?_⟩
 ·have:=h (v,y) (Aw (i:=i) (by rw [N0];exact ⟨hv,hy⟩))
  simpa using this
 obtain ⟨i,hi⟩:=C6 hp
 rw [N0] at hi
 have:=h i p.1 p.2 hi.1 hi.2
 simpa using this
theorem AFl {x:Expr} {c:List Col} {l:List Val} (h1:Au x=true) (h2:F9 c l=true):Br x c l=Bw c l x:=by
 unfold Br Sr
 rw [h1,h2]
 rfl
/-! Rows that differ in what is not named. -/
/-! Who has a kind comes to it. -/
/-- What a tree of this kind may come to. -/
structure KOk (k:Int) (r:Rs):Prop where
 kind:r.2=0→r.1.kind=k∨r.1.kind=0
 err:r.2≠0→r.2=4∨r.2=5∨r.2=6∨r.2=3
theorem KOk.null (k:Int):KOk k (noV,0):=⟨fun _=>.inr rfl,fun h=>absurd rfl h⟩
theorem KOk.val {k:Int} {v:Val} (h:v.kind=k):KOk k (v,0):=⟨fun _=>.inl h,fun h=>absurd rfl h⟩
theorem KOk.wrong {k e:Int} (h:e=4∨e=5∨e=6∨e=3):KOk k (Dd e):=⟨fun h0=>by rw [show e=0 from h0] at h;omega,fun _=>h⟩
theorem KOk.whole {x:Int×Int} (h:x.2≠0→x.2=4∨x.2=5∨x.2=6∨x.2=3):KOk 1 (I3 x):=by
 unfold I3
 split
 ·rename_i h1;exact .wrong (h (by simpa using h1))
 exact .val rfl
theorem KOk.mono {k k':Int} {r:Rs} (h:KOk k r) (hk:k=k'∨k=0):KOk k' r:=⟨fun h0=>by have:=h.kind h0;omega,h.err⟩
theorem Vi {α:Type} {g:α→Int} {r:α→Rs} {l:List α} (h:∀y∈l,KOk (g y) (r y)) {k:Int} {f:List Val→Rs} (hs:∀vs:List Val,vs.map (·.kind)=l.map g→(∀v∈vs,v.kind≠0)→KOk k (f vs)):KOk k (Mh f (l.map r)):=by
 unfold Mh
 split
 ·rename_i q hq
  have h1:=dm hq
  obtain ⟨y,hy,rfl⟩:=C3.1 (List.mem_of_find?_eq_some hq)
  exact .wrong ((h y hy).err (by simpa using h1))
 rename_i hq
 have h0:∀y∈l,(r y).2=0:=fun y hy=>by
  have:=M5.1 hq (r y) (dr hy)
  simpa using this
 split
 ·exact .null k
 rename_i hn
 have hnn:∀y∈l,(r y).1.kind≠0:=fun y hy e=>hn (by rw [Fi];exact ⟨r y,dr hy,by simpa using e⟩)
 refine hs _ ?_ ?_
 ·rw [Jo,Jo]
  refine W4 fun y hy=>?_
  have:=(h y hy).kind (h0 y hy)
  have:=hnn y hy
  show (r y).1.kind=g y
  omega
 intro v hv
 rw [Jo] at hv
 obtain ⟨y,hy,rfl⟩:=C3.1 hv
 exact hnn y hy
theorem Su {a b:Int} (h:(F5 a b).2=true):((a=0∧(F5 a b).1=b)∨(a≠0∧(b=0∨b=a)∧(F5 a b).1=a)):=by
 unfold F5 at h ⊢
 split
 ·rename_i e;exact .inl ⟨by simpa using e,rfl⟩
 rename_i e
 rw [if_neg e] at h
 split
 ·rename_i e2
  exact .inr ⟨by simpa using e,by simp only [Cx,beq_iff_eq] at e2;omega,rfl⟩
 rename_i e2
 rw [if_neg e2] at h
 cases h
theorem AJ9 {s:Sign} {ks:List Int} (h:(Oa s ks).2=0):∃c,Gt s.kids ks 0=some c∧(Oa s ks).1=if s.own == -1 then c else s.own:=by
 unfold Oa at h ⊢
 cases hk:Gt s.kids ks 0 with
 | none=>rw [hk] at h;cases h
 | some c=>exact ⟨c,rfl,by simp only;split<;>rfl⟩
/-- One kid, of a kind. -/
theorem ww {w k0 c:Int} (h1:(w == -2)=false) (h2:(w == -1)=false) (h3:w≠0) (h:Gt [w] [k0] 0=some c):k0=0∨k0=w:=by
 rw [Gt,h1,h2] at h
 simp only [Bd,if_false] at h
 split at h
 ·rename_i hm;have:=Su hm;omega
 cases h
theorem wx {w w' k0 k1 c:Int} (h1:(w == -2)=false) (h2:(w == -1)=false) (h3:w≠0) (h1':(w' == -2)=false) (h2':(w' == -1)=false) (h3':w'≠0) (h:Gt [w,w'] [k0,k1] 0=some c):(k0=0∨k0=w)∧(k1=0∨k1=w'):=by
 rw [Gt,h1,h2] at h
 simp only [Bd,if_false] at h
 split at h
 ·rename_i hm
  rw [Gt,h1',h2'] at h
  simp only [Bd,if_false] at h
  split at h
  ·rename_i hm';have:=Su hm;have:=Su hm';omega
  cases h
 cases h
/-- Two kids of one kind, whichever. -/
theorem gu {k0 k1 c c0:Int} (h:Gt [-1, -1] [k0,k1] c0=some c) (h0:c0=0):(k0=0∨k0=c)∧(k1=0∨k1=c)∧(k0≠0→k1≠0→k0=k1):=by
 subst h0
 rw [Gt] at h
 simp only [show ((-1:Int) == -2)=false from rfl,show ((-1:Int) == -1)=true from rfl,Bd,if_false,if_true] at h
 split at h
 ·rename_i hm
  rw [Gt] at h
  simp only [show ((-1:Int) == -2)=false from rfl,show ((-1:Int) == -1)=true from rfl,Bd,if_false,if_true] at h
  split at h
  ·rename_i hm'
   rw [Gt] at h
   injection h with h
   have a:=Su hm
   have b:=Su hm'
   omega
  cases h
 cases h
theorem Q8 {c:List Col} {o:Int} {t:Str} {v:Val} {k:List Expr} (h:(Ba c (.mk o t v k)).2=0) (h1:(o==1)=false) (h2:(o==2)=false):
  (∀y∈k,(Ba c y).2=0)∧∃m,Gt (Kf o t).kids (k.map fun y=>(Ba c y).1) 0=some m∧(Ba c (.mk o t v k)).1=if (Kf o t).own == -1 then m else (Kf o t).own:=by
 rw [Ba] at h ⊢
 have hk:=kt h h1 h2
 rw [Uk] at hk h ⊢
 have hk':∀y∈k,(Ba c y).2=0:=fun y hy=>hk _ (dr hy)
 refine ⟨hk',?_⟩
 have e:Ms c o t v (k.map (Ba c))=Oa (Kf o t) (k.map fun y=>(Ba c y).1):=by
  unfold Ms
  rw [h1,h2]
  have:(k.map (Ba c)).find? (fun q=>q.2 != 0)=none:=M5.2 fun q hq=>by simpa using hk q hq
  simp only [Bd,if_false,this,Jo]
  rfl
 rw [e] at h ⊢
 exact AJ9 h
theorem wy (t:Str) (a b:Int):(Jg t a b).2≠0→(Jg t a b).2=4∨(Jg t a b).2=5∨(Jg t a b).2=6∨(Jg t a b).2=3:=by
 unfold Jg pg No Yd ph ag
 simp only
 repeat' split
 all_goals simp
theorem AFm (a b:Int):(No a b).2≠0→(No a b).2=4∨(No a b).2=5∨(No a b).2=6∨(No a b).2=3:=by
 unfold No
 repeat' split
 all_goals simp
theorem AFn (s:Str):(Cq s).2≠0→(Cq s).2=4∨(Cq s).2=5∨(Cq s).2=6∨(Cq s).2=3:=by
 unfold Cq
 repeat' split
 all_goals simp
theorem AJa {a b:Val} (ha:a.kind=2) (hb:b.kind=2):KOk 2 (Pe a b):=by
 unfold Pe
 rw [show Dk [a,b] [2,2]=true by simp [Dk,ha,hb]]
 simp only [Hw,Bd,if_false]
 split
 ·exact .wrong (by omega)
 exact .val rfl
/-- A mark of two values of the kinds that its sign asks for. -/
theorem AN2 {t:Str} {a b:Val} (ht:t∈[[61],[33,61],[60],[60,61],[62],[62,61],[43],[45],[38],[42],[47],[37]]) {m:Int} (hf:Gt (Dz t).kids [a.kind,b.kind] 0=some m) (ha:a.kind≠0) (hb:b.kind≠0):
  KOk (if (Dz t).own == -1 then m else (Dz t).own) (Mv t a b):=by
 have hcmp:∀t:Str,(I7 t (kz a b)).2=true→Dz t=⟨[-1, -1],3⟩→Gt (Dz t).kids [a.kind,b.kind] 0=some m→KOk (if (Dz t).own == -1 then m else (Dz t).own) (Mv t a b):=fun t h1 h2 hf=>by
  rw [h2] at hf ⊢
  have:=gu hf rfl
  have e:a.kind=b.kind:=this.2.2 ha hb
  unfold Mv
  rw [h1,if_pos rfl,e]
  simp only [bne_self_eq_false,Bd,if_false]
  exact .val rfl
 have har:∀t:Str,(I7 t (kz a b)).2=false→(t==[38])=false→Dz t=⟨[1,1],1⟩→Gt (Dz t).kids [a.kind,b.kind] 0=some m→KOk (if (Dz t).own == -1 then m else (Dz t).own) (Mv t a b):=fun t h1 h2 h3 hf=>by
  rw [h3] at hf ⊢
  have:=wx rfl rfl (by decide) rfl rfl (by decide) hf
  unfold Mv
  rw [h1,h2,show Dk [a,b] [1,1]=true by simp [Dk];omega]
  exact KOk.whole (wy _ _ _)
 simp only [B3,E6,or_false] at ht
 rcases ht with rfl|rfl|rfl|rfl|rfl|rfl|rfl|rfl|rfl|rfl|rfl|rfl
 ·exact vo
 ·exact vo
 ·exact vo
 ·exact vo
 ·exact vo
 ·exact vo
 ·exact AAh
 ·exact AAh
 ·have h3:Dz [38]=⟨[2,2],2⟩:=rfl
  rw [h3] at hf ⊢
  have:=wx rfl rfl (by decide) rfl rfl (by decide) hf
  exact AJa (by omega) (by omega)
 ·exact AAh
 ·exact AAh
 exact AAh
theorem gw {r:Rs} (h:KOk 3 r):B9 r=r:=by
 unfold B9
 split
 ·rename_i e
  simp only [Ao,beq_iff_eq,bne_iff_ne] at e
  have:=h.kind e.1.1
  omega
 rfl
theorem sk {s:Val} {a b:Rs} (ha:KOk 3 a) (hb:KOk 3 b):KOk 3 (Is s a b):=by
 unfold Is
 rw [gw ha,gw hb]
 split
 ·exact ha
 rename_i h1
 split
 ·exact hb
 simp only [Cx,bne_iff_ne,not_or,Decidable.not_not] at h1
 exact ⟨fun _=>ha.kind h1.1,fun h=>absurd rfl h⟩
theorem Nr {t:Str} {n:Nat} (h:Cf t=(n:Int)):(t=[108,101,110]∧n=1)∨(t=[115,116,114]∧n=1)∨(t=[110,117,109]∧n=1)∨(t=C8∧n=1)∨(t=Ul∧n=2)∨(t=[108,101,102,116]∧n=2)∨(t=[114,105,103,104,116]∧n=2)∨(t=ifW∧n=3):=by
 by_cases hm:t∈arityList.map (·.1)
 ·have ha:∀s∈arityList.map (·.1),(s=[108,101,110]∧Cf s=1)∨(s=[115,116,114]∧Cf s=1)∨(s=[110,117,109]∧Cf s=1)∨(s=C8∧Cf s=1)∨(s=Ul∧Cf s=2)∨(s=[108,101,102,116]∧Cf s=2)∨(s=[114,105,103,104,116]∧Cf s=2)∨(s=ifW∧Cf s=3):=by
   have:((arityList.map (·.1)).all fun s=>decide ((s=[108,101,110]∧Cf s=1)∨(s=[115,116,114]∧Cf s=1)∨(s=[110,117,109]∧Cf s=1)∨(s=C8∧Cf s=1)∨(s=Ul∧Cf s=2)∨(s=[108,101,102,116]∧Cf s=2)∨(s=[114,105,103,104,116]∧Cf s=2)∨(s=ifW∧Cf s=3)))=true:=by kernel_rfl
   exact fun s hs=>of_decide_eq_true (Az.1 this s hs)
  have:=ha t hm
  rw [h] at this
  rcases this with ⟨e,h2⟩|⟨e,h2⟩|⟨e,h2⟩|⟨e,h2⟩|⟨e,h2⟩|⟨e,h2⟩|⟨e,h2⟩|⟨e,h2⟩
  ·exact .inl ⟨e,by omega⟩
  ·exact .inr (.inl ⟨e,by omega⟩)
  ·exact .inr (.inr (.inl ⟨e,by omega⟩))
  ·exact .inr (.inr (.inr (.inl ⟨e,by omega⟩)))
  ·exact .inr (.inr (.inr (.inr (.inl ⟨e,by omega⟩))))
  ·exact .inr (.inr (.inr (.inr (.inr (.inl ⟨e,by omega⟩)))))
  ·exact .inr (.inr (.inr (.inr (.inr (.inr (.inl ⟨e,by omega⟩))))))
  exact .inr (.inr (.inr (.inr (.inr (.inr (.inr ⟨e,by omega⟩))))))
 have h1:Cf t = -1:=by
  unfold Cf
  rw [M5.2 fun p hp=>by
   simp only [beq_iff_eq]
   rintro rfl
   exact hm (C3.2 ⟨p,hp,rfl⟩)]
 omega
theorem Wh {k:List Expr} (h:k.length=1):∃a,k=[a]:=by match k,h with|[a],_=>exact ⟨a,rfl⟩
theorem Q9 {k:List Expr} (h:k.length=2):∃a b,k=[a,b]:=by match k,h with|[a,b],_=>exact ⟨a,b,rfl⟩
theorem wz {k:List Expr} (h:k.length=3):∃a b c,k=[a,b,c]:=by match k,h with|[a,b,c],_=>exact ⟨a,b,c,rfl⟩
theorem Mx {vs:List Val} {k:Int} (h:vs.map (·.kind)=[k]):∃v,vs=[v]∧v.kind=k:=by
 match vs,h with
 | [v],h=>exact ⟨v,rfl,by simpa using h⟩
theorem Uo {vs:List Val} {k k':Int} (h:vs.map (·.kind)=[k,k']):∃v v',vs=[v,v']∧v.kind=k∧v'.kind=k':=by
 match vs,h with
 | [v,v'],h=>exact ⟨v,v',rfl,by simpa using h⟩
theorem sm {c:List Col} {l:List Val} (hl:F9 c l=true):∀(n:Nat) (e:Expr),sizeE e≤n→Dq Es e=true→(Ba c e).2=0→KOk (Ba c e).1 (Bw c l e)
 | 0,e,hn,_,_=>by have:=Sh e;omega
 | n+1,e,hn,hnd,hk=>by
  have hnd0:=hnd
  rw [Ip,Ao] at hnd0
  have ih:∀y∈e.kids,(Ba c y).2=0→KOk (Ba c y).1 (Bw c l y):=fun y hy h0=>sm hl n y (wm hn hy) ((Ff _ _).1 hnd0.2 y hy) h0
  obtain ⟨r1,r2,r3⟩:=row_iff.1 hl
  have hNC:=Lg hnd0.1
  cases hNC with
  | val v hp h0 =>
   have:Ba c (Nn v)=(v.kind,0):=by rw [Nn,Ba];rfl
   rw [this]
   exact .val rfl
  | name t ht =>
   have e1:Ba c (Cu t)=Ir c t:=by rw [Cu,Ba];rfl
   have e2:Bw c l (Cu t)=Pf c l t:=by rw [Bw,Cu,Fk];rfl
   rw [e1] at hk ⊢
   rw [e2]
   unfold Ir at hk ⊢
   unfold Pf
   split at hk
   ·cases hk
   rename_i hf
   rw [if_neg hf,if_neg hf]
   obtain ⟨j,z,hj,hz,hfj⟩:=find_mem.1 hf
   have hjl:j<l.length:=by rw [r2];exact (Ad.1 hj).1
   have:=r3 j l[j] z (Ab hjl) hj
   rw [hfj,Int.toNat_natCast,Cc,Cc,hj,Ab hjl]
   exact ⟨fun _=>by show l[j].kind=z.kind∨l[j].kind=0;omega,fun h=>absurd rfl h⟩
  | neg a =>
   rw [Kq] at hk ⊢
   obtain ⟨hky,m,hf,ho⟩:=Q8 hk rfl rfl
   rw [ho,Bw,Fk,L0]
   have hs:Kf 3 []=⟨[1],1⟩:=rfl
   rw [hs] at hf ⊢
   have hm:=ww rfl rfl (by decide) hf
   show KOk 1 (Mh (B1 3 []) ([a].map (Fk B1 c l)))
   refine Vi (g:=fun y=>(Ba c y).1) (fun y hy=>ih y hy (hky y hy)) (fun vs hvs hnz=>?_)
   obtain ⟨v,rfl,hv⟩:=Mx hvs
   have hv0:=hnz v (by simp)
   have hv1:v.kind=1:=by omega
   unfold B1
   rw [show Dk [v] [1]=true by simp [Dk,hv1]]
   exact KOk.whole (AFm _ _)
  | no a =>
   rw [Kq] at hk ⊢
   obtain ⟨hky,m,hf,ho⟩:=Q8 hk rfl rfl
   rw [ho,Bw,Fk,L0]
   have hs:Kf 4 []=⟨[3],3⟩:=rfl
   rw [hs] at hf ⊢
   have hm:=ww rfl rfl (by decide) hf
   show KOk 3 (Mh (B1 4 []) ([a].map (Fk B1 c l)))
   refine Vi (g:=fun y=>(Ba c y).1) (fun y hy=>ih y hy (hky y hy)) (fun vs hvs hnz=>?_)
   obtain ⟨v,rfl,hv⟩:=Mx hvs
   have hv0:=hnz v (by simp)
   have hv1:v.kind=3:=by omega
   unfold B1
   rw [show Dk [v] [3]=true by simp [Dk,hv1]]
   exact KOk.val rfl
  | bin t a b ht =>
   rw [Lp] at hk ⊢
   obtain ⟨hky,m,hf,ho⟩:=Q8 hk rfl rfl
   have ha:=ih a (by simp [Lp,Expr.kids]) (hky a (by simp))
   have hb:=ih b (by simp [Lp,Expr.kids]) (hky b (by simp))
   rw [ho,Bw,Fk,L0]
   rw [show Kf 5 t=Dz t from rfl] at hf ⊢
   have hmem:t∈levels.flatten:=by
    rcases Vg t with h|h
    ·exact h
    omega
   by_cases h1:(t==orW)=true
   ·have e:t=orW:=by simpa using h1
    subst e
    rw [show Dz orW=⟨[3,3],3⟩ from rfl] at hf ⊢
    have hm:((Ba c a).1=0∨(Ba c a).1=3)∧((Ba c b).1=0∨(Ba c b).1=3):=wx rfl rfl (by decide) rfl rfl (by decide) hf
    exact sk (ha.mono (by omega)) (hb.mono (by omega))
   by_cases h2:(t==gt)=true
   ·have e:t=gt:=by simpa using h2
    subst e
    rw [show Dz gt=⟨[3,3],3⟩ from rfl] at hf ⊢
    have hm:((Ba c a).1=0∨(Ba c a).1=3)∧((Ba c b).1=0∨(Ba c b).1=3):=wx rfl rfl (by decide) rfl rfl (by decide) hf
    exact sk (ha.mono (by omega)) (hb.mono (by omega))
   have e:K3 B1 c l 5 t noV ([a,b].map (Fk B1 c l))=Mh (B1 5 t) ([a,b].map (Fk B1 c l)):=by
    unfold K3
    rw [show (t==orW)=false by simpa using h1,show (t==gt)=false by simpa using h2]
    rfl
   rw [e]
   have hm12:t∈[[61],[33,61],[60],[60,61],[62],[62,61],[43],[45],[38],[42],[47],[37]]:=by
    have h1':t≠orW:=by simpa using h1
    have h2':t≠gt:=by simpa using h2
    simp only [levels,List.flatten_cons,List.flatten_nil,E9,E5,Gm,B3,E6,or_false] at hmem ⊢
    rcases hmem with h|h|h
    ·exact absurd h h1'
    ·exact absurd h h2'
    exact h
   refine Vi (g:=fun y=>(Ba c y).1) (fun y hy=>ih y hy (hky y hy)) (fun vs hvs hnz=>?_)
   obtain ⟨v,v',rfl,hv,hv'⟩:=Uo hvs
   have hf':Gt (Dz t).kids [v.kind,v'.kind] 0=some m:=by rw [hv,hv'];exact hf
   exact AN2 hm12 hf' (hnz v (by simp)) (hnz v' (by simp))
  | call t k ht =>
   obtain ⟨hky,m,hf,ho⟩:=Q8 hk rfl rfl
   rw [ho,Bw,Fk,L0]
   rw [show Kf 6 t=Fl t from rfl] at hf ⊢
   rcases Nr ht with ⟨rfl,hn1⟩|⟨rfl,hn1⟩|⟨rfl,hn1⟩|⟨rfl,hn1⟩|⟨rfl,hn1⟩|⟨rfl,hn1⟩|⟨rfl,hn1⟩|⟨rfl,hn1⟩
   ·obtain ⟨a,rfl⟩:=Wh hn1
    have hs:Fl [108,101,110]=⟨[2],1⟩:=rfl
    rw [hs] at hf ⊢
    have hm:=ww rfl rfl (by decide) hf
    show KOk 1 (Mh (B1 6 [108,101,110]) ([a].map (Fk B1 c l)))
    refine Vi (g:=fun y=>(Ba c y).1) (fun y hy=>ih y hy (hky y hy)) (fun vs hvs hnz=>?_)
    obtain ⟨v,rfl,hv⟩:=Mx hvs
    have hv0:=hnz v (by simp)
    have hv1:v.kind=2:=by omega
    show KOk 1 (J7 [108,101,110] v)
    unfold J7
    rw [hv1]
    exact KOk.val rfl
   ·obtain ⟨a,rfl⟩:=Wh hn1
    have hs:Fl [115,116,114]=⟨[1],2⟩:=rfl
    rw [hs] at hf ⊢
    have hm:=ww rfl rfl (by decide) hf
    show KOk 2 (Mh (B1 6 [115,116,114]) ([a].map (Fk B1 c l)))
    refine Vi (g:=fun y=>(Ba c y).1) (fun y hy=>ih y hy (hky y hy)) (fun vs hvs hnz=>?_)
    obtain ⟨v,rfl,hv⟩:=Mx hvs
    have hv0:=hnz v (by simp)
    have hv1:v.kind=1:=by omega
    show KOk 2 (J7 [115,116,114] v)
    unfold J7
    rw [hv1]
    exact KOk.val rfl
   ·obtain ⟨a,rfl⟩:=Wh hn1
    have hs:Fl [110,117,109]=⟨[2],1⟩:=rfl
    rw [hs] at hf ⊢
    have hm:=ww rfl rfl (by decide) hf
    show KOk 1 (Mh (B1 6 [110,117,109]) ([a].map (Fk B1 c l)))
    refine Vi (g:=fun y=>(Ba c y).1) (fun y hy=>ih y hy (hky y hy)) (fun vs hvs hnz=>?_)
    obtain ⟨v,rfl,hv⟩:=Mx hvs
    have hv0:=hnz v (by simp)
    have hv1:v.kind=2:=by omega
    show KOk 1 (J7 [110,117,109] v)
    unfold J7
    rw [hv1]
    exact KOk.whole (AFn _)
   ·obtain ⟨a,rfl⟩:=Wh hn1
    have ha:=ih a (by simp [Expr.kids]) (hky a (by simp))
    have hs:Fl C8=⟨[-2],3⟩:=rfl
    rw [hs]
    show KOk 3 (Fa C8 (Bw c l a) (noV,0) (noV,0))
    unfold Fa
    rw [show (C8==ifW)=false from rfl,show (C8==C8)=true from rfl]
    simp only [Bd,if_false,if_true]
    split
    ·rename_i h;exact .wrong (ha.err (by simpa using h))
    exact .val rfl
   ·obtain ⟨a,b,rfl⟩:=Q9 hn1
    have ha:=ih a (by simp [Expr.kids]) (hky a (by simp))
    have hb:=ih b (by simp [Expr.kids]) (hky b (by simp))
    have hs:Fl Ul=⟨[-1, -1], -1⟩:=rfl
    rw [hs] at hf ⊢
    have hm:((Ba c a).1=0∨(Ba c a).1=m)∧((Ba c b).1=0∨(Ba c b).1=m)∧((Ba c a).1≠0→(Ba c b).1≠0→(Ba c a).1=(Ba c b).1):=gu hf rfl
    show KOk m (Fa Ul (Bw c l a) (Bw c l b) (noV,0))
    unfold Fa
    rw [show (Ul==ifW)=false from rfl,show (Ul==C8)=false from rfl]
    simp only [Bd,if_false]
    split
    ·rename_i h;exact .wrong (ha.err (by simpa using h))
    rename_i h
    split
    ·rename_i h2
     have:=ha.kind (by simpa using h)
     have h2:(Bw c l a).1.kind≠0:=by simpa using h2
     exact .val (by omega)
    exact hb.mono (by omega)
   ·obtain ⟨a,b,rfl⟩:=Q9 hn1
    have hs:Fl [108,101,102,116]=⟨[2,1],2⟩:=rfl
    rw [hs] at hf ⊢
    have hm:=wx rfl rfl (by decide) rfl rfl (by decide) hf
    show KOk 2 (Mh (B1 6 [108,101,102,116]) ([a,b].map (Fk B1 c l)))
    refine Vi (g:=fun y=>(Ba c y).1) (fun y hy=>ih y hy (hky y hy)) (fun vs hvs hnz=>?_)
    obtain ⟨v,v',rfl,hv,hv'⟩:=Uo hvs
    have hv0:=hnz v (by simp)
    have hv0':=hnz v' (by simp)
    have hv1:v.kind=2:=by omega
    have hv1':v'.kind=1:=by omega
    unfold B1
    rw [show Dk [v,v'] [2,1]=true by simp [Dk,hv1,hv1']]
    exact KOk.val rfl
   ·obtain ⟨a,b,rfl⟩:=Q9 hn1
    have hs:Fl [114,105,103,104,116]=⟨[2,1],2⟩:=rfl
    rw [hs] at hf ⊢
    have hm:=wx rfl rfl (by decide) rfl rfl (by decide) hf
    show KOk 2 (Mh (B1 6 [114,105,103,104,116]) ([a,b].map (Fk B1 c l)))
    refine Vi (g:=fun y=>(Ba c y).1) (fun y hy=>ih y hy (hky y hy)) (fun vs hvs hnz=>?_)
    obtain ⟨v,v',rfl,hv,hv'⟩:=Uo hvs
    have hv0:=hnz v (by simp)
    have hv0':=hnz v' (by simp)
    have hv1:v.kind=2:=by omega
    have hv1':v'.kind=1:=by omega
    unfold B1
    rw [show Dk [v,v'] [2,1]=true by simp [Dk,hv1,hv1']]
    exact KOk.val rfl
   obtain ⟨a,b,d,rfl⟩:=wz hn1
   have ha:=ih a (by simp [Expr.kids]) (hky a (by simp))
   have hb:=ih b (by simp [Expr.kids]) (hky b (by simp))
   have hd:=ih d (by simp [Expr.kids]) (hky d (by simp))
   have hs:Fl ifW=⟨[3, -1, -1], -1⟩:=rfl
   rw [hs] at hf ⊢
   have hf':Gt [3] [(Ba c a).1] 0=some 0∧Gt [-1, -1] [(Ba c b).1,(Ba c d).1] 0=some m:=by
    simp only [Bk,Dr] at hf
    rw [Gt] at hf
    simp only [show ((3:Int) == -2)=false from rfl,show ((3:Int) == -1)=false from rfl,Bd,if_false] at hf
    split at hf
    ·rename_i hm
     refine ⟨?_,hf⟩
     rw [Gt]
     simp only [show ((3:Int) == -2)=false from rfl,show ((3:Int) == -1)=false from rfl,Bd,if_false,hm,if_true]
     rw [Gt]
    cases hf
   have hm1:=ww rfl rfl (by decide) hf'.1
   have hm:=gu hf'.2 rfl
   show KOk m (Fa ifW (Bw c l a) (Bw c l b) (Bw c l d))
   unfold Fa
   rw [show (ifW==ifW)=true from rfl,if_pos rfl,gw (ha.mono (by omega))]
   split
   ·rename_i h;exact .wrong (ha.err (by simpa using h))
   split
   ·exact hb.mono (by omega)
   exact hd.mono (by omega)
/-! The print of a tree, and its words. -/
/-! What was parsed nests no deeper than may be. -/
/-! What nests too deep is told to be too deep. -/
/-! What was parsed is right, where the words are the lexer's. -/
/-! The lexer's words. -/
/-! The parse laws where nothing is too deep. -/
/-! The parser from a word on, and of a source. -/
/-! Other trees have other words, and other prints. -/
/-! The laws of printing. -/
theorem Ns {x:Expr} (h:Fs x=true):Dq Es x=true:=by
 unfold Fs at h
 rw [Ao] at h
 exact h.2
set_option maxRecDepth 4000
abbrev xo (own:Bool) (t:Str) (ks:List Expr):AObj:=.cells 27 [A3 6,Ac t,A3 0,A3 0,Ac [],.slice own 6 (ks.map A8)]
theorem AJb {n:Nat} {own:Bool} {t:Str} {ks:List Expr}:ObjLow n (xo own t ks):=by
 show ∀z∈[A3 6,Ac t,A3 0,A3 0,Ac [],AV.slice own 6 (ks.map A8)],Low n z
 intro z hz
 simp only [B3,E6,or_false] at hz
 rcases hz with rfl|rfl|rfl|rfl|rfl|rfl
 all_goals first|exact D5|simp
theorem AFo:En (.agg #[.int .i64 0,.string ⟨#[]⟩,.int .i64 0,.int .i64 0,.string ⟨#[]⟩,.slice none 0 0])=.agg [A3 0,Ac [],A3 0,A3 0,Ac [],.nil]:=rfl
attribute [go_sem] AFo
theorem gA {Hp:List AObj} {o ox:Nat} {z A B:AObj} (ho:Hp[o]? = some z) (hne:ox≠o):((Hp.set o A).set ox B)[o]? = some A:=by rw [List.getElem?_set_ne hne];exact getset ho
theorem gB {Hp:List AObj} {o ox:Nat} {z A B:AObj} (hox:Hp[ox]? = some z):((Hp.set o A).set ox B)[ox]? = some B:=by
 have:=(List.getElem?_eq_some_iff.1 hox).1
 simp [this]
theorem AC1 {Hp:List AObj} {o ox:Nat} {A A' B:AObj} (hne:ox≠o):((Hp.set o A).set ox B).set o A'=(Hp.set o A').set ox B:=by rw [List.set_comm _ _ hne,List.set_set]
theorem Rm (ks:List Expr) (x:Expr):ks.map A8++[.agg [.v (.int .i64 x.op),.v (sv x.text),.v (.int .i64 x.val.kind),.v (.int .i64 x.val.n),.v (sv x.val.s),.slice false 6 (x.kids.map A8)]]=(ks++[x]).map A8:=by rw [List.map_append,List.map_cons,List.map_nil,Al x]
theorem APo (l:List Tok) (S:PS) (t:Str) (Dv:Fam) (o ox:Nat) (Hp:List AObj) (hne:ox≠o) (ho:Hp[o]? = some (pr l S)) (hox:Hp[ox]? = some (xo true t [])) (hi:S.i<l.length) (hl:TokEnd l) (hll:l.length≤1048576) (hf:Fc l S.nest Dv.ei) (hcf:PC 154 l Dv.ei S.nest):ACall Tryz.prog 340 [.ptr ox 0,.ro [.ptr o 0]] Hp (fun r H'=>r=A8 (.mk 6 t noV (J5 l Dv.ei S).1)∧H'=(Hp.set o (pr l (J5 l Dv.ei S).2)).set ox (xo true t (J5 l Dv.ei S).1)):=by
 have hoxl:=(List.getElem?_eq_some_iff.1 hox).1
 have hol:=(List.getElem?_eq_some_iff.1 ho).1
 refine ACall.body [.cell 2 27] [0,1] Tryz.func340 Tryz.ntmps340 (fun d=>?_)
 refine Z24 ?_;refine Zu ?_
 refine W.drawT [0,1,0,4,3,0,63,127,255,127,639] [1,3] [.q 1 [] [0],.s [4] (some 0) [] [],.q 1 [] [1],.s [6] (some 1) [] [],.q 2 [] []] (fun B=>(Hp.set o (if B 1=true then pr l (Dv.ei S).2 else pr l S)).set ox (if B 0=true then xo false t [] else xo true t [])) (fun _=>[Mg]) Ak (by kernel_rfl) (by simp only [Bool.false_eq_true,if_false];rw [Ce ho,Ce hox]) rfl (fun B=>by simp) ?_
 apply Y.q
 ·intro B hT hF
  exact Z56
 case hTF=>decide
 refine Y.loadUpT (o:=ox) (t':=27) (cs:=[A3 6,Ac t,A3 0,A3 0,Ac [],.slice true 6 ([].map A8)]) (cs':=[A3 6,Ac t,A3 0,A3 0,Ac [],.slice false 6 ([].map A8)]) Tryz.isAgg25 (fun B hB=>⟨by simp only [hB];exact gB hox,by simp [upd,List.set_set]<;>rfl,rfl⟩) ?_
 apply Y.q
 ·intro B hT hF
  exact Z56
 case hTF=>decide
 refine Y.callUp (r:=A8 (Dv.ei S).1) (o:=o) (x0:=pr l S) (x:=pr l (Dv.ei S).2) Tryz.call154 (fun B hT hF hB=>⟨by simp only [hB];exact gA ho hne,?_,rfl,Dj,?_⟩) ?_
 ·simp only [upd,hB,Nat.reduceEqDiff,if_false,if_true,Bool.false_eq_true]
  exact (AC1 hne).symm
 ·simp only [hB]
  exact hcf o _ S (Ag (gA ho hne)) hi rfl
 apply Y.q
 ·intro B hT hF
  exact v8
 case hTF=>decide
 refine Y.appendPut (tn:=[1,3]) (U:=(Hp.set o (pr l (Dv.ei S).2)).set ox (xo false t [])) (O:=[Mg]) (o:=ox) (t':=27) (cs:=[A3 6,Ac t,A3 0,A3 0,Ac [],.slice false 6 ([].map A8)]) (by kernel_rfl) jU Tryz.type27 Tryz.sizeOf27 Tryz.sizeOf25 jU (Ag (gB hox)) ?_ ?_ ?_ (hfsz:=Tryz.sizeOf25)
 ·simp [Tryz.t27]
 ·simp [Tryz.t27]
 refine R.go ?_
 refine R.storeUpT jS (gB hox) ?_ ?_
 ·first|(rw [Rm];exact D5)|(have:=D5 (n:=((Hp.set o (pr l (Dv.ei S).2)).set ox (xo false t [])).length) (k:=6) (o:=true) (l:=[(Dv.ei S).1]);simp only [List.map_cons,List.map_nil,Al] at this;exact this)
 refine Zu ?_;refine W.seq ?_
 refine AW.loopC (α:=List Expr×PS) (fun r=>⟨34,A6 0 (.ptr ox 0) (A6 1 (.ro [.ptr o 0]) (A6 2 (.ptr (oid Hp.length 0) 0) (fun _=>.any))),(Hp.set o (pr l r.2)).set ox (xo true t r.1),[Mg],[],none⟩) (fun r=>ArgsAt l Dv.ei S r) (fun r=>l.length-r.2.i) (([(Dv.ei S).1],(Dv.ei S).2)) (.start (hf S hi rfl)) (StLe.of_eq (by simp [List.set_set,xo,Al])) rfl (fun r hx=>?_)
 refine Z88 ?_
 refine R.go (h:=Q.loadUp (gA ho hne)) (hr:=?_)
 refine Qf ?_;refine G.call Tryz.call232 (fun hB=>kv l r.2 Y3 o _ (Ag (gA ho hne)) hx.fact.lt hl (by decide)) ?_;refine R.go ?_;refine R.fin [0,1,2,21] ?_
 refine W.cond (fun ht21=>?_) (fun ht21=>?_)
 ·have hon:=hx.on hl ht21 hf
  have hle:=hon.2.1.le
  have hlt0:=hx.fact.lt
  refine AAa ?_;refine Z2 ?_;refine R.callUp Tryz.call233 (gA ho hne) (by simp) Dj (ABq l r.2 o _ (Ag (gA ho hne)) hx.fact.lt hll) ?_;refine Zu ?_
  refine W.drawT0 [0,1,0,4,3,0,63,127,255,127,639] [1,3] [.q 1 [] [0],.s [25] (some 0) [] [],.q 1 [] [1],.s [27] (some 1) [] [],.q 2 [] []] (fun B=>(Hp.set o (if B 1=true then pr l (Dv.ei (Ap r.2)).2 else pr l (Ap r.2))).set ox (if B 0=true then xo false t r.1 else xo true t r.1)) (fun _=>[Mg]) Ak (by kernel_rfl) (by simp only [Bool.false_eq_true,if_false];exact (AC1 hne).symm) rfl (fun B=>by simp) ?_
  apply Y.q
  ·intro B hT hF
   exact Z56
  case hTF=>decide
  refine Y.loadUpT (o:=ox) (t':=27) (cs:=[A3 6,Ac t,A3 0,A3 0,Ac [],.slice true 6 (r.1.map A8)]) (cs':=[A3 6,Ac t,A3 0,A3 0,Ac [],.slice false 6 (r.1.map A8)]) Tryz.isAgg25 (fun B hB=>⟨by simp only [hB];exact gB hox,by simp [upd,List.set_set]<;>rfl,rfl⟩) ?_
  apply Y.q
  ·intro B hT hF
   exact Z56
  case hTF=>decide
  refine Y.callUp (r:=A8 (Dv.ei (Ap r.2)).1) (o:=o) (x0:=pr l (Ap r.2)) (x:=pr l (Dv.ei (Ap r.2)).2) Tryz.call154 (fun B hT hF hB=>⟨by simp only [hB];exact gA ho hne,?_,rfl,Dj,?_⟩) ?_
  ·simp only [upd,hB,Nat.reduceEqDiff,if_false,if_true,Bool.false_eq_true]
   exact (AC1 hne).symm
  ·simp only [hB]
   exact hcf o _ (Ap r.2) (Ag (gA ho hne)) hon.1 hx.fact.nest
  apply Y.q
  ·intro B hT hF
   exact v8
  case hTF=>decide
  refine Y.appendPut (tn:=[1,3]) (U:=(Hp.set o (pr l (Dv.ei (Ap r.2)).2)).set ox (xo false t r.1)) (O:=[Mg]) (o:=ox) (t':=27) (cs:=[A3 6,Ac t,A3 0,A3 0,Ac [],.slice false 6 (r.1.map A8)]) (by kernel_rfl) jU Tryz.type27 Tryz.sizeOf27 Tryz.sizeOf25 jU (Ag (gB hox)) ?_ ?_ ?_ (hfsz:=Tryz.sizeOf25)
  ·have:=hx.fact.len;have:=hx.fact.lt;simp only [List.length_map,Tryz.t27];omega
  ·have:=hx.fact.len;have:=hx.fact.lt;simp only [List.length_map,Tryz.t27];omega
  refine R.go ?_
  refine R.storeUpT jS (gB hox) ?_ ?_
  ·first|(rw [Rm];exact D5)|(have:=D5 (n:=((Hp.set o (pr l (Dv.ei S).2)).set ox (xo false t [])).length) (k:=6) (o:=true) (l:=[(Dv.ei S).1]);simp only [List.map_cons,List.map_nil,Al] at this;exact this)
  refine Zu ?_;refine K.blN ?_
  refine K.lpN (r.1++[(Dv.ei (Ap r.2)).1],(Dv.ei (Ap r.2)).2) hon.2.2 (by show l.length-(Dv.ei (Ap r.2)).2.i<l.length-r.2.i;have:r.2.i+1≤(Dv.ei (Ap r.2)).2.i:=hle;omega) (StCut.of_eq ?_)
  simp only [show Tryz.t27.size=6 from rfl,Rm,List.set_set]
 have hout:=hx.out (by rw [ht21];simp)
 refine Sc ?_;refine Ez ?_
 refine R.go (h:=Q.loadUpN (gB hox)) (hr:=?_)
 refine Z38 ?_;exact K.fin (V.one (V.cellN jA jS)) ⟨by rw [hout,Yi];rfl,by rw [hout]⟩ (hlow:=by have:=Am Hp.length (.mk 6 t noV r.1);rw [Yi] at this;simpa using this)

/-- within, with the function that gathers a call's kids. -/
theorem AN3 (l:List Tok) (S:PS) (a:Int) (t:Str) (Dv:Fam) (o:Nat) (Hp:List AObj) (A0 A1:AObj) (l0:ObjLow 0 A0) (ho:Hp[o]? = some (pr l S)) (hi:S.i<l.length) (hl:TokEnd l) (hll:l.length≤1048576) (hnl:S.nest≤30) (hd:DeepC l Dv S.nest):
  ACall Tryz.prog 257 [.ptr o 0,A3 a,.fn (.func 340) [] [.ptr (oid Hp.length 2) 0,.ro [.ptr o 0]]] (Hp++[A0,A1,xo true t []]) (fun r H'=>r=A8 (if S.nest=30 then Av else .mk 6 t noV (Vf l a Dv.ei S).1)∧H'=Hp.set o (pr l (Vf l a Dv.ei S).2)++[A0,A1,xo true t (Vf l a Dv.ei S).1]):=by
 have hlt:=(Ad.1 ho).1
 have ho':(Hp++[A0,A1,xo true t []])[o]? = some (pr l S):=Ag ho
 by_cases h30:S.nest=30
 ·refine (AFe l S a 340 [] [.ptr (oid Hp.length 2) 0,.ro [.ptr o 0]] Av (Du S) o (Hp++[A0,A1,xo true t []]) ((Hp++[A0,A1,xo true t []]).set o (pr l (Du S))) ho' (by omega) Tryz.call340 (by simp) (getset ho') rfl (fun h=>h) (fun h=>absurd h30 h)).mono fun r H' h=>?_
  have e:Vf l a Dv.ei S=([],Ey 18 a S):=if_pos (by rw [h30];rfl)
  rw [e,if_pos h30]
  obtain ⟨h1,h2⟩:=h.1 h30
  exact ⟨h1,by rw [h2,Kk _ _ hlt]⟩
 have hq:=Y7 (S:=Du S) hl hi (hd.ei h30).1
 refine (AFe l S a 340 [] [.ptr (oid Hp.length 2) 0,.ro [.ptr o 0]] (.mk 6 t noV (J5 l Dv.ei (Du S)).1) (J5 l Dv.ei (Du S)).2 o (Hp++[A0,A1,xo true t []]) (Hp.set o (pr l (J5 l Dv.ei (Du S)).2)++[A0,A1,xo true t (J5 l Dv.ei (Du S)).1]) ho' (by omega) Tryz.call340 (by simp) (Ag (getset ho)) hq.nest (fun h y hy=>?_) (fun _ own=>?_)).mono fun r H' h=>?_
 ·rw [Kk _ _ hlt] at h
  rcases E4.1 hy with hy|hy
  ·rcases Lq hy with h1|h1
   ·obtain ⟨i,hi',rfl⟩:=To h1
    by_cases hio:i=o
    ·subst hio
     have:Hp[i]=pr l S:=by rw [Ab hi'] at ho;injection ho
     rw [this];exact Dj
    refine h _ (qy _ ?_)
    rw [qz]
    exact ⟨i,by rw [Bx (Ne.symm hio),Ab hi']⟩
   rw [h1];exact Dj
  simp only [B3,E6,or_false] at hy
  rcases hy with rfl|rfl|rfl
  ·exact h _ (S1 _ (by simp))
  ·exact h _ (S1 _ (by simp))
  exact AJb
 ·have hoid:oid Hp.length 2≠o:=by unfold oid;omega
  have e1:(Hp++[A0,A1,xo true t []]).set o (pr l (Du S))++own=(Hp.set o (pr l (Du S))++[A0,A1,xo true t []])++own:=by rw [Kk _ _ hlt]
  rw [e1]
  have g1:((Hp.set o (pr l (Du S))++[A0,A1,xo true t []])++own)[o]? = some (pr l (Du S)):=Ag (Ag (getset ho))
  have g2:((Hp.set o (pr l (Du S))++[A0,A1,xo true t []])++own)[oid Hp.length 2]? = some (xo true t []):=Ag (by
   have:=Ax (U:=Hp.set o (pr l (Du S))) (O:=[A0,A1,xo true t []]) (n:=2)
   rw [Dl] at this
   exact this)
  refine (APo l (Du S) t Dv o (oid Hp.length 2) _ hoid g1 g2 hi hl hll (hd.ei h30).1 (hd.ei h30).2).mono fun r H' h=>⟨h.1,h.2.trans ?_⟩
  rw [B8,Kk _ _ (by simpa using hlt),Bv]
  have:=Dm (U:=Hp.set o (pr l (J5 l Dv.ei (Du S)).2)) (O:=[A0,A1,xo true t []]++own) (n:=2) (x:=xo true t (J5 l Dv.ei (Du S)).1)
  rw [Dl] at this
  rw [this]
  simp
 have e:Vf l a Dv.ei S=((J5 l Dv.ei (Du S)).1,bq (J5 l Dv.ei (Du S)).2):=if_neg (by
  show ¬(((S.nest:Int)==30)=true)
  simp
  omega)
 rw [e,if_neg h30]
 obtain ⟨h1,h2⟩:=h.2 h30
 exact ⟨h1,by rw [h2,Kk _ _ (by simpa using hlt),Bv]⟩
theorem APp (l:List Tok) (S:PS) (Dv:Fam) (t:Tok) (o:Nat) (Hp:List AObj) (ho:Hp[o]? = some (pr l S)) (hi:(Ap S).i<l.length) (hl:TokEnd l) (hll:l.length≤1048576) (hnl:S.nest≤30) (hd:DeepC l Dv S.nest):ACall Tryz.prog 338 [.ptr o 0,Id t] Hp (fun r H'=>r=A8 (J6 l Dv t S).1∧H'=Hp.set o (pr l (J6 l Dv t S).2)):=by
 have hi0:S.i<l.length:=by have:S.i+1<l.length:=hi;omega
 have hol:=(Ad.1 ho).1
 have hkf:KFact l (Ap S) (Ee l Dv S):=Y8 hl _ hi (fun h=>(hd.ei h).1)
 refine Ae [.cell 4 27] [0,1] Tryz.func338 Tryz.ntmps338 (fun d=>?_)
 refine Z1 ?_;refine P1 ?_;refine A2 [2,3,4] ?_;refine Z1 ?_;refine A9 Tryz.call176 (AIq t.text _) ?_;refine A5 ?_;refine A2 [2,3,4,5] ?_;refine Z7 ?_;refine A2 [2,3,4,5,12] ?_
 refine A4 (fun ht12=>?_) (fun ht12=>?_)
 ·have hlt0:Cf t.text<0:=by simpa using ht12
  have e:J6 l Dv t S=(Av,Ey 9 t.at_ S):=if_pos hlt0
  refine Z15 ?_;refine Cj Tryz.call156 ho (by simp) Dj (wp l S 9 t.at_ o _ (Ag ho)) ?_;refine Gs ?_;refine Z13 ?_;exact Z81
 have hge:¬Cf t.text<0:=by simpa using ht12
 refine Qj ?_;refine Cj Tryz.call233 ho (by simp) Dj (ABq l S o _ (Ag ho) hi0 hll) ?_;refine Z14 ?_;refine A2 [2,3,4,5,6] ?_;refine AE3 ?_;refine Z14 ?_;refine A2 [2,3,4,5,6,7] ?_;refine Ez ?_;refine H5 2 5 6 ?_;refine Z12 ?_;refine Il ?_
 refine H3 (up':=(Hp.set o (pr l (Ap S))).set o (pr l (Ee l Dv S).2)) (own':=[Mg,.cells 118 [A3 (Af l S.i).kind,Ac (Af l S.i).text,A3 (Af l S.i).at_],xo true t.text (Ee l Dv S).1]) Tryz.call257 (by have:=AN3 l (Ap S) (Af l S.i).at_ t.text Dv o (Hp.set o (pr l (Ap S))) Mg (.cells 118 [A3 (Af l S.i).kind,Ac (Af l S.i).text,A3 (Af l S.i).at_]) gq (getset ho) hi hl hll hnl hd;rw [Dl] at this;exact this) (by simp) (fun h=>AFg h Dj) ?_
 refine A2 [2,3,4,5,7] ?_;refine Z2 ?_;refine Cj Tryz.call339 (getset (getset ho)) (by simp) Dj (AMz l (Ee l Dv S).2 Gb o _ (Ag (getset (getset ho))) hkf.lt hll) ?_;refine A2 [2,3,4,5,7] ?_;refine Z88 ?_
 refine A5 (h:=Bh (getset (getset (getset ho)))) (hr:=?_)
 refine Z85 ?_;refine Z53 ?_;refine A2 [2,3,4,7,41] ?_
 refine A4 (fun ht41=>?_) (fun ht41=>?_)
 ·have e:J6 l Dv t S=(Av,Ey 8 t.at_ (Gf l Gb (Ee l Dv S).2)):=by
   unfold J6
   rw [if_neg hge,if_pos (by have:=ht41;simp only [An] at this;exact this)]
  refine Z15 ?_;refine Cj Tryz.call156 (getset (getset (getset ho))) (by simp) Dj (wp l (Gf l Gb (Ee l Dv S).2) 8 t.at_ o _ (Ag (getset (getset (getset ho))))) ?_;refine Gs ?_;refine Z13 ?_;refine Ck ?_;exact Aa (Ai (B4 jA jS)) ⟨by rw [e,Al],by rw [e,Bv,Bv,Bv]⟩ (hlow:=low_agg _)
 have e:J6 l Dv t S=(.mk 6 t.text noV (Ee l Dv S).1,(Gf l Gb (Ee l Dv S).2)):=by
  unfold J6
  rw [if_neg hge,if_neg (by have:=ht41;simp only [An] at this;rw [K5] at this;exact this)]
 refine Z3 ?_;refine Vy ?_;refine Z13 ?_;exact Aa (Ai (B4 jA jS)) ⟨by rw [e,Yi];rfl,by rw [e,Bv,Bv]⟩ (hlow:=by have:=Am Hp.length (.mk 6 t.text noV (Ee l Dv S).1);rw [Yi] at this;simpa using this)

theorem bx {l:List Tok} (hl:TokEnd l) (hll:l.length≤1048576) (n:Nat) (Dv:Fam) (hn:n≤30) (hd:DeepC l Dv n):kw l Dv n:=fun o Hp S t ho hi hS _ _=>by
 subst hS
 exact APp l S Dv t o Hp ho hi hl hll hn hd
/-! Queries: what query.Parse, Print, Right, Same answer. -/
structure Qry where
 all:Bool
 cols:List Str
 whr:Expr
 lim:Int
/-- A parser: where it is, and the first fault. -/
structure QS where
 i:Nat
 code:Int
 at_:Int
def J8 (l:List Tok) (e:Int) (S:QS):QS:=if S.code==0 then ⟨S.i,e,((Af l S.i).at_:Int)⟩ else S
def isQ (l:List Tok) (s:Str) (S:QS):Bool:=((S.code==0)&&(((Af l S.i).kind==5) || ((Af l S.i).kind==2)))&&((Af l S.i).text==s)
def F6 (S:QS):QS:=⟨S.i+1,S.code,S.at_⟩
def l7 (l:List Tok) (s:Str) (S:QS):QS:=if isQ l s S then F6 S else S
def Sv (l:List Tok) (s:Str) (S:QS):QS:=if isQ l s S then F6 S else J8 l 8 S
def Hf (l:List Tok) (r:Qry×QS):Qry×QS:=
 if r.2.code != 0 then r else if (Af l r.2.i).kind != 1 then (r.1,J8 l 8 r.2) else if (r.1.cols.length:Int)==12 then (r.1,J8 l 3 r.2)
 else (⟨r.1.all,r.1.cols++[(Af l r.2.i).text],r.1.whr,r.1.lim⟩,F6 r.2)
def Li (l:List Tok):Nat→Qry×QS→Qry×QS
 | 0,r=>r
 | n+1,r=>if isQ l [44] r.2 then Li l n (Hf l (r.1,F6 r.2)) else r
def Mi (b:Bool) (q:Qry):Qry:=⟨b,q.cols,q.whr,q.lim⟩
def Nt (l:List Tok) (r:Qry×QS):Qry×QS:=if isQ l [42] r.2 then (Mi true r.1,F6 r.2) else Li l l.length (Hf l (Mi false r.1,r.2))
def Ph:Str:=[119,104,101,114,101]
def Nu:Str:=[108,105,109,105,116]
def gx:Str:=[115,101,108,101,99,116]
def Ka (l:List Tok) (r:Qry×QS):Qry×QS:=
 if isQ l Ph r.2 then
  if (atM l (r.2.i+1)).2.2.1 != 0 then (r.1,⟨r.2.i+1,(atM l (r.2.i+1)).2.2.1,(atM l (r.2.i+1)).2.2.2⟩)
  else (⟨r.1.all,r.1.cols,(atM l (r.2.i+1)).1,r.1.lim⟩,⟨(atM l (r.2.i+1)).2.1.toNat,r.2.code,r.2.at_⟩)
 else r
/-- The number that strconv.Atoi hands back. -/
def Vj (s:Str):Int:=match Lib.atoiAll s with|.ok v=>v|.range=>Lib.atoiSat s|_=>0
def It (l:List Tok) (r:Qry×QS):Qry×QS:=
 if isQ l Nu r.2 then
  if (Af l (r.2.i+1)).kind != 3 then (r.1,J8 l 8 (F6 r.2))
  else if decide ((100000:Int)<Vj (Af l (r.2.i+1)).text) then (r.1,J8 l 3 (F6 r.2))
  else (⟨r.1.all,r.1.cols,r.1.whr,Vj (Af l (r.2.i+1)).text⟩,F6 (F6 r.2))
 else r
def l8:Qry:=⟨false,[],Av,0⟩
def AN4 (l:List Tok) (S:QS):QS:=if (Af l S.i).kind != 0 then J8 l 8 S else S
def so (l:List Tok):Qry×QS:=
 let r:=It l (Ka l (Nt l (⟨false,[],Av, -1⟩,Sv l gx ⟨0,0,0⟩)))
 (r.1,AN4 l (Sv l [59] r.2))
def sq (l:List Tok):Qry×Int×Int:=if (so l).2.code != 0 then (l8,(so l).2.code,(so l).2.at_) else ((so l).1,0,0)
def Mj (s:Str):Qry×Int×Int:=if (Bi s).2.1 != 0 then (l8,(Bi s).2.1,((Bi s).2.2:Int)) else sq (Bi s).1
def Lj (q:Qry):Bool := !(eqE q.whr Av)
def Lk (q:Qry):Bool:=
 if (((q.all != ((q.cols.length:Int)==0)) || decide ((12:Int)<(q.cols.length:Int))) || decide (q.lim < -1)) || decide ((100000:Int)<q.lim) then false
 else (q.cols.all Dy)&&(!(Lj q) || Fs q.whr)
/-! The words of what is printed. -/
set_option maxRecDepth 8000
/-! The document's kinds of trees are infer's. -/
/-! Moves: what mig.Right, sound.* and the document's layers 18, 19 answer. -/
structure Mov where
 kind:Int
 take:List Str
 give:List Col
 ahead:List Expr
 back:List Expr
abbrev Cm (l:List Expr):AV:=.slice false 6 (l.map A8)
abbrev Nv (m:Mov):List AV:=[A3 m.kind,Fq m.take,Ar m.give,Cm m.ahead,Cm m.back]
abbrev Ie (m:Mov):AV:=.agg (Nv m)
abbrev Fu (l:List Mov):AV:=.slice false 5 (l.map Ie)
/-- Trees that may be walked. -/
structure OkEs (l:List Expr):Prop where
 len:l.length≤1048576
 ok:∀e∈l,okE 61 e
 size:∀e∈l,sizeE e≤1048576
 rng:∀e∈l,Dq Ge e=true
structure OkMov (m:Mov):Prop where
 takes:m.take.length≤1048576
 names:∀s∈m.take,s.length≤1048576
 gives:OkCols m.give
 gives2:m.give.length≤1000000
 ahead:OkEs m.ahead
 back:OkEs m.back
structure OkMovs (l:List Mov):Prop where
 len:l.length≤1048576
 each:∀m∈l,OkMov m
def Gx (m:Mov):Bool:=
 if ((m.ahead.length:Int) != (m.give.length:Int)) || ((m.back.length:Int) != (m.take.length:Int)) then false
 else if m.kind==1 then ((m.take.length:Int)==0)&&((m.give.length:Int)==1)
 else if m.kind==2 then ((m.take.length:Int)==1)&&((m.give.length:Int)==0)
 else if (m.kind==3) || (m.kind==6) then ((m.take.length:Int)==1)&&((m.give.length:Int)==1)
 else if m.kind==4 then ((m.take.length:Int)==1)&&decide ((1:Int)<(m.give.length:Int))
 else if m.kind==5 then decide ((1:Int)<(m.take.length:Int))&&((m.give.length:Int)==1)
 else false
def Pi (m:Mov) (c:Col):Bool:=Dy c.name&&(((Cw c.kind==[])==(m.kind==3)) && !((m.kind==3)&&(c.kind != 0)))
def Rn (m:Mov):Bool:=
 if m.kind==3 then eqE (m.ahead.getD 0 Av) (Cu (m.take.getD 0 []))&&eqE (m.back.getD 0 Av) (Cu (m.give.getD 0 ⟨[],0⟩).name)
 else if m.kind==6 then m.take.getD 0 []==(m.give.getD 0 ⟨[],0⟩).name else true
def I8 (m:Mov):Bool:=(((((Gx m&&m.give.all (Pi m))&&m.take.all Dy)&&m.ahead.all Au)&&m.back.all Au)&&Rn m)
def pi (l:List Mov):Bool:=decide ((l.length:Int)≤8)&&l.all I8
/-! Columns behind moves. -/
def Qu (e:Expr) (c:List Col) (w:Int):Bool:=((Ft e c).2==0)&&(((Ft e c).1==w) || ((Ft e c).1==0))
def Bt (c:List Col) (m:Mov):List Col:=
 if m.kind==3 then (if Ay (m.take.getD 0 []) c<0 then m.give else match m.give with
  | []=>[]
  | y::r=>⟨y.name,(c.getD (Ay (m.take.getD 0 []) c).toNat ⟨[],0⟩).kind⟩::r)
 else m.give
def Qk (e:Expr) (c:List Col) (w:Int):Int:=if (Ft e c).2 != 0 then (Ft e c).2 else if !Qu e c w then 10 else 0
def Cs (over:List Col):List Expr→List Col→Int
 | x::r,w::ws=>if Qk x over w.kind != 0 then Qk x over w.kind else Cs over r ws
 | _,_=>0
def Iu (c:List Col) (m:Mov):List Col:=m.take.map fun s=>c.getD (Ay s c).toNat ⟨[],0⟩
def C9 (c:List Col) (m:Mov):List Col×Int:=
 if (Dn c m.take (Bt c m)).2 != 0 then ([],(Dn c m.take (Bt c m)).2)
 else if Cs c m.ahead (Bt c m) != 0 then ([],Cs c m.ahead (Bt c m))
 else if Cs (Dn c m.take (Bt c m)).1 m.back (Iu c m) != 0 then ([],Cs (Dn c m.take (Bt c m)).1 m.back (Iu c m))
 else ((Dn c m.take (Bt c m)).1,0)
/-- The columns ahead of each move and behind the last one, till one is wrong; the error. -/
def Ct (c:List Col):List Mov→List (List Col)×Int
 | []=>([c],0)
 | m::r=>if (C9 c m).2 != 0 then ([c],(C9 c m).2) else (c::(Ct (C9 c m).1 r).1,(Ct (C9 c m).1 r).2)
def Nw (c:List Col) (l:List Mov):Bool:=D4 c&&pi l
/-- ref19.Steps. -/
def Nx (c:List Col) (l:List Mov):List (List Col)×Int:=if Nw c l then Ct c l else ([],1)
/-- sound.Steps. -/
def Cg (c:List Col) (l:List Mov):List (List Col)×Int:=if (Nx c l).2 != 0 then ([],(Nx c l).2) else Nx c l
def Dw (c:List Col) (l:List Mov):List Col×Int:=if (Cg c l).2 != 0 then ([],(Cg c l).2) else ((Cg c l).1.getLastD [],0)
theorem Qa {m:Mov} (h:I8 m=true):Gx m=true:=by
 unfold I8 at h
 simp only [Ao] at h
 exact h.1.1.1.1.1
theorem I4 {m:Mov} (h:Gx m=true):m.ahead.length=m.give.length∧m.back.length=m.take.length:=by
 unfold Gx at h
 split at h
 ·cases h
 rename_i h1
 simp only [Cx,bne_iff_ne,ne_eq,not_or,Classical.not_not] at h1
 omega
theorem Yj {m:Mov} (h:Gx m=true) (h3:((m.kind==3) || (m.kind==6))=true):m.take.length=1∧m.give.length=1:=by
 unfold Gx at h
 split at h
 ·cases h
 have h1:(m.kind==1)=false:=by simp at h3 ⊢;omega
 have h2:(m.kind==2)=false:=by simp at h3 ⊢;omega
 simp only [h1,h2,h3,if_true,if_false,Bd,Ao,beq_iff_eq] at h
 omega
theorem Ji (c:List Col) (m:Mov):(Bt c m).length=m.give.length:=by
 unfold Bt
 split
 ·split
  ·rfl
  split<;>simp_all
 rfl
set_option maxRecDepth 4000
/-! What query.Check, query.Run answer. -/
def De (q:Qry) (c:List Col):Int:=
 if !Lk q || !Io c then 1 else if q.cols.any (fun s=>decide (Ay s c<0)) then 9 else if !Lj q then 0
 else if (Ft q.whr c).2 != 0 then (Ft q.whr c).2 else if !Qu q.whr c 3 then 10 else 0
def Sw (r:Rs):Int:=if (((r.2==0)&&(r.1.kind != 0))&&(r.1.kind != 3))=true then 10 else r.2
def Yk (r:Rs):Bool:=(Sw r==0)&&(((r.1.kind==3)&&(r.1.n==1))&&(r.1.s==[]))
def Ca (q:Qry) (c:List Col) (l:List Val):Bool×Int:=if !F9 c l then (false,1) else if !Lj q then (true,0) else (Yk (Br q.whr c l),Sw (Br q.whr c l))
def K4 (q:Qry) (c:List Col) (x:Row):Row:=⟨x.key,if q.all then x.l else q.cols.map fun s=>x.l.getD (Ay s c).toNat noV⟩
def Mk (q:Qry) (c:List Col):List Row→List Row→List Row×Int
 | [],o=>(o,0)
 | x::r,o=>if (Ca q c x.l).2 != 0 then ([],(Ca q c x.l).2) else if (Ca q c x.l).1 then
   (if ((o.length+1:Nat):Int)==q.lim then (o++[K4 q c x],0) else Mk q c r (o++[K4 q c x])) else Mk q c r o
def Up (q:Qry) (c:List Col) (rows:List Row):List Row×Int:=if (De q c != 0) || (q.lim==0) then ([],De q c) else Mk q c rows []
/-! A limit cuts the answer. -/
/-! Some of all. -/
theorem x5 {q:Qry} {c:List Col} {l:List Val} (h:((Ca q c l).2 != 0)=false):F9 c l=true:=by
 cases hr:F9 c l with
 | true=>rfl
 | false=>simp [Ca,hr] at h
abbrev Yl (s:Sign):AV:=.agg [.slice false 1 (s.kids.map A3),A3 s.own]
theorem AC2 {m:Sign} {a o:Int} (h:m=⟨[a],o⟩):AV.agg [.slice false 1 [A3 a],A3 o]=Yl m:=by rw [h];rfl
theorem AC3 {m:Sign} {a b o:Int} (h:m=⟨[a,b],o⟩):AV.agg [.slice false 1 [A3 a,A3 b],A3 o]=Yl m:=by rw [h];rfl
theorem AC4 {m:Sign} {a b c o:Int} (h:m=⟨[a,b,c],o⟩):AV.agg [.slice false 1 [A3 a,A3 b,A3 c],A3 o]=Yl m:=by rw [h];rfl
theorem APq (s:Str) (Hp:List AObj):AFun Tryz.prog 181 [Ac s] Hp (Yl (Dz s)):=by
 refine Ae [.cell 2 186] [0] Tryz.func181 Tryz.ntmps181 (fun d=>?_)
 refine Z63 ?_;refine Z31 ?_;refine Jb ?_;refine Lo ?_
 refine W.join ⟨24,A6 2 (.ptr (oid Hp.length 0) 0) (A6 3 (Ac s) (A6 4 (B0 ((s==[111,114]) || (s==[97,110,100]))) (fun _=>.any))),Hp,[.cells 186 [.nil,A3 0]],[],none⟩ ?_ ?_
 ·refine Z1 ?_;refine A2 [2,3,4] ?_
  refine A4 (fun ht4=>?_) (fun ht4=>?_)
  ·refine G9 [2,3,4] ?_;exact AE5
  refine Z22 ?_;refine A2 [2,3,4] ?_;exact Z57
 refine A4 (fun ht4=>?_) (fun ht4=>?_)
 ·refine j4 ?_;exact Z61
 refine W.join ⟨24,A6 2 (.ptr (oid Hp.length 0) 0) (A6 3 (Ac s) (A6 9 (B0 ((((((s==[61]) || (s==[33,61])) || (s==[60])) || (s==[60,61])) || (s==[62])) || (s==[62,61]))) (fun _=>.any))),Hp,[.cells 186 [.nil,A3 0]],[],none⟩ ?_ ?_
 ·refine v7 ?_
  refine A4 (fun ht9=>?_) (fun ht9=>?_)
  ·exact zt
  refine v7 ?_
  refine A4 (fun ht9=>?_) (fun ht9=>?_)
  ·exact zt
  refine v7 ?_
  refine A4 (fun ht9=>?_) (fun ht9=>?_)
  ·exact zt
  refine v7 ?_
  refine A4 (fun ht9=>?_) (fun ht9=>?_)
  ·exact zt
  refine v7 ?_
  refine A4 (fun ht9=>?_) (fun ht9=>?_)
  ·exact zt
  refine Z22 ?_;refine A2 [2,3,9] ?_;exact Z57
 refine A4 (fun ht9=>?_) (fun ht9=>?_)
 ·refine j4 ?_;exact Z61
 refine Z1 ?_;refine A2 [2,18] ?_
 refine A4 (fun ht18=>?_) (fun ht18=>?_)
 ·refine j4 ?_;exact Z61
 refine Z20 ?_;refine j4 ?_;exact AM1
theorem APr (s:Str) (Hp:List AObj):AFun Tryz.prog 182 [Ac s] Hp (Yl (Fl s)):=by
 refine Ae [.cell 2 186] [0] Tryz.func182 Tryz.ntmps182 (fun d=>?_)
 refine Z63 ?_;refine Z31 ?_;refine Jb ?_;refine Lo ?_
 refine W.join ⟨28,A6 2 (.ptr (oid Hp.length 0) 0) (A6 3 (Ac s) (A6 4 (B0 ((s==[108,101,110]) || (s==[110,117,109]))) (fun _=>.any))),Hp,[.cells 186 [.nil,A3 0]],[],none⟩ ?_ ?_
 ·refine Z1 ?_;refine A2 [2,3,4] ?_
  refine A4 (fun ht4=>?_) (fun ht4=>?_)
  ·refine G9 [2,3,4] ?_;exact AE5
  refine Z22 ?_;refine A2 [2,3,4] ?_;exact Z57
 refine A4 (fun ht4=>?_) (fun ht4=>?_)
 ·exact zz
 refine v7 ?_
 refine A4 (fun ht9=>?_) (fun ht9=>?_)
 ·exact zz
 refine W.join ⟨28,A6 2 (.ptr (oid Hp.length 0) 0) (A6 3 (Ac s) (A6 13 (B0 ((s==[108,101,102,116]) || (s==[114,105,103,104,116]))) (fun _=>.any))),Hp,[.cells 186 [.nil,A3 0]],[],none⟩ ?_ ?_
 ·refine Z1 ?_;refine A2 [2,3,13] ?_
  refine A4 (fun ht13=>?_) (fun ht13=>?_)
  ·refine G9 [2,3,13] ?_;exact AE5
  refine Z22 ?_;refine A2 [2,3,13] ?_;exact Z57
 refine A4 (fun ht13=>?_) (fun ht13=>?_)
 ·exact zz
 refine Z1 ?_;refine A2 [2,3,18] ?_
 refine A4 (fun ht18=>?_) (fun ht18=>?_)
 ·exact zz
 refine Z1 ?_;refine A2 [2,22] ?_
 refine A4 (fun ht22=>?_) (fun ht22=>?_)
 ·exact zz
 refine Z20 ?_;refine j4 ?_;exact AM2
theorem APs (e:Expr) (Hp:List AObj):AFun Tryz.prog 146 [A8 e] Hp (Yl (Kf e.op e.text)):=by
 refine Ae [.cell 2 186] [0] Tryz.func146 Tryz.ntmps146 (fun d=>?_)
 refine AA9 ?_;refine A2 [1,2] ?_;refine Z7 ?_;refine A2 [1,2,4] ?_;refine W0 ?_;refine A2 [1,2,4,5] ?_
 refine A4 (fun ht5=>?_) (fun ht5=>?_)
 ·refine j4 ?_;exact AI2
 refine Z1 ?_;refine A2 [1,2,4,9] ?_
 refine A4 (fun ht9=>?_) (fun ht9=>?_)
 ·refine j4 ?_;exact AI2
 refine Z1 ?_;refine A2 [1,2,13] ?_
 refine A4 (fun ht13=>?_) (fun ht13=>?_)
 ·refine Z1 ?_;refine A9 Tryz.call181 (APq e.text _) ?_;refine Z38 ?_;exact AI2
 refine Z20 ?_;refine Z1 ?_;refine A9 Tryz.call182 (APr e.text _) ?_;refine Z38 ?_;exact AM3

theorem AN5 (a b:Int) (Hp:List AObj):AFun Tryz.prog 183 [A3 a,A3 b] Hp (.tup [A3 (F5 a b).1,B0 (F5 a b).2]):=by
 refine Ae [.tmp 4,.tmp 5] [0,1] Tryz.func183 Tryz.ntmps183 (fun d=>?_)
 refine fg ?_;refine je ?_;refine A2 [0,1,6] ?_
 refine A4 (fun ht6=>?_) (fun ht6=>?_)
 ·refine Z15 ?_;refine Z10 ?_;exact AL4
 refine Z15 ?_;refine X8 ?_;refine A2 [0,10] ?_
 refine A4 (fun ht10=>?_) (fun ht10=>?_)
 ·refine Z15 ?_;refine Z10 ?_;exact AL4
 refine Z20 ?_;refine ff ?_;exact AM4

structure FitAt (s:Sign) (ks:List Int) (x:Nat×Int):Prop where
 le:x.1≤ks.length
 eq:Gt s.kids ks 0=Gt (s.kids.drop x.1) (ks.drop x.1) x.2
theorem FitAt.step {s:Sign} {ks:List Int} {x:Nat×Int} (h:FitAt s ks x) (hk:x.1<ks.length) (hs:x.1<s.kids.length):Gt s.kids ks 0=(if s.kids[x.1] == -2 then Gt (s.kids.drop (x.1+1)) (ks.drop (x.1+1)) x.2 else if s.kids[x.1] == -1 then (if (F5 x.2 ks[x.1]).2 then Gt (s.kids.drop (x.1+1)) (ks.drop (x.1+1)) (F5 x.2 ks[x.1]).1 else none) else if (F5 s.kids[x.1] ks[x.1]).2 then Gt (s.kids.drop (x.1+1)) (ks.drop (x.1+1)) x.2 else none):=by
 rw [h.eq,Ig hk,Ig hs,Gt]
theorem FitAt.skip {s:Sign} {ks:List Int} {x:Nat×Int} (h:FitAt s ks x) (hk:x.1<ks.length) (hs:x.1<s.kids.length) (h2:(s.kids[x.1] == -2)=true):FitAt s ks (x.1+1,x.2):=⟨hk,by rw [h.step hk hs,if_pos h2]⟩
theorem FitAt.same {s:Sign} {ks:List Int} {x:Nat×Int} (h:FitAt s ks x) (hk:x.1<ks.length) (hs:x.1<s.kids.length) (h2:(s.kids[x.1] == -2)=false) (h1:(s.kids[x.1] == -1)=true) (hm:(F5 x.2 ks[x.1]).2=true):FitAt s ks (x.1+1,(F5 x.2 ks[x.1]).1):=⟨hk,by rw [h.step hk hs,if_neg (by rw [h2];simp),if_pos h1,if_pos hm]⟩
theorem FitAt.want {s:Sign} {ks:List Int} {x:Nat×Int} (h:FitAt s ks x) (hk:x.1<ks.length) (hs:x.1<s.kids.length) (h2:(s.kids[x.1] == -2)=false) (h1:(s.kids[x.1] == -1)=false) (hm:(F5 s.kids[x.1] ks[x.1]).2=true):FitAt s ks (x.1+1,x.2):=⟨hk,by rw [h.step hk hs,if_neg (by rw [h2];simp),if_neg (by rw [h1];simp),if_pos hm]⟩
theorem FitAt.bad {s:Sign} {ks:List Int} {x:Nat×Int} (h:FitAt s ks x) (hk:x.1<ks.length) (hs:x.1<s.kids.length) (h2:(s.kids[x.1] == -2)=false) (hm:(if s.kids[x.1] == -1 then (F5 x.2 ks[x.1]).2 else (F5 s.kids[x.1] ks[x.1]).2)=false):Oa s ks=(0,10):=by
 unfold Oa
 rw [h.step hk hs,if_neg (by rw [h2];simp)]
 split at hm
 ·rename_i h1
  rw [if_pos h1,if_neg (by rw [hm];simp)]
 rename_i h1
 rw [if_neg h1,if_neg (by rw [hm];simp)]
theorem FitAt.out {s:Sign} {ks:List Int} {x:Nat×Int} (h:FitAt s ks x) (hk:ks.length≤x.1):Oa s ks=if s.own == -1 then (x.2,0) else (s.own,0):=by
 unfold Oa
 rw [h.eq,mw hk]
 cases s.kids.drop x.1<;>rfl
theorem APt (s:Sign) (ks:List Int) (hks:ks.length≤s.kids.length) (hk2:ks.length≤1048576) (Hp:List AObj):AFun Tryz.prog 147 [Yl s,.slice false 1 (ks.map A3)] Hp (.tup [A3 (Oa s ks).1,A3 (Oa s ks).2]):=by
 refine Ae [.tmp 4,.tmp 5] [0,1] Tryz.func147 Tryz.ntmps147 (fun d=>?_)
 refine Z15 ?_;refine A2 [1,2] ?_;refine fh ?_;refine A2 [1,2,6] ?_;refine Z30 ?_;refine vp ?_
 refine Bg (α:=Nat×Int) (fun x=>⟨49,A6 2 (.ro [.slice false 1 (s.kids.map A3),A3 s.own]) (A6 6 (.ptr (oid Hp.length 0) 0) (A6 13 (.slice false 1 (ks.map A3)) (A6 14 (A3 (ks.length:Nat)) (A6 15 (A3 (x.1:Nat)) (fun _=>.any))))),Hp,[.cells 3 [A3 x.2]],[],none⟩) (fun x=>FitAt s ks x) (fun x=>ks.length-x.1) ((0,0)) ⟨Aq _,rfl⟩ (Bl (by simp)) rfl (fun x hx=>?_)
 refine Z2 ?_;refine A2 [2,6,13,14,15,16] ?_
 refine Co (fun ht16=>?_) (fun ht16=>?_)
 ·have hlt:x.1<ks.length:=by simpa using ht16
  have hls:x.1<s.kids.length:=by omega
  refine Qg ?_
  refine A5 (h:=Ah (x.1) (A3 ks[x.1]) (fun _=>B7 hlt)) (hr:=?_)
  refine Z12 ?_;refine A2 [2,6,7,8,13,14,15] ?_;refine Z15 ?_
  refine A5 (h:=Ah (x.1) (A3 s.kids[x.1]) (fun _=>B7 hls)) (hr:=?_)
  refine Qe ?_;refine A2 [2,6,8,9,13,14,15] ?_;refine Z7 ?_;refine A2 [2,6,8,9,13,14,15,26] ?_
  refine A4 (fun ht26=>?_) (fun ht26=>?_)
  ·refine G9 [2,6,13,14,15] ?_;refine Z59 ?_;refine K.blE ?_;refine H4 ?_;refine Z22 ?_;refine vp ?_
   first|(refine Bm (x.1+1,x.2) (hx.skip hlt hls ht26) (by show ks.length-(x.1+1)<ks.length-x.1;omega) ?_;exact D0 (own:=[.cells 3 [A3 x.2]]) (fun _=>.refl _) (by repeat (first|exact Bc|refine Bb (by first|(simp [or_imp,forall_and];done)|(simp [oid]<;>omega)) ?_)) (by intro y hy;rw [Bo.1 hy];intro z hz;rw [Bo.1 hz];simp) (by simp))|(refine Bm (x.1+1,(F5 x.2 ks[x.1]).1) (hx.same hlt hls ht26 ht28 (by simpa using ht38)) (by show ks.length-(x.1+1)<ks.length-x.1;omega) ?_;exact D0 (own:=[.cells 3 [A3 (F5 x.2 ks[x.1]).1]]) (fun _=>.refl _) (by repeat (first|exact Bc|refine Bb (by first|(simp [or_imp,forall_and];done)|(simp [oid]<;>omega)) ?_)) (by intro y hy;rw [Bo.1 hy];intro z hz;rw [Bo.1 hz];simp) (by simp))|(refine Bm (x.1+1,x.2) (hx.want hlt hls ht26 ht28 (by simpa using ht38)) (by show ks.length-(x.1+1)<ks.length-x.1;omega) ?_;exact D0 (own:=[.cells 3 [A3 x.2]]) (fun _=>.refl _) (by repeat (first|exact Bc|refine Bb (by first|(simp [or_imp,forall_and];done)|(simp [oid]<;>omega)) ?_)) (by intro y hy;rw [Bo.1 hy];intro z hz;rw [Bo.1 hz];simp) (by simp))
  refine Qj ?_;refine A2 [2,6,8,9,10,13,14,15] ?_;refine Z7 ?_;refine A2 [2,6,8,10,13,14,15,28] ?_
  refine A4 (fun ht28=>?_) (fun ht28=>?_)
  ·refine Z52 ?_;refine A2 [2,6,8,10,13,14,15] ?_;refine H4 ?_;refine Z23 ?_;refine A9 Tryz.call183 (AN5 _ _ _) ?_;refine Z75 ?_;refine A2 [2,6,10,11,12,13,14,15] ?_;refine Z7 ?_;refine A2 [2,6,10,11,13,14,15,38] ?_
   refine A4 (fun ht38=>?_) (fun ht38=>?_)
   ·have hbad:=hx.bad hlt hls ht26 (by first|(rw [if_pos ht28];simpa using ht38)|(rw [if_neg (by rw [ht28];simp)];simpa using ht38))
    refine AA0 ?_;exact ALc
   refine Z3 ?_;refine Z47 ?_;refine Gs ?_;refine vp ?_;refine R9 ?_;refine vp ?_
   first|(refine Bm (x.1+1,x.2) (hx.skip hlt hls ht26) (by show ks.length-(x.1+1)<ks.length-x.1;omega) ?_;exact D0 (own:=[.cells 3 [A3 x.2]]) (fun _=>.refl _) (by repeat (first|exact Bc|refine Bb (by first|(simp [or_imp,forall_and];done)|(simp [oid]<;>omega)) ?_)) (by intro y hy;rw [Bo.1 hy];intro z hz;rw [Bo.1 hz];simp) (by simp))|(refine Bm (x.1+1,(F5 x.2 ks[x.1]).1) (hx.same hlt hls ht26 ht28 (by simpa using ht38)) (by show ks.length-(x.1+1)<ks.length-x.1;omega) ?_;exact D0 (own:=[.cells 3 [A3 (F5 x.2 ks[x.1]).1]]) (fun _=>.refl _) (by repeat (first|exact Bc|refine Bb (by first|(simp [or_imp,forall_and];done)|(simp [oid]<;>omega)) ?_)) (by intro y hy;rw [Bo.1 hy];intro z hz;rw [Bo.1 hz];simp) (by simp))|(refine Bm (x.1+1,x.2) (hx.want hlt hls ht26 ht28 (by simpa using ht38)) (by show ks.length-(x.1+1)<ks.length-x.1;omega) ?_;exact D0 (own:=[.cells 3 [A3 x.2]]) (fun _=>.refl _) (by repeat (first|exact Bc|refine Bb (by first|(simp [or_imp,forall_and];done)|(simp [oid]<;>omega)) ?_)) (by intro y hy;rw [Bo.1 hy];intro z hz;rw [Bo.1 hz];simp) (by simp))
  refine jg ?_;refine A9 Tryz.call183 (AN5 _ _ _) ?_;refine Z75 ?_;refine A2 [2,6,10,11,12,13,14,15] ?_;refine Z7 ?_;refine A2 [2,6,10,11,13,14,15,38] ?_
  refine A4 (fun ht38=>?_) (fun ht38=>?_)
  ·have hbad:=hx.bad hlt hls ht26 (by first|(rw [if_pos ht28];simpa using ht38)|(rw [if_neg (by rw [ht28];simp)];simpa using ht38))
   refine AA0 ?_;exact ALc
  refine Z3 ?_;refine Z47 ?_;refine Gs ?_;refine vp ?_;refine R9 ?_;refine vp ?_
  first|(refine Bm (x.1+1,x.2) (hx.skip hlt hls ht26) (by show ks.length-(x.1+1)<ks.length-x.1;omega) ?_;exact D0 (own:=[.cells 3 [A3 x.2]]) (fun _=>.refl _) (by repeat (first|exact Bc|refine Bb (by first|(simp [or_imp,forall_and];done)|(simp [oid]<;>omega)) ?_)) (by intro y hy;rw [Bo.1 hy];intro z hz;rw [Bo.1 hz];simp) (by simp))|(refine Bm (x.1+1,(F5 x.2 ks[x.1]).1) (hx.same hlt hls ht26 ht28 (by simpa using ht38)) (by show ks.length-(x.1+1)<ks.length-x.1;omega) ?_;exact D0 (own:=[.cells 3 [A3 (F5 x.2 ks[x.1]).1]]) (fun _=>.refl _) (by repeat (first|exact Bc|refine Bb (by first|(simp [or_imp,forall_and];done)|(simp [oid]<;>omega)) ?_)) (by intro y hy;rw [Bo.1 hy];intro z hz;rw [Bo.1 hz];simp) (by simp))|(refine Bm (x.1+1,x.2) (hx.want hlt hls ht26 ht28 (by simpa using ht38)) (by show ks.length-(x.1+1)<ks.length-x.1;omega) ?_;exact D0 (own:=[.cells 3 [A3 x.2]]) (fun _=>.refl _) (by repeat (first|exact Bc|refine Bb (by first|(simp [or_imp,forall_and];done)|(simp [oid]<;>omega)) ?_)) (by intro y hy;rw [Bo.1 hy];intro z hz;rw [Bo.1 hz];simp) (by simp))
 have hxe:ks.length≤x.1:=by simpa using ht16
 have hout:=hx.out hxe
 refine Z27 ?_;refine Z30 ?_;refine A2 [2,6,45] ?_
 refine A4 (fun ht45=>?_) (fun ht45=>?_)
 ·refine Z15 ?_;refine Z10 ?_;refine Ck ?_;exact Aa (B5 A7 A7) ⟨by rw [hout,if_pos ht45],rfl⟩
 refine Z3 ?_;refine AE9 ?_;exact Aa (B5 A7 A7) ⟨by rw [hout,if_neg (by rw [ht45];simp)],rfl⟩

theorem AC5 {n k:Nat} {own:Bool} {l:List Int}:Low n (.slice own k (l.map A3)):=low_slice.2 fun y hy=>by
 obtain ⟨z,_,rfl⟩:=C3.1 hy
 simp
theorem sr {n:Nat} {e:Expr}:Low n (.ro (El e)):=by have:=Am n e;rw [Al] at this;simpa using this
theorem Gi {c:List Col} {t:Str} (h:¬(Ay t c<0)):∃(j:Nat),Ay t c=(j:Int)∧j<c.length:=by
 obtain ⟨j,y,h2,_,h3⟩:=find_mem.1 h
 exact ⟨j,h3,(Ad.1 h2).1⟩
theorem AC6 {c:List Col} {e:Expr} (h:(e.op==1)=true):Ba c e=(e.val.kind,0):=by rw [Pd];unfold Ms;rw [if_pos h]
theorem x6 {c:List Col} {e:Expr} (h1:(e.op==1)=false) (h:(e.op==2)=true):Ba c e=Ir c e.text:=by rw [Pd];unfold Ms;rw [h1,if_pos h];rfl
theorem AC7 {c:List Col} {e:Expr} (h1:(e.op==1)=false) (h2:(e.op==2)=false) {x:Nat} (hx:x<e.kids.length) (h0:∀(j:Nat) (y:Expr),j<x→e.kids[j]? = some y→((Ba c y).2 != 0)=false) (hb:((Ba c e.kids[x]).2 != 0)=true):Ba c e=(0,(Ba c e.kids[x]).2):=by
 rw [Pd]
 unfold Ms
 rw [h1,h2]
 have:(e.kids.map (Ba c)).find? (fun q=>q.2 != 0)=some ((e.kids.map (Ba c))[x]'(by simpa using hx)):=g8 (by simpa using hx) (by simpa using hb) (fun j y hj hy=>by
  rw [C5,E7] at hy
  obtain ⟨z,hz,rfl⟩:=hy
  exact h0 j z hj hz)
 rw [this]
 simp
theorem AC8 {c:List Col} {e:Expr} (h1:(e.op==1)=false) (h2:(e.op==2)=false) (h0:∀(j:Nat) (y:Expr),j<e.kids.length→e.kids[j]? = some y→((Ba c y).2 != 0)=false):Ba c e=Oa (Kf e.op e.text) (e.kids.map fun y=>(Ba c y).1):=by
 rw [Pd]
 unfold Ms
 rw [h1,h2]
 have:(e.kids.map (Ba c)).find? (fun q=>q.2 != 0)=none:=U1 (fun j y hy=>by
  rw [C5,E7] at hy
  obtain ⟨z,hz,rfl⟩:=hy
  exact h0 j z (Ad.1 hz).1 hz)
 rw [this]
 simp only [Jo]
 rfl
theorem x7 (f:Expr→Int) (l:List Expr) {x:Nat} (h:x<l.length):((l.take x).map f).map A3++[A3 (f l[x])]=((l.take (x+1)).map f).map A3:=by rw [Kl h,Bj,Bj];rfl
theorem APu (c:List Col) (hc:OkCols c):∀(n:Nat) (e:Expr),okE n e→Dq Es e=true→∀Hp:List AObj,AFun Tryz.prog 110 [A8 e,Ar c] Hp (.tup [A3 (Ba c e).1,A3 (Ba c e).2]):=by
 intro n
 induction n with
 | zero=>exact fun e h=>h.elim
 | succ n ih =>
 intro e hok hnd Hp
 have hnd0:=hnd
 rw [Ip,Ao] at hnd0
 refine Ae [.tmp 4,.tmp 5] [0,1] Tryz.func110 Tryz.ntmps110 (fun d=>?_)
 refine Z15 ?_;refine A2 [1,2] ?_;refine Z7 ?_;refine A2 [1,2,13] ?_;refine W0 ?_;refine A2 [1,2,13,14] ?_
 refine A4 (fun ht14=>?_) (fun ht14=>?_)
 ·have hk:=AC6 (c:=c) ht14
  refine Z1 ?_;refine Z12 ?_;refine Z10 ?_;refine Z5 ?_;exact AIh
 refine Z1 ?_;refine A2 [1,2,19] ?_
 refine A4 (fun ht19=>?_) (fun ht19=>?_)
 ·have hk:=x6 (c:=c) ht14 ht19
  refine Z15 ?_;refine A9 Tryz.call60 (c60 c hc e.text _) ?_;refine A5 ?_;refine A2 [1,6] ?_;refine Z7 ?_;refine A2 [1,6,26] ?_
  refine A4 (fun ht26=>?_) (fun ht26=>?_)
  ·have hk2:Ir c e.text=(0,9):=if_pos (by simpa using ht26)
   refine AA0 ?_;exact ALd
  have hneg:¬(Ay e.text c<0):=by simpa using ht26
  obtain ⟨j,hj,hjl⟩:=Gi hneg
  have hk2:Ir c e.text=(c[j].kind,0):=by
   unfold Ir
   rw [if_neg hneg,hj,Int.toNat_natCast,Cc,Ab hjl]
   rfl
  rw [hj]
  refine Ni ?_
  refine A5 (h:=Ah (j) (C2 c[j]) (fun _=>B7 hjl)) (hr:=?_)
  refine Z58 ?_;refine Z10 ?_;exact ALd
 refine Z20 ?_;refine Z2 ?_;refine A2 [1,2,7] ?_;refine Z62 ?_;refine P0 7 1 ?_;refine Z58 ?_;refine A2 [1,2,7,33,34,35] ?_
 refine Bg (α:=Nat) (fun x=>⟨59,A6 1 (Ar c) (A6 2 (.ro (El e)) (A6 7 (.slice true 1 (((e.kids.take x).map fun y=>(Ba c y).1).map A3)) (A6 33 (.slice false 6 (e.kids.map A8)) (A6 34 (A3 (e.kids.length:Nat)) (A6 35 (A3 (x:Nat)) (fun _=>.any)))))),Hp,[],[],none⟩) (fun x=>x≤e.kids.length∧∀(j:Nat) (y:Expr),j<x→e.kids[j]? = some y→((Ba c y).2 != 0)=false) (fun x=>e.kids.length-x) (0) ⟨Aq _,fun j y h=>by omega⟩ (Bl (by simp)) rfl (fun x hx=>?_)
 refine Z2 ?_;refine A2 [1,2,7,33,34,35,36] ?_
 refine Co (fun ht36=>?_) (fun ht36=>?_)
 ·have hlt:x<e.kids.length:=by simpa using ht36
  have hkl:=hok.2.1
  refine Z77 ?_
  refine A5 (h:=Ah (x) (A8 e.kids[x]) (fun _=>B7 hlt)) (hr:=?_)
  refine Qe ?_;refine A2 [1,2,7,9,33,34,35] ?_;refine Z1 ?_;refine A9 Tryz.call110 (ih e.kids[x] (hok.2.2 _ (Bf hlt)) ((Ff _ _).1 hnd0.2 _ (Bf hlt)) _) ?_;refine Z75 ?_;refine A2 [1,2,7,10,11,33,34,35] ?_;refine Z7 ?_;refine A2 [1,2,7,10,11,33,34,35,46] ?_
  refine A4 (fun ht46=>?_) (fun ht46=>?_)
  ·have hkb:=AC7 (c:=c) ht14 ht19 hlt hx.2 ht46
   refine Z15 ?_;refine Z10 ?_;refine Ck ?_;refine Z51 ?_;exact Aa (B5 A7 A7) ⟨by rw [hkb],rfl⟩
  refine Z3 ?_;refine fe ?_;refine Z71 ?_
  refine Ek jU Tryz.type3 ?_ ?_ ?_
  ·simp only [An,C0,B2,Bz,Tryz.t3];omega
  ·simp only [An,C0,B2,Bz,Tryz.t3];omega
  refine I0 ?_;refine A2 [1,2,7,33,34,35] ?_;refine R9 ?_;refine A2 [1,2,7,33,34,35] ?_;refine Bm (x+1) ⟨hlt,D3 hlt hx.2 ht46⟩ (by omega) ?_
  simp only [show Tryz.t3.size=1 from rfl,x7]
  exact D0 (own:=[]) (fun _=>.refl _) (by repeat (first|exact Bc|refine Bb (by first|exact AC5|exact sr|exact D5|(simp [or_imp,forall_and];done)) ?_)) (by simp) (by simp)
 have hxe:e.kids.take x=e.kids:=Ej (by simp at ht36;omega)
 have hxl:e.kids.length≤x:=by simp at ht36;omega
 have hka:=AC8 (c:=c) ht14 ht19 (fun j y hj hy=>hx.2 j y (by omega) hy)
 rw [hxe]
 refine nq ?_;refine A9 Tryz.call146 (APs e _) ?_;refine A5 ?_
 refine A9 Tryz.call147 (APt (Kf e.op e.text) (e.kids.map fun y=>(Ba c y).1) (by rw [ABp hnd0.1 ht14 ht19];simp) (by simpa using hok.2.1) _) ?_
 refine Z58 ?_;refine Z10 ?_;exact Aa (B5 A7 A7) ⟨by rw [hka],rfl⟩

theorem M0 {e:Expr} (h:Au e=true):Dq Es e=true:=by
 rw [Ga] at h
 unfold Fs at h
 rw [Ao] at h
 exact h.2
theorem c62 (n:Nat) (e:Expr) (hok:okE n e) (hn:n≤1048576) (c:List Col) (hc:OkCols c) (Hp:List AObj):AFun Tryz.prog 62 [A8 e,Ar c] Hp (.tup [A3 (Ft e c).1,A3 (Ft e c).2]):=by
 refine Ae [.tmp 4,.tmp 5] [0,1] Tryz.func62 Tryz.ntmps62 (fun d=>?_)
 refine Z15 ?_;refine A2 [1,2] ?_;refine Z31 ?_;refine A9 Tryz.call96 (c96 n e hok hn _) ?_;refine Qf ?_;refine C1 Tryz.call50 (fun hB=>c50 c hc _) ?_;refine Z53 ?_;refine A2 [1,2,13] ?_
 refine A4 (fun ht13=>?_) (fun ht13=>?_)
 ·have hk:Ft e c=(0,1):=if_pos ht13
  refine AA0 ?_;exact AIh
 have hk:Ft e c=Ba c e:=if_neg (by rw [ht13];simp)
 have hr:Au e=true:=by simp only [E3,Oe] at ht13;exact ht13.1
 refine Ni ?_;refine A9 Tryz.call110 (APu c hc n e hok (M0 hr) _) ?_;refine Z58 ?_;refine Z10 ?_;exact AIh

theorem Ef {n k:Nat} {o:Bool} {l:List Col}:Low n (.slice o k (l.map C2)):=by simp [or_imp,forall_and]
theorem AJc {α β:Type} {f:α→β} {l:List α} {k:Nat} {y:α} (h:l[k]? = some y):(l.map f)[k]? = some (f y):=by rw [C5,h];rfl
theorem APv (c:List Col) (hc:OkCols c) (take:List Str) (ht:take.length≤1048576) (give:List Col) (hg:OkCols give) (hg2:give.length≤1000000) (Hp:List AObj):AFun Tryz.prog 165 [Ar c,Fq take,Ar give] Hp (.tup [Ar (Dn c take give).1,A3 (Dn c take give).2]):=by
 refine Ae [.tmp 6,.tmp 7] [0,1,2,9] Tryz.func165 Tryz.ntmps165 (fun d=>?_)
 refine Z1 ?_;refine A2 [0,1,2,9] ?_;refine Z31 ?_;refine A9 Tryz.call125 (AMw c hc _) ?_;refine A5 ?_;refine A2 [0,1,2,9,12] ?_
 refine A4 (fun ht12=>?_) (fun ht12=>?_)
 ·have hr:D4 c=false:=by rw [Mq] at ht12;simpa using ht12
  refine AA4 ?_;refine nn ?_;exact Aa (B5 A7 A7) ⟨by rw [ABh hr];try rfl,rfl⟩
 have hr:D4 c=true:=by rw [Mq] at ht12;simpa using ht12
 refine ji ?_;refine A9 Tryz.call210 (AP8 c hc take ht _) ?_;refine A5 ?_;refine A2 [0,1,2,9,16] ?_
 refine A4 (fun ht16=>?_) (fun ht16=>?_)
 ·have hk:Iq c take=false:=by simpa using ht16
  refine AA4 ?_;refine nn ?_;exact Aa (B5 A7 A7) ⟨by rw [ABi hr hk];try rfl,rfl⟩
 have hk:Iq c take=true:=by simpa using ht16
 refine Z3 ?_;refine Z24 ?_;refine A2 [0,1,2,8,9] ?_;refine Z62 ?_;refine Mb 0 2 ?_
 refine Ma (fun hlow=>?_)
 refine Z0 ?_;refine A9 Tryz.call211 (APa c take _) ?_;refine A2 [2,8,9,19] ?_;refine Lo ?_
 refine Nh (m:=1) Tryz.call239 (fun FR as' bd' hFR has hbd=>?_)
 have hFRl:∀s,Low (Hp.length+3) (FR s):=by
  intro s
  rw [hFR]
  refine Oi ?_
  revert s
  repeat (first|exact Bc|refine Bb (by simp [oid,or_imp,forall_and]<;>try omega) ?_)
 have hOl:∀{k:Nat},∀x∈[AObj.cells 30 [.slice true 2 ((Di (c.take k) take).map C2)],AObj.defs,AObj.loop LoopState.ready none FR 41 #[20] as' bd' (oid Hp.length 1)],ObjLow (Hp.length+3) x:=by
  intro k x hx
  simp only [B3,Et,or_false] at hx
  rcases hx with rfl|rfl|rfl
  ·intro y hy
   rw [Bo.1 hy]
   exact Ef
  ·trivial
  exact AAd
 refine ⟨_,APb (oid Hp.length 2) c take hc.len ht (fun k=>Hp++[AObj.cells 30 [.slice true 2 ((Di (c.take k) take).map C2)],AObj.defs,AObj.loop LoopState.ready none FR 41 #[20] as' bd' (oid Hp.length 1)]) (fun k=>by simp) (by simp [oid]) (fun k x hx=>?_) (fun k y hk hcn=>by simp only [wo hk hcn]) (fun k y X hk hcn=>?_),?_⟩
 ·have:=Kp (fun x hx=>Nl (by omega) (hlow x hx)) hOl x hx
  simpa using this
 ·generalize hV:Hp++[AObj.cells 30 [.slice true 2 ((Di (c.take k) take).map C2)],AObj.defs,AObj.loop LoopState.ready none FR 41 #[20] as' bd' (oid Hp.length 1)]++X=V
  have hL:V[oid Hp.length 2]? = some (AObj.loop LoopState.ready none FR 41 #[20] as' bd' (oid Hp.length 1)):=by rw [←hV,B8,Ax];rfl
  have hA0:V[oid Hp.length 0]? = some (AObj.cells 30 [.slice true 2 ((Di (c.take k) take).map C2)]):=by rw [←hV,B8,Ax];rfl
  refine L8 (pd:=none) (fr:=FR) (sz:=41) (ps:=#[20]) (df:=oid Hp.length 1) (asg:=as') (bd:=bd') hL rfl (by decide) (fun d=>?_)
  subst hFR has hbd
  refine G9 [8,20] ?_;refine Hj ?_;refine Z14 ?_;refine A2 [8,9] ?_
  refine ⟨rfl,none,hL,?_⟩
  generalize hbz:(AObj.loop LoopState.busy _ _ _ _ _ _ _)=bz
  have hA:(V.set (oid Hp.length 2) bz)[oid Hp.length 0]? = some (AObj.cells 30 [.slice true 2 ((Di (c.take k) take).map C2)]):=by rw [Bx (Cb (by decide))];exact hA0
  refine Lo ?_;refine Hj ?_;refine AEg ?_
  refine Ek jU Tryz.type69 ?_ ?_ ?_
  ·have h1:=K2 (c.take k) take;have h2:=hc.len;simp only [C0] at h1;simp [Tryz.t69];omega
  ·have h1:=K2 (c.take k) take;have h2:=hc.len;simp only [C0] at h1;simp [Tryz.t69];omega
  refine G8 jS (getset hA) ?_ ?_
  ·exact wn
  refine Vz ?_
  subst hbz
  refine AAc ?_
  refine ⟨rfl,?_⟩
  subst hV
  simp only [B8,Dm,E9,E5,List.set_cons_succ,List.set_cons_zero]
  rw [AFb hk hcn,Bj]
  rfl
 rintro r H' rfl
 simp only [Lt]
 refine ⟨Hp,_,_,_,rfl,rfl,fun h=>h,?_,rfl,by simp,?_⟩
 ·intro o ho
  have:o=oid Hp.length 1:=by simpa using ho
  subst this
  rw [Ax]
  rfl
 refine Z11 ?_;refine Ez ?_;refine X2 jA ?_;refine A5 ?_
 refine Ek jU Tryz.type69 ?_ ?_ ?_
 ·have h1:=K2 c take;have h2:=Uj hr;simp [Tryz.t69];omega
 ·have h1:=K2 c take;have h2:=Uj hr;simp [Tryz.t69];omega
 refine X3 jS ?_;refine A2 [8] ?_;refine Z77 ?_
 have e10:(Di c take).map C2++give.map C2=(Di c take++give).map C2:=(Bj ..).symm
 rw [e10]
 generalize hout:Di c take++give=out
 have ho:OkCols out:=ABn hc hr hg hg2 hout
 refine A5 ?_;refine A9 Tryz.call212 (AP9 out ho _) ?_;refine Z0 ?_;refine A2 [8,28] ?_
 refine A4 (fun ht28=>?_) (fun ht28=>?_)
 ·have hn:Lh out=false:=by simpa using ht28
  refine AA4 ?_;refine Z94 ?_;refine Z5 ?_;exact Aa (B5 A7 A7) ⟨by rw [ABj hr hk hout hn];try rfl,rfl⟩
 have hn:Lh out=true:=by simpa using ht28
 refine Z2 ?_;refine A9 Tryz.call50 (c50 out ho _) ?_;refine Z0 ?_;refine A2 [8,32] ?_
 refine A4 (fun ht32=>?_) (fun ht32=>?_)
 ·have hq:J3 out=false:=by rw [Lz] at ht32;simpa using ht32
  refine AA4 ?_;refine Z94 ?_;refine Z5 ?_;exact Aa (B5 A7 A7) ⟨by rw [ABk hr hk hout hn hq];try rfl,rfl⟩
 have hq:J3 out=true:=by rw [Lz] at ht32;simpa using ht32
 refine Z23 ?_;refine A2 [8,36] ?_
 refine A4 (fun ht36=>?_) (fun ht36=>?_)
 ·have h12:12<out.length:=by simp at ht36;omega
  refine AA4 ?_;refine Z94 ?_;refine Z5 ?_;exact Aa (B5 A7 A7) ⟨by rw [ABl hr hk hout hn hq h12];try rfl,rfl⟩
 have h12:¬12<out.length:=by simp at ht36;omega
 refine Z20 ?_;refine Z15 ?_;refine Z17 ?_;exact Aa (B5 A7 A7) ⟨by rw [ABm hr hk hout hn hq h12];try rfl,rfl⟩

theorem c6u (c:List Col) (Hp:List AObj):AFun Tryz.prog 9 [Ar c] Hp (B0 (Lx c)):=by
 refine Ae [.tmp 2] [0] Tryz.func9 Tryz.ntmps9 (fun d=>?_)
 refine jf ?_;refine A2 [0,6] ?_
 refine A4 (fun ht6=>?_) (fun ht6=>?_)
 ·rw [An] at ht6
  have hm:Lx c=true:=by unfold Lx;rw [ht6];rfl
  exact AA1
 rw [An] at ht6
 have hl50:c.length≤50:=by simp at ht6;omega
 refine Qh ?_;refine Mn ?_
 refine Bg (α:=Nat) (fun x=>⟨20,A6 0 (Ar c) (A6 3 (A3 (x:Nat)) (fun _=>.any)),Hp,[],[],none⟩) (fun x=>x≤c.length∧∀(j:Nat) (v:Col),j<x→c[j]? = some v→decide ((100:Int)<(v.name.length:Int))=false) (fun x=>c.length-x) (0) ⟨Aq _,fun j v h=>by omega⟩ (Bl (by simp)) rfl (fun x hx=>?_)
 refine Z88 ?_;refine A2 [0,3,10] ?_
 refine A4 (fun ht10=>?_) (fun ht10=>?_)
 ·have hlt:x<c.length:=by simpa using ht10
  refine Tx ?_;refine Z1 ?_
  refine A5 (h:=Ah (x) (C2 c[x]) (fun _=>B7 hlt)) (hr:=?_)
  refine Z58 ?_;refine A2 [0,3,19] ?_
  refine A4 (fun ht19=>?_) (fun ht19=>?_)
  ·have hm:Lx c=true:=by unfold Lx;rw [Cx];exact .inr (Fi.2 ⟨c[x],Bf hlt,ht19⟩)
   refine Z42 ?_;exact X6
  refine Z20 ?_;refine Z52 ?_
  refine A5 (h:=Tt (h1:=fun _=>by omega) (h2:=fun _=>by omega)) (hr:=?_)
  refine A5 ?_;refine Mn ?_;exact AKx
 have hxe:c.length≤x:=by simpa using ht10
 have hm:Lx c=false:=by
  unfold Lx
  rw [ht6,F1,If]
  intro v hv
  obtain ⟨j,hj⟩:=C6 hv
  have:=hx.2 j v (by have:=(Ad.1 hj).1;omega) hj
  rw [this]
  simp
 exact AEh

/-- law18.Wide. -/
def Ll (m:Mov):Bool:=(((((Lx m.give || decide ((20:Int)<(m.take.length:Int))) || decide ((20:Int)<(m.ahead.length:Int))) || decide ((20:Int)<(m.back.length:Int))) || m.take.any fun s=>decide ((100:Int)<(s.length:Int))) || m.ahead.any Pb) || m.back.any Pb
def Iv (l:List Mov):Bool:=decide ((12:Int)<(l.length:Int)) || l.any Ll
theorem My {α:Type} {p:α→Bool} {l:List α} {x:Nat} (h:l.length≤x) (hp:∀(j:Nat) (v:α),j<x→l[j]? = some v→p v=false):l.any p=false:=by
 rw [If]
 intro v hv
 obtain ⟨j,hj⟩:=C6 hv
 rw [hp j v (by have:=(Ad.1 hj).1;omega) hj]
 simp
theorem Ny {n:Nat} {m:Mov}:∀y∈Nv m,Low n y:=by
 intro y hy
 simp only [Nv,B3,Et,or_false] at hy
 rcases hy with rfl|rfl|rfl|rfl|rfl<;>simp [or_imp,forall_and,Am]
theorem l9 {n:Nat} {m:Mov}:Low n (Ie m):=Go.SX.low_agg.2 Ny
theorem Iw {n k:Nat} {o:Bool} {l:List Mov}:Low n (.slice o k (l.map Ie)):=low_slice.2 fun y hy=>by
 obtain ⟨m,_,rfl⟩:=C3.1 hy
 exact l9
theorem M1 {α:Type} {p:α→Bool} (l:List α):(l.any fun s => !(p s)) = !(l.all p):=by
 induction l with
 | nil=>rfl
 | cons a r ih=>rw [List.any_cons,List.all_cons,ih];cases p a<;>simp
theorem c10 (l:List Mov) (Hp:List AObj):AFun Tryz.prog 10 [Fu l] Hp (B0 (Iv l)):=by
 refine Ae [.tmp 2] [0] Tryz.func10 Tryz.ntmps10 (fun d=>?_)
 refine jf ?_;refine A2 [0,10] ?_
 refine A4 (fun ht10=>?_) (fun ht10=>?_)
 ·rw [An] at ht10
  have hm:Iv l=true:=by unfold Iv;rw [ht10];rfl
  exact AA1
 rw [An] at ht10
 have hl12:l.length≤12:=by simp at ht10;omega
 refine Qh ?_;refine Mn ?_
 refine Bg (α:=Nat) (fun x=>⟨82,A6 0 (Fu l) (A6 3 (A3 (x:Nat)) (fun _=>.any)),Hp,[],[],none⟩) (fun x=>x≤l.length∧∀(j:Nat) (v:Mov),j<x→l[j]? = some v→Ll v=false) (fun x=>l.length-x) (0) ⟨Aq _,fun j v h=>by omega⟩ (Bl (by simp)) rfl (fun x hx=>?_)
 refine Z88 ?_;refine A2 [0,3,14] ?_
 refine A4 (fun ht14=>?_) (fun ht14=>?_)
 ·have hlt:x<l.length:=by simpa using ht14
  have hbad:Ll l[x]=true→Iv l=true:=fun h=>by unfold Iv;rw [Cx];exact .inr (Fi.2 ⟨l[x],Bf hlt,h⟩)
  refine Tx ?_;refine Z1 ?_
  refine A5 (h:=Ah (x) (Ie l[x]) (fun _=>B7 hlt)) (hr:=?_)
  refine Qe ?_;refine A2 [0,3,4] ?_;refine Z7 ?_;refine A9 Tryz.call9 (c6u l[x].give _) ?_;refine A5 ?_;refine Qi ?_;refine Z85 ?_;refine Z85 ?_;refine A5 ?_;refine A2 [0,3,4,41] ?_
  refine A4 (fun ht41=>?_) (fun ht41=>?_)
  ·simp only [An] at ht41
   have hm:Iv l=true:=hbad (by unfold Ll;rw [ht41];rfl)
   refine Z42 ?_;refine Ck ?_;exact X6
  simp only [An] at ht41
  have hk:l[x].take.length≤20∧l[x].ahead.length≤20∧l[x].back.length≤20:=by simp only [E3,decide_eq_false_iff_not] at ht41;omega
  refine Qh ?_;refine A2 [0,3,4,5] ?_
  refine Bg (α:=Nat) (fun a=>⟨82,A6 0 (Fu l) (A6 3 (A3 (x:Nat)) (A6 4 (.ptr (oid Hp.length 0) 0) (A6 5 (A3 (a:Nat)) (fun _=>.any)))),Hp,[.cells 80 (Nv l[x])],[],none⟩) (fun a=>a≤l[x].take.length∧∀(j:Nat) v,j<a→l[x].take[j]? = some v→(fun s:Str=>decide ((100:Int)<(s.length:Int))) v=false) (fun a=>l[x].take.length-a) (0) ⟨Aq _,fun j v h=>by omega⟩ (Bl (by simp)) rfl (fun a ha=>?_)
  refine fq ?_;refine A2 [0,3,4,5,46] ?_
  refine A4 (fun ht46=>?_) (fun ht46=>?_)
  ·have ha1:a<l[x].take.length:=by simpa using ht46
   refine vj ?_
   refine A5 (h:=Ah (a) (Ac l[x].take[a]) (fun _=>B7 ha1)) (hr:=?_)
   refine Z12 ?_;refine A2 [0,3,4,5,55] ?_
   refine A4 (fun ht55=>?_) (fun ht55=>?_)
   ·have hm:Iv l=true:=hbad (by unfold Ll;rw [ht41,Fi.2 ⟨_,Bf ha1,ht55⟩];rfl)
    refine Z42 ?_;refine Z51 ?_;exact X6
   refine jc ?_;refine A2 [0,3,4,5] ?_;exact Bm (a+1) ⟨ha1,D3 ha1 ha.2 ht55⟩ (by omega) (Ds rfl)
  have hae:l[x].take.length≤a:=by simpa using ht46
  have e1:=My hae ha.2
  refine Sc ?_;refine Z31 ?_;refine A2 [0,3,4,6] ?_
  refine Bg (α:=Nat) (fun b=>⟨82,A6 0 (Fu l) (A6 3 (A3 (x:Nat)) (A6 4 (.ptr (oid Hp.length 0) 0) (A6 6 (A3 (b:Nat)) (fun _=>.any)))),Hp,[.cells 80 (Nv l[x])],[],none⟩) (fun b=>b≤l[x].ahead.length∧∀(j:Nat) v,j<b→l[x].ahead[j]? = some v→Pb v=false) (fun b=>l[x].ahead.length-b) (0) ⟨Aq _,fun j v h=>by omega⟩ (Bl (by simp)) rfl (fun b hb=>?_)
  refine fq ?_;refine A2 [0,3,4,6,60] ?_
  refine A4 (fun ht60=>?_) (fun ht60=>?_)
  ·have hb1:b<l[x].ahead.length:=by simpa using ht60
   refine vj ?_
   refine A5 (h:=Ah (b) (A8 l[x].ahead[b]) (fun _=>B7 hb1)) (hr:=?_)
   refine A5 ?_;refine A9 Tryz.call31 (c31 l[x].ahead[b] _) ?_;refine A2 [0,3,4,6,68] ?_
   refine A4 (fun ht68=>?_) (fun ht68=>?_)
   ·have hm:Iv l=true:=hbad (by unfold Ll;rw [Fi.2 ⟨_,Bf hb1,ht68⟩];simp)
    refine Z42 ?_;refine Z51 ?_;exact X6
   refine jc ?_;refine A2 [0,3,4,6] ?_;exact Bm (b+1) ⟨hb1,D3 hb1 hb.2 ht68⟩ (by omega) (Ds rfl)
  have hbe:l[x].ahead.length≤b:=by simpa using ht60
  have e2:=My hbe hb.2
  refine Sc ?_;refine Z2 ?_;refine A2 [0,3,4,7] ?_
  refine Bg (α:=Nat) (fun e=>⟨82,A6 0 (Fu l) (A6 3 (A3 (x:Nat)) (A6 4 (.ptr (oid Hp.length 0) 0) (A6 7 (A3 (e:Nat)) (fun _=>.any)))),Hp,[.cells 80 (Nv l[x])],[],none⟩) (fun e=>e≤l[x].back.length∧∀(j:Nat) v,j<e→l[x].back[j]? = some v→Pb v=false) (fun e=>l[x].back.length-e) (0) ⟨Aq _,fun j v h=>by omega⟩ (Bl (by simp)) rfl (fun e he=>?_)
  refine fq ?_;refine A2 [0,3,4,7,73] ?_
  refine A4 (fun ht73=>?_) (fun ht73=>?_)
  ·have he1:e<l[x].back.length:=by simpa using ht73
   refine vj ?_
   refine A5 (h:=Ah (e) (A8 l[x].back[e]) (fun _=>B7 he1)) (hr:=?_)
   refine A5 ?_;refine A9 Tryz.call31 (c31 l[x].back[e] _) ?_;refine A2 [0,3,4,7,81] ?_
   refine A4 (fun ht81=>?_) (fun ht81=>?_)
   ·have hm:Iv l=true:=hbad (by unfold Ll;rw [Fi.2 ⟨_,Bf he1,ht81⟩];simp)
    refine Z42 ?_;refine Z26 ?_;exact X6
   refine jc ?_;refine A2 [0,3,4,7] ?_;exact Bm (e+1) ⟨he1,D3 he1 he.2 ht81⟩ (by omega) (Ds rfl)
  have hee:l[x].back.length≤e:=by simpa using ht73
  have e3:=My hee he.2
  have e4:Ll l[x]=false:=by unfold Ll;rw [ht41,e1,e2,e3];rfl
  refine Z59 ?_;refine K.lpE ?_;refine Z11 ?_;refine Z47 ?_;refine Mn ?_;refine Bm (x+1) ⟨hlt,D3 hlt hx.2 e4⟩ (by omega) ?_
  exact D0 (own:=[]) (fun _=>.refl _) (by repeat (first|exact Bc|refine Bb (by first|(simp [or_imp,forall_and];done)|exact Iw|(simp [oid]<;>omega)) ?_)) (by simp) (by simp)
 have hxe:l.length≤x:=by simpa using ht14
 have hm:Iv l=false:=by unfold Iv;rw [ht10,My hxe hx.2];rfl
 exact AEh

theorem c63 (n:Nat) (e:Expr) (hok:okE n e) (hn:n≤1048576) (c:List Col) (hc:OkCols c) (w:Int) (Hp:List AObj):AFun Tryz.prog 63 [A8 e,Ar c,A3 w] Hp (B0 (Qu e c w)):=by
 refine Ae [.tmp 6] [0,1,2] Tryz.func63 Tryz.ntmps63 (fun d=>?_)
 refine Z1 ?_;refine A2 [1,2,3] ?_;refine Z1 ?_;refine A9 Tryz.call62 (c62 n e hok hn c hc _) ?_;refine Z75 ?_;refine A2 [2,7,8] ?_;refine Z15 ?_;refine Qi ?_;refine X8 ?_;refine Z76 ?_;exact Aa (Ai A7) ⟨by unfold Qu;rfl,rfl⟩

theorem AFp {c:List Col} {m:Mov} (h:(m.kind==3)=false):Bt c m=m.give:=by unfold Bt;rw [if_neg (by rw [h];simp)]
theorem AFq {c:List Col} {m:Mov} {s:Str} {y:Col} (h:(m.kind==3)=true) (ht:m.take=[s]) (hg:m.give=[y]) (hf:Ay s c<0):Bt c m=[y]:=by
 unfold Bt
 rw [if_pos h,ht,hg]
 exact if_pos hf
theorem AC9 {c:List Col} {m:Mov} {s:Str} {y:Col} (h:(m.kind==3)=true) (ht:m.take=[s]) (hg:m.give=[y]) (hf:¬Ay s c<0):Bt c m=[⟨y.name,(c.getD (Ay s c).toNat ⟨[],0⟩).kind⟩]:=by
 unfold Bt
 rw [if_pos h,ht,hg]
 exact if_neg hf
theorem la (l:List Col):∀x∈l.map C2,x.cells.length=2:=by
 intro x hx
 obtain ⟨c,_,rfl⟩:=C3.1 hx
 rfl
theorem ss {c:Col} {y:AV} (h:y∈(C2 c).cells):y=Ac c.name∨y=A3 c.kind:=by
 have h':y∈[Ac c.name,A3 c.kind]:=h
 simpa using h'
theorem lb (l:List Col):∀x∈l.map C2,∀y∈x.cells,y.one=true:=by
 intro x hx y hy
 obtain ⟨c,_,rfl⟩:=C3.1 hx
 rcases ss hy with rfl|rfl<;>rfl
theorem Ym (l:List Col):∀x∈l.map C2,∀y∈x.cells,y.strip=y:=by
 intro x hx y hy
 obtain ⟨c,_,rfl⟩:=C3.1 hx
 rcases ss hy with rfl|rfl<;>rfl
theorem ACa {α:Type} {l:List α} (h:l.length=1):∃y,l=[y]:=by
 match l,h with
 | [y],_=>exact ⟨y,rfl⟩
theorem su {c:List Col} {s:Str} (hf:¬Ay s c<0):(c.map C2)[(Ay s c).toNat]? = some (C2 (c.getD (Ay s c).toNat ⟨[],0⟩)):=by
 obtain ⟨j,hj,hjl⟩:=Gi hf
 rw [hj,Int.toNat_natCast,C5,Ab hjl,Cc,Ab hjl]
 rfl
end Go.SX.Nb
namespace Go.SX
variable [GI:GlobInv]
open Classical
variable {P:Program} {d:Nat} {ops:Array Oper} {rest:List Oper} {sz:Nat} {fr:Nat→AV} {up own:List AObj} {dfs:List Nat} {rnd:Option Nat} {Q:St→Prop} {s:Nat} {ty:TypeId} {pos:String} {aft:Array Edge}
/-- Whether a slice is nil is known only of one that has elements. -/
theorem R.eqlNil {t e u:TypeId} {x y:Operand} {o:Bool} {k:Nat} {xs:List AV} (ht:P.underlying t=some (.slice e)) (hg:P.eqGuardType P.depth t=false)
  (hr:∀b:Bool,(b=true→xs=[])→ARun P d ops rest ⟨sz,A6 s (.v (.bool b)) fr,up,own,dfs,rnd⟩ Q)
  (hx:B6 fr x=.slice o k xs:=by exact sL0) (hy:B6 fr y=.nil:=by exact sL0) (hs:Nat.blt s sz=true:=by rfl):
  ARun P d ops (⟨some s,.binOp .eql t x y u,ty,pos,aft,none⟩::rest) ⟨sz,fr,up,own,dfs,rnd⟩ Q:=by
 refine Ws rfl (Q1:=fun s'=>∃b:Bool,(b=true→xs=[])∧s'=⟨sz,A6 s (.v (.bool b)) fr,up,own,dfs,rnd⟩) ?_ (by rintro _ ⟨b,hb,rfl⟩;exact hr b hb)
 intro G a w hrel Q'
 have h1:=hrel.eval x
 rw [show St.ev ⟨sz,fr,up,own,dfs,rnd⟩ x=.slice o k xs from hx] at h1
 have h2:=hrel.eval y
 rw [show St.ev ⟨sz,fr,up,own,dfs,rnd⟩ y=.nil from hy] at h2
 have key:∀b:Bool,(b=true→xs=[])→(execOp a.eval ⟨some s,.binOp .eql t x y u,ty,pos,aft,none⟩).run P w=.ok (.value (.bool b)) w →
   Oper.wpIn (Fr ((St.mk sz fr up own dfs rnd).rnd.map G.blk)) 0 P ⟨some s,.binOp .eql t x y u,ty,pos,aft,none⟩ a w (Post d ⟨sz,fr,up,own,dfs,rnd⟩ G w (fun s'=>∃b:Bool,(b=true→xs=[])∧s'=⟨sz,A6 s (.v (.bool b)) fr,up,own,dfs,rnd⟩)) Q':=fun b hb hv =>
  Db (by intro c h;cases h) hv ⟨G,_,hrel.put (y:=.v (.bool b)) (by simpa using hs) (.v _ _),Fz d G w,rfl,rfl,rfl,b,hb,rfl⟩
 generalize hya:a.eval y=vy at h2
 generalize hxa:a.eval x=vx at h1
 cases h2
 cases h1 with
 | slice0=>exact key true (fun _=>rfl) (by simp only [execOp,hxa,hya,eqGuard];simp [Lib.run_eql_slice_nil _ _ _ _ _ _ _ _ ht,hg])
 | sliceE=>exact key false (fun h=>by cases h) (by simp only [execOp,hxa,hya,eqGuard];simp [Lib.run_eql_slice_nil _ _ _ _ _ _ _ _ ht,hg])
 | slice=>exact key false (fun h=>by cases h) (by simp only [execOp,hxa,hya,eqGuard];simp [Lib.run_eql_slice_nil _ _ _ _ _ _ _ _ ht,hg])
/-! A guarded slice that may be appended to. -/
end Go.SX
namespace Go.SX
variable [GI:GlobInv]
open Classical
section
variable {P:Program} {d:Nat}
/-- A call that returns and may leave more objects than it found; they are the caller's. -/
def ACallO (P:Program) (g:FuncId) (args:List AV) (H:List AObj) (post:AV→List AObj→Prop):Prop:=
 ∀(d:Nat) (G:Gh) (w:World) (vs:Array Value),vs.size=args.length→(∀(i:Nat) (y:AV) (u:Value),args[i]? = some y→vs[i]? = some u→Rep G w (some (.slot (d+1) i)) y u)→HeapRel G H w→TagOK G w→GI.bd≤d →
  CallsIn Fence.wide 0 P g vs w (fun e w'=>∃(v:Value) (G':Gh) (r:AV) (H':List AObj),e=.returned v∧Rep G' w' none r v∧HeapRel G' H' w'∧TagOK G' w'∧Keep (d+1) G w G' w'∧post r H')
/-- What is asked at a body's end: the first j of its objects are handed back. -/
def FO (P:Program) (rs:List ResultVar) (n:Nat) (post:AV→List AObj→Prop) (e:Exit) (st':St):Prop:=
 (e=.normal∨e=.ret)∧st'.defs=[]∧∃(r:AV) (rv:ResultVar) (j:Nat),rs=[rv]∧ResV P st' rv r∧Low (n+j) r∧(∀x∈st'.up++st'.own.take j,ObjLow (n+j) x)∧j≤st'.own.length∧post r (st'.up++st'.own.take j)
theorem ACallO.ofBody {g:FuncId} {fn:Func} {c:Code} {args:List AV} {H:List AObj} {post:AV→List AObj→Prop} {rs:List ResultVar} {n:Nat} (hf:P.funcs[g]? = some fn) (hb:fn.body=some c) (hrs:fn.results=rs.toArray)
  (hn:fn.ntmps=n) (hargs:args.length≤n) (h:∀d,AW P (d+1) c ⟨n,argsF args,H,[],[],none⟩ (FO P rs H.length post)):ACallO P g args H post:=by
 intro d G w vs hvs hrep hH hT hTop
 refine callsIn_of_wp_marks hf hb trivial ?_
 have hst:StRel (d+1) G ⟨n,argsF args,H,[],[],none⟩ { tmps:=vs++Array.replicate (fn.ntmps-vs.size) undef,defers:=[] } w:=by
  refine ⟨?_,fun s=>?_,by simpa using hH,(by rw [Gd hTop];rfl),(fun o ho=>by simp at ho),Ls,(fun o ho=>by simp at ho),hT,(fun l hl=>by cases hl),fun x hx=>?_,N4 hTop⟩
  ·simp only [M4,de,hvs,hn];omega
  ·show Rep G w _ (args.getD s (.v undef)) _
   rw [Cc,Jv]
   rcases Bp s args.length with h'|h'
   ·rw [Ab h',L1 (by omega),Ei (by omega)]
    exact hrep s _ _ (Ab h') (Ei (by omega))
   rw [Gp h',Oc (by omega)]
   simp only [Option.getD_none]
   have:((Array.replicate (fn.ntmps-vs.size) undef)[s-vs.size]?).getD undef=undef:=by
    rw [Od];split<;>rfl
   rw [this]
   exact .v _ _
  obtain ⟨i,hi⟩:=C6 hx
  have hob:=hH.obj i x hi
  show ObjLow H.length x
  rw [←hH.n]
  exact hob.low
 have hw:=h d G _ w hst
 refine wpIn_mono hw ?_
 rintro e a' w' ⟨G1,st',h1,k1,e1,e2,e3,hcase,hdefs,r,rv,j,rfl,hres,hlow,hobjs,hj,hpost⟩
 have fin:LeavesInM Fence.wide 0 P fn a'.tmps (fun e w'=>∃(v:Value) (G':Gh) (r:AV) (H':List AObj),e=.returned v∧Rep G' w' none r v∧HeapRel G' H' w'∧TagOK G' w'∧Keep (d+1) G w G' w'∧post r H') a'.defers .returning w':=by
  rw [h1.defs,hdefs,Gd hTop]
  obtain ⟨v,hv,hr⟩:=hres.run h1
  have hupl:st'.up.length=H.length:=e1
  have hgn:G1.n=st'.up.length+st'.own.length:=by rw [h1.heap.n,At]
  have hget:∀(i:Nat) (x:AObj),(st'.up++st'.own.take j)[i]? = some x→(st'.up++st'.own)[i]? = some x:=fun i x hx=>by
   rcases Bp i st'.up.length with h'|h'
   ·rw [D8 h'] at hx ⊢;exact hx
   rw [D9 h'] at hx ⊢
   rw [Hi] at hx
   split at hx
   ·exact hx
   cases hx
  refine ⟨v,by simp [G7,hrs,hv],v,{ G1 with n:=H.length+j },r,st'.up++st'.own.take j,rfl,hr.cut hlow,⟨fun i x hx=>(h1.heap.obj i x (hget i x hx)).cut (hobjs x (Aw hx)),?_,fun a b ha hb' e=>?_⟩,
   ⟨h1.tags.ex,h1.tags.obj,h1.tags.tail,h1.tags.globCut (by rw [hgn];omega)⟩,?_,hpost⟩
  ·show H.length+j=_
   rw [At,C0,rc hj,hupl]
  ·exact h1.heap.inj a b (by rw [hgn];simp only at ha;omega) (by rw [hgn];simp only at hb';omega) e
  have hGn:G.n=H.length:=hH.n
  exact ⟨k1.fix,k1.slot,by rw [hGn];exact Nat.le_add_right _ _,k1.blk,k1.os,k1.tape,k1.output,k1.size,k1.old.cut (by rw [hgn];omega)⟩
 rcases hcase with rfl|rfl
 ·exact fin
 exact fin
end
section
variable {P:Program} {d:Nat} {ops:Array Oper} {rest:List Oper} {sz s:Nat} {fr:Nat→AV} {up own:List AObj} {dfs:List Nat} {rnd:Option Nat} {Q:St→Prop} {ty:TypeId} {pos:String} {aft:Array Edge}
theorem ACallO.body {g:FuncId} {fn:Func} {c:Code} {args:List AV} {H:List AObj} {post:AV→List AObj→Prop} {fr':Nat→AV} (rs:List ResultVar) (l:List Nat) {n:Nat} (hf:P.funcs[g]? = some fn) (hn:fn.ntmps=n)
  (h:∀d,AW P (d+1) c ⟨n,fr',H,[],[],none⟩ (FO P rs H.length post)) (hb:fn.body=some c:=by rfl) (hrs:fn.results=rs.toArray:=by rfl) (hargs:args.length≤n:=by exact sL1)
  (hk:O6 l (argsF args)=fr':=by exact sL0):ACallO P g args H post:=
 ACallO.ofBody hf hb hrs hn hargs (fun d=>ar l hk (h d))
/-- The end of such a body. -/
theorem K.finO {rs:List ResultVar} {n:Nat} {post:AV→List AObj→Prop} {r:AV} {rv:ResultVar} {st:St} (j:Nat) (hres:ResV P st rv r) (hp:post r (st.up++st.own.take j)) (hlow:Low (n+j) r) (hobj:∀x∈st.up++st.own.take j,ObjLow (n+j) x)
  (hd:st.defs=[]:=by rfl) (hr:rs=[rv]:=by rfl) (hj:j≤st.own.length:=by simp):FO P rs n post .ret st:=⟨.inr rfl,hd,r,rv,j,hr,hres,hlow,hobj,hj,hp⟩
/-- A call of such a function. -/
theorem R.callO {g:FuncId} {xs:List Operand} {ats:Array TypeId} {args:List AV} {post:AV→List AObj→Prop} (hcall:∀args w,(callFunc g args).run P w=.ok (.enter g args) w)
  (h:ACallO P g args (up++own) post) (hp:∀r H',post r H'→∃O,H'=up++(own++O)∧ARun P d ops rest ⟨sz,A6 s r fr,up,own++O,dfs,rnd⟩ Q)
  (ha:xs.map (B6 fr)=args:=by exact sL0) (hs:Nat.blt s sz=true:=by rfl):
  ARun P d ops (⟨some s,.call ⟨.value (.func g),xs.toArray,ats⟩,ty,pos,aft,none⟩::rest) ⟨sz,fr,up,own,dfs,rnd⟩ Q:=by
 refine Ws rfl (Q1:=fun s'=>ARun P d ops rest s' Q) ?_ (fun s' e=>e)
 intro G a w hr Q'
 have hs:s<sz:=by simpa using hs
 have hxr:=S7 hr xs
 have ha':xs.map (St.ev ⟨sz,fr,up,own,dfs,rnd⟩)=args:=ha
 rw [ha'] at hxr
 have hrun:(execOp a.eval (⟨some s,.call ⟨.value (.func g),xs.toArray,ats⟩,ty,pos,aft,none⟩:Oper)).run P w=.ok (.enter g (xs.map a.eval).toArray) w:=by
  have:=R5 (P:=P) (dst:=some s) (ty:=ty) (pos:=pos) (aft:=aft) (gd:=none) (ats:=ats) (f:=.func g) (xs:=xs) (g:=g) (va:=#[]) (vc:=#[]) (a:=a) (w:=w) hcall rfl
  simpa using this
 refine R4 (by intro c h;cases h) hrun (h d G w _ (by rw [←ha'];simp) (fun i y u hy hu=>(hxr i y u hy hu).lift) hr.heap hr.tags hr.top) ?_
 rintro e w' ⟨v,G',r,H',rfl,hrep,hH,hT,hk,hpo⟩
 obtain ⟨O,rfl,hrn⟩:=hp r H' hpo
 have h3:=hr.called (U:=up) (O:=own++O) hH hT hk rfl rfl (fun o ho=>by
  have:=hr.defsAt o ho
  rw [←B8,D8 (Ad.1 this).1]
  exact this) hr.low
 obtain ⟨h4,k4⟩:=h3.took hrep.lift (s:=s) hs
 exact ⟨v,rfl,_,_,h4,(hk.less (Ii d)).trans k4,rfl,rfl,rfl,hrn⟩
end
end Go.SX
