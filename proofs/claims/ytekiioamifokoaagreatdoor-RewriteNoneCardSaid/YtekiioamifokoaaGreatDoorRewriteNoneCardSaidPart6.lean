/- On the way (part 6). -/
import Derived.ReadAgain
import Derived.ChangeSame
import Derived.ChangeArms
import Derived.ChangeOld
import Derived.ChangeFn
import Derived.MapPlaces
import Derived.DataReads
import Derived.OpenShut
import Derived.RowKit
import Derived.Deep.DeepHandedRow
import Derived.Test.YtekiioamifokoaaGreatDoorCards
import Derived.Test.YtekiioamifokoaaGreatDoorTie
import Derived.Lay
import Derived.Lib.LaidTab
import Derived.Stop.LaidErr
import Derived.Shelf.Vars
import Derived.ChangeBears
import Derived.Lib.ParseIntBTie
import Derived.Lib.AtoiAllCases
import Derived.Lib.AtoiTie
import Derived.Lib.SliceRun
import Derived.Test.YtekiioamifokoaaGreatDoorRewriteNoneCardSaidPart5
set_option linter.all false
namespace Go.SX
variable [GI:GlobInv]
open Classical Go.RowKit Go.ChangeShapes
section
variable {P:Program} {H:Type} {enc:TypeId×Value→H}

/-- The first ghost: whatever lies there is read for good. -/
noncomputable def G0 (W:World):Gh:=⟨fun b o=>if (W.cell? ⟨b,o,none⟩).isSome then .fix else .free,fun _=>0,0⟩
theorem AIm {W:World} {b o:Nat} {u:Value} (h:W.cell? ⟨b,o,none⟩=some u):(G0 W).tag b o=.fix:=by simp [G0,h]
theorem Tw {W:World} {b:Nat} (h:b<W.heap.size):M2 (G0 W) W b:=⟨h,fun o=>by simp only [G0];split<;>simp,fun i hi=>absurd hi (Nat.not_lt_zero _)⟩
theorem AEh (W:World):HeapRel (G0 W) [] W:=⟨fun i x h=>by simp at h,rfl,fun i j hi=>absurd hi (Nat.not_lt_zero _)⟩
theorem AEi {W:World} (h:J0 W):TagOK (G0 W) W:=by
 refine ⟨fun b o hb=>?_,fun b o i hb=>?_,fun b o L hb=>?_,fun x hx=>?_⟩
 ·simp only [G0] at hb
  split at hb
  ·rename_i hs;exact Option.isSome_iff_exists.1 hs
  exact absurd rfl hb
 ·simp only [G0] at hb;split at hb<;>cases hb
 ·simp only [G0] at hb;split at hb<;>cases hb
 obtain ⟨v,h1,h2⟩:=h x hx
 exact ⟨Tw (Nn.1 h1).1,v,h1,h2⟩

/-- What a datum of a plain type ANv as. -/
inductive DRep (P:Program):TypeId→DataW H→AV→Prop
 | int {t:TypeId} {k:IntKind} {n:Int} (hu:P.underlying t=some (.int k)) (wf:(Lit.int k n).wf=true):DRep P t (.lit (.int k n)) (.v (.int k n))
 | bool {t:TypeId} {b:Bool} (hu:P.underlying t=some .bool):DRep P t (.lit (.bool b)) (.v (.bool b))
 | str {t:TypeId} {bs:List UInt8} (hu:P.underlying t=some .string):DRep P t (.lit (.string bs)) (.v (sv bs))
 | nil {t e:TypeId} (hu:P.underlying t=some (.slice e)):DRep P t .nil (.slice false (P.cellsOf e) [])
 | slice {t e:TypeId} {elems spare:List (DataW H)} {ys:List AV} (hu:P.underlying t=some (.slice e)) (hn:ys.length=elems.length)
   (h:∀(i:Nat) (d:DataW H) (y:AV),elems[i]? = some d→ys[i]? = some y→DRep P e d y):DRep P t (.slice elems spare) (.slice false (P.cellsOf e) ys)
 | struct {t:TypeId} {fs:Array Field} {parts:List (DataW H)} {ys:List AV} (hu:P.underlying t=some (.struct fs)) (hn:parts.length=fs.size) (hn':ys.length=fs.size)
   (h:∀(i:Nat) (f:Field) (d:DataW H) (y:AV),fs[i]? = some f→parts[i]? = some d→ys[i]? = some y→DRep P f.type d y):DRep P t (.agg parts) (.agg (ys.flatMap AV.cells))

/-- Types that are made of numbers, texts, bools, slices and structs alone. -/
structure PlainT (P:Program) (T:TypeId→Prop):Prop where
 look:∀t,T t→(P.cellsOf t=1∧((∃k,P.underlying t=some (.int k))∨P.underlying t=some .bool∨P.underlying t=some .string∨(∃e,P.underlying t=some (.slice e)∧T e∧0<P.cellsOf e))) ∨
  (∃fs,P.underlying t=some (.struct fs)∧(∀f∈fs.toList,T f.type)∧P.cellsOf t=(fs.toList.map fun f=>P.cellsOf f.type).sum ∧
   ∀(j:Nat) (f:Field),fs.toList[j]? = some f→f.offset=((fs.toList.take j).map fun f=>P.cellsOf f.type).sum)

/-- The reading of a row of cells. -/
def CRep (W:World) (y:AV) (cs:List Value):Prop:=
 y.cells.length=cs.length∧(∀c∈y.cells,c.one=true)∧∀(j:Nat) (c:AV) (v:Value),y.cells[j]? = some c→cs[j]? = some v→Rep (G0 W) W none c v

theorem CRep.v1 {W:World} {x:Value} (h:x.oneCell'=true):CRep W (.v x) [x]:=
 ⟨rfl,by simp [AV.cells,AV.one,h],fun j c v h1 h2=>by
  match j with
  | 0=>simp [AV.cells] at h1 h2;subst h1;subst h2;exact .v _ _
  | j+1=>simp [AV.cells] at h1⟩

theorem je {f:AV→List AV}:∀(ys:List AV) (j:Nat) (c:AV),(ys.flatMap f)[j]? = some c→∃(i:Nat) (y:AV) (q:Nat),ys[i]? = some y∧(f y)[q]? = some c∧j=((ys.take i).map fun y=>(f y).length).sum+q
 | [],j,c,h=>by simp at h
 | y::r,j,c,h=>by
  rw [cx] at h
  rcases Bk j (f y).length with h'|h'
  ·rw [Dr h'] at h
   exact ⟨0,y,j,rfl,h,by simp⟩
  rw [Ds h'] at h
  obtain ⟨i,z,q,h1,h2,h3⟩:=je r _ c h
  exact ⟨i+1,z,q,h1,h2,by simp only [List.take_succ_cons,Br,List.sum_cons];omega⟩
theorem Oq {α:Type} {R:Nat→α→Prop}:∀(n:Nat),(∀i,i<n→∃y,R i y)→∃ys:List α,ys.length=n∧∀(i:Nat) (y:α),ys[i]? = some y→R i y
 | 0,_=>⟨[],rfl,fun i y h=>by simp at h⟩
 | n+1,h=>by
  obtain ⟨ys,h1,h2⟩:=Oq n (fun i hi=>h i (by omega))
  obtain ⟨y,hy⟩:=h n (by omega)
  refine ⟨ys++[y],by simp [h1],fun i z hz=>?_⟩
  rcases Bk i n with h'|h'
  ·rw [Dr (by omega)] at hz;exact h2 i z hz
  rw [Ds (by omega)] at hz
  have:i=n:=by
   have:=(Ad.1 hz).1
   simp at this;omega
  subst this
  rw [h1] at hz
  simp at hz
  exact hz ▸ hy
theorem R8 {α β:Type} {f:α→Nat} {g:β→Nat}:∀(l:List α) (m:List β),l.length=m.length→(∀(i:Nat) (a:α) (b:β),l[i]? = some a→m[i]? = some b→f a=g b)→(l.map f).sum=(m.map g).sum
 | [],[],_,_=>rfl
 | [],b::m,h,_=>by simp at h
 | a::l,[],h,_=>by simp at h
 | a::l,b::m,h,hh=>by
  simp only [Br,List.sum_cons]
  rw [hh 0 a b rfl rfl,R8 l m (by simpa using h) (fun i a b h1 h2=>hh (i+1) a b h1 h2)]

theorem AAo {T:TypeId→Prop} (PT:PlainT P T) {W:World}:∀(n:Nat) (t:TypeId) (cs:List Value) (x:DataW H×List MemPlace),T t→DataW.trod enc P W 0 (fun _=>true) true n t cs=some x →
  ∃y,DRep P t x.1 y∧CRep W y cs∧cs.length=P.cellsOf t:=by
 intro n
 induction n with
 | zero=>intro t cs x _ h;simp [DataW.trod] at h
 | succ n ih =>
  intro t cs x hT h
  rcases PT.look t hT with ⟨hc1,⟨k,hu⟩|hu|hu|⟨e,hu,he,hz⟩⟩|⟨fs,hu,hf,hsum,hoff⟩
  ·obtain ⟨m,rfl,rfl,hw⟩:=DataW.trod_int hu h
   exact ⟨_,.int hu hw,.v1 rfl,hc1.symm⟩
  ·obtain ⟨b,rfl,rfl⟩:=DataW.trod_bool hu h
   exact ⟨_,.bool hu,.v1 rfl,hc1.symm⟩
  ·obtain ⟨s,rfl,rfl,_⟩:=DataW.trod_string hu h
   exact ⟨_,.str hu,.v1 rfl,hc1.symm⟩
  ·rcases DataW.trod_slice hu h with ⟨rfl,rfl⟩|⟨a,len,cap,elems,rest,m,hm,rfl,rfl,hb,hlc,hcm,hel,hE,_,_⟩
   ·refine ⟨_,.nil hu,⟨rfl,by simp [AV.cells,AV.one],fun j c v h1 h2=>?_⟩,hc1.symm⟩
    match j with
    | 0=>simp [AV.cells] at h1 h2;subst h1;subst h2;exact .slice0 _ _ _
    | j+1=>simp [AV.cells] at h1
   injection hm with hm
   subst hm
   subst hel
   have hEi:∀i,i<elems.length→∃y,(∀d,elems[i]? = some d→DRep P e d.1 y)∧∃ci,W.cells? 0 (a.add (i*P.cellsOf e)) (P.cellsOf e)=some ci∧CRep W y ci:=fun i hi=>by
    have h1:=hE i hi
    rw [Ab hi,Option.bind_eq_some_iff] at h1
    obtain ⟨ci,h2,h3⟩:=h1
    obtain ⟨y,h4,h5,_⟩:=ih e ci _ he h3
    exact ⟨y,fun d hd=>by rw [Ab hi] at hd;injection hd with hd;subst hd;exact h4,ci,h2,h5⟩
   obtain ⟨ys,hyl,hys⟩:=Oq elems.length hEi
   refine ⟨.slice false (P.cellsOf e) ys,.slice hu (by simp [hyl]) (fun i d y hd hy=>?_),⟨rfl,by simp [AV.cells,AV.one],fun j c v h1 h2=>?_⟩,hc1.symm⟩
   ·rw [Bz,E3] at hd
    obtain ⟨d',hd',rfl⟩:=hd
    exact (hys i y hy).1 d' hd'
   match j with
   | j+1=>simp [AV.cells] at h1
   | 0 =>
    simp [AV.cells] at h1 h2
    subst h1;subst h2
    by_cases h0:elems.length=0
    ·have:ys=[]:=cw (by omega)
     subst this
     rw [h0]
     exact .sliceE _ _ _ _
    have hspot:a.spot=none:=by
     obtain ⟨ci,hci,_⟩:=(hys 0 ys[0] (Ab (by omega))).2
     obtain ⟨_,g1,g2⟩:=World.cells?_some hci
     have g3:=g2 0 hz
     rw [Ab (by omega)] at g3
     simp only [Nat.zero_mul,Addr.add,if_true] at g3
     unfold World.cell? at g3
     split at g3
     ·split at g3
      ·cases g3
      rename_i hs;simpa using hs
     cases g3
    refine .slice _ false _ ys a _ cap (fun i j=>(W.cell? ⟨a.block,a.off+i*P.cellsOf e+j,none⟩).getD undef) hspot hyl.symm hlc (fun x hx=>?_) (fun x hx=>?_) (fun i x j y hx hy=>?_) (fun i x j y hx hy=>?_) (fun h=>by cases h)
    ·obtain ⟨i,hi⟩:=C8 hx
     obtain ⟨ci,hci,hcr⟩:=(hys i x hi).2
     rw [hcr.1]
     exact (World.cells?_some hci).2.1
    ·obtain ⟨i,hi⟩:=C8 hx
     obtain ⟨ci,hci,hcr⟩:=(hys i x hi).2
     exact hcr.2.1
    ·obtain ⟨ci,hci,hcr⟩:=(hys i x hx).2
     obtain ⟨_,g1,g2⟩:=World.cells?_some hci
     have hj:j<P.cellsOf e:=by
      have:=(Ad.1 hy).1
      rw [hcr.1] at this;omega
     have g3:=g2 j hj
     rw [Ab (by omega),Cz hspot,Cz rfl] at g3
     exact ⟨AIm g3,by rw [g3];rfl⟩
    obtain ⟨ci,hci,hcr⟩:=(hys i x hx).2
    obtain ⟨_,g1,g2⟩:=World.cells?_some hci
    have hj:j<P.cellsOf e:=by
     have:=(Ad.1 hy).1
     rw [hcr.1] at this;omega
    have g3:=g2 j hj
    rw [Ab (by omega),Cz hspot,Cz rfl] at g3
    simp only at g3
    rw [g3]
    exact hcr.2.2 j y _ hy (Ab (by omega))
  obtain ⟨xs,m,hm,rfl,hcl,hxl,hX⟩:=DataW.trod_struct hu h
  injection hm with hm
  subst hm
  have hXi:∀i,i<fs.size→∃y,∀(f:Field),fs[i]? = some f→(∀d,xs[i]? = some d→DRep P f.type d.1 y)∧CRep W y ((cs.drop f.offset).take (P.cellsOf f.type))∧y.cells.length=P.cellsOf f.type:=fun i hi=>by
   have h1:=hX i fs[i] (E9 hi)
   rw [Ab (by omega)] at h1
   obtain ⟨y,h2,h3,h4⟩:=ih _ _ _ (hf _ (by simp)) h1
   refine ⟨y,fun f hf'=>?_⟩
   rw [E9 hi] at hf'
   injection hf' with hf'
   subst hf'
   exact ⟨fun d hd=>by rw [Ab (by omega)] at hd;injection hd with hd;subst hd;exact h2,h3,by rw [h3.1,h4]⟩
  obtain ⟨ys,hyl,hys⟩:=Oq fs.size hXi
  have hlenI:∀(i:Nat),((ys.take i).map fun y=>y.cells.length).sum=((fs.toList.take i).map fun f=>P.cellsOf f.type).sum:=fun i=>by
   refine R8 _ _ (by simp [hyl]) (fun j y f h1 h2=>?_)
   rw [Ha] at h1 h2
   split at h1
   ·rename_i hj
    rw [if_pos hj] at h2
    exact (hys j y h1 f (by simpa using h2)).2.2
   cases h1
  have htot:(ys.flatMap AV.cells).length=cs.length:=by
   rw [List.length_flatMap,hcl,hsum]
   refine R8 _ _ (by simp [hyl]) (fun j y f h1 h2=>(hys j y h1 f (by simpa using h2)).2.2)
  refine ⟨.agg (ys.flatMap AV.cells),.struct hu (by simp [hxl]) hyl (fun i f d y hf' hd hy=>?_),⟨htot,fun c hc=>?_,fun j c v h1 h2=>?_⟩,hcl⟩
  ·rw [Bz,E3] at hd
   obtain ⟨d',hd',rfl⟩:=hd
   exact (hys i y hy f hf').1 d' hd'
  ·obtain ⟨y,hy,hcy⟩:=List.mem_flatMap.1 hc
   obtain ⟨i,hi⟩:=C8 hy
   have hlt:i<fs.size:=by rw [←hyl];exact (Ad.1 hi).1
   exact ((hys i y hi fs[i] (E9 hlt)).2.1).2.1 c hcy
  obtain ⟨i,y,q,g1,g2,rfl⟩:=je ys j c h1
  have hlt:i<fs.size:=by rw [←hyl];exact (Ad.1 g1).1
  obtain ⟨_,k2,k3⟩:=hys i y g1 fs[i] (E9 hlt)
  have hq:q<P.cellsOf (fs[i]).type:=by have:=(Ad.1 g2).1;omega
  refine k2.2.2 q c v g2 ?_
  rw [Ha,if_pos hq,Gd,hoff i fs[i] (by simp [hlt]),←hlenI i]
  exact h2

/-- A measure of data. -/
structure Bulk (B:DataW H→Nat):Prop where
 str:∀bs,bs.length≤B (.lit (.string bs))
 slice:∀elems spare,elems.length≤B (.slice elems spare)∧∀d∈elems,B d≤B (.slice elems spare)
 agg:∀parts,∀d∈parts,B d≤B (.agg parts)
theorem DRep.int' {t:TypeId} {k:IntKind} {d:DataW H} {y:AV} (hu:P.underlying t=some (.int k)) (h:DRep P t d y):∃n,d=.lit (.int k n)∧y=.v (.int k n)∧k.min≤n∧n≤k.max:=by
 cases h with
 | int hu' wf=>rw [hu] at hu';injection hu' with e;injection e with e;subst e;exact ⟨_,rfl,rfl,by simpa [Lit.wf] using wf⟩
 | _ hu'=>rw [hu] at hu';cases hu'
theorem DRep.bool' {t:TypeId} {d:DataW H} {y:AV} (hu:P.underlying t=some .bool) (h:DRep P t d y):∃b,d=.lit (.bool b)∧y=.v (.bool b):=by
 cases h with
 | bool hu'=>exact ⟨_,rfl,rfl⟩
 | _ hu'=>rw [hu] at hu';cases hu'
theorem DRep.str' {t:TypeId} {d:DataW H} {y:AV} (hu:P.underlying t=some .string) (h:DRep P t d y):∃s,d=.lit (.string s)∧y=.v (sv s):=by
 cases h with
 | str hu'=>exact ⟨_,rfl,rfl⟩
 | _ hu'=>rw [hu] at hu';cases hu'
theorem DRep.slice' {t e:TypeId} {d:DataW H} {y:AV} {B:DataW H→Nat} (hB:Bulk B) {α:Type} (A:α→AV) (R:α→Prop) {b:Nat} (hu:P.underlying t=some (.slice e)) (h:DRep P t d y) (hb:B d≤b)
  (hE:∀d y,B d≤b→DRep P e d y→∃x,y=A x∧R x):∃l:List α,y=.slice false (P.cellsOf e) (l.map A)∧l.length≤b∧∀x∈l,R x:=by
 cases h with
 | nil hu'=>rw [hu] at hu';injection hu' with e';injection e' with e';subst e';exact ⟨[],rfl,Ar _,fun x hx=>by cases hx⟩
 | slice hu' hn hh =>
  rw [hu] at hu';injection hu' with e';injection e' with e';subst e'
  rename_i elems spare ys
  obtain ⟨h1,h2⟩:=hB.slice elems spare
  have key:∀(ys:List AV) (es:List (DataW H)),ys.length=es.length→(∀d∈es,B d≤b)→(∀(i:Nat) (d:DataW H) (y:AV),es[i]? = some d→ys[i]? = some y→DRep P e d y)→∃l:List α,ys=l.map A∧∀x∈l,R x:=by
   intro ys
   induction ys with
   | nil=>exact fun es _ _ _=>⟨[],rfl,fun x hx=>by cases hx⟩
   | cons y ys ih =>
    intro es hl hb2 hr
    cases es with
    | nil=>simp at hl
    | cons d es =>
     obtain ⟨x,rfl,hx⟩:=hE d y (hb2 d (by simp)) (hr 0 d y rfl rfl)
     obtain ⟨l,rfl,hR⟩:=ih es (by simpa using hl) (fun d hd=>hb2 d (by simp [hd])) (fun i d y a c=>hr (i+1) d y a c)
     exact ⟨x::l,rfl,fun z hz=>by
      rcases B4.1 hz with rfl|hz
      ·exact hx
      exact hR z hz⟩
  obtain ⟨l,rfl,hR⟩:=key ys elems hn (fun d hd=>I7 (h2 d hd) hb) hh
  exact ⟨l,rfl,by simp at hn;omega,hR⟩
 | _ hu'=>rw [hu] at hu';cases hu'
theorem DRep.struct' {t:TypeId} {fs:Array Field} {d:DataW H} {y:AV} {B:DataW H→Nat} (hB:Bulk B) (hu:P.underlying t=some (.struct fs)) (h:DRep P t d y):
  ∃ys:List AV,ys.length=fs.size∧y=.agg (ys.flatMap AV.cells)∧∀(i:Nat) (f:Field) (z:AV),fs[i]? = some f→ys[i]? = some z→∃d',B d'≤B d∧DRep P f.type d' z:=by
 cases h with
 | struct hu' hn hn' hh =>
  rw [hu] at hu';injection hu' with e';injection e' with e';subst e'
  rename_i parts ys
  refine ⟨ys,hn',rfl,fun i f z h1 h2=>?_⟩
  have hlt:i<parts.length:=by rw [hn];exact (Nn.1 h1).1
  exact ⟨parts[i],hB.agg parts _ (Be hlt),hh i f parts[i] z h1 (Ab hlt) h2⟩
 | _ hu'=>rw [hu] at hu';cases hu'

/-- An argument's reading. -/
theorem AEj {T:TypeId→Prop} (PT:PlainT P T) {W:World} {t:TypeId} {v:Value} {d:DataW H} {ps:List MemPlace} {b0:Nat} (hT:T t) (hok:Value.okWide P W .any b0 t v) (h:DataW.Trod enc P W 0 (fun _=>true) true t v d ps):
  ∃y,DRep P t d y∧Rep (G0 W) W none y v:=by
 obtain ⟨n,hn⟩:=h
 obtain ⟨y,h1,h2,h3⟩:=AAo PT n t _ _ hT hn
 refine ⟨y,h1,?_⟩
 rcases PT.look t hT with ⟨hc1,hone⟩|⟨fs,hu,_⟩
 ·have hva:∀cs,v≠.agg cs:=fun cs e=>by
   subst e
   rcases hone with ⟨k,hu⟩|hu|hu|⟨e,hu,he,hz⟩<;>simp [Value.okWide,hu,Cell.okWide,Cell.ok] at hok
  have hvc:v.cells=#[v]:=by cases v<;>first|rfl|exact absurd rfl (hva _)
  have hyc:y.cells=[y]:=by
   cases h1 with
   | struct hu=>rcases hone with ⟨k,hu'⟩|hu'|hu'|⟨e,hu',he,hz⟩<;>rw [hu] at hu'<;>cases hu'
   | _=>rfl
  have:=h2.2.2 0 y v (by rw [hyc];rfl) (by rw [hvc];rfl)
  exact this
 obtain ⟨cs,rfl,hsz,_⟩:∃cs,v=.agg cs∧cs.size=P.cellsOf t∧Row.okWide P W .any b0 t cs:=by
  simp only [Value.okWide,hu] at hok
  exact hok
 cases h1 with
 | struct hu' hn1 hn2 hh =>
  refine .agg _ _ _ (by have:=h2.1;simp only [AV.cells,Value.cells,Array.length_toList] at this;exact this.symm) h2.2.1 (fun i c u a b=>h2.2.2 i c u a (by simpa [Value.cells] using b))
 | int hu'=>rw [hu] at hu';cases hu'
 | bool hu'=>rw [hu] at hu';cases hu'
 | str hu'=>rw [hu] at hu';cases hu'
 | nil hu'=>rw [hu] at hu';cases hu'
 | slice hu'=>rw [hu] at hu';cases hu'

def DReps (P:Program):List TypeId→List (DataW H)→List AV→Prop
 | [],[],[]=>True
 | t::ts,d::ds,y::ys=>DRep P t d y∧DReps P ts ds ys
 | _,_,_=>False

theorem DReps.cons' {t:TypeId} {ts:List TypeId} {ds:List (DataW H)} {ys:List AV} (h:DReps P (t::ts) ds ys):∃d ds' y ys',ds=d::ds'∧ys=y::ys'∧DRep P t d y∧DReps P ts ds' ys':=by
 match ds,ys,h with
 | d::ds',y::ys',⟨h1,h2⟩=>exact ⟨d,ds',y,ys',rfl,rfl,h1,h2⟩
 | [],_,h=>simp [DReps] at h
 | _::_,[],h=>simp [DReps] at h
theorem DReps.nil' {ds:List (DataW H)} {ys:List AV} (h:DReps P [] ds ys):ds=[]∧ys=[]:=by
 match ds,ys,h with
 | [],[],_=>exact ⟨rfl,rfl⟩
 | [],_::_,h=>simp [DReps] at h
 | _::_,_,h=>simp [DReps] at h
theorem ax {T:TypeId→Prop} (PT:PlainT P T) {W:World} {b0:Nat}:∀(ts:List TypeId) (vs:List Value) (ds:List (DataW H)) (ps:List MemPlace),(∀t∈ts,T t) →
  (∀(j:Nat) t v,ts[j]? = some t→vs[j]? = some v→Value.okWide P W .any b0 t v)→DataW.TrodAll enc P W 0 (fun _=>true) true ts vs ds ps →
  ∃ys,DReps P ts ds ys∧ys.length=vs.length∧∀(i:Nat) (y:AV) (u:Value),ys[i]? = some y→vs[i]? = some u→Rep (G0 W) W none y u
 | [],[],[],_,_,_,_=>⟨[],trivial,rfl,fun i y u h=>by simp at h⟩
 | t::ts,v::vs,d::ds,ps,hT,hok,⟨p,q,h1,h2,_⟩=>by
  obtain ⟨y,k1,k2⟩:=AEj PT (hT t (by simp)) (hok 0 t v rfl rfl) h1
  obtain ⟨ys,k3,k4,k5⟩:=ax PT ts vs ds q (fun t ht=>hT t (by simp [ht])) (fun j t v a b=>hok (j+1) t v a b) h2
  refine ⟨y::ys,⟨k1,k3⟩,by simp [k4],fun i z u a b=>?_⟩
  match i with
  | 0=>simp at a b;subst a;subst b;exact k2
  | i+1=>exact k5 i z u a b
 | [],_::_,_,_,_,_,h=>by simp [DataW.TrodAll] at h
 | [],[],_::_,_,_,_,h=>by simp [DataW.TrodAll] at h
 | _::_,[],_,_,_,_,h=>by simp [DataW.TrodAll] at h
 | _::_,_::_,[],_,_,_,h=>by simp [DataW.TrodAll] at h

theorem Uw {W:World} {sp:Nat→Bool} {hd:Bool}:∀{ts:List TypeId} {vs:List Value} {ds:List (DataW H)} {ps:List MemPlace},DataW.TrodAll enc P W 0 sp hd ts vs ds ps→ds.length=ts.length
 | [],[],[],_,_=>rfl
 | _::_,_::_,_::_,_,⟨_,_,_,h,_⟩=>by rw [Bi,Bi,Uw h]
 | [],_::_,_,_,h=>by simp [DataW.TrodAll] at h
 | [],[],_::_,_,h=>by simp [DataW.TrodAll] at h
 | _::_,[],_,_,h=>by simp [DataW.TrodAll] at h
 | _::_,_::_,[],_,h=>by simp [DataW.TrodAll] at h
theorem Ot {W W':World} {sp:Nat→Bool}:∀{ts:List TypeId} {vs:List Value} {ds:List (DataW H)} {ps:List MemPlace},DataW.TrodAll enc P W 0 sp true ts vs ds ps→(∀p∈ps,W.sameAt W' p)→DataW.TrodAll enc P W' 0 sp true ts vs ds ps
 | [],[],[],_,h,_=>h
 | _::_,_::_,_::_,_,⟨p,q,⟨n,hn⟩,h2,e⟩,hs=>⟨p,q,⟨n,DataW.trod_carry n _ _ _ hn (fun x hx=>hs x (by rw [e];exact d8 _ hx))⟩,Ot h2 (fun x hx=>hs x (by rw [e];exact Rn _ hx)),e⟩
 | [],_::_,_,_,h,_=>by simp [DataW.TrodAll] at h
 | [],[],_::_,_,h,_=>by simp [DataW.TrodAll] at h
 | _::_,[],_,_,h,_=>by simp [DataW.TrodAll] at h
 | _::_,_::_,[],_,h,_=>by simp [DataW.TrodAll] at h

/-- **A law that answers true, for whatever can be read.** -/
theorem vk {f:FuncId} {fn:Func} {s:ChangeSpec} {T:TypeId→Prop} {tb:TypeId} {W:World} {base:Nat} {args:Array Value} {ds gs:List (DataW H)} {before:List MemPlace} (K:Kids P (·<P.types.size)) (hz:∀t e,t<P.types.size→P.underlying t=some (.slice e)→0<P.cellsOf e)
  (PT:PlainT P T) (hT:∀t∈fn.params.toList,T t∧t<P.types.size) (hb:P.underlying tb=some .bool) (hres:fn.resultTypes=#[tb]) (hvars:s.vars=[])
  (hspec:∀ds:List (DataW H),ds.length=fn.params.size→s.fn H ds={ results:=[.lit (.bool true)],args:=ds })
  (hval:∀(j:Nat) t v,fn.params[j]? = some t→args[j]? = some v→Value.okWide P W .any base t v) (hW:DataW.Whole enc P fn.params.toList s.vars false W args.toList ds gs before)
  (hglob:J0 W)
  (main:∀ys:List AV,DReps P fn.params.toList ds ys→AFun P f ys [] (.v (.bool true))) (hbd:GI.bd≤0:=by exact Am 0):
  Calls P f args W (fun e W'=>∃v,e=.returned v∧s.post enc P fn false true false false W args v W'):=by
 have hW0:=hW
 obtain ⟨p,q,hA,hV,hpq,hfz,hnd⟩:=hW
 rw [hvars] at hV
 obtain ⟨rfl,rfl⟩:=trodVars_none hV
 rw [Gs] at hpq
 subst hpq
 obtain ⟨ys,h1,h2,h3⟩:=ax PT _ _ _ _ (fun t ht=>(hT t ht).1) (fun j t v a b=>hval j t v (by simpa using a) (by simpa using b)) hA
 have hlen:=Uw hA
 have hc:=main ys h1 0 (G0 W) W args (by simpa using h2.symm) (fun i y u a b=>(h3 i y u a (by simpa using b)).lift) (AEh W) (AEi hglob)
 refine (callsIn_wide.1 (hc hbd)).mono ?_
 rintro e W' ⟨v,G',r,H',rfl,hr,hH,hTg,hk,hl,rfl,rfl⟩
 have hv:=Rp hr
 subst hv
 refine ⟨_,rfl,ds,[],before,[],before,[],hW0,?_,?_,?_,?_,fun h=>by cases h⟩
 ·rw [hres,Gs,hspec ds (by simpa using hlen)]
  exact trodAll_cons_mk (p:=[]) (shut_bool hb true) trodAll_mk0
 ·rw [Gs,hspec ds (by simpa using hlen)]
  refine Ot (DataW.TrodAll.respare K hz (fun t ht=>(hT t ht).2) hA (fun p hp=>by simpa using hW0.lt p hp)) (fun p hp=>?_)
  have hlt:=hW0.lt p hp
  have hb:=(hk.old _ (Tw hlt)).1
  cases p with
  | cell b o=>exact Ji hb
  | map b=>exact hb
 ·rw [hvars,Gs,hspec ds (by simpa using hlen)]
  rfl
 refine ⟨hk.os,hk.output,fun i hi=>?_⟩
 have hb:=(hk.old i (Tw hi)).1
 rw [hb]
 cases ho:W.heap[i]? with
 | none=>simp
 | some o=>cases o<;>simp
end
end Go.SX
namespace Go.Proofs.YtekiioamifokoaaGreatDoor
open Go Go.SX Go.SX.Nb Go.ChangeShapes Go.RowKit
set_option maxRecDepth 100000

theorem own:ownKnob Tryz.prog.godebug=none:=by kernel_rfl
theorem kids:Kids Tryz.prog (·<Tryz.prog.types.size):=kids_rows (by kernel_rfl) (by kernel_rfl)
theorem full:∀t e,t<Tryz.prog.types.size→Tryz.prog.underlying t=some (.slice e)→0<Tryz.prog.cellsOf e:=slices_full_of Tryz.prog (by kernel_rfl)
theorem AAp {H:Type}:∀d:DataW H,1≤Rows.uptoBulk d
 | .lit (.string b)=>by rw [Rows.uptoBulk];omega
 | .lit (.bool _)=>by simp [Rows.uptoBulk]
 | .lit (.int _ _)=>by simp [Rows.uptoBulk]
 | .lit (.float _ _)=>by simp [Rows.uptoBulk]
 | .lit .nil=>by simp [Rows.uptoBulk]
 | .nil=>by simp [Rows.uptoBulk]
 | .ptr d=>by rw [Rows.uptoBulk];omega
 | .slice a b=>by rw [Rows.uptoBulk];omega
 | .agg a=>by rw [Rows.uptoBulk];omega
 | .iface _ d=>by rw [Rows.uptoBulk];omega
 | .map a=>by rw [Rows.uptoBulk];omega
 | .held _=>by simp [Rows.uptoBulk]
theorem X8 {H:Type}:∀l:List (DataW H),l.length≤Rows.uptoBulkAll l∧∀d∈l,Rows.uptoBulk d≤Rows.uptoBulkAll l
 | []=>⟨Nat.zero_le _,fun d h=>by cases h⟩
 | d::r=>by
  obtain ⟨h1,h2⟩:=X8 r
  have:=AAp d
  rw [Rows.uptoBulkAll,List.length_cons]
  refine ⟨by omega,fun x hx=>?_⟩
  rcases List.mem_cons.1 hx with rfl|hx
  ·omega
  have:=h2 x hx;omega
theorem jf {H:Type}:Bulk (Rows.uptoBulk (H:=H)) where
 str:=fun bs=>by rw [Rows.uptoBulk];omega
 slice:=fun elems spare=>by
  obtain ⟨h1,h2⟩:=X8 elems
  rw [Rows.uptoBulk]
  exact ⟨by omega,fun d hd=>by have:=h2 d hd;omega⟩
 agg:=fun parts d hd=>by
  have:=(X8 parts).2 d hd
  rw [Rows.uptoBulk]
  omega

/-- What the rows of this seat list. -/
def qx:List (String×DataW Unit):=Rows.rewriteTellsUptoRow.laid
theorem ay:∀u,Tryz.prog.typeName? 3 u=some "*errors.errorString" → u=267:=by
 intro u hu
 exact typeName_ptr_named (nm := "errors.errorString") (by kernel_rfl) (by kernel_rfl) (by decide) u hu
theorem AEk {W:World} (h:laidMet Tryz.prog qx W):∃a:Addr,W.var? Tryz.prog "strconv.ErrRange" = some #[.iface 267 (.pointer (some a))]:=by
 have h':=h.tail.tail.tail.tail
 obtain ⟨a,s,h1,_⟩:=laid_sentinel (g:=1) (ti:=164) (tp:=267) (te:=269) (ts:=9) h' (by kernel_rfl) (by kernel_rfl) Tryz.underlying164 ay Tryz.underlying267 Tryz.underlying269 rfl rfl Tryz.underlying9 (by kernel_rfl) (by kernel_rfl)
 exact ⟨a,h1⟩
theorem AAq {W:World} (h:laidMet Tryz.prog qx W):∃a:Addr,W.var? Tryz.prog "strconv.ErrSyntax" = some #[.iface 267 (.pointer (some a))]:=by
 have h':=h.tail.tail.tail.tail.tail
 obtain ⟨a,s,h1,_⟩:=laid_sentinel (g:=0) (ti:=164) (tp:=267) (te:=269) (ts:=9) h' (by kernel_rfl) (by kernel_rfl) Tryz.underlying164 ay Tryz.underlying267 Tryz.underlying269 rfl rfl Tryz.underlying9 (by kernel_rfl) (by kernel_rfl)
 exact ⟨a,h1⟩
theorem AEl {W:World} (h:laidMet Tryz.prog qx W):Lib.TabIs Tryz.prog W "internal/strconv.uint64pow10" .u64 Lib.pow10Tab:=
 Lib.tabIs_of_head (g:=5) (t:=327) (e:=249) (n:=20) (by kernel_rfl) (by kernel_rfl) (by kernel_rfl) (by kernel_rfl) (by kernel_rfl) (by kernel_rfl) h.tail.tail
theorem Tx {P:Program} {W:World} {n:String} {g:Nat} {cs:Array Value} (hg:P.globalNamed n=some g) (h:W.var? P n=some cs):∃t f,W.heap[g]? = some (.cells cs t f):=by
 unfold World.var? at h
 rw [hg] at h
 simp only [Option.bind_some] at h
 split at h
 ·rename_i cs' t f e
  injection h with h
  subst h
  exact ⟨t,f,e⟩
 cases h
theorem glob {W:World} [E:ErrAt] (h:W.ShapedOpen Tryz.prog) (hl:laidMet Tryz.prog qx W) (he:W.var? Tryz.prog "strconv.ErrRange" = some #[.iface 267 (.pointer (some E.b))]) (he2:W.var? Tryz.prog "strconv.ErrSyntax" = some #[.iface 267 (.pointer (some E.bs))]):J0 W:=by
 intro x hx
 have hx':x∈Wq:=hx
 unfold Wq at hx'
 simp only [List.mem_cons,List.mem_nil_iff,or_false] at hx'
 rcases hx' with rfl|rfl|rfl|rfl
 ·obtain ⟨m,hm⟩:=cell_of_shapedOpen_int (g:=2) (t:=3) (zero:=#[.int .i64 0]) (k:=.i64) h (of_decide_eq_true (by kernel_rfl)) (by kernel_rfl) rfl (by kernel_rfl) (by kernel_rfl) Tryz.underlying3
  obtain ⟨cs,hh,hs,_⟩:=h.1 2 #[.int .i64 0] 3 (of_decide_eq_true (by kernel_rfl)) (by kernel_rfl)
  have hs':cs.size=1:=hs
  have h1:0<cs.size:=by omega
  have hc:cs[0]=.int .i64 m:=by
   simp [World.cell?,hh,h1] at hm
   exact hm
  have:cs=#[.int .i64 m]:=by
   apply Array.ext
   ·simpa using hs'
   intro i h1 h2
   have:i=0:=by omega
   subst this
   simpa using hc
  rw [this] at hh
  exact ⟨_,hh,m,3,_,rfl⟩
 ·obtain ⟨t,f,e⟩:=Tx (g:=1) (by kernel_rfl) he
  exact ⟨_,e,t,f,rfl⟩
 ·obtain ⟨t,f,e⟩:=Tx (g:=0) (by kernel_rfl) he2
  exact ⟨_,e,t,f,rfl⟩
 obtain ⟨t,f,e⟩:=Tx (g:=5) (by kernel_rfl) (AEl hl)
 exact ⟨_,e,t,f,rfl⟩
end Go.Proofs.YtekiioamifokoaaGreatDoor
namespace Go.SX.Nb
open Go Go.SX Go.Proofs
variable [ErrAt]
set_option maxRecDepth 4000
mutual
def depthE:Expr→Nat
 | .mk _ _ _ k=>Ou k+1
def Ou:List Expr→Nat
  | []=>0
  | e::r=>max (depthE e) (Ou r)
 end
mutual
def E0 (p:Expr→Bool):Expr→Bool
 | .mk o t v k=>p (.mk o t v k)&&Ov p k
def Ov (p:Expr→Bool):List Expr→Bool
  | []=>true
  | e::r=>E0 p e&&Ov p r
 end
mutual
def X9:Expr→List Expr
 | .mk o t v k=>.mk o t v k::Ty k
def Ty:List Expr→List Expr
  | []=>[]
  | e::r=>X9 e++Ty r
 end
theorem az (e:Expr):depthE e=Ou e.kids+1:=by cases e;rfl
theorem Jf (p:Expr→Bool) (e:Expr):E0 p e=(p e&&Ov p e.kids):=by cases e;rfl
theorem S6:∀a b,Ef (a++b)=Ef a+Ef b
 | [],b=>by rw [D9,Ef,Bl]
 | e::r,b=>by rw [Dk,Ef,Ef,S6 r b,Ka]
theorem Fh (p:Expr→Bool):∀l:List Expr,Ov p l=true↔∀y∈l,E0 p y=true
 | []=>by simp [Ov]
 | e::r=>by rw [Ov,At,Fh p r];simp
mutual
theorem Gz:∀(d:Int) (e:Expr),(Bs d e).length=sizeE e
 | d,.mk o t v k=>by rw [Bs,sizeE,Bi,Xa (d+1) k,Nat.add_comm]
theorem Xa:∀(d:Int) (l:List Expr),(Bn d l).length=Ef l
  | d,[]=>rfl
  | d,e::r=>by rw [Bn,Ef,Av,Gz d e,Xa d r]
 end
mutual
theorem Xb:∀(d:Int) (e:Expr),(Bs d e).map (·.2)=X9 e
 | d,.mk o t v k=>by rw [Bs,X9,Br,Xc (d+1) k]
theorem Xc:∀(d:Int) (l:List Expr),(Bn d l).map (·.2)=Ty l
  | d,[]=>rfl
  | d,e::r=>by rw [Bn,Ty,Bq,Xb d e,Xc d r]
 end
mutual
theorem b6 (p:Expr→Bool):∀e:Expr,(X9 e).all p=E0 p e
 | .mk o t v k=>by rw [X9,E0,List.all_cons,Xd p k]
theorem Xd (p:Expr→Bool):∀l:List Expr,(Ty l).all p=Ov p l
  | []=>rfl
  | e::r=>by rw [Ty,Ov,List.all_append,b6 p e,Xd p r]
 end
theorem vl (p:Expr→Bool) (d:Int) (e:Expr):((Bs d e).all fun it=>p it.2)=E0 p e:=by
 rw [←b6 p e,←Xb d e,List.all_map]
 rfl
def Fo (m:Int) (L:List (Int×Expr)):Int:=L.foldl (fun m it=>max m it.1) m
mutual
theorem Xe:∀(d m:Int) (e:Expr),Fo m (Bs d e)=max m (d-1+depthE e)
 | d,m,.mk o t v k=>by
  rw [Bs,depthE]
  show Fo (max m d) (Bn (d+1) k)=_
  rw [Xf (d+1) (max m d) k (by omega)]
  omega
theorem Xf:∀(d m:Int) (l:List Expr),d-1≤m→Fo m (Bn d l)=max m (d-1+Ou l)
  | d,m,[],h=>by
    rw [Bn,Ou]
    show m=_
    omega
  | d,m,e::r,h=>by
    rw [Bn,Ou]
    unfold Fo
    rw [md]
    show Fo (Fo m (Bs d e)) (Bn d r)=_
    rw [Xe d m e,Xf d _ r (by omega)]
    omega
 end
theorem Ux (e:Expr):Fo 0 (Bs 1 e)=depthE e:=by rw [Xe];omega
theorem jg:∀(L:List (Int×Expr)) (m b:Int),m≤b→(Fo m L≤b↔∀it∈L,it.1≤b)
 | [],m,b,h=>by simp [Fo,h]
 | it::r,m,b,h=>by
  show Fo (max m it.1) r≤b↔_
  rcases Decidable.em (it.1≤b) with h1|h1
  ·rw [jg r (max m it.1) b (by omega)]
   simp [h1]
  constructor
  ·intro h2
   have:∀(r:List (Int×Expr)) (m:Int),m≤Fo m r:=by
    intro r
    induction r with
    | nil=>intro m;exact Int.le_refl _
    | cons a r ih=>intro m;have:=ih (max m a.1);show m≤Fo (max m a.1) r;omega
   have:=this r (max m it.1)
   omega
  intro h2
  exact absurd (h2 it (by simp)) h1
theorem AEm (e:Expr) {b:Nat}:(∀it∈Bs 1 e,it.1≤(b:Int))↔depthE e≤b:=by
 rw [←jg (Bs 1 e) 0 b (by omega),Ux]
 omega
def Fi (e:Expr):Bool:=(decide (depthE e≤30)&&decide (sizeE e≤300))&&E0 Ew e
theorem Fx (e:Expr):Ay e=Fi e:=by
 have hpos:1≤sizeE e:=by rw [j6];omega
 rw [T6]
 unfold Ay Fi
 rw [B0]
 simp only [At,decide_eq_true_eq,Pc,Gz]
 rw [←AEm e,←vl Ew 1 e,B0]
 constructor
 ·intro h
  have key:∀(k:Nat) (hk:k<(Bs 1 e).length),Ew (Bs 1 e)[k].2=true∧(Bs 1 e)[k].1≤30∧(k:Int)+1≤300:=fun k hk=>by
   have:=h k (by rw [Gz] at hk;exact hk)
   rw [f7 (Ab hk)] at this
   simp only [Ko,E1,Mo,decide_eq_false_iff_not] at this
   exact ⟨this.1.1,by have:=this.1.2;omega,by have:=this.2;omega⟩
  refine ⟨⟨fun it hit=>?_,?_⟩,fun it hit=>?_⟩
  ·obtain ⟨k,hk,rfl⟩:=cz hit
   exact (key k hk).2.1
  ·have:=(key (sizeE e-1) (by rw [Gz];omega)).2.2
   omega
  obtain ⟨k,hk,rfl⟩:=cz hit
  exact (key k hk).1
 rintro ⟨⟨h1,h2⟩,h3⟩ k hk
 have hk':k<(Bs 1 e).length:=by rw [Gz];exact hk
 rw [f7 (Ab hk')]
 have a1:=h1 _ (Be hk')
 have a3:=h3 _ (Be hk')
 have a3':Ew (Bs 1 e)[k].2=true:=a3
 rw [a3']
 simp only [Ko,E1,Kp,decide_eq_false_iff_not]
 exact ⟨⟨trivial,by have:(Bs 1 e)[k].1≤(30:Int):=a1;omega⟩,by omega⟩
/-- Its number is one of 64 bits. -/
def Hb (e:Expr):Bool:=decide (-9223372036854775808≤e.val.n)&&decide (e.val.n≤9223372036854775807)
/-! Names. -/
mutual
def eqE:Expr→Expr→Bool
 | .mk o t v k,.mk o' t' v' k'=>((((o==o')&&(t==t'))&&((v.kind==v'.kind&&v.n==v'.n)&&v.s==v'.s)))&&eqL k k'
def eqL:List Expr→List Expr→Bool
  | [],[]=>true
  | e::r,e'::r'=>eqE e e'&&eqL r r'
  | _,_=>false
 end
theorem AAr (x y:Expr):eqE x y=((((x.op==y.op)&&(x.text==y.text))&&((x.val.kind==y.val.kind&&x.val.n==y.val.n)&&x.val.s==y.val.s))&&eqL x.kids y.kids):=by
 cases x;cases y;rw [eqE];rfl
mutual
theorem Vt:∀x y:Expr,eqE x y=true↔x=y
 | .mk o t v k,.mk o' t' v' k'=>by
  rw [eqE]
  simp only [At,beq_iff_eq,S7 k k',Expr.mk.injEq]
  constructor
  ·rintro ⟨⟨⟨rfl,rfl⟩,⟨h1,h2⟩,h3⟩,rfl⟩
   refine ⟨rfl,rfl,?_,rfl⟩
   cases v;cases v'
   simp_all
  rintro ⟨rfl,rfl,rfl,rfl⟩
  exact ⟨⟨⟨rfl,rfl⟩,⟨rfl,rfl⟩,rfl⟩,rfl⟩
theorem S7:∀x y:List Expr,eqL x y=true↔x=y
  | [],[]=>by simp [eqL]
  | [],e::r=>by simp [eqL]
  | e::r,[]=>by simp [eqL]
  | e::r,e'::r'=>by rw [eqL,At,Vt e e',S7 r r',T7]
 end
theorem AEn:∀{x y:List Expr},eqL x y=true→x.length=y.length:=fun h=>by rw [(S7 _ _).1 h]
theorem Xg (x:Expr):eqE x x=true:=(Vt x x).2 rfl
/-! A node by itself, and marks. -/
theorem ff {of:Str} {ws:List Str} (h:of=Oo ws) (hp:∀w∈ws,(32:UInt8)∉w) (s:Str):Pm s of=(!(s==[])&&ws.contains s):=by
 unfold Pm
 rw [jd]
 cases hb:s.contains 32 with
 | false =>
  have h2:(32:UInt8)∉s:=by simpa using hb
  rw [h,L5 s h2 ws hp,lv,W3]
  congr 1
  rw [List.contains_eq_any_beq]
  congr 1
  funext w
  rw [T6,beq_iff_eq,beq_iff_eq]
  exact eq_comm
 | true =>
  have h2:(32:UInt8)∈s:=by simpa using hb
  have h3:ws.contains s=false:=by
   rw [Jt]
   intro h4
   exact hp s (by simpa using h4) h2
  rw [h3]
  simp
def levels:List (List Str):=[[[111,114]],[[97,110,100]],[],[[61],[33,61],[60],[60,61],[62],[62,61]],[[43],[45],[38]],[[42],[47],[37]]]
def N7 (s:Str):Int:=match levels.findIdx? (fun l=>l.contains s) with|some i=>i|none => -1
def Tz:List Str:=[[111,114],[],[97,110,100],[],[61],[33,61],[60],[60,61],[62],[62,61],[],[43],[45],[38],[],[42],[47],[37]]
theorem nz:Pn=Oo Tz:=by kernel_rfl
theorem jh:∀w∈Tz,(32:UInt8)∉w:=by decide
theorem o4 (s:Str):Pm s Pn=decide (0≤N7 s):=by
 rw [ff nz jh s]
 have h1:decide (0≤N7 s)=levels.any (fun l=>l.contains s):=by
  unfold N7
  cases h:levels.findIdx? (fun l=>l.contains s) with
  | some i =>
   have:levels.any (fun l=>l.contains s)=true:=by
    have:=Qi.1 h
    obtain ⟨hi,hp,_⟩:=this
    exact H9.2 ⟨_,Be hi,hp⟩
   rw [this]
   simp
  | none =>
   have:=Tb.1 h
   have e:levels.any (fun l=>l.contains s)=false:=by
    rw [I2]
    intro l hl
    rw [this l hl]
    simp
   rw [e]
   rfl
 rw [h1]
 by_cases h0:s=[]
 ·subst h0;rfl
 have:(s==[])=false:=by simpa using h0
 rw [this,lv,Mp]
 simp [levels,Tz,h0,Bool.or_assoc]
def Xh (e:Expr):Bool:=
 if e.op==1 then ((Ee e.val&&decide (0≤e.val.n))&&(e.text==[]))&&((e.kids.length:Int)==0)
 else if !(Ns e.val) then false
 else if e.op==2 then Q6 e.text&&((e.kids.length:Int)==0)
 else if e.op==3 || e.op==4 then (e.text==[])&&((e.kids.length:Int)==1)
 else if e.op==5 then decide (0≤N7 e.text)&&((e.kids.length:Int)==2)
 else if e.op==6 then Cf e.text==(e.kids.length:Int)
 else false
theorem AAs (e:Expr):Ew e=Xh e:=by
 unfold Ew Xh
 rw [o4,Hu]
 cases Ns e.val<;>simp
/-! What is wide. -/
def U0 (e:Expr):Bool:=((decide ((100:Int)<e.text.length) || decide ((400:Int)<e.val.s.length)) || decide ((100:Int)<e.kids.length))
/-- Among trees, when n have been seen: is one too much? -/
def Q7 (l:List Expr) (n:Nat):Bool:=decide (500<n+l.length) || l.any U0
def Hg:Nat→List Expr→Nat→Bool
 | 0,l,n => !l.isEmpty
 | f+1,l,n=>if l.isEmpty then false else if Q7 l n then true else if decide ((500:Int)<(l.flatMap Expr.kids).length) then true else Hg f (l.flatMap Expr.kids) (n+l.length)
theorem Xi:∀l:List Expr,Ef l=l.length+Ef (l.flatMap Expr.kids)
 | []=>rfl
 | e::r=>by
  rw [Ef,j6,cx,S6,Xi r,Bi]
  omega
theorem Xj {l:List Expr} {n:Nat} (h:Q7 l n=false):n+l.length≤500∧∀e∈l,U0 e=false:=by
 unfold Q7 at h
 simp only [E1,decide_eq_false_iff_not,I2,Qf] at h
 exact ⟨by omega,h.2⟩
theorem fg {e:Expr} (h:U0 e=false):e.text.length≤100∧e.val.s.length≤400∧e.kids.length≤100:=by
 unfold U0 at h
 simp only [E1,decide_eq_false_iff_not] at h
 omega
theorem b7 {f:Nat} {l:List Expr} {n:Nat} (h:Hg (f+1) l n=false) (hl:l.isEmpty=false):Q7 l n=false∧(l.flatMap Expr.kids).length≤500∧Hg f (l.flatMap Expr.kids) (n+l.length)=false:=by
 rw [Hg,if_neg (by rw [hl];simp)] at h
 split at h
 ·cases h
 rename_i h1
 split at h
 ·cases h
 rename_i h2
 simp only [decide_eq_true_eq] at h2
 exact ⟨by simpa using h1,by omega,h⟩
theorem qy:∀(f:Nat) (l:List Expr) (n:Nat),Hg f l n=false→∀e∈l,okE f e∧E0 (fun y => !U0 y) e=true
 | 0,l,n,h,e,he=>by
  have:l=[]:=by simpa [Hg] using h
  subst this
  cases he
 | f+1,l,n,h,e,he=>by
  have hl:l.isEmpty=false:=by cases l<;>simp_all
  obtain ⟨h1,h2,h3⟩:=b7 h hl
  have h4:=fg ((Xj h1).2 e he)
  have ih:=qy f _ _ h3
  have hk:∀y∈e.kids,okE f y∧E0 (fun y => !U0 y) y=true:=fun y hy=>ih y (List.mem_flatMap.2 ⟨e,he,hy⟩)
  refine ⟨⟨by omega,by omega,fun y hy=>(hk y hy).1⟩,?_⟩
  rw [Jf,(Xj h1).2 e he,(Fh _ _).2 fun y hy=>(hk y hy).2]
  rfl
theorem b8:∀(f:Nat) (l:List Expr) (n:Nat),n≤500→Hg f l n=false→n+Ef l≤500
 | 0,l,n,hn,h=>by
  have:l=[]:=by simpa [Hg] using h
  subst this
  simpa [Ef] using hn
 | f+1,l,n,hn,h=>by
  by_cases hl:l.isEmpty=true
  ·have:l=[]:=by simpa using hl
   subst this
   simpa [Ef] using hn
  have hl':l.isEmpty=false:=by simpa using hl
  obtain ⟨h1,h2,h3⟩:=b7 h hl'
  have:=b8 f _ _ (Xj h1).1 h3
  rw [Xi l]
  omega
def S8 (e:Expr):Bool:=Hg 61 [e] 0
/-- A tree that is gone through. -/
structure Slim (e:Expr):Prop where
 ok:okE 61 e
 size:sizeE e≤500
 slim:E0 (fun y => !U0 y) e=true
theorem qz {e:Expr} (h:S8 e=false):Slim e:=by
 obtain ⟨h1,h2⟩:=qy _ _ _ h e (by simp)
 have:=b8 _ _ _ (by decide) h
 exact ⟨h1,by simpa [Ef] using this,h2⟩
end Go.SX.Nb
namespace Go.Proofs.YtekiioamifokoaaGreatDoor
open Go Go.SX Go.SX.Nb Go.ChangeShapes Go.RowKit
set_option maxRecDepth 100000
theorem o5 {ys:List AV} (h:∀(i:Nat) (y:AV),ys[i]? = some y→∃e:Nb.Expr,y=A7 e∧E0 Hb e=true):∃l:List Nb.Expr,ys=l.map A7∧Ov Hb l=true:=by
 induction ys with
 | nil=>exact ⟨[],rfl,rfl⟩
 | cons y ys ih =>
  obtain ⟨e,rfl,he⟩:=h 0 y rfl
  obtain ⟨l,rfl,hl⟩:=ih (fun i z hz=>h (i+1) z hz)
  exact ⟨e::l,rfl,by rw [Ov,he,hl];rfl⟩
theorem r6 {H:Type} [ErrAt] (d:DataW H) (y:AV) (h:DRep Tryz.prog 24 d y):∃v:Val,y=Bm v ∧ -9223372036854775808≤v.n∧v.n≤9223372036854775807:=by
 obtain ⟨ys,hn,rfl,hh⟩:=h.struct' jf Tryz.underlying24
 match ys,hn with
 | [y0,y1,y2],_ =>
  obtain ⟨d0,b0,h0⟩:=hh 0 _ y0 rfl rfl
  obtain ⟨d1,b1,h1⟩:=hh 1 _ y1 rfl rfl
  obtain ⟨d2,b2,h2⟩:=hh 2 _ y2 rfl rfl
  obtain ⟨k,rfl,rfl,_⟩:=h0.int' Tryz.underlying3
  obtain ⟨n,rfl,rfl,hn1,hn2⟩:=h1.int' Tryz.underlying2
  obtain ⟨s,rfl,rfl⟩:=h2.str' Tryz.underlying9
  exact ⟨⟨k,n,s⟩,rfl,hn1,hn2⟩
theorem AAt {H:Type} [ErrAt] {t:TypeId} {d:DataW H} {y:AV} (h:DRep Tryz.prog t d y):(t=27→∃e:Nb.Expr,y=A7 e∧E0 Hb e=true)∧(t=25→∃l:List Nb.Expr,y=.slice false 6 (l.map A7)∧Ov Hb l=true):=by
 induction h with
 | int hu _=>exact ⟨fun e=>(by subst e;rw [Tryz.underlying27] at hu;cases hu),fun e=>by subst e;rw [Tryz.underlying25] at hu;cases hu⟩
 | bool hu=>exact ⟨fun e=>(by subst e;rw [Tryz.underlying27] at hu;cases hu),fun e=>by subst e;rw [Tryz.underlying25] at hu;cases hu⟩
 | str hu=>exact ⟨fun e=>(by subst e;rw [Tryz.underlying27] at hu;cases hu),fun e=>by subst e;rw [Tryz.underlying25] at hu;cases hu⟩
 | nil hu =>
  refine ⟨fun e=>(by subst e;rw [Tryz.underlying27] at hu;cases hu),fun e=>?_⟩
  subst e
  rw [Tryz.underlying25] at hu
  injection hu with hu
  injection hu with hu
  subst hu
  exact ⟨[],by rw [show Tryz.prog.cellsOf 27=6 by kernel_rfl];rfl,rfl⟩
 | slice hu hn hh ih =>
  refine ⟨fun e=>(by subst e;rw [Tryz.underlying27] at hu;cases hu),fun e=>?_⟩
  subst e
  rw [Tryz.underlying25] at hu
  injection hu with hu
  injection hu with hu
  subst hu
  rename_i elems spare ys
  obtain ⟨l,rfl,hl⟩:=o5 (ys:=ys) (fun i y hy=>by
   have hlt:i<elems.length:=by rw [←hn];exact (List.getElem?_eq_some_iff.1 hy).1
   exact (ih i elems[i] y (List.getElem?_eq_getElem hlt) hy).1 rfl)
  exact ⟨l,by rw [show Tryz.prog.cellsOf 27=6 by kernel_rfl],hl⟩
 | struct hu hn hn' hh ih =>
  refine ⟨fun e=>?_,fun e=>by subst e;rw [Tryz.underlying25] at hu;cases hu⟩
  subst e
  rw [Tryz.underlying27] at hu
  injection hu with hu
  injection hu with hu
  subst hu
  rename_i parts ys
  match parts,hn,ys,hn' with
  | [p0,p1,p2,p3],_,[y0,y1,y2,y3],_ =>
   obtain ⟨o,rfl,rfl,_⟩:=(hh 0 _ p0 y0 rfl rfl rfl).int' Tryz.underlying3
   obtain ⟨s,rfl,rfl⟩:=(hh 1 _ p1 y1 rfl rfl rfl).str' Tryz.underlying9
   obtain ⟨v,rfl,hv1,hv2⟩:=r6 p2 y2 (hh 2 _ p2 y2 rfl rfl rfl)
   obtain ⟨l,rfl,hl⟩:=(ih 3 _ p3 y3 rfl rfl rfl).2 rfl
   refine ⟨.mk o s v l,?_,?_⟩
   ·rw [Al];rfl
   rw [E0,hl,Bool.and_true]
   show (decide (-9223372036854775808≤v.n)&&decide (v.n≤9223372036854775807))=true
   simp [hv1,hv2]
theorem AAu {H:Type} [ErrAt] (d:DataW H) (y:AV) (h:DRep Tryz.prog 27 d y):∃e:Nb.Expr,y=A7 e∧E0 Hb e=true:=(AAt h).1 rfl
end Go.Proofs.YtekiioamifokoaaGreatDoor
namespace Go.SX.Nb
open Go Go.SX Go.Proofs
variable [ErrAt]
set_option maxRecDepth 4000
/-- The lexer from a place between two words on. -/
def AOv (f q:Nat) (s:Str):List (Tok×Int):=J2 f (q+gapM s) (s.drop (gapM s))
theorem ji {f q:Nat} {s:Str} (h:s≠[]):∃(n:Nat),J2 (f+1) q s=(⟨(Cl s).1,(Cl s).2.1,q⟩,(Cl s).2.2.2)::(if (Cl s).2.2.2=0 then AOv f (q+n) (s.drop n) else [])∧((Cl s).2.2.2=0→(Cl s).2.2.1=(n:Int)∧1≤n∧n≤s.length):=by
 refine ⟨(Cl s).2.2.1.toNat,?_,fun he=>?_⟩
 ·rw [On h]
  simp only [beq_iff_eq]
  rfl
 obtain ⟨n,h1,h2,h3⟩:=qv (s:=s) (by cases s with|nil=>exact absurd rfl h|cons c r=>simp) he
 rw [h1]
 exact ⟨rfl,by simpa using h2,by simpa using h3⟩
/-! ### Gaps -/
/-! ### Words -/
theorem AEo {s:Str} (h:(Bd s).2.1=0):s.length≤4000∧(∀it∈Cj s,it.2=0)∧Bd s=((Cj s).map (·.1)++[⟨0,[],s.length⟩],0,0):=by
 unfold Bd at h ⊢
 split at h
 ·exact absurd h (show ¬(3:Int)=0 by decide)
 rename_i hl
 rw [if_neg hl]
 cases hf:(Cj s).find? (fun it=>it.2 != 0) with
 | some it =>
  rw [hf] at h
  have:=mb hf
  simp at this
  exact absurd h this
 | none =>
  rw [O1] at hf
  refine ⟨by omega,fun it hit=>by simpa using hf it hit,rfl⟩
def Uy (s:Str):Int:=if Cw 1==s then 1 else if Cw 2==s then 2 else if Cw 3==s then 3 else 0
structure KindUpto (s:Str) (x:Nat):Prop where
 le:x≤3
 a:1≤x→(Cw 1==s)=false
 b:2≤x→(Cw 2==s)=false
 c:3≤x→(Cw 3==s)=false
theorem AEp {s:Str} {x:Nat} (h:KindUpto s x) (hx:x<3) (e:(Cw ((x:Int)+1)==s)=true):Uy s=(x:Int)+1:=by
 have h3:x=0∨x=1∨x=2:=by omega
 unfold Uy
 rcases h3 with rfl|rfl|rfl
 ·have e:(Cw 1==s)=true:=e
  rw [if_pos e];rfl
 ·have e:(Cw 2==s)=true:=e
  rw [if_neg (by rw [h.a (by omega)];simp),if_pos e];rfl
 have e:(Cw 3==s)=true:=e
 rw [if_neg (by rw [h.a (by omega)];simp),if_neg (by rw [h.b (by omega)];simp),if_pos e];rfl
theorem AEq {s:Str} {x:Nat} (h:KindUpto s x) (hx:x<3) (e:(Cw ((x:Int)+1)==s)=false):KindUpto s (x+1):=by
 have h3:x=0∨x=1∨x=2:=by omega
 rcases h3 with rfl|rfl|rfl
 ·exact ⟨by omega,fun _=>e,fun h=>by omega,fun h=>by omega⟩
 ·exact ⟨by omega,fun _=>h.a (by omega),fun _=>e,fun h=>by omega⟩
 exact ⟨by omega,fun _=>h.a (by omega),fun _=>h.b (by omega),fun _=>e⟩
theorem AEr {s:Str} {x:Nat} (h:KindUpto s x) (hx:3≤x):Uy s=0:=by
 unfold Uy
 rw [if_neg (by rw [h.a (by omega)];simp),if_neg (by rw [h.b (by omega)];simp),if_neg (by rw [h.c (by omega)];simp)]
theorem AOw (s:Str) (Hp:List AObj):AFun Tryz.prog 254 [Ac s] Hp (A3 (Uy s)):=by
 refine Ae [.tmp 2] [0] Tryz.func254 Tryz.ntmps254 (fun d=>?_)
 refine Z43 ?_;refine Z30 ?_;refine Nv ?_
 refine Bf (α:=Nat) (fun x=>⟨13,A6 0 (Ac s) (A6 3 (A3 ((x:Nat)+1)) (fun _=>.any)),Hp,[],[],none⟩) (fun x=>KindUpto s x) (fun x=>3-x) (0) ⟨by omega,fun h=>by omega,fun h=>by omega,fun h=>by omega⟩ (Kt _) rfl (fun x hx=>?_)
 refine Z7 ?_;refine A2 [0,3,5] ?_
 refine A4 (fun ht5=>?_) (fun ht5=>?_)
 ·have hx3:x<3:=by simp at ht5;omega
  refine Oh ?_;refine Z2 ?_;refine Aa Tryz.call97 (c97 _ _) ?_;refine Z0 ?_;refine A2 [0,3,11] ?_
  refine A4 (fun ht11=>?_) (fun ht11=>?_)
  ·refine Z1 ?_;refine Z4 ?_;refine Z62 ?_;exact A8 (Ak A9) ⟨by rw [AEp hx hx3 (by simpa using ht11)],rfl⟩
  refine ef ?_;refine Nv ?_;exact Bg (x+1) (AEq hx hx3 (by simpa using ht11)) (by omega) (Dn (by simp))
 have hx3:3≤x:=by simp at ht5;omega
 refine Pu ?_;refine Z58 ?_;exact A8 (Ak A9) ⟨by rw [AEr hx hx3],rfl⟩

def vm (c:UInt8):Str:=if c=39 then [39,39] else [c]
def S9 (t:Str):Str:=t.flatMap vm
theorem U1 (c:UInt8) (r:Str):S9 (c::r)=vm c++S9 r:=by unfold S9;rw [cx]
theorem r7:∀s:Str,(Lib.index s [39] = -1∧S9 s=s)∨∃i:Nat,Lib.index s [39]=(i:Int)∧i<s.length∧S9 s=s.take i++[39,39]++S9 (s.drop (i+1))
 | []=>.inl ⟨rfl,rfl⟩
 | b::l=>by
  by_cases hb:b=39
  ·subst hb
   refine .inr ⟨0,by simp [Lib.index,List.isPrefixOf],by simp,?_⟩
   rw [U1]
   simp [vm]
  have hp:([39]:Str).isPrefixOf (b::l)=false:=by
   simp [List.isPrefixOf,Ne.symm hb]
  have hd:S9 (b::l)=b::S9 l:=by
   rw [U1,vm,if_neg hb]
   rfl
  rcases r7 l with ⟨h1,h2⟩|⟨i,h1,h2,h3⟩
  ·refine .inl ⟨?_,by rw [hd,h2]⟩
   rw [Lib.index,hp,h1];rfl
  refine .inr ⟨i+1,?_,by simp;omega,?_⟩
  ·rw [Lib.index,hp,h1,if_neg (by simp),if_neg (by simp)]
   rfl
  rw [hd,h3]
  simp
theorem Sa:∀(n:Nat) (s:Str),s.length≤n→Lib.replaceK [39] [39,39] (Lib.count s [39]) s=S9 s
 | n,s,hn=>by
  rcases r7 s with ⟨h1,h2⟩|⟨i,h1,h2,h3⟩
  ·rw [Lib.count_miss h1,h2];rfl
  cases n with
  | zero=>omega
  | succ n =>
   rw [Lib.count_hit (by decide) h1,Nat.add_comm,Lib.replaceK_hit _ _ _ _ i h1]
   have e:i+([39]:Str).length=i+1:=rfl
   rw [e,Sa n (s.drop (i+1)) (by rw [Gj];omega),h3]
theorem jk (s:Str):Lib.replaceAll s [39] [39,39]=S9 s:=by
 unfold Lib.replaceAll Lib.replace
 rw [if_neg (by decide)]
 have e:Lib.replaceNum s [39] (-1)=Lib.count s [39]:=by unfold Lib.replaceNum;rw [if_pos (.inl (by decide))]
 rw [e]
 exact Sa _ s (Am _)
def r8 (t:Tok):Str:=if t.kind=4 then [39]++S9 t.text++[39] else t.text
theorem o6 {q:Str} (h0:q.headD 0=39) (h1:1≤q.length) (h:(Ib q).2=0):[39]++S9 (Ib q).1.s++[39]=q:=by
 cases q with
 | nil=>simp at h1
 | cons c r =>
  have hc:c=39:=h0
  subst hc
  unfold Ib at h ⊢
  have n1:((39::r:Str)==[110,117,108,108])=false:=by rw [beq_eq_false_iff_ne];intro e;injection e with e;exact absurd e (by decide)
  have n2:((39::r:Str)==[116,114,117,101])=false:=by rw [beq_eq_false_iff_ne];intro e;injection e with e;exact absurd e (by decide)
  have n3:((39::r:Str)==[102,97,108,115,101])=false:=by rw [beq_eq_false_iff_ne];intro e;injection e with e;exact absurd e (by decide)
  rw [n1,n2,n3] at h ⊢
  simp only [Bt,if_false,Bool.or_self] at h ⊢
  by_cases hq:an (39::r)=true
  ·rw [if_pos hq] at h ⊢
   unfold iy at h ⊢
   split at h
   ·exact absurd h (show ¬(7:Int)=0 by decide)
   rename_i hp
   rw [if_neg hp]
   have hp':M5 (Wt (39::r))=39::r:=by simpa using hp
   have hk:(Wt (39::r)).kind=2:=rfl
   show [39]++S9 (Wt (39::r)).s++[39]=39::r
   generalize Wt (39::r)=v at hp' hk
   have hne:M5 v≠[]:=by rw [hp'];simp
   rw [←hp']
   unfold M5 at hne ⊢
   split at hne
   ·exact absurd rfl hne
   rename_i hpl
   rw [if_neg hpl,hk,if_neg (by decide),if_pos (by decide),jk]
  rw [if_neg hq] at h
  have hd:L1 (39::r)=true:=by
   unfold L1
   have e:Uq (39::r)=39::r:=by
    rcases Ur (39::r) with ⟨_,h4⟩|⟨r',h3,_⟩
    ·exact h4
    injection h3 with h3;exact absurd h3 (by decide)
   rw [e]
   have:(Lib.trimS (39::r) digs==[])=false:=by
    rw [beq_eq_false_iff_ne]
    intro e
    rw [aj] at e
    exact absurd (e 39 (by simp)) (by decide)
   rw [this]
   simp
  have hn:Du (39::r)=(0,6):=by unfold Du;rw [if_pos hd]
  rw [hn] at h
  simp at h
theorem Zr (s:Str) (m:Nat):s.take (s.take m).length=s.take m:=by
 rw [Cy]
 rcases Nat.le_total m s.length with h|h
 ·rw [qe h]
 rw [Nat.min_eq_right h,Eo (Am _),Eo h]
theorem Ow (s of:Str):s.take (E7 s of).length=E7 s of:=by
 unfold E7
 exact Zr s _
/-- What a word's print spells is what was read. -/
theorem o7 {s:Str} {n p:Nat} (h0:1≤s.length) (he:(Cl s).2.2.2=0) (hn:(Cl s).2.2.1=(n:Int)):r8 ⟨(Cl s).1,(Cl s).2.1,p⟩=s.take n:=by
 cases s with
 | nil=>simp at h0
 | cons c r =>
  unfold Cl at he hn ⊢
  by_cases c1:decide (0<S1 ((c::r).take 1) letters)=true
  ·rw [if_pos c1] at he hn
   simp only [if_pos c1]
   unfold R4 at he hn ⊢
   by_cases r1:H4 (E7 (c::r) tails)=true
   ·rw [if_pos r1] at hn
    simp only [if_pos r1]
    have hn':(((E7 (c::r) tails).length:Nat):Int)=n:=hn
    have e:n=(E7 (c::r) tails).length:=by omega
    rw [e,Ow]
    rfl
   rw [if_neg r1] at he hn
   simp only [if_neg r1]
   by_cases r2:(!Dw (E7 (c::r) tails))=true
   ·rw [if_pos r2] at he;exact absurd he (show ¬(3:Int)=0 by decide)
   rw [if_neg r2] at hn
   simp only [if_neg r2]
   have hn':(((E7 (c::r) tails).length:Nat):Int)=n:=hn
   have e:n=(E7 (c::r) tails).length:=by omega
   rw [e,Ow]
   rfl
  rw [if_neg c1] at he hn
  simp only [if_neg c1]
  by_cases c2:decide (0<S1 ((c::r).take 1) digs)=true
  ·rw [if_pos c2] at he hn
   simp only [if_pos c2]
   have hn':(((E7 (c::r) digs).length:Nat):Int)=n:=hn
   have e:n=(E7 (c::r) digs).length:=by omega
   rw [e,Ow]
   rfl
  rw [if_neg c2] at he hn
  simp only [if_neg c2]
  by_cases c3:(((((c::r)).getD 0 0).toNat:Int)==39)=true
  ·rw [if_pos c3] at he hn
   simp only [if_pos c3]
   have hc:c=39:=by
    have c3':((c.toNat:Int)==39)=true:=c3
    exact de.1 (by have:(39:UInt8).toNat=39:=rfl;simp at c3';omega)
   unfold Lv at he hn ⊢
   cases hq:Do ((c::r).drop 1) with
   | none=>rw [hq] at he;exact absurd he (show ¬(7:Int)=0 by decide)
   | some m =>
    rw [hq] at he hn
    simp only at he hn ⊢
    split at he
    ·exact absurd he (show ¬(3:Int)=0 by decide)
    rename_i hr
    rw [if_neg hr] at hn
    simp only [if_neg hr]
    have hm':(((m+1:Nat)):Int)=n:=hn
    have hm:n=m+1:=by omega
    subst hm
    have hr':(Ib ((c::r).take (m+1))).2=0:=by simpa using hr
    have:=o6 (q:=(c::r).take (m+1)) (by rw [hc];rfl) (by simp) hr'
    unfold r8
    rw [if_pos rfl]
    exact this
  rw [if_neg c3] at he hn
  simp only [if_neg c3]
  unfold Wx at he hn ⊢
  split at hn
  ·rename_i h2
   simp only [if_pos h2]
   have hn':(2:Int)=n:=hn
   have:n=2:=by omega
   subst this
   rfl
  rename_i h2
  rw [if_neg h2] at he
  simp only [if_neg h2]
  split at hn
  ·rename_i h3
   simp only [if_pos h3]
   have hn':(1:Int)=n:=hn
   have:n=1:=by omega
   subst this
   rfl
  rename_i h3
  rw [if_neg h3] at he
  exact absurd he (show ¬(7:Int)=0 by decide)
theorem wrap_u64 {n:Int} (h1:0≤n) (h2:n<18446744073709551616):IntKind.u64.wrap n=n:=by
 have e1:(2 ^ IntKind.u64.bits:Int)=18446744073709551616:=rfl
 have e3:IntKind.u64.signed=false:=rfl
 unfold IntKind.wrap
 simp only [e1,e3,cr]
 simp
 omega
theorem r9:∀t:Str,t.length≤(S9 t).length
 | []=>Am _
 | c::r=>by
  have:=r9 r
  rw [U1,Av,Bi]
  have h:1≤(vm c).length:=by unfold vm;split<;>simp
  omega
theorem AEs (t:Tok):t.text.length≤(r8 t).length:=by
 unfold r8
 split
 ·have:=r9 t.text
  simp only [Av,Bi,Cb]
  omega
 exact Am _
/-- Words with an end. -/
structure TokEnd (l:List Tok):Prop where
 split:∃L z,l=L++[z]∧z.kind=0∧∀t∈L,t.kind≠0
 texts:∀t∈l,t.text.length≤1048576
theorem TokEnd.pos {l:List Tok} (h:TokEnd l):1≤l.length:=by
 obtain ⟨L,z,rfl,_,_⟩:=h.split
 simp
theorem TokEnd.text {l:List Tok} (h:TokEnd l) (i:Nat):(Af l i).text.length≤1048576:=by
 unfold Af
 rcases Bk i l.length with hi|hi
 ·rw [Bw,Ab hi]
  exact h.texts _ (Be hi)
 rw [Bw,Ge hi]
 exact Ar _
theorem AEt (s:Str) (he:(Cl s).2.2.2=0):(Cl s).1≠0:=by
 revert he
 unfold Cl R4 f6 Lv Wx
 repeat' split
 all_goals simp
theorem jl:∀(f q:Nat) (s:Str),(∀it∈J2 f q s,it.2=0)→∀it∈J2 f q s,it.1.kind≠0∧it.1.text.length≤s.length
 | 0,_,_,_,it,hm=>by cases hm
 | f+1,q,s,h,it,hm=>by
  by_cases hs:s=[]
  ·subst hs;cases hm
  obtain ⟨n,h1,h2⟩:=ji (f:=f) (q:=q) hs
  rw [h1] at hm h
  have h0:(Cl s).2.2.2=0:=h (⟨(Cl s).1,(Cl s).2.1,q⟩,(Cl s).2.2.2) (Gk ..)
  obtain ⟨hn,hn1,hn2⟩:=h2 h0
  rw [if_pos h0] at hm h
  rcases B4.1 hm with rfl|hm
  ·refine ⟨AEt s h0,?_⟩
   have hs1:1≤s.length:=by cases s with|nil=>exact absurd rfl hs|cons c r=>simp
   have:=o7 (p:=q) hs1 h0 hn
   have h3:=AEs ⟨(Cl s).1,(Cl s).2.1,q⟩
   rw [this] at h3
   simp only [Cy] at h3
   show (Cl s).2.1.length≤s.length
   omega
  have:=jl f _ _ (fun it hit=>h it (Hm _ hit)) it hm
  simp only [Gj] at this
  exact ⟨this.1,by omega⟩
theorem rc {s:Str} (h:(Bd s).2.1=0):TokEnd (Bd s).1:=by
 by_cases h4:4000<s.length
 ·unfold Bd at h
  rw [if_pos h4] at h
  exact eo
 have e:Bd s=((Cj s).map (·.1)++[⟨0,[],s.length⟩],0,0)∧∀it∈Cj s,it.2=0:=by
  unfold Bd at h ⊢
  rw [if_neg h4] at h ⊢
  cases hf:(Cj s).find? (fun it=>it.2 != 0) with
  | none =>
   rw [O1] at hf
   exact ⟨rfl,fun it hit=>by simpa using hf it hit⟩
  | some it =>
   rw [hf] at h
   have:=mb hf
   simp only [bne_iff_ne] at this
   exact absurd h this
 obtain ⟨e,hz⟩:=e
 have hnz:=jl _ _ _ hz
 rw [e]
 refine ⟨⟨_,_,rfl,rfl,fun t ht=>?_⟩,fun t ht=>?_⟩
 ·obtain ⟨it,hit,rfl⟩:=C2.1 ht
  exact (hnz it hit).1
 rcases Ei.1 ht with ht|ht
 ·obtain ⟨it,hit,rfl⟩:=C2.1 ht
  have:=(hnz it hit).2
  simp only [Gj] at this
  omega
 have e:t=⟨0,[],s.length⟩:=by simpa using ht
 subst e
 exact Ar _
/-- Where a parser of expressions stands: its word, its nest, its fault. -/
structure PS where
 i:Nat
 nest:Nat
 code:Int
 at_:Int
def noV:Val:=⟨0,0,[]⟩
def Au:Expr:=.mk 0 [] noV []
def Ex (e a:Int) (S:PS):PS:=if S.code==0 then ⟨S.i,S.nest,e,a⟩ else S
def isM (l:List Tok) (of:Str) (S:PS):Bool:=(((Af l S.i).kind==5) || ((Af l S.i).kind==2))&&Pm (Af l S.i).text of
def Ap (S:PS):PS:=⟨S.i+1,S.nest,S.code,S.at_⟩
def Dp (S:PS):PS:=⟨S.i,S.nest+1,S.code,S.at_⟩
def b9 (S:PS):PS:=⟨S.i,S.nest-1,S.code,S.at_⟩
def G6 (l:List Tok) (s:Str) (S:PS):PS:=if S.code != 0 then S else if ((Af l S.i).kind != 5) || !((Af l S.i).text==s) then Ex 8 (Af l S.i).at_ S else Ap S
/-- What stands one nest deeper. -/
structure Fam where
 ei:PS→Expr×PS
 no:PS→Expr×PS
 ne:PS→Expr×PS
def Cs (a:Int) (f:PS→Expr×PS) (S:PS):Expr×PS:=if (S.nest:Int)==30 then (Au,Ex 18 a S) else ((f (Dp S)).1,b9 (f (Dp S)).2)
def N8 (t:Str) (x y:Expr):Expr:=.mk 5 t noV [x,y]
def jm (l:List Tok) (of:Str) (f:PS→Expr×PS):Nat→Expr×PS→Expr×PS
 | 0,r=>r
 | n+1,r=>if (r.2.code==0)&&isM l of r.2 then jm l of f n (N8 (Af l r.2.i).text r.1 (f (Ap r.2)).1,(f (Ap r.2)).2) else r
def H7 (l:List Tok) (of:Str) (f:PS→Expr×PS) (S:PS):Expr×PS:=jm l of f l.length (f S)
def Xk:Str:=[32,44,32]
def argsF (l:List Tok) (f:PS→Expr×PS):Nat→List Expr×PS→List Expr×PS
 | 0,r=>r
 | n+1,r=>if (r.2.code==0)&&isM l Xk r.2 then argsF l f n (r.1++[(f (Ap r.2)).1],(f (Ap r.2)).2) else r
def Iq (l:List Tok) (f:PS→Expr×PS) (S:PS):List Expr×PS:=argsF l f l.length ([(f S).1],(f S).2)
def Uz (l:List Tok) (a:Int) (f:PS→Expr×PS) (S:PS):List Expr×PS:=if (S.nest:Int)==30 then ([],Ex 18 a S) else ((Iq l f (Dp S)).1,b9 (Iq l f (Dp S)).2)
def Fy:Str:=[41]
def E8 (l:List Tok) (D:Fam) (S:PS):List Expr×PS:=Uz l (Af l S.i).at_ D.ei (Ap S)
def Ir (l:List Tok) (D:Fam) (t:Tok) (S:PS):Expr×PS:=
 if Cf t.text<0 then (Au,Ex 9 t.at_ S)
 else if ((G6 l Fy (E8 l D S).2).code==0) && !(((E8 l D S).1.length:Int)==Cf t.text) then (Au,Ex 8 t.at_ (G6 l Fy (E8 l D S).2))
 else (.mk 6 t.text noV (E8 l D S).1,G6 l Fy (E8 l D S).2)
def orT:Str:=[32,111,114,32]
def AAv:Str:=[32,97,110,100,32]
def AIn:Str:=[32,110,111,116,32]
def AIo:Str:=[32,61,32,33,61,32,60,32,60,61,32,62,32,62,61,32]
def AAw:Str:=[32,43,32,45,32,38,32]
def jn:Str:=[32,42,32,47,32,37,32]
def AIp:Str:=[32,45,32]
def opT:Str:=[32,40,32]
def AIq:Str:=[32,116,114,117,101,32,102,97,108,115,101,32,110,117,108,108,32]
def Ox (v:Val):Expr:=.mk 1 [] v []
def Hh (l:List Tok) (D:Fam) (S:PS):Expr×PS:=
 if S.code != 0 then (Au,S)
 else if ((Af l S.i).kind==3) || isM l AIq S then (Ox (Ib (Af l S.i).text).1,Ap S)
 else if (Af l S.i).kind==4 then (Ox ⟨2,0,(Af l S.i).text.take 200⟩,Ap S)
 else if (Af l S.i).kind==1 then (if isM l opT (Ap S) then Ir l D (Af l S.i) (Ap S) else (Cm (Af l S.i).text,Ap S))
 else if isM l opT S then ((Cs (Af l S.i).at_ D.ei (Ap S)).1,G6 l Fy (Cs (Af l S.i).at_ D.ei (Ap S)).2)
 else (Au,Ex 8 (Af l S.i).at_ S)
def Ll (op:Int) (x:Expr):Expr:=.mk op [] noV [x]
def Xl (l:List Tok) (D:Fam) (S:PS):Expr×PS:=if !isM l AIp S then Hh l D S else (Ll 3 (Cs (Af l S.i).at_ D.ne (Ap S)).1,(Cs (Af l S.i).at_ D.ne (Ap S)).2)
def rd (l:List Tok) (D:Fam):PS→Expr×PS:=H7 l jn (Xl l D)
def Fa (l:List Tok) (D:Fam):PS→Expr×PS:=H7 l AAw (rd l D)
def H0 (l:List Tok) (D:Fam) (S:PS):Expr×PS:=
 if ((Fa l D S).2.code != 0) || !isM l AIo (Fa l D S).2 then Fa l D S
 else (N8 (Af l (Fa l D S).2.i).text (Fa l D S).1 (Fa l D (Ap (Fa l D S).2)).1,(Fa l D (Ap (Fa l D S).2)).2)
def Xm (l:List Tok) (D:Fam) (S:PS):Expr×PS:=if !isM l AIn S then H0 l D S else (Ll 4 (Cs (Af l S.i).at_ D.no (Ap S)).1,(Cs (Af l S.i).at_ D.no (Ap S)).2)
def re (l:List Tok) (D:Fam):PS→Expr×PS:=H7 l AAv (Xm l D)
def fh (l:List Tok) (D:Fam):PS→Expr×PS:=H7 l orT (re l D)
def G7 (l:List Tok):Nat→Fam
 | 0=>⟨fun S=>(Au,S),fun S=>(Au,S),fun S=>(Au,S)⟩
 | d+1=>⟨fh l (G7 l d),Xm l (G7 l d),Xl l (G7 l d)⟩

/-! What is so of them. -/
theorem Hc:∀{n m:Nat},n≤m→∀{e:Expr},okE n e→okE m e
 | 0,_,_,_,h=>h.elim
 | n+1,0,h,_,_=>by omega
 | n+1,m+1,h,_,ho=>⟨ho.1,ho.2.1,fun y hy=>Hc (by omega) (ho.2.2 y hy)⟩
theorem Xn:sizeE Au=1:=rfl
theorem vn (t:Str) (a b:Expr):sizeE (N8 t a b)=1+(sizeE a+(sizeE b+0)):=by rw [N8,sizeE,Ef,Ef,Ef]
theorem vo (o:Int) (a:Expr):sizeE (Ll o a)=1+(sizeE a+0):=by rw [Ll,sizeE,Ef,Ef]
theorem ba:∀a b:List Expr,Ef (a++b)=Ef a+Ef b
 | [],b=>by rw [D9,Ef,Bl]
 | e::r,b=>by rw [Dk,Ef,Ef,ba r b,Ka]
theorem L6 {n:Nat} (h:1≤n):okE n Au:=Hc h ⟨by decide,by decide,fun y hy=>by cases hy⟩
theorem rf {n:Nat} (h:1≤n) (v:Val):okE n (Ox v):=Hc h ⟨by simp [Ox,Expr.text],by simp [Ox,Expr.kids],fun y hy=>by cases hy⟩
structure Fact (l:List Tok) (S:PS) (r:Expr×PS):Prop where
 le:S.i≤r.2.i
 lt:r.2.i<l.length
 nest:r.2.nest=S.nest
 ok:okE (2*(r.2.i-S.i)+1) r.1
 sz:sizeE r.1≤2*(r.2.i-S.i)+1
def F7 (l:List Tok) (n:Nat) (f:PS→Expr×PS):Prop:=∀S,S.i<l.length→S.nest=n→Fact l S (f S)
theorem TokEnd.step {l:List Tok} (h:TokEnd l) {i:Nat} (hi:i<l.length) (hk:(Af l i).kind≠0):i+1<l.length:=by
 obtain ⟨L,z,rfl,hz,_⟩:=h.split
 rcases Bk i L.length with h1|h1
 ·simp only [Av,Bi,Cb];omega
 have:i=L.length:=by simp only [Av,Bi,Cb] at hi;omega
 subst this
 exact absurd (by unfold Af;simpa using hz) hk
theorem AAx {l:List Tok} {of:Str} {S:PS} (h:isM l of S=true):(Af l S.i).kind≠0:=by
 unfold isM at h
 simp only [At,Dq,beq_iff_eq] at h
 omega
theorem TokEnd.stepIs {l:List Tok} (h:TokEnd l) {of:Str} {S:PS} (hi:S.i<l.length) (hk:isM l of S=true):(Ap S).i<l.length:=h.step hi (AAx hk)
theorem failM_i {e a:Int} {S:PS}:(Ex e a S).i=S.i∧(Ex e a S).nest=S.nest:=by unfold Ex;split<;>exact ⟨rfl,rfl⟩
theorem rg {l:List Tok} (hl:TokEnd l) {s:Str} {S:PS} (hi:S.i<l.length):S.i≤(G6 l s S).i∧(G6 l s S).i<l.length∧(G6 l s S).nest=S.nest:=by
 unfold G6
 split
 ·exact ⟨Am _,hi,rfl⟩
 split
 ·rw [failM_i.1,failM_i.2];exact ⟨Am _,hi,rfl⟩
 rename_i h
 simp only [Dq,bne_iff_ne,ne_eq,not_or,Classical.not_not] at h
 have:=hl.step hi (by rw [h.1];decide)
 exact ⟨I6 _,this,rfl⟩
theorem Sb {l:List Tok} {S S0:PS} (h0:S0.i≤S.i) (h1:S.i<l.length) (h2:S.nest=S0.nest) (e a:Int):Fact l S0 (Au,Ex e a S):=by
 refine ⟨?_,?_,?_,L6 (by omega),by rw [Xn];omega⟩
 ·show _≤(Ex e a S).i;rw [failM_i.1];exact h0
 ·show (Ex e a S).i<_;rw [failM_i.1];exact h1
 show (Ex e a S).nest=_;rw [failM_i.2];exact h2
/-- A state of a loop of marks. -/
structure LeftAt (l:List Tok) (of:Str) (f:PS→Expr×PS) (S:PS) (r:Expr×PS):Prop where
 fact:Fact l S r
 eq:∃n,l.length≤r.2.i+n∧H7 l of f S=jm l of f n r
theorem LeftAt.start {l:List Tok} {of:Str} {f:PS→Expr×PS} {S:PS} (h:Fact l S (f S)):LeftAt l of f S (f S):=⟨h,l.length,by omega,rfl⟩
theorem rh {l:List Tok} {S:PS} {r q:Expr×PS} (h:Fact l S r) (hq:Fact l (Ap r.2) q) (hl:TokEnd l):Fact l S (N8 (Af l r.2.i).text r.1 q.1,q.2):=by
 have h1:=h.le
 have h2:r.2.i+1≤q.2.i:=hq.le
 refine ⟨by show S.i≤q.2.i;omega,hq.lt,by show q.2.nest=S.nest;rw [hq.nest];exact h.nest,?_,?_⟩
 rotate_left
 ·have s1:=h.sz
  have s2:sizeE q.1≤2*(q.2.i-(r.2.i+1))+1:=hq.sz
  show sizeE (N8 _ r.1 q.1)≤2*(q.2.i-S.i)+1
  rw [vn]
  omega
 show okE (2*(q.2.i-S.i)+1) _
 refine ⟨hl.text _,by simp [N8,Expr.kids],fun y hy=>?_⟩
 have hy':y=r.1∨y=q.1:=by simpa [N8,Expr.kids] using hy
 rcases hy' with rfl|rfl
 ·exact Hc (by omega) h.ok
 exact Hc (by show 2*(q.2.i-(r.2.i+1))+1≤_;omega) hq.ok
theorem LeftAt.on {l:List Tok} {of:Str} {f:PS→Expr×PS} {S:PS} {r:Expr×PS} (hl:TokEnd l) (h:LeftAt l of f S r) (hc:((r.2.code==0)&&isM l of r.2)=true) (hf:F7 l S.nest f):(Ap r.2).i<l.length∧Fact l (Ap r.2) (f (Ap r.2))∧LeftAt l of f S (N8 (Af l r.2.i).text r.1 (f (Ap r.2)).1,(f (Ap r.2)).2):=by
 have hi:=hl.stepIs h.fact.lt (yf.1 hc).2
 have hq:=hf (Ap r.2) hi h.fact.nest
 obtain ⟨n,hn,e⟩:=h.eq
 have h1:=h.fact.lt
 have h2:r.2.i+1≤(f (Ap r.2)).2.i:=hq.le
 obtain ⟨m,rfl⟩:∃m,n=m+1:=⟨n-1,by omega⟩
 refine ⟨hi,hq,rh h.fact hq hl,m,by show l.length≤(f (Ap r.2)).2.i+m;omega,?_⟩
 rw [e,jm,if_pos hc]
theorem LeftAt.out {l:List Tok} {of:Str} {f:PS→Expr×PS} {S:PS} {r:Expr×PS} (h:LeftAt l of f S r) (hc:¬((r.2.code==0)&&isM l of r.2)=true):H7 l of f S=r:=by
 obtain ⟨n,hn,e⟩:=h.eq
 have h1:=h.fact.lt
 obtain ⟨m,rfl⟩:∃m,n=m+1:=⟨n-1,by omega⟩
 rw [e,jm,if_neg hc]
theorem jo {l:List Tok} {of:Str} {f:PS→Expr×PS} {S:PS} (hl:TokEnd l) (hf:F7 l S.nest f):∀(k:Nat) (r:Expr×PS),l.length-r.2.i≤k→LeftAt l of f S r→Fact l S (H7 l of f S)
 | 0,r,hk,h=>by have:=h.fact.lt;omega
 | k+1,r,hk,h=>by
  by_cases hc:((r.2.code==0)&&isM l of r.2)=true
  ·obtain ⟨h1,h2,h3⟩:=h.on hl hc hf
   have h4:r.2.i+1≤(f (Ap r.2)).2.i:=h2.le
   exact jo hl hf k _ (by show l.length-(f (Ap r.2)).2.i≤k;have:=h.fact.lt;omega) h3
  rw [h.out hc];exact h.fact
theorem Hv {l:List Tok} {of:Str} {f:PS→Expr×PS} {n:Nat} (hl:TokEnd l) (hf:F7 l n f):F7 l n (H7 l of f):=fun S hi hn=>jo hl (hn ▸ hf) l.length (f S) (by omega) (.start (hf S hi hn))
theorem Kd {l:List Tok} {f:PS→Expr×PS} {S:PS} (a:Int) (hi:S.i<l.length) (hf:S.nest≠30→F7 l (S.nest+1) f):Fact l S (Cs a f S):=by
 unfold Cs
 split
 ·exact Sb (Am _) hi rfl _ _
 rename_i h
 have h30:S.nest≠30:=fun e=>h (by rw [e];rfl)
 have:=hf h30 (Dp S) hi rfl
 refine ⟨this.le,this.lt,?_,this.ok,this.sz⟩
 show (f (Dp S)).2.nest-1=S.nest
 rw [this.nest]
 rfl
/-- What is so of some kids. -/
structure KFact (l:List Tok) (S:PS) (r:List Expr×PS):Prop where
 le:S.i≤r.2.i
 lt:r.2.i<l.length
 nest:r.2.nest=S.nest
 len:r.1.length≤r.2.i-S.i+1
 ok:∀y∈r.1,okE (2*(r.2.i-S.i)+1) y
 sz:Ef r.1≤2*(r.2.i-S.i)+1
structure ArgsAt (l:List Tok) (f:PS→Expr×PS) (S:PS) (r:List Expr×PS):Prop where
 fact:KFact l S r
 eq:∃n,l.length≤r.2.i+n∧Iq l f S=argsF l f n r
theorem ArgsAt.start {l:List Tok} {f:PS→Expr×PS} {S:PS} (h:Fact l S (f S)):ArgsAt l f S ([(f S).1],(f S).2):=⟨⟨h.le,h.lt,h.nest,by simp,fun y hy=>by rw [B7.1 hy];exact h.ok,by have:=h.sz;show sizeE (f S).1+0≤_;exact this⟩,l.length,by omega,rfl⟩
theorem ArgsAt.on {l:List Tok} {f:PS→Expr×PS} {S:PS} {r:List Expr×PS} (hl:TokEnd l) (h:ArgsAt l f S r) (hc:((r.2.code==0)&&isM l Xk r.2)=true) (hf:F7 l S.nest f):(Ap r.2).i<l.length∧Fact l (Ap r.2) (f (Ap r.2))∧ArgsAt l f S (r.1++[(f (Ap r.2)).1],(f (Ap r.2)).2):=by
 have hi:=hl.stepIs h.fact.lt (yf.1 hc).2
 have hq:=hf (Ap r.2) hi h.fact.nest
 obtain ⟨n,hn,e⟩:=h.eq
 have h1:=h.fact.lt
 have h0:=h.fact.le
 have h2:r.2.i+1≤(f (Ap r.2)).2.i:=hq.le
 obtain ⟨m,rfl⟩:∃m,n=m+1:=⟨n-1,by omega⟩
 refine ⟨hi,hq,⟨by show S.i≤(f (Ap r.2)).2.i;omega,hq.lt,by show (f (Ap r.2)).2.nest=_;rw [hq.nest];exact h.fact.nest,?_,fun y hy=>?_,?_⟩,m,by show l.length≤(f (Ap r.2)).2.i+m;omega,?_⟩
 ·have:=h.fact.len
  show (r.1++_).length≤(f (Ap r.2)).2.i-S.i+1
  simp only [Av,Bi,Cb]
  omega
 ·show okE (2*((f (Ap r.2)).2.i-S.i)+1) y
  rcases Ei.1 hy with hy|hy
  ·exact Hc (by omega) (h.fact.ok y hy)
  rw [B7.1 hy]
  exact Hc (by show 2*((f (Ap r.2)).2.i-(r.2.i+1))+1≤_;omega) hq.ok
 ·have s1:=h.fact.sz
  have s2:sizeE (f (Ap r.2)).1≤2*((f (Ap r.2)).2.i-(r.2.i+1))+1:=hq.sz
  show Ef (r.1++[(f (Ap r.2)).1])≤2*((f (Ap r.2)).2.i-S.i)+1
  rw [ba,Ef,Ef]
  omega
 rw [e,argsF,if_pos hc]
theorem ArgsAt.out {l:List Tok} {f:PS→Expr×PS} {S:PS} {r:List Expr×PS} (h:ArgsAt l f S r) (hc:¬((r.2.code==0)&&isM l Xk r.2)=true):Iq l f S=r:=by
 obtain ⟨n,hn,e⟩:=h.eq
 have h1:=h.fact.lt
 obtain ⟨m,rfl⟩:∃m,n=m+1:=⟨n-1,by omega⟩
 rw [e,argsF,if_neg hc]
theorem jp {l:List Tok} {f:PS→Expr×PS} {S:PS} (hl:TokEnd l) (hf:F7 l S.nest f):∀(k:Nat) (r:List Expr×PS),l.length-r.2.i≤k→ArgsAt l f S r→KFact l S (Iq l f S)
 | 0,r,hk,h=>by have:=h.fact.lt;omega
 | k+1,r,hk,h=>by
  by_cases hc:((r.2.code==0)&&isM l Xk r.2)=true
  ·obtain ⟨h1,h2,h3⟩:=h.on hl hc hf
   have h4:r.2.i+1≤(f (Ap r.2)).2.i:=h2.le
   exact jp hl hf k _ (by show l.length-(f (Ap r.2)).2.i≤k;have:=h.fact.lt;omega) h3
  rw [h.out hc];exact h.fact
theorem Xo {l:List Tok} {f:PS→Expr×PS} {S:PS} (hl:TokEnd l) (hi:S.i<l.length) (hf:F7 l S.nest f):KFact l S (Iq l f S):=jp hl hf l.length _ (by show l.length-(f S).2.i≤_;omega) (.start (hf S hi rfl))
theorem Xp {l:List Tok} {f:PS→Expr×PS} {S:PS} (hl:TokEnd l) (a:Int) (hi:S.i<l.length) (hf:S.nest≠30→F7 l (S.nest+1) f):KFact l S (Uz l a f S):=by
 unfold Uz
 split
 ·refine ⟨?_,?_,?_,by simp,fun y hy=>(by cases hy),by simp [Ef]⟩
  ·show _≤(Ex _ _ S).i;rw [failM_i.1];exact Am _
  ·show (Ex _ _ S).i<_;rw [failM_i.1];exact hi
  show (Ex _ _ S).nest=_;rw [failM_i.2]
 rename_i h
 have h30:S.nest≠30:=fun e=>h (by rw [e];rfl)
 have:=Xo (S:=Dp S) hl hi (hf h30)
 refine ⟨this.le,this.lt,?_,this.len,this.ok,this.sz⟩
 show (Iq l f (Dp S)).2.nest-1=S.nest
 rw [this.nest]
 rfl
theorem o8 {l:List Tok} {D:Fam} {S:PS} (hl:TokEnd l) (hll:l.length≤1048576) {t:Tok} (ht:t.text.length≤1048576) (hi:(Ap S).i<l.length) (hf:S.nest≠30→F7 l (S.nest+1) D.ei):Fact l S (Ir l D t S):=by
 have hk:KFact l (Ap S) (E8 l D S):=Xp hl _ hi hf
 have h1:S.i+1≤(E8 l D S).2.i:=hk.le
 obtain ⟨w1,w2,w3⟩:=rg (s:=Fy) hl hk.lt
 unfold Ir
 split
 ·exact Sb (Am _) (by show S.i<_;have:S.i+1<l.length:=hi;omega) rfl _ _
 split
 ·exact Sb (show S.i≤(G6 l Fy (E8 l D S).2).i by omega) w2 (w3.trans hk.nest) 8 t.at_
 refine ⟨by show S.i≤(G6 l Fy (E8 l D S).2).i;omega,w2,w3.trans hk.nest,?_,?_⟩
 rotate_left
 ·have s1:Ef (E8 l D S).1≤2*((E8 l D S).2.i-(S.i+1))+1:=hk.sz
  show sizeE (.mk 6 t.text noV (E8 l D S).1)≤2*((G6 l Fy (E8 l D S).2).i-S.i)+1
  rw [sizeE]
  omega
 show okE (2*((G6 l Fy (E8 l D S).2).i-S.i)+1) _
 refine ⟨ht,?_,fun y hy=>?_⟩
 ·have h5:(E8 l D S).1.length≤(E8 l D S).2.i-(Ap S).i+1:=hk.len
  have h6:=hk.lt
  show (E8 l D S).1.length≤1048576
  omega
 exact Hc (by show 2*((E8 l D S).2.i-(S.i+1))+1≤_;omega) (hk.ok y hy)
theorem o9 {l:List Tok} {D:Fam} {n:Nat} (hl:TokEnd l) (hll:l.length≤1048576) (hf:n≠30→F7 l (n+1) D.ei):F7 l n (Hh l D):=by
 intro S hi hn
 subst hn
 unfold Hh
 have leaf:∀e:Expr,okE 1 e→sizeE e=1→(Af l S.i).kind≠0→Fact l S (e,Ap S):=fun e he hs hk=>⟨I6 _,hl.step hi hk,rfl,Hc (by omega) he,by show sizeE e≤_;omega⟩
 split
 ·exact ⟨Am _,hi,rfl,L6 (by omega),by show sizeE Au≤_;rw [Xn];omega⟩
 split
 ·rename_i h
  refine leaf _ (rf (Am _) _) rfl ?_
  rcases Bool.or_eq_true_iff.1 h with h|h
  ·rw [beq_iff_eq] at h;rw [h];decide
  exact AAx h
 split
 ·rename_i h
  rw [beq_iff_eq] at h
  exact leaf _ (rf (Am _) _) rfl (by rw [h];decide)
 split
 ·rename_i h
  rw [beq_iff_eq] at h
  have hk:(Af l S.i).kind≠0:=by rw [h];decide
  split
  ·rename_i h2
   have hi1:(Ap S).i<l.length:=hl.step hi hk
   have:=o8 (S:=Ap S) (D:=D) hl hll (hl.text S.i) (hl.stepIs hi1 h2) hf
   have h3:S.i+1≤(Ir l D (Af l S.i) (Ap S)).2.i:=this.le
   have h4:sizeE (Ir l D (Af l S.i) (Ap S)).1≤2*((Ir l D (Af l S.i) (Ap S)).2.i-(S.i+1))+1:=this.sz
   exact ⟨by omega,this.lt,this.nest,Hc (by show 2*((Ir l D (Af l S.i) (Ap S)).2.i-(S.i+1))+1≤_;omega) this.ok,by omega⟩
  exact leaf _ (ja _ (hl.text _)) rfl hk
 split
 ·rename_i h
  have hi1:(Ap S).i<l.length:=hl.stepIs hi h
  have:=Kd (S:=Ap S) (l:=l) (f:=D.ei) (Af l S.i).at_ hi1 hf
  obtain ⟨w1,w2,w3⟩:=rg (s:=Fy) hl this.lt
  have h3:S.i+1≤(Cs (Af l S.i).at_ D.ei (Ap S)).2.i:=this.le
  have h4:sizeE (Cs (Af l S.i).at_ D.ei (Ap S)).1≤2*((Cs (Af l S.i).at_ D.ei (Ap S)).2.i-(S.i+1))+1:=this.sz
  refine ⟨by show S.i≤(G6 l Fy _).i;omega,w2,w3.trans this.nest,Hc ?_ this.ok,by show sizeE (Cs (Af l S.i).at_ D.ei (Ap S)).1≤2*((G6 l Fy (Cs (Af l S.i).at_ D.ei (Ap S)).2).i-S.i)+1;omega⟩
  show 2*((Cs (Af l S.i).at_ D.ei (Ap S)).2.i-(S.i+1))+1≤2*((G6 l Fy (Cs (Af l S.i).at_ D.ei (Ap S)).2).i-S.i)+1
  omega
 exact Sb (Am _) hi rfl _ _
theorem ri {l:List Tok} {S:PS} {r:Expr×PS} (h:Fact l (Ap S) r) (op:Int):Fact l S (Ll op r.1,r.2):=by
 have h1:S.i+1≤r.2.i:=h.le
 refine ⟨by show S.i≤r.2.i;omega,h.lt,h.nest,?_,?_⟩
 rotate_left
 ·have s1:sizeE r.1≤2*(r.2.i-(S.i+1))+1:=h.sz
  show sizeE (Ll op r.1)≤2*(r.2.i-S.i)+1
  rw [vo]
  omega
 show okE (2*(r.2.i-S.i)+1) _
 refine ⟨by simp [Ll,Expr.text],by simp [Ll,Expr.kids],fun y hy=>?_⟩
 have hy':y=r.1:=by simpa [Ll,Expr.kids] using hy
 subst hy'
 exact Hc (by show 2*(r.2.i-(S.i+1))+1≤_;omega) h.ok
theorem U3 {l:List Tok} {D:Fam} {n:Nat} (hl:TokEnd l) (hll:l.length≤1048576) (hf:n≠30→F7 l (n+1) D.ei) (hg:n≠30→F7 l (n+1) D.ne):F7 l n (Xl l D):=by
 intro S hi hn
 unfold Xl
 split
 ·exact o9 hl hll hf S hi hn
 rename_i h
 subst hn
 exact ri (Kd (S:=Ap S) _ (hl.stepIs hi (by simpa using h)) hg) 3
theorem bb {l:List Tok} {D:Fam} {n:Nat} (hl:TokEnd l) (hll:l.length≤1048576) (hf:n≠30→F7 l (n+1) D.ei) (hg:n≠30→F7 l (n+1) D.ne):F7 l n (Fa l D):=Hv hl (Hv hl (U3 hl hll hf hg))
theorem Q8 {l:List Tok} {D:Fam} {n:Nat} (hl:TokEnd l) (hll:l.length≤1048576) (hf:n≠30→F7 l (n+1) D.ei) (hg:n≠30→F7 l (n+1) D.ne):F7 l n (H0 l D):=by
 intro S hi hn
 have h1:=bb hl hll hf hg S hi hn
 unfold H0
 split
 ·exact h1
 rename_i h
 simp only [Dq,not_or,Qf,Mo] at h
 exact rh h1 (bb hl hll hf hg _ (hl.stepIs h1.lt h.2) (h1.nest.trans hn)) hl
theorem bc {l:List Tok} {D:Fam} {n:Nat} (hl:TokEnd l) (hll:l.length≤1048576) (hf:n≠30→F7 l (n+1) D.ei) (hg:n≠30→F7 l (n+1) D.ne) (hh:n≠30→F7 l (n+1) D.no):F7 l n (Xm l D):=by
 intro S hi hn
 unfold Xm
 split
 ·exact Q8 hl hll hf hg S hi hn
 rename_i h
 subst hn
 exact ri (Kd (S:=Ap S) _ (hl.stepIs hi (by simpa using h)) hh) 4
theorem U4 {l:List Tok} (hl:TokEnd l) (hll:l.length≤1048576):∀(d n:Nat),n+d=31→n≠31→F7 l n (G7 l d).ei∧F7 l n (G7 l d).no∧F7 l n (G7 l d).ne
 | 0,n,h,h2=>by omega
 | d+1,n,h,_=>by
  have ih:n≠30→_:=fun h30=>U4 hl hll d (n+1) (by omega) (by omega)
  have hn:=bc (D:=G7 l d) (n:=n) hl hll (fun h=>(ih h).1) (fun h=>(ih h).2.2) (fun h=>(ih h).2.1)
  exact ⟨Hv hl (Hv hl hn),hn,U3 hl hll (fun h=>(ih h).1) (fun h=>(ih h).2.2)⟩
/-! What is printed of columns, word by word. -/
structure ColOk (x:Col):Prop where
 name:Dw x.name=true
 lo:1≤x.kind
 hi:x.kind≤3
set_option maxRecDepth 8000
theorem jq (s:Str):s∈levels.flatten∨(N7 s = -1∧∀l∈levels,l.contains s=false):=by
 by_cases h:s∈levels.flatten
 ·exact .inl h
 have h2:∀l∈levels,l.contains s=false:=fun l hl=>by
  rw [Jt]
  intro h3
  exact h (List.mem_flatten.2 ⟨l,hl,by simpa using h3⟩)
 refine .inr ⟨?_,h2⟩
 unfold N7
 rw [Tb.2 fun l hl=>h2 l hl]
theorem AEu {v:Val} (h:Ns v=true):v=noV:=by
 unfold Ns at h
 simp only [At,beq_iff_eq] at h
 cases v
 simp_all [noV]
/-- What a right node is. -/
inductive NodeC:Expr→Prop
 | val (v:Val) (h:Ee v=true) (h0:0≤v.n):NodeC (Ox v)
 | name (t:Str) (h:Q6 t=true):NodeC (Cm t)
 | neg (a:Expr):NodeC (Ll 3 a)
 | no (a:Expr):NodeC (Ll 4 a)
 | bin (t:Str) (a b:Expr) (h:0≤N7 t):NodeC (N8 t a b)
 | call (t:Str) (k:List Expr) (h:Cf t=(k.length:Int)):NodeC (.mk 6 t noV k)
theorem oa (o:Int) (t:Str) (v:Val) (k:List Expr):Xh (.mk o t v k) =
 if o==1 then ((Ee v&&decide (0≤v.n))&&(t==[]))&&((k.length:Int)==0)
 else if !(Ns v) then false
 else if o==2 then Q6 t&&((k.length:Int)==0)
 else if o==3 || o==4 then (t==[])&&((k.length:Int)==1)
 else if o==5 then decide (0≤N7 t)&&((k.length:Int)==2)
 else if o==6 then Cf t==(k.length:Int)
 else false:=rfl
theorem L7 {e:Expr} (h:Ew e=true):NodeC e:=by
 rw [AAs] at h
 cases e with
 | mk o t v k =>
 rw [oa] at h
 by_cases h1:(o==1)=true
 ·rw [if_pos h1] at h
  simp only [At,beq_iff_eq,decide_eq_true_eq] at h h1
  obtain ⟨⟨⟨a1,a2⟩,a3⟩,a4⟩:=h
  subst h1
  subst a3
  have:k=[]:=by cases k with|nil=>rfl|cons x r=>simp at a4;omega
  subst this
  exact .val v a1 a2
 rw [if_neg h1] at h
 by_cases hb:(!(Ns v))=true
 ·rw [if_pos hb] at h;cases h
 rw [if_neg hb] at h
 have hv:v=noV:=AEu (by simpa using hb)
 subst hv
 by_cases h2:(o==2)=true
 ·rw [if_pos h2] at h
  simp only [At,beq_iff_eq] at h h2
  subst h2
  have:k=[]:=by cases k with|nil=>rfl|cons x r=>have:=h.2;simp at this;omega
  subst this
  exact .name t h.1
 rw [if_neg h2] at h
 by_cases h3:(o==3 || o==4)=true
 ·rw [if_pos h3] at h
  simp only [At,Dq,beq_iff_eq] at h h3
  obtain ⟨rfl,h4⟩:=h
  match k,h4 with
  | [a],_ =>
   rcases h3 with rfl|rfl
   ·exact .neg a
   exact .no a
  | [],h4=>simp at h4
  | _::_::_,h4=>simp at h4;omega
 rw [if_neg h3] at h
 by_cases h5:(o==5)=true
 ·rw [if_pos h5] at h
  simp only [At,beq_iff_eq,decide_eq_true_eq] at h h5
  subst h5
  match k,h.2 with
  | [a,b],_=>exact .bin t a b h.1
  | [],h4=>simp at h4
  | [_],h4=>simp at h4
  | _::_::_::_,h4=>simp at h4;omega
 rw [if_neg h5] at h
 by_cases h6:(o==6)=true
 ·rw [if_pos h6] at h
  simp only [beq_iff_eq] at h h6
  subst h6
  exact .call t k h
 rw [if_neg h6] at h;cases h
/-! The parser from a word on, and of a source. -/
def atS (l:List Tok) (i:Nat) (r:Expr×PS):PS:=if r.2.code != 0 then r.2 else if decide ((30:Int)<depthE r.1) then Ex 18 (Af l i).at_ r.2 else if decide ((300:Int)<sizeE r.1) then Ex 3 (Af l i).at_ r.2 else r.2
def atR (l:List Tok) (i:Nat):Expr×PS:=fh l (G7 l 30) ⟨i,0,0,0⟩
/-- The tree, the word behind it, the fault. -/
def atM (l:List Tok) (i:Nat):Expr×Int×Int×Int:=if (atS l i (atR l i)).code != 0 then (Au,0,(atS l i (atR l i)).code,(atS l i (atR l i)).at_) else ((atR l i).1,((atS l i (atR l i)).i:Int),0,0)
set_option maxRecDepth 4000
/-! What is printed of a schema is read. -/
/-- What goes together: names of their own. -/
theorem AAy {c:List Col} (h:L2 c=true):(∀y∈c,ColOk y)∧(c.map (·.name)).Nodup:=by
 rw [na] at h
 have hat:∀(j:Nat) (y:Col),c[j]? = some y→Q6 y.name=true∧1≤y.kind∧y.kind≤3∧Aw y.name c=(j:Int):=by
  intro j y hj
  have:=h j y hj
  unfold qj at this
  simp only [Ko,E1,Mo,decide_eq_false_iff_not,bne_eq_false_iff_eq] at this
  obtain ⟨⟨⟨h1,h2⟩,h3⟩,h4⟩:=this
  exact ⟨h1,by omega,by omega,h4⟩
 refine ⟨fun y hy=>?_,?_⟩
 ·obtain ⟨j,hj⟩:=C8 hy
  obtain ⟨h1,h2,h3,_⟩:=hat j y hj
  exact ⟨by rw [Hu];exact h1,h2,h3⟩
 show List.Pairwise _ _
 rw [q9]
 intro i j hi hj hij e
 simp only [Ao] at hi hj
 simp only [Ql] at e
 have e1:=(hat i c[i] (Ab hi)).2.2.2
 have e2:=(hat j c[j] (Ab hj)).2.2.2
 rw [e] at e1
 omega
theorem jr {c:List Col} (h:X6 c=true):c.length≤12∧(∀y∈c,ColOk y)∧(c.map (·.name)).Nodup:=by
 rw [Mh] at h
 unfold Ci at h
 rw [At] at h
 obtain ⟨h1,h2⟩:=h
 have:=of_decide_eq_true h1
 exact ⟨by omega,AAy h2⟩
theorem rj {c:List Col} (h:Lu c=false):OkCols c:=by
 unfold Lu at h
 simp only [E1,decide_eq_false_iff_not,I2,decide_eq_true_eq] at h
 refine ⟨by omega,fun y hy=>?_⟩
 have:=h.2 y hy
 omega
def Px {α:Type} [BEq α] (v:α) (l:List α):Int:=match l.findIdx? (·==v) with|some i=>i|none => -1
theorem AIr {α:Type} [BEq α] [LawfulBEq α] {v:α} {l:List α} {x:Nat} (h:x<l.length) (h1:l[x]=v) (h2:∀(j:Nat) (y:α),j<x→l[j]? = some y→¬(y=v)):Px v l=x:=by
 have:l.findIdx? (·==v)=some x:=by
  rw [Qi]
  exact ⟨h,by simpa using h1,fun j hj=>by simpa using h2 j l[j] hj (Ab _)⟩
 simp [Px,this]
theorem AAz {α:Type} [BEq α] [LawfulBEq α] {v:α} {l:List α} (h:∀(j:Nat) (y:α),l[j]? = some y→¬(y=v)):Px v l = -1:=by
 have:l.findIdx? (·==v)=none:=by
  rw [Tb]
  intro y hy
  obtain ⟨j,hj⟩:=C8 hy
  simpa using h j y hj
 simp [Px,this]
theorem rk {α:Type} [BEq α] [LawfulBEq α] (v:α) (l:List α):decide (0≤Px v l)=l.contains v:=by
 unfold Px
 cases h:l.findIdx? (·==v) with
 | none =>
  rw [Tb] at h
  have:l.contains v=false:=by
   rw [Jt]
   intro hc
   have:=h v (by simpa using hc)
   simp at this
  rw [this];rfl
 | some i =>
  rw [Qi] at h
  obtain ⟨hi,e,_⟩:=h
  have:l.contains v=true:=by
   have:l[i]=v:=by simpa using e
   rw [←this]
   simp
  rw [this]
  simp only [decide_eq_true_eq]
  omega
theorem c82 (l:List Str) (v:Str) (hl:l.length≤1048576) (Hp:List AObj):AFun Tryz.prog 82 [Fg l,Ac v] Hp (A3 (Px v l)):=by
 refine Ae [.tmp 4] [0,1] Tryz.func82 Tryz.ntmps82 (fun d=>?_)
 refine eg ?_
 refine Bf (α:=Nat) (fun x=>⟨19,A6 0 (Fg l) (A6 1 (Ac v) (A6 7 (A3 l.length) (A6 8 (A3 (x:Nat)) (fun _=>.any)))),Hp,[],[],none⟩) (fun x=>x≤l.length∧∀(j:Nat) (y:Str),j<x→l[j]? = some y→¬(y=v)) (fun x=>l.length-x) (0) (by simp) (Bj (by simp)) rfl (fun x hx=>?_)
 refine ea ?_
 refine Cr (fun ht9=>?_) (fun ht9=>?_)
 ·have hlt:x<l.length:=by simpa using ht9
  refine ee ?_
  refine A5 (h:=Ai (x) (Ac l[x]) (fun _=>B6 hlt)) (hr:=?_)
  refine Z0 ?_;refine en ?_
  refine A4 (fun ht16=>?_) (fun ht16=>?_)
  ·refine ii ?_;refine Z62 ?_;exact A8 (Ak A9) ⟨by rw [AIr hlt (by simpa using (Eq.symm (by simpa using ht16):l[x]=v)) hx.2],rfl⟩
  refine Z73 ?_;refine A2 [0,1,7,8] ?_;exact Bg (x+1) ⟨hlt,El hlt hx.2 (fun e=>by rw [e] at ht16;simp at ht16)⟩ (by omega) (Dn rfl)
 refine Z28 ?_;refine Z41 ?_;exact A8 (Ak A9) ⟨by rw [AAz (Om (by simp at ht9;omega) hx.2)],rfl⟩

theorem c95 (l:List Str) (v:Str) (hl:l.length≤1048576) (Hp:List AObj):AFun Tryz.prog 95 [Fg l,Ac v] Hp (Az (l.contains v)):=by
 refine Ae [.tmp 4] [0,1] Tryz.func95 Tryz.ntmps95 (fun d=>?_)
 refine el ?_;refine Aa Tryz.call82 (c82 l v hl _) ?_;refine Z0 ?_;refine Z11 ?_;exact A8 (Ak A9) ⟨by rw [rk],rfl⟩

theorem vp {n k:Nat} {o:Bool} {l:List Col} {z:Col}:Low n (.slice o k (l.map C0++[C0 z])):=by
 refine .slice _ _ _ (fun y hy=>?_)
 have key:∀c:Col,∀w∈(C0 c).cells,Low n w:=by
  intro c w hw
  have hw':w∈[AV.v (sv c.name),AV.v (.int .i64 c.kind)]:=hw
  simp only [B4,Ej,or_false] at hw'
  rcases hw' with rfl|rfl
  ·exact .v _
  exact .v _
 rcases Ei.1 hy with hy|hy
 ·obtain ⟨a,_,rfl⟩:=C2.1 hy
  exact key a
 rw [B7.1 hy]
 exact key z
def Po (c:List Col) (take:List Str) (j:Nat) (nm:Str):Bool := !(decide (Aw nm c<0) || (Px nm take != (j:Int)))
def Id (c:List Col) (take:List Str):Bool:=take.zipIdx.all fun x=>Po c take x.2 x.1
theorem takenM_true {c:List Col} {take:List Str}:Id c take=true↔∀(j:Nat) (y:Str),take[j]? = some y→Po c take j y=true:=R2
def Sc (c:List Col) (x:Nat) (y:Col):Bool := !((!Q6 y.name) || (Aw y.name c != (x:Int)))
def L8 (c:List Col):Bool:=c.zipIdx.all fun x=>Sc c x.2 x.1
theorem namedC_true {c:List Col}:L8 c=true↔∀(j:Nat) (y:Col),c[j]? = some y→Sc c j y=true:=R2
def Eg (c:List Col) (take:List Str):List Col:=c.filter fun y => !take.contains y.name
theorem AEv {c:List Col} {take:List Str} {k:Nat} {y:Col} (h:c[k]? = some y) (hn:take.contains y.name=false):Eg (c.take (k+1)) take=Eg (c.take k) take++[y]:=by
 unfold Eg
 have e:c.take (k+1)=c.take k++[y]:=by rw [Ms,h];rfl
 have hm:¬y.name∈take:=by simpa using hn
 rw [e,Ta]
 simp [O0,hm]
theorem vq {c:List Col} {take:List Str} {k:Nat} {y:Col} (h:c[k]? = some y) (hn:take.contains y.name=true):Eg (c.take (k+1)) take=Eg (c.take k) take:=by
 unfold Eg
 have e:c.take (k+1)=c.take k++[y]:=by rw [Ms,h];rfl
 have hm:y.name∈take:=by simpa using hn
 rw [e,Ta]
 simp [O0,hm]
theorem Jm (c:List Col) (take:List Str):(Eg c take).length≤c.length:=pz _ _
def Ea (c:List Col) (take:List Str) (give:List Col):List Col×Int:=
 if Ci c=false then ([],1) else if Id c take=false then ([],9) else if L8 (Eg c take++give)=false then ([],9)
 else if L2 (Eg c take++give)=false then ([],10) else if 12<(Eg c take++give).length then ([],3) else (Eg c take++give,0)
theorem AB0 {c:List Col} {take:List Str} {give:List Col} (h:Ci c=false):Ea c take give=([],1):=by unfold Ea;rw [if_pos h]
theorem AB1 {c:List Col} {take:List Str} {give:List Col} (h:Ci c=true) (h2:Id c take=false):Ea c take give=([],9):=by unfold Ea;rw [if_neg (by rw [h];simp),if_pos h2]
theorem AB2 {c:List Col} {take:List Str} {give out:List Col} (h:Ci c=true) (h2:Id c take=true) (ho:Eg c take++give=out) (h3:L8 out=false):Ea c take give=([],9):=by
 unfold Ea;rw [ho,if_neg (by rw [h];simp),if_neg (by rw [h2];simp),if_pos h3]
theorem AB3 {c:List Col} {take:List Str} {give out:List Col} (h:Ci c=true) (h2:Id c take=true) (ho:Eg c take++give=out) (h3:L8 out=true) (h4:L2 out=false):Ea c take give=([],10):=by
 unfold Ea;rw [ho,if_neg (by rw [h];simp),if_neg (by rw [h2];simp),if_neg (by rw [h3];simp),if_pos h4]
theorem AB4 {c:List Col} {take:List Str} {give out:List Col} (h:Ci c=true) (h2:Id c take=true) (ho:Eg c take++give=out) (h3:L8 out=true) (h4:L2 out=true) (h5:12<out.length):Ea c take give=([],3):=by
 unfold Ea;rw [ho,if_neg (by rw [h];simp),if_neg (by rw [h2];simp),if_neg (by rw [h3];simp),if_neg (by rw [h4];simp),if_pos h5]
theorem AB5 {c:List Col} {take:List Str} {give out:List Col} (h:Ci c=true) (h2:Id c take=true) (ho:Eg c take++give=out) (h3:L8 out=true) (h4:L2 out=true) (h5:¬12<out.length):Ea c take give=(out,0):=by
 unfold Ea;rw [ho,if_neg (by rw [h];simp),if_neg (by rw [h2];simp),if_neg (by rw [h3];simp),if_neg (by rw [h4];simp),if_neg h5]
theorem U5 {c:List Col} (h:Ci c=true):c.length≤12:=by
 unfold Ci at h
 simp at h
 omega
theorem AB6 {c give:List Col} {take:List Str} {out:List Col} (hc:OkCols c) (h:Ci c=true) (hg:OkCols give) (hg2:give.length≤1000000) (ho:Eg c take++give=out):OkCols out:=by
 subst ho
 have h1:=Jm c take
 have h2:=U5 h
 refine ⟨by simp only [Av];omega,fun y hy=>?_⟩
 rcases Ei.1 hy with hy|hy
 ·exact hc.2 y ((d9.1 hy).1)
 exact hg.2 y hy
theorem AOx (c:List Col) (hc:OkCols c) (take:List Str) (ht:take.length≤1048576) (Hp:List AObj):AFun Tryz.prog 210 [An c,Fg take] Hp (Az (Id c take)):=by
 refine Ae [.tmp 4] [0,1] Tryz.func210 Tryz.ntmps210 (fun d=>?_)
 refine Z36 ?_;refine Z31 ?_;refine A2 [0,1,7,8,9] ?_
 refine Bf (α:=Nat) (fun x=>⟨26,A6 0 (An c) (A6 1 (Fg take) (A6 7 (Fg take) (A6 8 (A3 take.length) (A6 9 (A3 (x:Nat)) (fun _=>.any))))),Hp,[],[],none⟩) (fun x=>x≤take.length∧∀(j:Nat) (y:Str),j<x→take[j]? = some y→Po c take j y=true) (fun x=>take.length-x) (0) (by simp) (Bj (by simp)) rfl (fun x hx=>?_)
 refine Z2 ?_;refine A2 [0,1,7,8,9,10] ?_
 refine Cr (fun ht10=>?_) (fun ht10=>?_)
 ·have hlt:x<take.length:=by simpa using ht10
  refine Rz ?_
  refine A5 (h:=Ai (x) (Ac take[x]) (fun _=>B6 hlt)) (hr:=?_)
  refine Z13 ?_;refine A2 [0,1,5,6,7,8,9] ?_;refine Z1 ?_;refine Aa Tryz.call60 (c60 c hc _ _) ?_;refine Z35 ?_;refine C3 Tryz.call82 (fun hB=>c82 take _ ht _) ?_;refine io ?_;refine A2 [0,1,7,8,9,24] ?_
  refine A4 (fun ht24=>?_) (fun ht24=>?_)
  ·refine Z41 ?_;refine Z62 ?_
   exact A8 (Ak A9) ⟨by rw [show Id c take=false from Jt.2 fun h=>by have:=takenM_true.1 h x take[x] (Ab hlt);unfold Po at this;rw [ht24] at this;cases this],rfl⟩
  refine Z73 ?_;refine A2 [0,1,7,8,9] ?_;exact Bg (x+1) ⟨hlt,L3 hlt hx.2 (by unfold Po;rw [ht24];rfl)⟩ (by omega) (Dn rfl)
 refine Z28 ?_;refine Z41 ?_;exact A8 (Ak A9) ⟨by rw [takenM_true.2 (Tl (by simp at ht10;omega) hx.2)],rfl⟩

theorem AOy (c:List Col) (hc:OkCols c) (Hp:List AObj):AFun Tryz.prog 212 [An c] Hp (Az (L8 c)):=by
 refine Ae [.tmp 2] [0] Tryz.func212 Tryz.ntmps212 (fun d=>?_)
 refine mz ?_;refine A2 [0,5,6,7] ?_
 refine Bf (α:=Nat) (fun x=>⟨25,A6 0 (An c) (A6 5 (An c) (A6 6 (A3 c.length) (A6 7 (A3 (x:Nat)) (fun _=>.any)))),Hp,[],[],none⟩) (fun x=>x≤c.length∧∀(j:Nat) (y:Col),j<x→c[j]? = some y→Sc c j y=true) (fun x=>c.length-x) (0) (by simp) (Bj (by simp)) rfl (fun x hx=>?_)
 refine Z2 ?_;refine A2 [0,5,6,7,8] ?_
 refine Cr (fun ht8=>?_) (fun ht8=>?_)
 ·have hlt:x<c.length:=by simpa using ht8
  have hcl:=hc.len
  refine Rz ?_
  refine A5 (h:=Ai (x) (C0 c[x]) (fun _=>B6 hlt)) (hr:=?_)
  refine um ?_;refine A2 [0,3,4,5,6,7] ?_;refine Z1 ?_;refine Aa Tryz.call105 (AA8 _ (hc.names _ (Be hlt)) _) ?_;refine Zg ?_;refine C3 Tryz.call60 (fun hB=>c60 c hc _ _) ?_;refine io ?_;refine A2 [0,5,6,7,23] ?_
  refine A4 (fun ht23=>?_) (fun ht23=>?_)
  ·rw [Hu] at ht23
   refine Z58 ?_;refine Z62 ?_
   exact A8 (Ak A9) ⟨by rw [show L8 c=false from Jt.2 fun h=>by have:=namedC_true.1 h x c[x] (Ab hlt);unfold Sc at this;rw [ht23] at this;cases this],rfl⟩
  rw [Hu] at ht23
  refine Z73 ?_;refine A2 [0,5,6,7] ?_
  refine Bg (x+1) ⟨hlt,L3 hlt hx.2 (by unfold Sc;rw [ht23];rfl)⟩ (by omega) ?_
  exact Di (own:=[]) (fun _=>.refl _) (by repeat (first|exact Bc|refine Bb (by simp [or_imp,forall_and]) ?_)) (by simp) (by simp)
 refine Z28 ?_;refine Z58 ?_;exact A8 (Ak A9) ⟨by rw [namedC_true.2 (Tl (by simp at ht8;omega) hx.2)],rfl⟩

theorem AOz (c:List Col) (take:List Str) (Hp:List AObj):AFun Tryz.prog 211 [An c,Fg take] Hp (.fn (.func 239) [] [.ro [An c],.ro [Fg take]]):=by
 refine Ae [.tmp 4] [0,1] Tryz.func211 Tryz.ntmps211 (fun d=>?_)
 refine zm ?_;refine mx ?_;exact AHk

theorem AP0 (l:Nat) (c:List Col) (take:List Str) (hc:c.length≤1048576) (ht:take.length≤1048576) (U:Nat→List AObj) (hlen:∀k,(U k).length=(U 0).length) (hll:l<(U 0).length)
  (hlw:∀k,∀x∈U k,ObjLow (U 0).length x) (hn:∀k y,c[k]? = some y→take.contains y.name=true→U (k+1)=U k)
  (hy:∀k y X,c[k]? = some y→take.contains y.name=false→AYield Tryz.prog l [C0 y] (U k++X) (fun b H'=>b=true∧H'=U (k+1)++X)):ACall Tryz.prog 239 [.yield l,.ro [An c],.ro [Fg take]] (U 0) (fun _ H'=>H'=U c.length):=by
 refine Ae [] [0,1,2] Tryz.func239 Tryz.ntmps239 (fun d=>?_)
 refine Z15 ?_;refine A2 [0,2,6,7,8] ?_
 refine Bf (α:=Nat) (fun x=>⟨24,A6 0 (.yield l) (A6 2 (.ro [Fg take]) (A6 6 (An c) (A6 7 (A3 c.length) (A6 8 (A3 (x:Nat)) (fun _=>.any))))),U x,[],[],none⟩) (fun x=>x≤c.length) (fun x=>c.length-x) (0) (Ar _) (Bj (by simp)) rfl (fun x hx=>?_)
 refine Z2 ?_;refine A2 [0,2,6,7,8,9] ?_
 refine Cr (fun ht9=>?_) (fun ht9=>?_)
 ·have hlt:x<c.length:=by simpa using ht9
  refine Z76 ?_
  refine A5 (h:=Ai (x) (C0 c[x]) (fun _=>B6 hlt)) (hr:=?_)
  refine Qw ?_;refine A2 [0,2,5,6,7,8] ?_;refine Z15 ?_;refine Aa Tryz.call95 (c95 take _ ht _) ?_;refine Z35 ?_
  refine G.yield (l:=l) (C:=((!take.contains c[x].name)==true)) (args:=[C0 c[x]]) (fun hC=>hy x c[x] _ (Ab hlt) (by simpa using hC)) ?_
  intro b V O hV hb hb0
  have hVO:V=U (x+1)∧O=[AObj.cells 69 [Ac c[x].name,A3 c[x].kind]]∧(take.contains c[x].name=false→b=true):=by
   cases hcn:take.contains c[x].name with
   | true =>
    obtain ⟨h1,h2⟩:=hb0 (by rw [hcn];rfl)
    exact ⟨h1.trans (hn x c[x] (Ab hlt) hcn).symm,h2,fun e=>by cases e⟩
   | false =>
    obtain ⟨h1,h2⟩:=hb (by rw [hcn];rfl)
    have h3:=I3 h2 (by rw [hV,hlen x,hlen (x+1)])
    exact ⟨h3.1,h3.2,fun _=>h1⟩
  obtain ⟨rfl,rfl,hbt⟩:=hVO
  refine ⟨fun _=>by rw [hlen (x+1)];exact hlw (x+1),fun o ho=>(by cases ho),?_⟩
  refine Z48 ?_;refine A2 [0,2,6,7,8,22] ?_
  refine A4 (fun ht22=>?_) (fun ht22=>?_)
  ·exfalso
   have hcf:take.contains c[x].name=false:=by simp at ht22 ⊢;exact ht22.1
   rw [hbt hcf] at ht22
   simp at ht22
  refine Z73 ?_;refine A2 [0,2,6,7,8] ?_;refine Bg (x+1) hlt (by omega) ?_
  exact Di (own:=[]) (fun _=>.refl _) (by repeat (first|exact Bc|refine Bb (by first|(simp [or_imp,forall_and];done)|(have:=hlen (x+1);simp;omega)) ?_)) (by simp) (by simp)
 have hxe:x=c.length:=by simp at ht9;omega
 exact ALd

/-! What went and came, taken back: the same columns. -/
theorem AB7 {α β:Type} {f:α→β} {c:List α} (h:(c.map f).Nodup) {i j:Nat} {y z:α} (hi:c[i]? = some y) (hj:c[j]? = some z) (e:f y=f z):i=j:=by
 obtain ⟨hi',ei⟩:=Ad.1 hi
 obtain ⟨hj',ej⟩:=Ad.1 hj
 have h':List.Pairwise (·≠·) (c.map f):=h
 rw [q9] at h'
 rcases Nat.lt_trichotomy i j with hlt|rfl|hlt
 ·have h2:=h' i j (by simpa using hi') (by simpa using hj') hlt
  rw [Ql,Ql,ei,ej] at h2
  exact absurd e h2
 ·rfl
 have h2:=h' j i (by simpa using hj') (by simpa using hi') hlt
 rw [Ql,Ql,ei,ej] at h2
 exact absurd e.symm h2
theorem Xq {c:List Col} (h:(c.map (·.name)).Nodup) {j:Nat} {y:Col} (hj:c[j]? = some y):Aw y.name c=(j:Int):=by
 obtain ⟨hj',ej⟩:=Ad.1 hj
 exact iv hj' (by rw [ej]) (fun k z hk hz e=>by have:=AB7 h hz hj e;omega)
theorem find_mem {nm:Str} {c:List Col}:¬(Aw nm c<0)↔∃(j:Nat) (y:Col),c[j]? = some y∧y.name=nm∧Aw nm c=(j:Int):=by
 unfold Aw
 cases h:c.findIdx? (fun y=>y.name==nm) with
 | none =>
  constructor
  ·intro h';exact absurd (by decide) h'
  rintro ⟨j,y,_,_,e⟩
  exact absurd (show (-1:Int)=(j:Int) from e) (by omega)
 | some i =>
  rw [Qi] at h
  obtain ⟨hi,e,_⟩:=h
  constructor
  ·intro _;exact ⟨i,c[i],Ab hi,by simpa using e,rfl⟩
  intro _ h'
  have:(i:Int)<0:=h'
  omega
theorem AEw {c:List Col} {take:List Str} {give:List Col} (h:(Ea c take give).2=0):Ci c=true∧Id c take=true∧L2 (Eg c take++give)=true∧(Eg c take++give).length≤12∧Ea c take give=(Eg c take++give,0):=by
 cases h1:Ci c with
 | false=>rw [AB0 h1] at h;exact absurd (show (1:Int)=0 from h) (by decide)
 | true =>
  cases h2:Id c take with
  | false=>rw [AB1 h1 h2] at h;exact absurd (show (9:Int)=0 from h) (by decide)
  | true =>
   cases h3:L8 (Eg c take++give) with
   | false=>rw [AB2 h1 h2 rfl h3] at h;exact absurd (show (9:Int)=0 from h) (by decide)
   | true =>
    cases h4:L2 (Eg c take++give) with
    | false=>rw [AB3 h1 h2 rfl h3 h4] at h;exact absurd (show (10:Int)=0 from h) (by decide)
    | true =>
     by_cases h5:12<(Eg c take++give).length
     ·rw [AB4 h1 h2 rfl h3 h4 h5] at h;exact absurd (show (3:Int)=0 from h) (by decide)
     exact ⟨rfl,rfl,rfl,by omega,AB5 h1 h2 rfl h3 h4 h5⟩
set_option maxRecDepth 8000
/-! The words of a print. -/
/-- What a node asks of its kids, and what it is. -/
structure Sign where
 kids:List Int
 own:Int
def N9 (s:Str):Sign:=if (s==[111,114]) || (s==[97,110,100]) then ⟨[3,3],3⟩ else if (((((s==[61]) || (s==[33,61])) || (s==[60])) || (s==[60,61])) || (s==[62])) || (s==[62,61]) then ⟨[-1, -1],3⟩ else if s==[38] then ⟨[2,2],2⟩ else ⟨[1,1],1⟩
def Na (s:Str):Sign:=if (s==[108,101,110]) || (s==[110,117,109]) then ⟨[2],1⟩ else if s==[115,116,114] then ⟨[1],2⟩ else if (s==[108,101,102,116]) || (s==[114,105,103,104,116]) then ⟨[2,1],2⟩ else if s==[105,115,110,117,108,108] then ⟨[-2],3⟩ else if s==[110,118,108] then ⟨[-1, -1], -1⟩ else ⟨[3, -1, -1], -1⟩
def V0 (o:Int) (t:Str):Sign:=if o==3 then ⟨[1],1⟩ else if o==4 then ⟨[3],3⟩ else if o==5 then N9 t else Na t
def Fj (a b:Int):Int×Bool:=if a==0 then (b,true) else if (b==0) || (a==b) then (a,true) else (0,false)
def Py:List Int→List Int→Int→Option Int
 | _,[],c=>some c
 | [],_::_,_=>none
 | w::ws,k::ks,c=>if w == -2 then Py ws ks c else if w == -1 then (if (Fj c k).2 then Py ws ks (Fj c k).1 else none) else if (Fj w k).2 then Py ws ks c else none
def Sd (s:Sign) (ks:List Int):Int×Int:=match Py s.kids ks 0 with|none=>(0,10)|some c=>if s.own == -1 then (c,0) else (s.own,0)
def L9 (c:List Col) (t:Str):Int×Int:=if Aw t c<0 then (0,9) else ((c.getD (Aw t c).toNat ⟨[],0⟩).kind,0)
def Oy (c:List Col) (o:Int) (t:Str) (v:Val) (ks:List (Int×Int)):Int×Int:=
 if o==1 then (v.kind,0) else if o==2 then L9 c t else match ks.find? (fun q=>q.2 != 0) with|some q=>(0,q.2)|none=>Sd (V0 o t) (ks.map (·.1))
mutual
def Dj (c:List Col):Expr→Int×Int
 | .mk o t v k=>Oy c o t v (Mi c k)
def Mi (c:List Col):List Expr→List (Int×Int)
  | []=>[]
  | e::r=>Dj c e::Mi c r
 end
theorem be (c:List Col):∀l,Mi c l=l.map (Dj c)
 | []=>rfl
 | e::r=>by rw [Mi,be c r];rfl
theorem Mj (c:List Col) (e:Expr):Dj c e=Oy c e.op e.text e.val (e.kids.map (Dj c)):=by cases e;rw [Dj,be];rfl
/-- infer.Kind. -/
def Ie (e:Expr) (c:List Col):Int×Int:=if (!(Ay e)) || !(Ip c) then (0,1) else Dj c e
/-! The signs have as many as the nodes have kids. -/
theorem ob (s:Str):(N9 s).kids.length=2:=by
 unfold N9;repeat' split
 all_goals rfl
theorem od {t:Str} {n:Nat} (h:Cf t=(n:Int)):(Na t).kids.length=n:=by
 rw [show Cf t=Cf t from rfl] at h
 by_cases hm:t∈arityList.map (·.1)
 ·have:((arityList.map (·.1)).all fun s=>decide (((Na s).kids.length:Int)=Cf s))=true:=by kernel_rfl
  have:=of_decide_eq_true (B0.1 this t hm)
  omega
 have h1:Cf t = -1:=by
  unfold Cf
  rw [O1.2 fun p hp=>by
   simp only [beq_iff_eq]
   rintro rfl
   exact hm (C2.2 ⟨p,hp,rfl⟩)]
 omega
theorem AB8 {e:Expr} (h:Ew e=true) (h1:(e.op==1)=false) (h2:(e.op==2)=false):(V0 e.op e.text).kids.length=e.kids.length:=by
 unfold Ew at h
 rw [h1,h2] at h
 simp only [Bt,if_false] at h
 unfold V0
 by_cases h3:(e.op==3)=true
 ·rw [h3] at h
  simp only [Kr,if_true,At,beq_iff_eq] at h
  rw [if_pos h3]
  show 1=_
  omega
 have h3':(e.op==3)=false:=by simpa using h3
 rw [if_neg h3]
 rw [h3'] at h
 by_cases h4:(e.op==4)=true
 ·rw [h4] at h
  simp only [F6,if_true,At,beq_iff_eq] at h
  rw [if_pos h4]
  show 1=_
  omega
 have h4':(e.op==4)=false:=by simpa using h4
 rw [if_neg h4]
 rw [h4'] at h
 simp only [Qg,Bt,if_false] at h
 by_cases h5:(e.op==5)=true
 ·rw [h5] at h
  simp only [if_true,At,beq_iff_eq] at h
  rw [if_pos h5,ob]
  omega
 have h5':(e.op==5)=false:=by simpa using h5
 rw [if_neg h5]
 rw [h5'] at h
 simp only [Bt,if_false] at h
 by_cases h6:(e.op==6)=true
 ·rw [h6] at h
  simp only [if_true,At,beq_iff_eq] at h
  exact od h.2
 have h6':(e.op==6)=false:=by simpa using h6
 rw [h6'] at h
 cases h
/-! More columns. -/
theorem AB9 {c:List Col} {o:Int} {t:Str} {v:Val} {ks:List (Int×Int)} (h:(Oy c o t v ks).2=0) (h1:(o==1)=false) (h2:(o==2)=false):∀q∈ks,q.2=0:=by
 unfold Oy at h
 rw [h1,h2] at h
 simp only [Bt,if_false] at h
 cases hf:ks.find? (fun q=>q.2 != 0) with
 | some q =>
  rw [hf] at h
  have:=mb hf
  simp only [bne_iff_ne] at this
  exact absurd h this
 | none =>
  intro q hq
  have:=O1.1 hf q hq
  simpa using this
/-- What a name's kind is. -/
theorem oe {c:List Col} {t:Str} (hn:(c.map (·.name)).Nodup) {y:Col} (hy:y∈c) (h:y.name=t):L9 c t=(y.kind,0):=by
 obtain ⟨j,hj⟩:=C8 hy
 have hf:=Xq hn hj
 rw [h] at hf
 unfold L9
 rw [hf,if_neg (by omega)]
 have:(c.getD ((j:Int)).toNat ⟨[],0⟩)=y:=by
  rw [Int.toNat_natCast,Bw,hj]
  rfl
 rw [this]
/-! A tree in a column's place. -/
set_option maxRecDepth 4000
abbrev pr (l:List Tok) (S:PS):AObj:=.cells 197 [.slice false 3 (l.map I1),A3 (S.i:Int),A3 (S.nest:Int),A3 S.code,A3 S.at_]
theorem Dd {n:Nat} {l:List Tok} {S:PS}:ObjLow n (pr l S):=by
 show ∀y∈[AV.slice false 3 (l.map I1),A3 (S.i:Int),A3 (S.nest:Int),A3 S.code,A3 S.at_],Low n y
 intro y hy
 simp only [B4,Ej,or_false] at hy
 rcases hy with rfl|rfl|rfl|rfl|rfl
 ·simp [or_imp,forall_and]
 all_goals simp
theorem js (o:Int) (t:Str) (v:Val):Le (.agg [A3 o,Ac t,A3 v.kind,A3 v.n,Ac v.s,.nil]) (A7 (.mk o t v [])):=by
 rw [Al]
 refine .agg _ _ rfl (by simp [AV.one,Value.oneCell',sv]) fun i y y' h1 h2=>?_
 match i with
 | 0=>simp at h1 h2;subst h1;subst h2;exact .inl rfl
 | 1=>simp at h1 h2;subst h1;subst h2;exact .inl rfl
 | 2=>simp at h1 h2;subst h1;subst h2;exact .inl rfl
 | 3=>simp at h1 h2;subst h1;subst h2;exact .inl rfl
 | 4=>simp at h1 h2;subst h1;subst h2;exact .inl rfl
 | 5=>simp at h1 h2;subst h1;subst h2;exact .inr ⟨rfl,6,rfl⟩
 | i+6=>simp at h1
theorem Se:Le (.agg [A3 0,Ac [],A3 0,A3 0,Ac [],.nil]) (A7 Au):=js 0 [] noV
theorem AMj (l:List Tok) (S:PS) (o:Nat) (Hp:List AObj) (ho:Hp[o]? = some (pr l S)) (hi:S.i<l.length):AFun Tryz.prog 255 [.ptr o 0] Hp (I1 (Af l S.i)):=by
 refine Ae [.cell 2 118] [0] Tryz.func255 Tryz.ntmps255 (fun d=>?_)
 refine AL3 ?_;refine Z33 ?_
 refine Aq (h:=B8 ho) (hr:=?_)
 refine Z33 ?_
 refine Aq (h:=B8 ho) (hr:=?_)
 refine Ht ?_
 refine A5 (h:=Ai (S.i) (I1 (Af l S.i)) (fun _=>M7 hi)) (hr:=?_)
 refine A5 ?_;exact ADu

theorem jt (l:List Tok) (S:PS) (of:Str) (o:Nat) (Hp:List AObj) (ho:Hp[o]? = some (pr l S)) (hi:S.i<l.length) (hl:TokEnd l) (hof:of.length≤1048576):AFun Tryz.prog 232 [.ptr o 0,Ac of] Hp (Az (isM l of S)):=by
 refine Ae [.tmp 4] [0,1] Tryz.func232 Tryz.ntmps232 (fun d=>?_)
 refine Z36 ?_;refine AHv ?_;refine Z14 ?_;refine A2 [1,5] ?_;refine Z23 ?_;refine Z69 ?_;refine Zg ?_;refine C3 Tryz.call175 (fun hB=>AMe (Af l S.i).text of (hl.text _) hof _) ?_;exact AEa

theorem ABa (l:List Tok) (S:PS) (o:Nat) (Hp:List AObj) (ho:Hp[o]? = some (pr l S)) (hi:S.i<l.length) (hll:l.length≤1048576):ACall Tryz.prog 233 [.ptr o 0] Hp (fun r H'=>r=I1 (Af l S.i)∧H'=Hp.set o (pr l (Ap S))):=by
 refine Ae [.cell 2 118] [0] Tryz.func233 Tryz.ntmps233 (fun d=>?_)
 refine Z63 ?_;refine AHv ?_;refine ic ?_;refine Z15 ?_
 refine A5 (h:=B8 ho) (hr:=?_)
 refine Z13 ?_
 refine Cq jS ho ?_ ?_
 ·simp
 refine Kc ?_;refine Z2 ?_;exact ADu

theorem vr (l:List Tok) (S:PS) (e a:Int) (o:Nat) (Hp:List AObj) (ho:Hp[o]? = some (pr l S)):ACall Tryz.prog 156 [.ptr o 0,A3 e,A3 a] Hp (fun r H'=>r=A7 Au∧H'=Hp.set o (pr l (Ex e a S))):=by
 refine Ae [.cell 6 27] [0,1,2] Tryz.func156 Tryz.ntmps156 (fun d=>?_)
 refine ADz ?_;refine Z83 ?_
 refine A5 (h:=B8 ho) (hr:=?_)
 refine A5 ?_;refine A2 [0,1,2,6,12] ?_
 refine A4 (fun ht12=>?_) (fun ht12=>?_)
 ·have e:Ex e a S=⟨S.i,S.nest,e,a⟩:=if_pos ht12
  refine Z49 ?_;refine n6 ?_;refine Z0 ?_
  refine Cq jS ho ?_ ?_
  ·simp
  refine A2 [6] ?_;refine Gg ?_;refine AHj ?_;refine R.wk 19 _ Se ?_;refine Fw ?_;refine Z72 ?_;exact A8 (Ak (B3 jA jS)) ⟨rfl,by rw [e]⟩ (hlow:=Ah _ Au)
 have e:Ex e a S=S:=if_neg (by rw [ht12];simp)
 refine Z3 ?_;refine AHj ?_;refine R.wk 19 _ Se ?_;refine Fw ?_;refine Z72 ?_;exact A8 (Ak (B3 jA jS)) ⟨rfl,by rw [e];exact (Ce ho).symm⟩ (hlow:=Ah _ Au)

theorem AMk (v:Val) (Hp:List AObj):AFun Tryz.prog 337 [Bm v] Hp (A7 (Ox v)):=by
 refine Ae [.cell 2 27] [0] Tryz.func337 Tryz.ntmps337 (fun d=>?_)
 refine zu ?_;refine A2 [1,2] ?_;refine Z2 ?_;refine uu ?_;refine R.wk 4 _ (js 1 [] v) ?_;refine Z39 ?_;exact A8 (Ak (B3 jA jS)) ⟨rfl,rfl⟩ (hlow:=Ah _ (Ox v))

theorem AMl (l:List Tok) (S:PS) (s:Str) (o:Nat) (Hp:List AObj) (ho:Hp[o]? = some (pr l S)) (hi:S.i<l.length) (hll:l.length≤1048576):ACall Tryz.prog 339 [.ptr o 0,Ac s] Hp (fun r H'=>r=.v (.tuple #[])∧H'=Hp.set o (pr l (G6 l s S))):=by
 refine Ae [] [0,1] Tryz.func339 Tryz.ntmps339 (fun d=>?_)
 refine Z83 ?_
 refine A5 (h:=B8 ho) (hr:=?_)
 refine A5 ?_;refine A2 [0,1,10] ?_
 refine A4 (fun ht10=>?_) (fun ht10=>?_)
 ·have e:G6 l s S=S:=if_pos ht10
  refine Z34 ?_;exact A8 .nores (hp:=⟨rfl,by rw [e];exact (Ce ho).symm⟩)
 have e0:¬(S.code != 0)=true:=by rw [ht10];simp
 refine Oi ?_;refine Aa Tryz.call255 (AMj l S o _ (Ag ho) hi) ?_;refine Z14 ?_;refine A2 [0,1,4] ?_;refine Z23 ?_;refine Pw ?_;refine A5 ?_;refine A2 [0,4,21] ?_
 refine A4 (fun ht21=>?_) (fun ht21=>?_)
 ·have e:G6 l s S=Ex 8 (Af l S.i).at_ S:=by unfold G6;rw [if_neg e0,if_pos ht21]
  refine AKs ?_;refine zc ?_;exact A8 .nores (hp:=⟨rfl,by rw [e]⟩)
 have e:G6 l s S=Ap S:=by unfold G6;rw [if_neg e0,if_neg (by rw [ht21];simp)]
 refine Z3 ?_;refine Z49 ?_
 refine A5 (h:=B8 ho) (hr:=?_)
 refine Z13 ?_
 refine Cq jS ho ?_ ?_
 ·simp
 refine A2 [] ?_;exact Es .nores (hp:=⟨rfl,by rw [e];rfl⟩)

/-- The contract of one of the parser's functions. -/
def PC (g:FuncId) (l:List Tok) (f:PS→Expr×PS) (n:Nat):Prop:=∀(o:Nat) (Hp:List AObj) (S:PS),Hp[o]? = some (pr l S)→S.i<l.length→S.nest=n→ACall Tryz.prog g [.ptr o 0] Hp (fun r H'=>r=A7 (f S).1∧H'=Hp.set o (pr l (f S).2))
abbrev M8:AObj:=.cells 27 [A3 0,Ac [],A3 0,A3 0,Ac [],.nil]
theorem fj {n:Nat}:ObjLow n M8:=by
 show ∀y∈[A3 0,Ac [],A3 0,A3 0,Ac [],AV.nil],Low n y
 simp
theorem AEx {n:Nat} (e:Expr):ObjLow n (.cells 27 (E4 e)):=by
 have h:=Ah n e
 rw [Al] at h
 show ∀y∈E4 e,Low n y
 intro y hy
 cases h with
 | agg _ h=>exact h y hy
theorem AEy (l:List Tok) (S:PS) (a:Int) (g:FuncId) (first caps:List AV) (x:Expr) (S2:PS) (o:Nat) (Hp Hx:List AObj) (ho:Hp[o]? = some (pr l S)) (hnl:S.nest≤1048576) (hgc:∀args w,(callFunc g args).run Tryz.prog w=.ok (.enter g args) w) (hxl:Hx.length=Hp.length) (hxo:Hx[o]? = some (pr l S2)) (hn2:S2.nest=S.nest+1) (hlow:(∀y∈Hp.set o (pr l (Dp S)),ObjLow Hp.length y)→∀y∈Hx,ObjLow Hp.length y) (hcf:S.nest≠30→∀own,ACall Tryz.prog g (first++caps) (Hp.set o (pr l (Dp S))++own) (fun y H'=>y=A7 x∧H'=Hx++own)):ACall Tryz.prog 257 [.ptr o 0,A3 a,.fn (.func g) first caps] Hp (fun r H'=>(S.nest=30→r=A7 Au∧H'=Hp.set o (pr l (Ex 18 a S)))∧(S.nest≠30→r=A7 x∧H'=Hx.set o (pr l (b9 S2)))):=by
 refine Ae [.cell 6 27] [0,1,2] Tryz.func257 Tryz.ntmps257 (fun d=>?_)
 refine ADz ?_;refine Z31 ?_
 refine A5 (h:=B8 ho) (hr:=?_)
 refine A5 ?_;refine A2 [0,1,2,6,12] ?_
 refine A4 (fun ht12=>?_) (fun ht12=>?_)
 ·have hn30:S.nest=30:=by have:=ht12;simp at this;omega
  refine Z1 ?_;refine Ch Tryz.call156 ho (by simp) Dd (vr l S 18 a o _ (Ag ho)) ?_;refine Fw ?_;refine ie ?_;exact A8 (Ak (B3 jA jS)) ⟨fun _=>⟨by rw [Al],rfl⟩,fun h=>absurd hn30 h⟩ (hlow:=by have:=Ah Hp.length Au;rw [Al] at this;simpa using this)
 have hn30:S.nest≠30:=by have:=ht12;simp at this;omega
 refine Qy ?_
 refine A5 (h:=B8 ho) (hr:=?_)
 refine Z13 ?_
 refine Cq jS ho ?_ ?_
 ·simp
 refine A2 [0,2,6] ?_;refine Z2 ?_
 refine R.callVX (up':=Hx) (own':=[M8]) hgc (hcf hn30 [M8]) (by simpa using hxl) (by rw [Dh];exact hlow) ?_
 rw [←hxl]
 refine Z14 ?_;refine A2 [0,6,7] ?_;refine Z15 ?_
 refine A5 (h:=B8 hxo) (hr:=?_)
 refine Z13 ?_
 refine Cq jS hxo ?_ ?_
 ·simp
 refine A2 [6,7] ?_;refine Z89 ?_;refine Z72 ?_;exact A8 (Ak (B3 jA jS)) ⟨fun h=>absurd h hn30,fun _=>⟨by rw [Al],by rw [show ((S2.nest:Int)-1)=((b9 S2).nest:Int) by show _=((S2.nest-1:Nat):Int);omega];rfl⟩⟩ (hlow:=by have:=Ah Hx.length x;rw [Al] at this;simpa using this)

theorem vt (t:Str) (a b:Expr):E4 (N8 t a b)=[A3 5,.v (sv t),A3 0,A3 0,Ac [],.slice false 6 [A7 a,A7 b]]:=rfl
theorem AEz {n:Nat} (t:Str) (a b:Expr):ObjLow n (.cells 27 [A3 5,.v (sv t),A3 0,A3 0,Ac [],.slice false 6 [A7 a,A7 b]]):=AEx (N8 t a b)
theorem AF0 {n:Nat} {U:List AObj} {i:Nat} {x:AObj} (h:∀y∈U,ObjLow n y) (hx:ObjLow n x):∀y∈U.set i x,ObjLow n y:=by
 intro y hy
 rcases Ln hy with h1|h1
 ·exact h y h1
 rw [h1];exact hx
/-- within, with a method's value. -/
theorem ABb {g:FuncId} (hgc:∀args w,(callFunc g args).run Tryz.prog w=.ok (.enter g args) w) (l:List Tok) (S:PS) (a:Int) (f:PS→Expr×PS) (o:Nat) (Hp:List AObj) (ho:Hp[o]? = some (pr l S)) (hi:S.i<l.length) (hnl:S.nest≤30) (hf:S.nest≠30→F7 l (S.nest+1) f) (hcf:S.nest≠30→PC g l f (S.nest+1)):
  ACall Tryz.prog 257 [.ptr o 0,A3 a,.fn (.func g) [.ptr o 0] []] Hp (fun r H'=>r=A7 (Cs a f S).1∧H'=Hp.set o (pr l (Cs a f S).2)):=by
 have hlt:=(Ad.1 ho).1
 by_cases h30:S.nest=30
 ·refine (AEy l S a g [.ptr o 0] [] Au (Dp S) o Hp (Hp.set o (pr l (Dp S))) ho (by omega) hgc (by simp) (by simp [hlt]) rfl (fun h=>h) (fun h=>absurd h30 h)).mono fun r H' h=>?_
  have e:Cs a f S=(Au,Ex 18 a S):=if_pos (by rw [h30];rfl)
  rw [e]
  exact h.1 h30
 have hq:=hf h30 (Dp S) hi rfl
 refine (AEy l S a g [.ptr o 0] [] (f (Dp S)).1 (f (Dp S)).2 o Hp (Hp.set o (pr l (f (Dp S)).2)) ho (by omega) hgc (by simp) (by simp [hlt]) hq.nest (fun h y hy=>?_) (fun _ own=>?_)).mono fun r H' h=>?_
 ·rcases Ln hy with h1|h1
  ·obtain ⟨i,hi',rfl⟩:=cz h1
   by_cases hio:i=o
   ·subst hio
    have:Hp[i]=pr l S:=by rw [Ab hi'] at ho;injection ho
    rw [this];exact Dd
   refine h _ ?_
   rw [q8]
   exact ⟨i,by rw [Bh (Ne.symm hio),Ab hi']⟩
  rw [h1];exact Dd
 ·have hg:(Hp.set o (pr l (Dp S))++own)[o]? = some (pr l (Dp S)):=Ag (by simp [hlt])
  refine (hcf h30 o (Hp.set o (pr l (Dp S))++own) (Dp S) hg hi rfl).mono fun r H' h=>⟨h.1,h.2.trans ?_⟩
  rw [K9 _ _ (by simpa using hlt),Bu]
 have e:Cs a f S=((f (Dp S)).1,b9 (f (Dp S)).2):=if_neg (by
  show ¬(((S.nest:Int)==30)=true)
  simp
  omega)
 rw [e]
 obtain ⟨h1,h2⟩:=h.2 h30
 exact ⟨h1,by rw [h2,Bu]⟩
theorem AF1 {g:FuncId} (hgc:∀args w,(callFunc g args).run Tryz.prog w=.ok (.enter g args) w) (l:List Tok) (S:PS) (of:Str) (hof:of.length≤1048576) (f:PS→Expr×PS) (o:Nat) (Hp:List AObj) (ho:Hp[o]? = some (pr l S)) (hi:S.i<l.length) (hl:TokEnd l) (hll:l.length≤1048576) (hf:F7 l S.nest f) (hcf:PC g l f S.nest):ACall Tryz.prog 198 [.ptr o 0,Ac of,.fn (.func g) [.ptr o 0] []] Hp (fun r H'=>r=A7 (H7 l of f S).1∧H'=Hp.set o (pr l (H7 l of f S).2)):=by
 have holt:=(Ad.1 ho).1
 refine Ae [.cell 6 27] [0,1,2] Tryz.func198 Tryz.ntmps198 (fun d=>?_)
 refine ADz ?_;refine Z2 ?_;refine R.callVUp hgc ho (by simp) Dd (hcf o _ S (Ag ho) hi rfl) ?_;refine Z14 ?_;refine A2 [0,1,2,6,7] ?_;refine Jw ?_
 refine Bf (α:=Expr×PS) (fun r=>⟨32,A6 0 (.ptr o 0) (A6 1 (Ac of) (A6 2 (.fn (.func g) [.ptr o 0] []) (A6 6 (.ptr (oid Hp.length 0) 0) (A6 7 (.ptr (oid Hp.length 1) 0) (fun _=>.any))))),Hp.set o (pr l r.2),[.cells 27 [A3 0,Ac [],A3 0,A3 0,Ac [],.nil],.cells 27 (E4 r.1)],[],none⟩) (fun r=>LeftAt l of f S r) (fun r=>l.length-r.2.i) (f S) (.start (hf S hi rfl)) (Bj (by simp)) rfl (fun r hx=>?_)
 refine Z83 ?_
 refine A5 (h:=B8 (getset ho)) (hr:=?_)
 refine Z35 ?_;refine C3 Tryz.call232 (fun hB=>jt l r.2 of o _ (Ag (getset ho)) hx.fact.lt hl hof) ?_;refine A5 ?_;refine A2 [0,1,2,6,7,21] ?_
 refine A4 (fun ht21=>?_) (fun ht21=>?_)
 ·have hon:=hx.on hl ht21 hf
  have hle:=hon.2.1.le
  have hlt0:=hx.fact.lt
  have hU1:(Hp.set o (pr l r.2)).set o (pr l (Ap r.2))=Hp.set o (pr l (Ap r.2)):=Bu ..
  refine zv ?_;refine Z2 ?_;refine Ch Tryz.call233 (getset ho) (by simp) Dd (ABa l r.2 o _ (Ag (getset ho)) hx.fact.lt hll) ?_;refine Z14 ?_;refine A2 [0,1,2,6,7,8] ?_;refine Qt [0,1,0,0,8,28,63,127] [4] [.q 4 [] [],.s [28] (some 0) [] [],.q 1 [0] []] (fun B=>Hp.set o (if B 0=true then pr l (f (Ap r.2)).2 else pr l (Ap r.2))) (fun _=>[.cells 27 [A3 0,Ac [],A3 0,A3 0,Ac [],.nil],.cells 27 (E4 r.1),.cells 118 [A3 (Af l r.2.i).kind,Ac (Af l r.2.i).text,A3 (Af l r.2.i).at_]]) Aj (by kernel_rfl) (by simp [Bu]) rfl (fun B=>by simp) ?_
  apply Y.q
  ·intro B hT hF
   exact ij
  case hTF=>decide
  refine Y.callVUp (r:=A7 (f (Ap r.2)).1) (o:=o) (x0:=pr l (Ap r.2)) (x:=pr l (f (Ap r.2)).2) hgc (fun B hT hF hB=>⟨by simp only [hB];exact getset ho,by simp [upd],rfl,Dd,?_⟩) ?_
  ·simp only [hB]
   exact hcf o _ (Ap r.2) (Ag (getset ho)) hon.1 hx.fact.nest
  apply Y.q
  ·intro B hT hF
   exact Z38
  case hTF=>decide
  refine Ed (tn:=[4]) (U:=Hp.set o (pr l (f (Ap r.2)).2)) ?_;refine Z26 ?_;refine A2 [0,1,2,6,7] ?_;refine M4 ?_
  refine Bg (N8 (Af l r.2.i).text r.1 (f (Ap r.2)).1,(f (Ap r.2)).2) hon.2.2 (by show l.length-(f (Ap r.2)).2.i<l.length-r.2.i;have:r.2.i+1≤(f (Ap r.2)).2.i:=hle;omega) ?_
  simp only [vt]
  have hlow2:=fun n=>AEz (n:=n) (Af l r.2.i).text r.1 (f (Ap r.2)).1
  simp only [Al] at hlow2 ⊢
  exact Di (fun _=>.refl _) (by repeat (first|exact Bc|refine Bb (by simp [oid]<;>omega) ?_)) (by intro y hy;rcases B4.1 hy with rfl|hy;exact fj;rw [B7.1 hy];exact hlow2 _) (by simp)
 have hout:=hx.out (by rw [ht21];simp)
 refine Pu ?_;refine Z89 ?_;refine Z72 ?_;exact A8 (Ak (B3 jA jS)) ⟨by rw [hout,Al],by rw [hout]⟩ (hlow:=by have:=Ah (Hp.set o (pr l r.2)).length r.1;rw [Al] at this;simpa using this)

theorem AP1 (l:List Tok) (S:PS) (f:PS→Expr×PS) (o:Nat) (Hp:List AObj) (ho:Hp[o]? = some (pr l S)) (hi:S.i<l.length) (hl:TokEnd l) (hll:l.length≤1048576) (hf:F7 l S.nest f) (hcf:PC 199 l f S.nest):ACall Tryz.prog 154 [.ptr o 0] Hp (fun r H'=>r=A7 (H7 l orT f S).1∧H'=Hp.set o (pr l (H7 l orT f S).2)):=by
 refine Ae [.cell 2 27] [0] Tryz.func154 Tryz.ntmps154 (fun d=>?_)
 refine Z63 ?_;refine Z1 ?_;refine Ia ?_;refine Ch Tryz.call198 ho (by simp) Dd (AF1 Tryz.call199 l S orT (by decide) f o _ (Ag ho) hi hl hll hf hcf) ?_;refine Z39 ?_;exact A8 (Ak (B3 jA jS)) ⟨by rw [Al],rfl⟩ (hlow:=by have:=Ah Hp.length (H7 l orT f S).1;rw [Al] at this;simpa using this)

theorem AP2 (l:List Tok) (S:PS) (f:PS→Expr×PS) (o:Nat) (Hp:List AObj) (ho:Hp[o]? = some (pr l S)) (hi:S.i<l.length) (hl:TokEnd l) (hll:l.length≤1048576) (hf:F7 l S.nest f) (hcf:PC 234 l f S.nest):ACall Tryz.prog 199 [.ptr o 0] Hp (fun r H'=>r=A7 (H7 l AAv f S).1∧H'=Hp.set o (pr l (H7 l AAv f S).2)):=by
 refine Ae [.cell 2 27] [0] Tryz.func199 Tryz.ntmps199 (fun d=>?_)
 refine Z63 ?_;refine Z1 ?_;refine Ia ?_;refine Ch Tryz.call198 ho (by simp) Dd (AF1 Tryz.call234 l S AAv (by decide) f o _ (Ag ho) hi hl hll hf hcf) ?_;refine Z39 ?_;exact A8 (Ak (B3 jA jS)) ⟨by rw [Al],rfl⟩ (hlow:=by have:=Ah Hp.length (H7 l AAv f S).1;rw [Al] at this;simpa using this)

theorem AP3 (l:List Tok) (S:PS) (f:PS→Expr×PS) (o:Nat) (Hp:List AObj) (ho:Hp[o]? = some (pr l S)) (hi:S.i<l.length) (hl:TokEnd l) (hll:l.length≤1048576) (hf:F7 l S.nest f) (hcf:PC 299 l f S.nest):ACall Tryz.prog 282 [.ptr o 0] Hp (fun r H'=>r=A7 (H7 l AAw f S).1∧H'=Hp.set o (pr l (H7 l AAw f S).2)):=by
 refine Ae [.cell 2 27] [0] Tryz.func282 Tryz.ntmps282 (fun d=>?_)
 refine Z63 ?_;refine Z1 ?_;refine Ia ?_;refine Ch Tryz.call198 ho (by simp) Dd (AF1 Tryz.call299 l S AAw (by decide) f o _ (Ag ho) hi hl hll hf hcf) ?_;refine Z39 ?_;exact A8 (Ak (B3 jA jS)) ⟨by rw [Al],rfl⟩ (hlow:=by have:=Ah Hp.length (H7 l AAw f S).1;rw [Al] at this;simpa using this)

theorem AP4 (l:List Tok) (S:PS) (f:PS→Expr×PS) (o:Nat) (Hp:List AObj) (ho:Hp[o]? = some (pr l S)) (hi:S.i<l.length) (hl:TokEnd l) (hll:l.length≤1048576) (hf:F7 l S.nest f) (hcf:PC 317 l f S.nest):ACall Tryz.prog 299 [.ptr o 0] Hp (fun r H'=>r=A7 (H7 l jn f S).1∧H'=Hp.set o (pr l (H7 l jn f S).2)):=by
 refine Ae [.cell 2 27] [0] Tryz.func299 Tryz.ntmps299 (fun d=>?_)
 refine Z63 ?_;refine Z1 ?_;refine Ia ?_;refine Ch Tryz.call198 ho (by simp) Dd (AF1 Tryz.call317 l S jn (by decide) f o _ (Ag ho) hi hl hll hf hcf) ?_;refine Z39 ?_;exact A8 (Ak (B3 jA jS)) ⟨by rw [Al],rfl⟩ (hlow:=by have:=Ah Hp.length (H7 l jn f S).1;rw [Al] at this;simpa using this)

/-- What is so of the functions one nest deeper. -/
structure DeepC (l:List Tok) (Dv:Fam) (n:Nat):Prop where
 ei:n≠30→F7 l (n+1) Dv.ei∧PC 154 l Dv.ei (n+1)
 no:n≠30→F7 l (n+1) Dv.no∧PC 234 l Dv.no (n+1)
 ne:n≠30→F7 l (n+1) Dv.ne∧PC 317 l Dv.ne (n+1)
theorem Vu (op:Int) (x:Expr):A7 (Ll op x)=.agg [A3 op,Ac [],A3 0,A3 0,Ac [],.slice false 6 [A7 x]]:=by rw [Al];rfl
theorem rl (t:Str) (a b:Expr):A7 (N8 t a b)=.agg [A3 5,.v (sv t),A3 0,A3 0,Ac [],.slice false 6 [A7 a,A7 b]]:=by rw [Al];rfl
theorem low_agg {n:Nat} (e:Expr):Low n (.agg [.v (.int .i64 e.op),.v (sv e.text),.v (.int .i64 e.val.kind),.v (.int .i64 e.val.n),.v (sv e.val.s),.slice false 6 (e.kids.map A7)]):=by
 have:=Ah n e
 rwa [Al] at this
theorem AP5 (l:List Tok) (S:PS) (Dv:Fam) (o:Nat) (Hp:List AObj) (ho:Hp[o]? = some (pr l S)) (hi:S.i<l.length) (hl:TokEnd l) (hll:l.length≤1048576) (hnl:S.nest≤30) (hd:DeepC l Dv S.nest) (hc:PC 331 l (Hh l Dv) S.nest):ACall Tryz.prog 317 [.ptr o 0] Hp (fun r H'=>r=A7 (Xl l Dv S).1∧H'=Hp.set o (pr l (Xl l Dv S).2)):=by
 refine Ae [.cell 2 27] [0] Tryz.func317 Tryz.ntmps317 (fun d=>?_)
 refine Z63 ?_;refine Z30 ?_;refine Aa Tryz.call232 (jt l S AIp o _ (Ag ho) hi hl (by decide)) ?_;refine A5 ?_;refine A2 [0,2,6] ?_
 refine A4 (fun ht6=>?_) (fun ht6=>?_)
 ·have e:Xl l Dv S=Hh l Dv S:=if_pos ht6
  refine Z2 ?_;refine Ch Tryz.call331 ho (by simp) Dd (hc o _ S (Ag ho) hi rfl) ?_;refine Z39 ?_;exact Z84
 have his:isM l AIp S=true:=by simpa using ht6
 have hi1:(Ap S).i<l.length:=hl.stepIs hi his
 have e:Xl l Dv S=(Ll 3 (Cs (Af l S.i).at_ Dv.ne (Ap S)).1,(Cs (Af l S.i).at_ Dv.ne (Ap S)).2):=if_neg (by rw [ht6];simp)
 refine Z3 ?_;refine Z67 ?_;refine ic ?_;refine Z23 ?_;refine Ia ?_;refine Ch Tryz.call257 (getset ho) (by simp) Dd (ABb Tryz.call317 l (Ap S) (Af l S.i).at_ Dv.ne o _ (Ag (getset ho)) hi1 hnl (fun h=>(hd.ne h).1) (fun h=>(hd.ne h).2)) ?_;refine Tj ?_;refine Z26 ?_;refine Z4 ?_;exact A8 (Ak (B3 jA jS)) ⟨by rw [e,Vu];simp only [Al],by rw [e,Bu]⟩ (hlow:=by have:=Ah Hp.length (Ll 3 (Cs (Af l S.i).at_ Dv.ne (Ap S)).1);rw [Vu] at this;simp only [Al] at this;simpa only [Dh] using this)

theorem AP6 (l:List Tok) (S:PS) (Dv:Fam) (o:Nat) (Hp:List AObj) (ho:Hp[o]? = some (pr l S)) (hi:S.i<l.length) (hl:TokEnd l) (hll:l.length≤1048576) (hnl:S.nest≤30) (hd:DeepC l Dv S.nest) (hc:PC 256 l (H0 l Dv) S.nest):ACall Tryz.prog 234 [.ptr o 0] Hp (fun r H'=>r=A7 (Xm l Dv S).1∧H'=Hp.set o (pr l (Xm l Dv S).2)):=by
 refine Ae [.cell 2 27] [0] Tryz.func234 Tryz.ntmps234 (fun d=>?_)
 refine Z63 ?_;refine Z30 ?_;refine Aa Tryz.call232 (jt l S AIn o _ (Ag ho) hi hl (by decide)) ?_;refine A5 ?_;refine A2 [0,2,6] ?_
 refine A4 (fun ht6=>?_) (fun ht6=>?_)
 ·have e:Xm l Dv S=H0 l Dv S:=if_pos ht6
  refine Z2 ?_;refine Ch Tryz.call256 ho (by simp) Dd (hc o _ S (Ag ho) hi rfl) ?_;refine Z39 ?_;exact Z84
 have his:isM l AIn S=true:=by simpa using ht6
 have hi1:(Ap S).i<l.length:=hl.stepIs hi his
 have e:Xm l Dv S=(Ll 4 (Cs (Af l S.i).at_ Dv.no (Ap S)).1,(Cs (Af l S.i).at_ Dv.no (Ap S)).2):=if_neg (by rw [ht6];simp)
 refine Z3 ?_;refine Z67 ?_;refine ic ?_;refine Z23 ?_;refine Ia ?_;refine Ch Tryz.call257 (getset ho) (by simp) Dd (ABb Tryz.call234 l (Ap S) (Af l S.i).at_ Dv.no o _ (Ag (getset ho)) hi1 hnl (fun h=>(hd.no h).1) (fun h=>(hd.no h).2)) ?_;refine Tj ?_;refine Z26 ?_;refine Z4 ?_;exact A8 (Ak (B3 jA jS)) ⟨by rw [e,Vu];simp only [Al],by rw [e,Bu]⟩ (hlow:=by have:=Ah Hp.length (Ll 4 (Cs (Af l S.i).at_ Dv.no (Ap S)).1);rw [Vu] at this;simp only [Al] at this;simpa only [Dh] using this)

theorem AP7 (l:List Tok) (S:PS) (Dv:Fam) (o:Nat) (Hp:List AObj) (ho:Hp[o]? = some (pr l S)) (hi:S.i<l.length) (hl:TokEnd l) (hll:l.length≤1048576) (hnl:S.nest≤30) (hd:DeepC l Dv S.nest) (hg:F7 l S.nest (Fa l Dv)) (hc:PC 282 l (Fa l Dv) S.nest):ACall Tryz.prog 256 [.ptr o 0] Hp (fun r H'=>r=A7 (H0 l Dv S).1∧H'=Hp.set o (pr l (H0 l Dv S).2)):=by
 have hq:=hg S hi rfl
 refine Ae [.cell 2 27] [0] Tryz.func256 Tryz.ntmps256 (fun d=>?_)
 refine Z63 ?_;refine Z2 ?_;refine Ch Tryz.call282 ho (by simp) Dd (hc o _ S (Ag ho) hi rfl) ?_;refine ic ?_;refine Z83 ?_
 refine A5 (h:=B8 (getset ho)) (hr:=?_)
 refine Qx ?_;refine C3 Tryz.call232 (fun hB=>jt l (Fa l Dv S).2 AIo o _ (Ag (getset ho)) hq.lt hl (by decide)) ?_;refine Z48 ?_;refine A2 [0,2,3,17] ?_
 refine A4 (fun ht17=>?_) (fun ht17=>?_)
 ·have e:H0 l Dv S=Fa l Dv S:=if_pos ht17
  refine Z2 ?_;refine Z39 ?_;exact Z84
 have his:isM l AIo (Fa l Dv S).2=true:=by
  have:=ht17
  simp only [E1,Mo] at this
  exact this.2
 have hi1:(Ap (Fa l Dv S).2).i<l.length:=hl.stepIs hq.lt his
 have e:H0 l Dv S=(N8 (Af l (Fa l Dv S).2.i).text (Fa l Dv S).1 (Fa l Dv (Ap (Fa l Dv S).2)).1,(Fa l Dv (Ap (Fa l Dv S).2)).2):=if_neg (by rw [ht17];simp)
 refine Qz ?_;refine Ch Tryz.call233 (getset ho) (by simp) Dd (ABa l (Fa l Dv S).2 o _ (Ag (getset ho)) hq.lt hll) ?_;refine Z14 ?_;refine A2 [0,2,3,4] ?_;refine Fc [0,1,0,0,8,28,63,127] [4] [.q 4 [] [],.s [25] (some 0) [] [],.q 1 [0] []] (fun B=>Hp.set o (if B 0=true then pr l (Fa l Dv (Ap (Fa l Dv S).2)).2 else pr l (Ap (Fa l Dv S).2))) (fun _=>[.cells 27 [A3 0,Ac [],A3 0,A3 0,Ac [],.nil],.cells 27 (E4 (Fa l Dv S).1),.cells 118 [A3 (Af l (Fa l Dv S).2.i).kind,Ac (Af l (Fa l Dv S).2.i).text,A3 (Af l (Fa l Dv S).2.i).at_]]) Aj (by kernel_rfl) (by simp [Bu]) rfl (fun B=>by simp) ?_
 apply Y.q
 ·intro B hT hF
  exact ij
 case hTF=>decide
 refine N2 (r:=A7 (Fa l Dv (Ap (Fa l Dv S).2)).1) (o:=o) (x0:=pr l (Ap (Fa l Dv S).2)) (x:=pr l (Fa l Dv (Ap (Fa l Dv S).2)).2) Tryz.call282 (fun B hT hF hB=>⟨by simp only [hB];exact getset ho,by simp [upd],rfl,Dd,?_⟩) ?_
 ·simp only [hB]
  exact hc o _ (Ap (Fa l Dv S).2) (Ag (getset ho)) hi1 hq.nest
 apply Y.q
 ·intro B hT hF
  exact Z38
 case hTF=>decide
 refine Ed (tn:=[4]) (U:=Hp.set o (pr l (Fa l Dv (Ap (Fa l Dv S).2)).2)) ?_;refine Z26 ?_;refine Z4 ?_;exact A8 (Ak (B3 jA jS)) ⟨by rw [e,rl];simp only [Al],by rw [e]⟩ (hlow:=by have:=Ah Hp.length (N8 (Af l (Fa l Dv S).2.i).text (Fa l Dv S).1 (Fa l Dv (Ap (Fa l Dv S).2)).1);rw [rl] at this;simp only [Al] at this;simpa only [Dh] using this)

/-- The contract of the parser of calls. -/
def ju (l:List Tok) (Dv:Fam) (n:Nat):Prop:=∀(o:Nat) (Hp:List AObj) (S:PS) (t:Tok),Hp[o]? = some (pr l S)→(Ap S).i<l.length→S.nest=n→t.text.length≤1048576→isM l opT S=true→ACall Tryz.prog 338 [.ptr o 0,I1 t] Hp (fun r H'=>r=A7 (Ir l Dv t S).1∧H'=Hp.set o (pr l (Ir l Dv t S).2))
theorem ABc:A7 Au=.agg [A3 0,Ac [],A3 0,A3 0,Ac [],.slice false 6 []]:=by rw [Al];rfl
theorem AP8 (l:List Tok) (S:PS) (Dv:Fam) (o:Nat) (Hp:List AObj) (ho:Hp[o]? = some (pr l S)) (hi:S.i<l.length) (hl:TokEnd l) (hll:l.length≤1048576) (hnl:S.nest≤30) (hd:DeepC l Dv S.nest) (hcl:ju l Dv S.nest):ACall Tryz.prog 331 [.ptr o 0] Hp (fun r H'=>r=A7 (Hh l Dv S).1∧H'=Hp.set o (pr l (Hh l Dv S).2)):=by
 refine Ae [.cell 2 27] [0] Tryz.func331 Tryz.ntmps331 (fun d=>?_)
 refine Z63 ?_;refine AHv ?_;refine ic ?_;refine Z83 ?_
 refine A5 (h:=B8 ho) (hr:=?_)
 refine A5 ?_;refine A2 [0,2,3,14] ?_
 refine A4 (fun ht14=>?_) (fun ht14=>?_)
 ·have e:Hh l Dv S=(Au,S):=if_pos ht14
  refine AHj ?_;refine R.wk 15 _ Se ?_;refine Z39 ?_;refine C9 ?_;exact A8 (Ak (B3 jA jS)) ⟨by rw [e,Al],by rw [e];exact (Ce ho).symm⟩ (hlow:=by have:=Ah Hp.length (Au);simpa only [Al,Dh] using this)
 have e0:¬(S.code != 0)=true:=by rw [ht14];simp
 refine Oh ?_;refine un ?_;refine C3 Tryz.call232 (fun hB=>jt l S AIq o _ (Ag ho) hi hl (by decide)) ?_;refine Z0 ?_;refine A2 [0,2,3,16] ?_
 refine A4 (fun ht16=>?_) (fun ht16=>?_)
 ·have e:Hh l Dv S=(Ox (Ib (Af l S.i).text).1,Ap S):=by unfold Hh;rw [if_neg e0,if_pos ht16]
  refine Z67 ?_;refine A5 ?_;refine Aa Tryz.call227 (AIh (Af l S.i).text (hl.text _) _) ?_;refine Pv ?_;refine A2 [2,4] ?_;refine Z2 ?_;refine Aa Tryz.call337 (AMk (Ib (Af l S.i).text).1 _) ?_;refine Z39 ?_;refine Z5 ?_;exact A8 (Ak (B3 jA jS)) ⟨by rw [e,Al],by rw [e]⟩ (hlow:=by have:=Ah Hp.length (Ox (Ib (Af l S.i).text).1);simpa only [Al,Dh] using this)
 have e1:¬(((Af l S.i).kind==3) || isM l AIq S)=true:=by rw [ht16];simp
 refine Z23 ?_;refine A2 [0,2,3,33] ?_
 refine A4 (fun ht33=>?_) (fun ht33=>?_)
 ·have e:Hh l Dv S=(Ox ⟨2,0,(Af l S.i).text.take 200⟩,Ap S):=by unfold Hh;rw [if_neg e0,if_neg e1,if_pos ht33]
  refine Z67 ?_;refine A5 ?_;refine Aa Tryz.call275 (v8 (Af l S.i).text _) ?_;refine Aa Tryz.call337 (AMk ⟨2,0,(Af l S.i).text.take 200⟩ _) ?_;refine Z39 ?_;refine Z5 ?_;exact A8 (Ak (B3 jA jS)) ⟨by rw [e,Al],by rw [e]⟩ (hlow:=by have:=Ah Hp.length (Ox ⟨2,0,(Af l S.i).text.take 200⟩);simpa only [Al,Dh] using this)
 have e2:¬((Af l S.i).kind==4)=true:=by rw [ht33];simp
 refine Z23 ?_;refine A2 [0,2,3,42] ?_
 refine A4 (fun ht42=>?_) (fun ht42=>?_)
 ·have hi1:(Ap S).i<l.length:=hl.step hi (by rw [beq_iff_eq] at ht42;rw [ht42];decide)
  refine Z67 ?_;refine A2 [0,2,3] ?_;refine Z30 ?_;refine Aa Tryz.call232 (jt l (Ap S) opT o _ (Ag (getset ho)) hi1 hl (by decide)) ?_;refine A2 [0,2,3,49] ?_
  refine A4 (fun ht49=>?_) (fun ht49=>?_)
  ·have e:Hh l Dv S=Ir l Dv (Af l S.i) (Ap S):=by unfold Hh;rw [if_neg e0,if_neg e1,if_neg e2,if_pos ht42,if_pos ht49]
   have hi2:(Ap (Ap S)).i<l.length:=hl.stepIs hi1 ht49
   refine Z1 ?_;refine Ch Tryz.call338 (getset ho) (by simp) Dd (hcl o _ (Ap S) (Af l S.i) (Ag (getset ho)) hi2 rfl (hl.text _) ht49) ?_;refine Z39 ?_;refine C9 ?_;refine Z5 ?_;exact A8 (Ak (B3 jA jS)) ⟨by rw [e,Al],by rw [e,Bu]⟩ (hlow:=by have:=Ah Hp.length ((Ir l Dv (Af l S.i) (Ap S)).1);simpa only [Al,Dh] using this)
  have e:Hh l Dv S=(Cm (Af l S.i).text,Ap S):=by unfold Hh;rw [if_neg e0,if_neg e1,if_neg e2,if_pos ht42,if_neg (by rw [ht49];simp)]
  refine Z98 ?_;refine uu ?_;refine R.wk 55 _ (j9 _) ?_;refine Z39 ?_;refine Z5 ?_;exact A8 (Ak (B3 jA jS)) ⟨by rw [e,Al],by rw [e]⟩ (hlow:=by have:=Ah Hp.length (Cm (Af l S.i).text);simpa only [Al,Dh] using this)
 have e3:¬((Af l S.i).kind==1)=true:=by rw [ht42];simp
 refine Z2 ?_;refine Aa Tryz.call232 (jt l S opT o _ (Ag ho) hi hl (by decide)) ?_;refine A5 ?_;refine A2 [0,2,3,56] ?_
 refine A4 (fun ht56=>?_) (fun ht56=>?_)
 ·have e:Hh l Dv S=((Cs (Af l S.i).at_ Dv.ei (Ap S)).1,G6 l Fy (Cs (Af l S.i).at_ Dv.ei (Ap S)).2):=by unfold Hh;rw [if_neg e0,if_neg e1,if_neg e2,if_neg e3,if_pos ht56]
  have hi1:(Ap S).i<l.length:=hl.stepIs hi ht56
  have hwf:=Kd (S:=Ap S) (l:=l) (f:=Dv.ei) (Af l S.i).at_ hi1 (fun h=>(hd.ei h).1)
  refine Z67 ?_;refine A2 [0,2,3] ?_;refine Z23 ?_;refine Ia ?_;refine Ch Tryz.call257 (getset ho) (by simp) Dd (ABb Tryz.call154 l (Ap S) (Af l S.i).at_ Dv.ei o _ (Ag (getset ho)) hi1 hnl (fun h=>(hd.ei h).1) (fun h=>(hd.ei h).2)) ?_;refine Z14 ?_;refine A2 [0,2,6] ?_;refine Z2 ?_;refine Ch Tryz.call339 (getset (getset ho)) (by simp) Dd (AMl l (Cs (Af l S.i).at_ Dv.ei (Ap S)).2 Fy o _ (Ag (getset (getset ho))) hwf.lt hll) ?_;refine A2 [2,6] ?_;refine Z2 ?_;refine Z39 ?_;refine Z5 ?_;exact A8 (Ak (B3 jA jS)) ⟨by rw [e,Al],by rw [e,Bu,Bu]⟩ (hlow:=by have:=Ah Hp.length ((Cs (Af l S.i).at_ Dv.ei (Ap S)).1);simpa only [Al,Dh] using this)
 have e:Hh l Dv S=(Au,Ex 8 (Af l S.i).at_ S):=by unfold Hh;rw [if_neg e0,if_neg e1,if_neg e2,if_neg e3,if_neg (by rw [ht56];simp)]
 refine Z19 ?_;refine AKs ?_;refine Z39 ?_;exact A8 (Ak (B3 jA jS)) ⟨by rw [e,Al],by rw [e]⟩ (hlow:=by have:=Ah Hp.length (Au);simpa only [Al,Dh] using this)

theorem AF2 {l:List Tok} (hl:TokEnd l) (hll:l.length≤1048576) {d n:Nat} (h:n+(d+1)=31) (hp:n≠30→PC 154 l (G7 l d).ei (n+1)∧PC 234 l (G7 l d).no (n+1)∧PC 317 l (G7 l d).ne (n+1)):DeepC l (G7 l d) n:=by
 have g:n≠30→_:=fun h30=>U4 hl hll d (n+1) (by omega) (by omega)
 exact ⟨fun h=>⟨(g h).1,(hp h).1⟩,fun h=>⟨(g h).2.1,(hp h).2.1⟩,fun h=>⟨(g h).2.2,(hp h).2.2⟩⟩
/-- All functions of the parser. -/
theorem jv {l:List Tok} (hl:TokEnd l) (hll:l.length≤1048576) (hcl:∀n Dv,n≤30→DeepC l Dv n→ju l Dv n):∀(d n:Nat),n+d=31→n≤30→PC 154 l (G7 l d).ei n∧PC 234 l (G7 l d).no n∧PC 317 l (G7 l d).ne n
 | 0,n,h,hn=>by omega
 | d+1,n,h,hn=>by
  have hd:DeepC l (G7 l d) n:=AF2 hl hll h (fun h30=>jv hl hll hcl d (n+1) (by omega) (by omega))
  have g1:F7 l n (Xl l (G7 l d)):=U3 hl hll (fun h=>(hd.ei h).1) (fun h=>(hd.ne h).1)
  have g2:F7 l n (rd l (G7 l d)):=Hv hl g1
  have g3:F7 l n (Fa l (G7 l d)):=Hv hl g2
  have g4:F7 l n (H0 l (G7 l d)):=Q8 hl hll (fun h=>(hd.ei h).1) (fun h=>(hd.ne h).1)
  have g5:F7 l n (Xm l (G7 l d)):=bc hl hll (fun h=>(hd.ei h).1) (fun h=>(hd.ne h).1) (fun h=>(hd.no h).1)
  have g6:F7 l n (re l (G7 l d)):=Hv hl g5
  have p0:PC 331 l (Hh l (G7 l d)) n:=fun o Hp S ho hi hS=>by
   subst hS
   exact AP8 l S (G7 l d) o Hp ho hi hl hll hn hd (hcl _ _ hn hd)
  have p1:PC 317 l (Xl l (G7 l d)) n:=fun o Hp S ho hi hS=>by
   subst hS
   exact AP5 l S (G7 l d) o Hp ho hi hl hll hn hd p0
  have p2:PC 299 l (rd l (G7 l d)) n:=fun o Hp S ho hi hS=>by
   subst hS
   exact AP4 l S (Xl l (G7 l d)) o Hp ho hi hl hll g1 p1
  have p3:PC 282 l (Fa l (G7 l d)) n:=fun o Hp S ho hi hS=>by
   subst hS
   exact AP3 l S (rd l (G7 l d)) o Hp ho hi hl hll g2 p2
  have p4:PC 256 l (H0 l (G7 l d)) n:=fun o Hp S ho hi hS=>by
   subst hS
   exact AP7 l S (G7 l d) o Hp ho hi hl hll hn hd g3 p3
  have p5:PC 234 l (Xm l (G7 l d)) n:=fun o Hp S ho hi hS=>by
   subst hS
   exact AP6 l S (G7 l d) o Hp ho hi hl hll hn hd p4
  have p6:PC 199 l (re l (G7 l d)) n:=fun o Hp S ho hi hS=>by
   subst hS
   exact AP2 l S (Xm l (G7 l d)) o Hp ho hi hl hll g5 p5
  have p7:PC 154 l (fh l (G7 l d)) n:=fun o Hp S ho hi hS=>by
   subst hS
   exact AP1 l S (re l (G7 l d)) o Hp ho hi hl hll g6 p6
  exact ⟨p7,p5,p1⟩
theorem rm {n:Nat} {U F:Nat→List AObj} {H':List AObj} (h:Mg (fun _=>true) U F n H'):H'=U n:=by
 rcases h with ⟨_,h⟩|⟨j,_,_,h,_⟩
 ·exact h
 cases h
theorem vu {α:Type} {l:List α} {k:Nat} {y:α} (h:l[k]? = some y):l.take (k+1)=l.take k++[y]:=by rw [List.take_add_one,h];rfl
theorem ABd {L:List (Int×Expr)} {k:Nat} {it:Int×Expr} (h:L[k]? = some it):Fo 0 (L.take (k+1))=if Fo 0 (L.take k)<it.1 then it.1 else Fo 0 (L.take k):=by
 have e:Fo 0 (L.take (k+1))=max (Fo 0 (L.take k)) it.1:=by
  unfold Fo
  rw [vu h,md]
  rfl
 rw [e]
 split<;>omega
theorem bf {n k:Nat} {o:Bool} {l:List Str}:Low n (.slice o k (l.map Ac)):=by simp [or_imp,forall_and]
theorem AP9 (n:Nat) (e:Expr) (hok:okE n e) (hn:n≤1048576) (hs:sizeE e≤1048576) (Hp:List AObj):AFun Tryz.prog 155 [A7 e] Hp (A3 (depthE e:Nat)):=by
 refine Ae [.tmp 2] [0,4] Tryz.func155 Tryz.ntmps155 (fun d=>?_)
 refine Z1 ?_;refine A2 [1,4] ?_;refine Ze ?_;refine A2 [1,3,4] ?_;refine Z54 ?_
 refine Jx (fun hlow=>?_)
 refine AI1 ?_;refine A2 [3,4,6] ?_;refine Jy ?_
 refine L0 (m:=1) Tryz.call173 (fun FR as' bd' hFR has hbd=>?_)
 have hFRl:∀s,Low (Hp.length+3) (FR s):=by
  intro s
  rw [hFR]
  refine M3 ?_
  revert s
  repeat (first|exact Bc|refine Bb (by simp [oid,Ah]<;>try omega) ?_)
 have hOl:∀{k:Nat},∀x∈[AObj.cells 3 [A3 (Fo 0 ((Bs 1 e).take k))],AObj.defs,AObj.loop LoopState.ready none FR 13 #[7,8] as' bd' (oid Hp.length 1)],ObjLow (Hp.length+3) x:=by
  intro k x hx
  simp only [B4,E2,or_false] at hx
  rcases hx with rfl|rfl|rfl
  ·intro y hy
   rw [B7.1 hy]
   first|exact bf|simp
  ·trivial
  exact zx
 refine ⟨fun _ H'=>Mg (fun _=>true) (fun k=>Hp++[AObj.cells 3 [A3 (Fo 0 ((Bs 1 e).take k))],AObj.defs,AObj.loop LoopState.ready none FR 13 #[7,8] as' bd' (oid Hp.length 1)]) (fun k=>Hp++[AObj.cells 3 [A3 (Fo 0 ((Bs 1 e).take k))],AObj.defs,AObj.loop LoopState.ready none FR 13 #[7,8] as' bd' (oid Hp.length 1)]) (Bs 1 e).length H',AIk (l:=oid Hp.length 2) (go:=fun _=>true) (U:=fun k=>Hp++[AObj.cells 3 [A3 (Fo 0 ((Bs 1 e).take k))],AObj.defs,AObj.loop LoopState.ready none FR 13 #[7,8] as' bd' (oid Hp.length 1)]) (F:=fun k=>Hp++[AObj.cells 3 [A3 (Fo 0 ((Bs 1 e).take k))],AObj.defs,AObj.loop LoopState.ready none FR 13 #[7,8] as' bd' (oid Hp.length 1)]) (n0:=Hp.length+3) ⟨fun k=>by simp,fun k=>by simp,fun k x hx=>?_,fun k x hx=>?_,by simp [oid],fun X k it hit hgo=>?_⟩ n hok hn,?_⟩
 ·exact zy
 ·exact zy
 ·have hklt:k<sizeE e:=by rw [←Gz 1 e];exact (Ad.1 hit).1
  generalize hV:(Hp++[AObj.cells 3 [A3 (Fo 0 ((Bs 1 e).take k))],AObj.defs,AObj.loop LoopState.ready none FR 13 #[7,8] as' bd' (oid Hp.length 1)]++X)=V
  have hL:V[oid Hp.length 2]? = some (AObj.loop LoopState.ready none FR 13 #[7,8] as' bd' (oid Hp.length 1)):=by rw [←hV,Ax,As];rfl
  have hA0:V[oid Hp.length 0]? = some (AObj.cells 3 [A3 (Fo 0 ((Bs 1 e).take k))]):=by rw [←hV,Ax,As];rfl
  refine Iy (pd:=none) (fr:=FR) (sz:=13) (ps:=#[7,8]) (df:=oid Hp.length 1) (asg:=as') (bd:=bd') hL rfl (by decide) (fun d=>?_)
  subst hFR has hbd
  refine Fd [3,7,8] ?_;refine Z44 ?_;refine A2 [3,4] ?_
  refine ⟨rfl,none,hL,?_⟩
  generalize hbz:(AObj.loop LoopState.busy _ _ _ _ _ _ _)=bz
  have hA:(V.set (oid Hp.length 2) bz)[oid Hp.length 0]? = some (AObj.cells 3 [A3 (Fo 0 ((Bs 1 e).take k))]):=by rw [Bh (Bv (by decide))];exact hA0
  refine Jy ?_;refine Gf ?_
  refine A5 (h:=B8 hA) (hr:=?_)
  refine A5 ?_;refine R.maxI ?_
  refine Cq jS hA ?_ ?_
  ·simp
  refine Z91 ?_
  subst hbz
  refine zz ?_
  refine ⟨rfl,?_⟩
  rw [if_pos rfl]
  subst hV
  simp only [Ax,Cp,Dk,D9,List.set_cons_succ,List.set_cons_zero]
  rw [ABd hit]
 intro r H' hq
 obtain rfl:=rm hq
 refine ⟨Hp,_,_,_,rfl,rfl,fun h=>h,?_,rfl,by simp,?_⟩
 ·intro o ho
  have:o=oid Hp.length 1:=by simpa using ho
  subst this
  rw [As]
  rfl
 refine Z12 ?_;refine Z1 ?_;refine Z4 ?_;exact A8 (Ak A9) ⟨by rw [Lq,Ux],rfl⟩

theorem APa (n:Nat) (e:Expr) (hok:okE n e) (hn:n≤1048576) (hs:sizeE e≤1048576) (Hp:List AObj):AFun Tryz.prog 157 [A7 e] Hp (A3 (sizeE e:Nat)):=by
 refine Ae [.tmp 2] [0] Tryz.func157 Tryz.ntmps157 (fun d=>?_)
 refine Z93 ?_;refine Ze ?_;refine A2 [1,3] ?_;refine Z54 ?_
 refine Jx (fun hlow=>?_)
 refine AI1 ?_;refine A2 [3,5] ?_;refine Jy ?_
 refine L0 (m:=1) Tryz.call173 (fun FR as' bd' hFR has hbd=>?_)
 have hFRl:∀s,Low (Hp.length+3) (FR s):=by
  intro s
  rw [hFR]
  refine M3 ?_
  revert s
  repeat (first|exact Bc|refine Bb (by simp [oid,Ah]<;>try omega) ?_)
 have hOl:∀{k:Nat},∀x∈[AObj.cells 3 [A3 ((k:Nat))],AObj.defs,AObj.loop LoopState.ready none FR 11 #[6,7] as' bd' (oid Hp.length 1)],ObjLow (Hp.length+3) x:=by
  intro k x hx
  simp only [B4,E2,or_false] at hx
  rcases hx with rfl|rfl|rfl
  ·intro y hy
   rw [B7.1 hy]
   first|exact bf|simp
  ·trivial
  exact zx
 refine ⟨fun _ H'=>Mg (fun _=>true) (fun k=>Hp++[AObj.cells 3 [A3 ((k:Nat))],AObj.defs,AObj.loop LoopState.ready none FR 11 #[6,7] as' bd' (oid Hp.length 1)]) (fun k=>Hp++[AObj.cells 3 [A3 ((k:Nat))],AObj.defs,AObj.loop LoopState.ready none FR 11 #[6,7] as' bd' (oid Hp.length 1)]) (Bs 1 e).length H',AIk (l:=oid Hp.length 2) (go:=fun _=>true) (U:=fun k=>Hp++[AObj.cells 3 [A3 ((k:Nat))],AObj.defs,AObj.loop LoopState.ready none FR 11 #[6,7] as' bd' (oid Hp.length 1)]) (F:=fun k=>Hp++[AObj.cells 3 [A3 ((k:Nat))],AObj.defs,AObj.loop LoopState.ready none FR 11 #[6,7] as' bd' (oid Hp.length 1)]) (n0:=Hp.length+3) ⟨fun k=>by simp,fun k=>by simp,fun k x hx=>?_,fun k x hx=>?_,by simp [oid],fun X k it hit hgo=>?_⟩ n hok hn,?_⟩
 ·exact zy
 ·exact zy
 ·have hklt:k<sizeE e:=by rw [←Gz 1 e];exact (Ad.1 hit).1
  generalize hV:(Hp++[AObj.cells 3 [A3 ((k:Nat))],AObj.defs,AObj.loop LoopState.ready none FR 11 #[6,7] as' bd' (oid Hp.length 1)]++X)=V
  have hL:V[oid Hp.length 2]? = some (AObj.loop LoopState.ready none FR 11 #[6,7] as' bd' (oid Hp.length 1)):=by rw [←hV,Ax,As];rfl
  have hA0:V[oid Hp.length 0]? = some (AObj.cells 3 [A3 ((k:Nat))]):=by rw [←hV,Ax,As];rfl
  refine Iy (pd:=none) (fr:=FR) (sz:=11) (ps:=#[6,7]) (df:=oid Hp.length 1) (asg:=as') (bd:=bd') hL rfl (by decide) (fun d=>?_)
  subst hFR has hbd
  refine Fd [3,6,7] ?_;refine Mw ?_
  refine ⟨rfl,none,hL,?_⟩
  generalize hbz:(AObj.loop LoopState.busy _ _ _ _ _ _ _)=bz
  have hA:(V.set (oid Hp.length 2) bz)[oid Hp.length 0]? = some (AObj.cells 3 [A3 ((k:Nat))]):=by rw [Bh (Bv (by decide))];exact hA0
  refine Jy ?_;refine Gf ?_
  refine A5 (h:=B8 hA) (hr:=?_)
  refine A5 ?_
  refine Cq jS hA ?_ ?_
  ·simp
  refine Z91 ?_
  subst hbz
  refine zz ?_
  refine ⟨rfl,?_⟩
  rw [if_pos rfl]
  subst hV
  simp only [Ax,Cp,Dk,D9,List.set_cons_succ,List.set_cons_zero]
  rfl
 intro r H' hq
 obtain rfl:=rm hq
 refine ⟨Hp,_,_,_,rfl,rfl,fun h=>h,?_,rfl,by simp,?_⟩
 ·intro o ho
  have:o=oid Hp.length 1:=by simpa using ho
  subst this
  rw [As]
  rfl
 refine Z12 ?_;refine Z1 ?_;refine Z4 ?_;exact A8 (Ak A9) ⟨by rw [Gz],rfl⟩

theorem Xr {l:List Tok} (hl:TokEnd l) (hll:l.length≤1048576) {i:Nat} (hi:i<l.length):Fact l ⟨i,0,0,0⟩ (atR l i):=(U4 hl hll 31 0 rfl (by decide)).1 ⟨i,0,0,0⟩ hi rfl
theorem AIs {l:List Tok} {i:Nat} (hi:i<l.length) (hl:TokEnd l) (hll:l.length≤1048576) (hcl:∀n Dv,n≤30→DeepC l Dv n→ju l Dv n) (o:Nat) (Hp:List AObj) (ho:Hp[o]? = some (pr l ⟨i,0,0,0⟩)):ACall Tryz.prog 154 [.ptr o 0] Hp (fun r H'=>r=A7 (atR l i).1∧H'=Hp.set o (pr l (atR l i).2)):=(jv hl hll hcl 31 0 rfl (by decide)).1 o Hp ⟨i,0,0,0⟩ ho hi rfl
theorem jx {l:List Tok} (hl:TokEnd l):(Af l (l.length-1)).kind=0:=by
 obtain ⟨L,z,rfl,hz,_⟩:=hl.split
 unfold Af
 simp [hz]
theorem AMm (l:List Tok) (i:Nat) (hi:i<l.length) (hl:TokEnd l) (hll:l.length≤500000) (hcl:∀n Dv,n≤30→DeepC l Dv n→ju l Dv n) (Hp:List AObj):AFun Tryz.prog 120 [qt l,A3 (i:Int)] Hp (.tup [A7 (atM l i).1,A3 (atM l i).2.1,.agg [A3 (atM l i).2.2.1,A3 (atM l i).2.2.2]]):=by
 have hmap:(l.map I1).length=l.length:=Ao ..
 have hll1:l.length≤1048576:=by omega
 have hq:=Xr hl hll1 hi
 have hlast:=jx hl
 have hpos:=hl.pos
 have hqlt:=hq.lt
 have hqs:=hq.sz
 have hok0:okE 1048576 (atR l i).1:=Hc (by have:=hq.lt;omega) hq.ok
 have hsz0:sizeE (atR l i).1≤1048576:=by have:=hq.sz;have:=hq.lt;omega
 refine Ae [.cell 4 27,.tmp 5,.cell 6 73] [0,1] Tryz.func120 Tryz.ntmps120 (fun d=>?_)
 refine im ?_;refine R0 ?_;refine A2 [0,1,4,6] ?_;refine Z31 ?_;refine Pw ?_;refine Z77 ?_
 refine Cd (h:=Ai ((l.length-1)) (I1 (Af l (l.length-1))) (fun _=>M7 (by omega))) (hr:=?_)
 refine Z6 ?_;refine Z48 ?_;refine A2 [0,1,4,6,26] ?_
 refine A4 (fun ht26=>?_) (fun ht26=>?_)
 ·simp only [Dq,decide_eq_true_eq,bne_iff_ne,ne_eq] at ht26
  rcases ht26 with (h|h)|h
  ·omega
  ·simp at h;omega
  exact absurd hlast h
 refine Z98 ?_;refine Ob (places:=#[(0,1),(1,1),(2,1),(3,2)]) jU (fun w=>by simp) jZ ?_;refine R.box ?_;refine A5 ?_;refine A2 [0,1,4,6,7] ?_;refine Z2 ?_
 refine Tg (n:=2) (x:=pr l (atR l i).2) Tryz.call154 (AIs hi hl hll1 hcl (oid Hp.length 2) _ (by rw [As];rfl)) ?_
 refine Z14 ?_;refine A2 [0,1,4,6,7,8] ?_
 refine Qv ⟨81,A6 4 (.ptr (oid Hp.length 0) 0) (A6 6 (.ptr (oid Hp.length 1) 0) (A6 7 (.ptr (oid Hp.length 2) 0) (A6 8 (.ptr (oid Hp.length 3) 0) (fun _=>.any)))),Hp,[.cells 27 [A3 0,Ac [],A3 0,A3 0,Ac [],.nil],.cells 73 [A3 0,A3 0],pr l (atS l i (atR l i)),.cells 27 (E4 (atR l i).1)],[],none⟩ ?_ ?_
 ·refine Jy ?_;refine Z23 ?_;refine Z13 ?_;refine A2 [0,1,4,6,7,8,35] ?_
  refine A4 (fun ht35=>?_) (fun ht35=>?_)
  ·have e:atS l i (atR l i)=(atR l i).2:=if_pos ht35
   refine Fd [4,6,7,8] ?_;refine uh ?_;exact ADt
  have e0:¬((atR l i).2.code != 0)=true:=by rw [ht35];simp
  refine Z2 ?_;refine Aa Tryz.call155 (AP9 1048576 _ hok0 (Am _) hsz0 _) ?_;refine Z0 ?_;refine A2 [0,1,4,6,7,8,42] ?_
  refine A4 (fun ht42=>?_) (fun ht42=>?_)
  ·have e:atS l i (atR l i)=Ex 18 (Af l i).at_ (atR l i).2:=by unfold atS;rw [if_neg e0,if_pos ht42]
   refine Z49 ?_
   refine A5 (h:=Ai (i) (I1 (Af l i)) (fun _=>M7 hi)) (hr:=?_)
   refine Z0 ?_
   refine Tg (n:=2) (x:=pr l (Ex 18 (Af l i).at_ (atR l i).2)) Tryz.call156 (vr l (atR l i).2 18 (Af l i).at_ (oid Hp.length 2) _ (by rw [As];rfl)) ?_
   refine A2 [4,6,7,8] ?_;refine M4 ?_;exact ADt
  have e1:¬decide ((30:Int)<depthE (atR l i).1)=true:=by rw [ht42];simp
  refine Z2 ?_;refine Aa Tryz.call157 (APa 1048576 _ hok0 (Am _) hsz0 _) ?_;refine Z0 ?_;refine A2 [0,1,4,6,7,8,53] ?_
  refine A4 (fun ht53=>?_) (fun ht53=>?_)
  ·have e:atS l i (atR l i)=Ex 3 (Af l i).at_ (atR l i).2:=by unfold atS;rw [if_neg e0,if_neg e1,if_pos ht53]
   refine Z49 ?_
   refine A5 (h:=Ai (i) (I1 (Af l i)) (fun _=>M7 hi)) (hr:=?_)
   refine Z0 ?_
   refine Tg (n:=2) (x:=pr l (Ex 3 (Af l i).at_ (atR l i).2)) Tryz.call156 (vr l (atR l i).2 3 (Af l i).at_ (oid Hp.length 2) _ (by rw [As];rfl)) ?_
   refine A2 [4,6,7,8] ?_;refine M4 ?_;exact ADt
  have e:atS l i (atR l i)=(atR l i).2:=by unfold atS;rw [if_neg e0,if_neg e1,if_neg (by rw [ht53];simp)]
  refine Fd [4,6,7,8] ?_;refine uh ?_;exact ADt
 refine Z7 ?_;refine Z57 ?_;refine A2 [4,6,7,8,69] ?_
 refine A4 (fun ht69=>?_) (fun ht69=>?_)
 ·have e:atM l i=(Au,0,(atS l i (atR l i)).code,(atS l i (atR l i)).at_):=if_pos ht69
  refine Fc [0,0,2,6,14,1,33,127] [5] [.q 5 [] [],.s [] (some 0) [] [],.q 1 [0] []] (fun _=>Hp) (fun _=>[.cells 27 [A3 0,Ac [],A3 0,A3 0,Ac [],.nil],.cells 73 [A3 0,A3 0],pr l (atS l i (atR l i)),.cells 27 (E4 (atR l i).1)]) Aj (by kernel_rfl) rfl rfl (fun _=>rfl) ?_
  apply Y.q
  ·intro B hT hF
   refine D.build (places:=#[(0,1),(1,1),(2,3),(5,1)]) jU (fun w=>by simp) jZ ?_;exact ij
  case hTF=>decide
  refine Y.storeOwn (u:=Hp.length) (n:=0) (t':=27) (cs:=[A3 0,Ac [],A3 0,A3 0,Ac [],.nil]) (cs':=[A3 0,Ac [],A3 0,A3 0,Ac [],.nil]) Tryz.sizeOf27 (fun B hB=>⟨rfl,rfl,rfl,rfl⟩) ?_
  apply Y.q
  ·intro B hT hF
   exact Z55
  case hTF=>decide
  refine Ed (tn:=[5])  ?_;refine Gw 0 5 6 ?_;refine Fw ?_;refine A2 [4,5,6] ?_;refine Z34 ?_;exact A8 (V.three (B3 jA jS) A9 (B3 jA jS)) ⟨by rw [e,ABc]<;>rfl,rfl⟩
 have e:atM l i=((atR l i).1,((atS l i (atR l i)).i:Int),0,0):=if_neg (by rw [ht69];simp)
 refine Z3 ?_;refine Fc [0,0,2,6,14,0,1,95,255] [6] [.q 6 [] [],.s [] (some 0) [] [],.q 1 [0] []] (fun _=>Hp) (fun B=>[.cells 27 (if B 0=true then E4 (atR l i).1 else [A3 0,Ac [],A3 0,A3 0,Ac [],.nil]),.cells 73 [A3 0,A3 0],pr l (atS l i (atR l i)),.cells 27 (E4 (atR l i).1)]) Aj (by kernel_rfl) rfl rfl (fun _=>rfl) ?_
 apply Y.q
 ·intro B hT hF
  refine Z8 ?_;refine Z33 ?_;exact AKh
 case hTF=>decide
 refine Y.storeOwn (u:=Hp.length) (n:=0) (t':=27) (cs:=[A3 0,Ac [],A3 0,A3 0,Ac [],.nil]) (cs':=E4 (atR l i).1) Tryz.sizeOf27 (fun B hB=>⟨rfl,by simp only [hB];rfl,by simp [upd],rfl⟩) ?_
 apply Y.q
 ·intro B hT hF
  exact Z55
 case hTF=>decide
 refine Ed (tn:=[6]) (O:=[.cells 27 (E4 (atR l i).1),.cells 73 [A3 0,A3 0],pr l (atS l i (atR l i)),.cells 27 (E4 (atR l i).1)]) ?_;refine Fw ?_;refine A2 [4,5,6] ?_;refine Fs ?_;exact A8 (V.three (B3 jA jS) A9 (B3 jA jS)) ⟨by rw [e,Al]<;>rfl,rfl⟩ (hlow:=by have:=low_agg (n:=Hp.length) (atR l i).1;simp at this ⊢;exact this)

theorem rn {s:Str} (h:(Bd s).2.1=0):(Bd s).1.length≤4002:=by
 obtain ⟨h1,_,h3⟩:=AEo h
 have h2:=X3 s
 rw [h3]
 simp only [Av,Ao,Bi,Cb]
 omega
theorem fk {l:List Tok} (hl:TokEnd l) (hll:l.length≤1048576) {i:Nat} (hi:i<l.length) (h:(atM l i).2.2.1=0):∃k:Nat,(atM l i).2.1=(k:Int)∧k<l.length:=by
 have hq:=Xr hl hll hi
 unfold atM at h ⊢
 split at h
 ·rename_i h1
  have:(atS l i (atR l i)).code=0:=h
  rw [this] at h1
  cases h1
 rename_i h1
 rw [if_neg h1]
 refine ⟨(atS l i (atR l i)).i,rfl,?_⟩
 have e:(atS l i (atR l i)).i=(atR l i).2.i:=by
  unfold atS
  repeat' split
  all_goals first|rfl|exact failM_i.1
 rw [e]
 exact hq.lt
theorem Q9 {α:Type} {a b:List α} (hl:a.length=b.length) (h:∀(j:Nat) (y:α),j<a.length→a[j]? = some y→b[j]? = some y):a=b:=by
 apply ma hl
 intro j h1 h2
 have:=h j a[j] h1 (Ab h1)
 rw [Ab h2] at this
 injection this with this
 exact this.symm
theorem D3 {n k:Nat} {o:Bool} {l:List Expr}:Low n (.slice o k (l.map A7)):=low_slice.2 fun y hy=>by
 obtain ⟨a,_,rfl⟩:=C2.1 hy
 exact Ah _ a
theorem vw {l:List Expr} {n f:Nat} (h0:l.isEmpty=false) (h:Q7 l n=true):Hg f l n=true:=by
 cases f with
 | zero=>rw [Hg,h0];rfl
 | succ f=>rw [Hg,if_neg (by rw [h0];simp),if_pos h]
theorem AF3 {l:List Expr} {n y:Nat} (hy:y<l.length) (h:500<n+y+1∨U0 l[y]=true):Q7 l n=true:=by
 unfold Q7
 rcases h with h|h
 ·rw [decide_eq_true (by omega)];rfl
 rw [H9.2 ⟨_,Be hy,h⟩,Kq]
theorem Xs {l:List Expr}:∀(y:Nat),y≤l.length→(∀(j:Nat) (e:Expr),j<y→l[j]? = some e→U0 e=false)→((l.take y).flatMap Expr.kids).length≤100*y
 | 0,_,_=>by simp
 | y+1,hy,h=>by
  rw [J8 hy,List.flatMap_append,Av]
  have h1:=Xs y (by omega) (fun j e hj he=>h j e (by omega) he)
  have h2:=fg (h y l[y] (by omega) (Ab _))
  simp only [cx,List.flatMap_nil,Gs]
  omega
structure WideAt (l0:List Expr) (x:List Expr×Nat×Nat):Prop where
 eq:Hg 61 l0 0=Hg x.2.2 x.1 x.2.1
 f:x.2.2≤61
 n:x.2.1≤500
theorem c73 (l0:List Expr) (Hp:List AObj):AFun Tryz.prog 73 [.slice false 6 (l0.map A7),A3 0] Hp (Az (Hg 61 l0 0)):=by
 refine Ae [.tmp 4] [0,1] Tryz.func73 Tryz.ntmps73 (fun d=>?_)
 refine Z36 ?_;refine Z2 ?_;refine Vg ?_;refine Jw ?_
 refine Bf (α:=List Expr×Nat×Nat) (fun x=>⟨67,A6 0 (.slice false 6 (x.1.map A7)) (A6 1 (A3 (61-(x.2.2:Int))) (A6 5 (A3 (x.2.1:Nat)) (fun _=>.any))),Hp,[],[],none⟩) (fun x=>WideAt l0 x) (fun x=>x.2.2) ((l0,0,61)) ⟨rfl,Am _,Ar _⟩ (Bj (by simp)) rfl (fun x hx=>?_)
 refine Z31 ?_;refine A2 [0,1,5,10] ?_
 refine A4 (fun ht10=>?_) (fun ht10=>?_)
 ·have hpos:0<x.1.length:=by simpa using ht10
  have hne:x.1.isEmpty=false:=by cases hxx:x.1 with
   | nil=>rw [hxx] at hpos;simp at hpos
   | cons a r=>rfl
  have hxf:=hx.f
  refine zv ?_;refine Z42 ?_;refine Jv ?_;refine A2 [0,1,5,6] ?_;refine Z30 ?_;refine A2 [0,1,5,6,7] ?_
  refine Bf (α:=Nat) (fun y=>⟨67,A6 0 (.slice false 6 (x.1.map A7)) (A6 1 (A3 (61-(x.2.2:Int))) (A6 5 (A3 ((x.2.1+y:Nat):Int)) (A6 6 (.slice true 6 (((x.1.take y).flatMap Expr.kids).map A7)) (A6 7 (A3 (y:Nat)) (fun _=>.any))))),Hp,[],[],none⟩) (fun y=>y≤x.1.length∧x.2.1+y≤500∧∀(j:Nat) (e:Expr),j<y→x.1[j]? = some e→U0 e=false) (fun y=>x.1.length-y) (0) ⟨Ar _,hx.n,fun j e h=>by omega⟩ (Bj (by simp)) rfl (fun y hy=>?_)
  refine Z83 ?_;refine A2 [0,1,5,6,7,15] ?_
  refine A4 (fun ht15=>?_) (fun ht15=>?_)
  ·have hlt:y<x.1.length:=by simpa using ht15
   have hyn:=hy.2.1
   refine Oh ?_;refine Z15 ?_;refine A2 [0,1,5,6,7] ?_;refine Z31 ?_;refine Z6 ?_
   refine Cd (h:=Ai (y) (A7 x.1[y]) (fun _=>B6 hlt)) (hr:=?_)
   refine Pw ?_;refine Z35 ?_
   refine Cd (h:=Ai (y) (A7 x.1[y]) (fun _=>B6 hlt)) (hr:=?_)
   refine Z6 ?_;refine Z69 ?_;refine Z35 ?_
   refine Cd (h:=Ai (y) (A7 x.1[y]) (fun _=>B6 hlt)) (hr:=?_)
   refine Pw ?_;refine A5 ?_;refine A2 [0,1,5,6,7,49] ?_
   refine A4 (fun ht49=>?_) (fun ht49=>?_)
   ·have hm:Q7 x.1 x.2.1=true:=AF3 hlt (by
     simp only [Dq,decide_eq_true_eq,Ao] at ht49
     unfold U0
     simp only [Dq,decide_eq_true_eq]
     omega)
    have hw:=vw (f:=x.2.2) hne hm
    refine Z41 ?_;refine C9 ?_;refine Z62 ?_;refine ui ?_;exact AKt
   have hfat:U0 x.1[y]=false∧x.2.1+y+1≤500:=by
    simp only [E1,decide_eq_false_iff_not,Ao] at ht49
    unfold U0
    simp only [E1,decide_eq_false_iff_not]
    omega
   have hkl:=(fg hfat.1).2.2
   have hfm:(x.1.take (y+1)).flatMap Expr.kids=(x.1.take y).flatMap Expr.kids++x.1[y].kids:=by rw [J8 hlt,List.flatMap_append];simp
   refine Z3 ?_;refine ue ?_;refine Z0 ?_
   refine A5 (h:=Ai (y) (A7 x.1[y]) (fun _=>B6 hlt)) (hr:=?_)
   refine Z0 ?_
   refine Ep jU Tryz.type27 ?_ ?_ ?_
   ·have h1:=Xs y hy.1 hy.2.2;have h2:=hkl;have h3:=hy.2.1;simp only [Ao,Tryz.t27];omega
   ·have h1:=Xs y hy.1 hy.2.2;have h2:=hkl;have h3:=hy.2.1;simp only [Ao,Tryz.t27];omega
   refine Jv ?_;refine A2 [0,1,5,6,7] ?_;refine Z12 ?_;refine Z49 ?_;refine A2 [0,1,5,6,7] ?_
   refine Bg (y+1) ⟨hlt,by omega,El hlt hy.2.2 hfat.1⟩ (by omega) (Dn ?_)
   rw [hfm,Bq]
   rfl
  have hye:x.1.take y=x.1:=Eo (by simp at ht15;omega)
  have hyl:y=x.1.length:=by have:=hy.1;simp at ht15;omega
  have hmany:Q7 x.1 x.2.1=false:=by
   unfold Q7
   rw [decide_eq_false (by have:=hy.2.1;omega),F6,I2]
   intro e he
   obtain ⟨j,hj⟩:=C8 he
   rw [hy.2.2 j e (by have:=(Ad.1 hj).1;omega) hj]
   simp
  refine Pu ?_;refine Z7 ?_;refine Z35 ?_;refine A5 ?_;refine A2 [1,5,6,63] ?_
  refine A4 (fun ht63=>?_) (fun ht63=>?_)
  ·have hw:Hg x.2.2 x.1 x.2.1=true:=by
    have h9:=ht63
    rw [hye] at h9
    simp only [Dq,decide_eq_true_eq,Ao] at h9
    cases hf:x.2.2 with
    | zero=>rw [Hg,hne];rfl
    | succ f =>
     rw [Hg,if_neg (by rw [hne];simp),if_neg (by rw [hmany];simp),if_pos (by rw [decide_eq_true_eq];omega)]
   refine Z41 ?_;refine C9 ?_;refine ui ?_;exact AKt
  have h9:=ht63
  rw [hye] at h9
  simp only [E1,decide_eq_false_iff_not,Ao] at h9
  obtain ⟨f,hf⟩:∃f,x.2.2=f+1:=⟨x.2.2-1,by omega⟩
  have hw:Hg x.2.2 x.1 x.2.1=Hg f (x.1.flatMap Expr.kids) (x.2.1+x.1.length):=by
   rw [hf,Hg,if_neg (by rw [hne];simp),if_neg (by rw [hmany];simp),if_neg (by rw [decide_eq_true_eq];omega)]
  refine Z98 ?_;refine Vg ?_;refine Z49 ?_;refine Vg ?_;refine M4 ?_
  refine Bg (x.1.flatMap Expr.kids,x.2.1+x.1.length,f) ⟨hx.eq.trans hw,by show f≤61;omega,by show x.2.1+x.1.length≤500;have:=hy.2.1;omega⟩ (by show f<x.2.2;omega) (Dn ?_)
  rw [hye,hyl]
  congr 4
  simp only [AV.v.injEq,Value.int.injEq,true_and]
  omega
 have hnil:x.1=[]:=by have:=ht10;simp at this;exact this
 refine Pu ?_;refine Z41 ?_;exact A8 (Ak A9) ⟨by rw [hx.eq,hnil];cases x.2.2<;>rfl,rfl⟩

theorem c31 (e:Expr) (Hp:List AObj):AFun Tryz.prog 31 [A7 e] Hp (Az (S8 e)):=by
 refine Ae [.tmp 2] [0] Tryz.func31 Tryz.ntmps31 (fun d=>?_)
 refine Z93 ?_;refine Z2 ?_;refine Tj ?_;refine Aa Tryz.call73 (c73 [e] _) ?_;refine A5 ?_;exact ADw

set_option maxRecDepth 8000
/-! What a tree comes to: eval's model. -/
abbrev Rs:=Val×Int
def De (e:Int):Rs:=(noV,e)
def Zs (s:Str):Val:=⟨2,0,s.take 200⟩
def J4 (x:Int×Int):Rs:=if x.2 != 0 then De x.2 else (⟨1,x.1,[]⟩,0)
def vz (a b:Int):Int×Int:=if decide (af .i64 (Ul .i64 a (IntKind.i64.wrap (a+b))) (Ul .i64 b (IntKind.i64.wrap (a+b)))<0) then (0,4) else (IntKind.i64.wrap (a+b),0)
def Vh (a b:Int):Int×Int:=if decide (af .i64 (Ul .i64 a b) (Ul .i64 a (IntKind.i64.wrap (a-b)))<0) then (0,4) else (IntKind.i64.wrap (a-b),0)
def V1 (a:Int):Int:=if decide (a<0) then IntKind.u64.wrap (0-IntKind.u64.wrap a) else IntKind.u64.wrap a
def Fk:List Val→List Int→Bool
 | _,[]=>true
 | [],_::_=>false
 | v::vs,k::ks=>(v.kind==k)&&Fk vs ks
def Sf (a b:Val):Rs:=if !Fk [a,b] [2,2] then De 10 else if decide ((200:Int)<(a.s.length:Int)+(b.s.length:Int)) then De 3 else (Zs (a.s++b.s),0)
def B9 (r:Rs):Rs:=if (r.2==0)&&(r.1.kind != 0)&&(r.1.kind != 3) then De 10 else r
def Jz (strong:Val) (a b:Rs):Rs:=if ((B9 a).2 != 0) || ((B9 a).1==strong) then B9 a else if (((B9 b).2 != 0) || ((B9 b).1==strong)) || ((B9 a).1.kind != 0) then B9 b else ((B9 a).1,0)
def ifW:Str:=[105,102]
def fl:Str:=[110,118,108]
def Ct:Str:=[105,115,110,117,108,108]
def Gl (t:Str) (a b c:Rs):Rs:=
 if t==ifW then (if (B9 a).2 != 0 then De (B9 a).2 else if (B9 a).1==Io true then b else c)
 else if a.2 != 0 then De a.2 else if t==Ct then (Io (a.1.kind==0),0) else if a.1.kind != 0 then (a.1,0) else b
def Xt (strict:List Val→Rs) (l:List Rs):Rs:=match l.find? (fun q=>q.2 != 0) with|some q=>De q.2|none=>if l.any (fun q=>q.1.kind==0) then (noV,0) else strict (l.map (·.1))
def Sg (c:List Col) (l:List Val) (t:Str):Rs:=if Aw t c<0 then De 9 else (l.getD (Aw t c).toNat noV,0)
def orW:Str:=[111,114]
def AF4:Str:=[97,110,100]
/-- A node, of what its kids come to; what a strict node comes to is a parameter. -/
def La (strict:Int→Str→List Val→Rs) (c:List Col) (l:List Val) (o:Int) (t:Str) (v:Val) (ks:List Rs):Rs:=
 if o==1 then (v,0) else if o==2 then Sg c l t
 else if (o==5)&&(t==orW) then Jz (Io true) (ks.getD 0 (noV,0)) (ks.getD 1 (noV,0))
 else if (o==5)&&(t==AF4) then Jz (Io false) (ks.getD 0 (noV,0)) (ks.getD 1 (noV,0))
 else if (o==6)&&(((t==ifW) || (t==fl)) || (t==Ct)) then Gl t (ks.getD 0 (noV,0)) (ks.getD 1 (noV,0)) (ks.getD 2 (noV,0))
 else Xt (strict o t) ks
mutual
def Lw (strict:Int→Str→List Val→Rs) (c:List Col) (l:List Val):Expr→Rs
 | .mk o t v k=>La strict c l o t v (bg strict c l k)
def bg (strict:Int→Str→List Val→Rs) (c:List Col) (l:List Val):List Expr→List Rs
  | []=>[]
  | e::r=>Lw strict c l e::bg strict c l r
 end
theorem bh (f:Int→Str→List Val→Rs) (c:List Col) (l:List Val):∀k,bg f c l k=k.map (Lw f c l)
 | []=>rfl
 | e::r=>by rw [bg,bh f c l r];rfl
theorem Mk (f:Int→Str→List Val→Rs) (c:List Col) (l:List Val) (e:Expr):Lw f c l e=La f c l e.op e.text e.val (e.kids.map (Lw f c l)):=by cases e;rw [Lw,bh];rfl
def Im (c:List Col) (l:List Val):Bool:=(Ip c&&(l.length==c.length))&&(l.zip c).all fun p=>Ee p.1&&((p.1.kind==0) || (p.1.kind==p.2.kind))
/-- eval.Eval. -/
def bi (f:Int→Str→List Val→Rs) (x:Expr) (c:List Col) (l:List Val):Rs:=if (!(Ay x)) || !(Im c l) then De 1 else Lw f c l x
/-! A tree in a column's place comes to what its value would there. -/
/-! Who is not named plays no part. -/
/-! What a strict node comes to. -/
def Zt (a b:Int):Int×Int:=
 let p:=V1 a*V1 b
 let below:=decide (a<0) != decide (b<0)
 if decide (0<p / 18446744073709551616) || decide ((if below then 9223372036854775808 else 9223372036854775807)<p % 18446744073709551616) then (0,4)
 else if below then (IntKind.i64.wrap (IntKind.u64.wrap (0-p % 18446744073709551616)),0) else (IntKind.i64.wrap (p % 18446744073709551616),0)
def w4 (a b:Int):Int×Int:=if b==0 then (0,5) else if (a == -9223372036854775808)&&(b == -1) then (0,4) else (IntKind.i64.wrap (a.tdiv b),0)
def fm (a b:Int):Int×Int:=if b==0 then (0,5) else if b == -1 then (0,0) else (IntKind.i64.wrap (a.tmod b),0)
def R9 (t:Str) (a b:Int):Int×Int:=if t==[43] then vz a b else if t==[45] then Vh a b else if t==[42] then Zt a b else if t==[47] then w4 a b else fm a b
def Km (t:Str) (c:Int):Bool×Bool:=if t==[61] then (c==0,true) else if t==[33,61] then (c != 0,true) else if t==[60] then (decide (c<0),true) else if t==[60,61] then (decide (c≤0),true) else if t==[62] then (decide (0<c),true) else if t==[62,61] then (decide (0≤c),true) else (false,false)
def Nw (a b:Int):Int:=if decide (a<b) then -1 else if decide (b<a) then 1 else 0
def orI:List Int→Int
 | []=>0
 | a::r=>if a != 0 then a else orI r
def w5 (a b:Val):Int:=if (!(Ee a)) || !(Ee b) then 0 else orI [Nw a.kind b.kind,Nw a.n b.n,Lib.compareBytes a.s b.s]
def Ra (t:Str) (a b:Val):Rs:=if (Km t (w5 a b)).2 then (if a.kind != b.kind then De 10 else (Io (Km t (w5 a b)).1,0)) else if t==[38] then Sf a b else if !Fk [a,b] [1,1] then De 10 else J4 (R9 t a.n b.n)
def Nt (t:Str) (v:Val):Rs:=if (t==[115,116,114])&&(v.kind==1) then (Zs (Lib.itoa v.n),0) else if (t==[108,101,110])&&(v.kind==2) then (⟨1,v.s.length,[]⟩,0) else if (t==[110,117,109])&&(v.kind==2) then J4 (Du v.s) else De 10
def Oz (t:Str) (s:Str) (n:Int):Val:=if t==[108,101,102,116] then Zs (s.take (max 0 (min n s.length)).toNat) else Zs (s.drop (s.length-(max 0 (min n s.length)).toNat))
def Bx (o:Int) (t:Str) (l:List Val):Rs:=
 if o==5 then Ra t (l.getD 0 noV) (l.getD 1 noV) else if (o==3)&&Fk l [1] then J4 (Vh 0 (l.getD 0 noV).n) else if (o==4)&&Fk l [3] then (Io ((l.getD 0 noV).n==0),0)
 else if o != 6 then De 10 else if (l.length:Int)==1 then Nt t (l.getD 0 noV) else if !Fk l [2,1] then De 10 else (Oz t (l.getD 0 noV).s (l.getD 1 noV).n,0)
abbrev Cu (c:List Col) (l:List Val) (e:Expr):Rs:=Lw Bx c l e
abbrev Cx (x:Expr) (c:List Col) (l:List Val):Rs:=bi Bx x c l
/-! Values are plain, and their numbers have 64 bits. -/
structure Fine (v:Val):Prop where
 plain:Ee v=true
 lo : -9223372036854775808≤v.n
 hi:v.n≤9223372036854775807
theorem Pp:Fine noV:=⟨rfl,by decide,by decide⟩
theorem U6 (b:Bool):Fine (Io b):=by cases b<;>exact ⟨rfl,by decide,by decide⟩
theorem jy {n:Int} (h0 : -9223372036854775808≤n) (h1:n≤9223372036854775807):Fine ⟨1,n,[]⟩:=⟨rfl,h0,h1⟩
theorem Xu (s:Str):Fine (Zs s):=⟨by
 unfold Ee Zs
 simp only [show ((2:Int)==0)=false from rfl,show ((2:Int)==1)=false from rfl,show ((2:Int)==2)=true from rfl,Bt,if_false,if_true,show ((0:Int)==0)=true from rfl,Mp,decide_eq_true_eq,Cy]
 omega,by show -9223372036854775808≤(0:Int);decide,by show (0:Int)≤9223372036854775807;decide⟩
theorem Fine.len {v:Val} (h:Fine v):v.s.length≤200:=by
 have h:=h.plain
 unfold Ee at h
 split at h
 ·simp only [At,beq_iff_eq] at h;rw [h.2];exact Ar _
 split at h
 ·rw [beq_iff_eq] at h;rw [h];exact Ar _
 split at h
 ·simp only [At,decide_eq_true_eq] at h;omega
 simp only [At,beq_iff_eq] at h;rw [h.1.1.2];exact Ar _
theorem Rb {x:Int×Int} (h0:x.2=0 → -9223372036854775808≤x.1) (h1:x.2=0→x.1≤9223372036854775807):Fine (J4 x).1:=by
 unfold J4
 split
 ·exact Pp
 rename_i h
 have h:x.2=0:=by simpa using h
 exact jy (h0 h) (h1 h)
theorem Xv (e:Int):Fine (De e).1:=Pp
theorem Nc (n:Int) : -9223372036854775808≤IntKind.i64.wrap n∧IntKind.i64.wrap n≤9223372036854775807:=by rw [IntKind.wrap_i64];omega
theorem ABe (a b:Int):Fine (J4 (Vh a b)).1:=by
 refine Rb (fun _=>?_) (fun _=>?_)<;>unfold Vh<;>split
 ·show -9223372036854775808≤(0:Int);decide
 ·exact (Nc _).1
 ·show (0:Int)≤9223372036854775807;decide
 exact (Nc _).2
theorem jz (t:Str) (a b:Int) : -9223372036854775808≤(R9 t a b).1∧(R9 t a b).1≤9223372036854775807:=by
 have z : -9223372036854775808≤(0:Int)∧(0:Int)≤9223372036854775807:=by decide
 unfold R9
 split
 ·unfold vz;split;exact z;exact Nc _
 split
 ·unfold Vh;split;exact z;exact Nc _
 split
 ·unfold Zt
  simp only
  repeat' split
  all_goals first|exact z|exact Nc _
 split
 ·unfold w4;split;exact z;split;exact z;exact Nc _
 unfold fm;split;exact z;split;exact z;exact Nc _
theorem ABf {t:Str} {a b:Val}:Fine (Ra t a b).1:=by
 unfold Ra
 split
 ·split
  ·exact Zj
  exact U6 _
 split
 ·unfold Sf
  split
  ·exact Zj
  split
  ·exact Zj
  exact Xu _
 split
 ·exact Zj
 exact Rb (fun _=>(jz _ _ _).1) (fun _=>(jz _ _ _).2)
theorem ABg (s:Str) : -9223372036854775808≤(Du s).1∧(Du s).1≤9223372036854775807:=by
 unfold Du
 split
 ·decide
 split
 ·rename_i v h
  have:=Lib.parseIntB_bounds h
  simp only [show ((2 ^ (64-1):Nat):Int)=9223372036854775808 by decide] at this
  show -9223372036854775808≤v∧v≤9223372036854775807
  omega
 ·decide
 decide
theorem ABh {t:Str} {v:Val} (h:Fine v):Fine (Nt t v).1:=by
 unfold Nt
 split
 ·exact Xu _
 split
 ·have:=h.len
  exact jy (by omega) (by omega)
 split
 ·exact Rb (fun _=>(ABg _).1) (fun _=>(ABg _).2)
 exact Zj
theorem k7 {o:Int} {t:Str} {l:List Val} (h:∀v∈l,Fine v):Fine (Bx o t l).1:=by
 have h0:Fine (l.getD 0 noV):=by cases l with|nil=>exact Pp|cons a r=>exact h a Gk
 unfold Bx
 split
 ·exact ABf
 split
 ·exact ABe _ _
 split
 ·exact U6 _
 split
 ·exact Zj
 split
 ·exact ABh h0
 split
 ·exact Zj
 unfold Oz
 split<;>exact Xu _
theorem Rc {r:Rs} (h:Fine r.1):Fine (B9 r).1:=by
 unfold B9
 split
 ·exact Zj
 exact h
theorem Xw {s:Val} {a b:Rs} (ha:Fine a.1) (hb:Fine b.1):Fine (Jz s a b).1:=by
 unfold Jz
 split
 ·exact Rc ha
 split
 ·exact Rc hb
 exact Rc ha
theorem w6 {t:Str} {a b c:Rs} (ha:Fine a.1) (hb:Fine b.1) (hc:Fine c.1):Fine (Gl t a b c).1:=by
 unfold Gl
 repeat' split
 all_goals first|exact Xv _|exact hb|exact hc|exact ha|exact U6 _
theorem ABi {f:List Val→Rs} {l:List Rs} (hf:∀k:List Val,(∀v∈k,Fine v)→Fine (f k).1) (h:∀r∈l,Fine r.1):Fine (Xt f l).1:=by
 unfold Xt
 split
 ·exact Zj
 split
 ·exact Pp
 refine hf _ fun v hv=>?_
 obtain ⟨r,hr,rfl⟩:=C2.1 hv
 exact h r hr
theorem w7 {c:List Col} {l:List Val} (h:∀v∈l,Fine v) (t:Str):Fine (Sg c l t).1:=by
 unfold Sg
 split
 ·exact Zj
 show Fine (l.getD _ noV)
 rw [Bw]
 cases hg:l[(Aw t c).toNat]? with
 | none=>exact Pp
 | some v=>exact h v (B2 hg)
def Sh (e:Expr):Bool := !(e.op==1) || Ee e.val
theorem J5 {k:List Rs} (h:∀r∈k,Fine r.1) (i:Nat):Fine (k.getD i (noV,0)).1:=by
 rw [Bw]
 cases hg:k[i]? with
 | none=>exact Pp
 | some r=>exact h r (B2 hg)
mutual
theorem bj {c:List Col} {l:List Val} (h:∀v∈l,Fine v):∀e:Expr,E0 Sh e=true→E0 Hb e=true→Fine (Cu c l e).1
 | .mk o t v k,h1,h2=>by
  rw [E0,At] at h1 h2
  have hk:=Xx (c:=c) h k h1.2 h2.2
  rw [Cu,Lw]
  unfold La
  split
  ·rename_i ho
   have p:=h1.1
   unfold Sh at p
   rw [show (Expr.mk o t v k).op=o from rfl,ho] at p
   have q:=h2.1
   unfold Hb at q
   simp only [At,decide_eq_true_eq] at q
   exact ⟨by show Ee (Expr.mk o t v k).val=true;simpa using p,q.1,q.2⟩
  split
  ·exact w7 h t
  split
  ·exact Xw (J5 hk 0) (J5 hk 1)
  split
  ·exact Xw (J5 hk 0) (J5 hk 1)
  split
  ·exact w6 (J5 hk 0) (J5 hk 1) (J5 hk 2)
  exact ABi (fun _ hl=>k7 hl) hk
theorem Xx {c:List Col} {l:List Val} (h:∀v∈l,Fine v):∀k:List Expr,Ov Sh k=true→Ov Hb k=true→∀r∈bg Bx c l k,Fine r.1
  | [],_,_=>fun r hr=>by cases hr
  | e::k,h1,h2=>by
    rw [Ov,At] at h1 h2
    intro r hr
    rw [bg] at hr
    rcases B4.1 hr with rfl|hr
    · exact bj h e h1.1 h2.1
    exact Xx h k h1.2 h2.2 r hr
 end
/-! A text between marks. -/
set_option maxRecDepth 4000
theorem k8 {a b:List Expr} (hl:a.length=b.length) (h:∀(j:Nat) (y z:Expr),j<a.length→a[j]? = some y→b[j]? = some z→eqE y z=true):eqL a b=true:=by
 rw [S7]
 refine Q9 hl fun j y hj hy=>?_
 have hjb:j<b.length:=by omega
 have:=h j y b[j] hj hy (Ab hjb)
 rw [Ab hjb,(Vt _ _).1 this]
theorem AIt {a b:List Expr} (h:eqL a b=true) {j:Nat} (hj:j<a.length) (hb:j<b.length):eqE a[j] b[j]=true:=by
 have e:=(S7 _ _).1 h
 subst e
 exact Xg _
theorem ABj {a b:List Expr} {j:Nat} (hj:j<a.length) (hb:j<b.length) (h:eqE a[j] b[j]=false):eqL a b=false:=by
 rw [Jt]
 intro h2
 rw [AIt h2 hj hb] at h
 cases h
theorem rp {a b:List Expr} (h:a.length≠b.length):eqL a b=false:=by
 rw [Jt]
 exact fun h2=>h (AEn h2)
theorem AH5 {a b:List Expr} {x:Nat} (hx:x<a.length) (hb:x<b.length) (h:∀(j:Nat) (y z:Expr),j<x→a[j]? = some y→b[j]? = some z→eqE y z=true) (he:eqE a[x] b[x]=true):∀(j:Nat) (y z:Expr),j<x+1→a[j]? = some y→b[j]? = some z→eqE y z=true:=by
 intro j y z hj h1 h2
 rcases Bk j x with h3|h3
 ·exact h j y z h3 h1 h2
 have:j=x:=by omega
 subst this
 rw [Ab hx] at h1
 rw [Ab hb] at h2
 injection h1 with h1
 injection h2 with h2
 rw [←h1,←h2]
 exact he
def k9 (x y:Expr):Bool:=((x.op==y.op)&&(x.text==y.text))&&((x.val.kind==y.val.kind&&x.val.n==y.val.n)&&x.val.s==y.val.s)
theorem fp (x y:Expr):eqE x y=(k9 x y&&eqL x.kids y.kids):=AAr x y
theorem c27:∀(n:Nat) (x:Expr),okE n x→∀(y:Expr) (Hp:List AObj),AFun Tryz.prog 27 [A7 x,A7 y] Hp (Az (eqE x y)):=by
 intro n
 induction n with
 | zero=>exact fun x h=>h.elim
 | succ n ih =>
 intro x hok y Hp
 refine Ae [.tmp 4] [0,1] Tryz.func27 Tryz.ntmps27 (fun d=>?_)
 refine zm ?_;refine Z83 ?_;refine Z35 ?_;refine Z69 ?_;refine Z77 ?_
 refine Cd (h:=Q.neqAgg Zk (fun w=>Jc x.val.kind x.val.n y.val.kind y.val.n x.val.s y.val.s w)) (hr:=?_)
 refine Z77 ?_;refine Z6 ?_;refine Z48 ?_;refine A2 [2,3,33] ?_
 refine A4 (fun ht33=>?_) (fun ht33=>?_)
 ·have hf:eqE x y=false:=by
   rw [fp]
   simp only [Dq,bne_iff_ne,ne_eq,Ao,Ko] at ht33
   by_cases hh:k9 x y=true
   ·rw [hh,Mp]
    refine rp ?_
    unfold k9 at hh
    simp only [At,beq_iff_eq] at hh
    obtain ⟨⟨h1,h2⟩,⟨h3,h4⟩,h5⟩:=hh
    rcases ht33 with ((h|h)|h)|h
    ·exact absurd h1 h
    ·simp [h2] at h
    ·simp [h3,h4,h5] at h
    intro e;exact h (by rw [e])
   rw [Qf] at hh
   rw [hh,cr]
  refine Z41 ?_;refine C9 ?_;exact AI3
 have hh:k9 x y=true∧x.kids.length=y.kids.length:=by
  simp only [E1,bne_eq_false_iff_eq,Ao,Mo] at ht33
  obtain ⟨⟨⟨h1,h2⟩,h3⟩,h4⟩:=ht33
  unfold k9
  refine ⟨?_,by omega⟩
  simp only [beq_iff_eq,At] at h1 h2 h3 ⊢
  exact ⟨⟨h1,h2⟩,h3⟩
 obtain ⟨hh,hlen⟩:=hh
 have hkl:=hok.2.1
 refine Oi ?_;refine A2 [2,3,5] ?_
 refine Bf (α:=Nat) (fun i=>⟨53,A6 2 (.ro (E4 x)) (A6 3 (.ro (E4 y)) (A6 5 (A3 (i:Nat)) (fun _=>.any))),Hp,[],[],none⟩) (fun i=>i≤x.kids.length∧∀(j:Nat) (a b:Expr),j<i→x.kids[j]? = some a→y.kids[j]? = some b→eqE a b=true) (fun i=>x.kids.length-i) (0) ⟨Ar _,fun j a b h=>by omega⟩ (Kt _) rfl (fun i hi=>?_)
 refine ek ?_;refine A2 [2,3,5,38] ?_
 refine A4 (fun ht38=>?_) (fun ht38=>?_)
 ·have hlt:i<x.kids.length:=by simpa using ht38
  have hly:i<y.kids.length:=by omega
  refine Oh ?_;refine Dt [0,1,0,7,15,0,32,0,224,480,1023,2047] 10 Aj (by kernel_rfl) ?_;refine Z33 ?_
  refine Aq (h:=Ai (i) (A7 x.kids[i]) (fun _=>B6 hlt)) (hr:=?_)
  refine Ti ?_
  refine Aq (h:=Ai (i) (A7 y.kids[i]) (fun _=>B6 hly)) (hr:=?_)
  refine uk ?_;refine Aa Tryz.call27 (ih x.kids[i] (hok.2.2 _ (Be hlt)) y.kids[i] _) ?_;refine A5 ?_;refine A2 [2,3,5,52] ?_
  refine A4 (fun ht52=>?_) (fun ht52=>?_)
  ·have hf:eqE x y=false:=by rw [fp,ABj hlt hly (by simpa using ht52),Bool.and_false]
   refine Z41 ?_;exact AL5
  have he:eqE x.kids[i] y.kids[i]=true:=by simpa using ht52
  refine ef ?_;refine A2 [2,3,5] ?_;exact Bg (i+1) ⟨hlt,AH5 hlt hly hi.2 he⟩ (by omega) (Dn rfl)
 have hxe:x.kids.length≤i:=by simpa using ht38
 refine Pu ?_;refine Z41 ?_;exact A8 (Ak A9) ⟨by rw [fp,hh,k8 hlen (fun j a b hj=>hi.2 j a b (by omega))];rfl,rfl⟩

theorem APb (n:Nat) (a b:List Expr) (ha:a.length≤1048576) (hok:∀y∈a,okE n y) (ih:∀(x:Expr),okE n x→∀(y:Expr) (Hp:List AObj),AFun Tryz.prog 109 [A7 x,A7 y] Hp (Az (eqE x y))) (Hp:List AObj):AFun Tryz.prog 145 [.slice false 6 (a.map A7),.slice false 6 (b.map A7),.fn (.func 109) [] []] Hp (Az (eqL a b)):=by
 refine Ae [.tmp 6] [0,1,2] Tryz.func145 Tryz.ntmps145 (fun d=>?_)
 refine Z2 ?_;refine A2 [0,1,2] ?_;refine ek ?_;refine A2 [0,1,2,14] ?_
 refine A4 (fun ht14=>?_) (fun ht14=>?_)
 ·have hf:eqL a b=false:=rp (by have:=ht14;simp at this;omega)
  refine Z2 ?_;refine ie ?_;exact AI3
 have hlen:a.length=b.length:=by have:=ht14;simp at this;omega
 refine iq ?_;refine A2 [1,2,15,16,17] ?_
 refine Bf (α:=Nat) (fun i=>⟨32,A6 1 (.slice false 6 (b.map A7)) (A6 2 (.fn (.func 109) [] []) (A6 15 (.slice false 6 (a.map A7)) (A6 16 (A3 (a.length:Nat)) (A6 17 (A3 (i:Nat)) (fun _=>.any))))),Hp,[],[],none⟩) (fun i=>i≤a.length∧∀(j:Nat) (y z:Expr),j<i→a[j]? = some y→b[j]? = some z→eqE y z=true) (fun i=>a.length-i) (0) ⟨Ar _,fun j y z h=>by omega⟩ (Bj (by simp)) rfl (fun i hi=>?_)
 refine Z2 ?_;refine A2 [1,2,15,16,17,18] ?_
 refine Cr (fun ht18=>?_) (fun ht18=>?_)
 ·have hlt:i<a.length:=by simpa using ht18
  have hlb:i<b.length:=by omega
  refine Rz ?_
  refine A5 (h:=Ai (i) (A7 a[i]) (fun _=>B6 hlt)) (hr:=?_)
  refine um ?_;refine A2 [1,2,7,8,15,16,17] ?_;refine Z1 ?_
  refine A5 (h:=Ai (i) (A7 b[i]) (fun _=>B6 hlb)) (hr:=?_)
  refine Qw ?_;refine A2 [1,2,8,9,15,16,17] ?_;refine Z15 ?_;refine Mz Tryz.call109 (ih a[i] (hok _ (Be hlt)) b[i] _) ?_;refine A5 ?_;refine A2 [1,2,15,16,17,30] ?_
  refine A4 (fun ht30=>?_) (fun ht30=>?_)
  ·have hf:eqL a b=false:=ABj hlt hlb (by simpa using ht30)
   refine Z2 ?_;refine Z72 ?_;exact AL5
  have he:eqE a[i] b[i]=true:=by simpa using ht30
  refine Z73 ?_;refine A2 [1,2,15,16,17] ?_;refine Bg (i+1) ⟨hlt,AH5 hlt hlb hi.2 he⟩ (by omega) ?_
  exact Di (own:=[]) (fun _=>.refl _) (by repeat (first|exact Bc|refine Bb (by first|exact D3|(simp;done)) ?_)) (by simp) (by simp)
 have hxe:a.length≤i:=by simpa using ht18
 refine n5 ?_;refine Z72 ?_;exact A8 (Ak A9) ⟨by rw [k8 hlen (fun j y z hj=>hi.2 j y z (by omega))],rfl⟩

theorem AIu:∀(n:Nat) (x:Expr),okE n x→∀(y:Expr) (Hp:List AObj),AFun Tryz.prog 109 [A7 x,A7 y] Hp (Az (eqE x y)):=by
 intro n
 induction n with
 | zero=>exact fun x h=>h.elim
 | succ n ih =>
 intro x hok y Hp
 refine Ae [.tmp 4] [0,1] Tryz.func109 Tryz.ntmps109 (fun d=>?_)
 refine zm ?_;refine Z23 ?_;refine Z35 ?_;refine Z69 ?_;refine Z77 ?_
 refine Cd (h:=Qq Zk (fun w=>Jc x.val.kind x.val.n y.val.kind y.val.n x.val.s y.val.s w)) (hr:=?_)
 refine Z77 ?_;refine C3 Tryz.call145 (fun hB=>APb n x.kids y.kids hok.2.1 hok.2.2 ih _) ?_;refine Z0 ?_;refine Z11 ?_;exact A8 (Ak A9) ⟨by rw [AAr],rfl⟩

theorem Xy (o:Int) (t:Str) (v:Val) (k:List Expr):A7 (.mk o t v k)=.agg [A3 o,.v (sv t),A3 v.kind,A3 v.n,.v (sv v.s),.slice false 6 (k.map A7)]:=by rw [Al];rfl
theorem Xz {α β:Type} {f:α→β} {l:List α} {x:Nat} (h:x<l.length):(l.take (x+1)).map f=(l.take x).map f++[f l[x]]:=by rw [J8 h,Bq];rfl
theorem ABk {n:Nat} {x:Expr} {o:Bool} {l:List Expr}:ObjLow n (.cells 27 [A3 x.op,.v (sv x.text),A3 x.val.kind,A3 x.val.n,.v (sv x.val.s),.slice o 6 (l.map A7)]):=by
 show ∀z∈[A3 x.op,AV.v (sv x.text),A3 x.val.kind,A3 x.val.n,AV.v (sv x.val.s),AV.slice o 6 (l.map A7)],Low n z
 intro z hz
 simp only [B4,Ej,or_false] at hz
 rcases hz with rfl|rfl|rfl|rfl|rfl|rfl
 all_goals first|exact D3|simp
theorem APc {α:Type} {P:α→Prop} {a b:α} (h1:P a) (h2:P b):∀x∈[a,b],P x:=by
 intro x hx
 simp only [B4,Ej,or_false] at hx
 rcases hx with rfl|rfl
 ·exact h1
 exact h2
set_option maxRecDepth 8000
/-! Who decides decides: the law's sources, columns and truths. -/
/-! Rows. -/
theorem row_iff {c:List Col} {l:List Val}:Im c l=true↔L2 c=true∧l.length=c.length∧∀(i:Nat) (v:Val) (y:Col),l[i]? = some v→c[i]? = some y→Ee v=true∧(v.kind=0∨v.kind=y.kind):=by
 unfold Im
 rw [At,At,N6,beq_iff_eq,B0,and_assoc]
 refine and_congr_right fun _=>and_congr_right fun hl=>⟨fun h i v y hv hy=>?_,fun h p hp=>?_⟩
 ·have:=h (v,y) (B2 (i:=i) (by rw [Qk];exact ⟨hv,hy⟩))
  simpa using this
 obtain ⟨i,hi⟩:=C8 hp
 rw [Qk] at hi
 have:=h i p.1 p.2 hi.1 hi.2
 simpa using this
/-! Rows that differ in what is not named. -/
/-! Who has a kind comes to it. -/
theorem Rd {t:Str} {n:Nat} (h:Cf t=(n:Int)):(t=[108,101,110]∧n=1)∨(t=[115,116,114]∧n=1)∨(t=[110,117,109]∧n=1)∨(t=Ct∧n=1)∨(t=fl∧n=2)∨(t=[108,101,102,116]∧n=2)∨(t=[114,105,103,104,116]∧n=2)∨(t=ifW∧n=3):=by
 by_cases hm:t∈arityList.map (·.1)
 ·have ha:∀s∈arityList.map (·.1),(s=[108,101,110]∧Cf s=1)∨(s=[115,116,114]∧Cf s=1)∨(s=[110,117,109]∧Cf s=1)∨(s=Ct∧Cf s=1)∨(s=fl∧Cf s=2)∨(s=[108,101,102,116]∧Cf s=2)∨(s=[114,105,103,104,116]∧Cf s=2)∨(s=ifW∧Cf s=3):=by
   have:((arityList.map (·.1)).all fun s=>decide ((s=[108,101,110]∧Cf s=1)∨(s=[115,116,114]∧Cf s=1)∨(s=[110,117,109]∧Cf s=1)∨(s=Ct∧Cf s=1)∨(s=fl∧Cf s=2)∨(s=[108,101,102,116]∧Cf s=2)∨(s=[114,105,103,104,116]∧Cf s=2)∨(s=ifW∧Cf s=3)))=true:=by kernel_rfl
   exact fun s hs=>of_decide_eq_true (B0.1 this s hs)
  have:=ha t hm
  rw [h] at this
  rcases this with ⟨e,h2⟩|⟨e,h2⟩|⟨e,h2⟩|⟨e,h2⟩|⟨e,h2⟩|⟨e,h2⟩|⟨e,h2⟩|⟨e,h2⟩
  ·exact .inl ⟨e,by omega⟩
  ·exact .inr (.inl ⟨e,by omega⟩)
  ·exact .inr (.inr (.inl ⟨e,by omega⟩))
  ·exact .inr (.inr (.inr (.inl ⟨e,by omega⟩)))
  ·exact .inr (.inr (.inr (.inr (.inl ⟨e,by omega⟩))))
  ·exact .inr (.inr (.inr (.inr (.inr (.inl ⟨e,by omega⟩)))))
  ·exact .inr (.inr (.inr (.inr (.inr (.inr (.inl ⟨e,by omega⟩))))))
  exact .inr (.inr (.inr (.inr (.inr (.inr (.inr ⟨e,by omega⟩))))))
 have h1:Cf t = -1:=by
  unfold Cf
  rw [O1.2 fun p hp=>by
   simp only [beq_iff_eq]
   rintro rfl
   exact hm (C2.2 ⟨p,hp,rfl⟩)]
 omega
theorem fq {k:List Expr} (h:k.length=2):∃a b,k=[a,b]:=by match k,h with|[a,b],_=>exact ⟨a,b,rfl⟩
/-! The print of a tree, and its words. -/
/-! What was parsed nests no deeper than may be. -/
/-! What nests too deep is told to be too deep. -/
/-! What was parsed is right, where the words are the lexer's. -/
/-! The lexer's words. -/
/-! The parse laws where nothing is too deep. -/
/-! The parser from a word on, and of a source. -/
/-! Other trees have other words, and other prints. -/
/-! The laws of printing. -/
theorem Re {x:Expr} (h:Fi x=true):E0 Ew x=true:=by
 unfold Fi at h
 rw [At] at h
 exact h.2
set_option maxRecDepth 4000
abbrev xo (own:Bool) (t:Str) (ks:List Expr):AObj:=.cells 27 [A3 6,Ac t,A3 0,A3 0,Ac [],.slice own 6 (ks.map A7)]
theorem AIv {n:Nat} {own:Bool} {t:Str} {ks:List Expr}:ObjLow n (xo own t ks):=by
 show ∀z∈[A3 6,Ac t,A3 0,A3 0,Ac [],AV.slice own 6 (ks.map A7)],Low n z
 intro z hz
 simp only [B4,Ej,or_false] at hz
 rcases hz with rfl|rfl|rfl|rfl|rfl|rfl
 all_goals first|exact D3|simp
theorem AF5:Ek (.agg #[.int .i64 0,.string ⟨#[]⟩,.int .i64 0,.int .i64 0,.string ⟨#[]⟩,.slice none 0 0])=.agg [A3 0,Ac [],A3 0,A3 0,Ac [],.nil]:=rfl
attribute [go_sem] AF5
theorem gA {Hp:List AObj} {o ox:Nat} {z A B:AObj} (ho:Hp[o]? = some z) (hne:ox≠o):((Hp.set o A).set ox B)[o]? = some A:=by rw [List.getElem?_set_ne hne];exact getset ho
theorem gB {Hp:List AObj} {o ox:Nat} {z A B:AObj} (hox:Hp[ox]? = some z):((Hp.set o A).set ox B)[ox]? = some B:=by
 have:=(List.getElem?_eq_some_iff.1 hox).1
 simp [this]
theorem ABl {Hp:List AObj} {o ox:Nat} {A A' B:AObj} (hne:ox≠o):((Hp.set o A).set ox B).set o A'=(Hp.set o A').set ox B:=by rw [List.set_comm _ _ hne,List.set_set]
theorem Rf (ks:List Expr) (x:Expr):ks.map A7++[.agg [.v (.int .i64 x.op),.v (sv x.text),.v (.int .i64 x.val.kind),.v (.int .i64 x.val.n),.v (sv x.val.s),.slice false 6 (x.kids.map A7)]]=(ks++[x]).map A7:=by rw [List.map_append,List.map_cons,List.map_nil,Al x]
theorem APd (l:List Tok) (S:PS) (t:Str) (Dv:Fam) (o ox:Nat) (Hp:List AObj) (hne:ox≠o) (ho:Hp[o]? = some (pr l S)) (hox:Hp[ox]? = some (xo true t [])) (hi:S.i<l.length) (hl:TokEnd l) (hll:l.length≤1048576) (hf:F7 l S.nest Dv.ei) (hcf:PC 154 l Dv.ei S.nest):ACall Tryz.prog 340 [.ptr ox 0,.ro [.ptr o 0]] Hp (fun r H'=>r=A7 (.mk 6 t noV (Iq l Dv.ei S).1)∧H'=(Hp.set o (pr l (Iq l Dv.ei S).2)).set ox (xo true t (Iq l Dv.ei S).1)):=by
 have hoxl:=(List.getElem?_eq_some_iff.1 hox).1
 have hol:=(List.getElem?_eq_some_iff.1 ho).1
 refine ACall.body [.cell 2 27] [0,1] Tryz.func340 Tryz.ntmps340 (fun d=>?_)
 refine Z24 ?_;refine R.fin [0,1,2] ?_
 refine W.drawT [0,1,0,4,3,0,63,127,255,127,639] [1,3] [.q 1 [] [0],.s [4] (some 0) [] [],.q 1 [] [1],.s [6] (some 1) [] [],.q 2 [] []] (fun B=>(Hp.set o (if B 1=true then pr l (Dv.ei S).2 else pr l S)).set ox (if B 0=true then xo false t [] else xo true t [])) (fun _=>[M8]) Aj (by kernel_rfl) (by simp only [Bool.false_eq_true,if_false];rw [Ce ho,Ce hox]) rfl (fun B=>by simp) ?_
 apply Y.q
 ·intro B hT hF
  exact Z55
 case hTF=>decide
 refine Y.loadUpT (o:=ox) (t':=27) (cs:=[A3 6,Ac t,A3 0,A3 0,Ac [],.slice true 6 ([].map A7)]) (cs':=[A3 6,Ac t,A3 0,A3 0,Ac [],.slice false 6 ([].map A7)]) Tryz.isAgg25 (fun B hB=>⟨by simp only [hB];exact gB hox,by simp [upd,List.set_set]<;>rfl,rfl⟩) ?_
 apply Y.q
 ·intro B hT hF
  exact Z55
 case hTF=>decide
 refine Y.callUp (r:=A7 (Dv.ei S).1) (o:=o) (x0:=pr l S) (x:=pr l (Dv.ei S).2) Tryz.call154 (fun B hT hF hB=>⟨by simp only [hB];exact gA ho hne,?_,rfl,Dd,?_⟩) ?_
 ·simp only [upd,hB,Nat.reduceEqDiff,if_false,if_true,Bool.false_eq_true]
  exact (ABl hne).symm
 ·simp only [hB]
  exact hcf o _ S (Ag (gA ho hne)) hi rfl
 apply Y.q
 ·intro B hT hF
  exact mv
 case hTF=>decide
 refine Y.appendPut (tn:=[1,3]) (U:=(Hp.set o (pr l (Dv.ei S).2)).set ox (xo false t [])) (O:=[M8]) (o:=ox) (t':=27) (cs:=[A3 6,Ac t,A3 0,A3 0,Ac [],.slice false 6 ([].map A7)]) (by kernel_rfl) jU Tryz.type27 Tryz.sizeOf27 Tryz.sizeOf25 jU (Ag (gB hox)) ?_ ?_ ?_ (hfsz:=Tryz.sizeOf25)
 ·simp [Tryz.t27]
 ·simp [Tryz.t27]
 refine R.go ?_
 refine R.storeUpT jS (gB hox) ?_ ?_
 ·first|(rw [Rf];exact D3)|(have:=D3 (n:=((Hp.set o (pr l (Dv.ei S).2)).set ox (xo false t [])).length) (k:=6) (o:=true) (l:=[(Dv.ei S).1]);simp only [List.map_cons,List.map_nil,Al] at this;exact this)
 refine R.fin [0,1,2] ?_;refine W.seq ?_
 refine AW.loopC (α:=List Expr×PS) (fun r=>⟨34,A6 0 (.ptr ox 0) (A6 1 (.ro [.ptr o 0]) (A6 2 (.ptr (oid Hp.length 0) 0) (fun _=>.any))),(Hp.set o (pr l r.2)).set ox (xo true t r.1),[M8],[],none⟩) (fun r=>ArgsAt l Dv.ei S r) (fun r=>l.length-r.2.i) (([(Dv.ei S).1],(Dv.ei S).2)) (.start (hf S hi rfl)) (StLe.of_eq (by simp [List.set_set,xo,Al])) rfl (fun r hx=>?_)
 refine Z83 ?_
 refine R.go (h:=Q.loadUp (gA ho hne)) (hr:=?_)
 refine Qx ?_;refine G.call Tryz.call232 (fun hB=>jt l r.2 Xk o _ (Ag (gA ho hne)) hx.fact.lt hl (by decide)) ?_;refine R.go ?_;refine R.fin [0,1,2,21] ?_
 refine W.cond (fun ht21=>?_) (fun ht21=>?_)
 ·have hon:=hx.on hl ht21 hf
  have hle:=hon.2.1.le
  have hlt0:=hx.fact.lt
  refine zv ?_;refine Z2 ?_;refine R.callUp Tryz.call233 (gA ho hne) (by simp) Dd (ABa l r.2 o _ (Ag (gA ho hne)) hx.fact.lt hll) ?_;refine R.fin [0,1,2] ?_
  refine W.drawT0 [0,1,0,4,3,0,63,127,255,127,639] [1,3] [.q 1 [] [0],.s [25] (some 0) [] [],.q 1 [] [1],.s [27] (some 1) [] [],.q 2 [] []] (fun B=>(Hp.set o (if B 1=true then pr l (Dv.ei (Ap r.2)).2 else pr l (Ap r.2))).set ox (if B 0=true then xo false t r.1 else xo true t r.1)) (fun _=>[M8]) Aj (by kernel_rfl) (by simp only [Bool.false_eq_true,if_false];exact (ABl hne).symm) rfl (fun B=>by simp) ?_
  apply Y.q
  ·intro B hT hF
   exact Z55
  case hTF=>decide
  refine Y.loadUpT (o:=ox) (t':=27) (cs:=[A3 6,Ac t,A3 0,A3 0,Ac [],.slice true 6 (r.1.map A7)]) (cs':=[A3 6,Ac t,A3 0,A3 0,Ac [],.slice false 6 (r.1.map A7)]) Tryz.isAgg25 (fun B hB=>⟨by simp only [hB];exact gB hox,by simp [upd,List.set_set]<;>rfl,rfl⟩) ?_
  apply Y.q
  ·intro B hT hF
   exact Z55
  case hTF=>decide
  refine Y.callUp (r:=A7 (Dv.ei (Ap r.2)).1) (o:=o) (x0:=pr l (Ap r.2)) (x:=pr l (Dv.ei (Ap r.2)).2) Tryz.call154 (fun B hT hF hB=>⟨by simp only [hB];exact gA ho hne,?_,rfl,Dd,?_⟩) ?_
  ·simp only [upd,hB,Nat.reduceEqDiff,if_false,if_true,Bool.false_eq_true]
   exact (ABl hne).symm
  ·simp only [hB]
   exact hcf o _ (Ap r.2) (Ag (gA ho hne)) hon.1 hx.fact.nest
  apply Y.q
  ·intro B hT hF
   exact mv
  case hTF=>decide
  refine Y.appendPut (tn:=[1,3]) (U:=(Hp.set o (pr l (Dv.ei (Ap r.2)).2)).set ox (xo false t r.1)) (O:=[M8]) (o:=ox) (t':=27) (cs:=[A3 6,Ac t,A3 0,A3 0,Ac [],.slice false 6 (r.1.map A7)]) (by kernel_rfl) jU Tryz.type27 Tryz.sizeOf27 Tryz.sizeOf25 jU (Ag (gB hox)) ?_ ?_ ?_ (hfsz:=Tryz.sizeOf25)
  ·have:=hx.fact.len;have:=hx.fact.lt;simp only [List.length_map,Tryz.t27];omega
  ·have:=hx.fact.len;have:=hx.fact.lt;simp only [List.length_map,Tryz.t27];omega
  refine R.go ?_
  refine R.storeUpT jS (gB hox) ?_ ?_
  ·first|(rw [Rf];exact D3)|(have:=D3 (n:=((Hp.set o (pr l (Dv.ei S).2)).set ox (xo false t [])).length) (k:=6) (o:=true) (l:=[(Dv.ei S).1]);simp only [List.map_cons,List.map_nil,Al] at this;exact this)
  refine R.fin [0,1,2] ?_;refine K.blN ?_
  refine K.lpN (r.1++[(Dv.ei (Ap r.2)).1],(Dv.ei (Ap r.2)).2) hon.2.2 (by show l.length-(Dv.ei (Ap r.2)).2.i<l.length-r.2.i;have:r.2.i+1≤(Dv.ei (Ap r.2)).2.i:=hle;omega) (StCut.of_eq ?_)
  simp only [show Tryz.t27.size=6 from rfl,Rf,List.set_set]
 have hout:=hx.out (by rw [ht21];simp)
 refine Pu ?_;refine Ez ?_
 refine R.go (h:=Q.loadUpN (gB hox)) (hr:=?_)
 refine Z39 ?_;exact K.fin (V.one (V.cellN jA jS)) ⟨by rw [hout,Xy];rfl,by rw [hout]⟩ (hlow:=by have:=Ah Hp.length (.mk 6 t noV r.1);rw [Xy] at this;simpa using this)

/-- within, with the function that gathers a call's kids. -/
theorem AMn (l:List Tok) (S:PS) (a:Int) (t:Str) (Dv:Fam) (o:Nat) (Hp:List AObj) (A0 A1:AObj) (l0:ObjLow 0 A0) (ho:Hp[o]? = some (pr l S)) (hi:S.i<l.length) (hl:TokEnd l) (hll:l.length≤1048576) (hnl:S.nest≤30) (hd:DeepC l Dv S.nest):
  ACall Tryz.prog 257 [.ptr o 0,A3 a,.fn (.func 340) [] [.ptr (oid Hp.length 2) 0,.ro [.ptr o 0]]] (Hp++[A0,A1,xo true t []]) (fun r H'=>r=A7 (if S.nest=30 then Au else .mk 6 t noV (Uz l a Dv.ei S).1)∧H'=Hp.set o (pr l (Uz l a Dv.ei S).2)++[A0,A1,xo true t (Uz l a Dv.ei S).1]):=by
 have hlt:=(Ad.1 ho).1
 have ho':(Hp++[A0,A1,xo true t []])[o]? = some (pr l S):=Ag ho
 by_cases h30:S.nest=30
 ·refine (AEy l S a 340 [] [.ptr (oid Hp.length 2) 0,.ro [.ptr o 0]] Au (Dp S) o (Hp++[A0,A1,xo true t []]) ((Hp++[A0,A1,xo true t []]).set o (pr l (Dp S))) ho' (by omega) Tryz.call340 (by simp) (getset ho') rfl (fun h=>h) (fun h=>absurd h30 h)).mono fun r H' h=>?_
  have e:Uz l a Dv.ei S=([],Ex 18 a S):=if_pos (by rw [h30];rfl)
  rw [e,if_pos h30]
  obtain ⟨h1,h2⟩:=h.1 h30
  exact ⟨h1,by rw [h2,K9 _ _ hlt]⟩
 have hq:=Xo (S:=Dp S) hl hi (hd.ei h30).1
 refine (AEy l S a 340 [] [.ptr (oid Hp.length 2) 0,.ro [.ptr o 0]] (.mk 6 t noV (Iq l Dv.ei (Dp S)).1) (Iq l Dv.ei (Dp S)).2 o (Hp++[A0,A1,xo true t []]) (Hp.set o (pr l (Iq l Dv.ei (Dp S)).2)++[A0,A1,xo true t (Iq l Dv.ei (Dp S)).1]) ho' (by omega) Tryz.call340 (by simp) (Ag (getset ho)) hq.nest (fun h y hy=>?_) (fun _ own=>?_)).mono fun r H' h=>?_
 ·rw [K9 _ _ hlt] at h
  rcases Ei.1 hy with hy|hy
  ·rcases Ln hy with h1|h1
   ·obtain ⟨i,hi',rfl⟩:=cz h1
    by_cases hio:i=o
    ·subst hio
     have:Hp[i]=pr l S:=by rw [Ab hi'] at ho;injection ho
     rw [this];exact Dd
    refine h _ (d8 _ ?_)
    rw [q8]
    exact ⟨i,by rw [Bh (Ne.symm hio),Ab hi']⟩
   rw [h1];exact Dd
  simp only [B4,Ej,or_false] at hy
  rcases hy with rfl|rfl|rfl
  ·exact h _ (Rn _ (by simp))
  ·exact h _ (Rn _ (by simp))
  exact AIv
 ·have hoid:oid Hp.length 2≠o:=by unfold oid;omega
  have e1:(Hp++[A0,A1,xo true t []]).set o (pr l (Dp S))++own=(Hp.set o (pr l (Dp S))++[A0,A1,xo true t []])++own:=by rw [K9 _ _ hlt]
  rw [e1]
  have g1:((Hp.set o (pr l (Dp S))++[A0,A1,xo true t []])++own)[o]? = some (pr l (Dp S)):=Ag (Ag (getset ho))
  have g2:((Hp.set o (pr l (Dp S))++[A0,A1,xo true t []])++own)[oid Hp.length 2]? = some (xo true t []):=Ag (by
   have:=As (U:=Hp.set o (pr l (Dp S))) (O:=[A0,A1,xo true t []]) (n:=2)
   rw [Dh] at this
   exact this)
  refine (APd l (Dp S) t Dv o (oid Hp.length 2) _ hoid g1 g2 hi hl hll (hd.ei h30).1 (hd.ei h30).2).mono fun r H' h=>⟨h.1,h.2.trans ?_⟩
  rw [Ax,K9 _ _ (by simpa using hlt),Bu]
  have:=Cp (U:=Hp.set o (pr l (Iq l Dv.ei (Dp S)).2)) (O:=[A0,A1,xo true t []]++own) (n:=2) (x:=xo true t (Iq l Dv.ei (Dp S)).1)
  rw [Dh] at this
  rw [this]
  simp
 have e:Uz l a Dv.ei S=((Iq l Dv.ei (Dp S)).1,b9 (Iq l Dv.ei (Dp S)).2):=if_neg (by
  show ¬(((S.nest:Int)==30)=true)
  simp
  omega)
 rw [e,if_neg h30]
 obtain ⟨h1,h2⟩:=h.2 h30
 exact ⟨h1,by rw [h2,K9 _ _ (by simpa using hlt),Bu]⟩
theorem APe (l:List Tok) (S:PS) (Dv:Fam) (t:Tok) (o:Nat) (Hp:List AObj) (ho:Hp[o]? = some (pr l S)) (hi:(Ap S).i<l.length) (hl:TokEnd l) (hll:l.length≤1048576) (hnl:S.nest≤30) (hd:DeepC l Dv S.nest):ACall Tryz.prog 338 [.ptr o 0,I1 t] Hp (fun r H'=>r=A7 (Ir l Dv t S).1∧H'=Hp.set o (pr l (Ir l Dv t S).2)):=by
 have hi0:S.i<l.length:=by have:S.i+1<l.length:=hi;omega
 have hol:=(Ad.1 ho).1
 have hkf:KFact l (Ap S) (E8 l Dv S):=Xp hl _ hi (fun h=>(hd.ei h).1)
 refine Ae [.cell 4 27] [0,1] Tryz.func338 Tryz.ntmps338 (fun d=>?_)
 refine Z1 ?_;refine R0 ?_;refine A2 [2,3,4] ?_;refine Z1 ?_;refine Aa Tryz.call176 (AIe t.text _) ?_;refine A5 ?_;refine A2 [2,3,4,5] ?_;refine Z7 ?_;refine A2 [2,3,4,5,12] ?_
 refine A4 (fun ht12=>?_) (fun ht12=>?_)
 ·have hlt0:Cf t.text<0:=by simpa using ht12
  have e:Ir l Dv t S=(Au,Ex 9 t.at_ S):=if_pos hlt0
  refine Z15 ?_;refine Ch Tryz.call156 ho (by simp) Dd (vr l S 9 t.at_ o _ (Ag ho)) ?_;refine Fw ?_;refine Z11 ?_;exact Z84
 have hge:¬Cf t.text<0:=by simpa using ht12
 refine Qz ?_;refine Ch Tryz.call233 ho (by simp) Dd (ABa l S o _ (Ag ho) hi0 hll) ?_;refine Z14 ?_;refine A2 [2,3,4,5,6] ?_;refine AHl ?_;refine Z14 ?_;refine A2 [2,3,4,5,6,7] ?_;refine Ez ?_;refine Gw 2 5 6 ?_;refine Z13 ?_;refine Ia ?_
 refine Gv (up':=(Hp.set o (pr l (Ap S))).set o (pr l (E8 l Dv S).2)) (own':=[M8,.cells 118 [A3 (Af l S.i).kind,Ac (Af l S.i).text,A3 (Af l S.i).at_],xo true t.text (E8 l Dv S).1]) Tryz.call257 (by have:=AMn l (Ap S) (Af l S.i).at_ t.text Dv o (Hp.set o (pr l (Ap S))) M8 (.cells 118 [A3 (Af l S.i).kind,Ac (Af l S.i).text,A3 (Af l S.i).at_]) fj (getset ho) hi hl hll hnl hd;rw [Dh] at this;exact this) (by simp) (fun h=>AF0 h Dd) ?_
 refine A2 [2,3,4,5,7] ?_;refine Z2 ?_;refine Ch Tryz.call339 (getset (getset ho)) (by simp) Dd (AMl l (E8 l Dv S).2 Fy o _ (Ag (getset (getset ho))) hkf.lt hll) ?_;refine A2 [2,3,4,5,7] ?_;refine Z83 ?_
 refine A5 (h:=B8 (getset (getset (getset ho)))) (hr:=?_)
 refine Z77 ?_;refine Z48 ?_;refine A2 [2,3,4,7,41] ?_
 refine A4 (fun ht41=>?_) (fun ht41=>?_)
 ·have e:Ir l Dv t S=(Au,Ex 8 t.at_ (G6 l Fy (E8 l Dv S).2)):=by
   unfold Ir
   rw [if_neg hge,if_pos (by have:=ht41;simp only [Ao] at this;exact this)]
  refine Z15 ?_;refine Ch Tryz.call156 (getset (getset (getset ho))) (by simp) Dd (vr l (G6 l Fy (E8 l Dv S).2) 8 t.at_ o _ (Ag (getset (getset (getset ho))))) ?_;refine Fw ?_;refine Z11 ?_;refine C9 ?_;exact A8 (Ak (B3 jA jS)) ⟨by rw [e,Al],by rw [e,Bu,Bu,Bu]⟩ (hlow:=low_agg _)
 have e:Ir l Dv t S=(.mk 6 t.text noV (E8 l Dv S).1,(G6 l Fy (E8 l Dv S).2)):=by
  unfold Ir
  rw [if_neg hge,if_neg (by have:=ht41;simp only [Ao] at this;rw [Jt] at this;exact this)]
 refine Z3 ?_;refine Z89 ?_;refine Z11 ?_;exact A8 (Ak (B3 jA jS)) ⟨by rw [e,Xy];rfl,by rw [e,Bu,Bu]⟩ (hlow:=by have:=Ah Hp.length (.mk 6 t.text noV (E8 l Dv S).1);rw [Xy] at this;simpa using this)

theorem bn {l:List Tok} (hl:TokEnd l) (hll:l.length≤1048576) (n:Nat) (Dv:Fam) (hn:n≤30) (hd:DeepC l Dv n):ju l Dv n:=fun o Hp S t ho hi hS _ _=>by
 subst hS
 exact APe l S Dv t o Hp ho hi hl hll hn hd
/-! Queries: what query.Parse, Print, Right, Same answer. -/
structure Qry where
 all:Bool
 cols:List Str
 whr:Expr
 lim:Int
/-- A parser: where it is, and the first fault. -/
structure QS where
 i:Nat
 code:Int
 at_:Int
def Is (l:List Tok) (e:Int) (S:QS):QS:=if S.code==0 then ⟨S.i,e,((Af l S.i).at_:Int)⟩ else S
def isQ (l:List Tok) (s:Str) (S:QS):Bool:=((S.code==0)&&(((Af l S.i).kind==5) || ((Af l S.i).kind==2)))&&((Af l S.i).text==s)
def F0 (S:QS):QS:=⟨S.i+1,S.code,S.at_⟩
def ka (l:List Tok) (s:Str) (S:QS):QS:=if isQ l s S then F0 S else S
def Si (l:List Tok) (s:Str) (S:QS):QS:=if isQ l s S then F0 S else Is l 8 S
def H8 (l:List Tok) (r:Qry×QS):Qry×QS:=
 if r.2.code != 0 then r else if (Af l r.2.i).kind != 1 then (r.1,Is l 8 r.2) else if (r.1.cols.length:Int)==12 then (r.1,Is l 3 r.2)
 else (⟨r.1.all,r.1.cols++[(Af l r.2.i).text],r.1.whr,r.1.lim⟩,F0 r.2)
def Lc (l:List Tok):Nat→Qry×QS→Qry×QS
 | 0,r=>r
 | n+1,r=>if isQ l [44] r.2 then Lc l n (H8 l (r.1,F0 r.2)) else r
def M9 (b:Bool) (q:Qry):Qry:=⟨b,q.cols,q.whr,q.lim⟩
def Nd (l:List Tok) (r:Qry×QS):Qry×QS:=if isQ l [42] r.2 then (M9 true r.1,F0 r.2) else Lc l l.length (H8 l (M9 false r.1,r.2))
def P0:Str:=[119,104,101,114,101]
def Nf:Str:=[108,105,109,105,116]
def fu:Str:=[115,101,108,101,99,116]
def K1 (l:List Tok) (r:Qry×QS):Qry×QS:=
 if isQ l P0 r.2 then
  if (atM l (r.2.i+1)).2.2.1 != 0 then (r.1,⟨r.2.i+1,(atM l (r.2.i+1)).2.2.1,(atM l (r.2.i+1)).2.2.2⟩)
  else (⟨r.1.all,r.1.cols,(atM l (r.2.i+1)).1,r.1.lim⟩,⟨(atM l (r.2.i+1)).2.1.toNat,r.2.code,r.2.at_⟩)
 else r
/-- The number that strconv.Atoi hands back. -/
def V2 (s:Str):Int:=match Lib.atoiAll s with|.ok v=>v|.range=>Lib.atoiSat s|_=>0
def If (l:List Tok) (r:Qry×QS):Qry×QS:=
 if isQ l Nf r.2 then
  if (Af l (r.2.i+1)).kind != 3 then (r.1,Is l 8 (F0 r.2))
  else if decide ((100000:Int)<V2 (Af l (r.2.i+1)).text) then (r.1,Is l 3 (F0 r.2))
  else (⟨r.1.all,r.1.cols,r.1.whr,V2 (Af l (r.2.i+1)).text⟩,F0 (F0 r.2))
 else r
def kb:Qry:=⟨false,[],Au,0⟩
def AMo (l:List Tok) (S:QS):QS:=if (Af l S.i).kind != 0 then Is l 8 S else S
def rq (l:List Tok):Qry×QS:=
 let r:=If l (K1 l (Nd l (⟨false,[],Au, -1⟩,Si l fu ⟨0,0,0⟩)))
 (r.1,AMo l (Si l [59] r.2))
def rr (l:List Tok):Qry×Int×Int:=if (rq l).2.code != 0 then (kb,(rq l).2.code,(rq l).2.at_) else ((rq l).1,0,0)
def Ma (s:Str):Qry×Int×Int:=if (Bd s).2.1 != 0 then (kb,(Bd s).2.1,((Bd s).2.2:Int)) else rr (Bd s).1
def Jn (q:Qry):Bool := !(eqE q.whr Au)
def Ld (q:Qry):Bool:=
 if (((q.all != ((q.cols.length:Int)==0)) || decide ((12:Int)<(q.cols.length:Int))) || decide (q.lim < -1)) || decide ((100000:Int)<q.lim) then false
 else (q.cols.all Dw)&&(!(Jn q) || Fi q.whr)
/-! The words of what is printed. -/
set_option maxRecDepth 8000
/-! The document's kinds of trees are infer's. -/
/-! Moves: what mig.Right, sound.* and the document's layers 18, 19 answer. -/
structure Mov where
 kind:Int
 take:List Str
 give:List Col
 ahead:List Expr
 back:List Expr
abbrev Bo (l:List Expr):AV:=.slice false 6 (l.map A7)
abbrev Ng (m:Mov):List AV:=[A3 m.kind,Fg m.take,An m.give,Bo m.ahead,Bo m.back]
abbrev Jo (m:Mov):AV:=.agg (Ng m)
abbrev Gm (l:List Mov):AV:=.slice false 5 (l.map Jo)
/-- Trees that may be walked. -/
structure OkEs (l:List Expr):Prop where
 len:l.length≤1048576
 ok:∀e∈l,okE 61 e
 size:∀e∈l,sizeE e≤1048576
 rng:∀e∈l,E0 Hb e=true
structure OkMov (m:Mov):Prop where
 takes:m.take.length≤1048576
 names:∀s∈m.take,s.length≤1048576
 gives:OkCols m.give
 gives2:m.give.length≤1000000
 ahead:OkEs m.ahead
 back:OkEs m.back
structure OkMovs (l:List Mov):Prop where
 len:l.length≤1048576
 each:∀m∈l,OkMov m
def Gn (m:Mov):Bool:=
 if ((m.ahead.length:Int) != (m.give.length:Int)) || ((m.back.length:Int) != (m.take.length:Int)) then false
 else if m.kind==1 then ((m.take.length:Int)==0)&&((m.give.length:Int)==1)
 else if m.kind==2 then ((m.take.length:Int)==1)&&((m.give.length:Int)==0)
 else if (m.kind==3) || (m.kind==6) then ((m.take.length:Int)==1)&&((m.give.length:Int)==1)
 else if m.kind==4 then ((m.take.length:Int)==1)&&decide ((1:Int)<(m.give.length:Int))
 else if m.kind==5 then decide ((1:Int)<(m.take.length:Int))&&((m.give.length:Int)==1)
 else false
def P1 (m:Mov) (c:Col):Bool:=Dw c.name&&(((Cw c.kind==[])==(m.kind==3)) && !((m.kind==3)&&(c.kind != 0)))
def Rg (m:Mov):Bool:=
 if m.kind==3 then eqE (m.ahead.getD 0 Au) (Cm (m.take.getD 0 []))&&eqE (m.back.getD 0 Au) (Cm (m.give.getD 0 ⟨[],0⟩).name)
 else if m.kind==6 then m.take.getD 0 []==(m.give.getD 0 ⟨[],0⟩).name else true
def K6 (m:Mov):Bool:=(((((Gn m&&m.give.all (P1 m))&&m.take.all Dw)&&m.ahead.all Ay)&&m.back.all Ay)&&Rg m)
def og (l:List Mov):Bool:=decide ((l.length:Int)≤8)&&l.all K6
/-! Columns behind moves. -/
def kc (e:Expr) (c:List Col) (w:Int):Bool:=((Ie e c).2==0)&&(((Ie e c).1==w) || ((Ie e c).1==0))
def Ck (c:List Col) (m:Mov):List Col:=
 if m.kind==3 then (if Aw (m.take.getD 0 []) c<0 then m.give else match m.give with
  | []=>[]
  | y::r=>⟨y.name,(c.getD (Aw (m.take.getD 0 []) c).toNat ⟨[],0⟩).kind⟩::r)
 else m.give
def fw (e:Expr) (c:List Col) (w:Int):Int:=if (Ie e c).2 != 0 then (Ie e c).2 else if !kc e c w then 10 else 0
def F1 (over:List Col):List Expr→List Col→Int
 | x::r,w::ws=>if fw x over w.kind != 0 then fw x over w.kind else F1 over r ws
 | _,_=>0
def Nh (c:List Col) (m:Mov):List Col:=m.take.map fun s=>c.getD (Aw s c).toNat ⟨[],0⟩
def By (c:List Col) (m:Mov):List Col×Int:=
 if (Ea c m.take (Ck c m)).2 != 0 then ([],(Ea c m.take (Ck c m)).2)
 else if F1 c m.ahead (Ck c m) != 0 then ([],F1 c m.ahead (Ck c m))
 else if F1 (Ea c m.take (Ck c m)).1 m.back (Nh c m) != 0 then ([],F1 (Ea c m.take (Ck c m)).1 m.back (Nh c m))
 else ((Ea c m.take (Ck c m)).1,0)
/-- The columns ahead of each move and behind the last one, till one is wrong; the error. -/
def Ca (c:List Col):List Mov→List (List Col)×Int
 | []=>([c],0)
 | m::r=>if (By c m).2 != 0 then ([c],(By c m).2) else (c::(Ca (By c m).1 r).1,(Ca (By c m).1 r).2)
def Ke (c:List Col) (l:List Mov):Bool:=Ci c&&og l
/-- ref19.Steps. -/
def Hd (c:List Col) (l:List Mov):List (List Col)×Int:=if Ke c l then Ca c l else ([],1)
/-- sound.Steps. -/
def Cn (c:List Col) (l:List Mov):List (List Col)×Int:=if (Hd c l).2 != 0 then ([],(Hd c l).2) else Hd c l
def E5 (c:List Col) (l:List Mov):List Col×Int:=if (Cn c l).2 != 0 then ([],(Cn c l).2) else ((Cn c l).1.getLastD [],0)
theorem U7 {m:Mov} (h:K6 m=true):Gn m=true:=by
 unfold K6 at h
 simp only [At] at h
 exact h.1.1.1.1.1
theorem J6 {m:Mov} (h:Gn m=true):m.ahead.length=m.give.length∧m.back.length=m.take.length:=by
 unfold Gn at h
 split at h
 ·cases h
 rename_i h1
 simp only [Dq,bne_iff_ne,ne_eq,not_or,Classical.not_not] at h1
 omega
theorem Y0 {m:Mov} (h:Gn m=true) (h3:((m.kind==3) || (m.kind==6))=true):m.take.length=1∧m.give.length=1:=by
 unfold Gn at h
 split at h
 ·cases h
 have h1:(m.kind==1)=false:=by simp at h3 ⊢;omega
 have h2:(m.kind==2)=false:=by simp at h3 ⊢;omega
 simp only [h1,h2,h3,if_true,if_false,Bt,At,beq_iff_eq] at h
 omega
theorem Ml (c:List Col) (m:Mov):(Ck c m).length=m.give.length:=by
 unfold Ck
 split
 ·split
  ·rfl
  split<;>simp_all
 rfl
set_option maxRecDepth 4000
/-! What query.Check, query.Run answer. -/
def Bp (q:Qry) (c:List Col):Int:=
 if !Ld q || !Ip c then 1 else if q.cols.any (fun s=>decide (Aw s c<0)) then 9 else if !Jn q then 0
 else if (Ie q.whr c).2 != 0 then (Ie q.whr c).2 else if !kc q.whr c 3 then 10 else 0
def Sj (r:Rs):Int:=if (((r.2==0)&&(r.1.kind != 0))&&(r.1.kind != 3))=true then 10 else r.2
def Y1 (r:Rs):Bool:=(Sj r==0)&&(((r.1.kind==3)&&(r.1.n==1))&&(r.1.s==[]))
def C4 (q:Qry) (c:List Col) (l:List Val):Bool×Int:=if !Im c l then (false,1) else if !Jn q then (true,0) else (Y1 (Cx q.whr c l),Sj (Cx q.whr c l))
def It (q:Qry) (c:List Col) (x:Row):Row:=⟨x.key,if q.all then x.l else q.cols.map fun s=>x.l.getD (Aw s c).toNat noV⟩
def Mb (q:Qry) (c:List Col):List Row→List Row→List Row×Int
 | [],o=>(o,0)
 | x::r,o=>if (C4 q c x.l).2 != 0 then ([],(C4 q c x.l).2) else if (C4 q c x.l).1 then
   (if ((o.length+1:Nat):Int)==q.lim then (o++[It q c x],0) else Mb q c r (o++[It q c x])) else Mb q c r o
def Sk (q:Qry) (c:List Col) (rows:List Row):List Row×Int:=if (Bp q c != 0) || (q.lim==0) then ([],Bp q c) else Mb q c rows []
/-! A limit cuts the answer. -/
/-! Some of all. -/
theorem w8 {q:Qry} {c:List Col} {l:List Val} (h:((C4 q c l).2 != 0)=false):Im c l=true:=by
 cases hr:Im c l with
 | true=>rfl
 | false=>simp [C4,hr] at h
abbrev Y2 (s:Sign):AV:=.agg [.slice false 1 (s.kids.map A3),A3 s.own]
theorem ABm {m:Sign} {a o:Int} (h:m=⟨[a],o⟩):AV.agg [.slice false 1 [A3 a],A3 o]=Y2 m:=by rw [h];rfl
theorem ABn {m:Sign} {a b o:Int} (h:m=⟨[a,b],o⟩):AV.agg [.slice false 1 [A3 a,A3 b],A3 o]=Y2 m:=by rw [h];rfl
theorem ABo {m:Sign} {a b c o:Int} (h:m=⟨[a,b,c],o⟩):AV.agg [.slice false 1 [A3 a,A3 b,A3 c],A3 o]=Y2 m:=by rw [h];rfl
theorem APf (s:Str) (Hp:List AObj):AFun Tryz.prog 181 [Ac s] Hp (Y2 (N9 s)):=by
 refine Ae [.cell 2 186] [0] Tryz.func181 Tryz.ntmps181 (fun d=>?_)
 refine Z63 ?_;refine Z30 ?_;refine Kc ?_;refine Jy ?_
 refine Qv ⟨24,A6 2 (.ptr (oid Hp.length 0) 0) (A6 3 (Ac s) (A6 4 (Az ((s==[111,114]) || (s==[97,110,100]))) (fun _=>.any))),Hp,[.cells 186 [.nil,A3 0]],[],none⟩ ?_ ?_
 ·refine Z1 ?_;refine A2 [2,3,4] ?_
  refine A4 (fun ht4=>?_) (fun ht4=>?_)
  ·refine Fd [2,3,4] ?_;exact ADs
  refine Z22 ?_;refine A2 [2,3,4] ?_;exact Z56
 refine A4 (fun ht4=>?_) (fun ht4=>?_)
 ·refine ig ?_;exact Z61
 refine Qv ⟨24,A6 2 (.ptr (oid Hp.length 0) 0) (A6 3 (Ac s) (A6 9 (Az ((((((s==[61]) || (s==[33,61])) || (s==[60])) || (s==[60,61])) || (s==[62])) || (s==[62,61]))) (fun _=>.any))),Hp,[.cells 186 [.nil,A3 0]],[],none⟩ ?_ ?_
 ·refine ud ?_
  refine A4 (fun ht9=>?_) (fun ht9=>?_)
  ·exact zd
  refine ud ?_
  refine A4 (fun ht9=>?_) (fun ht9=>?_)
  ·exact zd
  refine ud ?_
  refine A4 (fun ht9=>?_) (fun ht9=>?_)
  ·exact zd
  refine ud ?_
  refine A4 (fun ht9=>?_) (fun ht9=>?_)
  ·exact zd
  refine ud ?_
  refine A4 (fun ht9=>?_) (fun ht9=>?_)
  ·exact zd
  refine Z22 ?_;refine A2 [2,3,9] ?_;exact Z56
 refine A4 (fun ht9=>?_) (fun ht9=>?_)
 ·refine ig ?_;exact Z61
 refine Z1 ?_;refine A2 [2,18] ?_
 refine A4 (fun ht18=>?_) (fun ht18=>?_)
 ·refine ig ?_;exact Z61
 refine Z19 ?_;refine ig ?_;exact ALn
theorem APg (s:Str) (Hp:List AObj):AFun Tryz.prog 182 [Ac s] Hp (Y2 (Na s)):=by
 refine Ae [.cell 2 186] [0] Tryz.func182 Tryz.ntmps182 (fun d=>?_)
 refine Z63 ?_;refine Z30 ?_;refine Kc ?_;refine Jy ?_
 refine Qv ⟨28,A6 2 (.ptr (oid Hp.length 0) 0) (A6 3 (Ac s) (A6 4 (Az ((s==[108,101,110]) || (s==[110,117,109]))) (fun _=>.any))),Hp,[.cells 186 [.nil,A3 0]],[],none⟩ ?_ ?_
 ·refine Z1 ?_;refine A2 [2,3,4] ?_
  refine A4 (fun ht4=>?_) (fun ht4=>?_)
  ·refine Fd [2,3,4] ?_;exact ADs
  refine Z22 ?_;refine A2 [2,3,4] ?_;exact Z56
 refine A4 (fun ht4=>?_) (fun ht4=>?_)
 ·exact zi
 refine ud ?_
 refine A4 (fun ht9=>?_) (fun ht9=>?_)
 ·exact zi
 refine Qv ⟨28,A6 2 (.ptr (oid Hp.length 0) 0) (A6 3 (Ac s) (A6 13 (Az ((s==[108,101,102,116]) || (s==[114,105,103,104,116]))) (fun _=>.any))),Hp,[.cells 186 [.nil,A3 0]],[],none⟩ ?_ ?_
 ·refine Z1 ?_;refine A2 [2,3,13] ?_
  refine A4 (fun ht13=>?_) (fun ht13=>?_)
  ·refine Fd [2,3,13] ?_;exact ADs
  refine Z22 ?_;refine A2 [2,3,13] ?_;exact Z56
 refine A4 (fun ht13=>?_) (fun ht13=>?_)
 ·exact zi
 refine Z1 ?_;refine A2 [2,3,18] ?_
 refine A4 (fun ht18=>?_) (fun ht18=>?_)
 ·exact zi
 refine Z1 ?_;refine A2 [2,22] ?_
 refine A4 (fun ht22=>?_) (fun ht22=>?_)
 ·exact zi
 refine Z19 ?_;refine ig ?_;exact ALo
theorem APh (e:Expr) (Hp:List AObj):AFun Tryz.prog 146 [A7 e] Hp (Y2 (V0 e.op e.text)):=by
 refine Ae [.cell 2 186] [0] Tryz.func146 Tryz.ntmps146 (fun d=>?_)
 refine zu ?_;refine A2 [1,2] ?_;refine Z7 ?_;refine A2 [1,2,4] ?_;refine Vf ?_;refine A2 [1,2,4,5] ?_
 refine A4 (fun ht5=>?_) (fun ht5=>?_)
 ·refine ig ?_;exact AHm
 refine Z1 ?_;refine A2 [1,2,4,9] ?_
 refine A4 (fun ht9=>?_) (fun ht9=>?_)
 ·refine ig ?_;exact AHm
 refine Z1 ?_;refine A2 [1,2,13] ?_
 refine A4 (fun ht13=>?_) (fun ht13=>?_)
 ·refine Z1 ?_;refine Aa Tryz.call181 (APf e.text _) ?_;refine Z39 ?_;exact AHm
 refine Z19 ?_;refine Z1 ?_;refine Aa Tryz.call182 (APg e.text _) ?_;refine Z39 ?_;exact ALp

theorem AMp (a b:Int) (Hp:List AObj):AFun Tryz.prog 183 [A3 a,A3 b] Hp (.tup [A3 (Fj a b).1,Az (Fj a b).2]):=by
 refine Ae [.tmp 4,.tmp 5] [0,1] Tryz.func183 Tryz.ntmps183 (fun d=>?_)
 refine ec ?_;refine ip ?_;refine A2 [0,1,6] ?_
 refine A4 (fun ht6=>?_) (fun ht6=>?_)
 ·refine Z15 ?_;refine Z10 ?_;exact AKo
 refine Z15 ?_;refine Wo ?_;refine A2 [0,10] ?_
 refine A4 (fun ht10=>?_) (fun ht10=>?_)
 ·refine Z15 ?_;refine Z10 ?_;exact AKo
 refine Z19 ?_;refine eb ?_;exact ALq

structure FitAt (s:Sign) (ks:List Int) (x:Nat×Int):Prop where
 le:x.1≤ks.length
 eq:Py s.kids ks 0=Py (s.kids.drop x.1) (ks.drop x.1) x.2
theorem FitAt.step {s:Sign} {ks:List Int} {x:Nat×Int} (h:FitAt s ks x) (hk:x.1<ks.length) (hs:x.1<s.kids.length):Py s.kids ks 0=(if s.kids[x.1] == -2 then Py (s.kids.drop (x.1+1)) (ks.drop (x.1+1)) x.2 else if s.kids[x.1] == -1 then (if (Fj x.2 ks[x.1]).2 then Py (s.kids.drop (x.1+1)) (ks.drop (x.1+1)) (Fj x.2 ks[x.1]).1 else none) else if (Fj s.kids[x.1] ks[x.1]).2 then Py (s.kids.drop (x.1+1)) (ks.drop (x.1+1)) x.2 else none):=by
 rw [h.eq,I4 hk,I4 hs,Py]
theorem FitAt.skip {s:Sign} {ks:List Int} {x:Nat×Int} (h:FitAt s ks x) (hk:x.1<ks.length) (hs:x.1<s.kids.length) (h2:(s.kids[x.1] == -2)=true):FitAt s ks (x.1+1,x.2):=⟨hk,by rw [h.step hk hs,if_pos h2]⟩
theorem FitAt.same {s:Sign} {ks:List Int} {x:Nat×Int} (h:FitAt s ks x) (hk:x.1<ks.length) (hs:x.1<s.kids.length) (h2:(s.kids[x.1] == -2)=false) (h1:(s.kids[x.1] == -1)=true) (hm:(Fj x.2 ks[x.1]).2=true):FitAt s ks (x.1+1,(Fj x.2 ks[x.1]).1):=⟨hk,by rw [h.step hk hs,if_neg (by rw [h2];simp),if_pos h1,if_pos hm]⟩
theorem FitAt.want {s:Sign} {ks:List Int} {x:Nat×Int} (h:FitAt s ks x) (hk:x.1<ks.length) (hs:x.1<s.kids.length) (h2:(s.kids[x.1] == -2)=false) (h1:(s.kids[x.1] == -1)=false) (hm:(Fj s.kids[x.1] ks[x.1]).2=true):FitAt s ks (x.1+1,x.2):=⟨hk,by rw [h.step hk hs,if_neg (by rw [h2];simp),if_neg (by rw [h1];simp),if_pos hm]⟩
theorem FitAt.bad {s:Sign} {ks:List Int} {x:Nat×Int} (h:FitAt s ks x) (hk:x.1<ks.length) (hs:x.1<s.kids.length) (h2:(s.kids[x.1] == -2)=false) (hm:(if s.kids[x.1] == -1 then (Fj x.2 ks[x.1]).2 else (Fj s.kids[x.1] ks[x.1]).2)=false):Sd s ks=(0,10):=by
 unfold Sd
 rw [h.step hk hs,if_neg (by rw [h2];simp)]
 split at hm
 ·rename_i h1
  rw [if_pos h1,if_neg (by rw [hm];simp)]
 rename_i h1
 rw [if_neg h1,if_neg (by rw [hm];simp)]
theorem FitAt.out {s:Sign} {ks:List Int} {x:Nat×Int} (h:FitAt s ks x) (hk:ks.length≤x.1):Sd s ks=if s.own == -1 then (x.2,0) else (s.own,0):=by
 unfold Sd
 rw [h.eq,m0 hk]
 cases s.kids.drop x.1<;>rfl
theorem APi (s:Sign) (ks:List Int) (hks:ks.length≤s.kids.length) (hk2:ks.length≤1048576) (Hp:List AObj):AFun Tryz.prog 147 [Y2 s,.slice false 1 (ks.map A3)] Hp (.tup [A3 (Sd s ks).1,A3 (Sd s ks).2]):=by
 refine Ae [.tmp 4,.tmp 5] [0,1] Tryz.func147 Tryz.ntmps147 (fun d=>?_)
 refine Z15 ?_;refine A2 [1,2] ?_;refine Ze ?_;refine A2 [1,2,6] ?_;refine Z31 ?_;refine uv ?_
 refine Bf (α:=Nat×Int) (fun x=>⟨49,A6 2 (.ro [.slice false 1 (s.kids.map A3),A3 s.own]) (A6 6 (.ptr (oid Hp.length 0) 0) (A6 13 (.slice false 1 (ks.map A3)) (A6 14 (A3 (ks.length:Nat)) (A6 15 (A3 (x.1:Nat)) (fun _=>.any))))),Hp,[.cells 3 [A3 x.2]],[],none⟩) (fun x=>FitAt s ks x) (fun x=>ks.length-x.1) ((0,0)) ⟨Ar _,rfl⟩ (Bj (by simp)) rfl (fun x hx=>?_)
 refine Z2 ?_;refine A2 [2,6,13,14,15,16] ?_
 refine Cr (fun ht16=>?_) (fun ht16=>?_)
 ·have hlt:x.1<ks.length:=by simpa using ht16
  have hls:x.1<s.kids.length:=by omega
  refine Rz ?_
  refine A5 (h:=Ai (x.1) (A3 ks[x.1]) (fun _=>B6 hlt)) (hr:=?_)
  refine Z13 ?_;refine A2 [2,6,7,8,13,14,15] ?_;refine Z15 ?_
  refine A5 (h:=Ai (x.1) (A3 s.kids[x.1]) (fun _=>B6 hls)) (hr:=?_)
  refine Qw ?_;refine A2 [2,6,8,9,13,14,15] ?_;refine Z7 ?_;refine A2 [2,6,8,9,13,14,15,26] ?_
  refine A4 (fun ht26=>?_) (fun ht26=>?_)
  ·refine Fd [2,6,13,14,15] ?_;refine Z59 ?_;refine K.blE ?_;refine Gg ?_;refine Z22 ?_;refine uv ?_
   first|(refine Bg (x.1+1,x.2) (hx.skip hlt hls ht26) (by show ks.length-(x.1+1)<ks.length-x.1;omega) ?_;exact Di (own:=[.cells 3 [A3 x.2]]) (fun _=>.refl _) (by repeat (first|exact Bc|refine Bb (by first|(simp [or_imp,forall_and];done)|(simp [oid]<;>omega)) ?_)) (by intro y hy;rw [B7.1 hy];intro z hz;rw [B7.1 hz];simp) (by simp))|(refine Bg (x.1+1,(Fj x.2 ks[x.1]).1) (hx.same hlt hls ht26 ht28 (by simpa using ht38)) (by show ks.length-(x.1+1)<ks.length-x.1;omega) ?_;exact Di (own:=[.cells 3 [A3 (Fj x.2 ks[x.1]).1]]) (fun _=>.refl _) (by repeat (first|exact Bc|refine Bb (by first|(simp [or_imp,forall_and];done)|(simp [oid]<;>omega)) ?_)) (by intro y hy;rw [B7.1 hy];intro z hz;rw [B7.1 hz];simp) (by simp))|(refine Bg (x.1+1,x.2) (hx.want hlt hls ht26 ht28 (by simpa using ht38)) (by show ks.length-(x.1+1)<ks.length-x.1;omega) ?_;exact Di (own:=[.cells 3 [A3 x.2]]) (fun _=>.refl _) (by repeat (first|exact Bc|refine Bb (by first|(simp [or_imp,forall_and];done)|(simp [oid]<;>omega)) ?_)) (by intro y hy;rw [B7.1 hy];intro z hz;rw [B7.1 hz];simp) (by simp))
  refine Qz ?_;refine A2 [2,6,8,9,10,13,14,15] ?_;refine Z7 ?_;refine A2 [2,6,8,10,13,14,15,28] ?_
  refine A4 (fun ht28=>?_) (fun ht28=>?_)
  ·refine Z44 ?_;refine A2 [2,6,8,10,13,14,15] ?_;refine Gg ?_;refine Z23 ?_;refine Aa Tryz.call183 (AMp _ _ _) ?_;refine Z81 ?_;refine A2 [2,6,10,11,12,13,14,15] ?_;refine Z7 ?_;refine A2 [2,6,10,11,13,14,15,38] ?_
   refine A4 (fun ht38=>?_) (fun ht38=>?_)
   ·have hbad:=hx.bad hlt hls ht26 (by first|(rw [if_pos ht28];simpa using ht38)|(rw [if_neg (by rw [ht28];simp)];simpa using ht38))
    refine zk ?_;exact AKw
   refine Z3 ?_;refine Z49 ?_;refine Fw ?_;refine uv ?_;refine Ry ?_;refine uv ?_
   first|(refine Bg (x.1+1,x.2) (hx.skip hlt hls ht26) (by show ks.length-(x.1+1)<ks.length-x.1;omega) ?_;exact Di (own:=[.cells 3 [A3 x.2]]) (fun _=>.refl _) (by repeat (first|exact Bc|refine Bb (by first|(simp [or_imp,forall_and];done)|(simp [oid]<;>omega)) ?_)) (by intro y hy;rw [B7.1 hy];intro z hz;rw [B7.1 hz];simp) (by simp))|(refine Bg (x.1+1,(Fj x.2 ks[x.1]).1) (hx.same hlt hls ht26 ht28 (by simpa using ht38)) (by show ks.length-(x.1+1)<ks.length-x.1;omega) ?_;exact Di (own:=[.cells 3 [A3 (Fj x.2 ks[x.1]).1]]) (fun _=>.refl _) (by repeat (first|exact Bc|refine Bb (by first|(simp [or_imp,forall_and];done)|(simp [oid]<;>omega)) ?_)) (by intro y hy;rw [B7.1 hy];intro z hz;rw [B7.1 hz];simp) (by simp))|(refine Bg (x.1+1,x.2) (hx.want hlt hls ht26 ht28 (by simpa using ht38)) (by show ks.length-(x.1+1)<ks.length-x.1;omega) ?_;exact Di (own:=[.cells 3 [A3 x.2]]) (fun _=>.refl _) (by repeat (first|exact Bc|refine Bb (by first|(simp [or_imp,forall_and];done)|(simp [oid]<;>omega)) ?_)) (by intro y hy;rw [B7.1 hy];intro z hz;rw [B7.1 hz];simp) (by simp))
  refine Zh ?_;refine Aa Tryz.call183 (AMp _ _ _) ?_;refine Z81 ?_;refine A2 [2,6,10,11,12,13,14,15] ?_;refine Z7 ?_;refine A2 [2,6,10,11,13,14,15,38] ?_
  refine A4 (fun ht38=>?_) (fun ht38=>?_)
  ·have hbad:=hx.bad hlt hls ht26 (by first|(rw [if_pos ht28];simpa using ht38)|(rw [if_neg (by rw [ht28];simp)];simpa using ht38))
   refine zk ?_;exact AKw
  refine Z3 ?_;refine Z49 ?_;refine Fw ?_;refine uv ?_;refine Ry ?_;refine uv ?_
  first|(refine Bg (x.1+1,x.2) (hx.skip hlt hls ht26) (by show ks.length-(x.1+1)<ks.length-x.1;omega) ?_;exact Di (own:=[.cells 3 [A3 x.2]]) (fun _=>.refl _) (by repeat (first|exact Bc|refine Bb (by first|(simp [or_imp,forall_and];done)|(simp [oid]<;>omega)) ?_)) (by intro y hy;rw [B7.1 hy];intro z hz;rw [B7.1 hz];simp) (by simp))|(refine Bg (x.1+1,(Fj x.2 ks[x.1]).1) (hx.same hlt hls ht26 ht28 (by simpa using ht38)) (by show ks.length-(x.1+1)<ks.length-x.1;omega) ?_;exact Di (own:=[.cells 3 [A3 (Fj x.2 ks[x.1]).1]]) (fun _=>.refl _) (by repeat (first|exact Bc|refine Bb (by first|(simp [or_imp,forall_and];done)|(simp [oid]<;>omega)) ?_)) (by intro y hy;rw [B7.1 hy];intro z hz;rw [B7.1 hz];simp) (by simp))|(refine Bg (x.1+1,x.2) (hx.want hlt hls ht26 ht28 (by simpa using ht38)) (by show ks.length-(x.1+1)<ks.length-x.1;omega) ?_;exact Di (own:=[.cells 3 [A3 x.2]]) (fun _=>.refl _) (by repeat (first|exact Bc|refine Bb (by first|(simp [or_imp,forall_and];done)|(simp [oid]<;>omega)) ?_)) (by intro y hy;rw [B7.1 hy];intro z hz;rw [B7.1 hz];simp) (by simp))
 have hxe:ks.length≤x.1:=by simpa using ht16
 have hout:=hx.out hxe
 refine Z28 ?_;refine Z31 ?_;refine A2 [2,6,45] ?_
 refine A4 (fun ht45=>?_) (fun ht45=>?_)
 ·refine Z15 ?_;refine Z10 ?_;refine C9 ?_;exact A8 (B1 A9 A9) ⟨by rw [hout,if_pos ht45],rfl⟩
 refine Zh ?_;refine Z10 ?_;exact A8 (B1 A9 A9) ⟨by rw [hout,if_neg (by rw [ht45];simp)],rfl⟩

theorem ABp {n k:Nat} {own:Bool} {l:List Int}:Low n (.slice own k (l.map A3)):=low_slice.2 fun y hy=>by
 obtain ⟨z,_,rfl⟩:=C2.1 hy
 simp
theorem rt {n:Nat} {e:Expr}:Low n (.ro (E4 e)):=by have:=Ah n e;rw [Al] at this;simpa using this
theorem Fl {c:List Col} {t:Str} (h:¬(Aw t c<0)):∃(j:Nat),Aw t c=(j:Int)∧j<c.length:=by
 obtain ⟨j,y,h2,_,h3⟩:=find_mem.1 h
 exact ⟨j,h3,(Ad.1 h2).1⟩
theorem ABq {c:List Col} {e:Expr} (h:(e.op==1)=true):Dj c e=(e.val.kind,0):=by rw [Mj];unfold Oy;rw [if_pos h]
theorem w9 {c:List Col} {e:Expr} (h1:(e.op==1)=false) (h:(e.op==2)=true):Dj c e=L9 c e.text:=by rw [Mj];unfold Oy;rw [h1,if_pos h];rfl
theorem ABr {c:List Col} {e:Expr} (h1:(e.op==1)=false) (h2:(e.op==2)=false) {x:Nat} (hx:x<e.kids.length) (h0:∀(j:Nat) (y:Expr),j<x→e.kids[j]? = some y→((Dj c y).2 != 0)=false) (hb:((Dj c e.kids[x]).2 != 0)=true):Dj c e=(0,(Dj c e.kids[x]).2):=by
 rw [Mj]
 unfold Oy
 rw [h1,h2]
 have:(e.kids.map (Dj c)).find? (fun q=>q.2 != 0)=some ((e.kids.map (Dj c))[x]'(by simpa using hx)):=er (by simpa using hx) (by simpa using hb) (fun j y hj hy=>by
  rw [Bz,E3] at hy
  obtain ⟨z,hz,rfl⟩:=hy
  exact h0 j z hj hz)
 rw [this]
 simp
theorem ABs {c:List Col} {e:Expr} (h1:(e.op==1)=false) (h2:(e.op==2)=false) (h0:∀(j:Nat) (y:Expr),j<e.kids.length→e.kids[j]? = some y→((Dj c y).2 != 0)=false):Dj c e=Sd (V0 e.op e.text) (e.kids.map fun y=>(Dj c y).1):=by
 rw [Mj]
 unfold Oy
 rw [h1,h2]
 have:(e.kids.map (Dj c)).find? (fun q=>q.2 != 0)=none:=Tn (fun j y hy=>by
  rw [Bz,E3] at hy
  obtain ⟨z,hz,rfl⟩:=hy
  exact h0 j z (Ad.1 hz).1 hz)
 rw [this]
 simp only [Pb]
 rfl
theorem wc (f:Expr→Int) (l:List Expr) {x:Nat} (h:x<l.length):((l.take x).map f).map A3++[A3 (f l[x])]=((l.take (x+1)).map f).map A3:=by rw [J8 h,Bq,Bq];rfl
theorem APj (c:List Col) (hc:OkCols c):∀(n:Nat) (e:Expr),okE n e→E0 Ew e=true→∀Hp:List AObj,AFun Tryz.prog 110 [A7 e,An c] Hp (.tup [A3 (Dj c e).1,A3 (Dj c e).2]):=by
 intro n
 induction n with
 | zero=>exact fun e h=>h.elim
 | succ n ih =>
 intro e hok hnd Hp
 have hnd0:=hnd
 rw [Jf,At] at hnd0
 refine Ae [.tmp 4,.tmp 5] [0,1] Tryz.func110 Tryz.ntmps110 (fun d=>?_)
 refine Z15 ?_;refine A2 [1,2] ?_;refine Z7 ?_;refine A2 [1,2,13] ?_;refine Vf ?_;refine A2 [1,2,13,14] ?_
 refine A4 (fun ht14=>?_) (fun ht14=>?_)
 ·have hk:=ABq (c:=c) ht14
  refine Z1 ?_;refine Z13 ?_;refine Z10 ?_;refine Z5 ?_;exact AI4
 refine Z1 ?_;refine A2 [1,2,19] ?_
 refine A4 (fun ht19=>?_) (fun ht19=>?_)
 ·have hk:=w9 (c:=c) ht14 ht19
  refine Z15 ?_;refine Aa Tryz.call60 (c60 c hc e.text _) ?_;refine A5 ?_;refine A2 [1,6] ?_;refine Z7 ?_;refine A2 [1,6,26] ?_
  refine A4 (fun ht26=>?_) (fun ht26=>?_)
  ·have hk2:L9 c e.text=(0,9):=if_pos (by simpa using ht26)
   refine zk ?_;exact AKx
  have hneg:¬(Aw e.text c<0):=by simpa using ht26
  obtain ⟨j,hj,hjl⟩:=Fl hneg
  have hk2:L9 c e.text=(c[j].kind,0):=by
   unfold L9
   rw [if_neg hneg,hj,Int.toNat_natCast,Bw,Ab hjl]
   rfl
  rw [hj]
  refine Z98 ?_
  refine A5 (h:=Ai (j) (C0 c[j]) (fun _=>B6 hjl)) (hr:=?_)
  refine Z57 ?_;refine Z10 ?_;exact AKx
 refine Z19 ?_;refine Z2 ?_;refine A2 [1,2,7] ?_;refine Z54 ?_;refine Qu 7 1 ?_;refine Z57 ?_;refine A2 [1,2,7,33,34,35] ?_
 refine Bf (α:=Nat) (fun x=>⟨59,A6 1 (An c) (A6 2 (.ro (E4 e)) (A6 7 (.slice true 1 (((e.kids.take x).map fun y=>(Dj c y).1).map A3)) (A6 33 (.slice false 6 (e.kids.map A7)) (A6 34 (A3 (e.kids.length:Nat)) (A6 35 (A3 (x:Nat)) (fun _=>.any)))))),Hp,[],[],none⟩) (fun x=>x≤e.kids.length∧∀(j:Nat) (y:Expr),j<x→e.kids[j]? = some y→((Dj c y).2 != 0)=false) (fun x=>e.kids.length-x) (0) ⟨Ar _,fun j y h=>by omega⟩ (Bj (by simp)) rfl (fun x hx=>?_)
 refine Z2 ?_;refine A2 [1,2,7,33,34,35,36] ?_
 refine Cr (fun ht36=>?_) (fun ht36=>?_)
 ·have hlt:x<e.kids.length:=by simpa using ht36
  have hkl:=hok.2.1
  refine Z76 ?_
  refine A5 (h:=Ai (x) (A7 e.kids[x]) (fun _=>B6 hlt)) (hr:=?_)
  refine Qw ?_;refine A2 [1,2,7,9,33,34,35] ?_;refine Z1 ?_;refine Aa Tryz.call110 (ih e.kids[x] (hok.2.2 _ (Be hlt)) ((Fh _ _).1 hnd0.2 _ (Be hlt)) _) ?_;refine Z81 ?_;refine A2 [1,2,7,10,11,33,34,35] ?_;refine Z7 ?_;refine A2 [1,2,7,10,11,33,34,35,46] ?_
  refine A4 (fun ht46=>?_) (fun ht46=>?_)
  ·have hkb:=ABr (c:=c) ht14 ht19 hlt hx.2 ht46
   refine Z15 ?_;refine Z10 ?_;refine C9 ?_;refine Z62 ?_;exact A8 (B1 A9 A9) ⟨by rw [hkb],rfl⟩
  refine Z3 ?_;refine ue ?_;refine Z80 ?_
  refine Ep jU Tryz.type3 ?_ ?_ ?_
  ·simp only [Ao,Cy,Bi,Cb,Tryz.t3];omega
  ·simp only [Ao,Cy,Bi,Cb,Tryz.t3];omega
  refine Jv ?_;refine A2 [1,2,7,33,34,35] ?_;refine Ry ?_;refine A2 [1,2,7,33,34,35] ?_;refine Bg (x+1) ⟨hlt,El hlt hx.2 ht46⟩ (by omega) ?_
  simp only [show Tryz.t3.size=1 from rfl,wc]
  exact Di (own:=[]) (fun _=>.refl _) (by repeat (first|exact Bc|refine Bb (by first|exact ABp|exact rt|exact D3|(simp [or_imp,forall_and];done)) ?_)) (by simp) (by simp)
 have hxe:e.kids.take x=e.kids:=Eo (by simp at ht36;omega)
 have hxl:e.kids.length≤x:=by simp at ht36;omega
 have hka:=ABs (c:=c) ht14 ht19 (fun j y hj hy=>hx.2 j y (by omega) hy)
 rw [hxe]
 refine n5 ?_;refine Aa Tryz.call146 (APh e _) ?_;refine A5 ?_
 refine Aa Tryz.call147 (APi (V0 e.op e.text) (e.kids.map fun y=>(Dj c y).1) (by rw [AB8 hnd0.1 ht14 ht19];simp) (by simpa using hok.2.1) _) ?_
 refine Z57 ?_;refine Z10 ?_;exact A8 (B1 A9 A9) ⟨by rw [hka],rfl⟩

theorem P2 {e:Expr} (h:Ay e=true):E0 Ew e=true:=by
 rw [Fx] at h
 unfold Fi at h
 rw [At] at h
 exact h.2
theorem c62 (n:Nat) (e:Expr) (hok:okE n e) (hn:n≤1048576) (c:List Col) (hc:OkCols c) (Hp:List AObj):AFun Tryz.prog 62 [A7 e,An c] Hp (.tup [A3 (Ie e c).1,A3 (Ie e c).2]):=by
 refine Ae [.tmp 4,.tmp 5] [0,1] Tryz.func62 Tryz.ntmps62 (fun d=>?_)
 refine Z15 ?_;refine A2 [1,2] ?_;refine Z30 ?_;refine Aa Tryz.call96 (c96 n e hok hn _) ?_;refine Qx ?_;refine C3 Tryz.call50 (fun hB=>c50 c hc _) ?_;refine Z48 ?_;refine A2 [1,2,13] ?_
 refine A4 (fun ht13=>?_) (fun ht13=>?_)
 ·have hk:Ie e c=(0,1):=if_pos ht13
  refine zk ?_;exact AI4
 have hk:Ie e c=Dj c e:=if_neg (by rw [ht13];simp)
 have hr:Ay e=true:=by simp only [E1,Mo] at ht13;exact ht13.1
 refine Z98 ?_;refine Aa Tryz.call110 (APj c hc n e hok (P2 hr) _) ?_;refine Z57 ?_;refine Z10 ?_;exact AI4

theorem Em {n k:Nat} {o:Bool} {l:List Col}:Low n (.slice o k (l.map C0)):=by simp [or_imp,forall_and]
theorem wd {α β:Type} {f:α→β} {l:List α} {k:Nat} {y:α} (h:l[k]? = some y):(l.map f)[k]? = some (f y):=by rw [Bz,h];rfl
theorem APk (c:List Col) (hc:OkCols c) (take:List Str) (ht:take.length≤1048576) (give:List Col) (hg:OkCols give) (hg2:give.length≤1000000) (Hp:List AObj):AFun Tryz.prog 165 [An c,Fg take,An give] Hp (.tup [An (Ea c take give).1,A3 (Ea c take give).2]):=by
 refine Ae [.tmp 6,.tmp 7] [0,1,2,9] Tryz.func165 Tryz.ntmps165 (fun d=>?_)
 refine Z1 ?_;refine A2 [0,1,2,9] ?_;refine Z30 ?_;refine Aa Tryz.call125 (AMi c hc _) ?_;refine A5 ?_;refine A2 [0,1,2,9,12] ?_
 refine A4 (fun ht12=>?_) (fun ht12=>?_)
 ·have hr:Ci c=false:=by rw [Mh] at ht12;simpa using ht12
  refine Z2 ?_;refine zj ?_;refine C9 ?_;exact A8 (B1 A9 A9) ⟨by rw [AB0 hr];try rfl,rfl⟩
 have hr:Ci c=true:=by rw [Mh] at ht12;simpa using ht12
 refine Zi ?_;refine Aa Tryz.call210 (AOx c hc take ht _) ?_;refine A5 ?_;refine A2 [0,1,2,9,16] ?_
 refine A4 (fun ht16=>?_) (fun ht16=>?_)
 ·have hk:Id c take=false:=by simpa using ht16
  refine Z2 ?_;refine zj ?_;refine C9 ?_;exact A8 (B1 A9 A9) ⟨by rw [AB1 hr hk];try rfl,rfl⟩
 have hk:Id c take=true:=by simpa using ht16
 refine Z3 ?_;refine Z24 ?_;refine A2 [0,1,2,8,9] ?_;refine Z54 ?_;refine Kz 0 2 ?_
 refine Jx (fun hlow=>?_)
 refine Z0 ?_;refine Aa Tryz.call211 (AOz c take _) ?_;refine A2 [2,8,9,19] ?_;refine Jy ?_
 refine L0 (m:=1) Tryz.call239 (fun FR as' bd' hFR has hbd=>?_)
 have hFRl:∀s,Low (Hp.length+3) (FR s):=by
  intro s
  rw [hFR]
  refine M3 ?_
  revert s
  repeat (first|exact Bc|refine Bb (by simp [oid,or_imp,forall_and]<;>try omega) ?_)
 have hOl:∀{k:Nat},∀x∈[AObj.cells 30 [.slice true 2 ((Eg (c.take k) take).map C0)],AObj.defs,AObj.loop LoopState.ready none FR 41 #[20] as' bd' (oid Hp.length 1)],ObjLow (Hp.length+3) x:=by
  intro k x hx
  simp only [B4,E2,or_false] at hx
  rcases hx with rfl|rfl|rfl
  ·intro y hy
   rw [B7.1 hy]
   exact Em
  ·trivial
  exact zx
 refine ⟨_,AP0 (oid Hp.length 2) c take hc.len ht (fun k=>Hp++[AObj.cells 30 [.slice true 2 ((Eg (c.take k) take).map C0)],AObj.defs,AObj.loop LoopState.ready none FR 41 #[20] as' bd' (oid Hp.length 1)]) (fun k=>by simp) (by simp [oid]) (fun k x hx=>?_) (fun k y hk hcn=>by simp only [vq hk hcn]) (fun k y X hk hcn=>?_),?_⟩
 ·have:=Ic (fun x hx=>L4 (by omega) (hlow x hx)) hOl x hx
  simpa using this
 ·generalize hV:Hp++[AObj.cells 30 [.slice true 2 ((Eg (c.take k) take).map C0)],AObj.defs,AObj.loop LoopState.ready none FR 41 #[20] as' bd' (oid Hp.length 1)]++X=V
  have hL:V[oid Hp.length 2]? = some (AObj.loop LoopState.ready none FR 41 #[20] as' bd' (oid Hp.length 1)):=by rw [←hV,Ax,As];rfl
  have hA0:V[oid Hp.length 0]? = some (AObj.cells 30 [.slice true 2 ((Eg (c.take k) take).map C0)]):=by rw [←hV,Ax,As];rfl
  refine Iy (pd:=none) (fr:=FR) (sz:=41) (ps:=#[20]) (df:=oid Hp.length 1) (asg:=as') (bd:=bd') hL rfl (by decide) (fun d=>?_)
  subst hFR has hbd
  refine Fd [8,20] ?_;refine Gf ?_;refine Z14 ?_;refine A2 [8,9] ?_
  refine ⟨rfl,none,hL,?_⟩
  generalize hbz:(AObj.loop LoopState.busy _ _ _ _ _ _ _)=bz
  have hA:(V.set (oid Hp.length 2) bz)[oid Hp.length 0]? = some (AObj.cells 30 [.slice true 2 ((Eg (c.take k) take).map C0)]):=by rw [Bh (Bv (by decide))];exact hA0
  refine Jy ?_;refine Gf ?_;refine AE2 ?_
  refine Ep jU Tryz.type69 ?_ ?_ ?_
  ·have h1:=Jm (c.take k) take;have h2:=hc.len;simp only [Cy] at h1;simp [Tryz.t69];omega
  ·have h1:=Jm (c.take k) take;have h2:=hc.len;simp only [Cy] at h1;simp [Tryz.t69];omega
  refine Fv jS (getset hA) ?_ ?_
  ·exact vp
  refine Z91 ?_
  subst hbz
  refine zw ?_
  refine ⟨rfl,?_⟩
  subst hV
  simp only [Ax,Cp,Dk,D9,List.set_cons_succ,List.set_cons_zero]
  rw [AEv hk hcn,Bq]
  rfl
 rintro r H' rfl
 simp only [Lq]
 refine ⟨Hp,_,_,_,rfl,rfl,fun h=>h,?_,rfl,by simp,?_⟩
 ·intro o ho
  have:o=oid Hp.length 1:=by simpa using ho
  subst this
  rw [As]
  rfl
 refine Z12 ?_;refine Ez ?_;refine Wi jA ?_;refine A5 ?_
 refine Ep jU Tryz.type69 ?_ ?_ ?_
 ·have h1:=Jm c take;have h2:=U5 hr;simp [Tryz.t69];omega
 ·have h1:=Jm c take;have h2:=U5 hr;simp [Tryz.t69];omega
 refine Wj jS ?_;refine A2 [8] ?_;refine Z76 ?_
 have e10:(Eg c take).map C0++give.map C0=(Eg c take++give).map C0:=(Bq ..).symm
 rw [e10]
 generalize hout:Eg c take++give=out
 have ho:OkCols out:=AB6 hc hr hg hg2 hout
 refine A5 ?_;refine Aa Tryz.call212 (AOy out ho _) ?_;refine Z0 ?_;refine A2 [8,28] ?_
 refine A4 (fun ht28=>?_) (fun ht28=>?_)
 ·have hn:L8 out=false:=by simpa using ht28
  refine Z2 ?_;refine zj ?_;refine Z5 ?_;exact A8 (B1 A9 A9) ⟨by rw [AB2 hr hk hout hn];try rfl,rfl⟩
 have hn:L8 out=true:=by simpa using ht28
 refine Z2 ?_;refine Aa Tryz.call50 (c50 out ho _) ?_;refine Z0 ?_;refine A2 [8,32] ?_
 refine A4 (fun ht32=>?_) (fun ht32=>?_)
 ·have hq:L2 out=false:=by rw [N6] at ht32;simpa using ht32
  refine Z2 ?_;refine zj ?_;refine Z5 ?_;exact A8 (B1 A9 A9) ⟨by rw [AB3 hr hk hout hn hq];try rfl,rfl⟩
 have hq:L2 out=true:=by rw [N6] at ht32;simpa using ht32
 refine Z23 ?_;refine A2 [8,36] ?_
 refine A4 (fun ht36=>?_) (fun ht36=>?_)
 ·have h12:12<out.length:=by simp at ht36;omega
  refine Z2 ?_;refine zj ?_;refine Z5 ?_;exact A8 (B1 A9 A9) ⟨by rw [AB4 hr hk hout hn hq h12];try rfl,rfl⟩
 have h12:¬12<out.length:=by simp at ht36;omega
 refine Z19 ?_;refine Z15 ?_;refine Z17 ?_;exact A8 (B1 A9 A9) ⟨by rw [AB5 hr hk hout hn hq h12];try rfl,rfl⟩

theorem c6u (c:List Col) (Hp:List AObj):AFun Tryz.prog 9 [An c] Hp (Az (Lu c)):=by
 refine Ae [.tmp 2] [0] Tryz.func9 Tryz.ntmps9 (fun d=>?_)
 refine mz ?_;refine A2 [0,6] ?_
 refine A4 (fun ht6=>?_) (fun ht6=>?_)
 ·rw [Ao] at ht6
  have hm:Lu c=true:=by unfold Lu;rw [ht6];rfl
  exact AE5
 rw [Ao] at ht6
 have hl50:c.length≤50:=by simp at ht6;omega
 refine Oi ?_;refine Nv ?_
 refine Bf (α:=Nat) (fun x=>⟨20,A6 0 (An c) (A6 3 (A3 (x:Nat)) (fun _=>.any)),Hp,[],[],none⟩) (fun x=>x≤c.length∧∀(j:Nat) (v:Col),j<x→c[j]? = some v→decide ((100:Int)<(v.name.length:Int))=false) (fun x=>c.length-x) (0) ⟨Ar _,fun j v h=>by omega⟩ (Bj (by simp)) rfl (fun x hx=>?_)
 refine Z83 ?_;refine A2 [0,3,10] ?_
 refine A4 (fun ht10=>?_) (fun ht10=>?_)
 ·have hlt:x<c.length:=by simpa using ht10
  refine Oh ?_;refine Z1 ?_
  refine A5 (h:=Ai (x) (C0 c[x]) (fun _=>B6 hlt)) (hr:=?_)
  refine Z57 ?_;refine A2 [0,3,19] ?_
  refine A4 (fun ht19=>?_) (fun ht19=>?_)
  ·have hm:Lu c=true:=by unfold Lu;rw [Dq];exact .inr (H9.2 ⟨c[x],Be hlt,ht19⟩)
   refine Z58 ?_;exact mt
  refine Z19 ?_;refine Z44 ?_
  refine A5 (h:=Qp (h1:=fun _=>by omega) (h2:=fun _=>by omega)) (hr:=?_)
  refine A5 ?_;refine Nv ?_;exact AKg
 have hxe:c.length≤x:=by simpa using ht10
 have hm:Lu c=false:=by
  unfold Lu
  rw [ht6,F6,I2]
  intro v hv
  obtain ⟨j,hj⟩:=C8 hv
  have:=hx.2 j v (by have:=(Ad.1 hj).1;omega) hj
  rw [this]
  simp
 refine Pu ?_;exact AHt

/-- law18.Wide. -/
def oh (m:Mov):Bool:=(((((Lu m.give || decide ((20:Int)<(m.take.length:Int))) || decide ((20:Int)<(m.ahead.length:Int))) || decide ((20:Int)<(m.back.length:Int))) || m.take.any fun s=>decide ((100:Int)<(s.length:Int))) || m.ahead.any S8) || m.back.any S8
def ABt (l:List Mov):Bool:=decide ((12:Int)<(l.length:Int)) || l.any oh
theorem ke {α:Type} {p:α→Bool} {l:List α} {x:Nat} (h:l.length≤x) (hp:∀(j:Nat) (v:α),j<x→l[j]? = some v→p v=false):l.any p=false:=by
 rw [I2]
 intro v hv
 obtain ⟨j,hj⟩:=C8 hv
 rw [hp j v (by have:=(Ad.1 hj).1;omega) hj]
 simp
theorem Sl {n:Nat} {m:Mov}:∀y∈Ng m,Low n y:=by
 intro y hy
 simp only [Ng,B4,E2,or_false] at hy
 rcases hy with rfl|rfl|rfl|rfl|rfl<;>simp [or_imp,forall_and,Ah]
theorem kg {n:Nat} {m:Mov}:Low n (Jo m):=Go.SX.low_agg.2 Sl
theorem Sm {n k:Nat} {o:Bool} {l:List Mov}:Low n (.slice o k (l.map Jo)):=low_slice.2 fun y hy=>by
 obtain ⟨m,_,rfl⟩:=C2.1 hy
 exact kg
theorem Lx {α:Type} {p:α→Bool} (l:List α):(l.any fun s => !(p s)) = !(l.all p):=by
 induction l with
 | nil=>rfl
 | cons a r ih=>rw [List.any_cons,List.all_cons,ih];cases p a<;>simp
theorem c63 (n:Nat) (e:Expr) (hok:okE n e) (hn:n≤1048576) (c:List Col) (hc:OkCols c) (w:Int) (Hp:List AObj):AFun Tryz.prog 63 [A7 e,An c,A3 w] Hp (Az (kc e c w)):=by
 refine Ae [.tmp 6] [0,1,2] Tryz.func63 Tryz.ntmps63 (fun d=>?_)
 refine Z1 ?_;refine A2 [1,2,3] ?_;refine Z1 ?_;refine Aa Tryz.call62 (c62 n e hok hn c hc _) ?_;refine Z81 ?_;refine A2 [2,7,8] ?_;refine Z15 ?_;refine Pw ?_;refine Wo ?_;refine Z72 ?_;exact A8 (Ak A9) ⟨by unfold kc;rfl,rfl⟩

theorem AF6 {c:List Col} {m:Mov} (h:(m.kind==3)=false):Ck c m=m.give:=by unfold Ck;rw [if_neg (by rw [h];simp)]
theorem AF7 {c:List Col} {m:Mov} {s:Str} {y:Col} (h:(m.kind==3)=true) (ht:m.take=[s]) (hg:m.give=[y]) (hf:Aw s c<0):Ck c m=[y]:=by
 unfold Ck
 rw [if_pos h,ht,hg]
 exact if_pos hf
theorem ABu {c:List Col} {m:Mov} {s:Str} {y:Col} (h:(m.kind==3)=true) (ht:m.take=[s]) (hg:m.give=[y]) (hf:¬Aw s c<0):Ck c m=[⟨y.name,(c.getD (Aw s c).toNat ⟨[],0⟩).kind⟩]:=by
 unfold Ck
 rw [if_pos h,ht,hg]
 exact if_neg hf
theorem ki (l:List Col):∀x∈l.map C0,x.cells.length=2:=by
 intro x hx
 obtain ⟨c,_,rfl⟩:=C2.1 hx
 rfl
theorem ru {c:Col} {y:AV} (h:y∈(C0 c).cells):y=Ac c.name∨y=A3 c.kind:=by
 have h':y∈[Ac c.name,A3 c.kind]:=h
 simpa using h'
theorem kj (l:List Col):∀x∈l.map C0,∀y∈x.cells,y.one=true:=by
 intro x hx y hy
 obtain ⟨c,_,rfl⟩:=C2.1 hx
 rcases ru hy with rfl|rfl<;>rfl
theorem Y3 (l:List Col):∀x∈l.map C0,∀y∈x.cells,y.strip=y:=by
 intro x hx y hy
 obtain ⟨c,_,rfl⟩:=C2.1 hx
 rcases ru hy with rfl|rfl<;>rfl
theorem ABv {α:Type} {l:List α} (h:l.length=1):∃y,l=[y]:=by
 match l,h with
 | [y],_=>exact ⟨y,rfl⟩
theorem rx {c:List Col} {s:Str} (hf:¬Aw s c<0):(c.map C0)[(Aw s c).toNat]? = some (C0 (c.getD (Aw s c).toNat ⟨[],0⟩)):=by
 obtain ⟨j,hj,hjl⟩:=Fl hf
 rw [hj,Int.toNat_natCast,Bz,Ab hjl,Bw,Ab hjl]
 rfl
end Go.SX.Nb
namespace Go.SX
variable [GI:GlobInv]
open Classical
variable {P:Program} {d:Nat} {ops:Array Oper} {rest:List Oper} {sz:Nat} {fr:Nat→AV} {up own:List AObj} {dfs:List Nat} {rnd:Option Nat} {Q:St→Prop} {s:Nat} {ty:TypeId} {pos:String} {aft:Array Edge}
/-- Whether a slice is nil is known only of one that has elements. -/
theorem R.eqlNil {t e u:TypeId} {x y:Operand} {o:Bool} {k:Nat} {xs:List AV} (ht:P.underlying t=some (.slice e)) (hg:P.eqGuardType P.depth t=false)
  (hr:∀b:Bool,(b=true→xs=[])→ARun P d ops rest ⟨sz,A6 s (.v (.bool b)) fr,up,own,dfs,rnd⟩ Q)
  (hx:B5 fr x=.slice o k xs:=by exact sL0) (hy:B5 fr y=.nil:=by exact sL0) (hs:Nat.blt s sz=true:=by rfl):
  ARun P d ops (⟨some s,.binOp .eql t x y u,ty,pos,aft,none⟩::rest) ⟨sz,fr,up,own,dfs,rnd⟩ Q:=by
 refine W7 rfl (Q1:=fun s'=>∃b:Bool,(b=true→xs=[])∧s'=⟨sz,A6 s (.v (.bool b)) fr,up,own,dfs,rnd⟩) ?_ (by rintro _ ⟨b,hb,rfl⟩;exact hr b hb)
 intro G a w hrel Q'
 have h1:=hrel.eval x
 rw [show St.ev ⟨sz,fr,up,own,dfs,rnd⟩ x=.slice o k xs from hx] at h1
 have h2:=hrel.eval y
 rw [show St.ev ⟨sz,fr,up,own,dfs,rnd⟩ y=.nil from hy] at h2
 have key:∀b:Bool,(b=true→xs=[])→(execOp a.eval ⟨some s,.binOp .eql t x y u,ty,pos,aft,none⟩).run P w=.ok (.value (.bool b)) w →
   Oper.wpIn (Fr ((St.mk sz fr up own dfs rnd).rnd.map G.blk)) 0 P ⟨some s,.binOp .eql t x y u,ty,pos,aft,none⟩ a w (Post d ⟨sz,fr,up,own,dfs,rnd⟩ G w (fun s'=>∃b:Bool,(b=true→xs=[])∧s'=⟨sz,A6 s (.v (.bool b)) fr,up,own,dfs,rnd⟩)) Q':=fun b hb hv =>
  D7 (by intro c h;cases h) hv ⟨G,_,hrel.put (y:=.v (.bool b)) (by simpa using hs) (.v _ _),Fq d G w,rfl,rfl,rfl,b,hb,rfl⟩
 generalize hya:a.eval y=vy at h2
 generalize hxa:a.eval x=vx at h1
 cases h2
 cases h1 with
 | slice0=>exact key true (fun _=>rfl) (by simp only [execOp,hxa,hya,eqGuard];simp [Lib.run_eql_slice_nil _ _ _ _ _ _ _ _ ht,hg])
 | sliceE=>exact key false (fun h=>by cases h) (by simp only [execOp,hxa,hya,eqGuard];simp [Lib.run_eql_slice_nil _ _ _ _ _ _ _ _ ht,hg])
 | slice=>exact key false (fun h=>by cases h) (by simp only [execOp,hxa,hya,eqGuard];simp [Lib.run_eql_slice_nil _ _ _ _ _ _ _ _ ht,hg])
/-! A guarded slice that may be appended to. -/
end Go.SX
namespace Go.SX
variable [GI:GlobInv]
open Classical
section
variable {P:Program} {d:Nat}
/-- A call that returns and may leave more objects than it found; they are the caller's. -/
def ACallO (P:Program) (g:FuncId) (args:List AV) (H:List AObj) (post:AV→List AObj→Prop):Prop:=
 ∀(d:Nat) (G:Gh) (w:World) (vs:Array Value),vs.size=args.length→(∀(i:Nat) (y:AV) (u:Value),args[i]? = some y→vs[i]? = some u→Rep G w (some (.slot (d+1) i)) y u)→HeapRel G H w→TagOK G w→GI.bd≤d →
  CallsIn Fence.wide 0 P g vs w (fun e w'=>∃(v:Value) (G':Gh) (r:AV) (H':List AObj),e=.returned v∧Rep G' w' none r v∧HeapRel G' H' w'∧TagOK G' w'∧Keep (d+1) G w G' w'∧post r H')
/-- What is asked at a body's end: the first j of its objects are handed back. -/
def FO (P:Program) (rs:List ResultVar) (n:Nat) (post:AV→List AObj→Prop) (e:Exit) (st':St):Prop:=
 (e=.normal∨e=.ret)∧st'.defs=[]∧∃(r:AV) (rv:ResultVar) (j:Nat),rs=[rv]∧ResV P st' rv r∧Low (n+j) r∧(∀x∈st'.up++st'.own.take j,ObjLow (n+j) x)∧j≤st'.own.length∧post r (st'.up++st'.own.take j)
theorem ACallO.ofBody {g:FuncId} {fn:Func} {c:Code} {args:List AV} {H:List AObj} {post:AV→List AObj→Prop} {rs:List ResultVar} {n:Nat} (hf:P.funcs[g]? = some fn) (hb:fn.body=some c) (hrs:fn.results=rs.toArray)
  (hn:fn.ntmps=n) (hargs:args.length≤n) (h:∀d,AW P (d+1) c ⟨n,argsF args,H,[],[],none⟩ (FO P rs H.length post)):ACallO P g args H post:=by
 intro d G w vs hvs hrep hH hT hTop
 refine callsIn_of_wp_marks hf hb trivial ?_
 have hst:StRel (d+1) G ⟨n,argsF args,H,[],[],none⟩ { tmps:=vs++Array.replicate (fn.ntmps-vs.size) undef,defers:=[] } w:=by
  refine ⟨?_,fun s=>?_,by simpa using hH,(by rw [G5 hTop];rfl),(fun o ho=>by simp at ho),Lp,(fun o ho=>by simp at ho),hT,(fun l hl=>by cases hl),fun x hx=>?_,Mt hTop⟩
  ·simp only [M0,cq,hvs,hn];omega
  ·show Rep G w _ (args.getD s (.v undef)) _
   rw [Bw,Jg]
   rcases Bk s args.length with h'|h'
   ·rw [Ab h',Kn (by omega),E9 (by omega)]
    exact hrep s _ _ (Ab h') (E9 (by omega))
   rw [Ge h',Ny (by omega)]
   simp only [Option.getD_none]
   have:((Array.replicate (fn.ntmps-vs.size) undef)[s-vs.size]?).getD undef=undef:=by
    rw [Nz];split<;>rfl
   rw [this]
   exact .v _ _
  obtain ⟨i,hi⟩:=C8 hx
  have hob:=hH.obj i x hi
  show ObjLow H.length x
  rw [←hH.n]
  exact hob.low
 have hw:=h d G _ w hst
 refine wpIn_mono hw ?_
 rintro e a' w' ⟨G1,st',h1,k1,e1,e2,e3,hcase,hdefs,r,rv,j,rfl,hres,hlow,hobjs,hj,hpost⟩
 have fin:LeavesInM Fence.wide 0 P fn a'.tmps (fun e w'=>∃(v:Value) (G':Gh) (r:AV) (H':List AObj),e=.returned v∧Rep G' w' none r v∧HeapRel G' H' w'∧TagOK G' w'∧Keep (d+1) G w G' w'∧post r H') a'.defers .returning w':=by
  rw [h1.defs,hdefs,G5 hTop]
  obtain ⟨v,hv,hr⟩:=hres.run h1
  have hupl:st'.up.length=H.length:=e1
  have hgn:G1.n=st'.up.length+st'.own.length:=by rw [h1.heap.n,Av]
  have hget:∀(i:Nat) (x:AObj),(st'.up++st'.own.take j)[i]? = some x→(st'.up++st'.own)[i]? = some x:=fun i x hx=>by
   rcases Bk i st'.up.length with h'|h'
   ·rw [Dr h'] at hx ⊢;exact hx
   rw [Ds h'] at hx ⊢
   rw [Ha] at hx
   split at hx
   ·exact hx
   cases hx
  refine ⟨v,by simp [Fu,hrs,hv],v,{ G1 with n:=H.length+j },r,st'.up++st'.own.take j,rfl,hr.cut hlow,⟨fun i x hx=>(h1.heap.obj i x (hget i x hx)).cut (hobjs x (B2 hx)),?_,fun a b ha hb' e=>?_⟩,
   ⟨h1.tags.ex,h1.tags.obj,h1.tags.tail,h1.tags.globCut (by rw [hgn];omega)⟩,?_,hpost⟩
  ·show H.length+j=_
   rw [Av,Cy,qe hj,hupl]
  ·exact h1.heap.inj a b (by rw [hgn];simp only at ha;omega) (by rw [hgn];simp only at hb';omega) e
  have hGn:G.n=H.length:=hH.n
  exact ⟨k1.fix,k1.slot,by rw [hGn];exact Nat.le_add_right _ _,k1.blk,k1.os,k1.tape,k1.output,k1.size,k1.old.cut (by rw [hgn];omega)⟩
 rcases hcase with rfl|rfl
 ·exact fin
 exact fin
end
section
variable {P:Program} {d:Nat} {ops:Array Oper} {rest:List Oper} {sz s:Nat} {fr:Nat→AV} {up own:List AObj} {dfs:List Nat} {rnd:Option Nat} {Q:St→Prop} {ty:TypeId} {pos:String} {aft:Array Edge}
theorem ACallO.body {g:FuncId} {fn:Func} {c:Code} {args:List AV} {H:List AObj} {post:AV→List AObj→Prop} {fr':Nat→AV} (rs:List ResultVar) (l:List Nat) {n:Nat} (hf:P.funcs[g]? = some fn) (hn:fn.ntmps=n)
  (h:∀d,AW P (d+1) c ⟨n,fr',H,[],[],none⟩ (FO P rs H.length post)) (hb:fn.body=some c:=by rfl) (hrs:fn.results=rs.toArray:=by rfl) (hargs:args.length≤n:=by exact sL1)
  (hk:Nq l (argsF args)=fr':=by exact sL0):ACallO P g args H post:=
 ACallO.ofBody hf hb hrs hn hargs (fun d=>ae l hk (h d))
/-- The end of such a body. -/
theorem K.finO {rs:List ResultVar} {n:Nat} {post:AV→List AObj→Prop} {r:AV} {rv:ResultVar} {st:St} (j:Nat) (hres:ResV P st rv r) (hp:post r (st.up++st.own.take j)) (hlow:Low (n+j) r) (hobj:∀x∈st.up++st.own.take j,ObjLow (n+j) x)
  (hd:st.defs=[]:=by rfl) (hr:rs=[rv]:=by rfl) (hj:j≤st.own.length:=by simp):FO P rs n post .ret st:=⟨.inr rfl,hd,r,rv,j,hr,hres,hlow,hobj,hj,hp⟩
/-- A call of such a function. -/
theorem R.callO {g:FuncId} {xs:List Operand} {ats:Array TypeId} {args:List AV} {post:AV→List AObj→Prop} (hcall:∀args w,(callFunc g args).run P w=.ok (.enter g args) w)
  (h:ACallO P g args (up++own) post) (hp:∀r H',post r H'→∃O,H'=up++(own++O)∧ARun P d ops rest ⟨sz,A6 s r fr,up,own++O,dfs,rnd⟩ Q)
  (ha:xs.map (B5 fr)=args:=by exact sL0) (hs:Nat.blt s sz=true:=by rfl):
  ARun P d ops (⟨some s,.call ⟨.value (.func g),xs.toArray,ats⟩,ty,pos,aft,none⟩::rest) ⟨sz,fr,up,own,dfs,rnd⟩ Q:=by
 refine W7 rfl (Q1:=fun s'=>ARun P d ops rest s' Q) ?_ (fun s' e=>e)
 intro G a w hr Q'
 have hs:s<sz:=by simpa using hs
 have hxr:=Rt hr xs
 have ha':xs.map (St.ev ⟨sz,fr,up,own,dfs,rnd⟩)=args:=ha
 rw [ha'] at hxr
 have hrun:(execOp a.eval (⟨some s,.call ⟨.value (.func g),xs.toArray,ats⟩,ty,pos,aft,none⟩:Oper)).run P w=.ok (.enter g (xs.map a.eval).toArray) w:=by
  have:=Qo (P:=P) (dst:=some s) (ty:=ty) (pos:=pos) (aft:=aft) (gd:=none) (ats:=ats) (f:=.func g) (xs:=xs) (g:=g) (va:=#[]) (vc:=#[]) (a:=a) (w:=w) hcall rfl
  simpa using this
 refine Qn (by intro c h;cases h) hrun (h d G w _ (by rw [←ha'];simp) (fun i y u hy hu=>(hxr i y u hy hu).lift) hr.heap hr.tags hr.top) ?_
 rintro e w' ⟨v,G',r,H',rfl,hrep,hH,hT,hk,hpo⟩
 obtain ⟨O,rfl,hrn⟩:=hp r H' hpo
 have h3:=hr.called (U:=up) (O:=own++O) hH hT hk rfl rfl (fun o ho=>by
  have:=hr.defsAt o ho
  rw [←Ax,Dr (Ad.1 this).1]
  exact this) hr.low
 obtain ⟨h4,k4⟩:=h3.took hrep.lift (s:=s) hs
 exact ⟨v,rfl,_,_,h4,(hk.less (I6 d)).trans k4,rfl,rfl,rfl,hrn⟩
end
end Go.SX
