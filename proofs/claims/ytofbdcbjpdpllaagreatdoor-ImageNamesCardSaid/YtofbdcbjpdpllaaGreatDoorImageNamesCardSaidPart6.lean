/- On the way (part 6). -/
import Derived.ReadAgain
import Derived.ChangeSame
import Derived.ChangeArms
import Derived.ChangeOld
import Derived.ChangeFn
import Derived.MapPlaces
import Derived.DataReads
import Derived.OpenShut
import Derived.RowKit
import Derived.Deep.DeepHandedRow
import Derived.Test.YtofbdcbjpdpllaaGreatDoorCards
import Derived.Test.YtofbdcbjpdpllaaGreatDoorTie
import Derived.Lay
import Derived.Lib.LaidTab
import Derived.Stop.LaidErr
import Derived.Shelf.Vars
import Derived.ChangeBears
import Derived.Lib.SliceRun
import Derived.Test.YtofbdcbjpdpllaaGreatDoorImageNamesCardSaidPart5
set_option linter.all false
namespace Go.SX
variable [GI:GlobInv]
open Classical Go.RowKit Go.ChangeShapes
section
variable {P:Program} {H:Type} {enc:TypeId×Value→H}

/-- The first ghost: whatever lies there is read for good. -/
noncomputable def G0 (W:World):Gh:=⟨fun b o=>if (W.cell? ⟨b,o,none⟩).isSome then .fix else .free,fun _=>0,0⟩
theorem ABy {W:World} {b o:Nat} {u:Value} (h:W.cell? ⟨b,o,none⟩=some u):(G0 W).tag b o=.fix:=by simp [G0,h]
theorem Rc {W:World} {b:Nat} (h:b<W.heap.size):Ks (G0 W) W b:=⟨h,fun o=>by simp only [G0];split<;>simp,fun i hi=>absurd hi (Nat.not_lt_zero _)⟩
theorem yh (W:World):HeapRel (G0 W) [] W:=⟨fun i x h=>by simp at h,rfl,fun i j hi=>absurd hi (Nat.not_lt_zero _)⟩
theorem yi {W:World} (h:Jw W):TagOK (G0 W) W:=by
 refine ⟨fun b o hb=>?_,fun b o i hb=>?_,fun b o L hb=>?_,fun x hx=>?_⟩
 ·simp only [G0] at hb
  split at hb
  ·rename_i hs;exact Option.isSome_iff_exists.1 hs
  exact absurd rfl hb
 ·simp only [G0] at hb;split at hb<;>cases hb
 ·simp only [G0] at hb;split at hb<;>cases hb
 obtain ⟨v,h1,h2⟩:=h x hx
 exact ⟨Rc (M9.1 h1).1,v,h1,h2⟩

/-- What a datum of a plain type AFm as. -/
inductive DRep (P:Program):TypeId→DataW H→AV→Prop
 | int {t:TypeId} {k:IntKind} {n:Int} (hu:P.underlying t=some (.int k)) (wf:(Lit.int k n).wf=true):DRep P t (.lit (.int k n)) (.v (.int k n))
 | bool {t:TypeId} {b:Bool} (hu:P.underlying t=some .bool):DRep P t (.lit (.bool b)) (.v (.bool b))
 | str {t:TypeId} {bs:List UInt8} (hu:P.underlying t=some .string):DRep P t (.lit (.string bs)) (.v (sv bs))
 | nil {t e:TypeId} (hu:P.underlying t=some (.slice e)):DRep P t .nil (.slice false (P.cellsOf e) [])
 | slice {t e:TypeId} {elems spare:List (DataW H)} {ys:List AV} (hu:P.underlying t=some (.slice e)) (hn:ys.length=elems.length)
   (h:∀(i:Nat) (d:DataW H) (y:AV),elems[i]? = some d→ys[i]? = some y→DRep P e d y):DRep P t (.slice elems spare) (.slice false (P.cellsOf e) ys)
 | struct {t:TypeId} {fs:Array Field} {parts:List (DataW H)} {ys:List AV} (hu:P.underlying t=some (.struct fs)) (hn:parts.length=fs.size) (hn':ys.length=fs.size)
   (h:∀(i:Nat) (f:Field) (d:DataW H) (y:AV),fs[i]? = some f→parts[i]? = some d→ys[i]? = some y→DRep P f.type d y):DRep P t (.agg parts) (.agg (ys.flatMap AV.cells))

/-- Types that are made of numbers, texts, bools, slices and structs alone. -/
structure PlainT (P:Program) (T:TypeId→Prop):Prop where
 look:∀t,T t→(P.cellsOf t=1∧((∃k,P.underlying t=some (.int k))∨P.underlying t=some .bool∨P.underlying t=some .string∨(∃e,P.underlying t=some (.slice e)∧T e∧0<P.cellsOf e))) ∨
  (∃fs,P.underlying t=some (.struct fs)∧(∀f∈fs.toList,T f.type)∧P.cellsOf t=(fs.toList.map fun f=>P.cellsOf f.type).sum ∧
   ∀(j:Nat) (f:Field),fs.toList[j]? = some f→f.offset=((fs.toList.take j).map fun f=>P.cellsOf f.type).sum)

/-- The reading of a row of cells. -/
def CRep (W:World) (y:AV) (cs:List Value):Prop:=
 y.cells.length=cs.length∧(∀c∈y.cells,c.one=true)∧∀(j:Nat) (c:AV) (v:Value),y.cells[j]? = some c→cs[j]? = some v→Rep (G0 W) W none c v

theorem CRep.v1 {W:World} {x:Value} (h:x.oneCell'=true):CRep W (.v x) [x]:=
 ⟨rfl,by simp [AV.cells,AV.one,h],fun j c v h1 h2=>by
  match j with
  | 0=>simp [AV.cells] at h1 h2;subst h1;subst h2;exact .v _ _
  | j+1=>simp [AV.cells] at h1⟩

theorem cp {f:AV→List AV}:∀(ys:List AV) (j:Nat) (c:AV),(ys.flatMap f)[j]? = some c→∃(i:Nat) (y:AV) (q:Nat),ys[i]? = some y∧(f y)[q]? = some c∧j=((ys.take i).map fun y=>(f y).length).sum+q
 | [],j,c,h=>by simp at h
 | y::r,j,c,h=>by
  rw [f7] at h
  rcases B3 j (f y).length with h'|h'
  ·rw [Cg h'] at h
   exact ⟨0,y,j,rfl,h,by simp⟩
  rw [Ck h'] at h
  obtain ⟨i,z,q,h1,h2,h3⟩:=cp r _ c h
  exact ⟨i+1,z,q,h1,h2,by simp only [List.take_succ_cons,Bt,List.sum_cons];omega⟩
theorem N5 {α:Type} {R:Nat→α→Prop}:∀(n:Nat),(∀i,i<n→∃y,R i y)→∃ys:List α,ys.length=n∧∀(i:Nat) (y:α),ys[i]? = some y→R i y
 | 0,_=>⟨[],rfl,fun i y h=>by simp at h⟩
 | n+1,h=>by
  obtain ⟨ys,h1,h2⟩:=N5 n (fun i hi=>h i (by omega))
  obtain ⟨y,hy⟩:=h n (by omega)
  refine ⟨ys++[y],by simp [h1],fun i z hz=>?_⟩
  rcases B3 i n with h'|h'
  ·rw [Cg (by omega)] at hz;exact h2 i z hz
  rw [Ck (by omega)] at hz
  have:i=n:=by
   have:=(Ab.1 hz).1
   simp at this;omega
  subst this
  rw [h1] at hz
  simp at hz
  exact hz ▸ hy
theorem P3 {α β:Type} {f:α→Nat} {g:β→Nat}:∀(l:List α) (m:List β),l.length=m.length→(∀(i:Nat) (a:α) (b:β),l[i]? = some a→m[i]? = some b→f a=g b)→(l.map f).sum=(m.map g).sum
 | [],[],_,_=>rfl
 | [],b::m,h,_=>by simp at h
 | a::l,[],h,_=>by simp at h
 | a::l,b::m,h,hh=>by
  simp only [Bt,List.sum_cons]
  rw [hh 0 a b rfl rfl,P3 l m (by simpa using h) (fun i a b h1 h2=>hh (i+1) a b h1 h2)]

theorem uc {T:TypeId→Prop} (PT:PlainT P T) {W:World}:∀(n:Nat) (t:TypeId) (cs:List Value) (x:DataW H×List MemPlace),T t→DataW.trod enc P W 0 (fun _=>true) true n t cs=some x →
  ∃y,DRep P t x.1 y∧CRep W y cs∧cs.length=P.cellsOf t:=by
 intro n
 induction n with
 | zero=>intro t cs x _ h;simp [DataW.trod] at h
 | succ n ih =>
  intro t cs x hT h
  rcases PT.look t hT with ⟨hc1,⟨k,hu⟩|hu|hu|⟨e,hu,he,hz⟩⟩|⟨fs,hu,hf,hsum,hoff⟩
  ·obtain ⟨m,rfl,rfl,hw⟩:=DataW.trod_int hu h
   exact ⟨_,.int hu hw,.v1 rfl,hc1.symm⟩
  ·obtain ⟨b,rfl,rfl⟩:=DataW.trod_bool hu h
   exact ⟨_,.bool hu,.v1 rfl,hc1.symm⟩
  ·obtain ⟨s,rfl,rfl,_⟩:=DataW.trod_string hu h
   exact ⟨_,.str hu,.v1 rfl,hc1.symm⟩
  ·rcases DataW.trod_slice hu h with ⟨rfl,rfl⟩|⟨a,len,cap,elems,rest,m,hm,rfl,rfl,hb,hlc,hcm,hel,hE,_,_⟩
   ·refine ⟨_,.nil hu,⟨rfl,by simp [AV.cells,AV.one],fun j c v h1 h2=>?_⟩,hc1.symm⟩
    match j with
    | 0=>simp [AV.cells] at h1 h2;subst h1;subst h2;exact .slice0 _ _ _
    | j+1=>simp [AV.cells] at h1
   injection hm with hm
   subst hm
   subst hel
   have hEi:∀i,i<elems.length→∃y,(∀d,elems[i]? = some d→DRep P e d.1 y)∧∃ci,W.cells? 0 (a.add (i*P.cellsOf e)) (P.cellsOf e)=some ci∧CRep W y ci:=fun i hi=>by
    have h1:=hE i hi
    rw [Aa hi,Option.bind_eq_some_iff] at h1
    obtain ⟨ci,h2,h3⟩:=h1
    obtain ⟨y,h4,h5,_⟩:=ih e ci _ he h3
    exact ⟨y,fun d hd=>by rw [Aa hi] at hd;injection hd with hd;subst hd;exact h4,ci,h2,h5⟩
   obtain ⟨ys,hyl,hys⟩:=N5 elems.length hEi
   refine ⟨.slice false (P.cellsOf e) ys,.slice hu (by simp [hyl]) (fun i d y hd hy=>?_),⟨rfl,by simp [AV.cells,AV.one],fun j c v h1 h2=>?_⟩,hc1.symm⟩
   ·rw [C9,Dq] at hd
    obtain ⟨d',hd',rfl⟩:=hd
    exact (hys i y hy).1 d' hd'
   match j with
   | j+1=>simp [AV.cells] at h1
   | 0 =>
    simp [AV.cells] at h1 h2
    subst h1;subst h2
    by_cases h0:elems.length=0
    ·have:ys=[]:=Qp (by omega)
     subst this
     rw [h0]
     exact .sliceE _ _ _ _
    have hspot:a.spot=none:=by
     obtain ⟨ci,hci,_⟩:=(hys 0 ys[0] (Aa (by omega))).2
     obtain ⟨_,g1,g2⟩:=World.cells?_some hci
     have g3:=g2 0 hz
     rw [Aa (by omega)] at g3
     simp only [Nat.zero_mul,Addr.add,if_true] at g3
     unfold World.cell? at g3
     split at g3
     ·split at g3
      ·cases g3
      rename_i hs;simpa using hs
     cases g3
    refine .slice _ false _ ys a _ cap (fun i j=>(W.cell? ⟨a.block,a.off+i*P.cellsOf e+j,none⟩).getD undef) hspot hyl.symm hlc (fun x hx=>?_) (fun x hx=>?_) (fun i x j y hx hy=>?_) (fun i x j y hx hy=>?_) (fun h=>by cases h)
    ·obtain ⟨i,hi⟩:=Cc hx
     obtain ⟨ci,hci,hcr⟩:=(hys i x hi).2
     rw [hcr.1]
     exact (World.cells?_some hci).2.1
    ·obtain ⟨i,hi⟩:=Cc hx
     obtain ⟨ci,hci,hcr⟩:=(hys i x hi).2
     exact hcr.2.1
    ·obtain ⟨ci,hci,hcr⟩:=(hys i x hx).2
     obtain ⟨_,g1,g2⟩:=World.cells?_some hci
     have hj:j<P.cellsOf e:=by
      have:=(Ab.1 hy).1
      rw [hcr.1] at this;omega
     have g3:=g2 j hj
     rw [Aa (by omega),Cb hspot,Cb rfl] at g3
     exact ⟨ABy g3,by rw [g3];rfl⟩
    obtain ⟨ci,hci,hcr⟩:=(hys i x hx).2
    obtain ⟨_,g1,g2⟩:=World.cells?_some hci
    have hj:j<P.cellsOf e:=by
     have:=(Ab.1 hy).1
     rw [hcr.1] at this;omega
    have g3:=g2 j hj
    rw [Aa (by omega),Cb hspot,Cb rfl] at g3
    simp only at g3
    rw [g3]
    exact hcr.2.2 j y _ hy (Aa (by omega))
  obtain ⟨xs,m,hm,rfl,hcl,hxl,hX⟩:=DataW.trod_struct hu h
  injection hm with hm
  subst hm
  have hXi:∀i,i<fs.size→∃y,∀(f:Field),fs[i]? = some f→(∀d,xs[i]? = some d→DRep P f.type d.1 y)∧CRep W y ((cs.drop f.offset).take (P.cellsOf f.type))∧y.cells.length=P.cellsOf f.type:=fun i hi=>by
   have h1:=hX i fs[i] (Ds hi)
   rw [Aa (by omega)] at h1
   obtain ⟨y,h2,h3,h4⟩:=ih _ _ _ (hf _ (by simp)) h1
   refine ⟨y,fun f hf'=>?_⟩
   rw [Ds hi] at hf'
   injection hf' with hf'
   subst hf'
   exact ⟨fun d hd=>by rw [Aa (by omega)] at hd;injection hd with hd;subst hd;exact h2,h3,by rw [h3.1,h4]⟩
  obtain ⟨ys,hyl,hys⟩:=N5 fs.size hXi
  have hlenI:∀(i:Nat),((ys.take i).map fun y=>y.cells.length).sum=((fs.toList.take i).map fun f=>P.cellsOf f.type).sum:=fun i=>by
   refine P3 _ _ (by simp [hyl]) (fun j y f h1 h2=>?_)
   rw [Gk] at h1 h2
   split at h1
   ·rename_i hj
    rw [if_pos hj] at h2
    exact (hys j y h1 f (by simpa using h2)).2.2
   cases h1
  have htot:(ys.flatMap AV.cells).length=cs.length:=by
   rw [List.length_flatMap,hcl,hsum]
   refine P3 _ _ (by simp [hyl]) (fun j y f h1 h2=>(hys j y h1 f (by simpa using h2)).2.2)
  refine ⟨.agg (ys.flatMap AV.cells),.struct hu (by simp [hxl]) hyl (fun i f d y hf' hd hy=>?_),⟨htot,fun c hc=>?_,fun j c v h1 h2=>?_⟩,hcl⟩
  ·rw [C9,Dq] at hd
   obtain ⟨d',hd',rfl⟩:=hd
   exact (hys i y hy f hf').1 d' hd'
  ·obtain ⟨y,hy,hcy⟩:=List.mem_flatMap.1 hc
   obtain ⟨i,hi⟩:=Cc hy
   have hlt:i<fs.size:=by rw [←hyl];exact (Ab.1 hi).1
   exact ((hys i y hi fs[i] (Ds hlt)).2.1).2.1 c hcy
  obtain ⟨i,y,q,g1,g2,rfl⟩:=cp ys j c h1
  have hlt:i<fs.size:=by rw [←hyl];exact (Ab.1 g1).1
  obtain ⟨_,k2,k3⟩:=hys i y g1 fs[i] (Ds hlt)
  have hq:q<P.cellsOf (fs[i]).type:=by have:=(Ab.1 g2).1;omega
  refine k2.2.2 q c v g2 ?_
  rw [Gk,if_pos hq,Fj,hoff i fs[i] (by simp [hlt]),←hlenI i]
  exact h2

/-- A measure of data. -/
structure Bulk (B:DataW H→Nat):Prop where
 str:∀bs,bs.length≤B (.lit (.string bs))
 slice:∀elems spare,elems.length≤B (.slice elems spare)∧∀d∈elems,B d≤B (.slice elems spare)
 agg:∀parts,∀d∈parts,B d≤B (.agg parts)
theorem DRep.int' {t:TypeId} {k:IntKind} {d:DataW H} {y:AV} (hu:P.underlying t=some (.int k)) (h:DRep P t d y):∃n,d=.lit (.int k n)∧y=.v (.int k n)∧k.min≤n∧n≤k.max:=by
 cases h with
 | int hu' wf=>rw [hu] at hu';injection hu' with e;injection e with e;subst e;exact ⟨_,rfl,rfl,by simpa [Lit.wf] using wf⟩
 | _ hu'=>rw [hu] at hu';cases hu'
theorem DRep.str' {t:TypeId} {d:DataW H} {y:AV} (hu:P.underlying t=some .string) (h:DRep P t d y):∃s,d=.lit (.string s)∧y=.v (sv s):=by
 cases h with
 | str hu'=>exact ⟨_,rfl,rfl⟩
 | _ hu'=>rw [hu] at hu';cases hu'
theorem DRep.slice' {t e:TypeId} {d:DataW H} {y:AV} {B:DataW H→Nat} (hB:Bulk B) {α:Type} (A:α→AV) (R:α→Prop) {b:Nat} (hu:P.underlying t=some (.slice e)) (h:DRep P t d y) (hb:B d≤b)
  (hE:∀d y,B d≤b→DRep P e d y→∃x,y=A x∧R x):∃l:List α,y=.slice false (P.cellsOf e) (l.map A)∧l.length≤b∧∀x∈l,R x:=by
 cases h with
 | nil hu'=>rw [hu] at hu';injection hu' with e';injection e' with e';subst e';exact ⟨[],rfl,Av _,fun x hx=>by cases hx⟩
 | slice hu' hn hh =>
  rw [hu] at hu';injection hu' with e';injection e' with e';subst e'
  rename_i elems spare ys
  obtain ⟨h1,h2⟩:=hB.slice elems spare
  have key:∀(ys:List AV) (es:List (DataW H)),ys.length=es.length→(∀d∈es,B d≤b)→(∀(i:Nat) (d:DataW H) (y:AV),es[i]? = some d→ys[i]? = some y→DRep P e d y)→∃l:List α,ys=l.map A∧∀x∈l,R x:=by
   intro ys
   induction ys with
   | nil=>exact fun es _ _ _=>⟨[],rfl,fun x hx=>by cases hx⟩
   | cons y ys ih =>
    intro es hl hb2 hr
    cases es with
    | nil=>simp at hl
    | cons d es =>
     obtain ⟨x,rfl,hx⟩:=hE d y (hb2 d (by simp)) (hr 0 d y rfl rfl)
     obtain ⟨l,rfl,hR⟩:=ih es (by simpa using hl) (fun d hd=>hb2 d (by simp [hd])) (fun i d y a c=>hr (i+1) d y a c)
     exact ⟨x::l,rfl,fun z hz=>by
      rcases Bg.1 hz with rfl|hz
      ·exact hx
      exact hR z hz⟩
  obtain ⟨l,rfl,hR⟩:=key ys elems hn (fun d hd=>Ij (h2 d hd) hb) hh
  exact ⟨l,rfl,by simp at hn;omega,hR⟩
 | _ hu'=>rw [hu] at hu';cases hu'
theorem DRep.struct' {t:TypeId} {fs:Array Field} {d:DataW H} {y:AV} {B:DataW H→Nat} (hB:Bulk B) (hu:P.underlying t=some (.struct fs)) (h:DRep P t d y):
  ∃ys:List AV,ys.length=fs.size∧y=.agg (ys.flatMap AV.cells)∧∀(i:Nat) (f:Field) (z:AV),fs[i]? = some f→ys[i]? = some z→∃d',B d'≤B d∧DRep P f.type d' z:=by
 cases h with
 | struct hu' hn hn' hh =>
  rw [hu] at hu';injection hu' with e';injection e' with e';subst e'
  rename_i parts ys
  refine ⟨ys,hn',rfl,fun i f z h1 h2=>?_⟩
  have hlt:i<parts.length:=by rw [hn];exact (M9.1 h1).1
  exact ⟨parts[i],hB.agg parts _ (Cl hlt),hh i f parts[i] z h1 (Aa hlt) h2⟩
 | _ hu'=>rw [hu] at hu';cases hu'

/-- An argument's reading. -/
theorem yj {T:TypeId→Prop} (PT:PlainT P T) {W:World} {t:TypeId} {v:Value} {d:DataW H} {ps:List MemPlace} {b0:Nat} (hT:T t) (hok:Value.okWide P W .any b0 t v) (h:DataW.Trod enc P W 0 (fun _=>true) true t v d ps):
  ∃y,DRep P t d y∧Rep (G0 W) W none y v:=by
 obtain ⟨n,hn⟩:=h
 obtain ⟨y,h1,h2,h3⟩:=uc PT n t _ _ hT hn
 refine ⟨y,h1,?_⟩
 rcases PT.look t hT with ⟨hc1,hone⟩|⟨fs,hu,_⟩
 ·have hva:∀cs,v≠.agg cs:=fun cs e=>by
   subst e
   rcases hone with ⟨k,hu⟩|hu|hu|⟨e,hu,he,hz⟩<;>simp [Value.okWide,hu,Cell.okWide,Cell.ok] at hok
  have hvc:v.cells=#[v]:=by cases v<;>first|rfl|exact absurd rfl (hva _)
  have hyc:y.cells=[y]:=by
   cases h1 with
   | struct hu=>rcases hone with ⟨k,hu'⟩|hu'|hu'|⟨e,hu',he,hz⟩<;>rw [hu] at hu'<;>cases hu'
   | _=>rfl
  have:=h2.2.2 0 y v (by rw [hyc];rfl) (by rw [hvc];rfl)
  exact this
 obtain ⟨cs,rfl,hsz,_⟩:∃cs,v=.agg cs∧cs.size=P.cellsOf t∧Row.okWide P W .any b0 t cs:=by
  simp only [Value.okWide,hu] at hok
  exact hok
 cases h1 with
 | struct hu' hn1 hn2 hh =>
  refine .agg _ _ _ (by have:=h2.1;simp only [AV.cells,Value.cells,Array.length_toList] at this;exact this.symm) h2.2.1 (fun i c u a b=>h2.2.2 i c u a (by simpa [Value.cells] using b))
 | int hu'=>rw [hu] at hu';cases hu'
 | bool hu'=>rw [hu] at hu';cases hu'
 | str hu'=>rw [hu] at hu';cases hu'
 | nil hu'=>rw [hu] at hu';cases hu'
 | slice hu'=>rw [hu] at hu';cases hu'

def DReps (P:Program):List TypeId→List (DataW H)→List AV→Prop
 | [],[],[]=>True
 | t::ts,d::ds,y::ys=>DRep P t d y∧DReps P ts ds ys
 | _,_,_=>False

theorem DReps.cons' {t:TypeId} {ts:List TypeId} {ds:List (DataW H)} {ys:List AV} (h:DReps P (t::ts) ds ys):∃d ds' y ys',ds=d::ds'∧ys=y::ys'∧DRep P t d y∧DReps P ts ds' ys':=by
 match ds,ys,h with
 | d::ds',y::ys',⟨h1,h2⟩=>exact ⟨d,ds',y,ys',rfl,rfl,h1,h2⟩
 | [],_,h=>simp [DReps] at h
 | _::_,[],h=>simp [DReps] at h
theorem DReps.nil' {ds:List (DataW H)} {ys:List AV} (h:DReps P [] ds ys):ds=[]∧ys=[]:=by
 match ds,ys,h with
 | [],[],_=>exact ⟨rfl,rfl⟩
 | [],_::_,h=>simp [DReps] at h
 | _::_,_,h=>simp [DReps] at h
theorem Xm {T:TypeId→Prop} (PT:PlainT P T) {W:World} {b0:Nat}:∀(ts:List TypeId) (vs:List Value) (ds:List (DataW H)) (ps:List MemPlace),(∀t∈ts,T t) →
  (∀(j:Nat) t v,ts[j]? = some t→vs[j]? = some v→Value.okWide P W .any b0 t v)→DataW.TrodAll enc P W 0 (fun _=>true) true ts vs ds ps →
  ∃ys,DReps P ts ds ys∧ys.length=vs.length∧∀(i:Nat) (y:AV) (u:Value),ys[i]? = some y→vs[i]? = some u→Rep (G0 W) W none y u
 | [],[],[],_,_,_,_=>⟨[],trivial,rfl,fun i y u h=>by simp at h⟩
 | t::ts,v::vs,d::ds,ps,hT,hok,⟨p,q,h1,h2,_⟩=>by
  obtain ⟨y,k1,k2⟩:=yj PT (hT t (by simp)) (hok 0 t v rfl rfl) h1
  obtain ⟨ys,k3,k4,k5⟩:=Xm PT ts vs ds q (fun t ht=>hT t (by simp [ht])) (fun j t v a b=>hok (j+1) t v a b) h2
  refine ⟨y::ys,⟨k1,k3⟩,by simp [k4],fun i z u a b=>?_⟩
  match i with
  | 0=>simp at a b;subst a;subst b;exact k2
  | i+1=>exact k5 i z u a b
 | [],_::_,_,_,_,_,h=>by simp [DataW.TrodAll] at h
 | [],[],_::_,_,_,_,h=>by simp [DataW.TrodAll] at h
 | _::_,[],_,_,_,_,h=>by simp [DataW.TrodAll] at h
 | _::_,_::_,[],_,_,_,h=>by simp [DataW.TrodAll] at h

theorem Sd {W:World} {sp:Nat→Bool} {hd:Bool}:∀{ts:List TypeId} {vs:List Value} {ds:List (DataW H)} {ps:List MemPlace},DataW.TrodAll enc P W 0 sp hd ts vs ds ps→ds.length=ts.length
 | [],[],[],_,_=>rfl
 | _::_,_::_,_::_,_,⟨_,_,_,h,_⟩=>by rw [Bh,Bh,Sd h]
 | [],_::_,_,_,h=>by simp [DataW.TrodAll] at h
 | [],[],_::_,_,h=>by simp [DataW.TrodAll] at h
 | _::_,[],_,_,h=>by simp [DataW.TrodAll] at h
 | _::_,_::_,[],_,h=>by simp [DataW.TrodAll] at h
theorem N6 {W W':World} {sp:Nat→Bool}:∀{ts:List TypeId} {vs:List Value} {ds:List (DataW H)} {ps:List MemPlace},DataW.TrodAll enc P W 0 sp true ts vs ds ps→(∀p∈ps,W.sameAt W' p)→DataW.TrodAll enc P W' 0 sp true ts vs ds ps
 | [],[],[],_,h,_=>h
 | _::_,_::_,_::_,_,⟨p,q,⟨n,hn⟩,h2,e⟩,hs=>⟨p,q,⟨n,DataW.trod_carry n _ _ _ hn (fun x hx=>hs x (by rw [e];exact Ym _ hx))⟩,N6 h2 (fun x hx=>hs x (by rw [e];exact Pf _ hx)),e⟩
 | [],_::_,_,_,h,_=>by simp [DataW.TrodAll] at h
 | [],[],_::_,_,h,_=>by simp [DataW.TrodAll] at h
 | _::_,[],_,_,h,_=>by simp [DataW.TrodAll] at h
 | _::_,_::_,[],_,h,_=>by simp [DataW.TrodAll] at h

/-- **A law that answers true, for whatever can be read.** -/
theorem o6 {f:FuncId} {fn:Func} {s:ChangeSpec} {T:TypeId→Prop} {tb:TypeId} {W:World} {base:Nat} {args:Array Value} {ds gs:List (DataW H)} {before:List MemPlace} (K:Kids P (·<P.types.size)) (hz:∀t e,t<P.types.size→P.underlying t=some (.slice e)→0<P.cellsOf e)
  (PT:PlainT P T) (hT:∀t∈fn.params.toList,T t∧t<P.types.size) (hb:P.underlying tb=some .bool) (hres:fn.resultTypes=#[tb]) (hvars:s.vars=[])
  (hspec:∀ds:List (DataW H),ds.length=fn.params.size→s.fn H ds={ results:=[.lit (.bool true)],args:=ds })
  (hval:∀(j:Nat) t v,fn.params[j]? = some t→args[j]? = some v→Value.okWide P W .any base t v) (hW:DataW.Whole enc P fn.params.toList s.vars false W args.toList ds gs before)
  (hglob:Jw W)
  (main:∀ys:List AV,DReps P fn.params.toList ds ys→AFun P f ys [] (.v (.bool true))) (hbd:GI.bd≤0:=by exact Ae 0):
  Calls P f args W (fun e W'=>∃v,e=.returned v∧s.post enc P fn false true false false W args v W'):=by
 have hW0:=hW
 obtain ⟨p,q,hA,hV,hpq,hfz,hnd⟩:=hW
 rw [hvars] at hV
 obtain ⟨rfl,rfl⟩:=trodVars_none hV
 rw [Gx] at hpq
 subst hpq
 obtain ⟨ys,h1,h2,h3⟩:=Xm PT _ _ _ _ (fun t ht=>(hT t ht).1) (fun j t v a b=>hval j t v (by simpa using a) (by simpa using b)) hA
 have hlen:=Sd hA
 have hc:=main ys h1 0 (G0 W) W args (by simpa using h2.symm) (fun i y u a b=>(h3 i y u a (by simpa using b)).lift) (yh W) (yi hglob)
 refine (callsIn_wide.1 (hc hbd)).mono ?_
 rintro e W' ⟨v,G',r,H',rfl,hr,hH,hTg,hk,hl,rfl,rfl⟩
 have hv:=Pj hr
 subst hv
 refine ⟨_,rfl,ds,[],before,[],before,[],hW0,?_,?_,?_,?_,fun h=>by cases h⟩
 ·rw [hres,Gx,hspec ds (by simpa using hlen)]
  exact trodAll_cons_mk (p:=[]) (shut_bool hb true) trodAll_mk0
 ·rw [Gx,hspec ds (by simpa using hlen)]
  refine N6 (DataW.TrodAll.respare K hz (fun t ht=>(hT t ht).2) hA (fun p hp=>by simpa using hW0.lt p hp)) (fun p hp=>?_)
  have hlt:=hW0.lt p hp
  have hb:=(hk.old _ (Rc hlt)).1
  cases p with
  | cell b o=>exact It hb
  | map b=>exact hb
 ·rw [hvars,Gx,hspec ds (by simpa using hlen)]
  rfl
 refine ⟨hk.os,hk.output,fun i hi=>?_⟩
 have hb:=(hk.old i (Rc hi)).1
 rw [hb]
 cases ho:W.heap[i]? with
 | none=>simp
 | some o=>cases o<;>simp
end
end Go.SX
namespace Go.Proofs.YtofbdcbjpdpllaaGreatDoor
open Go Go.SX Go.SX.Nb Go.ChangeShapes Go.RowKit
set_option maxRecDepth 100000

theorem own:ownKnob Tryz.prog.godebug=none:=by kernel_rfl
theorem kids:Kids Tryz.prog (·<Tryz.prog.types.size):=kids_rows (by kernel_rfl) (by kernel_rfl)
theorem full:∀t e,t<Tryz.prog.types.size→Tryz.prog.underlying t=some (.slice e)→0<Tryz.prog.cellsOf e:=slices_full_of Tryz.prog (by kernel_rfl)
theorem ud {H:Type}:∀d:DataW H,1≤Rows.uptoBulk d
 | .lit (.string b)=>by rw [Rows.uptoBulk];omega
 | .lit (.bool _)=>by simp [Rows.uptoBulk]
 | .lit (.int _ _)=>by simp [Rows.uptoBulk]
 | .lit (.float _ _)=>by simp [Rows.uptoBulk]
 | .lit .nil=>by simp [Rows.uptoBulk]
 | .nil=>by simp [Rows.uptoBulk]
 | .ptr d=>by rw [Rows.uptoBulk];omega
 | .slice a b=>by rw [Rows.uptoBulk];omega
 | .agg a=>by rw [Rows.uptoBulk];omega
 | .iface _ d=>by rw [Rows.uptoBulk];omega
 | .map a=>by rw [Rows.uptoBulk];omega
 | .held _=>by simp [Rows.uptoBulk]
theorem Uu {H:Type}:∀l:List (DataW H),l.length≤Rows.uptoBulkAll l∧∀d∈l,Rows.uptoBulk d≤Rows.uptoBulkAll l
 | []=>⟨Nat.zero_le _,fun d h=>by cases h⟩
 | d::r=>by
  obtain ⟨h1,h2⟩:=Uu r
  have:=ud d
  rw [Rows.uptoBulkAll,List.length_cons]
  refine ⟨by omega,fun x hx=>?_⟩
  rcases List.mem_cons.1 hx with rfl|hx
  ·omega
  have:=h2 x hx;omega
theorem ue {H:Type}:Bulk (Rows.uptoBulk (H:=H)) where
 str:=fun bs=>by rw [Rows.uptoBulk];omega
 slice:=fun elems spare=>by
  obtain ⟨h1,h2⟩:=Uu elems
  rw [Rows.uptoBulk]
  exact ⟨by omega,fun d hd=>by have:=h2 d hd;omega⟩
 agg:=fun parts d hd=>by
  have:=(Uu parts).2 d hd
  rw [Rows.uptoBulk]
  omega

/-- What the rows of this seat list. -/
def uf:List (String×DataW Unit):=Rows.invertComesUptoRow.laid
theorem o7:∀u,Tryz.prog.typeName? 3 u=some "*errors.errorString" → u=347:=by
 intro u hu
 exact typeName_ptr_named (nm := "errors.errorString") (by kernel_rfl) (by kernel_rfl) (by decide) u hu
theorem yk {W:World} (h:laidMet Tryz.prog uf W):∃a:Addr,W.var? Tryz.prog "strconv.ErrRange" = some #[.iface 347 (.pointer (some a))]:=by
 have h':=h.tail.tail.tail.tail
 obtain ⟨a,s,h1,_⟩:=laid_sentinel (g:=1) (ti:=175) (tp:=347) (te:=349) (ts:=9) h' (by kernel_rfl) (by kernel_rfl) Tryz.underlying175 o7 Tryz.underlying347 Tryz.underlying349 rfl rfl Tryz.underlying9 (by kernel_rfl) (by kernel_rfl)
 exact ⟨a,h1⟩
theorem yl {W:World} (h:laidMet Tryz.prog uf W):Lib.TabIs Tryz.prog W "internal/strconv.uint64pow10" .u64 Lib.pow10Tab:=
 Lib.tabIs_of_head (g:=4) (t:=315) (e:=233) (n:=20) (by kernel_rfl) (by kernel_rfl) (by kernel_rfl) (by kernel_rfl) (by kernel_rfl) (by kernel_rfl) h.tail.tail
theorem Xn {P:Program} {W:World} {n:String} {g:Nat} {cs:Array Value} (hg:P.globalNamed n=some g) (h:W.var? P n=some cs):∃t f,W.heap[g]? = some (.cells cs t f):=by
 unfold World.var? at h
 rw [hg] at h
 simp only [Option.bind_some] at h
 split at h
 ·rename_i cs' t f e
  injection h with h
  subst h
  exact ⟨t,f,e⟩
 cases h
theorem glob {W:World} [E:ErrAt] (h:W.ShapedOpen Tryz.prog) (hl:laidMet Tryz.prog uf W) (he:W.var? Tryz.prog "strconv.ErrRange" = some #[.iface 347 (.pointer (some E.b))]):Jw W:=by
 intro x hx
 have hx':x∈X9:=hx
 unfold X9 at hx'
 simp only [List.mem_cons,List.mem_nil_iff,or_false] at hx'
 rcases hx' with rfl|rfl|rfl
 ·obtain ⟨m,hm⟩:=cell_of_shapedOpen_int (g:=0) (t:=3) (zero:=#[.int .i64 0]) (k:=.i64) h (of_decide_eq_true (by kernel_rfl)) (by kernel_rfl) rfl (by kernel_rfl) (by kernel_rfl) Tryz.underlying3
  obtain ⟨cs,hh,hs,_⟩:=h.1 0 #[.int .i64 0] 3 (of_decide_eq_true (by kernel_rfl)) (by kernel_rfl)
  have hs':cs.size=1:=hs
  have h1:0<cs.size:=by omega
  have hc:cs[0]=.int .i64 m:=by
   simp [World.cell?,hh,h1] at hm
   exact hm
  have:cs=#[.int .i64 m]:=by
   apply Array.ext
   ·simpa using hs'
   intro i h1 h2
   have:i=0:=by omega
   subst this
   simpa using hc
  rw [this] at hh
  exact ⟨_,hh,m,3,_,rfl⟩
 ·obtain ⟨t,f,e⟩:=Xn (g:=1) (by kernel_rfl) he
  exact ⟨_,e,t,f,rfl⟩
 obtain ⟨t,f,e⟩:=Xn (g:=4) (by kernel_rfl) (yl hl)
 exact ⟨_,e,t,f,rfl⟩
end Go.Proofs.YtofbdcbjpdpllaaGreatDoor
namespace Go.SX.Nb
open Go Go.SX Go.Proofs
variable [ErrAt]
set_option maxRecDepth 4000
mutual
def depthE:Expr→Nat
 | .mk _ _ _ k=>Uv k+1
def Uv:List Expr→Nat
  | []=>0
  | e::r=>max (depthE e) (Uv r)
 end
mutual
def Et (p:Expr→Bool):Expr→Bool
 | .mk o t v k=>p (.mk o t v k)&&N7 p k
def N7 (p:Expr→Bool):List Expr→Bool
  | []=>true
  | e::r=>Et p e&&N7 p r
 end
mutual
def Rd:Expr→List Expr
 | .mk o t v k=>.mk o t v k::Re k
def Re:List Expr→List Expr
  | []=>[]
  | e::r=>Rd e++Re r
 end
theorem Nz (p:Expr→Bool) (e:Expr):Et p e=(p e&&N7 p e.kids):=by cases e;rfl
theorem Px:∀a b,Dc (a++b)=Dc a+Dc b
 | [],b=>by rw [Ek,Dc,B5]
 | e::r,b=>by rw [Ef,Dc,Dc,Px r b,Kc]
theorem Hi (p:Expr→Bool):∀l:List Expr,N7 p l=true↔∀y∈l,Et p y=true
 | []=>by simp [N7]
 | e::r=>by rw [N7,Ao,Hi p r];simp
mutual
theorem Ga:∀(d:Int) (e:Expr),(Bl d e).length=sizeE e
 | d,.mk o t v k=>by rw [Bl,sizeE,Bh,Uw (d+1) k,Nat.add_comm]
theorem Uw:∀(d:Int) (l:List Expr),(Bc d l).length=Dc l
  | d,[]=>rfl
  | d,e::r=>by rw [Bc,Dc,Ap,Ga d e,Uw d r]
 end
mutual
theorem Ux:∀(d:Int) (e:Expr),(Bl d e).map (·.2)=Rd e
 | d,.mk o t v k=>by rw [Bl,Rd,Bt,Uy (d+1) k]
theorem Uy:∀(d:Int) (l:List Expr),(Bc d l).map (·.2)=Re l
  | d,[]=>rfl
  | d,e::r=>by rw [Bc,Re,C8,Ux d e,Uy d r]
 end
mutual
theorem Xo (p:Expr→Bool):∀e:Expr,(Rd e).all p=Et p e
 | .mk o t v k=>by rw [Rd,Et,List.all_cons,Uz p k]
theorem Uz (p:Expr→Bool):∀l:List Expr,(Re l).all p=N7 p l
  | []=>rfl
  | e::r=>by rw [Re,N7,List.all_append,Xo p e,Uz p r]
 end
theorem o8 (p:Expr→Bool) (d:Int) (e:Expr):((Bl d e).all fun it=>p it.2)=Et p e:=by
 rw [←Xo p e,←Ux d e,List.all_map]
 rfl
def F4 (m:Int) (L:List (Int×Expr)):Int:=L.foldl (fun m it=>max m it.1) m
mutual
theorem V0:∀(d m:Int) (e:Expr),F4 m (Bl d e)=max m (d-1+depthE e)
 | d,m,.mk o t v k=>by
  rw [Bl,depthE]
  show F4 (max m d) (Bc (d+1) k)=_
  rw [V1 (d+1) (max m d) k (by omega)]
  omega
theorem V1:∀(d m:Int) (l:List Expr),d-1≤m→F4 m (Bc d l)=max m (d-1+Uv l)
  | d,m,[],h=>by
    rw [Bc,Uv]
    show m=_
    omega
  | d,m,e::r,h=>by
    rw [Bc,Uv]
    unfold F4
    rw [f8]
    show F4 (F4 m (Bl d e)) (Bc d r)=_
    rw [V0 d m e,V1 d _ r (by omega)]
    omega
 end
theorem Se (e:Expr):F4 0 (Bl 1 e)=depthE e:=by rw [V0];omega
theorem cq:∀(L:List (Int×Expr)) (m b:Int),m≤b→(F4 m L≤b↔∀it∈L,it.1≤b)
 | [],m,b,h=>by simp [F4,h]
 | it::r,m,b,h=>by
  show F4 (max m it.1) r≤b↔_
  rcases Decidable.em (it.1≤b) with h1|h1
  ·rw [cq r (max m it.1) b (by omega)]
   simp [h1]
  constructor
  ·intro h2
   have:∀(r:List (Int×Expr)) (m:Int),m≤F4 m r:=by
    intro r
    induction r with
    | nil=>intro m;exact Int.le_refl _
    | cons a r ih=>intro m;have:=ih (max m a.1);show m≤F4 (max m a.1) r;omega
   have:=this r (max m it.1)
   omega
  intro h2
  exact absurd (h2 it (by simp)) h1
theorem ym (e:Expr) {b:Nat}:(∀it∈Bl 1 e,it.1≤(b:Int))↔depthE e≤b:=by
 rw [←cq (Bl 1 e) 0 b (by omega),Se]
 omega
def L5 (e:Expr):Bool:=(decide (depthE e≤30)&&decide (sizeE e≤300))&&Et Es e
theorem Py (e:Expr):B6 e=L5 e:=by
 have hpos:1≤sizeE e:=by rw [N2];omega
 rw [Tj]
 unfold B6 L5
 rw [At]
 simp only [Ao,decide_eq_true_eq,Np,Ga]
 rw [←ym e,←o8 Es 1 e,At]
 constructor
 ·intro h
  have key:∀(k:Nat) (hk:k<(Bl 1 e).length),Es (Bl 1 e)[k].2=true∧(Bl 1 e)[k].1≤30∧(k:Int)+1≤300:=fun k hk=>by
   have:=h k (by rw [Ga] at hk;exact hk)
   rw [Zw (Aa hk)] at this
   simp only [Hz,Eo,Mg,decide_eq_false_iff_not] at this
   exact ⟨this.1.1,by have:=this.1.2;omega,by have:=this.2;omega⟩
  refine ⟨⟨fun it hit=>?_,?_⟩,fun it hit=>?_⟩
  ·obtain ⟨k,hk,rfl⟩:=Qs hit
   exact (key k hk).2.1
  ·have:=(key (sizeE e-1) (by rw [Ga];omega)).2.2
   omega
  obtain ⟨k,hk,rfl⟩:=Qs hit
  exact (key k hk).1
 rintro ⟨⟨h1,h2⟩,h3⟩ k hk
 have hk':k<(Bl 1 e).length:=by rw [Ga];exact hk
 rw [Zw (Aa hk')]
 have a1:=h1 _ (Cl hk')
 have a3:=h3 _ (Cl hk')
 have a3':Es (Bl 1 e)[k].2=true:=a3
 rw [a3']
 simp only [Hz,Eo,Kp,decide_eq_false_iff_not]
 exact ⟨⟨trivial,by have:(Bl 1 e)[k].1≤(30:Int):=a1;omega⟩,by omega⟩
/-- Its number is one of 64 bits. -/
def M1 (e:Expr):Bool:=decide (-9223372036854775808≤e.val.n)&&decide (e.val.n≤9223372036854775807)
/-! Names. -/
def named (s:Str) (e:Expr):Bool:=(Rd e).any fun y=>(y.op==2)&&(y.text==s)
mutual
def ABz (s:Str) (y:Expr):Expr→Expr
 | .mk o t v k=>if (o==2)&&(t==s) then y else .mk o t v (yn s y k)
def yn (s:Str) (y:Expr):List Expr→List Expr
  | []=>[]
  | e::r=>ABz s y e::yn s y r
 end
mutual
def eqE:Expr→Expr→Bool
 | .mk o t v k,.mk o' t' v' k'=>((((o==o')&&(t==t'))&&((v.kind==v'.kind&&v.n==v'.n)&&v.s==v'.s)))&&eqL k k'
def eqL:List Expr→List Expr→Bool
  | [],[]=>true
  | e::r,e'::r'=>eqE e e'&&eqL r r'
  | _,_=>false
 end
theorem AC0 (x y:Expr):eqE x y=((((x.op==y.op)&&(x.text==y.text))&&((x.val.kind==y.val.kind&&x.val.n==y.val.n)&&x.val.s==y.val.s))&&eqL x.kids y.kids):=by
 cases x;cases y;rw [eqE];rfl
mutual
theorem aa:∀x y:Expr,eqE x y=true↔x=y
 | .mk o t v k,.mk o' t' v' k'=>by
  rw [eqE]
  simp only [Ao,beq_iff_eq,Pz k k',Expr.mk.injEq]
  constructor
  ·rintro ⟨⟨⟨rfl,rfl⟩,⟨h1,h2⟩,h3⟩,rfl⟩
   refine ⟨rfl,rfl,?_,rfl⟩
   cases v;cases v'
   simp_all
  rintro ⟨rfl,rfl,rfl,rfl⟩
  exact ⟨⟨⟨rfl,rfl⟩,⟨rfl,rfl⟩,rfl⟩,rfl⟩
theorem Pz:∀x y:List Expr,eqL x y=true↔x=y
  | [],[]=>by simp [eqL]
  | [],e::r=>by simp [eqL]
  | e::r,[]=>by simp [eqL]
  | e::r,e'::r'=>by rw [eqL,Ao,aa e e',Pz r r',Qm]
 end
theorem yo:∀{x y:List Expr},eqL x y=true→x.length=y.length:=fun h=>by rw [(Pz _ _).1 h]
theorem ug (x:Expr):eqE x x=true:=(aa x x).2 rfl
/-! A node by itself, and marks. -/
theorem ac {of:Str} {ws:List Str} (h:of=N3 ws) (hp:∀w∈ws,(32:UInt8)∉w) (s:Str):Nw s of=(!(s==[])&&ws.contains s):=by
 unfold Nw
 rw [co]
 cases hb:s.contains 32 with
 | false =>
  have h2:(32:UInt8)∉s:=by simpa using hb
  rw [h,Jz s h2 ws hp,Bool.not_false,Ti]
  congr 1
  rw [List.contains_eq_any_beq]
  congr 1
  funext w
  rw [Tj,beq_iff_eq,beq_iff_eq]
  exact eq_comm
 | true =>
  have h2:(32:UInt8)∈s:=by simpa using hb
  have h3:ws.contains s=false:=by
   rw [Ko]
   intro h4
   exact hp s (by simpa using h4) h2
  rw [h3]
  simp
def levels:List (List Str):=[[[111,114]],[[97,110,100]],[],[[61],[33,61],[60],[60,61],[62],[62,61]],[[43],[45],[38]],[[42],[47],[37]]]
def Hj (s:Str):Int:=match levels.findIdx? (fun l=>l.contains s) with|some i=>i|none => -1
def Rf:List Str:=[[111,114],[],[97,110,100],[],[61],[33,61],[60],[60,61],[62],[62,61],[],[43],[45],[38],[],[42],[47],[37]]
theorem im:Nx=N3 Rf:=by kernel_rfl
theorem cr:∀w∈Rf,(32:UInt8)∉w:=by decide
theorem io (s:Str):Nw s Nx=decide (0≤Hj s):=by
 rw [ac im cr s]
 have h1:decide (0≤Hj s)=levels.any (fun l=>l.contains s):=by
  unfold Hj
  cases h:levels.findIdx? (fun l=>l.contains s) with
  | some i =>
   have:levels.any (fun l=>l.contains s)=true:=by
    have:=Mh.1 h
    obtain ⟨hi,hp,_⟩:=this
    exact Ok.2 ⟨_,Cl hi,hp⟩
   rw [this]
   simp
  | none =>
   have:=Qq.1 h
   have e:levels.any (fun l=>l.contains s)=false:=by
    rw [Li]
    intro l hl
    rw [this l hl]
    simp
   rw [e]
   rfl
 rw [h1]
 by_cases h0:s=[]
 ·subst h0;rfl
 have:(s==[])=false:=by simpa using h0
 rw [this,Bool.not_false,Oj]
 simp [levels,Rf,h0,Bool.or_assoc]
def V2 (e:Expr):Bool:=
 if e.op==1 then ((Dm e.val&&decide (0≤e.val.n))&&(e.text==[]))&&((e.kids.length:Int)==0)
 else if !(Md e.val) then false
 else if e.op==2 then Pr e.text&&((e.kids.length:Int)==0)
 else if e.op==3 || e.op==4 then (e.text==[])&&((e.kids.length:Int)==1)
 else if e.op==5 then decide (0≤Hj e.text)&&((e.kids.length:Int)==2)
 else if e.op==6 then C4 e.text==(e.kids.length:Int)
 else false
theorem ct (e:Expr):Es e=V2 e:=by
 unfold Es V2
 rw [io,K1]
 cases Md e.val<;>simp
/-! What is wide. -/
def ip (e:Expr):Bool:=((decide ((100:Int)<e.text.length) || decide ((400:Int)<e.val.s.length)) || decide ((100:Int)<e.kids.length))
/-- Among trees, when n have been seen: is one too much? -/
def kp (l:List Expr) (n:Nat):Bool:=decide (500<n+l.length) || l.any ip
def Q0:Nat→List Expr→Nat→Bool
 | 0,l,n => !l.isEmpty
 | f+1,l,n=>if l.isEmpty then false else if kp l n then true else if decide ((500:Int)<(l.flatMap Expr.kids).length) then true else Q0 f (l.flatMap Expr.kids) (n+l.length)
theorem V3:∀l:List Expr,Dc l=l.length+Dc (l.flatMap Expr.kids)
 | []=>rfl
 | e::r=>by
  rw [Dc,N2,f7,Px,V3 r,Bh]
  omega
theorem V4 {l:List Expr} {n:Nat} (h:kp l n=false):n+l.length≤500∧∀e∈l,ip e=false:=by
 unfold kp at h
 simp only [Eo,decide_eq_false_iff_not,Li,Tl] at h
 exact ⟨by omega,h.2⟩
theorem yp {e:Expr} (h:ip e=false):e.text.length≤100∧e.val.s.length≤400∧e.kids.length≤100:=by
 unfold ip at h
 simp only [Eo,decide_eq_false_iff_not] at h
 omega
theorem Xp {f:Nat} {l:List Expr} {n:Nat} (h:Q0 (f+1) l n=false) (hl:l.isEmpty=false):kp l n=false∧(l.flatMap Expr.kids).length≤500∧Q0 f (l.flatMap Expr.kids) (n+l.length)=false:=by
 rw [Q0,if_neg (by rw [hl];simp)] at h
 split at h
 ·cases h
 rename_i h1
 split at h
 ·cases h
 rename_i h2
 simp only [decide_eq_true_eq] at h2
 exact ⟨by simpa using h1,by omega,h⟩
theorem kq:∀(f:Nat) (l:List Expr) (n:Nat),Q0 f l n=false→∀e∈l,okE f e∧Et (fun y => !ip y) e=true
 | 0,l,n,h,e,he=>by
  have:l=[]:=by simpa [Q0] using h
  subst this
  cases he
 | f+1,l,n,h,e,he=>by
  have hl:l.isEmpty=false:=by cases l<;>simp_all
  obtain ⟨h1,h2,h3⟩:=Xp h hl
  have h4:=yp ((V4 h1).2 e he)
  have ih:=kq f _ _ h3
  have hk:∀y∈e.kids,okE f y∧Et (fun y => !ip y) y=true:=fun y hy=>ih y (List.mem_flatMap.2 ⟨e,he,hy⟩)
  refine ⟨⟨by omega,by omega,fun y hy=>(hk y hy).1⟩,?_⟩
  rw [Nz,(V4 h1).2 e he,(Hi _ _).2 fun y hy=>(hk y hy).2]
  rfl
theorem Xq:∀(f:Nat) (l:List Expr) (n:Nat),n≤500→Q0 f l n=false→n+Dc l≤500
 | 0,l,n,hn,h=>by
  have:l=[]:=by simpa [Q0] using h
  subst this
  simpa [Dc] using hn
 | f+1,l,n,hn,h=>by
  by_cases hl:l.isEmpty=true
  ·have:l=[]:=by simpa using hl
   subst this
   simpa [Dc] using hn
  have hl':l.isEmpty=false:=by simpa using hl
  obtain ⟨h1,h2,h3⟩:=Xp h hl'
  have:=Xq f _ _ (V4 h1).1 h3
  rw [V3 l]
  omega
def kr (e:Expr):Bool:=Q0 61 [e] 0
/-- A tree that is gone through. -/
structure Slim (e:Expr):Prop where
 ok:okE 61 e
 size:sizeE e≤500
 slim:Et (fun y => !ip y) e=true
theorem yq {e:Expr} (h:kr e=false):Slim e:=by
 obtain ⟨h1,h2⟩:=kq _ _ _ h e (by simp)
 have:=Xq _ _ _ (by decide) h
 exact ⟨h1,by simpa [Dc] using this,h2⟩
end Go.SX.Nb
namespace Go.Proofs.YtofbdcbjpdpllaaGreatDoor
open Go Go.SX Go.SX.Nb Go.ChangeShapes Go.RowKit
set_option maxRecDepth 100000
theorem yr {H:Type} [ErrAt] (d:DataW H) (y:AV) (h:DRep Tryz.prog 23 d y):∃v:Val,y=Ba v ∧ -9223372036854775808≤v.n∧v.n≤9223372036854775807:=by
 obtain ⟨ys,hn,rfl,hh⟩:=h.struct' ue Tryz.underlying23
 match ys,hn with
 | [y0,y1,y2],_ =>
  obtain ⟨d0,b0,h0⟩:=hh 0 _ y0 rfl rfl
  obtain ⟨d1,b1,h1⟩:=hh 1 _ y1 rfl rfl
  obtain ⟨d2,b2,h2⟩:=hh 2 _ y2 rfl rfl
  obtain ⟨k,rfl,rfl,_⟩:=h0.int' Tryz.underlying3
  obtain ⟨n,rfl,rfl,hn1,hn2⟩:=h1.int' Tryz.underlying2
  obtain ⟨s,rfl,rfl⟩:=h2.str' Tryz.underlying9
  exact ⟨⟨k,n,s⟩,rfl,hn1,hn2⟩
end Go.Proofs.YtofbdcbjpdpllaaGreatDoor
namespace Go.SX.Nb
open Go Go.SX Go.Proofs
variable [ErrAt]
set_option maxRecDepth 4000
/-- The lexer from a place between two words on. -/
def AGj (f q:Nat) (s:Str):List (Tok×Int):=I7 f (q+gapM s) (s.drop (gapM s))
theorem cu {f q:Nat} {s:Str} (h:s≠[]):∃(n:Nat),I7 (f+1) q s=(⟨(C7 s).1,(C7 s).2.1,q⟩,(C7 s).2.2.2)::(if (C7 s).2.2.2=0 then AGj f (q+n) (s.drop n) else [])∧((C7 s).2.2.2=0→(C7 s).2.2.1=(n:Int)∧1≤n∧n≤s.length):=by
 refine ⟨(C7 s).2.2.1.toNat,?_,fun he=>?_⟩
 ·rw [N1 h]
  simp only [beq_iff_eq]
  rfl
 obtain ⟨n,h1,h2,h3⟩:=kn (s:=s) (by cases s with|nil=>exact absurd rfl h|cons c r=>simp) he
 rw [h1]
 exact ⟨rfl,by simpa using h2,by simpa using h3⟩
/-! ### Gaps -/
/-! ### Words -/
theorem yt {s:Str} (h:(Ge s).2.1=0):s.length≤4000∧(∀it∈C5 s,it.2=0)∧Ge s=((C5 s).map (·.1)++[⟨0,[],s.length⟩],0,0):=by
 unfold Ge at h ⊢
 split at h
 ·exact absurd h (show ¬(3:Int)=0 by decide)
 rename_i hl
 rw [if_neg hl]
 cases hf:(C5 s).find? (fun it=>it.2 != 0) with
 | some it =>
  rw [hf] at h
  have:=Yk hf
  simp at this
  exact absurd h this
 | none =>
  rw [Ll] at hf
  refine ⟨by omega,fun it hit=>by simpa using hf it hit,rfl⟩
def o9 (c:UInt8):Str:=if c=39 then [39,39] else [c]
def Q3 (t:Str):Str:=t.flatMap o9
theorem Rg (c:UInt8) (r:Str):Q3 (c::r)=o9 c++Q3 r:=by unfold Q3;rw [f7]
theorem kt:∀s:Str,(Lib.index s [39] = -1∧Q3 s=s)∨∃i:Nat,Lib.index s [39]=(i:Int)∧i<s.length∧Q3 s=s.take i++[39,39]++Q3 (s.drop (i+1))
 | []=>.inl ⟨rfl,rfl⟩
 | b::l=>by
  by_cases hb:b=39
  ·subst hb
   refine .inr ⟨0,by simp [Lib.index,List.isPrefixOf],by simp,?_⟩
   rw [Rg]
   simp [o9]
  have hp:([39]:Str).isPrefixOf (b::l)=false:=by
   simp [List.isPrefixOf,Ne.symm hb]
  have hd:Q3 (b::l)=b::Q3 l:=by
   rw [Rg,o9,if_neg hb]
   rfl
  rcases kt l with ⟨h1,h2⟩|⟨i,h1,h2,h3⟩
  ·refine .inl ⟨?_,by rw [hd,h2]⟩
   rw [Lib.index,hp,h1];rfl
  refine .inr ⟨i+1,?_,by simp;omega,?_⟩
  ·rw [Lib.index,hp,h1,if_neg (by simp),if_neg (by simp)]
   rfl
  rw [hd,h3]
  simp
theorem Q4:∀(n:Nat) (s:Str),s.length≤n→Lib.replaceK [39] [39,39] (Lib.count s [39]) s=Q3 s
 | n,s,hn=>by
  rcases kt s with ⟨h1,h2⟩|⟨i,h1,h2,h3⟩
  ·rw [Lib.count_miss h1,h2];rfl
  cases n with
  | zero=>omega
  | succ n =>
   rw [Lib.count_hit (by decide) h1,Nat.add_comm,Lib.replaceK_hit _ _ _ _ i h1]
   have e:i+([39]:Str).length=i+1:=rfl
   rw [e,Q4 n (s.drop (i+1)) (by rw [Hb];omega),h3]
theorem cv (s:Str):Lib.replaceAll s [39] [39,39]=Q3 s:=by
 unfold Lib.replaceAll Lib.replace
 rw [if_neg (by decide)]
 have e:Lib.replaceNum s [39] (-1)=Lib.count s [39]:=by unfold Lib.replaceNum;rw [if_pos (.inl (by decide))]
 rw [e]
 exact Q4 _ s (Ae _)
def ku (t:Tok):Str:=if t.kind=4 then [39]++Q3 t.text++[39] else t.text
theorem iq {q:Str} (h0:q.headD 0=39) (h1:1≤q.length) (h:(Hh q).2=0):[39]++Q3 (Hh q).1.s++[39]=q:=by
 cases q with
 | nil=>simp at h1
 | cons c r =>
  have hc:c=39:=h0
  subst hc
  unfold Hh at h ⊢
  have n1:((39::r:Str)==[110,117,108,108])=false:=by rw [beq_eq_false_iff_ne];intro e;injection e with e;exact absurd e (by decide)
  have n2:((39::r:Str)==[116,114,117,101])=false:=by rw [beq_eq_false_iff_ne];intro e;injection e with e;exact absurd e (by decide)
  have n3:((39::r:Str)==[102,97,108,115,101])=false:=by rw [beq_eq_false_iff_ne];intro e;injection e with e;exact absurd e (by decide)
  rw [n1,n2,n3] at h ⊢
  simp only [B2,if_false,Bool.or_self] at h ⊢
  by_cases hq:Xe (39::r)=true
  ·rw [if_pos hq] at h ⊢
   unfold cb at h ⊢
   split at h
   ·exact absurd h (show ¬(7:Int)=0 by decide)
   rename_i hp
   rw [if_neg hp]
   have hp':J1 (Ud (39::r))=39::r:=by simpa using hp
   have hk:(Ud (39::r)).kind=2:=rfl
   show [39]++Q3 (Ud (39::r)).s++[39]=39::r
   generalize Ud (39::r)=v at hp' hk
   have hne:J1 v≠[]:=by rw [hp'];simp
   rw [←hp']
   unfold J1 at hne ⊢
   split at hne
   ·exact absurd rfl hne
   rename_i hpl
   rw [if_neg hpl,hk,if_neg (by decide),if_pos (by decide),cv]
  rw [if_neg hq] at h
  have hd:Jx (39::r)=true:=by
   unfold Jx
   have e:S7 (39::r)=39::r:=by
    rcases S8 (39::r) with ⟨_,h4⟩|⟨r',h3,_⟩
    ·exact h4
    injection h3 with h3;exact absurd h3 (by decide)
   rw [e]
   have:(Lib.trimS (39::r) digs==[])=false:=by
    rw [beq_eq_false_iff_ne]
    intro e
    rw [Xa] at e
    exact absurd (e 39 (by simp)) (by decide)
   rw [this]
   simp
  have hn:Ca (39::r)=(0,6):=by unfold Ca;rw [if_pos hd]
  rw [hn] at h
  simp at h
theorem Wt (s:Str) (m:Nat):s.take (s.take m).length=s.take m:=by
 rw [Cn]
 rcases Nat.le_total m s.length with h|h
 ·rw [jx h]
 rw [Nat.min_eq_right h,Gu (Ae _),Gu h]
theorem N8 (s of:Str):s.take (Dn s of).length=Dn s of:=by
 unfold Dn
 exact Wt s _
/-- What a word's print spells is what was read. -/
theorem ir {s:Str} {n p:Nat} (h0:1≤s.length) (he:(C7 s).2.2.2=0) (hn:(C7 s).2.2.1=(n:Int)):ku ⟨(C7 s).1,(C7 s).2.1,p⟩=s.take n:=by
 cases s with
 | nil=>simp at h0
 | cons c r =>
  unfold C7 at he hn ⊢
  by_cases c1:decide (0<Ps ((c::r).take 1) letters)=true
  ·rw [if_pos c1] at he hn
   simp only [if_pos c1]
   unfold P0 at he hn ⊢
   by_cases r1:Gd (Dn (c::r) tails)=true
   ·rw [if_pos r1] at hn
    simp only [if_pos r1]
    have hn':(((Dn (c::r) tails).length:Nat):Int)=n:=hn
    have e:n=(Dn (c::r) tails).length:=by omega
    rw [e,N8]
    rfl
   rw [if_neg r1] at he hn
   simp only [if_neg r1]
   by_cases r2:(!E2 (Dn (c::r) tails))=true
   ·rw [if_pos r2] at he;exact absurd he (show ¬(3:Int)=0 by decide)
   rw [if_neg r2] at hn
   simp only [if_neg r2]
   have hn':(((Dn (c::r) tails).length:Nat):Int)=n:=hn
   have e:n=(Dn (c::r) tails).length:=by omega
   rw [e,N8]
   rfl
  rw [if_neg c1] at he hn
  simp only [if_neg c1]
  by_cases c2:decide (0<Ps ((c::r).take 1) digs)=true
  ·rw [if_pos c2] at he hn
   simp only [if_pos c2]
   have hn':(((Dn (c::r) digs).length:Nat):Int)=n:=hn
   have e:n=(Dn (c::r) digs).length:=by omega
   rw [e,N8]
   rfl
  rw [if_neg c2] at he hn
  simp only [if_neg c2]
  by_cases c3:(((((c::r)).getD 0 0).toNat:Int)==39)=true
  ·rw [if_pos c3] at he hn
   simp only [if_pos c3]
   have hc:c=39:=by
    have c3':((c.toNat:Int)==39)=true:=c3
    exact Yv.1 (by have:(39:UInt8).toNat=39:=rfl;simp at c3';omega)
   unfold Ki at he hn ⊢
   cases hq:Da ((c::r).drop 1) with
   | none=>rw [hq] at he;exact absurd he (show ¬(7:Int)=0 by decide)
   | some m =>
    rw [hq] at he hn
    simp only at he hn ⊢
    split at he
    ·exact absurd he (show ¬(3:Int)=0 by decide)
    rename_i hr
    rw [if_neg hr] at hn
    simp only [if_neg hr]
    have hm':(((m+1:Nat)):Int)=n:=hn
    have hm:n=m+1:=by omega
    subst hm
    have hr':(Hh ((c::r).take (m+1))).2=0:=by simpa using hr
    have:=iq (q:=(c::r).take (m+1)) (by rw [hc];rfl) (by simp) hr'
    unfold ku
    rw [if_pos rfl]
    exact this
  rw [if_neg c3] at he hn
  simp only [if_neg c3]
  unfold Ui at he hn ⊢
  split at hn
  ·rename_i h2
   simp only [if_pos h2]
   have hn':(2:Int)=n:=hn
   have:n=2:=by omega
   subst this
   rfl
  rename_i h2
  rw [if_neg h2] at he
  simp only [if_neg h2]
  split at hn
  ·rename_i h3
   simp only [if_pos h3]
   have hn':(1:Int)=n:=hn
   have:n=1:=by omega
   subst this
   rfl
  rename_i h3
  rw [if_neg h3] at he
  exact absurd he (show ¬(7:Int)=0 by decide)
/-! What is printed of columns, word by word. -/
structure ColOk (x:Col):Prop where
 name:E2 x.name=true
 lo:1≤x.kind
 hi:x.kind≤3
def ktT (t:Tok):Int×Str:=(t.kind,t.text)
def Sf (s:Str):Int:=if Cf 1==s then 1 else if Cf 2==s then 2 else if Cf 3==s then 3 else 0
structure KindUpto (s:Str) (x:Nat):Prop where
 le:x≤3
 a:1≤x→(Cf 1==s)=false
 b:2≤x→(Cf 2==s)=false
 c:3≤x→(Cf 3==s)=false
theorem yu {s:Str} {x:Nat} (h:KindUpto s x) (hx:x<3) (e:(Cf ((x:Int)+1)==s)=true):Sf s=(x:Int)+1:=by
 have h3:x=0∨x=1∨x=2:=by omega
 unfold Sf
 rcases h3 with rfl|rfl|rfl
 ·have e:(Cf 1==s)=true:=e
  rw [if_pos e];rfl
 ·have e:(Cf 2==s)=true:=e
  rw [if_neg (by rw [h.a (by omega)];simp),if_pos e];rfl
 have e:(Cf 3==s)=true:=e
 rw [if_neg (by rw [h.a (by omega)];simp),if_neg (by rw [h.b (by omega)];simp),if_pos e];rfl
theorem yw {s:Str} {x:Nat} (h:KindUpto s x) (hx:x<3) (e:(Cf ((x:Int)+1)==s)=false):KindUpto s (x+1):=by
 have h3:x=0∨x=1∨x=2:=by omega
 rcases h3 with rfl|rfl|rfl
 ·exact ⟨by omega,fun _=>e,fun h=>by omega,fun h=>by omega⟩
 ·exact ⟨by omega,fun _=>h.a (by omega),fun _=>e,fun h=>by omega⟩
 exact ⟨by omega,fun _=>h.a (by omega),fun _=>h.b (by omega),fun _=>e⟩
theorem yx {s:Str} {x:Nat} (h:KindUpto s x) (hx:3≤x):Sf s=0:=by
 unfold Sf
 rw [if_neg (by rw [h.a (by omega)];simp),if_neg (by rw [h.b (by omega)];simp),if_neg (by rw [h.c (by omega)];simp)]
theorem AGk (s:Str) (Hp:List AObj):AFun Tryz.prog 314 [Ad s] Hp (A4 (Sf s)):=by
 refine Ah [.tmp 2] [0] Tryz.func314 Tryz.ntmps314 (fun d=>?_)
 refine Z46 ?_;refine Z35 ?_;refine A2 [0,3] ?_
 refine D7 (α:=Nat) (fun x=>⟨13,A7 0 (Ad s) (A7 3 (A4 ((x:Nat)+1)) (fun _=>.any)),Hp,[],[],none⟩) (fun x=>KindUpto s x) (fun x=>3-x) (0) ⟨by omega,fun h=>by omega,fun h=>by omega,fun h=>by omega⟩ (Lp _) rfl (fun x hx=>?_)
 refine Z29 ?_;refine A2 [0,3,5] ?_
 refine A3 (fun ht5=>?_) (fun ht5=>?_)
 ·have hx3:x<3:=by simp at ht5;omega
  refine Z6 ?_;refine Z83 ?_;refine A9 Tryz.call76 (c76 _ _) ?_;refine Z0 ?_;refine A2 [0,3,11] ?_
  refine A3 (fun ht11=>?_) (fun ht11=>?_)
  ·refine Z1 ?_;refine Z4 ?_;refine Z62 ?_;exact A8 (Aj A6) ⟨by rw [yu hx hx3 (by simpa using ht11)],rfl⟩
  refine Z58 ?_;refine sg ?_;exact Bp (x+1) (yw hx hx3 (by simpa using ht11)) (by omega) (Ea (by simp))
 have hx3:3≤x:=by simp at ht5;omega
 refine Wj ?_;refine Z61 ?_;exact A8 (Aj A6) ⟨by rw [yx hx hx3],rfl⟩

theorem wrap_u64 {n:Int} (h1:0≤n) (h2:n<18446744073709551616):IntKind.u64.wrap n=n:=by
 have e1:(2 ^ IntKind.u64.bits:Int)=18446744073709551616:=rfl
 have e3:IntKind.u64.signed=false:=rfl
 unfold IntKind.wrap
 simp only [e1,e3,ep]
 simp
 omega
theorem kv:∀t:Str,t.length≤(Q3 t).length
 | []=>Ae _
 | c::r=>by
  have:=kv r
  rw [Rg,Ap,Bh]
  have h:1≤(o9 c).length:=by unfold o9;split<;>simp
  omega
theorem yy (t:Tok):t.text.length≤(ku t).length:=by
 unfold ku
 split
 ·have:=kv t.text
  simp only [Ap,Bh,Cm]
  omega
 exact Ae _
/-- Words with an end. -/
structure TokEnd (l:List Tok):Prop where
 split:∃L z,l=L++[z]∧z.kind=0∧∀t∈L,t.kind≠0
 texts:∀t∈l,t.text.length≤1048576
theorem TokEnd.pos {l:List Tok} (h:TokEnd l):1≤l.length:=by
 obtain ⟨L,z,rfl,_,_⟩:=h.split
 simp
theorem TokEnd.text {l:List Tok} (h:TokEnd l) (i:Nat):(Af l i).text.length≤1048576:=by
 unfold Af
 rcases B3 i l.length with hi|hi
 ·rw [Cz,Aa hi]
  exact h.texts _ (Cl hi)
 rw [Cz,Ex hi]
 exact gi
theorem yz (s:Str) (he:(C7 s).2.2.2=0):(C7 s).1≠0:=by
 revert he
 unfold C7 P0 Zv Ki Ui
 repeat' split
 all_goals simp
theorem cw:∀(f q:Nat) (s:Str),(∀it∈I7 f q s,it.2=0)→∀it∈I7 f q s,it.1.kind≠0∧it.1.text.length≤s.length
 | 0,_,_,_,it,hm=>by cases hm
 | f+1,q,s,h,it,hm=>by
  by_cases hs:s=[]
  ·subst hs;cases hm
  obtain ⟨n,h1,h2⟩:=cu (f:=f) (q:=q) hs
  rw [h1] at hm h
  have h0:(C7 s).2.2.2=0:=h (⟨(C7 s).1,(C7 s).2.1,q⟩,(C7 s).2.2.2) (K6 ..)
  obtain ⟨hn,hn1,hn2⟩:=h2 h0
  rw [if_pos h0] at hm h
  rcases Bg.1 hm with rfl|hm
  ·refine ⟨yz s h0,?_⟩
   have hs1:1≤s.length:=by cases s with|nil=>exact absurd rfl hs|cons c r=>simp
   have:=ir (p:=q) hs1 h0 hn
   have h3:=yy ⟨(C7 s).1,(C7 s).2.1,q⟩
   rw [this] at h3
   simp only [Cn] at h3
   show (C7 s).2.1.length≤s.length
   omega
  have:=cw f _ _ (fun it hit=>h it (T0 _ hit)) it hm
  simp only [Hb] at this
  exact ⟨this.1,by omega⟩
theorem z6 {s:Str} (h:(Ge s).2.1=0):TokEnd (Ge s).1:=by
 by_cases h4:4000<s.length
 ·unfold Ge at h
  rw [if_pos h4] at h
  exact sq
 have e:Ge s=((C5 s).map (·.1)++[⟨0,[],s.length⟩],0,0)∧∀it∈C5 s,it.2=0:=by
  unfold Ge at h ⊢
  rw [if_neg h4] at h ⊢
  cases hf:(C5 s).find? (fun it=>it.2 != 0) with
  | none =>
   rw [Ll] at hf
   exact ⟨rfl,fun it hit=>by simpa using hf it hit⟩
  | some it =>
   rw [hf] at h
   have:=Yk hf
   simp only [bne_iff_ne] at this
   exact absurd h this
 obtain ⟨e,hz⟩:=e
 have hnz:=cw _ _ _ hz
 rw [e]
 refine ⟨⟨_,_,rfl,rfl,fun t ht=>?_⟩,fun t ht=>?_⟩
 ·obtain ⟨it,hit,rfl⟩:=C1.1 ht
  exact (hnz it hit).1
 rcases Dp.1 ht with ht|ht
 ·obtain ⟨it,hit,rfl⟩:=C1.1 ht
  have:=(hnz it hit).2
  simp only [Hb] at this
  omega
 have e:t=⟨0,[],s.length⟩:=by simpa using ht
 subst e
 exact gi
/-! What is printed of a schema is read. -/
/-- What goes together: names of their own. -/
theorem uh {c:List Col} (h:Iw c=true):(∀y∈c,ColOk y)∧(c.map (·.name)).Nodup:=by
 rw [gq] at h
 have hat:∀(j:Nat) (y:Col),c[j]? = some y→Pr y.name=true∧1≤y.kind∧y.kind≤3∧Be y.name c=(j:Int):=by
  intro j y hj
  have:=h j y hj
  unfold kb at this
  simp only [Hz,Eo,Mg,decide_eq_false_iff_not,bne_eq_false_iff_eq] at this
  obtain ⟨⟨⟨h1,h2⟩,h3⟩,h4⟩:=this
  exact ⟨h1,by omega,by omega,h4⟩
 refine ⟨fun y hy=>?_,?_⟩
 ·obtain ⟨j,hj⟩:=Cc hy
  obtain ⟨h1,h2,h3,_⟩:=hat j y hj
  exact ⟨by rw [K1];exact h1,h2,h3⟩
 show List.Pairwise _ _
 rw [js]
 intro i j hi hj hij e
 simp only [Aw] at hi hj
 simp only [Mi] at e
 have e1:=(hat i c[i] (Aa hi)).2.2.2
 have e2:=(hat j c[j] (Aa hj)).2.2.2
 rw [e] at e1
 omega
theorem ui {c:List Col} (h:Ur c=true):c.length≤12∧(∀y∈c,ColOk y)∧(c.map (·.name)).Nodup:=by
 rw [N4] at h
 unfold E6 at h
 rw [Ao] at h
 obtain ⟨h1,h2⟩:=h
 have:=of_decide_eq_true h1
 exact ⟨by omega,uh h2⟩
theorem kw {c:List Col} (h:Kh c=false):OkCols c:=by
 unfold Kh at h
 simp only [Eo,decide_eq_false_iff_not,Li,decide_eq_true_eq] at h
 refine ⟨by omega,fun y hy=>?_⟩
 have:=h.2 y hy
 omega
def J2 {α:Type} [BEq α] (v:α) (l:List α):Int:=match l.findIdx? (·==v) with|some i=>i|none => -1
theorem AC1 {α:Type} [BEq α] [LawfulBEq α] {v:α} {l:List α} {x:Nat} (h:x<l.length) (h1:l[x]=v) (h2:∀(j:Nat) (y:α),j<x→l[j]? = some y→¬(y=v)):J2 v l=x:=by
 have:l.findIdx? (·==v)=some x:=by
  rw [Mh]
  exact ⟨h,by simpa using h1,fun j hj=>by simpa using h2 j l[j] hj (Aa _)⟩
 simp [J2,this]
theorem uj {α:Type} [BEq α] [LawfulBEq α] {v:α} {l:List α} (h:∀(j:Nat) (y:α),l[j]? = some y→¬(y=v)):J2 v l = -1:=by
 have:l.findIdx? (·==v)=none:=by
  rw [Qq]
  intro y hy
  obtain ⟨j,hj⟩:=Cc hy
  simpa using h j y hj
 simp [J2,this]
theorem ae {α:Type} [BEq α] [LawfulBEq α] (v:α) (l:List α):decide (0≤J2 v l)=l.contains v:=by
 unfold J2
 cases h:l.findIdx? (·==v) with
 | none =>
  rw [Qq] at h
  have:l.contains v=false:=by
   rw [Ko]
   intro hc
   have:=h v (by simpa using hc)
   simp at this
  rw [this];rfl
 | some i =>
  rw [Mh] at h
  obtain ⟨hi,e,_⟩:=h
  have:l.contains v=true:=by
   have:l[i]=v:=by simpa using e
   rw [←this]
   simp
  rw [this]
  simp only [decide_eq_true_eq]
  omega
theorem c70 (l:List Str) (v:Str) (hl:l.length≤1048576) (Hp:List AObj):AFun Tryz.prog 70 [Ft l,Ad v] Hp (A4 (J2 v l)):=by
 refine Ah [.tmp 4] [0,1] Tryz.func70 Tryz.ntmps70 (fun d=>?_)
 refine Z53 ?_;refine sd ?_
 refine D7 (α:=Nat) (fun x=>⟨19,A7 0 (Ft l) (A7 1 (Ad v) (A7 7 (A4 l.length) (A7 8 (A4 (x:Nat)) (fun _=>.any)))),Hp,[],[],none⟩) (fun x=>x≤l.length∧∀(j:Nat) (y:Str),j<x→l[j]? = some y→¬(y=v)) (fun x=>l.length-x) (0) (by simp) (Cp (by simp)) rfl (fun x hx=>?_)
 refine sc ?_
 refine Dl (fun ht9=>?_) (fun ht9=>?_)
 ·have hlt:x<l.length:=by simpa using ht9
  refine Zm ?_;refine sb ?_
  refine A5 (h:=Ak (x) (Ad l[x]) (fun _=>Bk hlt)) (hr:=?_)
  refine Z0 ?_;refine so ?_
  refine A3 (fun ht16=>?_) (fun ht16=>?_)
  ·refine nb ?_;refine Z62 ?_;exact A8 (Aj A6) ⟨by rw [AC1 hlt (by simpa using (Eq.symm (by simpa using ht16):l[x]=v)) hx.2],rfl⟩
  refine Z58 ?_;refine A2 [0,1,7,8] ?_;exact Bp (x+1) ⟨hlt,Gc hlt hx.2 (fun e=>by rw [e] at ht16;simp at ht16)⟩ (by omega) (Ea rfl)
 refine Z33 ?_;refine Z73 ?_;exact A8 (Aj A6) ⟨by rw [uj (Ua (by simp at ht9;omega) hx.2)],rfl⟩

theorem c96 (l:List Str) (v:Str) (hl:l.length≤1048576) (Hp:List AObj):AFun Tryz.prog 96 [Ft l,Ad v] Hp (Bm (l.contains v)):=by
 refine Ah [.tmp 4] [0,1] Tryz.func96 Tryz.ntmps96 (fun d=>?_)
 refine Z53 ?_;refine Z1 ?_;refine A9 Tryz.call70 (c70 l v hl _) ?_;refine Z0 ?_;refine Z23 ?_;exact A8 (Aj A6) ⟨by rw [ae],rfl⟩

theorem oa {n k:Nat} {o:Bool} {l:List Col} {z:Col}:Low n (.slice o k (l.map Bs++[Bs z])):=by
 refine .slice _ _ _ (fun y hy=>?_)
 have key:∀c:Col,∀w∈(Bs c).cells,Low n w:=by
  intro c w hw
  have hw':w∈[AV.v (sv c.name),AV.v (.int .i64 c.kind)]:=hw
  simp only [Bg,Hc,or_false] at hw'
  rcases hw' with rfl|rfl
  ·exact .v _
  exact .v _
 rcases Dp.1 hy with hy|hy
 ·obtain ⟨a,_,rfl⟩:=C1.1 hy
  exact key a
 rw [Az.1 hy]
 exact key z
def O0 (c:List Col) (take:List Str) (j:Nat) (nm:Str):Bool := !(decide (Be nm c<0) || (J2 nm take != (j:Int)))
def Hl (c:List Col) (take:List Str):Bool:=take.zipIdx.all fun x=>O0 c take x.2 x.1
theorem takenM_true {c:List Col} {take:List Str}:Hl c take=true↔∀(j:Nat) (y:Str),take[j]? = some y→O0 c take j y=true:=Oy
def Q5 (c:List Col) (x:Nat) (y:Col):Bool := !((!Pr y.name) || (Be y.name c != (x:Int)))
def K2 (c:List Col):Bool:=c.zipIdx.all fun x=>Q5 c x.2 x.1
theorem namedC_true {c:List Col}:K2 c=true↔∀(j:Nat) (y:Col),c[j]? = some y→Q5 c j y=true:=Oy
def D3 (c:List Col) (take:List Str):List Col:=c.filter fun y => !take.contains y.name
theorem z7 {c:List Col} {take:List Str} {k:Nat} {y:Col} (h:c[k]? = some y) (hn:take.contains y.name=false):D3 (c.take (k+1)) take=D3 (c.take k) take++[y]:=by
 unfold D3
 have e:c.take (k+1)=c.take k++[y]:=by rw [Ys,h];rfl
 have hm:¬y.name∈take:=by simpa using hn
 rw [e,Yj]
 simp [Lk,hm]
theorem ob {c:List Col} {take:List Str} {k:Nat} {y:Col} (h:c[k]? = some y) (hn:take.contains y.name=true):D3 (c.take (k+1)) take=D3 (c.take k) take:=by
 unfold D3
 have e:c.take (k+1)=c.take k++[y]:=by rw [Ys,h];rfl
 have hm:y.name∈take:=by simpa using hn
 rw [e,Yj]
 simp [Lk,hm]
theorem N9 (c:List Col) (take:List Str):(D3 c take).length≤c.length:=jp _ _
def D6 (c:List Col) (take:List Str) (give:List Col):List Col×Int:=
 if E6 c=false then ([],1) else if Hl c take=false then ([],9) else if K2 (D3 c take++give)=false then ([],9)
 else if Iw (D3 c take++give)=false then ([],10) else if 12<(D3 c take++give).length then ([],3) else (D3 c take++give,0)
theorem uk {c:List Col} {take:List Str} {give:List Col} (h:E6 c=false):D6 c take give=([],1):=by unfold D6;rw [if_pos h]
theorem ul {c:List Col} {take:List Str} {give:List Col} (h:E6 c=true) (h2:Hl c take=false):D6 c take give=([],9):=by unfold D6;rw [if_neg (by rw [h];simp),if_pos h2]
theorem um {c:List Col} {take:List Str} {give out:List Col} (h:E6 c=true) (h2:Hl c take=true) (ho:D3 c take++give=out) (h3:K2 out=false):D6 c take give=([],9):=by
 unfold D6;rw [ho,if_neg (by rw [h];simp),if_neg (by rw [h2];simp),if_pos h3]
theorem un {c:List Col} {take:List Str} {give out:List Col} (h:E6 c=true) (h2:Hl c take=true) (ho:D3 c take++give=out) (h3:K2 out=true) (h4:Iw out=false):D6 c take give=([],10):=by
 unfold D6;rw [ho,if_neg (by rw [h];simp),if_neg (by rw [h2];simp),if_neg (by rw [h3];simp),if_pos h4]
theorem uo {c:List Col} {take:List Str} {give out:List Col} (h:E6 c=true) (h2:Hl c take=true) (ho:D3 c take++give=out) (h3:K2 out=true) (h4:Iw out=true) (h5:12<out.length):D6 c take give=([],3):=by
 unfold D6;rw [ho,if_neg (by rw [h];simp),if_neg (by rw [h2];simp),if_neg (by rw [h3];simp),if_neg (by rw [h4];simp),if_pos h5]
theorem uq {c:List Col} {take:List Str} {give out:List Col} (h:E6 c=true) (h2:Hl c take=true) (ho:D3 c take++give=out) (h3:K2 out=true) (h4:Iw out=true) (h5:¬12<out.length):D6 c take give=(out,0):=by
 unfold D6;rw [ho,if_neg (by rw [h];simp),if_neg (by rw [h2];simp),if_neg (by rw [h3];simp),if_neg (by rw [h4];simp),if_neg h5]
theorem Rh {c:List Col} (h:E6 c=true):c.length≤12:=by
 unfold E6 at h
 simp at h
 omega
theorem ur {c give:List Col} {take:List Str} {out:List Col} (hc:OkCols c) (h:E6 c=true) (hg:OkCols give) (hg2:give.length≤1000000) (ho:D3 c take++give=out):OkCols out:=by
 subst ho
 have h1:=N9 c take
 have h2:=Rh h
 refine ⟨by simp only [Ap];omega,fun y hy=>?_⟩
 rcases Dp.1 hy with hy|hy
 ·exact hc.2 y ((T3.1 hy).1)
 exact hg.2 y hy
theorem AGl (c:List Col) (hc:OkCols c) (take:List Str) (ht:take.length≤1048576) (Hp:List AObj):AFun Tryz.prog 241 [Aq c,Ft take] Hp (Bm (Hl c take)):=by
 refine Ah [.tmp 4] [0,1] Tryz.func241 Tryz.ntmps241 (fun d=>?_)
 refine Z53 ?_;refine Z32 ?_;refine A2 [0,1,7,8,9] ?_
 refine D7 (α:=Nat) (fun x=>⟨26,A7 0 (Aq c) (A7 1 (Ft take) (A7 7 (Ft take) (A7 8 (A4 take.length) (A7 9 (A4 (x:Nat)) (fun _=>.any))))),Hp,[],[],none⟩) (fun x=>x≤take.length∧∀(j:Nat) (y:Str),j<x→take[j]? = some y→O0 c take j y=true) (fun x=>take.length-x) (0) (by simp) (Cp (by simp)) rfl (fun x hx=>?_)
 refine Z2 ?_;refine A2 [0,1,7,8,9,10] ?_
 refine Dl (fun ht10=>?_) (fun ht10=>?_)
 ·have hlt:x<take.length:=by simpa using ht10
  refine Z83 ?_
  refine A5 (h:=Ak (x) (Ad take[x]) (fun _=>Bk hlt)) (hr:=?_)
  refine Z28 ?_;refine A2 [0,1,5,6,7,8,9] ?_;refine Z1 ?_;refine A9 Tryz.call58 (c58 c hc _ _) ?_;refine Z59 ?_;refine Cd Tryz.call70 (fun hB=>c70 take _ ht _) ?_;refine U7 ?_;refine A2 [0,1,7,8,9,24] ?_
  refine A3 (fun ht24=>?_) (fun ht24=>?_)
  ·refine Z73 ?_;refine Z62 ?_
   exact A8 (Aj A6) ⟨by rw [show Hl c take=false from Ko.2 fun h=>by have:=takenM_true.1 h x take[x] (Aa hlt);unfold O0 at this;rw [ht24] at this;cases this],rfl⟩
  refine Z58 ?_;refine A2 [0,1,7,8,9] ?_;exact Bp (x+1) ⟨hlt,Lx hlt hx.2 (by unfold O0;rw [ht24];rfl)⟩ (by omega) (Ea rfl)
 refine Z33 ?_;refine Z73 ?_;exact A8 (Aj A6) ⟨by rw [takenM_true.2 (Nv (by simp at ht10;omega) hx.2)],rfl⟩

theorem AGm (c:List Col) (hc:OkCols c) (Hp:List AObj):AFun Tryz.prog 243 [Aq c] Hp (Bm (K2 c)):=by
 refine Ah [.tmp 2] [0] Tryz.func243 Tryz.ntmps243 (fun d=>?_)
 refine Z46 ?_;refine Z32 ?_;refine A2 [0,5,6,7] ?_
 refine D7 (α:=Nat) (fun x=>⟨25,A7 0 (Aq c) (A7 5 (Aq c) (A7 6 (A4 c.length) (A7 7 (A4 (x:Nat)) (fun _=>.any)))),Hp,[],[],none⟩) (fun x=>x≤c.length∧∀(j:Nat) (y:Col),j<x→c[j]? = some y→Q5 c j y=true) (fun x=>c.length-x) (0) (by simp) (Cp (by simp)) rfl (fun x hx=>?_)
 refine Z2 ?_;refine A2 [0,5,6,7,8] ?_
 refine Dl (fun ht8=>?_) (fun ht8=>?_)
 ·have hlt:x<c.length:=by simpa using ht8
  have hcl:=hc.len
  refine Z83 ?_
  refine A5 (h:=Ak (x) (Bs c[x]) (fun _=>Bk hlt)) (hr:=?_)
  refine ge ?_;refine A2 [0,3,4,5,6,7] ?_;refine Z1 ?_;refine A9 Tryz.call40 (c40 _ (hc.names _ (Cl hlt)) _) ?_;refine Z0 ?_;refine Z34 ?_;refine Cd Tryz.call58 (fun hB=>c58 c hc _ _) ?_;refine U7 ?_;refine A2 [0,5,6,7,23] ?_
  refine A3 (fun ht23=>?_) (fun ht23=>?_)
  ·rw [K1] at ht23
   refine Z61 ?_;refine Z62 ?_
   exact A8 (Aj A6) ⟨by rw [show K2 c=false from Ko.2 fun h=>by have:=namedC_true.1 h x c[x] (Aa hlt);unfold Q5 at this;rw [ht23] at this;cases this],rfl⟩
  rw [K1] at ht23
  refine Z58 ?_;refine A2 [0,5,6,7] ?_
  refine Bp (x+1) ⟨hlt,Lx hlt hx.2 (by unfold Q5;rw [ht23];rfl)⟩ (by omega) ?_
  exact Dk (own:=[]) (fun _=>.refl _) (by repeat (first|exact Bj|refine Bi (by simp [or_imp,forall_and]) ?_)) (by simp) (by simp)
 refine Z33 ?_;refine Z61 ?_;exact A8 (Aj A6) ⟨by rw [namedC_true.2 (Nv (by simp at ht8;omega) hx.2)],rfl⟩

theorem AGn (c:List Col) (take:List Str) (Hp:List AObj):AFun Tryz.prog 242 [Aq c,Ft take] Hp (.fn (.func 286) [] [.ro [Aq c],.ro [Ft take]]):=by
 refine Ah [.tmp 4] [0,1] Tryz.func242 Tryz.ntmps242 (fun d=>?_)
 refine Z13 ?_;refine Ju ?_;refine E5 ?_;refine sk ?_;exact AB5

theorem AGo (l:Nat) (c:List Col) (take:List Str) (hc:c.length≤1048576) (ht:take.length≤1048576) (U:Nat→List AObj) (hlen:∀k,(U k).length=(U 0).length) (hll:l<(U 0).length)
  (hlw:∀k,∀x∈U k,ObjLow (U 0).length x) (hn:∀k y,c[k]? = some y→take.contains y.name=true→U (k+1)=U k)
  (hy:∀k y X,c[k]? = some y→take.contains y.name=false→AYield Tryz.prog l [Bs y] (U k++X) (fun b H'=>b=true∧H'=U (k+1)++X)):ACall Tryz.prog 286 [.yield l,.ro [Aq c],.ro [Ft take]] (U 0) (fun _ H'=>H'=U c.length):=by
 refine Ah [] [0,1,2] Tryz.func286 Tryz.ntmps286 (fun d=>?_)
 refine Z13 ?_;refine A2 [0,2,6,7,8] ?_
 refine D7 (α:=Nat) (fun x=>⟨24,A7 0 (.yield l) (A7 2 (.ro [Ft take]) (A7 6 (Aq c) (A7 7 (A4 c.length) (A7 8 (A4 (x:Nat)) (fun _=>.any))))),U x,[],[],none⟩) (fun x=>x≤c.length) (fun x=>c.length-x) (0) (Av _) (Cp (by simp)) rfl (fun x hx=>?_)
 refine Z2 ?_;refine A2 [0,2,6,7,8,9] ?_
 refine Dl (fun ht9=>?_) (fun ht9=>?_)
 ·have hlt:x<c.length:=by simpa using ht9
  refine Z88 ?_
  refine A5 (h:=Ak (x) (Bs c[x]) (fun _=>Bk hlt)) (hr:=?_)
  refine Wg ?_;refine A2 [0,2,5,6,7,8] ?_;refine Z13 ?_;refine A9 Tryz.call96 (c96 take _ ht _) ?_;refine Z59 ?_
  refine G.yield (l:=l) (C:=((!take.contains c[x].name)==true)) (args:=[Bs c[x]]) (fun hC=>hy x c[x] _ (Aa hlt) (by simpa using hC)) ?_
  intro b V O hV hb hb0
  have hVO:V=U (x+1)∧O=[AObj.cells 41 [Ad c[x].name,A4 c[x].kind]]∧(take.contains c[x].name=false→b=true):=by
   cases hcn:take.contains c[x].name with
   | true =>
    obtain ⟨h1,h2⟩:=hb0 (by rw [hcn];rfl)
    exact ⟨h1.trans (hn x c[x] (Aa hlt) hcn).symm,h2,fun e=>by cases e⟩
   | false =>
    obtain ⟨h1,h2⟩:=hb (by rw [hcn];rfl)
    have h3:=Ql h2 (by rw [hV,hlen x,hlen (x+1)])
    exact ⟨h3.1,h3.2,fun _=>h1⟩
  obtain ⟨rfl,rfl,hbt⟩:=hVO
  refine ⟨fun _=>by rw [hlen (x+1)];exact hlw (x+1),fun o ho=>(by cases ho),?_⟩
  refine U6 ?_;refine A2 [0,2,6,7,8,22] ?_
  refine A3 (fun ht22=>?_) (fun ht22=>?_)
  ·exfalso
   have hcf:take.contains c[x].name=false:=by simp at ht22 ⊢;exact ht22.1
   rw [hbt hcf] at ht22
   simp at ht22
  refine Z58 ?_;refine A2 [0,2,6,7,8] ?_;refine su ?_
  exact Dk (own:=[]) (fun _=>.refl _) (by repeat (first|exact Bj|refine Bi (by first|(simp [or_imp,forall_and];done)|(have:=hlen (x+1);simp;omega)) ?_)) (by simp) (by simp)
 have hxe:x=c.length:=by simp at ht9;omega
 refine K.lpE ?_;exact F0 .nores (hp:=by rw [hxe])

/-! What went and came, taken back: the same columns. -/
theorem ut {α β:Type} {f:α→β} {c:List α} (h:(c.map f).Nodup) {i j:Nat} {y z:α} (hi:c[i]? = some y) (hj:c[j]? = some z) (e:f y=f z):i=j:=by
 obtain ⟨hi',ei⟩:=Ab.1 hi
 obtain ⟨hj',ej⟩:=Ab.1 hj
 have h':List.Pairwise (·≠·) (c.map f):=h
 rw [js] at h'
 rcases Nat.lt_trichotomy i j with hlt|rfl|hlt
 ·have h2:=h' i j (by simpa using hi') (by simpa using hj') hlt
  rw [Mi,Mi,ei,ej] at h2
  exact absurd e h2
 ·rfl
 have h2:=h' j i (by simpa using hj') (by simpa using hi') hlt
 rw [Mi,Mi,ei,ej] at h2
 exact absurd e.symm h2
theorem K3 {c:List Col} (h:(c.map (·.name)).Nodup) {j:Nat} {y:Col} (hj:c[j]? = some y):Be y.name c=(j:Int):=by
 obtain ⟨hj',ej⟩:=Ab.1 hj
 exact c7 hj' (by rw [ej]) (fun k z hk hz e=>by have:=ut h hz hj e;omega)
theorem find_mem {nm:Str} {c:List Col}:¬(Be nm c<0)↔∃(j:Nat) (y:Col),c[j]? = some y∧y.name=nm∧Be nm c=(j:Int):=by
 unfold Be
 cases h:c.findIdx? (fun y=>y.name==nm) with
 | none =>
  constructor
  ·intro h';exact absurd (by decide) h'
  rintro ⟨j,y,_,_,e⟩
  exact absurd (show (-1:Int)=(j:Int) from e) (by omega)
 | some i =>
  rw [Mh] at h
  obtain ⟨hi,e,_⟩:=h
  constructor
  ·intro _;exact ⟨i,c[i],Aa hi,by simpa using e,rfl⟩
  intro _ h'
  have:(i:Int)<0:=h'
  omega
theorem z8 {c:List Col} {take:List Str} {give:List Col} (h:(D6 c take give).2=0):E6 c=true∧Hl c take=true∧Iw (D3 c take++give)=true∧(D3 c take++give).length≤12∧D6 c take give=(D3 c take++give,0):=by
 cases h1:E6 c with
 | false=>rw [uk h1] at h;exact absurd (show (1:Int)=0 from h) (by decide)
 | true =>
  cases h2:Hl c take with
  | false=>rw [ul h1 h2] at h;exact absurd (show (9:Int)=0 from h) (by decide)
  | true =>
   cases h3:K2 (D3 c take++give) with
   | false=>rw [um h1 h2 rfl h3] at h;exact absurd (show (9:Int)=0 from h) (by decide)
   | true =>
    cases h4:Iw (D3 c take++give) with
    | false=>rw [un h1 h2 rfl h3 h4] at h;exact absurd (show (10:Int)=0 from h) (by decide)
    | true =>
     by_cases h5:12<(D3 c take++give).length
     ·rw [uo h1 h2 rfl h3 h4 h5] at h;exact absurd (show (3:Int)=0 from h) (by decide)
     exact ⟨rfl,rfl,rfl,by omega,uq h1 h2 rfl h3 h4 h5⟩
set_option maxRecDepth 8000
/-- What a node asks of its kids, and what it is. -/
structure Sign where
 kids:List Int
 own:Int
def Dr (s:Str):Sign:=if (s==[111,114]) || (s==[97,110,100]) then ⟨[3,3],3⟩ else if (((((s==[61]) || (s==[33,61])) || (s==[60])) || (s==[60,61])) || (s==[62])) || (s==[62,61]) then ⟨[-1, -1],3⟩ else if s==[38] then ⟨[2,2],2⟩ else ⟨[1,1],1⟩
def Ev (s:Str):Sign:=if (s==[108,101,110]) || (s==[110,117,109]) then ⟨[2],1⟩ else if s==[115,116,114] then ⟨[1],2⟩ else if (s==[108,101,102,116]) || (s==[114,105,103,104,116]) then ⟨[2,1],2⟩ else if s==[105,115,110,117,108,108] then ⟨[-2],3⟩ else if s==[110,118,108] then ⟨[-1, -1], -1⟩ else ⟨[3, -1, -1], -1⟩
def K4 (o:Int) (t:Str):Sign:=if o==3 then ⟨[1],1⟩ else if o==4 then ⟨[3],3⟩ else if o==5 then Dr t else Ev t
def Fu (a b:Int):Int×Bool:=if a==0 then (b,true) else if (b==0) || (a==b) then (a,true) else (0,false)
def Gq:List Int→List Int→Int→Option Int
 | _,[],c=>some c
 | [],_::_,_=>none
 | w::ws,k::ks,c=>if w == -2 then Gq ws ks c else if w == -1 then (if (Fu c k).2 then Gq ws ks (Fu c k).1 else none) else if (Fu w k).2 then Gq ws ks c else none
def Sv (s:Sign) (ks:List Int):Int×Int:=match Gq s.kids ks 0 with|none=>(0,10)|some c=>if s.own == -1 then (c,0) else (s.own,0)
def Q6 (c:List Col) (t:Str):Int×Int:=if Be t c<0 then (0,9) else ((c.getD (Be t c).toNat ⟨[],0⟩).kind,0)
def Oc (c:List Col) (o:Int) (t:Str) (v:Val) (ks:List (Int×Int)):Int×Int:=
 if o==1 then (v.kind,0) else if o==2 then Q6 c t else match ks.find? (fun q=>q.2 != 0) with|some q=>(0,q.2)|none=>Sv (K4 o t) (ks.map (·.1))
mutual
def Bf (c:List Col):Expr→Int×Int
 | .mk o t v k=>Oc c o t v (kx c k)
def kx (c:List Col):List Expr→List (Int×Int)
  | []=>[]
  | e::r=>Bf c e::kx c r
 end
theorem Ri (c:List Col):∀l,kx c l=l.map (Bf c)
 | []=>rfl
 | e::r=>by rw [kx,Ri c r];rfl
theorem Na (c:List Col) (e:Expr):Bf c e=Oc c e.op e.text e.val (e.kids.map (Bf c)):=by cases e;rw [Bf,Ri];rfl
/-- infer.Kind. -/
def H6 (e:Expr) (c:List Col):Int×Int:=if (!(B6 e)) || !(Pw c) then (0,1) else Bf c e
/-! The signs have as many as the nodes have kids. -/
theorem iu (s:Str):(Dr s).kids.length=2:=by
 unfold Dr;repeat' split
 all_goals rfl
theorem iv {t:Str} {n:Nat} (h:C4 t=(n:Int)):(Ev t).kids.length=n:=by
 rw [show C4 t=C4 t from rfl] at h
 by_cases hm:t∈arityList.map (·.1)
 ·have:((arityList.map (·.1)).all fun s=>decide (((Ev s).kids.length:Int)=C4 s))=true:=by kernel_rfl
  have:=of_decide_eq_true (At.1 this t hm)
  omega
 have h1:C4 t = -1:=by
  unfold C4
  rw [Ll.2 fun p hp=>by
   simp only [beq_iff_eq]
   rintro rfl
   exact hm (C1.2 ⟨p,hp,rfl⟩)]
 omega
theorem uu {e:Expr} (h:Es e=true) (h1:(e.op==1)=false) (h2:(e.op==2)=false):(K4 e.op e.text).kids.length=e.kids.length:=by
 unfold Es at h
 rw [h1,h2] at h
 simp only [B2,if_false] at h
 unfold K4
 by_cases h3:(e.op==3)=true
 ·rw [h3] at h
  simp only [Jm,if_true,Ao,beq_iff_eq] at h
  rw [if_pos h3]
  show 1=_
  omega
 have h3':(e.op==3)=false:=by simpa using h3
 rw [if_neg h3]
 rw [h3'] at h
 by_cases h4:(e.op==4)=true
 ·rw [h4] at h
  simp only [F5,if_true,Ao,beq_iff_eq] at h
  rw [if_pos h4]
  show 1=_
  omega
 have h4':(e.op==4)=false:=by simpa using h4
 rw [if_neg h4]
 rw [h4'] at h
 simp only [Oi,B2,if_false] at h
 by_cases h5:(e.op==5)=true
 ·rw [h5] at h
  simp only [if_true,Ao,beq_iff_eq] at h
  rw [if_pos h5,iu]
  omega
 have h5':(e.op==5)=false:=by simpa using h5
 rw [if_neg h5]
 rw [h5'] at h
 simp only [B2,if_false] at h
 by_cases h6:(e.op==6)=true
 ·rw [h6] at h
  simp only [if_true,Ao,beq_iff_eq] at h
  exact iv h.2
 have h6':(e.op==6)=false:=by simpa using h6
 rw [h6'] at h
 cases h
/-! More columns. -/
theorem uv {c:List Col} {o:Int} {t:Str} {v:Val} {ks:List (Int×Int)} (h:(Oc c o t v ks).2=0) (h1:(o==1)=false) (h2:(o==2)=false):∀q∈ks,q.2=0:=by
 unfold Oc at h
 rw [h1,h2] at h
 simp only [B2,if_false] at h
 cases hf:ks.find? (fun q=>q.2 != 0) with
 | some q =>
  rw [hf] at h
  have:=Yk hf
  simp only [bne_iff_ne] at this
  exact absurd h this
 | none =>
  intro q hq
  have:=Ll.1 hf q hq
  simpa using this
/-! A tree in a column's place. -/
set_option maxRecDepth 4000
/-- Where a parser of expressions stands: its word, its nest, its fault. -/
structure PS where
 i:Nat
 nest:Nat
 code:Int
 at_:Int
def noV:Val:=⟨0,0,[]⟩
def B4:Expr:=.mk 0 [] noV []
def E8 (e a:Int) (S:PS):PS:=if S.code==0 then ⟨S.i,S.nest,e,a⟩ else S
def isM (l:List Tok) (of:Str) (S:PS):Bool:=(((Af l S.i).kind==5) || ((Af l S.i).kind==2))&&Nw (Af l S.i).text of
def Ai (S:PS):PS:=⟨S.i+1,S.nest,S.code,S.at_⟩
def Dd (S:PS):PS:=⟨S.i,S.nest+1,S.code,S.at_⟩
def Xr (S:PS):PS:=⟨S.i,S.nest-1,S.code,S.at_⟩
def Fe (l:List Tok) (s:Str) (S:PS):PS:=if S.code != 0 then S else if ((Af l S.i).kind != 5) || !((Af l S.i).text==s) then E8 8 (Af l S.i).at_ S else Ai S
/-- What stands one nest deeper. -/
structure Fam where
 ei:PS→Expr×PS
 no:PS→Expr×PS
 ne:PS→Expr×PS
def Ce (a:Int) (f:PS→Expr×PS) (S:PS):Expr×PS:=if (S.nest:Int)==30 then (B4,E8 18 a S) else ((f (Dd S)).1,Xr (f (Dd S)).2)
def L6 (t:Str) (x y:Expr):Expr:=.mk 5 t noV [x,y]
def Xs (l:List Tok) (of:Str) (f:PS→Expr×PS):Nat→Expr×PS→Expr×PS
 | 0,r=>r
 | n+1,r=>if (r.2.code==0)&&isM l of r.2 then Xs l of f n (L6 (Af l r.2.i).text r.1 (f (Ai r.2)).1,(f (Ai r.2)).2) else r
def Fv (l:List Tok) (of:Str) (f:PS→Expr×PS) (S:PS):Expr×PS:=Xs l of f l.length (f S)
def V5:Str:=[32,44,32]
def argsF (l:List Tok) (f:PS→Expr×PS):Nat→List Expr×PS→List Expr×PS
 | 0,r=>r
 | n+1,r=>if (r.2.code==0)&&isM l V5 r.2 then argsF l f n (r.1++[(f (Ai r.2)).1],(f (Ai r.2)).2) else r
def Hu (l:List Tok) (f:PS→Expr×PS) (S:PS):List Expr×PS:=argsF l f l.length ([(f S).1],(f S).2)
def Sg (l:List Tok) (a:Int) (f:PS→Expr×PS) (S:PS):List Expr×PS:=if (S.nest:Int)==30 then ([],E8 18 a S) else ((Hu l f (Dd S)).1,Xr (Hu l f (Dd S)).2)
def Fa:Str:=[41]
def Do (l:List Tok) (D:Fam) (S:PS):List Expr×PS:=Sg l (Af l S.i).at_ D.ei (Ai S)
def Hv (l:List Tok) (D:Fam) (t:Tok) (S:PS):Expr×PS:=
 if C4 t.text<0 then (B4,E8 9 t.at_ S)
 else if ((Fe l Fa (Do l D S).2).code==0) && !(((Do l D S).1.length:Int)==C4 t.text) then (B4,E8 8 t.at_ (Fe l Fa (Do l D S).2))
 else (.mk 6 t.text noV (Do l D S).1,Fe l Fa (Do l D S).2)
def orT:Str:=[32,111,114,32]
def od:Str:=[32,97,110,100,32]
def AC2:Str:=[32,110,111,116,32]
def za:Str:=[32,61,32,33,61,32,60,32,60,61,32,62,32,62,61,32]
def oe:Str:=[32,43,32,45,32,38,32]
def Xt:Str:=[32,42,32,47,32,37,32]
def AC3:Str:=[32,45,32]
def opT:Str:=[32,40,32]
def AC4:Str:=[32,116,114,117,101,32,102,97,108,115,101,32,110,117,108,108,32]
def O7 (v:Val):Expr:=.mk 1 [] v []
def Gi (l:List Tok) (D:Fam) (S:PS):Expr×PS:=
 if S.code != 0 then (B4,S)
 else if ((Af l S.i).kind==3) || isM l AC4 S then (O7 (Hh (Af l S.i).text).1,Ai S)
 else if (Af l S.i).kind==4 then (O7 ⟨2,0,(Af l S.i).text.take 200⟩,Ai S)
 else if (Af l S.i).kind==1 then (if isM l opT (Ai S) then Hv l D (Af l S.i) (Ai S) else (Cr (Af l S.i).text,Ai S))
 else if isM l opT S then ((Ce (Af l S.i).at_ D.ei (Ai S)).1,Fe l Fa (Ce (Af l S.i).at_ D.ei (Ai S)).2)
 else (B4,E8 8 (Af l S.i).at_ S)
def L7 (op:Int) (x:Expr):Expr:=.mk op [] noV [x]
def Sw (l:List Tok) (D:Fam) (S:PS):Expr×PS:=if !isM l AC3 S then Gi l D S else (L7 3 (Ce (Af l S.i).at_ D.ne (Ai S)).1,(Ce (Af l S.i).at_ D.ne (Ai S)).2)
def cx (l:List Tok) (D:Fam):PS→Expr×PS:=Fv l Xt (Sw l D)
def Eg (l:List Tok) (D:Fam):PS→Expr×PS:=Fv l oe (cx l D)
def Ff (l:List Tok) (D:Fam) (S:PS):Expr×PS:=
 if ((Eg l D S).2.code != 0) || !isM l za (Eg l D S).2 then Eg l D S
 else (L6 (Af l (Eg l D S).2.i).text (Eg l D S).1 (Eg l D (Ai (Eg l D S).2)).1,(Eg l D (Ai (Eg l D S).2)).2)
def Sx (l:List Tok) (D:Fam) (S:PS):Expr×PS:=if !isM l AC2 S then Ff l D S else (L7 4 (Ce (Af l S.i).at_ D.no (Ai S)).1,(Ce (Af l S.i).at_ D.no (Ai S)).2)
def cy (l:List Tok) (D:Fam):PS→Expr×PS:=Fv l od (Sx l D)
def Td (l:List Tok) (D:Fam):PS→Expr×PS:=Fv l orT (cy l D)
def Fb (l:List Tok):Nat→Fam
 | 0=>⟨fun S=>(B4,S),fun S=>(B4,S),fun S=>(B4,S)⟩
 | d+1=>⟨Td l (Fb l d),Sx l (Fb l d),Sw l (Fb l d)⟩

/-! What is so of them. -/
theorem I9:∀{n m:Nat},n≤m→∀{e:Expr},okE n e→okE m e
 | 0,_,_,_,h=>h.elim
 | n+1,0,h,_,_=>by omega
 | n+1,m+1,h,_,ho=>⟨ho.1,ho.2.1,fun y hy=>I9 (by omega) (ho.2.2 y hy)⟩
theorem V6:sizeE B4=1:=rfl
theorem og (t:Str) (a b:Expr):sizeE (L6 t a b)=1+(sizeE a+(sizeE b+0)):=by rw [L6,sizeE,Dc,Dc,Dc]
theorem oh (o:Int) (a:Expr):sizeE (L7 o a)=1+(sizeE a+0):=by rw [L7,sizeE,Dc,Dc]
theorem Xu:∀a b:List Expr,Dc (a++b)=Dc a+Dc b
 | [],b=>by rw [Ek,Dc,B5]
 | e::r,b=>by rw [Ef,Dc,Dc,Xu r b,Kc]
theorem cz {n:Nat} (h:1≤n):okE n B4:=I9 h ⟨by decide,by decide,fun y hy=>by cases hy⟩
theorem ky {n:Nat} (h:1≤n) (v:Val):okE n (O7 v):=I9 h ⟨by simp [O7,Expr.text],by simp [O7,Expr.kids],fun y hy=>by cases hy⟩
structure Fact (l:List Tok) (S:PS) (r:Expr×PS):Prop where
 le:S.i≤r.2.i
 lt:r.2.i<l.length
 nest:r.2.nest=S.nest
 ok:okE (2*(r.2.i-S.i)+1) r.1
 sz:sizeE r.1≤2*(r.2.i-S.i)+1
def Eh (l:List Tok) (n:Nat) (f:PS→Expr×PS):Prop:=∀S,S.i<l.length→S.nest=n→Fact l S (f S)
theorem TokEnd.step {l:List Tok} (h:TokEnd l) {i:Nat} (hi:i<l.length) (hk:(Af l i).kind≠0):i+1<l.length:=by
 obtain ⟨L,z,rfl,hz,_⟩:=h.split
 rcases B3 i L.length with h1|h1
 ·simp only [Ap,Bh,Cm];omega
 have:i=L.length:=by simp only [Ap,Bh,Cm] at hi;omega
 subst this
 exact absurd (by unfold Af;simpa using hz) hk
theorem uw {l:List Tok} {of:Str} {S:PS} (h:isM l of S=true):(Af l S.i).kind≠0:=by
 unfold isM at h
 simp only [Ao,Dj,beq_iff_eq] at h
 omega
theorem TokEnd.stepIs {l:List Tok} (h:TokEnd l) {of:Str} {S:PS} (hi:S.i<l.length) (hk:isM l of S=true):(Ai S).i<l.length:=h.step hi (uw hk)
theorem failM_i {e a:Int} {S:PS}:(E8 e a S).i=S.i∧(E8 e a S).nest=S.nest:=by unfold E8;split<;>exact ⟨rfl,rfl⟩
theorem kz {l:List Tok} (hl:TokEnd l) {s:Str} {S:PS} (hi:S.i<l.length):S.i≤(Fe l s S).i∧(Fe l s S).i<l.length∧(Fe l s S).nest=S.nest:=by
 unfold Fe
 split
 ·exact ⟨Ae _,hi,rfl⟩
 split
 ·rw [failM_i.1,failM_i.2];exact ⟨Ae _,hi,rfl⟩
 rename_i h
 simp only [Dj,bne_iff_ne,ne_eq,not_or,Classical.not_not] at h
 have:=hl.step hi (by rw [h.1];decide)
 exact ⟨Ii _,this,rfl⟩
theorem Q7 {l:List Tok} {S S0:PS} (h0:S0.i≤S.i) (h1:S.i<l.length) (h2:S.nest=S0.nest) (e a:Int):Fact l S0 (B4,E8 e a S):=by
 refine ⟨?_,?_,?_,cz (by omega),by rw [V6];omega⟩
 ·show _≤(E8 e a S).i;rw [failM_i.1];exact h0
 ·show (E8 e a S).i<_;rw [failM_i.1];exact h1
 show (E8 e a S).nest=_;rw [failM_i.2];exact h2
/-- A state of a loop of marks. -/
structure LeftAt (l:List Tok) (of:Str) (f:PS→Expr×PS) (S:PS) (r:Expr×PS):Prop where
 fact:Fact l S r
 eq:∃n,l.length≤r.2.i+n∧Fv l of f S=Xs l of f n r
theorem LeftAt.start {l:List Tok} {of:Str} {f:PS→Expr×PS} {S:PS} (h:Fact l S (f S)):LeftAt l of f S (f S):=⟨h,l.length,by omega,rfl⟩
theorem l3 {l:List Tok} {S:PS} {r q:Expr×PS} (h:Fact l S r) (hq:Fact l (Ai r.2) q) (hl:TokEnd l):Fact l S (L6 (Af l r.2.i).text r.1 q.1,q.2):=by
 have h1:=h.le
 have h2:r.2.i+1≤q.2.i:=hq.le
 refine ⟨by show S.i≤q.2.i;omega,hq.lt,by show q.2.nest=S.nest;rw [hq.nest];exact h.nest,?_,?_⟩
 rotate_left
 ·have s1:=h.sz
  have s2:sizeE q.1≤2*(q.2.i-(r.2.i+1))+1:=hq.sz
  show sizeE (L6 _ r.1 q.1)≤2*(q.2.i-S.i)+1
  rw [og]
  omega
 show okE (2*(q.2.i-S.i)+1) _
 refine ⟨hl.text _,by simp [L6,Expr.kids],fun y hy=>?_⟩
 have hy':y=r.1∨y=q.1:=by simpa [L6,Expr.kids] using hy
 rcases hy' with rfl|rfl
 ·exact I9 (by omega) h.ok
 exact I9 (by show 2*(q.2.i-(r.2.i+1))+1≤_;omega) hq.ok
theorem LeftAt.on {l:List Tok} {of:Str} {f:PS→Expr×PS} {S:PS} {r:Expr×PS} (hl:TokEnd l) (h:LeftAt l of f S r) (hc:((r.2.code==0)&&isM l of r.2)=true) (hf:Eh l S.nest f):(Ai r.2).i<l.length∧Fact l (Ai r.2) (f (Ai r.2))∧LeftAt l of f S (L6 (Af l r.2.i).text r.1 (f (Ai r.2)).1,(f (Ai r.2)).2):=by
 have hi:=hl.stepIs h.fact.lt (rd.1 hc).2
 have hq:=hf (Ai r.2) hi h.fact.nest
 obtain ⟨n,hn,e⟩:=h.eq
 have h1:=h.fact.lt
 have h2:r.2.i+1≤(f (Ai r.2)).2.i:=hq.le
 obtain ⟨m,rfl⟩:∃m,n=m+1:=⟨n-1,by omega⟩
 refine ⟨hi,hq,l3 h.fact hq hl,m,by show l.length≤(f (Ai r.2)).2.i+m;omega,?_⟩
 rw [e,Xs,if_pos hc]
theorem LeftAt.out {l:List Tok} {of:Str} {f:PS→Expr×PS} {S:PS} {r:Expr×PS} (h:LeftAt l of f S r) (hc:¬((r.2.code==0)&&isM l of r.2)=true):Fv l of f S=r:=by
 obtain ⟨n,hn,e⟩:=h.eq
 have h1:=h.fact.lt
 obtain ⟨m,rfl⟩:∃m,n=m+1:=⟨n-1,by omega⟩
 rw [e,Xs,if_neg hc]
theorem d7 {l:List Tok} {of:Str} {f:PS→Expr×PS} {S:PS} (hl:TokEnd l) (hf:Eh l S.nest f):∀(k:Nat) (r:Expr×PS),l.length-r.2.i≤k→LeftAt l of f S r→Fact l S (Fv l of f S)
 | 0,r,hk,h=>by have:=h.fact.lt;omega
 | k+1,r,hk,h=>by
  by_cases hc:((r.2.code==0)&&isM l of r.2)=true
  ·obtain ⟨h1,h2,h3⟩:=h.on hl hc hf
   have h4:r.2.i+1≤(f (Ai r.2)).2.i:=h2.le
   exact d7 hl hf k _ (by show l.length-(f (Ai r.2)).2.i≤k;have:=h.fact.lt;omega) h3
  rw [h.out hc];exact h.fact
theorem H1 {l:List Tok} {of:Str} {f:PS→Expr×PS} {n:Nat} (hl:TokEnd l) (hf:Eh l n f):Eh l n (Fv l of f):=fun S hi hn=>d7 hl (hn ▸ hf) l.length (f S) (by omega) (.start (hf S hi hn))
theorem Jc {l:List Tok} {f:PS→Expr×PS} {S:PS} (a:Int) (hi:S.i<l.length) (hf:S.nest≠30→Eh l (S.nest+1) f):Fact l S (Ce a f S):=by
 unfold Ce
 split
 ·exact Q7 (Ae _) hi rfl _ _
 rename_i h
 have h30:S.nest≠30:=fun e=>h (by rw [e];rfl)
 have:=hf h30 (Dd S) hi rfl
 refine ⟨this.le,this.lt,?_,this.ok,this.sz⟩
 show (f (Dd S)).2.nest-1=S.nest
 rw [this.nest]
 rfl
/-- What is so of some kids. -/
structure KFact (l:List Tok) (S:PS) (r:List Expr×PS):Prop where
 le:S.i≤r.2.i
 lt:r.2.i<l.length
 nest:r.2.nest=S.nest
 len:r.1.length≤r.2.i-S.i+1
 ok:∀y∈r.1,okE (2*(r.2.i-S.i)+1) y
 sz:Dc r.1≤2*(r.2.i-S.i)+1
structure ArgsAt (l:List Tok) (f:PS→Expr×PS) (S:PS) (r:List Expr×PS):Prop where
 fact:KFact l S r
 eq:∃n,l.length≤r.2.i+n∧Hu l f S=argsF l f n r
theorem ArgsAt.start {l:List Tok} {f:PS→Expr×PS} {S:PS} (h:Fact l S (f S)):ArgsAt l f S ([(f S).1],(f S).2):=⟨⟨h.le,h.lt,h.nest,by simp,fun y hy=>by rw [Az.1 hy];exact h.ok,by have:=h.sz;show sizeE (f S).1+0≤_;exact this⟩,l.length,by omega,rfl⟩
theorem ArgsAt.on {l:List Tok} {f:PS→Expr×PS} {S:PS} {r:List Expr×PS} (hl:TokEnd l) (h:ArgsAt l f S r) (hc:((r.2.code==0)&&isM l V5 r.2)=true) (hf:Eh l S.nest f):(Ai r.2).i<l.length∧Fact l (Ai r.2) (f (Ai r.2))∧ArgsAt l f S (r.1++[(f (Ai r.2)).1],(f (Ai r.2)).2):=by
 have hi:=hl.stepIs h.fact.lt (rd.1 hc).2
 have hq:=hf (Ai r.2) hi h.fact.nest
 obtain ⟨n,hn,e⟩:=h.eq
 have h1:=h.fact.lt
 have h0:=h.fact.le
 have h2:r.2.i+1≤(f (Ai r.2)).2.i:=hq.le
 obtain ⟨m,rfl⟩:∃m,n=m+1:=⟨n-1,by omega⟩
 refine ⟨hi,hq,⟨by show S.i≤(f (Ai r.2)).2.i;omega,hq.lt,by show (f (Ai r.2)).2.nest=_;rw [hq.nest];exact h.fact.nest,?_,fun y hy=>?_,?_⟩,m,by show l.length≤(f (Ai r.2)).2.i+m;omega,?_⟩
 ·have:=h.fact.len
  show (r.1++_).length≤(f (Ai r.2)).2.i-S.i+1
  simp only [Ap,Bh,Cm]
  omega
 ·show okE (2*((f (Ai r.2)).2.i-S.i)+1) y
  rcases Dp.1 hy with hy|hy
  ·exact I9 (by omega) (h.fact.ok y hy)
  rw [Az.1 hy]
  exact I9 (by show 2*((f (Ai r.2)).2.i-(r.2.i+1))+1≤_;omega) hq.ok
 ·have s1:=h.fact.sz
  have s2:sizeE (f (Ai r.2)).1≤2*((f (Ai r.2)).2.i-(r.2.i+1))+1:=hq.sz
  show Dc (r.1++[(f (Ai r.2)).1])≤2*((f (Ai r.2)).2.i-S.i)+1
  rw [Xu,Dc,Dc]
  omega
 rw [e,argsF,if_pos hc]
theorem ArgsAt.out {l:List Tok} {f:PS→Expr×PS} {S:PS} {r:List Expr×PS} (h:ArgsAt l f S r) (hc:¬((r.2.code==0)&&isM l V5 r.2)=true):Hu l f S=r:=by
 obtain ⟨n,hn,e⟩:=h.eq
 have h1:=h.fact.lt
 obtain ⟨m,rfl⟩:∃m,n=m+1:=⟨n-1,by omega⟩
 rw [e,argsF,if_neg hc]
theorem d8 {l:List Tok} {f:PS→Expr×PS} {S:PS} (hl:TokEnd l) (hf:Eh l S.nest f):∀(k:Nat) (r:List Expr×PS),l.length-r.2.i≤k→ArgsAt l f S r→KFact l S (Hu l f S)
 | 0,r,hk,h=>by have:=h.fact.lt;omega
 | k+1,r,hk,h=>by
  by_cases hc:((r.2.code==0)&&isM l V5 r.2)=true
  ·obtain ⟨h1,h2,h3⟩:=h.on hl hc hf
   have h4:r.2.i+1≤(f (Ai r.2)).2.i:=h2.le
   exact d8 hl hf k _ (by show l.length-(f (Ai r.2)).2.i≤k;have:=h.fact.lt;omega) h3
  rw [h.out hc];exact h.fact
theorem V7 {l:List Tok} {f:PS→Expr×PS} {S:PS} (hl:TokEnd l) (hi:S.i<l.length) (hf:Eh l S.nest f):KFact l S (Hu l f S):=d8 hl hf l.length _ (by show l.length-(f S).2.i≤_;omega) (.start (hf S hi rfl))
theorem V8 {l:List Tok} {f:PS→Expr×PS} {S:PS} (hl:TokEnd l) (a:Int) (hi:S.i<l.length) (hf:S.nest≠30→Eh l (S.nest+1) f):KFact l S (Sg l a f S):=by
 unfold Sg
 split
 ·refine ⟨?_,?_,?_,by simp,fun y hy=>(by cases hy),by simp [Dc]⟩
  ·show _≤(E8 _ _ S).i;rw [failM_i.1];exact Ae _
  ·show (E8 _ _ S).i<_;rw [failM_i.1];exact hi
  show (E8 _ _ S).nest=_;rw [failM_i.2]
 rename_i h
 have h30:S.nest≠30:=fun e=>h (by rw [e];rfl)
 have:=V7 (S:=Dd S) hl hi (hf h30)
 refine ⟨this.le,this.lt,?_,this.len,this.ok,this.sz⟩
 show (Hu l f (Dd S)).2.nest-1=S.nest
 rw [this.nest]
 rfl
theorem iw {l:List Tok} {D:Fam} {S:PS} (hl:TokEnd l) (hll:l.length≤1048576) {t:Tok} (ht:t.text.length≤1048576) (hi:(Ai S).i<l.length) (hf:S.nest≠30→Eh l (S.nest+1) D.ei):Fact l S (Hv l D t S):=by
 have hk:KFact l (Ai S) (Do l D S):=V8 hl _ hi hf
 have h1:S.i+1≤(Do l D S).2.i:=hk.le
 obtain ⟨w1,w2,w3⟩:=kz (s:=Fa) hl hk.lt
 unfold Hv
 split
 ·exact Q7 (Ae _) (by show S.i<_;have:S.i+1<l.length:=hi;omega) rfl _ _
 split
 ·exact Q7 (show S.i≤(Fe l Fa (Do l D S).2).i by omega) w2 (w3.trans hk.nest) 8 t.at_
 refine ⟨by show S.i≤(Fe l Fa (Do l D S).2).i;omega,w2,w3.trans hk.nest,?_,?_⟩
 rotate_left
 ·have s1:Dc (Do l D S).1≤2*((Do l D S).2.i-(S.i+1))+1:=hk.sz
  show sizeE (.mk 6 t.text noV (Do l D S).1)≤2*((Fe l Fa (Do l D S).2).i-S.i)+1
  rw [sizeE]
  omega
 show okE (2*((Fe l Fa (Do l D S).2).i-S.i)+1) _
 refine ⟨ht,?_,fun y hy=>?_⟩
 ·have h5:(Do l D S).1.length≤(Do l D S).2.i-(Ai S).i+1:=hk.len
  have h6:=hk.lt
  show (Do l D S).1.length≤1048576
  omega
 exact I9 (by show 2*((Do l D S).2.i-(S.i+1))+1≤_;omega) (hk.ok y hy)
theorem ix {l:List Tok} {D:Fam} {n:Nat} (hl:TokEnd l) (hll:l.length≤1048576) (hf:n≠30→Eh l (n+1) D.ei):Eh l n (Gi l D):=by
 intro S hi hn
 subst hn
 unfold Gi
 have leaf:∀e:Expr,okE 1 e→sizeE e=1→(Af l S.i).kind≠0→Fact l S (e,Ai S):=fun e he hs hk=>⟨Ii _,hl.step hi hk,rfl,I9 (by omega) he,by show sizeE e≤_;omega⟩
 split
 ·exact ⟨Ae _,hi,rfl,cz (by omega),by show sizeE B4≤_;rw [V6];omega⟩
 split
 ·rename_i h
  refine leaf _ (ky (Ae _) _) rfl ?_
  rcases Bool.or_eq_true_iff.1 h with h|h
  ·rw [beq_iff_eq] at h;rw [h];decide
  exact uw h
 split
 ·rename_i h
  rw [beq_iff_eq] at h
  exact leaf _ (ky (Ae _) _) rfl (by rw [h];decide)
 split
 ·rename_i h
  rw [beq_iff_eq] at h
  have hk:(Af l S.i).kind≠0:=by rw [h];decide
  split
  ·rename_i h2
   have hi1:(Ai S).i<l.length:=hl.step hi hk
   have:=iw (S:=Ai S) (D:=D) hl hll (hl.text S.i) (hl.stepIs hi1 h2) hf
   have h3:S.i+1≤(Hv l D (Af l S.i) (Ai S)).2.i:=this.le
   have h4:sizeE (Hv l D (Af l S.i) (Ai S)).1≤2*((Hv l D (Af l S.i) (Ai S)).2.i-(S.i+1))+1:=this.sz
   exact ⟨by omega,this.lt,this.nest,I9 (by show 2*((Hv l D (Af l S.i) (Ai S)).2.i-(S.i+1))+1≤_;omega) this.ok,by omega⟩
  exact leaf _ (cl _ (hl.text _)) rfl hk
 split
 ·rename_i h
  have hi1:(Ai S).i<l.length:=hl.stepIs hi h
  have:=Jc (S:=Ai S) (l:=l) (f:=D.ei) (Af l S.i).at_ hi1 hf
  obtain ⟨w1,w2,w3⟩:=kz (s:=Fa) hl this.lt
  have h3:S.i+1≤(Ce (Af l S.i).at_ D.ei (Ai S)).2.i:=this.le
  have h4:sizeE (Ce (Af l S.i).at_ D.ei (Ai S)).1≤2*((Ce (Af l S.i).at_ D.ei (Ai S)).2.i-(S.i+1))+1:=this.sz
  refine ⟨by show S.i≤(Fe l Fa _).i;omega,w2,w3.trans this.nest,I9 ?_ this.ok,by show sizeE (Ce (Af l S.i).at_ D.ei (Ai S)).1≤2*((Fe l Fa (Ce (Af l S.i).at_ D.ei (Ai S)).2).i-S.i)+1;omega⟩
  show 2*((Ce (Af l S.i).at_ D.ei (Ai S)).2.i-(S.i+1))+1≤2*((Fe l Fa (Ce (Af l S.i).at_ D.ei (Ai S)).2).i-S.i)+1
  omega
 exact Q7 (Ae _) hi rfl _ _
theorem l4 {l:List Tok} {S:PS} {r:Expr×PS} (h:Fact l (Ai S) r) (op:Int):Fact l S (L7 op r.1,r.2):=by
 have h1:S.i+1≤r.2.i:=h.le
 refine ⟨by show S.i≤r.2.i;omega,h.lt,h.nest,?_,?_⟩
 rotate_left
 ·have s1:sizeE r.1≤2*(r.2.i-(S.i+1))+1:=h.sz
  show sizeE (L7 op r.1)≤2*(r.2.i-S.i)+1
  rw [oh]
  omega
 show okE (2*(r.2.i-S.i)+1) _
 refine ⟨by simp [L7,Expr.text],by simp [L7,Expr.kids],fun y hy=>?_⟩
 have hy':y=r.1:=by simpa [L7,Expr.kids] using hy
 subst hy'
 exact I9 (by show 2*(r.2.i-(S.i+1))+1≤_;omega) h.ok
theorem Rj {l:List Tok} {D:Fam} {n:Nat} (hl:TokEnd l) (hll:l.length≤1048576) (hf:n≠30→Eh l (n+1) D.ei) (hg:n≠30→Eh l (n+1) D.ne):Eh l n (Sw l D):=by
 intro S hi hn
 unfold Sw
 split
 ·exact ix hl hll hf S hi hn
 rename_i h
 subst hn
 exact l4 (Jc (S:=Ai S) _ (hl.stepIs hi (by simpa using h)) hg) 3
theorem Xv {l:List Tok} {D:Fam} {n:Nat} (hl:TokEnd l) (hll:l.length≤1048576) (hf:n≠30→Eh l (n+1) D.ei) (hg:n≠30→Eh l (n+1) D.ne):Eh l n (Eg l D):=H1 hl (H1 hl (Rj hl hll hf hg))
theorem Od {l:List Tok} {D:Fam} {n:Nat} (hl:TokEnd l) (hll:l.length≤1048576) (hf:n≠30→Eh l (n+1) D.ei) (hg:n≠30→Eh l (n+1) D.ne):Eh l n (Ff l D):=by
 intro S hi hn
 have h1:=Xv hl hll hf hg S hi hn
 unfold Ff
 split
 ·exact h1
 rename_i h
 simp only [Dj,not_or,Tl,Mg] at h
 exact l3 h1 (Xv hl hll hf hg _ (hl.stepIs h1.lt h.2) (h1.nest.trans hn)) hl
theorem Xw {l:List Tok} {D:Fam} {n:Nat} (hl:TokEnd l) (hll:l.length≤1048576) (hf:n≠30→Eh l (n+1) D.ei) (hg:n≠30→Eh l (n+1) D.ne) (hh:n≠30→Eh l (n+1) D.no):Eh l n (Sx l D):=by
 intro S hi hn
 unfold Sx
 split
 ·exact Od hl hll hf hg S hi hn
 rename_i h
 subst hn
 exact l4 (Jc (S:=Ai S) _ (hl.stepIs hi (by simpa using h)) hh) 4
theorem Rk {l:List Tok} (hl:TokEnd l) (hll:l.length≤1048576):∀(d n:Nat),n+d=31→n≠31→Eh l n (Fb l d).ei∧Eh l n (Fb l d).no∧Eh l n (Fb l d).ne
 | 0,n,h,h2=>by omega
 | d+1,n,h,_=>by
  have ih:n≠30→_:=fun h30=>Rk hl hll d (n+1) (by omega) (by omega)
  have hn:=Xw (D:=Fb l d) (n:=n) hl hll (fun h=>(ih h).1) (fun h=>(ih h).2.2) (fun h=>(ih h).2.1)
  exact ⟨H1 hl (H1 hl hn),hn,Rj hl hll (fun h=>(ih h).1) (fun h=>(ih h).2.2)⟩
abbrev pr (l:List Tok) (S:PS):AObj:=.cells 171 [.slice false 3 (l.map Jy),A4 (S.i:Int),A4 (S.nest:Int),A4 S.code,A4 S.at_]
theorem D4 {n:Nat} {l:List Tok} {S:PS}:ObjLow n (pr l S):=by
 show ∀y∈[AV.slice false 3 (l.map Jy),A4 (S.i:Int),A4 (S.nest:Int),A4 S.code,A4 S.at_],Low n y
 intro y hy
 simp only [Bg,Hc,or_false] at hy
 rcases hy with rfl|rfl|rfl|rfl|rfl
 ·simp [or_imp,forall_and]
 all_goals simp
theorem V9 (o:Int) (t:Str) (v:Val):Le (.agg [A4 o,Ad t,A4 v.kind,A4 v.n,Ad v.s,.nil]) (Ac (.mk o t v [])):=by
 rw [Am]
 refine .agg _ _ rfl (by simp [AV.one,Value.oneCell',sv]) fun i y y' h1 h2=>?_
 match i with
 | 0=>simp at h1 h2;subst h1;subst h2;exact .inl rfl
 | 1=>simp at h1 h2;subst h1;subst h2;exact .inl rfl
 | 2=>simp at h1 h2;subst h1;subst h2;exact .inl rfl
 | 3=>simp at h1 h2;subst h1;subst h2;exact .inl rfl
 | 4=>simp at h1 h2;subst h1;subst h2;exact .inl rfl
 | 5=>simp at h1 h2;subst h1;subst h2;exact .inr ⟨rfl,6,rfl⟩
 | i+6=>simp at h1
theorem Va:Le (.agg [A4 0,Ad [],A4 0,A4 0,Ad [],.nil]) (Ac B4):=V9 0 [] noV
theorem AEt (l:List Tok) (S:PS) (o:Nat) (Hp:List AObj) (ho:Hp[o]? = some (pr l S)) (hi:S.i<l.length):AFun Tryz.prog 254 [.ptr o 0] Hp (Jy (Af l S.i)):=by
 refine Ah [.cell 2 113] [0] Tryz.func254 Tryz.ntmps254 (fun d=>?_)
 refine ADr ?_;refine Z39 ?_
 refine An (h:=Bw ho) (hr:=?_)
 refine Z39 ?_
 refine An (h:=Bw ho) (hr:=?_)
 refine Gl ?_
 refine A5 (h:=Ak (S.i) (Jy (Af l S.i)) (fun _=>Ut hi)) (hr:=?_)
 refine A5 ?_;exact xn

theorem d9 (l:List Tok) (S:PS) (of:Str) (o:Nat) (Hp:List AObj) (ho:Hp[o]? = some (pr l S)) (hi:S.i<l.length) (hl:TokEnd l) (hof:of.length≤1048576):AFun Tryz.prog 203 [.ptr o 0,Ad of] Hp (Bm (isM l of S)):=by
 refine Ah [.tmp 4] [0,1] Tryz.func203 Tryz.ntmps203 (fun d=>?_)
 refine Z53 ?_;refine ABd ?_;refine Z18 ?_;refine A2 [1,5] ?_;refine Z19 ?_;refine Z85 ?_;refine Z34 ?_;refine Cd Tryz.call125 (fun hB=>AEp (Af l S.i).text of (hl.text _) hof _) ?_;exact y8

theorem ux (l:List Tok) (S:PS) (o:Nat) (Hp:List AObj) (ho:Hp[o]? = some (pr l S)) (hi:S.i<l.length) (hll:l.length≤1048576):ACall Tryz.prog 204 [.ptr o 0] Hp (fun r H'=>r=Jy (Af l S.i)∧H'=Hp.set o (pr l (Ai S))):=by
 refine Ah [.cell 2 113] [0] Tryz.func204 Tryz.ntmps204 (fun d=>?_)
 refine Z47 ?_;refine ABd ?_;refine br ?_;refine Z13 ?_
 refine A5 (h:=Bw ho) (hr:=?_)
 refine Z28 ?_
 refine Ez jS ho ?_ ?_
 ·simp
 refine Ju ?_;refine Z2 ?_;exact xn

theorem oi (l:List Tok) (S:PS) (e a:Int) (o:Nat) (Hp:List AObj) (ho:Hp[o]? = some (pr l S)):ACall Tryz.prog 116 [.ptr o 0,A4 e,A4 a] Hp (fun r H'=>r=Ac B4∧H'=Hp.set o (pr l (E8 e a S))):=by
 refine Ah [.cell 6 26] [0,1,2] Tryz.func116 Tryz.ntmps116 (fun d=>?_)
 refine xu ?_;refine Z55 ?_
 refine A5 (h:=Bw ho) (hr:=?_)
 refine A5 ?_;refine A2 [0,1,2,6,12] ?_
 refine A3 (fun ht12=>?_) (fun ht12=>?_)
 ·have e:E8 e a S=⟨S.i,S.nest,e,a⟩:=if_pos ht12
  refine bu ?_;refine Zo ?_;refine Z0 ?_
  refine Ez jS ho ?_ ?_
  ·simp
  refine A2 [6] ?_;refine Gm ?_;refine AB4 ?_;refine R.wk 19 _ Va ?_;refine ga ?_;exact A8 (Aj (B8 jA jS)) ⟨rfl,by rw [e]⟩ (hlow:=As _ B4)
 have e:E8 e a S=S:=if_neg (by rw [ht12];simp)
 refine Z6 ?_;refine AB4 ?_;refine R.wk 19 _ Va ?_;refine ga ?_;exact A8 (Aj (B8 jA jS)) ⟨rfl,by rw [e];exact (Hg ho).symm⟩ (hlow:=As _ B4)

theorem AEu (v:Val) (Hp:List AObj):AFun Tryz.prog 348 [Ba v] Hp (Ac (O7 v)):=by
 refine Ah [.cell 2 26] [0] Tryz.func348 Tryz.ntmps348 (fun d=>?_)
 refine Z2 ?_;refine O6 ?_;refine A2 [1,2] ?_;refine Z2 ?_;refine sw ?_;refine R.wk 4 _ (V9 1 [] v) ?_;refine Z9 ?_;exact A8 (Aj (B8 jA jS)) ⟨rfl,rfl⟩ (hlow:=As _ (O7 v))

theorem AEv (l:List Tok) (S:PS) (s:Str) (o:Nat) (Hp:List AObj) (ho:Hp[o]? = some (pr l S)) (hi:S.i<l.length) (hll:l.length≤1048576):ACall Tryz.prog 350 [.ptr o 0,Ad s] Hp (fun r H'=>r=.v (.tuple #[])∧H'=Hp.set o (pr l (Fe l s S))):=by
 refine Ah [] [0,1] Tryz.func350 Tryz.ntmps350 (fun d=>?_)
 refine Z55 ?_
 refine A5 (h:=Bw ho) (hr:=?_)
 refine A5 ?_;refine A2 [0,1,10] ?_
 refine A3 (fun ht10=>?_) (fun ht10=>?_)
 ·have e:Fe l s S=S:=if_pos ht10
  refine Z98 ?_;exact A8 .nores (hp:=⟨rfl,by rw [e];exact (Hg ho).symm⟩)
 have e0:¬(S.code != 0)=true:=by rw [ht10];simp
 refine bx ?_;refine A9 Tryz.call254 (AEt l S o _ (Ag ho) hi) ?_;refine Z18 ?_;refine A2 [0,1,4] ?_;refine Z19 ?_;refine Z10 ?_;refine U7 ?_;refine A2 [0,4,21] ?_
 refine A3 (fun ht21=>?_) (fun ht21=>?_)
 ·have e:Fe l s S=E8 8 (Af l S.i).at_ S:=by unfold Fe;rw [if_neg e0,if_pos ht21]
  refine ADi ?_;refine A2 [] ?_;refine Z98 ?_;exact A8 .nores (hp:=⟨rfl,by rw [e]⟩)
 have e:Fe l s S=Ai S:=by unfold Fe;rw [if_neg e0,if_neg (by rw [ht21];simp)]
 refine Z6 ?_;refine bu ?_
 refine A5 (h:=Bw ho) (hr:=?_)
 refine Z28 ?_
 refine Ez jS ho ?_ ?_
 ·simp
 refine A2 [] ?_;exact F0 .nores (hp:=⟨rfl,by rw [e];rfl⟩)

/-- The contract of one of the parser's functions. -/
def PC (g:FuncId) (l:List Tok) (f:PS→Expr×PS) (n:Nat):Prop:=∀(o:Nat) (Hp:List AObj) (S:PS),Hp[o]? = some (pr l S)→S.i<l.length→S.nest=n→ACall Tryz.prog g [.ptr o 0] Hp (fun r H'=>r=Ac (f S).1∧H'=Hp.set o (pr l (f S).2))
abbrev Kw:AObj:=.cells 26 [A4 0,Ad [],A4 0,A4 0,Ad [],.nil]
theorem l5 {n:Nat}:ObjLow n Kw:=by
 show ∀y∈[A4 0,Ad [],A4 0,A4 0,Ad [],AV.nil],Low n y
 simp
theorem zb {n:Nat} (e:Expr):ObjLow n (.cells 26 (Fd e)):=by
 have h:=As n e
 rw [Am] at h
 show ∀y∈Fd e,Low n y
 intro y hy
 cases h with
 | agg _ h=>exact h y hy
theorem zc (l:List Tok) (S:PS) (a:Int) (g:FuncId) (first caps:List AV) (x:Expr) (S2:PS) (o:Nat) (Hp Hx:List AObj) (ho:Hp[o]? = some (pr l S)) (hnl:S.nest≤1048576) (hgc:∀args w,(callFunc g args).run Tryz.prog w=.ok (.enter g args) w) (hxl:Hx.length=Hp.length) (hxo:Hx[o]? = some (pr l S2)) (hn2:S2.nest=S.nest+1) (hlow:(∀y∈Hp.set o (pr l (Dd S)),ObjLow Hp.length y)→∀y∈Hx,ObjLow Hp.length y) (hcf:S.nest≠30→∀own,ACall Tryz.prog g (first++caps) (Hp.set o (pr l (Dd S))++own) (fun y H'=>y=Ac x∧H'=Hx++own)):ACall Tryz.prog 256 [.ptr o 0,A4 a,.fn (.func g) first caps] Hp (fun r H'=>(S.nest=30→r=Ac B4∧H'=Hp.set o (pr l (E8 18 a S)))∧(S.nest≠30→r=Ac x∧H'=Hx.set o (pr l (Xr S2)))):=by
 refine Ah [.cell 6 26] [0,1,2] Tryz.func256 Tryz.ntmps256 (fun d=>?_)
 refine xu ?_;refine Z32 ?_
 refine A5 (h:=Bw ho) (hr:=?_)
 refine A5 ?_;refine A2 [0,1,2,6,12] ?_
 refine A3 (fun ht12=>?_) (fun ht12=>?_)
 ·have hn30:S.nest=30:=by have:=ht12;simp at this;omega
  refine Z1 ?_;refine D9 Tryz.call116 ho (by simp) D4 (oi l S 18 a o _ (Ag ho)) ?_;refine ga ?_;refine Bz ?_;exact A8 (Aj (B8 jA jS)) ⟨fun _=>⟨by rw [Am],rfl⟩,fun h=>absurd hn30 h⟩ (hlow:=by have:=As Hp.length B4;rw [Am] at this;simpa using this)
 have hn30:S.nest≠30:=by have:=ht12;simp at this;omega
 refine Su ?_
 refine A5 (h:=Bw ho) (hr:=?_)
 refine Z28 ?_
 refine Ez jS ho ?_ ?_
 ·simp
 refine A2 [0,2,6] ?_;refine Z2 ?_
 refine R.callVX (up':=Hx) (own':=[Kw]) hgc (hcf hn30 [Kw]) (by simpa using hxl) (by rw [Cy];exact hlow) ?_
 rw [←hxl]
 refine Z18 ?_;refine A2 [0,6,7] ?_;refine Z13 ?_
 refine A5 (h:=Bw hxo) (hr:=?_)
 refine Z28 ?_
 refine Ez jS hxo ?_ ?_
 ·simp
 refine A2 [6,7] ?_;refine Z2 ?_;refine ga ?_;exact A8 (Aj (B8 jA jS)) ⟨fun h=>absurd h hn30,fun _=>⟨by rw [Am],by rw [show ((S2.nest:Int)-1)=((Xr S2).nest:Int) by show _=((S2.nest-1:Nat):Int);omega];rfl⟩⟩ (hlow:=by have:=As Hx.length x;rw [Am] at this;simpa using this)

theorem ol (t:Str) (a b:Expr):Fd (L6 t a b)=[A4 5,.v (sv t),A4 0,A4 0,Ad [],.slice false 6 [Ac a,Ac b]]:=rfl
theorem zd {n:Nat} (t:Str) (a b:Expr):ObjLow n (.cells 26 [A4 5,.v (sv t),A4 0,A4 0,Ad [],.slice false 6 [Ac a,Ac b]]):=zb (L6 t a b)
theorem ze {n:Nat} {U:List AObj} {i:Nat} {x:AObj} (h:∀y∈U,ObjLow n y) (hx:ObjLow n x):∀y∈U.set i x,ObjLow n y:=by
 intro y hy
 rcases K7 hy with h1|h1
 ·exact h y h1
 rw [h1];exact hx
/-- within, with a method's value. -/
theorem uz {g:FuncId} (hgc:∀args w,(callFunc g args).run Tryz.prog w=.ok (.enter g args) w) (l:List Tok) (S:PS) (a:Int) (f:PS→Expr×PS) (o:Nat) (Hp:List AObj) (ho:Hp[o]? = some (pr l S)) (hi:S.i<l.length) (hnl:S.nest≤30) (hf:S.nest≠30→Eh l (S.nest+1) f) (hcf:S.nest≠30→PC g l f (S.nest+1)):
  ACall Tryz.prog 256 [.ptr o 0,A4 a,.fn (.func g) [.ptr o 0] []] Hp (fun r H'=>r=Ac (Ce a f S).1∧H'=Hp.set o (pr l (Ce a f S).2)):=by
 have hlt:=(Ab.1 ho).1
 by_cases h30:S.nest=30
 ·refine (zc l S a g [.ptr o 0] [] B4 (Dd S) o Hp (Hp.set o (pr l (Dd S))) ho (by omega) hgc (by simp) (by simp [hlt]) rfl (fun h=>h) (fun h=>absurd h30 h)).mono fun r H' h=>?_
  have e:Ce a f S=(B4,E8 18 a S):=if_pos (by rw [h30];rfl)
  rw [e]
  exact h.1 h30
 have hq:=hf h30 (Dd S) hi rfl
 refine (zc l S a g [.ptr o 0] [] (f (Dd S)).1 (f (Dd S)).2 o Hp (Hp.set o (pr l (f (Dd S)).2)) ho (by omega) hgc (by simp) (by simp [hlt]) hq.nest (fun h y hy=>?_) (fun _ own=>?_)).mono fun r H' h=>?_
 ·rcases K7 hy with h1|h1
  ·obtain ⟨i,hi',rfl⟩:=Qs h1
   by_cases hio:i=o
   ·subst hio
    have:Hp[i]=pr l S:=by rw [Aa hi'] at ho;injection ho
    rw [this];exact D4
   refine h _ ?_
   rw [jq]
   exact ⟨i,by rw [Dg (Ne.symm hio),Aa hi']⟩
  rw [h1];exact D4
 ·have hg:(Hp.set o (pr l (Dd S))++own)[o]? = some (pr l (Dd S)):=Ag (by simp [hlt])
  refine (hcf h30 o (Hp.set o (pr l (Dd S))++own) (Dd S) hg hi rfl).mono fun r H' h=>⟨h.1,h.2.trans ?_⟩
  rw [J8 _ _ (by simpa using hlt),D8]
 have e:Ce a f S=((f (Dd S)).1,Xr (f (Dd S)).2):=if_neg (by
  show ¬(((S.nest:Int)==30)=true)
  simp
  omega)
 rw [e]
 obtain ⟨h1,h2⟩:=h.2 h30
 exact ⟨h1,by rw [h2,D8]⟩
theorem zf {g:FuncId} (hgc:∀args w,(callFunc g args).run Tryz.prog w=.ok (.enter g args) w) (l:List Tok) (S:PS) (of:Str) (hof:of.length≤1048576) (f:PS→Expr×PS) (o:Nat) (Hp:List AObj) (ho:Hp[o]? = some (pr l S)) (hi:S.i<l.length) (hl:TokEnd l) (hll:l.length≤1048576) (hf:Eh l S.nest f) (hcf:PC g l f S.nest):ACall Tryz.prog 156 [.ptr o 0,Ad of,.fn (.func g) [.ptr o 0] []] Hp (fun r H'=>r=Ac (Fv l of f S).1∧H'=Hp.set o (pr l (Fv l of f S).2)):=by
 have holt:=(Ab.1 ho).1
 refine Ah [.cell 6 26] [0,1,2] Tryz.func156 Tryz.ntmps156 (fun d=>?_)
 refine xu ?_;refine Z2 ?_;refine R.callVUp hgc ho (by simp) D4 (hcf o _ S (Ag ho) hi rfl) ?_;refine Z18 ?_;refine A2 [0,1,2,6,7] ?_;refine Jt ?_
 refine D7 (α:=Expr×PS) (fun r=>⟨32,A7 0 (.ptr o 0) (A7 1 (Ad of) (A7 2 (.fn (.func g) [.ptr o 0] []) (A7 6 (.ptr (oid Hp.length 0) 0) (A7 7 (.ptr (oid Hp.length 1) 0) (fun _=>.any))))),Hp.set o (pr l r.2),[.cells 26 [A4 0,Ad [],A4 0,A4 0,Ad [],.nil],.cells 26 (Fd r.1)],[],none⟩) (fun r=>LeftAt l of f S r) (fun r=>l.length-r.2.i) (f S) (.start (hf S hi rfl)) (Cp (by simp)) rfl (fun r hx=>?_)
 refine Z55 ?_
 refine A5 (h:=Bw (getset ho)) (hr:=?_)
 refine Z59 ?_;refine Cd Tryz.call203 (fun hB=>d9 l r.2 of o _ (Ag (getset ho)) hx.fact.lt hl hof) ?_;refine A5 ?_;refine A2 [0,1,2,6,7,21] ?_
 refine A3 (fun ht21=>?_) (fun ht21=>?_)
 ·have hon:=hx.on hl ht21 hf
  have hle:=hon.2.1.le
  have hlt0:=hx.fact.lt
  have hU1:(Hp.set o (pr l r.2)).set o (pr l (Ai r.2))=Hp.set o (pr l (Ai r.2)):=D8 ..
  refine Z6 ?_;refine Jv ?_;refine Z2 ?_;refine D9 Tryz.call204 (getset ho) (by simp) D4 (ux l r.2 o _ (Ag (getset ho)) hx.fact.lt hll) ?_;refine Z18 ?_;refine A2 [0,1,2,6,7,8] ?_;refine U3 [0,1,0,0,8,28,63,127] [4] [.q 4 [] [],.s [28] (some 0) [] [],.q 1 [0] []] (fun B=>Hp.set o (if B 0=true then pr l (f (Ai r.2)).2 else pr l (Ai r.2))) (fun _=>[.cells 26 [A4 0,Ad [],A4 0,A4 0,Ad [],.nil],.cells 26 (Fd r.1),.cells 113 [A4 (Af l r.2.i).kind,Ad (Af l r.2.i).text,A4 (Af l r.2.i).at_]]) Al (by kernel_rfl) (by simp [D8]) rfl (fun B=>by simp) ?_
  apply Y.q
  ·intro B hT hF
   exact sh
  case hTF=>decide
  refine Y.callVUp (r:=Ac (f (Ai r.2)).1) (o:=o) (x0:=pr l (Ai r.2)) (x:=pr l (f (Ai r.2)).2) hgc (fun B hT hF hB=>⟨by simp only [hB];exact getset ho,by simp [upd],rfl,D4,?_⟩) ?_
  ·simp only [hB]
   exact hcf o _ (Ai r.2) (Ag (getset ho)) hon.1 hx.fact.nest
  apply Y.q
  ·intro B hT hF
   exact Z48
  case hTF=>decide
  refine Fo (tn:=[4]) (U:=Hp.set o (pr l (f (Ai r.2)).2)) ?_;refine ADj ?_;refine A2 [0,1,2,6,7] ?_;refine Lv ?_
  refine Bp (L6 (Af l r.2.i).text r.1 (f (Ai r.2)).1,(f (Ai r.2)).2) hon.2.2 (by show l.length-(f (Ai r.2)).2.i<l.length-r.2.i;have:r.2.i+1≤(f (Ai r.2)).2.i:=hle;omega) ?_
  simp only [ol]
  have hlow2:=fun n=>zd (n:=n) (Af l r.2.i).text r.1 (f (Ai r.2)).1
  simp only [Am] at hlow2 ⊢
  exact Dk (fun _=>.refl _) (by repeat (first|exact Bj|refine Bi (by simp [oid]<;>omega) ?_)) (by intro y hy;rcases Bg.1 hy with rfl|hy;exact l5;rw [Az.1 hy];exact hlow2 _) (by simp)
 have hout:=hx.out (by rw [ht21];simp)
 refine Wj ?_;refine Z2 ?_;refine ga ?_;exact A8 (Aj (B8 jA jS)) ⟨by rw [hout,Am],by rw [hout]⟩ (hlow:=by have:=As (Hp.set o (pr l r.2)).length r.1;rw [Am] at this;simpa using this)

theorem AGp (l:List Tok) (S:PS) (f:PS→Expr×PS) (o:Nat) (Hp:List AObj) (ho:Hp[o]? = some (pr l S)) (hi:S.i<l.length) (hl:TokEnd l) (hll:l.length≤1048576) (hf:Eh l S.nest f) (hcf:PC 157 l f S.nest):ACall Tryz.prog 114 [.ptr o 0] Hp (fun r H'=>r=Ac (Fv l orT f S).1∧H'=Hp.set o (pr l (Fv l orT f S).2)):=by
 refine Ah [.cell 2 26] [0] Tryz.func114 Tryz.ntmps114 (fun d=>?_)
 refine Z47 ?_;refine Z1 ?_;refine I3 ?_;refine D9 Tryz.call156 ho (by simp) D4 (zf Tryz.call157 l S orT (by decide) f o _ (Ag ho) hi hl hll hf hcf) ?_;refine Z9 ?_;exact A8 (Aj (B8 jA jS)) ⟨by rw [Am],rfl⟩ (hlow:=by have:=As Hp.length (Fv l orT f S).1;rw [Am] at this;simpa using this)

theorem AGq (l:List Tok) (S:PS) (f:PS→Expr×PS) (o:Nat) (Hp:List AObj) (ho:Hp[o]? = some (pr l S)) (hi:S.i<l.length) (hl:TokEnd l) (hll:l.length≤1048576) (hf:Eh l S.nest f) (hcf:PC 205 l f S.nest):ACall Tryz.prog 157 [.ptr o 0] Hp (fun r H'=>r=Ac (Fv l od f S).1∧H'=Hp.set o (pr l (Fv l od f S).2)):=by
 refine Ah [.cell 2 26] [0] Tryz.func157 Tryz.ntmps157 (fun d=>?_)
 refine Z47 ?_;refine Z1 ?_;refine I3 ?_;refine D9 Tryz.call156 ho (by simp) D4 (zf Tryz.call205 l S od (by decide) f o _ (Ag ho) hi hl hll hf hcf) ?_;refine Z9 ?_;exact A8 (Aj (B8 jA jS)) ⟨by rw [Am],rfl⟩ (hlow:=by have:=As Hp.length (Fv l od f S).1;rw [Am] at this;simpa using this)

theorem AGr (l:List Tok) (S:PS) (f:PS→Expr×PS) (o:Nat) (Hp:List AObj) (ho:Hp[o]? = some (pr l S)) (hi:S.i<l.length) (hl:TokEnd l) (hll:l.length≤1048576) (hf:Eh l S.nest f) (hcf:PC 317 l f S.nest):ACall Tryz.prog 291 [.ptr o 0] Hp (fun r H'=>r=Ac (Fv l oe f S).1∧H'=Hp.set o (pr l (Fv l oe f S).2)):=by
 refine Ah [.cell 2 26] [0] Tryz.func291 Tryz.ntmps291 (fun d=>?_)
 refine Z47 ?_;refine Z1 ?_;refine I3 ?_;refine D9 Tryz.call156 ho (by simp) D4 (zf Tryz.call317 l S oe (by decide) f o _ (Ag ho) hi hl hll hf hcf) ?_;refine Z9 ?_;exact A8 (Aj (B8 jA jS)) ⟨by rw [Am],rfl⟩ (hlow:=by have:=As Hp.length (Fv l oe f S).1;rw [Am] at this;simpa using this)

theorem AGs (l:List Tok) (S:PS) (f:PS→Expr×PS) (o:Nat) (Hp:List AObj) (ho:Hp[o]? = some (pr l S)) (hi:S.i<l.length) (hl:TokEnd l) (hll:l.length≤1048576) (hf:Eh l S.nest f) (hcf:PC 334 l f S.nest):ACall Tryz.prog 317 [.ptr o 0] Hp (fun r H'=>r=Ac (Fv l Xt f S).1∧H'=Hp.set o (pr l (Fv l Xt f S).2)):=by
 refine Ah [.cell 2 26] [0] Tryz.func317 Tryz.ntmps317 (fun d=>?_)
 refine Z47 ?_;refine Z1 ?_;refine I3 ?_;refine D9 Tryz.call156 ho (by simp) D4 (zf Tryz.call334 l S Xt (by decide) f o _ (Ag ho) hi hl hll hf hcf) ?_;refine Z9 ?_;exact A8 (Aj (B8 jA jS)) ⟨by rw [Am],rfl⟩ (hlow:=by have:=As Hp.length (Fv l Xt f S).1;rw [Am] at this;simpa using this)

/-- What is so of the functions one nest deeper. -/
structure DeepC (l:List Tok) (Dv:Fam) (n:Nat):Prop where
 ei:n≠30→Eh l (n+1) Dv.ei∧PC 114 l Dv.ei (n+1)
 no:n≠30→Eh l (n+1) Dv.no∧PC 205 l Dv.no (n+1)
 ne:n≠30→Eh l (n+1) Dv.ne∧PC 334 l Dv.ne (n+1)
theorem Te (op:Int) (x:Expr):Ac (L7 op x)=.agg [A4 op,Ad [],A4 0,A4 0,Ad [],.slice false 6 [Ac x]]:=by rw [Am];rfl
theorem l6 (t:Str) (a b:Expr):Ac (L6 t a b)=.agg [A4 5,.v (sv t),A4 0,A4 0,Ad [],.slice false 6 [Ac a,Ac b]]:=by rw [Am];rfl
theorem low_agg {n:Nat} (e:Expr):Low n (.agg [.v (.int .i64 e.op),.v (sv e.text),.v (.int .i64 e.val.kind),.v (.int .i64 e.val.n),.v (sv e.val.s),.slice false 6 (e.kids.map Ac)]):=by
 have:=As n e
 rwa [Am] at this
theorem AGt (l:List Tok) (S:PS) (Dv:Fam) (o:Nat) (Hp:List AObj) (ho:Hp[o]? = some (pr l S)) (hi:S.i<l.length) (hl:TokEnd l) (hll:l.length≤1048576) (hnl:S.nest≤30) (hd:DeepC l Dv S.nest) (hc:PC 346 l (Gi l Dv) S.nest):ACall Tryz.prog 334 [.ptr o 0] Hp (fun r H'=>r=Ac (Sw l Dv S).1∧H'=Hp.set o (pr l (Sw l Dv S).2)):=by
 refine Ah [.cell 2 26] [0] Tryz.func334 Tryz.ntmps334 (fun d=>?_)
 refine Z47 ?_;refine Z35 ?_;refine A9 Tryz.call203 (d9 l S AC3 o _ (Ag ho) hi hl (by decide)) ?_;refine A5 ?_;refine A2 [0,2,6] ?_
 refine A3 (fun ht6=>?_) (fun ht6=>?_)
 ·have e:Sw l Dv S=Gi l Dv S:=if_pos ht6
  refine Z2 ?_;refine D9 Tryz.call346 ho (by simp) D4 (hc o _ S (Ag ho) hi rfl) ?_;refine Z9 ?_;exact Z66
 have his:isM l AC3 S=true:=by simpa using ht6
 have hi1:(Ai S).i<l.length:=hl.stepIs hi his
 have e:Sw l Dv S=(L7 3 (Ce (Af l S.i).at_ Dv.ne (Ai S)).1,(Ce (Af l S.i).at_ Dv.ne (Ai S)).2):=if_neg (by rw [ht6];simp)
 refine Z6 ?_;refine Z54 ?_;refine br ?_;refine Z19 ?_;refine I3 ?_;refine D9 Tryz.call256 (getset ho) (by simp) D4 (uz Tryz.call334 l (Ai S) (Af l S.i).at_ Dv.ne o _ (Ag (getset ho)) hi1 hnl (fun h=>(hd.ne h).1) (fun h=>(hd.ne h).2)) ?_;refine Pq ?_;refine AB9 ?_;exact A8 (Aj (B8 jA jS)) ⟨by rw [e,Te];simp only [Am],by rw [e,D8]⟩ (hlow:=by have:=As Hp.length (L7 3 (Ce (Af l S.i).at_ Dv.ne (Ai S)).1);rw [Te] at this;simp only [Am] at this;simpa only [Cy] using this)

theorem AGu (l:List Tok) (S:PS) (Dv:Fam) (o:Nat) (Hp:List AObj) (ho:Hp[o]? = some (pr l S)) (hi:S.i<l.length) (hl:TokEnd l) (hll:l.length≤1048576) (hnl:S.nest≤30) (hd:DeepC l Dv S.nest) (hc:PC 255 l (Ff l Dv) S.nest):ACall Tryz.prog 205 [.ptr o 0] Hp (fun r H'=>r=Ac (Sx l Dv S).1∧H'=Hp.set o (pr l (Sx l Dv S).2)):=by
 refine Ah [.cell 2 26] [0] Tryz.func205 Tryz.ntmps205 (fun d=>?_)
 refine Z47 ?_;refine Z35 ?_;refine A9 Tryz.call203 (d9 l S AC2 o _ (Ag ho) hi hl (by decide)) ?_;refine A5 ?_;refine A2 [0,2,6] ?_
 refine A3 (fun ht6=>?_) (fun ht6=>?_)
 ·have e:Sx l Dv S=Ff l Dv S:=if_pos ht6
  refine Z2 ?_;refine D9 Tryz.call255 ho (by simp) D4 (hc o _ S (Ag ho) hi rfl) ?_;refine Z9 ?_;exact Z66
 have his:isM l AC2 S=true:=by simpa using ht6
 have hi1:(Ai S).i<l.length:=hl.stepIs hi his
 have e:Sx l Dv S=(L7 4 (Ce (Af l S.i).at_ Dv.no (Ai S)).1,(Ce (Af l S.i).at_ Dv.no (Ai S)).2):=if_neg (by rw [ht6];simp)
 refine Z6 ?_;refine Z54 ?_;refine br ?_;refine Z19 ?_;refine I3 ?_;refine D9 Tryz.call256 (getset ho) (by simp) D4 (uz Tryz.call205 l (Ai S) (Af l S.i).at_ Dv.no o _ (Ag (getset ho)) hi1 hnl (fun h=>(hd.no h).1) (fun h=>(hd.no h).2)) ?_;refine Pq ?_;refine AB9 ?_;exact A8 (Aj (B8 jA jS)) ⟨by rw [e,Te];simp only [Am],by rw [e,D8]⟩ (hlow:=by have:=As Hp.length (L7 4 (Ce (Af l S.i).at_ Dv.no (Ai S)).1);rw [Te] at this;simp only [Am] at this;simpa only [Cy] using this)

theorem AGv (l:List Tok) (S:PS) (Dv:Fam) (o:Nat) (Hp:List AObj) (ho:Hp[o]? = some (pr l S)) (hi:S.i<l.length) (hl:TokEnd l) (hll:l.length≤1048576) (hnl:S.nest≤30) (hd:DeepC l Dv S.nest) (hg:Eh l S.nest (Eg l Dv)) (hc:PC 291 l (Eg l Dv) S.nest):ACall Tryz.prog 255 [.ptr o 0] Hp (fun r H'=>r=Ac (Ff l Dv S).1∧H'=Hp.set o (pr l (Ff l Dv S).2)):=by
 have hq:=hg S hi rfl
 refine Ah [.cell 2 26] [0] Tryz.func255 Tryz.ntmps255 (fun d=>?_)
 refine Z47 ?_;refine Z2 ?_;refine D9 Tryz.call291 ho (by simp) D4 (hc o _ S (Ag ho) hi rfl) ?_;refine br ?_;refine Z55 ?_
 refine A5 (h:=Bw (getset ho)) (hr:=?_)
 refine bw ?_;refine Cd Tryz.call203 (fun hB=>d9 l (Eg l Dv S).2 za o _ (Ag (getset ho)) hq.lt hl (by decide)) ?_;refine U6 ?_;refine A2 [0,2,3,17] ?_
 refine A3 (fun ht17=>?_) (fun ht17=>?_)
 ·have e:Ff l Dv S=Eg l Dv S:=if_pos ht17
  refine Z2 ?_;refine Z9 ?_;exact Z66
 have his:isM l za (Eg l Dv S).2=true:=by
  have:=ht17
  simp only [Eo,Mg] at this
  exact this.2
 have hi1:(Ai (Eg l Dv S).2).i<l.length:=hl.stepIs hq.lt his
 have e:Ff l Dv S=(L6 (Af l (Eg l Dv S).2.i).text (Eg l Dv S).1 (Eg l Dv (Ai (Eg l Dv S).2)).1,(Eg l Dv (Ai (Eg l Dv S).2)).2):=if_neg (by rw [ht17];simp)
 refine Z96 ?_;refine D9 Tryz.call204 (getset ho) (by simp) D4 (ux l (Eg l Dv S).2 o _ (Ag (getset ho)) hq.lt hll) ?_;refine Z18 ?_;refine A2 [0,2,3,4] ?_;refine H0 [0,1,0,0,8,28,63,127] [4] [.q 4 [] [],.s [25] (some 0) [] [],.q 1 [0] []] (fun B=>Hp.set o (if B 0=true then pr l (Eg l Dv (Ai (Eg l Dv S).2)).2 else pr l (Ai (Eg l Dv S).2))) (fun _=>[.cells 26 [A4 0,Ad [],A4 0,A4 0,Ad [],.nil],.cells 26 (Fd (Eg l Dv S).1),.cells 113 [A4 (Af l (Eg l Dv S).2.i).kind,Ad (Af l (Eg l Dv S).2.i).text,A4 (Af l (Eg l Dv S).2.i).at_]]) Al (by kernel_rfl) (by simp [D8]) rfl (fun B=>by simp) ?_
 apply Y.q
 ·intro B hT hF
  exact sh
 case hTF=>decide
 refine Lt (r:=Ac (Eg l Dv (Ai (Eg l Dv S).2)).1) (o:=o) (x0:=pr l (Ai (Eg l Dv S).2)) (x:=pr l (Eg l Dv (Ai (Eg l Dv S).2)).2) Tryz.call291 (fun B hT hF hB=>⟨by simp only [hB];exact getset ho,by simp [upd],rfl,D4,?_⟩) ?_
 ·simp only [hB]
  exact hc o _ (Ai (Eg l Dv S).2) (Ag (getset ho)) hi1 hq.nest
 apply Y.q
 ·intro B hT hF
  exact Z48
 case hTF=>decide
 refine Fo (tn:=[4]) (U:=Hp.set o (pr l (Eg l Dv (Ai (Eg l Dv S).2)).2)) ?_;refine AB9 ?_;exact A8 (Aj (B8 jA jS)) ⟨by rw [e,l6];simp only [Am],by rw [e]⟩ (hlow:=by have:=As Hp.length (L6 (Af l (Eg l Dv S).2.i).text (Eg l Dv S).1 (Eg l Dv (Ai (Eg l Dv S).2)).1);rw [l6] at this;simp only [Am] at this;simpa only [Cy] using this)

/-- The contract of the parser of calls. -/
def da (l:List Tok) (Dv:Fam) (n:Nat):Prop:=∀(o:Nat) (Hp:List AObj) (S:PS) (t:Tok),Hp[o]? = some (pr l S)→(Ai S).i<l.length→S.nest=n→t.text.length≤1048576→isM l opT S=true→ACall Tryz.prog 349 [.ptr o 0,Jy t] Hp (fun r H'=>r=Ac (Hv l Dv t S).1∧H'=Hp.set o (pr l (Hv l Dv t S).2))
theorem v6:Ac B4=.agg [A4 0,Ad [],A4 0,A4 0,Ad [],.slice false 6 []]:=by rw [Am];rfl
theorem AGw (l:List Tok) (S:PS) (Dv:Fam) (o:Nat) (Hp:List AObj) (ho:Hp[o]? = some (pr l S)) (hi:S.i<l.length) (hl:TokEnd l) (hll:l.length≤1048576) (hnl:S.nest≤30) (hd:DeepC l Dv S.nest) (hcl:da l Dv S.nest):ACall Tryz.prog 346 [.ptr o 0] Hp (fun r H'=>r=Ac (Gi l Dv S).1∧H'=Hp.set o (pr l (Gi l Dv S).2)):=by
 refine Ah [.cell 2 26] [0] Tryz.func346 Tryz.ntmps346 (fun d=>?_)
 refine Z47 ?_;refine ABd ?_;refine br ?_;refine Z55 ?_
 refine A5 (h:=Bw ho) (hr:=?_)
 refine A5 ?_;refine A2 [0,2,3,14] ?_
 refine A3 (fun ht14=>?_) (fun ht14=>?_)
 ·have e:Gi l Dv S=(B4,S):=if_pos ht14
  refine AB4 ?_;refine R.wk 15 _ Va ?_;refine Z9 ?_;refine Bz ?_;exact A8 (Aj (B8 jA jS)) ⟨by rw [e,Am],by rw [e];exact (Hg ho).symm⟩ (hlow:=by have:=As Hp.length (B4);simpa only [Am,Cy] using this)
 have e0:¬(S.code != 0)=true:=by rw [ht14];simp
 refine Z6 ?_;refine Z21 ?_;refine nd ?_;refine Cd Tryz.call203 (fun hB=>d9 l S AC4 o _ (Ag ho) hi hl (by decide)) ?_;refine Z0 ?_;refine A2 [0,2,3,16] ?_
 refine A3 (fun ht16=>?_) (fun ht16=>?_)
 ·have e:Gi l Dv S=(O7 (Hh (Af l S.i).text).1,Ai S):=by unfold Gi;rw [if_neg e0,if_pos ht16]
  refine Z54 ?_;refine A5 ?_;refine A9 Tryz.call252 (ABt (Af l S.i).text (hl.text _) _) ?_;refine n9 ?_;refine A2 [2,4] ?_;refine Z2 ?_;refine A9 Tryz.call348 (AEu (Hh (Af l S.i).text).1 _) ?_;refine Z9 ?_;refine Z5 ?_;exact A8 (Aj (B8 jA jS)) ⟨by rw [e,Am],by rw [e]⟩ (hlow:=by have:=As Hp.length (O7 (Hh (Af l S.i).text).1);simpa only [Am,Cy] using this)
 have e1:¬(((Af l S.i).kind==3) || isM l AC4 S)=true:=by rw [ht16];simp
 refine Z19 ?_;refine A2 [0,2,3,33] ?_
 refine A3 (fun ht33=>?_) (fun ht33=>?_)
 ·have e:Gi l Dv S=(O7 ⟨2,0,(Af l S.i).text.take 200⟩,Ai S):=by unfold Gi;rw [if_neg e0,if_neg e1,if_pos ht33]
  refine Z54 ?_;refine A5 ?_;refine A9 Tryz.call223 (nt (Af l S.i).text _) ?_;refine A9 Tryz.call348 (AEu ⟨2,0,(Af l S.i).text.take 200⟩ _) ?_;refine Z9 ?_;refine Z5 ?_;exact A8 (Aj (B8 jA jS)) ⟨by rw [e,Am],by rw [e]⟩ (hlow:=by have:=As Hp.length (O7 ⟨2,0,(Af l S.i).text.take 200⟩);simpa only [Am,Cy] using this)
 have e2:¬((Af l S.i).kind==4)=true:=by rw [ht33];simp
 refine Z19 ?_;refine A2 [0,2,3,42] ?_
 refine A3 (fun ht42=>?_) (fun ht42=>?_)
 ·have hi1:(Ai S).i<l.length:=hl.step hi (by rw [beq_iff_eq] at ht42;rw [ht42];decide)
  refine Z54 ?_;refine A2 [0,2,3] ?_;refine Z35 ?_;refine A9 Tryz.call203 (d9 l (Ai S) opT o _ (Ag (getset ho)) hi1 hl (by decide)) ?_;refine A2 [0,2,3,49] ?_
  refine A3 (fun ht49=>?_) (fun ht49=>?_)
  ·have e:Gi l Dv S=Hv l Dv (Af l S.i) (Ai S):=by unfold Gi;rw [if_neg e0,if_neg e1,if_neg e2,if_pos ht42,if_pos ht49]
   have hi2:(Ai (Ai S)).i<l.length:=hl.stepIs hi1 ht49
   refine Z1 ?_;refine D9 Tryz.call349 (getset ho) (by simp) D4 (hcl o _ (Ai S) (Af l S.i) (Ag (getset ho)) hi2 rfl (hl.text _) ht49) ?_;refine Z9 ?_;refine Bz ?_;refine Z5 ?_;exact A8 (Aj (B8 jA jS)) ⟨by rw [e,Am],by rw [e,D8]⟩ (hlow:=by have:=As Hp.length ((Hv l Dv (Af l S.i) (Ai S)).1);simpa only [Am,Cy] using this)
  have e:Gi l Dv S=(Cr (Af l S.i).text,Ai S):=by unfold Gi;rw [if_neg e0,if_neg e1,if_neg e2,if_pos ht42,if_neg (by rw [ht49];simp)]
  refine Z6 ?_;refine AB7 ?_;refine R.wk 55 _ (ck _) ?_;refine Z9 ?_;refine Z5 ?_;exact A8 (Aj (B8 jA jS)) ⟨by rw [e,Am],by rw [e]⟩ (hlow:=by have:=As Hp.length (Cr (Af l S.i).text);simpa only [Am,Cy] using this)
 have e3:¬((Af l S.i).kind==1)=true:=by rw [ht42];simp
 refine Z2 ?_;refine A9 Tryz.call203 (d9 l S opT o _ (Ag ho) hi hl (by decide)) ?_;refine A5 ?_;refine A2 [0,2,3,56] ?_
 refine A3 (fun ht56=>?_) (fun ht56=>?_)
 ·have e:Gi l Dv S=((Ce (Af l S.i).at_ Dv.ei (Ai S)).1,Fe l Fa (Ce (Af l S.i).at_ Dv.ei (Ai S)).2):=by unfold Gi;rw [if_neg e0,if_neg e1,if_neg e2,if_neg e3,if_pos ht56]
  have hi1:(Ai S).i<l.length:=hl.stepIs hi ht56
  have hwf:=Jc (S:=Ai S) (l:=l) (f:=Dv.ei) (Af l S.i).at_ hi1 (fun h=>(hd.ei h).1)
  refine Z54 ?_;refine A2 [0,2,3] ?_;refine Z19 ?_;refine I3 ?_;refine D9 Tryz.call256 (getset ho) (by simp) D4 (uz Tryz.call114 l (Ai S) (Af l S.i).at_ Dv.ei o _ (Ag (getset ho)) hi1 hnl (fun h=>(hd.ei h).1) (fun h=>(hd.ei h).2)) ?_;refine Z18 ?_;refine A2 [0,2,6] ?_;refine Z2 ?_;refine D9 Tryz.call350 (getset (getset ho)) (by simp) D4 (AEv l (Ce (Af l S.i).at_ Dv.ei (Ai S)).2 Fa o _ (Ag (getset (getset ho))) hwf.lt hll) ?_;refine A2 [2,6] ?_;refine Z2 ?_;refine Z9 ?_;refine Z5 ?_;exact A8 (Aj (B8 jA jS)) ⟨by rw [e,Am],by rw [e,D8,D8]⟩ (hlow:=by have:=As Hp.length ((Ce (Af l S.i).at_ Dv.ei (Ai S)).1);simpa only [Am,Cy] using this)
 have e:Gi l Dv S=(B4,E8 8 (Af l S.i).at_ S):=by unfold Gi;rw [if_neg e0,if_neg e1,if_neg e2,if_neg e3,if_neg (by rw [ht56];simp)]
 refine Z17 ?_;refine ADi ?_;refine Z9 ?_;exact A8 (Aj (B8 jA jS)) ⟨by rw [e,Am],by rw [e]⟩ (hlow:=by have:=As Hp.length (B4);simpa only [Am,Cy] using this)

theorem zg {l:List Tok} (hl:TokEnd l) (hll:l.length≤1048576) {d n:Nat} (h:n+(d+1)=31) (hp:n≠30→PC 114 l (Fb l d).ei (n+1)∧PC 205 l (Fb l d).no (n+1)∧PC 334 l (Fb l d).ne (n+1)):DeepC l (Fb l d) n:=by
 have g:n≠30→_:=fun h30=>Rk hl hll d (n+1) (by omega) (by omega)
 exact ⟨fun h=>⟨(g h).1,(hp h).1⟩,fun h=>⟨(g h).2.1,(hp h).2.1⟩,fun h=>⟨(g h).2.2,(hp h).2.2⟩⟩
/-- All functions of the parser. -/
theorem db {l:List Tok} (hl:TokEnd l) (hll:l.length≤1048576) (hcl:∀n Dv,n≤30→DeepC l Dv n→da l Dv n):∀(d n:Nat),n+d=31→n≤30→PC 114 l (Fb l d).ei n∧PC 205 l (Fb l d).no n∧PC 334 l (Fb l d).ne n
 | 0,n,h,hn=>by omega
 | d+1,n,h,hn=>by
  have hd:DeepC l (Fb l d) n:=zg hl hll h (fun h30=>db hl hll hcl d (n+1) (by omega) (by omega))
  have g1:Eh l n (Sw l (Fb l d)):=Rj hl hll (fun h=>(hd.ei h).1) (fun h=>(hd.ne h).1)
  have g2:Eh l n (cx l (Fb l d)):=H1 hl g1
  have g3:Eh l n (Eg l (Fb l d)):=H1 hl g2
  have g4:Eh l n (Ff l (Fb l d)):=Od hl hll (fun h=>(hd.ei h).1) (fun h=>(hd.ne h).1)
  have g5:Eh l n (Sx l (Fb l d)):=Xw hl hll (fun h=>(hd.ei h).1) (fun h=>(hd.ne h).1) (fun h=>(hd.no h).1)
  have g6:Eh l n (cy l (Fb l d)):=H1 hl g5
  have p0:PC 346 l (Gi l (Fb l d)) n:=fun o Hp S ho hi hS=>by
   subst hS
   exact AGw l S (Fb l d) o Hp ho hi hl hll hn hd (hcl _ _ hn hd)
  have p1:PC 334 l (Sw l (Fb l d)) n:=fun o Hp S ho hi hS=>by
   subst hS
   exact AGt l S (Fb l d) o Hp ho hi hl hll hn hd p0
  have p2:PC 317 l (cx l (Fb l d)) n:=fun o Hp S ho hi hS=>by
   subst hS
   exact AGs l S (Sw l (Fb l d)) o Hp ho hi hl hll g1 p1
  have p3:PC 291 l (Eg l (Fb l d)) n:=fun o Hp S ho hi hS=>by
   subst hS
   exact AGr l S (cx l (Fb l d)) o Hp ho hi hl hll g2 p2
  have p4:PC 255 l (Ff l (Fb l d)) n:=fun o Hp S ho hi hS=>by
   subst hS
   exact AGv l S (Fb l d) o Hp ho hi hl hll hn hd g3 p3
  have p5:PC 205 l (Sx l (Fb l d)) n:=fun o Hp S ho hi hS=>by
   subst hS
   exact AGu l S (Fb l d) o Hp ho hi hl hll hn hd p4
  have p6:PC 157 l (cy l (Fb l d)) n:=fun o Hp S ho hi hS=>by
   subst hS
   exact AGq l S (Sx l (Fb l d)) o Hp ho hi hl hll g5 p5
  have p7:PC 114 l (Td l (Fb l d)) n:=fun o Hp S ho hi hS=>by
   subst hS
   exact AGp l S (cy l (Fb l d)) o Hp ho hi hl hll g6 p6
  exact ⟨p7,p5,p1⟩
set_option maxRecDepth 8000
/-! The document's kinds of trees are infer's. -/
set_option maxRecDepth 4000
theorem l7 {n:Nat} {U F:Nat→List AObj} {H':List AObj} (h:L4 (fun _=>true) U F n H'):H'=U n:=by
 rcases h with ⟨_,h⟩|⟨j,_,_,h,_⟩
 ·exact h
 cases h
theorem oo {α:Type} {l:List α} {k:Nat} {y:α} (h:l[k]? = some y):l.take (k+1)=l.take k++[y]:=by rw [List.take_add_one,h];rfl
theorem v7 {L:List (Int×Expr)} {k:Nat} {it:Int×Expr} (h:L[k]? = some it):F4 0 (L.take (k+1))=if F4 0 (L.take k)<it.1 then it.1 else F4 0 (L.take k):=by
 have e:F4 0 (L.take (k+1))=max (F4 0 (L.take k)) it.1:=by
  unfold F4
  rw [oo h,f8]
  rfl
 rw [e]
 split<;>omega
theorem Xx {n k:Nat} {o:Bool} {l:List Str}:Low n (.slice o k (l.map Ad)):=by simp [or_imp,forall_and]
theorem AGx (n:Nat) (e:Expr) (hok:okE n e) (hn:n≤1048576) (hs:sizeE e≤1048576) (Hp:List AObj):AFun Tryz.prog 115 [Ac e] Hp (A4 (depthE e:Nat)):=by
 refine Ah [.tmp 2] [0,4] Tryz.func115 Tryz.ntmps115 (fun d=>?_)
 refine Z1 ?_;refine A2 [1,4] ?_;refine E5 ?_;refine Z18 ?_;refine A2 [1,3,4] ?_;refine Z64 ?_
 refine My (fun hlow=>?_)
 refine ABg ?_;refine A2 [3,4,6] ?_;refine Jv ?_
 refine Ox (m:=1) Tryz.call123 (fun FR as' bd' hFR has hbd=>?_)
 have hFRl:∀s,Low (Hp.length+3) (FR s):=by
  intro s
  rw [hFR]
  refine Qt ?_
  revert s
  repeat (first|exact Bj|refine Bi (by simp [oid,As]<;>try omega) ?_)
 have hOl:∀{k:Nat},∀x∈[AObj.cells 3 [A4 (F4 0 ((Bl 1 e).take k))],AObj.defs,AObj.loop LoopState.ready none FR 13 #[7,8] as' bd' (oid Hp.length 1)],ObjLow (Hp.length+3) x:=by
  intro k x hx
  simp only [Bg,Fq,or_false] at hx
  rcases hx with rfl|rfl|rfl
  ·intro y hy
   rw [Az.1 hy]
   first|exact Xx|simp
  ·trivial
  exact sr
 refine ⟨fun _ H'=>L4 (fun _=>true) (fun k=>Hp++[AObj.cells 3 [A4 (F4 0 ((Bl 1 e).take k))],AObj.defs,AObj.loop LoopState.ready none FR 13 #[7,8] as' bd' (oid Hp.length 1)]) (fun k=>Hp++[AObj.cells 3 [A4 (F4 0 ((Bl 1 e).take k))],AObj.defs,AObj.loop LoopState.ready none FR 13 #[7,8] as' bd' (oid Hp.length 1)]) (Bl 1 e).length H',ABw (l:=oid Hp.length 2) (go:=fun _=>true) (U:=fun k=>Hp++[AObj.cells 3 [A4 (F4 0 ((Bl 1 e).take k))],AObj.defs,AObj.loop LoopState.ready none FR 13 #[7,8] as' bd' (oid Hp.length 1)]) (F:=fun k=>Hp++[AObj.cells 3 [A4 (F4 0 ((Bl 1 e).take k))],AObj.defs,AObj.loop LoopState.ready none FR 13 #[7,8] as' bd' (oid Hp.length 1)]) (n0:=Hp.length+3) ⟨fun k=>by simp,fun k=>by simp,fun k x hx=>?_,fun k x hx=>?_,by simp [oid],fun X k it hit hgo=>?_⟩ n hok hn,?_⟩
 ·exact ss
 ·exact ss
 ·have hklt:k<sizeE e:=by rw [←Ga 1 e];exact (Ab.1 hit).1
  generalize hV:(Hp++[AObj.cells 3 [A4 (F4 0 ((Bl 1 e).take k))],AObj.defs,AObj.loop LoopState.ready none FR 13 #[7,8] as' bd' (oid Hp.length 1)]++X)=V
  have hL:V[oid Hp.length 2]? = some (AObj.loop LoopState.ready none FR 13 #[7,8] as' bd' (oid Hp.length 1)):=by rw [←hV,Bo,Bd];rfl
  have hA0:V[oid Hp.length 0]? = some (AObj.cells 3 [A4 (F4 0 ((Bl 1 e).take k))]):=by rw [←hV,Bo,Bd];rfl
  refine Oq (pd:=none) (fr:=FR) (sz:=13) (ps:=#[7,8]) (df:=oid Hp.length 1) (asg:=as') (bd:=bd') hL rfl (by decide) (fun d=>?_)
  subst hFR has hbd
  refine Ku [3,7,8] ?_;refine Z77 ?_;refine A2 [3,4] ?_
  refine ⟨rfl,none,hL,?_⟩
  generalize hbz:(AObj.loop LoopState.busy _ _ _ _ _ _ _)=bz
  have hA:(V.set (oid Hp.length 2) bz)[oid Hp.length 0]? = some (AObj.cells 3 [A4 (F4 0 ((Bl 1 e).take k))]):=by rw [Dg (C3 (by decide))];exact hA0
  refine Jv ?_;refine He ?_
  refine A5 (h:=Bw hA) (hr:=?_)
  refine A5 ?_;refine R.maxI ?_
  refine Ez jS hA ?_ ?_
  ·simp
  refine Z84 ?_
  subst hbz
  refine K.rdN (bo hL (C3 (by decide))) ?_
  refine ⟨rfl,?_⟩
  rw [if_pos rfl]
  subst hV
  simp only [Bo,Fs,Ef,Ek,List.set_cons_succ,List.set_cons_zero]
  rw [v7 hit]
 intro r H' hq
 obtain rfl:=l7 hq
 refine ⟨Hp,_,_,_,rfl,rfl,fun h=>h,?_,rfl,by simp,?_⟩
 ·intro o ho
  have:o=oid Hp.length 1:=by simpa using ho
  subst this
  rw [Bd]
  rfl
 refine Z14 ?_;refine Z1 ?_;refine Z4 ?_;exact A8 (Aj A6) ⟨by rw [Lm,Se],rfl⟩

theorem AGy (n:Nat) (e:Expr) (hok:okE n e) (hn:n≤1048576) (hs:sizeE e≤1048576) (Hp:List AObj):AFun Tryz.prog 117 [Ac e] Hp (A4 (sizeE e:Nat)):=by
 refine Ah [.tmp 2] [0] Tryz.func117 Tryz.ntmps117 (fun d=>?_)
 refine Wf ?_;refine E5 ?_;refine Z18 ?_;refine A2 [1,3] ?_;refine Z64 ?_
 refine My (fun hlow=>?_)
 refine ABg ?_;refine A2 [3,5] ?_;refine Jv ?_
 refine Ox (m:=1) Tryz.call123 (fun FR as' bd' hFR has hbd=>?_)
 have hFRl:∀s,Low (Hp.length+3) (FR s):=by
  intro s
  rw [hFR]
  refine Qt ?_
  revert s
  repeat (first|exact Bj|refine Bi (by simp [oid,As]<;>try omega) ?_)
 have hOl:∀{k:Nat},∀x∈[AObj.cells 3 [A4 ((k:Nat))],AObj.defs,AObj.loop LoopState.ready none FR 11 #[6,7] as' bd' (oid Hp.length 1)],ObjLow (Hp.length+3) x:=by
  intro k x hx
  simp only [Bg,Fq,or_false] at hx
  rcases hx with rfl|rfl|rfl
  ·intro y hy
   rw [Az.1 hy]
   first|exact Xx|simp
  ·trivial
  exact sr
 refine ⟨fun _ H'=>L4 (fun _=>true) (fun k=>Hp++[AObj.cells 3 [A4 ((k:Nat))],AObj.defs,AObj.loop LoopState.ready none FR 11 #[6,7] as' bd' (oid Hp.length 1)]) (fun k=>Hp++[AObj.cells 3 [A4 ((k:Nat))],AObj.defs,AObj.loop LoopState.ready none FR 11 #[6,7] as' bd' (oid Hp.length 1)]) (Bl 1 e).length H',ABw (l:=oid Hp.length 2) (go:=fun _=>true) (U:=fun k=>Hp++[AObj.cells 3 [A4 ((k:Nat))],AObj.defs,AObj.loop LoopState.ready none FR 11 #[6,7] as' bd' (oid Hp.length 1)]) (F:=fun k=>Hp++[AObj.cells 3 [A4 ((k:Nat))],AObj.defs,AObj.loop LoopState.ready none FR 11 #[6,7] as' bd' (oid Hp.length 1)]) (n0:=Hp.length+3) ⟨fun k=>by simp,fun k=>by simp,fun k x hx=>?_,fun k x hx=>?_,by simp [oid],fun X k it hit hgo=>?_⟩ n hok hn,?_⟩
 ·exact ss
 ·exact ss
 ·have hklt:k<sizeE e:=by rw [←Ga 1 e];exact (Ab.1 hit).1
  generalize hV:(Hp++[AObj.cells 3 [A4 ((k:Nat))],AObj.defs,AObj.loop LoopState.ready none FR 11 #[6,7] as' bd' (oid Hp.length 1)]++X)=V
  have hL:V[oid Hp.length 2]? = some (AObj.loop LoopState.ready none FR 11 #[6,7] as' bd' (oid Hp.length 1)):=by rw [←hV,Bo,Bd];rfl
  have hA0:V[oid Hp.length 0]? = some (AObj.cells 3 [A4 ((k:Nat))]):=by rw [←hV,Bo,Bd];rfl
  refine Oq (pd:=none) (fr:=FR) (sz:=11) (ps:=#[6,7]) (df:=oid Hp.length 1) (asg:=as') (bd:=bd') hL rfl (by decide) (fun d=>?_)
  subst hFR has hbd
  refine Ku [3,6,7] ?_;refine Kt ?_
  refine ⟨rfl,none,hL,?_⟩
  generalize hbz:(AObj.loop LoopState.busy _ _ _ _ _ _ _)=bz
  have hA:(V.set (oid Hp.length 2) bz)[oid Hp.length 0]? = some (AObj.cells 3 [A4 ((k:Nat))]):=by rw [Dg (C3 (by decide))];exact hA0
  refine Jv ?_;refine He ?_
  refine A5 (h:=Bw hA) (hr:=?_)
  refine A5 ?_
  refine Ez jS hA ?_ ?_
  ·simp
  refine Z84 ?_
  subst hbz
  refine K.rdN (bo hL (C3 (by decide))) ?_
  refine ⟨rfl,?_⟩
  rw [if_pos rfl]
  subst hV
  simp only [Bo,Fs,Ef,Ek,List.set_cons_succ,List.set_cons_zero]
  rfl
 intro r H' hq
 obtain rfl:=l7 hq
 refine ⟨Hp,_,_,_,rfl,rfl,fun h=>h,?_,rfl,by simp,?_⟩
 ·intro o ho
  have:o=oid Hp.length 1:=by simpa using ho
  subst this
  rw [Bd]
  rfl
 refine Z14 ?_;refine Z1 ?_;refine Z4 ?_;exact A8 (Aj A6) ⟨by rw [Ga],rfl⟩

set_option maxRecDepth 8000
abbrev TK:=Int×Str
/-- What stands from word i on. -/
def seg (l:List Tok) (i:Nat):List TK:=(l.drop i).map ktT
theorem dc (s:Str):s∈levels.flatten∨(Hj s = -1∧∀l∈levels,l.contains s=false):=by
 by_cases h:s∈levels.flatten
 ·exact .inl h
 have h2:∀l∈levels,l.contains s=false:=fun l hl=>by
  rw [Ko]
  intro h3
  exact h (List.mem_flatten.2 ⟨l,hl,by simpa using h3⟩)
 refine .inr ⟨?_,h2⟩
 unfold Hj
 rw [Qq.2 fun l hl=>h2 l hl]
/-- The texts of levels of marks. -/
def ofL (k:Nat):Str:=if k=0 then orT else if k=1 then od else if k=3 then za else if k=4 then oe else Xt
/-- A row of words behind which no mark of a level, or of a tighter one, stands. -/
def v8 (k:Nat) (rest:List TK):Prop:=∀h r,rest=h::r→((h.1==5) || (h.1==2))=true→Hj h.2<(k:Int)∧h.2≠[40]
def AGz:Str:=[110,111,116]
def vd (e:Expr):Nat:=if e.op==4 then 2 else if e.op==3 then 6 else if e.op==5 then (Hj e.text).toNat else 7
def zh (least:Nat) (x:Expr) (T:List TK):List TK:=if least≤vd x then T else (5,[40])::(T++[(5,[41])])
def zi (least:Nat) (x:Expr) (n:Nat):Nat:=if least≤vd x then n else n+1
def ve (own:Nat):Nat:=if own=3 then 4 else own
def AC5 (v:Val):TK:=if v.kind==1 then (3,J1 v) else if v.kind==2 then (4,v.s) else (2,J1 v)
def AEw (t:Str):TK:=(if Lw (t.headD 0) then 2 else 5,t)
def AEx:List (List TK)→List TK
 | []=>[]
 | T::r=>(5,[44])::(T++AEx r)
def AEy (o:Int) (t:Str) (v:Val) (k:List Expr) (ts:List (List TK)):List TK:=
 if o==1 then [AC5 v] else if o==2 then [(1,t)]
 else if o==3 then (5,[45])::zh 6 (k.getD 0 B4) (ts.getD 0 [])
 else if o==4 then (2,AGz)::zh 2 (k.getD 0 B4) (ts.getD 0 [])
 else if o==5 then zh (ve (Hj t).toNat) (k.getD 0 B4) (ts.getD 0 [])++AEw t::zh ((Hj t).toNat+1) (k.getD 1 B4) (ts.getD 1 [])
 else (1,t)::(5,[40])::((AEx ts).drop 1++[(5,[41])])
mutual
def Vb:Expr→List TK
 | .mk o t v k=>AEy o t v k (AAt k)
def AAt:List Expr→List (List TK)
  | []=>[]
  | e::r=>Vb e::AAt r
 end
def AEz:List Nat→Nat
 | []=>0
 | n::r=>max n (AEz r)
def AF0 (o:Int) (t:Str) (k:List Expr) (ns:List Nat):Nat:=
 if o==1 then 0 else if o==2 then 0
 else if o==3 then 1+zi 6 (k.getD 0 B4) (ns.getD 0 0)
 else if o==4 then 1+zi 2 (k.getD 0 B4) (ns.getD 0 0)
 else if o==5 then max (zi (ve (Hj t).toNat) (k.getD 0 B4) (ns.getD 0 0)) (zi ((Hj t).toNat+1) (k.getD 1 B4) (ns.getD 1 0))
 else 1+AEz ns
mutual
def l8:Expr→Nat
 | .mk o t v k=>AF0 o t k (AAu k)
def AAu:List Expr→List Nat
  | []=>[]
  | e::r=>l8 e::AAu r
 end
theorem zj {v:Val} (h:Md v=true):v=noV:=by
 unfold Md at h
 simp only [Ao,beq_iff_eq] at h
 cases v
 simp_all [noV]
/-- What a right node is. -/
inductive NodeC:Expr→Prop
 | val (v:Val) (h:Dm v=true) (h0:0≤v.n):NodeC (O7 v)
 | name (t:Str) (h:Pr t=true):NodeC (Cr t)
 | neg (a:Expr):NodeC (L7 3 a)
 | no (a:Expr):NodeC (L7 4 a)
 | bin (t:Str) (a b:Expr) (h:0≤Hj t):NodeC (L6 t a b)
 | call (t:Str) (k:List Expr) (h:C4 t=(k.length:Int)):NodeC (.mk 6 t noV k)
theorem Vc (o:Int) (t:Str) (v:Val) (k:List Expr):V2 (.mk o t v k) =
 if o==1 then ((Dm v&&decide (0≤v.n))&&(t==[]))&&((k.length:Int)==0)
 else if !(Md v) then false
 else if o==2 then Pr t&&((k.length:Int)==0)
 else if o==3 || o==4 then (t==[])&&((k.length:Int)==1)
 else if o==5 then decide (0≤Hj t)&&((k.length:Int)==2)
 else if o==6 then C4 t==(k.length:Int)
 else false:=rfl
theorem P4 {e:Expr} (h:Es e=true):NodeC e:=by
 rw [ct] at h
 cases e with
 | mk o t v k =>
 rw [Vc] at h
 by_cases h1:(o==1)=true
 ·rw [if_pos h1] at h
  simp only [Ao,beq_iff_eq,decide_eq_true_eq] at h h1
  obtain ⟨⟨⟨a1,a2⟩,a3⟩,a4⟩:=h
  subst h1
  subst a3
  have:k=[]:=by cases k with|nil=>rfl|cons x r=>simp at a4;omega
  subst this
  exact .val v a1 a2
 rw [if_neg h1] at h
 by_cases hb:(!(Md v))=true
 ·rw [if_pos hb] at h;cases h
 rw [if_neg hb] at h
 have hv:v=noV:=zj (by simpa using hb)
 subst hv
 by_cases h2:(o==2)=true
 ·rw [if_pos h2] at h
  simp only [Ao,beq_iff_eq] at h h2
  subst h2
  have:k=[]:=by cases k with|nil=>rfl|cons x r=>have:=h.2;simp at this;omega
  subst this
  exact .name t h.1
 rw [if_neg h2] at h
 by_cases h3:(o==3 || o==4)=true
 ·rw [if_pos h3] at h
  simp only [Ao,Dj,beq_iff_eq] at h h3
  obtain ⟨rfl,h4⟩:=h
  match k,h4 with
  | [a],_ =>
   rcases h3 with rfl|rfl
   ·exact .neg a
   exact .no a
  | [],h4=>simp at h4
  | _::_::_,h4=>simp at h4;omega
 rw [if_neg h3] at h
 by_cases h5:(o==5)=true
 ·rw [if_pos h5] at h
  simp only [Ao,beq_iff_eq,decide_eq_true_eq] at h h5
  subst h5
  match k,h.2 with
  | [a,b],_=>exact .bin t a b h.1
  | [],h4=>simp at h4
  | [_],h4=>simp at h4
  | _::_::_::_,h4=>simp at h4;omega
 rw [if_neg h5] at h
 by_cases h6:(o==6)=true
 ·rw [if_pos h6] at h
  simp only [beq_iff_eq] at h h6
  subst h6
  exact .call t k h
 rw [if_neg h6] at h;cases h
/-- The functions of the levels. -/
def pf (l:List Tok) (D:Fam):Nat→PS→Expr×PS
 | 0=>Td l D
 | 1=>cy l D
 | 2=>Sx l D
 | 3=>Ff l D
 | 4=>Eg l D
 | 5=>cx l D
 | 6=>Sw l D
 | _=>Gi l D
abbrev fam (l:List Tok) (n:Nat):Fam:=Fb l (30-n)
def adv (S:PS) (n:Nat):PS:=⟨S.i+n,S.nest,S.code,S.at_⟩
def T1 (l:List Tok) (x:Expr):Prop:=∀(k:Nat) (S:PS) (rest:List TK),k≤vd x→S.code=0→S.nest+l8 x≤30→seg l S.i=Vb x++rest→v8 k rest→pf l (fam l S.nest) k S=(x,adv S (Vb x).length)
def T2 (l:List Tok) (x:Expr):Prop:=∀(k:Nat) (S:PS) (rest:List TK),(k=0∨k=1∨k=4∨k=5)→k≤vd x→S.code=0→S.nest+l8 x≤30→seg l S.i=Vb x++rest→v8 (k+1) rest →
 ∃n,l.length≤S.i+(Vb x).length+n∧Fv l (ofL k) (pf l (fam l S.nest) (k+1)) S=Xs l (ofL k) (pf l (fam l S.nest) (k+1)) n (x,adv S (Vb x).length)
theorem ot {e:Expr} {n:Nat} (h:sizeE e≤n+1) {y:Expr} (hy:y∈e.kids):sizeE y≤n:=by
 rw [N2] at h
 obtain ⟨i,hi,rfl⟩:=Qs hy
 have:=Xi e.kids hi
 omega
/-! The parser from a word on, and of a source. -/
def atS (l:List Tok) (i:Nat) (r:Expr×PS):PS:=if r.2.code != 0 then r.2 else if decide ((30:Int)<depthE r.1) then E8 18 (Af l i).at_ r.2 else if decide ((300:Int)<sizeE r.1) then E8 3 (Af l i).at_ r.2 else r.2
def atR (l:List Tok) (i:Nat):Expr×PS:=Td l (Fb l 30) ⟨i,0,0,0⟩
/-- The tree, the word behind it, the fault. -/
def atM (l:List Tok) (i:Nat):Expr×Int×Int×Int:=if (atS l i (atR l i)).code != 0 then (B4,0,(atS l i (atR l i)).code,(atS l i (atR l i)).at_) else ((atR l i).1,((atS l i (atR l i)).i:Int),0,0)
set_option maxRecDepth 4000
theorem Vd {l:List Tok} (hl:TokEnd l) (hll:l.length≤1048576) {i:Nat} (hi:i<l.length):Fact l ⟨i,0,0,0⟩ (atR l i):=(Rk hl hll 31 0 rfl (by decide)).1 ⟨i,0,0,0⟩ hi rfl
theorem AC6 {l:List Tok} {i:Nat} (hi:i<l.length) (hl:TokEnd l) (hll:l.length≤1048576) (hcl:∀n Dv,n≤30→DeepC l Dv n→da l Dv n) (o:Nat) (Hp:List AObj) (ho:Hp[o]? = some (pr l ⟨i,0,0,0⟩)):ACall Tryz.prog 114 [.ptr o 0] Hp (fun r H'=>r=Ac (atR l i).1∧H'=Hp.set o (pr l (atR l i).2)):=(db hl hll hcl 31 0 rfl (by decide)).1 o Hp ⟨i,0,0,0⟩ ho hi rfl
theorem de {l:List Tok} (hl:TokEnd l):(Af l (l.length-1)).kind=0:=by
 obtain ⟨L,z,rfl,hz,_⟩:=hl.split
 unfold Af
 simp [hz]
theorem c72 (l:List Tok) (i:Nat) (hi:i<l.length) (hl:TokEnd l) (hll:l.length≤500000) (hcl:∀n Dv,n≤30→DeepC l Dv n→da l Dv n) (Hp:List AObj):AFun Tryz.prog 72 [kj l,A4 (i:Int)] Hp (.tup [Ac (atM l i).1,A4 (atM l i).2.1,.agg [A4 (atM l i).2.2.1,A4 (atM l i).2.2.2]]):=by
 have hmap:(l.map Jy).length=l.length:=Aw ..
 have hll1:l.length≤1048576:=by omega
 have hq:=Vd hl hll1 hi
 have hlast:=de hl
 have hpos:=hl.pos
 have hqlt:=hq.lt
 have hqs:=hq.sz
 have hok0:okE 1048576 (atR l i).1:=I9 (by have:=hq.lt;omega) hq.ok
 have hsz0:sizeE (atR l i).1≤1048576:=by have:=hq.sz;have:=hq.lt;omega
 refine Ah [.cell 4 26,.tmp 5,.cell 6 69] [0,1] Tryz.func72 Tryz.ntmps72 (fun d=>?_)
 refine bv ?_;refine O6 ?_;refine A2 [0,1,4,6] ?_;refine Z32 ?_;refine Wi ?_;refine Z59 ?_;refine Z10 ?_
 refine Ci (h:=Ak ((l.length-1)) (Jy (Af l (l.length-1))) (fun _=>Ut (by omega))) (hr:=?_)
 refine Wh ?_;refine A2 [0,1,4,6,26] ?_
 refine A3 (fun ht26=>?_) (fun ht26=>?_)
 ·simp only [Dj,decide_eq_true_eq,bne_iff_ne,ne_eq] at ht26
  rcases ht26 with (h|h)|h
  ·omega
  ·simp at h;omega
  exact absurd hlast h
 refine Wk ?_;refine R.build (places:=#[(0,1),(1,1),(2,1),(3,2)]) jU (fun w=>by simp) jZ ?_;refine R.box ?_;refine A5 ?_;refine A2 [0,1,4,6,7] ?_;refine Z2 ?_
 refine R.callOwn (n:=2) (x:=pr l (atR l i).2) Tryz.call114 (AC6 hi hl hll1 hcl (oid Hp.length 2) _ (by rw [Bd];rfl)) ?_
 refine Z18 ?_;refine A2 [0,1,4,6,7,8] ?_
 refine W.join ⟨81,A7 4 (.ptr (oid Hp.length 0) 0) (A7 6 (.ptr (oid Hp.length 1) 0) (A7 7 (.ptr (oid Hp.length 2) 0) (A7 8 (.ptr (oid Hp.length 3) 0) (fun _=>.any)))),Hp,[.cells 26 [A4 0,Ad [],A4 0,A4 0,Ad [],.nil],.cells 69 [A4 0,A4 0],pr l (atS l i (atR l i)),.cells 26 (Fd (atR l i).1)],[],none⟩ ?_ ?_
 ·refine Jv ?_;refine Z19 ?_;refine Z28 ?_;refine A2 [0,1,4,6,7,8,35] ?_
  refine A3 (fun ht35=>?_) (fun ht35=>?_)
  ·have e:atS l i (atR l i)=(atR l i).2:=if_pos ht35
   refine Ku [4,6,7,8] ?_;refine Kt ?_;exact xt
  have e0:¬((atR l i).2.code != 0)=true:=by rw [ht35];simp
  refine Z2 ?_;refine A9 Tryz.call115 (AGx 1048576 _ hok0 (Ae _) hsz0 _) ?_;refine Z0 ?_;refine A2 [0,1,4,6,7,8,42] ?_
  refine A3 (fun ht42=>?_) (fun ht42=>?_)
  ·have e:atS l i (atR l i)=E8 18 (Af l i).at_ (atR l i).2:=by unfold atS;rw [if_neg e0,if_pos ht42]
   refine bu ?_
   refine A5 (h:=Ak (i) (Jy (Af l i)) (fun _=>Ut hi)) (hr:=?_)
   refine Z0 ?_
   refine R.callOwn (n:=2) (x:=pr l (E8 18 (Af l i).at_ (atR l i).2)) Tryz.call116 (oi l (atR l i).2 18 (Af l i).at_ (oid Hp.length 2) _ (by rw [Bd];rfl)) ?_
   refine A2 [4,6,7,8] ?_;exact xt
  have e1:¬decide ((30:Int)<depthE (atR l i).1)=true:=by rw [ht42];simp
  refine Z2 ?_;refine A9 Tryz.call117 (AGy 1048576 _ hok0 (Ae _) hsz0 _) ?_;refine Z0 ?_;refine A2 [0,1,4,6,7,8,53] ?_
  refine A3 (fun ht53=>?_) (fun ht53=>?_)
  ·have e:atS l i (atR l i)=E8 3 (Af l i).at_ (atR l i).2:=by unfold atS;rw [if_neg e0,if_neg e1,if_pos ht53]
   refine bu ?_
   refine A5 (h:=Ak (i) (Jy (Af l i)) (fun _=>Ut hi)) (hr:=?_)
   refine Z0 ?_
   refine R.callOwn (n:=2) (x:=pr l (E8 3 (Af l i).at_ (atR l i).2)) Tryz.call116 (oi l (atR l i).2 3 (Af l i).at_ (oid Hp.length 2) _ (by rw [Bd];rfl)) ?_
   refine A2 [4,6,7,8] ?_;exact xt
  have e:atS l i (atR l i)=(atR l i).2:=by unfold atS;rw [if_neg e0,if_neg e1,if_neg (by rw [ht53];simp)]
  refine Ku [4,6,7,8] ?_;refine Kt ?_;exact xt
 refine Z55 ?_;refine Z0 ?_;refine A2 [4,6,7,8,69] ?_
 refine A3 (fun ht69=>?_) (fun ht69=>?_)
 ·have e:atM l i=(B4,0,(atS l i (atR l i)).code,(atS l i (atR l i)).at_):=if_pos ht69
  refine H0 [0,0,2,6,14,1,33,127] [5] [.q 5 [] [],.s [] (some 0) [] [],.q 1 [0] []] (fun _=>Hp) (fun _=>[.cells 26 [A4 0,Ad [],A4 0,A4 0,Ad [],.nil],.cells 69 [A4 0,A4 0],pr l (atS l i (atR l i)),.cells 26 (Fd (atR l i).1)]) Al (by kernel_rfl) rfl rfl (fun _=>rfl) ?_
  apply Y.q
  ·intro B hT hF
   refine D.build (places:=#[(0,1),(1,1),(2,3),(5,1)]) jU (fun w=>by simp) jZ ?_;exact sh
  case hTF=>decide
  refine Y.storeOwn (u:=Hp.length) (n:=0) (t':=26) (cs:=[A4 0,Ad [],A4 0,A4 0,Ad [],.nil]) (cs':=[A4 0,Ad [],A4 0,A4 0,Ad [],.nil]) Tryz.sizeOf26 (fun B hB=>⟨rfl,rfl,rfl,rfl⟩) ?_
  apply Y.q
  ·intro B hT hF
   exact Z72
  case hTF=>decide
  refine Fo (tn:=[5])  ?_;refine Ow 0 5 6 ?_;refine H9 ?_;refine A2 [4,5,6] ?_;refine Z98 ?_;exact A8 (V.three (B8 jA jS) A6 (B8 jA jS)) ⟨by rw [e,v6]<;>rfl,rfl⟩
 have e:atM l i=((atR l i).1,((atS l i (atR l i)).i:Int),0,0):=if_neg (by rw [ht69];simp)
 refine Z6 ?_;refine H0 [0,0,2,6,14,0,1,95,255] [6] [.q 6 [] [],.s [] (some 0) [] [],.q 1 [0] []] (fun _=>Hp) (fun B=>[.cells 26 (if B 0=true then Fd (atR l i).1 else [A4 0,Ad [],A4 0,A4 0,Ad [],.nil]),.cells 69 [A4 0,A4 0],pr l (atS l i (atR l i)),.cells 26 (Fd (atR l i).1)]) Al (by kernel_rfl) rfl rfl (fun _=>rfl) ?_
 apply Y.q
 ·intro B hT hF
  refine Z12 ?_;refine Z39 ?_;exact AD9
 case hTF=>decide
 refine Y.storeOwn (u:=Hp.length) (n:=0) (t':=26) (cs:=[A4 0,Ad [],A4 0,A4 0,Ad [],.nil]) (cs':=Fd (atR l i).1) Tryz.sizeOf26 (fun B hB=>⟨rfl,by simp only [hB];rfl,by simp [upd],rfl⟩) ?_
 apply Y.q
 ·intro B hT hF
  exact Z72
 case hTF=>decide
 refine Fo (tn:=[6]) (O:=[.cells 26 (Fd (atR l i).1),.cells 69 [A4 0,A4 0],pr l (atS l i (atR l i)),.cells 26 (Fd (atR l i).1)]) ?_;refine H9 ?_;refine A2 [4,5,6] ?_;refine Ep ?_;exact A8 (V.three (B8 jA jS) A6 (B8 jA jS)) ⟨by rw [e,Am]<;>rfl,rfl⟩ (hlow:=by have:=low_agg (n:=Hp.length) (atR l i).1;simp at this ⊢;exact this)

theorem zk {s:Str} (h:(Ge s).2.1=0):(Ge s).1.length≤4002:=by
 obtain ⟨h1,_,h3⟩:=yt h
 have h2:=Uo s
 rw [h3]
 simp only [Ap,Aw,Bh,Cm]
 omega
theorem zl {l:List Tok} (hl:TokEnd l) (hll:l.length≤1048576) {i:Nat} (hi:i<l.length) (h:(atM l i).2.2.1=0):∃k:Nat,(atM l i).2.1=(k:Int)∧k<l.length:=by
 have hq:=Vd hl hll hi
 unfold atM at h ⊢
 split at h
 ·rename_i h1
  have:(atS l i (atR l i)).code=0:=h
  rw [this] at h1
  cases h1
 rename_i h1
 rw [if_neg h1]
 refine ⟨(atS l i (atR l i)).i,rfl,?_⟩
 have e:(atS l i (atR l i)).i=(atR l i).2.i:=by
  unfold atS
  repeat' split
  all_goals first|rfl|exact failM_i.1
 rw [e]
 exact hq.lt
theorem Wu {α:Type} {a b:List α} (hl:a.length=b.length) (h:∀(j:Nat) (y:α),j<a.length→a[j]? = some y→b[j]? = some y):a=b:=by
 apply f6 hl
 intro j h1 h2
 have:=h j a[j] h1 (Aa h1)
 rw [Aa h2] at this
 injection this with this
 exact this.symm
theorem Ej {n k:Nat} {o:Bool} {l:List Expr}:Low n (.slice o k (l.map Ac)):=low_slice.2 fun y hy=>by
 obtain ⟨a,_,rfl⟩:=C1.1 hy
 exact As _ a
theorem vf {a b:List Expr} (hl:a.length=b.length) (h:∀(j:Nat) (y z:Expr),j<a.length→a[j]? = some y→b[j]? = some z→eqE y z=true):eqL a b=true:=by
 rw [Pz]
 refine Wu hl fun j y hj hy=>?_
 have hjb:j<b.length:=by omega
 have:=h j y b[j] hj hy (Aa hjb)
 rw [Aa hjb,(aa _ _).1 this]
theorem AC7 {a b:List Expr} (h:eqL a b=true) {j:Nat} (hj:j<a.length) (hb:j<b.length):eqE a[j] b[j]=true:=by
 have e:=(Pz _ _).1 h
 subst e
 exact ug _
theorem AC8 {a b:List Expr} {j:Nat} (hj:j<a.length) (hb:j<b.length) (h:eqE a[j] b[j]=false):eqL a b=false:=by
 rw [Ko]
 intro h2
 rw [AC7 h2 hj hb] at h
 cases h
theorem zm {a b:List Expr} (h:a.length≠b.length):eqL a b=false:=by
 rw [Ko]
 exact fun h2=>h (yo h2)
theorem AF1 {a b:List Expr} {x:Nat} (hx:x<a.length) (hb:x<b.length) (h:∀(j:Nat) (y z:Expr),j<x→a[j]? = some y→b[j]? = some z→eqE y z=true) (he:eqE a[x] b[x]=true):∀(j:Nat) (y z:Expr),j<x+1→a[j]? = some y→b[j]? = some z→eqE y z=true:=by
 intro j y z hj h1 h2
 rcases B3 j x with h3|h3
 ·exact h j y z h3 h1 h2
 have:j=x:=by omega
 subst this
 rw [Aa hx] at h1
 rw [Aa hb] at h2
 injection h1 with h1
 injection h2 with h2
 rw [←h1,←h2]
 exact he
theorem AH0 (n:Nat) (a b:List Expr) (ha:a.length≤1048576) (hok:∀y∈a,okE n y) (ih:∀(x:Expr),okE n x→∀(y:Expr) (Hp:List AObj),AFun Tryz.prog 239 [Ac x,Ac y] Hp (Bm (eqE x y))) (Hp:List AObj):AFun Tryz.prog 285 [.slice false 6 (a.map Ac),.slice false 6 (b.map Ac),.fn (.func 239) [] []] Hp (Bm (eqL a b)):=by
 refine Ah [.tmp 6] [0,1,2] Tryz.func285 Tryz.ntmps285 (fun d=>?_)
 refine Z2 ?_;refine U8 ?_;refine Z55 ?_;refine A5 ?_;refine A2 [0,1,2,14] ?_
 refine A3 (fun ht14=>?_) (fun ht14=>?_)
 ·have hf:eqL a b=false:=zm (by have:=ht14;simp at this;omega)
  refine Zn ?_;refine Bz ?_;exact A8 (Aj A6) ⟨by rw [hf],rfl⟩
 have hlen:a.length=b.length:=by have:=ht14;simp at this;omega
 refine gg ?_;refine A2 [1,2,15,16,17] ?_
 refine D7 (α:=Nat) (fun i=>⟨32,A7 1 (.slice false 6 (b.map Ac)) (A7 2 (.fn (.func 239) [] []) (A7 15 (.slice false 6 (a.map Ac)) (A7 16 (A4 (a.length:Nat)) (A7 17 (A4 (i:Nat)) (fun _=>.any))))),Hp,[],[],none⟩) (fun i=>i≤a.length∧∀(j:Nat) (y z:Expr),j<i→a[j]? = some y→b[j]? = some z→eqE y z=true) (fun i=>a.length-i) (0) ⟨Av _,fun j y z h=>by omega⟩ (Cp (by simp)) rfl (fun i hi=>?_)
 refine Z2 ?_;refine A2 [1,2,15,16,17,18] ?_
 refine Dl (fun ht18=>?_) (fun ht18=>?_)
 ·have hlt:i<a.length:=by simpa using ht18
  have hlb:i<b.length:=by omega
  refine Z83 ?_
  refine A5 (h:=Ak (i) (Ac a[i]) (fun _=>Bk hlt)) (hr:=?_)
  refine ge ?_;refine A2 [1,2,7,8,15,16,17] ?_;refine Z1 ?_
  refine A5 (h:=Ak (i) (Ac b[i]) (fun _=>Bk hlb)) (hr:=?_)
  refine Wg ?_;refine A2 [1,2,8,9,15,16,17] ?_;refine Z13 ?_;refine R.callV Tryz.call239 (ih a[i] (hok _ (Cl hlt)) b[i] _) ?_;refine A5 ?_;refine A2 [1,2,15,16,17,30] ?_
  refine A3 (fun ht30=>?_) (fun ht30=>?_)
  ·have hf:eqL a b=false:=AC8 hlt hlb (by simpa using ht30)
   refine Zn ?_;refine Z62 ?_;exact A8 (Aj A6) ⟨by rw [hf],rfl⟩
  have he:eqE a[i] b[i]=true:=by simpa using ht30
  refine Z58 ?_;refine A2 [1,2,15,16,17] ?_;refine Bp (i+1) ⟨hlt,AF1 hlt hlb hi.2 he⟩ (by omega) ?_
  exact Dk (own:=[]) (fun _=>.refl _) (by repeat (first|exact Bj|refine Bi (by first|exact Ej|(simp;done)) ?_)) (by simp) (by simp)
 have hxe:a.length≤i:=by simpa using ht18
 refine Z33 ?_;refine Zn ?_;exact A8 (Aj A6) ⟨by rw [vf hlen (fun j y z hj=>hi.2 j y z (by omega))],rfl⟩

theorem AF2:∀(n:Nat) (x:Expr),okE n x→∀(y:Expr) (Hp:List AObj),AFun Tryz.prog 239 [Ac x,Ac y] Hp (Bm (eqE x y)):=by
 intro n
 induction n with
 | zero=>exact fun x h=>h.elim
 | succ n ih =>
 intro x hok y Hp
 refine Ah [.tmp 4] [0,1] Tryz.func239 Tryz.ntmps239 (fun d=>?_)
 refine Z13 ?_;refine Ju ?_;refine Z19 ?_;refine Z59 ?_;refine Z34 ?_;refine Z59 ?_;refine Z10 ?_
 refine Ci (h:=Mt Wm (fun w=>Im x.val.kind x.val.n y.val.kind y.val.n x.val.s y.val.s w)) (hr:=?_)
 refine Z59 ?_;refine Z10 ?_;refine Cd Tryz.call285 (fun hB=>AH0 n x.kids y.kids hok.2.1 hok.2.2 ih _) ?_;refine Z0 ?_;refine Z23 ?_;exact A8 (Aj A6) ⟨by rw [AC0],rfl⟩

set_option maxRecDepth 8000
/-! Moves: what mig.Right, sound.* and the document's layers 18, 19 answer. -/
structure Mov where
 kind:Int
 take:List Str
 give:List Col
 ahead:List Expr
 back:List Expr
abbrev M2 (l:List Expr):AV:=.slice false 6 (l.map Ac)
abbrev af (m:Mov):List AV:=[A4 m.kind,Ft m.take,Aq m.give,M2 m.ahead,M2 m.back]
abbrev Gn (m:Mov):AV:=.agg (af m)
abbrev Fw (l:List Mov):AV:=.slice false 5 (l.map Gn)
/-- Trees that may be walked. -/
structure OkEs (l:List Expr):Prop where
 len:l.length≤1048576
 ok:∀e∈l,okE 61 e
 size:∀e∈l,sizeE e≤1048576
 rng:∀e∈l,Et M1 e=true
structure OkMov (m:Mov):Prop where
 takes:m.take.length≤1048576
 names:∀s∈m.take,s.length≤1048576
 gives:OkCols m.give
 gives2:m.give.length≤1000000
 ahead:OkEs m.ahead
 back:OkEs m.back
structure OkMovs (l:List Mov):Prop where
 len:l.length≤1048576
 each:∀m∈l,OkMov m
def Fx (m:Mov):Bool:=
 if ((m.ahead.length:Int) != (m.give.length:Int)) || ((m.back.length:Int) != (m.take.length:Int)) then false
 else if m.kind==1 then ((m.take.length:Int)==0)&&((m.give.length:Int)==1)
 else if m.kind==2 then ((m.take.length:Int)==1)&&((m.give.length:Int)==0)
 else if (m.kind==3) || (m.kind==6) then ((m.take.length:Int)==1)&&((m.give.length:Int)==1)
 else if m.kind==4 then ((m.take.length:Int)==1)&&decide ((1:Int)<(m.give.length:Int))
 else if m.kind==5 then decide ((1:Int)<(m.take.length:Int))&&((m.give.length:Int)==1)
 else false
def Nc (m:Mov) (c:Col):Bool:=E2 c.name&&(((Cf c.kind==[])==(m.kind==3)) && !((m.kind==3)&&(c.kind != 0)))
def P5 (m:Mov):Bool:=
 if m.kind==3 then eqE (m.ahead.getD 0 B4) (Cr (m.take.getD 0 []))&&eqE (m.back.getD 0 B4) (Cr (m.give.getD 0 ⟨[],0⟩).name)
 else if m.kind==6 then m.take.getD 0 []==(m.give.getD 0 ⟨[],0⟩).name else true
def Hm (m:Mov):Bool:=(((((Fx m&&m.give.all (Nc m))&&m.take.all E2)&&m.ahead.all B6)&&m.back.all B6)&&P5 m)
def ou (l:List Mov):Bool:=decide ((l.length:Int)≤8)&&l.all Hm
/-! Columns behind moves. -/
def Xy (e:Expr) (c:List Col) (w:Int):Bool:=((H6 e c).2==0)&&(((H6 e c).1==w) || ((H6 e c).1==0))
def B7 (c:List Col) (m:Mov):List Col:=
 if m.kind==3 then (if Be (m.take.getD 0 []) c<0 then m.give else match m.give with
  | []=>[]
  | y::r=>⟨y.name,(c.getD (Be (m.take.getD 0 []) c).toNat ⟨[],0⟩).kind⟩::r)
 else m.give
def Q8 (e:Expr) (c:List Col) (w:Int):Int:=if (H6 e c).2 != 0 then (H6 e c).2 else if !Xy e c w then 10 else 0
def Cu (over:List Col):List Expr→List Col→Int
 | x::r,w::ws=>if Q8 x over w.kind != 0 then Q8 x over w.kind else Cu over r ws
 | _,_=>0
def Ia (c:List Col) (m:Mov):List Col:=m.take.map fun s=>c.getD (Be s c).toNat ⟨[],0⟩
def Bb (c:List Col) (m:Mov):List Col×Int:=
 if (D6 c m.take (B7 c m)).2 != 0 then ([],(D6 c m.take (B7 c m)).2)
 else if Cu c m.ahead (B7 c m) != 0 then ([],Cu c m.ahead (B7 c m))
 else if Cu (D6 c m.take (B7 c m)).1 m.back (Ia c m) != 0 then ([],Cu (D6 c m.take (B7 c m)).1 m.back (Ia c m))
 else ((D6 c m.take (B7 c m)).1,0)
/-- The columns ahead of each move and behind the last one, till one is wrong; the error. -/
def Dh (c:List Col):List Mov→List (List Col)×Int
 | []=>([c],0)
 | m::r=>if (Bb c m).2 != 0 then ([c],(Bb c m).2) else (c::(Dh (Bb c m).1 r).1,(Dh (Bb c m).1 r).2)
def Rl (c:List Col) (l:List Mov):Bool:=E6 c&&ou l
/-- ref19.Steps. -/
def P6 (c:List Col) (l:List Mov):List (List Col)×Int:=if Rl c l then Dh c l else ([],1)
/-- sound.Steps. -/
def Db (c:List Col) (l:List Mov):List (List Col)×Int:=if (P6 c l).2 != 0 then ([],(P6 c l).2) else P6 c l
theorem Rm {m:Mov} (h:Hm m=true):Fx m=true:=by
 unfold Hm at h
 simp only [Ao] at h
 exact h.1.1.1.1.1
theorem Ib {m:Mov} (h:Fx m=true):m.ahead.length=m.give.length∧m.back.length=m.take.length:=by
 unfold Fx at h
 split at h
 ·cases h
 rename_i h1
 simp only [Dj,bne_iff_ne,ne_eq,not_or,Classical.not_not] at h1
 omega
theorem Ve {m:Mov} (h:Fx m=true) (h3:((m.kind==3) || (m.kind==6))=true):m.take.length=1∧m.give.length=1:=by
 unfold Fx at h
 split at h
 ·cases h
 have h1:(m.kind==1)=false:=by simp at h3 ⊢;omega
 have h2:(m.kind==2)=false:=by simp at h3 ⊢;omega
 simp only [h1,h2,h3,if_true,if_false,B2,Ao,beq_iff_eq] at h
 omega
theorem Jh (c:List Col) (m:Mov):(B7 c m).length=m.give.length:=by
 unfold B7
 split
 ·split
  ·rfl
  split<;>simp_all
 rfl
set_option maxRecDepth 4000
abbrev Vf (s:Sign):AV:=.agg [.slice false 1 (s.kids.map A4),A4 s.own]
theorem AC9 {m:Sign} {a o:Int} (h:m=⟨[a],o⟩):AV.agg [.slice false 1 [A4 a],A4 o]=Vf m:=by rw [h];rfl
theorem vg {m:Sign} {a b o:Int} (h:m=⟨[a,b],o⟩):AV.agg [.slice false 1 [A4 a,A4 b],A4 o]=Vf m:=by rw [h];rfl
theorem ACa {m:Sign} {a b c o:Int} (h:m=⟨[a,b,c],o⟩):AV.agg [.slice false 1 [A4 a,A4 b,A4 c],A4 o]=Vf m:=by rw [h];rfl
theorem c127 (s:Str) (Hp:List AObj):AFun Tryz.prog 127 [Ad s] Hp (Vf (Dr s)):=by
 refine Ah [.cell 2 130] [0] Tryz.func127 Tryz.ntmps127 (fun d=>?_)
 refine Z47 ?_;refine Z35 ?_;refine Ju ?_;refine Jv ?_;refine Z29 ?_;refine A2 [2,3,4] ?_
 refine A3 (fun ht4=>?_) (fun ht4=>?_)
 ·refine Z6 ?_
  refine A3 (fun ht4=>?_) (fun ht4=>?_)
  ·exact Z51
  refine Z29 ?_;refine A2 [2,3,9] ?_
  refine A3 (fun ht9=>?_) (fun ht9=>?_)
  ·refine Z6 ?_
   refine A3 (fun ht9=>?_) (fun ht9=>?_)
   ·exact Z51
   refine Z76 ?_
   refine A3 (fun ht18=>?_) (fun ht18=>?_)
   ·exact Z51
   exact Z90
  refine Z82 ?_
  refine A3 (fun ht9=>?_) (fun ht9=>?_)
  ·refine Z6 ?_
   refine A3 (fun ht9=>?_) (fun ht9=>?_)
   ·exact Z51
   refine Z76 ?_
   refine A3 (fun ht18=>?_) (fun ht18=>?_)
   ·exact Z51
   exact Z90
  refine Z82 ?_
  refine A3 (fun ht9=>?_) (fun ht9=>?_)
  ·refine Z6 ?_
   refine A3 (fun ht9=>?_) (fun ht9=>?_)
   ·exact Z51
   refine Z76 ?_
   refine A3 (fun ht18=>?_) (fun ht18=>?_)
   ·exact Z51
   exact Z90
  refine Z82 ?_
  refine A3 (fun ht9=>?_) (fun ht9=>?_)
  ·refine Z6 ?_
   refine A3 (fun ht9=>?_) (fun ht9=>?_)
   ·exact Z51
   refine Z76 ?_
   refine A3 (fun ht18=>?_) (fun ht18=>?_)
   ·exact Z51
   exact Z90
  refine Z82 ?_
  refine A3 (fun ht9=>?_) (fun ht9=>?_)
  ·refine Z6 ?_
   refine A3 (fun ht9=>?_) (fun ht9=>?_)
   ·exact Z51
   refine Z76 ?_
   refine A3 (fun ht18=>?_) (fun ht18=>?_)
   ·exact Z51
   exact Z90
  refine Z20 ?_;refine A2 [2,3,9] ?_;refine Gm ?_
  refine A3 (fun ht9=>?_) (fun ht9=>?_)
  ·exact Z51
  refine Z76 ?_
  refine A3 (fun ht18=>?_) (fun ht18=>?_)
  ·exact Z51
  exact Z90
 refine Z20 ?_;refine A2 [2,3,4] ?_;refine Gm ?_
 refine A3 (fun ht4=>?_) (fun ht4=>?_)
 ·exact Z51
 refine Z29 ?_;refine A2 [2,3,9] ?_
 refine A3 (fun ht9=>?_) (fun ht9=>?_)
 ·refine Z6 ?_
  refine A3 (fun ht9=>?_) (fun ht9=>?_)
  ·exact Z51
  refine Z76 ?_
  refine A3 (fun ht18=>?_) (fun ht18=>?_)
  ·exact Z51
  exact Z90
 refine Z82 ?_
 refine A3 (fun ht9=>?_) (fun ht9=>?_)
 ·refine Z6 ?_
  refine A3 (fun ht9=>?_) (fun ht9=>?_)
  ·exact Z51
  refine Z76 ?_
  refine A3 (fun ht18=>?_) (fun ht18=>?_)
  ·exact Z51
  exact Z90
 refine Z82 ?_
 refine A3 (fun ht9=>?_) (fun ht9=>?_)
 ·refine Z6 ?_
  refine A3 (fun ht9=>?_) (fun ht9=>?_)
  ·exact Z51
  refine Z76 ?_
  refine A3 (fun ht18=>?_) (fun ht18=>?_)
  ·exact Z51
  exact Z90
 refine Z82 ?_
 refine A3 (fun ht9=>?_) (fun ht9=>?_)
 ·refine Z6 ?_
  refine A3 (fun ht9=>?_) (fun ht9=>?_)
  ·exact Z51
  refine Z76 ?_
  refine A3 (fun ht18=>?_) (fun ht18=>?_)
  ·exact Z51
  exact Z90
 refine Z82 ?_
 refine A3 (fun ht9=>?_) (fun ht9=>?_)
 ·refine Z6 ?_
  refine A3 (fun ht9=>?_) (fun ht9=>?_)
  ·exact Z51
  refine Z76 ?_
  refine A3 (fun ht18=>?_) (fun ht18=>?_)
  ·exact Z51
  exact Z90
 refine Z20 ?_;refine A2 [2,3,9] ?_;refine Gm ?_
 refine A3 (fun ht9=>?_) (fun ht9=>?_)
 ·exact Z51
 refine Z76 ?_
 refine A3 (fun ht18=>?_) (fun ht18=>?_)
 ·exact Z51
 exact Z90

theorem AH1 (s:Str) (Hp:List AObj):AFun Tryz.prog 128 [Ad s] Hp (Vf (Ev s)):=by
 refine Ah [.cell 2 130] [0] Tryz.func128 Tryz.ntmps128 (fun d=>?_)
 refine Z47 ?_;refine Z35 ?_;refine Ju ?_;refine Jv ?_;refine Z29 ?_;refine A2 [2,3,4] ?_
 refine A3 (fun ht4=>?_) (fun ht4=>?_)
 ·refine Z6 ?_
  refine A3 (fun ht4=>?_) (fun ht4=>?_)
  ·exact Z78
  refine Z82 ?_
  refine A3 (fun ht9=>?_) (fun ht9=>?_)
  ·exact Z78
  refine Z29 ?_;refine A2 [2,3,13] ?_
  refine A3 (fun ht13=>?_) (fun ht13=>?_)
  ·refine Z6 ?_
   refine A3 (fun ht13=>?_) (fun ht13=>?_)
   ·exact Z78
   refine xz ?_
   refine A3 (fun ht18=>?_) (fun ht18=>?_)
   ·exact Z78
   refine Z1 ?_;refine A2 [2,22] ?_
   refine A3 (fun ht22=>?_) (fun ht22=>?_)
   ·exact Z78
   exact y6
  refine Z20 ?_;refine A2 [2,3,13] ?_;refine Gm ?_
  refine A3 (fun ht13=>?_) (fun ht13=>?_)
  ·exact Z78
  refine xz ?_
  refine A3 (fun ht18=>?_) (fun ht18=>?_)
  ·exact Z78
  refine Z1 ?_;refine A2 [2,22] ?_
  refine A3 (fun ht22=>?_) (fun ht22=>?_)
  ·exact Z78
  exact y6
 refine Z20 ?_;refine A2 [2,3,4] ?_;refine Gm ?_
 refine A3 (fun ht4=>?_) (fun ht4=>?_)
 ·exact Z78
 refine Z82 ?_
 refine A3 (fun ht9=>?_) (fun ht9=>?_)
 ·exact Z78
 refine Z29 ?_;refine A2 [2,3,13] ?_
 refine A3 (fun ht13=>?_) (fun ht13=>?_)
 ·refine Z6 ?_
  refine A3 (fun ht13=>?_) (fun ht13=>?_)
  ·exact Z78
  refine xz ?_
  refine A3 (fun ht18=>?_) (fun ht18=>?_)
  ·exact Z78
  refine Z1 ?_;refine A2 [2,22] ?_
  refine A3 (fun ht22=>?_) (fun ht22=>?_)
  ·exact Z78
  exact y6
 refine Z20 ?_;refine A2 [2,3,13] ?_;refine Gm ?_
 refine A3 (fun ht13=>?_) (fun ht13=>?_)
 ·exact Z78
 refine xz ?_
 refine A3 (fun ht18=>?_) (fun ht18=>?_)
 ·exact Z78
 refine Z1 ?_;refine A2 [2,22] ?_
 refine A3 (fun ht22=>?_) (fun ht22=>?_)
 ·exact Z78
 exact y6

theorem c79 (e:Expr) (Hp:List AObj):AFun Tryz.prog 79 [Ac e] Hp (Vf (K4 e.op e.text)):=by
 refine Ah [.cell 2 130] [0] Tryz.func79 Tryz.ntmps79 (fun d=>?_)
 refine Z2 ?_;refine O6 ?_;refine A2 [1,2] ?_;refine Z29 ?_;refine A2 [1,2,4] ?_;refine Z92 ?_;refine A2 [1,2,4,5] ?_
 refine A3 (fun ht5=>?_) (fun ht5=>?_)
 ·refine Z31 ?_;exact Z87
 refine Z1 ?_;refine A2 [1,2,4,9] ?_
 refine A3 (fun ht9=>?_) (fun ht9=>?_)
 ·refine Z31 ?_;exact Z87
 refine Z1 ?_;refine A2 [1,2,13] ?_
 refine A3 (fun ht13=>?_) (fun ht13=>?_)
 ·refine Z1 ?_;refine A9 Tryz.call127 (c127 e.text _) ?_;refine Z9 ?_;exact Z87
 refine Z17 ?_;refine Z1 ?_;refine A9 Tryz.call128 (AH1 e.text _) ?_;refine Z9 ?_;exact AE6

theorem AF3 (a b:Int) (Hp:List AObj):AFun Tryz.prog 129 [A4 a,A4 b] Hp (.tup [A4 (Fu a b).1,Bm (Fu a b).2]):=by
 refine Ah [.tmp 4,.tmp 5] [0,1] Tryz.func129 Tryz.ntmps129 (fun d=>?_)
 refine gb ?_;refine Zl ?_;refine A2 [0,1,6] ?_
 refine A3 (fun ht6=>?_) (fun ht6=>?_)
 ·refine Z13 ?_;refine Z11 ?_;exact ADe
 refine Z13 ?_;refine Z85 ?_;refine A2 [0,10] ?_
 refine A3 (fun ht10=>?_) (fun ht10=>?_)
 ·refine Z13 ?_;refine Z11 ?_;exact ADe
 refine Z17 ?_;refine Z95 ?_;exact AE7

structure FitAt (s:Sign) (ks:List Int) (x:Nat×Int):Prop where
 le:x.1≤ks.length
 eq:Gq s.kids ks 0=Gq (s.kids.drop x.1) (ks.drop x.1) x.2
theorem FitAt.step {s:Sign} {ks:List Int} {x:Nat×Int} (h:FitAt s ks x) (hk:x.1<ks.length) (hs:x.1<s.kids.length):Gq s.kids ks 0=(if s.kids[x.1] == -2 then Gq (s.kids.drop (x.1+1)) (ks.drop (x.1+1)) x.2 else if s.kids[x.1] == -1 then (if (Fu x.2 ks[x.1]).2 then Gq (s.kids.drop (x.1+1)) (ks.drop (x.1+1)) (Fu x.2 ks[x.1]).1 else none) else if (Fu s.kids[x.1] ks[x.1]).2 then Gq (s.kids.drop (x.1+1)) (ks.drop (x.1+1)) x.2 else none):=by
 rw [h.eq,Ha hk,Ha hs,Gq]
theorem FitAt.skip {s:Sign} {ks:List Int} {x:Nat×Int} (h:FitAt s ks x) (hk:x.1<ks.length) (hs:x.1<s.kids.length) (h2:(s.kids[x.1] == -2)=true):FitAt s ks (x.1+1,x.2):=⟨hk,by rw [h.step hk hs,if_pos h2]⟩
theorem FitAt.same {s:Sign} {ks:List Int} {x:Nat×Int} (h:FitAt s ks x) (hk:x.1<ks.length) (hs:x.1<s.kids.length) (h2:(s.kids[x.1] == -2)=false) (h1:(s.kids[x.1] == -1)=true) (hm:(Fu x.2 ks[x.1]).2=true):FitAt s ks (x.1+1,(Fu x.2 ks[x.1]).1):=⟨hk,by rw [h.step hk hs,if_neg (by rw [h2];simp),if_pos h1,if_pos hm]⟩
theorem FitAt.want {s:Sign} {ks:List Int} {x:Nat×Int} (h:FitAt s ks x) (hk:x.1<ks.length) (hs:x.1<s.kids.length) (h2:(s.kids[x.1] == -2)=false) (h1:(s.kids[x.1] == -1)=false) (hm:(Fu s.kids[x.1] ks[x.1]).2=true):FitAt s ks (x.1+1,x.2):=⟨hk,by rw [h.step hk hs,if_neg (by rw [h2];simp),if_neg (by rw [h1];simp),if_pos hm]⟩
theorem FitAt.bad {s:Sign} {ks:List Int} {x:Nat×Int} (h:FitAt s ks x) (hk:x.1<ks.length) (hs:x.1<s.kids.length) (h2:(s.kids[x.1] == -2)=false) (hm:(if s.kids[x.1] == -1 then (Fu x.2 ks[x.1]).2 else (Fu s.kids[x.1] ks[x.1]).2)=false):Sv s ks=(0,10):=by
 unfold Sv
 rw [h.step hk hs,if_neg (by rw [h2];simp)]
 split at hm
 ·rename_i h1
  rw [if_pos h1,if_neg (by rw [hm];simp)]
 rename_i h1
 rw [if_neg h1,if_neg (by rw [hm];simp)]
theorem FitAt.out {s:Sign} {ks:List Int} {x:Nat×Int} (h:FitAt s ks x) (hk:ks.length≤x.1):Sv s ks=if s.own == -1 then (x.2,0) else (s.own,0):=by
 unfold Sv
 rw [h.eq,ew hk]
 cases s.kids.drop x.1<;>rfl
theorem c80 (s:Sign) (ks:List Int) (hks:ks.length≤s.kids.length) (hk2:ks.length≤1048576) (Hp:List AObj):AFun Tryz.prog 80 [Vf s,.slice false 1 (ks.map A4)] Hp (.tup [A4 (Sv s ks).1,A4 (Sv s ks).2]):=by
 refine Ah [.tmp 4,.tmp 5] [0,1] Tryz.func80 Tryz.ntmps80 (fun d=>?_)
 refine Z13 ?_;refine A2 [1,2] ?_;refine E5 ?_;refine Z18 ?_;refine A2 [1,2,6] ?_;refine Z32 ?_;refine nh ?_
 refine D7 (α:=Nat×Int) (fun x=>⟨49,A7 2 (.ro [.slice false 1 (s.kids.map A4),A4 s.own]) (A7 6 (.ptr (oid Hp.length 0) 0) (A7 13 (.slice false 1 (ks.map A4)) (A7 14 (A4 (ks.length:Nat)) (A7 15 (A4 (x.1:Nat)) (fun _=>.any))))),Hp,[.cells 3 [A4 x.2]],[],none⟩) (fun x=>FitAt s ks x) (fun x=>ks.length-x.1) ((0,0)) ⟨Av _,rfl⟩ (Cp (by simp)) rfl (fun x hx=>?_)
 refine Z2 ?_;refine A2 [2,6,13,14,15,16] ?_
 refine Dl (fun ht16=>?_) (fun ht16=>?_)
 ·have hlt:x.1<ks.length:=by simpa using ht16
  have hls:x.1<s.kids.length:=by omega
  refine Z83 ?_
  refine A5 (h:=Ak (x.1) (A4 ks[x.1]) (fun _=>Bk hlt)) (hr:=?_)
  refine Z28 ?_;refine A2 [2,6,7,8,13,14,15] ?_;refine Z13 ?_
  refine A5 (h:=Ak (x.1) (A4 s.kids[x.1]) (fun _=>Bk hls)) (hr:=?_)
  refine Wg ?_;refine A2 [2,6,8,9,13,14,15] ?_;refine Z29 ?_;refine A2 [2,6,8,9,13,14,15,26] ?_
  refine A3 (fun ht26=>?_) (fun ht26=>?_)
  ·refine Ku [2,6,13,14,15] ?_;refine Z70 ?_;refine K.blE ?_;refine Gm ?_;refine Z20 ?_;refine nh ?_
   first|(refine Bp (x.1+1,x.2) (hx.skip hlt hls ht26) (by show ks.length-(x.1+1)<ks.length-x.1;omega) ?_;exact Dk (own:=[.cells 3 [A4 x.2]]) (fun _=>.refl _) (by repeat (first|exact Bj|refine Bi (by first|(simp [or_imp,forall_and];done)|(simp [oid]<;>omega)) ?_)) (by intro y hy;rw [Az.1 hy];intro z hz;rw [Az.1 hz];simp) (by simp))|(refine Bp (x.1+1,(Fu x.2 ks[x.1]).1) (hx.same hlt hls ht26 ht28 (by simpa using ht38)) (by show ks.length-(x.1+1)<ks.length-x.1;omega) ?_;exact Dk (own:=[.cells 3 [A4 (Fu x.2 ks[x.1]).1]]) (fun _=>.refl _) (by repeat (first|exact Bj|refine Bi (by first|(simp [or_imp,forall_and];done)|(simp [oid]<;>omega)) ?_)) (by intro y hy;rw [Az.1 hy];intro z hz;rw [Az.1 hz];simp) (by simp))|(refine Bp (x.1+1,x.2) (hx.want hlt hls ht26 ht28 (by simpa using ht38)) (by show ks.length-(x.1+1)<ks.length-x.1;omega) ?_;exact Dk (own:=[.cells 3 [A4 x.2]]) (fun _=>.refl _) (by repeat (first|exact Bj|refine Bi (by first|(simp [or_imp,forall_and];done)|(simp [oid]<;>omega)) ?_)) (by intro y hy;rw [Az.1 hy];intro z hz;rw [Az.1 hz];simp) (by simp))
  refine Z96 ?_;refine A2 [2,6,8,9,10,13,14,15] ?_;refine Z29 ?_;refine A2 [2,6,8,10,13,14,15,28] ?_
  refine A3 (fun ht28=>?_) (fun ht28=>?_)
  ·refine Z77 ?_;refine A2 [2,6,8,10,13,14,15] ?_;refine Gm ?_;refine Z19 ?_;refine A9 Tryz.call129 (AF3 _ _ _) ?_;refine Z63 ?_;refine A2 [2,6,10,11,12,13,14,15] ?_;refine Z29 ?_;refine A2 [2,6,10,11,13,14,15,38] ?_
   refine A3 (fun ht38=>?_) (fun ht38=>?_)
   ·have hbad:=hx.bad hlt hls ht26 (by first|(rw [if_pos ht28];simpa using ht38)|(rw [if_neg (by rw [ht28];simp)];simpa using ht38))
    refine Z95 ?_;refine Bz ?_;exact ADl
   refine Z6 ?_;refine bu ?_;refine H9 ?_;refine nh ?_;refine Sr ?_;refine nh ?_
   first|(refine Bp (x.1+1,x.2) (hx.skip hlt hls ht26) (by show ks.length-(x.1+1)<ks.length-x.1;omega) ?_;exact Dk (own:=[.cells 3 [A4 x.2]]) (fun _=>.refl _) (by repeat (first|exact Bj|refine Bi (by first|(simp [or_imp,forall_and];done)|(simp [oid]<;>omega)) ?_)) (by intro y hy;rw [Az.1 hy];intro z hz;rw [Az.1 hz];simp) (by simp))|(refine Bp (x.1+1,(Fu x.2 ks[x.1]).1) (hx.same hlt hls ht26 ht28 (by simpa using ht38)) (by show ks.length-(x.1+1)<ks.length-x.1;omega) ?_;exact Dk (own:=[.cells 3 [A4 (Fu x.2 ks[x.1]).1]]) (fun _=>.refl _) (by repeat (first|exact Bj|refine Bi (by first|(simp [or_imp,forall_and];done)|(simp [oid]<;>omega)) ?_)) (by intro y hy;rw [Az.1 hy];intro z hz;rw [Az.1 hz];simp) (by simp))|(refine Bp (x.1+1,x.2) (hx.want hlt hls ht26 ht28 (by simpa using ht38)) (by show ks.length-(x.1+1)<ks.length-x.1;omega) ?_;exact Dk (own:=[.cells 3 [A4 x.2]]) (fun _=>.refl _) (by repeat (first|exact Bj|refine Bi (by first|(simp [or_imp,forall_and];done)|(simp [oid]<;>omega)) ?_)) (by intro y hy;rw [Az.1 hy];intro z hz;rw [Az.1 hz];simp) (by simp))
  refine Z6 ?_;refine Z19 ?_;refine A9 Tryz.call129 (AF3 _ _ _) ?_;refine Z63 ?_;refine A2 [2,6,10,11,12,13,14,15] ?_;refine Z29 ?_;refine A2 [2,6,10,11,13,14,15,38] ?_
  refine A3 (fun ht38=>?_) (fun ht38=>?_)
  ·have hbad:=hx.bad hlt hls ht26 (by first|(rw [if_pos ht28];simpa using ht38)|(rw [if_neg (by rw [ht28];simp)];simpa using ht38))
   refine Z95 ?_;refine Bz ?_;exact ADl
  refine Z6 ?_;refine bu ?_;refine H9 ?_;refine nh ?_;refine Sr ?_;refine nh ?_
  first|(refine Bp (x.1+1,x.2) (hx.skip hlt hls ht26) (by show ks.length-(x.1+1)<ks.length-x.1;omega) ?_;exact Dk (own:=[.cells 3 [A4 x.2]]) (fun _=>.refl _) (by repeat (first|exact Bj|refine Bi (by first|(simp [or_imp,forall_and];done)|(simp [oid]<;>omega)) ?_)) (by intro y hy;rw [Az.1 hy];intro z hz;rw [Az.1 hz];simp) (by simp))|(refine Bp (x.1+1,(Fu x.2 ks[x.1]).1) (hx.same hlt hls ht26 ht28 (by simpa using ht38)) (by show ks.length-(x.1+1)<ks.length-x.1;omega) ?_;exact Dk (own:=[.cells 3 [A4 (Fu x.2 ks[x.1]).1]]) (fun _=>.refl _) (by repeat (first|exact Bj|refine Bi (by first|(simp [or_imp,forall_and];done)|(simp [oid]<;>omega)) ?_)) (by intro y hy;rw [Az.1 hy];intro z hz;rw [Az.1 hz];simp) (by simp))|(refine Bp (x.1+1,x.2) (hx.want hlt hls ht26 ht28 (by simpa using ht38)) (by show ks.length-(x.1+1)<ks.length-x.1;omega) ?_;exact Dk (own:=[.cells 3 [A4 x.2]]) (fun _=>.refl _) (by repeat (first|exact Bj|refine Bi (by first|(simp [or_imp,forall_and];done)|(simp [oid]<;>omega)) ?_)) (by intro y hy;rw [Az.1 hy];intro z hz;rw [Az.1 hz];simp) (by simp))
 have hxe:ks.length≤x.1:=by simpa using ht16
 have hout:=hx.out hxe
 refine Z33 ?_;refine Z32 ?_;refine A2 [2,6,45] ?_
 refine A3 (fun ht45=>?_) (fun ht45=>?_)
 ·refine Z13 ?_;refine Z11 ?_;refine Bz ?_;exact A8 (B9 A6 A6) ⟨by rw [hout,if_pos ht45],rfl⟩
 refine Z6 ?_;refine xq ?_;exact A8 (B9 A6 A6) ⟨by rw [hout,if_neg (by rw [ht45];simp)],rfl⟩

theorem vh {n k:Nat} {own:Bool} {l:List Int}:Low n (.slice own k (l.map A4)):=low_slice.2 fun y hy=>by
 obtain ⟨z,_,rfl⟩:=C1.1 hy
 simp
theorem l9 {n:Nat} {e:Expr}:Low n (.ro (Fd e)):=by have:=As n e;rw [Am] at this;simpa using this
theorem Nd {c:List Col} {t:Str} (h:¬(Be t c<0)):∃(j:Nat),Be t c=(j:Int)∧j<c.length:=by
 obtain ⟨j,y,h2,_,h3⟩:=find_mem.1 h
 exact ⟨j,h3,(Ab.1 h2).1⟩
theorem vi {c:List Col} {e:Expr} (h:(e.op==1)=true):Bf c e=(e.val.kind,0):=by rw [Na];unfold Oc;rw [if_pos h]
theorem ov {c:List Col} {e:Expr} (h1:(e.op==1)=false) (h:(e.op==2)=true):Bf c e=Q6 c e.text:=by rw [Na];unfold Oc;rw [h1,if_pos h];rfl
theorem vj {c:List Col} {e:Expr} (h1:(e.op==1)=false) (h2:(e.op==2)=false) {x:Nat} (hx:x<e.kids.length) (h0:∀(j:Nat) (y:Expr),j<x→e.kids[j]? = some y→((Bf c y).2 != 0)=false) (hb:((Bf c e.kids[x]).2 != 0)=true):Bf c e=(0,(Bf c e.kids[x]).2):=by
 rw [Na]
 unfold Oc
 rw [h1,h2]
 have:(e.kids.map (Bf c)).find? (fun q=>q.2 != 0)=some ((e.kids.map (Bf c))[x]'(by simpa using hx)):=Zr (by simpa using hx) (by simpa using hb) (fun j y hj hy=>by
  rw [C9,Dq] at hy
  obtain ⟨z,hz,rfl⟩:=hy
  exact h0 j z hj hz)
 rw [this]
 simp
theorem vk {c:List Col} {e:Expr} (h1:(e.op==1)=false) (h2:(e.op==2)=false) (h0:∀(j:Nat) (y:Expr),j<e.kids.length→e.kids[j]? = some y→((Bf c y).2 != 0)=false):Bf c e=Sv (K4 e.op e.text) (e.kids.map fun y=>(Bf c y).1):=by
 rw [Na]
 unfold Oc
 rw [h1,h2]
 have:(e.kids.map (Bf c)).find? (fun q=>q.2 != 0)=none:=R2 (fun j y hy=>by
  rw [C9,Dq] at hy
  obtain ⟨z,hz,rfl⟩:=hy
  exact h0 j z (Ab.1 hz).1 hz)
 rw [this]
 simp only [Ig]
 rfl
theorem ow (f:Expr→Int) (l:List Expr) {x:Nat} (h:x<l.length):((l.take x).map f).map A4++[A4 (f l[x])]=((l.take (x+1)).map f).map A4:=by rw [Kb h,C8,C8];rfl
theorem c39 (c:List Col) (hc:OkCols c):∀(n:Nat) (e:Expr),okE n e→Et Es e=true→∀Hp:List AObj,AFun Tryz.prog 39 [Ac e,Aq c] Hp (.tup [A4 (Bf c e).1,A4 (Bf c e).2]):=by
 intro n
 induction n with
 | zero=>exact fun e h=>h.elim
 | succ n ih =>
 intro e hok hnd Hp
 have hnd0:=hnd
 rw [Nz,Ao] at hnd0
 refine Ah [.tmp 4,.tmp 5] [0,1] Tryz.func39 Tryz.ntmps39 (fun d=>?_)
 refine Z13 ?_;refine A2 [1,2] ?_;refine Z29 ?_;refine A2 [1,2,13] ?_;refine Z92 ?_;refine A2 [1,2,13,14] ?_
 refine A3 (fun ht14=>?_) (fun ht14=>?_)
 ·have hk:=vi (c:=c) ht14
  refine Z19 ?_;refine n8 ?_;refine Z5 ?_;exact ABh
 refine Z1 ?_;refine A2 [1,2,19] ?_
 refine A3 (fun ht19=>?_) (fun ht19=>?_)
 ·have hk:=ov (c:=c) ht14 ht19
  refine Z13 ?_;refine A9 Tryz.call58 (c58 c hc e.text _) ?_;refine A5 ?_;refine A2 [1,6] ?_;refine Z29 ?_;refine A2 [1,6,26] ?_
  refine A3 (fun ht26=>?_) (fun ht26=>?_)
  ·have hk2:Q6 c e.text=(0,9):=if_pos (by simpa using ht26)
   refine Z95 ?_;refine Bz ?_;exact ADm
  have hneg:¬(Be e.text c<0):=by simpa using ht26
  obtain ⟨j,hj,hjl⟩:=Nd hneg
  have hk2:Q6 c e.text=(c[j].kind,0):=by
   unfold Q6
   rw [if_neg hneg,hj,Int.toNat_natCast,Cz,Aa hjl]
   rfl
  rw [hj]
  refine Wk ?_
  refine A5 (h:=Ak (j) (Bs c[j]) (fun _=>Bk hjl)) (hr:=?_)
  refine Z74 ?_;refine Z11 ?_;exact ADm
 refine Z17 ?_;refine Z2 ?_;refine A2 [1,2,7] ?_;refine Z64 ?_;refine Ov 7 1 ?_;refine Z74 ?_;refine A2 [1,2,7,33,34,35] ?_
 refine D7 (α:=Nat) (fun x=>⟨59,A7 1 (Aq c) (A7 2 (.ro (Fd e)) (A7 7 (.slice true 1 (((e.kids.take x).map fun y=>(Bf c y).1).map A4)) (A7 33 (.slice false 6 (e.kids.map Ac)) (A7 34 (A4 (e.kids.length:Nat)) (A7 35 (A4 (x:Nat)) (fun _=>.any)))))),Hp,[],[],none⟩) (fun x=>x≤e.kids.length∧∀(j:Nat) (y:Expr),j<x→e.kids[j]? = some y→((Bf c y).2 != 0)=false) (fun x=>e.kids.length-x) (0) ⟨Av _,fun j y h=>by omega⟩ (Cp (by simp)) rfl (fun x hx=>?_)
 refine Z2 ?_;refine A2 [1,2,7,33,34,35,36] ?_
 refine Dl (fun ht36=>?_) (fun ht36=>?_)
 ·have hlt:x<e.kids.length:=by simpa using ht36
  have hkl:=hok.2.1
  refine Z88 ?_
  refine A5 (h:=Ak (x) (Ac e.kids[x]) (fun _=>Bk hlt)) (hr:=?_)
  refine Wg ?_;refine A2 [1,2,7,9,33,34,35] ?_;refine Z1 ?_;refine A9 Tryz.call39 (ih e.kids[x] (hok.2.2 _ (Cl hlt)) ((Hi _ _).1 hnd0.2 _ (Cl hlt)) _) ?_;refine Z63 ?_;refine A2 [1,2,7,10,11,33,34,35] ?_;refine Z29 ?_;refine A2 [1,2,7,10,11,33,34,35,46] ?_
  refine A3 (fun ht46=>?_) (fun ht46=>?_)
  ·have hkb:=vj (c:=c) ht14 ht19 hlt hx.2 ht46
   refine Z13 ?_;refine Z11 ?_;refine Bz ?_;refine Z62 ?_;exact A8 (B9 A6 A6) ⟨by rw [hkb],rfl⟩
  refine Z6 ?_;refine mz ?_;refine Z71 ?_
  refine G8 jU Tryz.type3 ?_ ?_ ?_
  ·simp only [Aw,Cn,Bh,Cm,Tryz.t3];omega
  ·simp only [Aw,Cn,Bh,Cm,Tryz.t3];omega
  refine J0 ?_;refine A2 [1,2,7,33,34,35] ?_;refine Sr ?_;refine A2 [1,2,7,33,34,35] ?_;refine Bp (x+1) ⟨hlt,Gc hlt hx.2 ht46⟩ (by omega) ?_
  simp only [show Tryz.t3.size=1 from rfl,ow]
  exact Dk (own:=[]) (fun _=>.refl _) (by repeat (first|exact Bj|refine Bi (by first|exact vh|exact l9|exact Ej|(simp [or_imp,forall_and];done)) ?_)) (by simp) (by simp)
 have hxe:e.kids.take x=e.kids:=Gu (by simp at ht36;omega)
 have hxl:e.kids.length≤x:=by simp at ht36;omega
 have hka:=vk (c:=c) ht14 ht19 (fun j y hj hy=>hx.2 j y (by omega) hy)
 rw [hxe]
 refine Z33 ?_;refine Z2 ?_;refine A9 Tryz.call79 (c79 e _) ?_;refine A5 ?_
 refine A9 Tryz.call80 (c80 (K4 e.op e.text) (e.kids.map fun y=>(Bf c y).1) (by rw [uu hnd0.1 ht14 ht19];simp) (by simpa using hok.2.1) _) ?_
 refine Z74 ?_;refine Z11 ?_;exact A8 (B9 A6 A6) ⟨by rw [hka],rfl⟩

theorem Kj {e:Expr} (h:B6 e=true):Et Es e=true:=by
 rw [Py] at h
 unfold L5 at h
 rw [Ao] at h
 exact h.2
theorem c13 (n:Nat) (e:Expr) (hok:okE n e) (hn:n≤1048576) (c:List Col) (hc:OkCols c) (Hp:List AObj):AFun Tryz.prog 13 [Ac e,Aq c] Hp (.tup [A4 (H6 e c).1,A4 (H6 e c).2]):=by
 refine Ah [.tmp 4,.tmp 5] [0,1] Tryz.func13 Tryz.ntmps13 (fun d=>?_)
 refine Z13 ?_;refine A2 [1,2] ?_;refine Z35 ?_;refine A9 Tryz.call38 (c38 n e hok hn _) ?_;refine bw ?_;refine Cd Tryz.call36 (fun hB=>c36 c hc _) ?_;refine U6 ?_;refine A2 [1,2,13] ?_
 refine A3 (fun ht13=>?_) (fun ht13=>?_)
 ·have hk:H6 e c=(0,1):=if_pos ht13
  refine Z95 ?_;refine Bz ?_;exact ABh
 have hk:H6 e c=Bf c e:=if_neg (by rw [ht13];simp)
 have hr:B6 e=true:=by simp only [Eo,Mg] at ht13;exact ht13.1
 refine Wk ?_;refine A9 Tryz.call39 (c39 c hc n e hok (Kj hr) _) ?_;refine Z74 ?_;refine Z11 ?_;exact ABh

theorem Dw {n k:Nat} {o:Bool} {l:List Col}:Low n (.slice o k (l.map Bs)):=by simp [or_imp,forall_and]
theorem zn {α β:Type} {f:α→β} {l:List α} {k:Nat} {y:α} (h:l[k]? = some y):(l.map f)[k]? = some (f y):=by rw [C9,h];rfl
theorem AH2 (c:List Col) (hc:OkCols c) (take:List Str) (ht:take.length≤1048576) (give:List Col) (hg:OkCols give) (hg2:give.length≤1000000) (Hp:List AObj):AFun Tryz.prog 186 [Aq c,Ft take,Aq give] Hp (.tup [Aq (D6 c take give).1,A4 (D6 c take give).2]):=by
 refine Ah [.tmp 6,.tmp 7] [0,1,2,9] Tryz.func186 Tryz.ntmps186 (fun d=>?_)
 refine Z1 ?_;refine A2 [0,1,2,9] ?_;refine Z35 ?_;refine A9 Tryz.call57 (c57 c hc _) ?_;refine A5 ?_;refine A2 [0,1,2,9,12] ?_
 refine A3 (fun ht12=>?_) (fun ht12=>?_)
 ·have hr:E6 c=false:=by rw [N4] at ht12;simpa using ht12
  refine Z2 ?_;refine si ?_;refine Bz ?_;exact A8 (B9 A6 A6) ⟨by rw [uk hr];try rfl,rfl⟩
 have hr:E6 c=true:=by rw [N4] at ht12;simpa using ht12
 refine Z6 ?_;refine Z29 ?_;refine A9 Tryz.call241 (AGl c hc take ht _) ?_;refine A5 ?_;refine A2 [0,1,2,9,16] ?_
 refine A3 (fun ht16=>?_) (fun ht16=>?_)
 ·have hk:Hl c take=false:=by simpa using ht16
  refine Z2 ?_;refine si ?_;refine Bz ?_;exact A8 (B9 A6 A6) ⟨by rw [ul hr hk];try rfl,rfl⟩
 have hk:Hl c take=true:=by simpa using ht16
 refine Z6 ?_;refine Z25 ?_;refine A2 [0,1,2,8,9] ?_;refine Z64 ?_;refine U5 0 2 ?_
 refine My (fun hlow=>?_)
 refine Z0 ?_;refine A9 Tryz.call242 (AGn c take _) ?_;refine A2 [2,8,9,19] ?_;refine Jv ?_
 refine Ox (m:=1) Tryz.call286 (fun FR as' bd' hFR has hbd=>?_)
 have hFRl:∀s,Low (Hp.length+3) (FR s):=by
  intro s
  rw [hFR]
  refine Qt ?_
  revert s
  repeat (first|exact Bj|refine Bi (by simp [oid,or_imp,forall_and]<;>try omega) ?_)
 have hOl:∀{k:Nat},∀x∈[AObj.cells 27 [.slice true 2 ((D3 (c.take k) take).map Bs)],AObj.defs,AObj.loop LoopState.ready none FR 41 #[20] as' bd' (oid Hp.length 1)],ObjLow (Hp.length+3) x:=by
  intro k x hx
  simp only [Bg,Fq,or_false] at hx
  rcases hx with rfl|rfl|rfl
  ·intro y hy
   rw [Az.1 hy]
   exact Dw
  ·trivial
  exact sr
 refine ⟨_,AGo (oid Hp.length 2) c take hc.len ht (fun k=>Hp++[AObj.cells 27 [.slice true 2 ((D3 (c.take k) take).map Bs)],AObj.defs,AObj.loop LoopState.ready none FR 41 #[20] as' bd' (oid Hp.length 1)]) (fun k=>by simp) (by simp [oid]) (fun k x hx=>?_) (fun k y hk hcn=>by simp only [ob hk hcn]) (fun k y X hk hcn=>?_),?_⟩
 ·have:=M0 (fun x hx=>Ra (by omega) (hlow x hx)) hOl x hx
  simpa using this
 ·generalize hV:Hp++[AObj.cells 27 [.slice true 2 ((D3 (c.take k) take).map Bs)],AObj.defs,AObj.loop LoopState.ready none FR 41 #[20] as' bd' (oid Hp.length 1)]++X=V
  have hL:V[oid Hp.length 2]? = some (AObj.loop LoopState.ready none FR 41 #[20] as' bd' (oid Hp.length 1)):=by rw [←hV,Bo,Bd];rfl
  have hA0:V[oid Hp.length 0]? = some (AObj.cells 27 [.slice true 2 ((D3 (c.take k) take).map Bs)]):=by rw [←hV,Bo,Bd];rfl
  refine Oq (pd:=none) (fr:=FR) (sz:=41) (ps:=#[20]) (df:=oid Hp.length 1) (asg:=as') (bd:=bd') hL rfl (by decide) (fun d=>?_)
  subst hFR has hbd
  refine Ku [8,20] ?_;refine He ?_;refine Z18 ?_;refine A2 [8,9] ?_
  refine ⟨rfl,none,hL,?_⟩
  generalize hbz:(AObj.loop LoopState.busy _ _ _ _ _ _ _)=bz
  have hA:(V.set (oid Hp.length 2) bz)[oid Hp.length 0]? = some (AObj.cells 27 [.slice true 2 ((D3 (c.take k) take).map Bs)]):=by rw [Dg (C3 (by decide))];exact hA0
  refine Jv ?_;refine He ?_;refine R.loadUpT jA hA ?_;refine Z71 ?_
  refine G8 jU Tryz.type41 ?_ ?_ ?_
  ·have h1:=N9 (c.take k) take;have h2:=hc.len;simp only [Cn] at h1;simp [Tryz.t41];omega
  ·have h1:=N9 (c.take k) take;have h2:=hc.len;simp only [Cn] at h1;simp [Tryz.t41];omega
  refine Gz jS (getset hA) ?_ ?_
  ·exact oa
  refine Z84 ?_
  subst hbz
  refine y9 ?_
  refine ⟨rfl,?_⟩
  subst hV
  simp only [Bo,Fs,Ef,Ek,List.set_cons_succ,List.set_cons_zero]
  rw [z7 hk hcn,C8]
  rfl
 rintro r H' rfl
 simp only [Lm]
 refine ⟨Hp,_,_,_,rfl,rfl,fun h=>h,?_,rfl,by simp,?_⟩
 ·intro o ho
  have:o=oid Hp.length 1:=by simpa using ho
  subst this
  rw [Bd]
  rfl
 refine Z14 ?_;refine E5 ?_;refine R.loadOwnT jA ?_;refine A5 ?_
 refine G8 jU Tryz.type41 ?_ ?_ ?_
 ·have h1:=N9 c take;have h2:=Rh hr;simp [Tryz.t41];omega
 ·have h1:=N9 c take;have h2:=Rh hr;simp [Tryz.t41];omega
 refine Zd jS ?_;refine A2 [8] ?_;refine Z88 ?_
 have e10:(D3 c take).map Bs++give.map Bs=(D3 c take++give).map Bs:=(C8 ..).symm
 rw [e10]
 generalize hout:D3 c take++give=out
 have ho:OkCols out:=ur hc hr hg hg2 hout
 refine A5 ?_;refine A9 Tryz.call243 (AGm out ho _) ?_;refine Z0 ?_;refine A2 [8,28] ?_
 refine A3 (fun ht28=>?_) (fun ht28=>?_)
 ·have hn:K2 out=false:=by simpa using ht28
  refine Z2 ?_;refine si ?_;refine Z5 ?_;exact A8 (B9 A6 A6) ⟨by rw [um hr hk hout hn];try rfl,rfl⟩
 have hn:K2 out=true:=by simpa using ht28
 refine Z2 ?_;refine A9 Tryz.call36 (c36 out ho _) ?_;refine Z0 ?_;refine A2 [8,32] ?_
 refine A3 (fun ht32=>?_) (fun ht32=>?_)
 ·have hq:Iw out=false:=by rw [Ny] at ht32;simpa using ht32
  refine Z2 ?_;refine si ?_;refine Z5 ?_;exact A8 (B9 A6 A6) ⟨by rw [un hr hk hout hn hq];try rfl,rfl⟩
 have hq:Iw out=true:=by rw [Ny] at ht32;simpa using ht32
 refine Z19 ?_;refine A2 [8,36] ?_
 refine A3 (fun ht36=>?_) (fun ht36=>?_)
 ·have h12:12<out.length:=by simp at ht36;omega
  refine Z2 ?_;refine si ?_;refine Z5 ?_;exact A8 (B9 A6 A6) ⟨by rw [uo hr hk hout hn hq h12];try rfl,rfl⟩
 have h12:¬12<out.length:=by simp at ht36;omega
 refine Z17 ?_;refine Z13 ?_;refine Z30 ?_;exact A8 (B9 A6 A6) ⟨by rw [uq hr hk hout hn hq h12];try rfl,rfl⟩

theorem c6u (c:List Col) (Hp:List AObj):AFun Tryz.prog 10 [Aq c] Hp (Bm (Kh c)):=by
 refine Ah [.tmp 2] [0] Tryz.func10 Tryz.ntmps10 (fun d=>?_)
 refine Z46 ?_;refine Z32 ?_;refine A2 [0,6] ?_
 refine A3 (fun ht6=>?_) (fun ht6=>?_)
 ·rw [Aw] at ht6
  have hm:Kh c=true:=by unfold Kh;rw [ht6];rfl
  refine Z61 ?_;exact Z27
 rw [Aw] at ht6
 have hl50:c.length≤50:=by simp at ht6;omega
 refine bx ?_;refine A2 [0,3] ?_
 refine D7 (α:=Nat) (fun x=>⟨20,A7 0 (Aq c) (A7 3 (A4 (x:Nat)) (fun _=>.any)),Hp,[],[],none⟩) (fun x=>x≤c.length∧∀(j:Nat) (v:Col),j<x→c[j]? = some v→decide ((100:Int)<(v.name.length:Int))=false) (fun x=>c.length-x) (0) ⟨Av _,fun j v h=>by omega⟩ (Cp (by simp)) rfl (fun x hx=>?_)
 refine Z55 ?_;refine A2 [0,3,10] ?_
 refine A3 (fun ht10=>?_) (fun ht10=>?_)
 ·have hlt:x<c.length:=by simpa using ht10
  refine Z6 ?_;refine Zm ?_
  refine A5 (h:=Ak (x) (Bs c[x]) (fun _=>Bk hlt)) (hr:=?_)
  refine Z74 ?_;refine A2 [0,3,19] ?_
  refine A3 (fun ht19=>?_) (fun ht19=>?_)
  ·have hm:Kh c=true:=by unfold Kh;rw [Dj];exact .inr (Ok.2 ⟨c[x],Cl hlt,ht19⟩)
   refine Z61 ?_;exact gc
  refine Z17 ?_;refine Z77 ?_
  refine A5 (h:=Q.add64 (h1:=fun _=>by omega) (h2:=fun _=>by omega)) (hr:=?_)
  refine sg ?_;exact AD8
 have hxe:c.length≤x:=by simpa using ht10
 have hm:Kh c=false:=by
  unfold Kh
  rw [ht6,F5,Li]
  intro v hv
  obtain ⟨j,hj⟩:=Cc hv
  have:=hx.2 j v (by have:=(Ab.1 hj).1;omega) hj
  rw [this]
  simp
 refine Wj ?_;exact ADt

/-- law18.Wide. -/
def iy (m:Mov):Bool:=(((((Kh m.give || decide ((20:Int)<(m.take.length:Int))) || decide ((20:Int)<(m.ahead.length:Int))) || decide ((20:Int)<(m.back.length:Int))) || m.take.any fun s=>decide ((100:Int)<(s.length:Int))) || m.ahead.any kr) || m.back.any kr
def vl (l:List Mov):Bool:=decide ((12:Int)<(l.length:Int)) || l.any iy
theorem dg {α:Type} {p:α→Bool} {l:List α} {x:Nat} (h:l.length≤x) (hp:∀(j:Nat) (v:α),j<x→l[j]? = some v→p v=false):l.any p=false:=by
 rw [Li]
 intro v hv
 obtain ⟨j,hj⟩:=Cc hv
 rw [hp j v (by have:=(Ab.1 hj).1;omega) hj]
 simp
theorem Kk {n:Nat} {m:Mov}:∀y∈af m,Low n y:=by
 intro y hy
 simp only [af,Bg,Fq,or_false] at hy
 rcases hy with rfl|rfl|rfl|rfl|rfl<;>simp [or_imp,forall_and,As]
theorem dh {n:Nat} {m:Mov}:Low n (Gn m):=Go.SX.low_agg.2 Kk
theorem Gr {n k:Nat} {o:Bool} {l:List Mov}:Low n (.slice o k (l.map Gn)):=low_slice.2 fun y hy=>by
 obtain ⟨m,_,rfl⟩:=C1.1 hy
 exact dh
theorem Kl {α:Type} {p:α→Bool} (l:List α):(l.any fun s => !(p s)) = !(l.all p):=by
 induction l with
 | nil=>rfl
 | cons a r ih=>rw [List.any_cons,List.all_cons,ih];cases p a<;>simp
theorem AH3 (n:Nat) (e:Expr) (hok:okE n e) (hn:n≤1048576) (c:List Col) (hc:OkCols c) (w:Int) (Hp:List AObj):AFun Tryz.prog 244 [Ac e,Aq c,A4 w] Hp (Bm (Xy e c w)):=by
 refine Ah [.tmp 6] [0,1,2] Tryz.func244 Tryz.ntmps244 (fun d=>?_)
 refine Z1 ?_;refine A2 [1,2,3] ?_;refine Z1 ?_;refine A9 Tryz.call13 (c13 n e hok hn c hc _) ?_;refine Z63 ?_;refine A2 [2,7,8] ?_;refine Z13 ?_;refine Wi ?_;refine Z85 ?_;refine Z50 ?_;exact A8 (Aj A6) ⟨by unfold Xy;rfl,rfl⟩

theorem zo {c:List Col} {m:Mov} (h:(m.kind==3)=false):B7 c m=m.give:=by unfold B7;rw [if_neg (by rw [h];simp)]
theorem zp {c:List Col} {m:Mov} {s:Str} {y:Col} (h:(m.kind==3)=true) (ht:m.take=[s]) (hg:m.give=[y]) (hf:Be s c<0):B7 c m=[y]:=by
 unfold B7
 rw [if_pos h,ht,hg]
 exact if_pos hf
theorem vm {c:List Col} {m:Mov} {s:Str} {y:Col} (h:(m.kind==3)=true) (ht:m.take=[s]) (hg:m.give=[y]) (hf:¬Be s c<0):B7 c m=[⟨y.name,(c.getD (Be s c).toNat ⟨[],0⟩).kind⟩]:=by
 unfold B7
 rw [if_pos h,ht,hg]
 exact if_neg hf
theorem di (l:List Col):∀x∈l.map Bs,x.cells.length=2:=by
 intro x hx
 obtain ⟨c,_,rfl⟩:=C1.1 hx
 rfl
theorem la {c:Col} {y:AV} (h:y∈(Bs c).cells):y=Ad c.name∨y=A4 c.kind:=by
 have h':y∈[Ad c.name,A4 c.kind]:=h
 simpa using h'
theorem dj (l:List Col):∀x∈l.map Bs,∀y∈x.cells,y.one=true:=by
 intro x hx y hy
 obtain ⟨c,_,rfl⟩:=C1.1 hx
 rcases la hy with rfl|rfl<;>rfl
theorem Vg (l:List Col):∀x∈l.map Bs,∀y∈x.cells,y.strip=y:=by
 intro x hx y hy
 obtain ⟨c,_,rfl⟩:=C1.1 hx
 rcases la hy with rfl|rfl<;>rfl
theorem vn {α:Type} {l:List α} (h:l.length=1):∃y,l=[y]:=by
 match l,h with
 | [y],_=>exact ⟨y,rfl⟩
theorem lb {c:List Col} {s:Str} (hf:¬Be s c<0):(c.map Bs)[(Be s c).toNat]? = some (Bs (c.getD (Be s c).toNat ⟨[],0⟩)):=by
 obtain ⟨j,hj,hjl⟩:=Nd hf
 rw [hj,Int.toNat_natCast,C9,Aa hjl,Cz,Aa hjl]
 rfl
end Go.SX.Nb
namespace Go.SX
variable [GI:GlobInv]
open Classical
variable {P:Program} {d:Nat} {ops:Array Oper} {rest:List Oper} {sz:Nat} {fr:Nat→AV} {up own:List AObj} {dfs:List Nat} {rnd:Option Nat} {Q:St→Prop} {s:Nat} {ty:TypeId} {pos:String} {aft:Array Edge}
/-- Whether a slice is nil is known only of one that has elements. -/
theorem R.eqlNil {t e u:TypeId} {x y:Operand} {o:Bool} {k:Nat} {xs:List AV} (ht:P.underlying t=some (.slice e)) (hg:P.eqGuardType P.depth t=false)
  (hr:∀b:Bool,(b=true→xs=[])→ARun P d ops rest ⟨sz,A7 s (.v (.bool b)) fr,up,own,dfs,rnd⟩ Q)
  (hx:Ax fr x=.slice o k xs:=by exact sL0) (hy:Ax fr y=.nil:=by exact sL0) (hs:Nat.blt s sz=true:=by rfl):
  ARun P d ops (⟨some s,.binOp .eql t x y u,ty,pos,aft,none⟩::rest) ⟨sz,fr,up,own,dfs,rnd⟩ Q:=by
 refine Tp rfl (Q1:=fun s'=>∃b:Bool,(b=true→xs=[])∧s'=⟨sz,A7 s (.v (.bool b)) fr,up,own,dfs,rnd⟩) ?_ (by rintro _ ⟨b,hb,rfl⟩;exact hr b hb)
 intro G a w hrel Q'
 have h1:=hrel.eval x
 rw [show St.ev ⟨sz,fr,up,own,dfs,rnd⟩ x=.slice o k xs from hx] at h1
 have h2:=hrel.eval y
 rw [show St.ev ⟨sz,fr,up,own,dfs,rnd⟩ y=.nil from hy] at h2
 have key:∀b:Bool,(b=true→xs=[])→(execOp a.eval ⟨some s,.binOp .eql t x y u,ty,pos,aft,none⟩).run P w=.ok (.value (.bool b)) w →
   Oper.wpIn (Fr ((St.mk sz fr up own dfs rnd).rnd.map G.blk)) 0 P ⟨some s,.binOp .eql t x y u,ty,pos,aft,none⟩ a w (Post d ⟨sz,fr,up,own,dfs,rnd⟩ G w (fun s'=>∃b:Bool,(b=true→xs=[])∧s'=⟨sz,A7 s (.v (.bool b)) fr,up,own,dfs,rnd⟩)) Q':=fun b hb hv =>
  Ch (by intro c h;cases h) hv ⟨G,_,hrel.put (y:=.v (.bool b)) (by simpa using hs) (.v _ _),Fk d G w,rfl,rfl,rfl,b,hb,rfl⟩
 generalize hya:a.eval y=vy at h2
 generalize hxa:a.eval x=vx at h1
 cases h2
 cases h1 with
 | slice0=>exact key true (fun _=>rfl) (by simp only [execOp,hxa,hya,eqGuard];simp [Lib.run_eql_slice_nil _ _ _ _ _ _ _ _ ht,hg])
 | sliceE=>exact key false (fun h=>by cases h) (by simp only [execOp,hxa,hya,eqGuard];simp [Lib.run_eql_slice_nil _ _ _ _ _ _ _ _ ht,hg])
 | slice=>exact key false (fun h=>by cases h) (by simp only [execOp,hxa,hya,eqGuard];simp [Lib.run_eql_slice_nil _ _ _ _ _ _ _ _ ht,hg])
/-! A guarded slice that may be appended to. -/
end Go.SX
namespace Go.SX
variable [GI:GlobInv]
open Classical
section
variable {P:Program} {d:Nat}
/-- A call that returns and may leave more objects than it found; they are the caller's. -/
def ACallO (P:Program) (g:FuncId) (args:List AV) (H:List AObj) (post:AV→List AObj→Prop):Prop:=
 ∀(d:Nat) (G:Gh) (w:World) (vs:Array Value),vs.size=args.length→(∀(i:Nat) (y:AV) (u:Value),args[i]? = some y→vs[i]? = some u→Rep G w (some (.slot (d+1) i)) y u)→HeapRel G H w→TagOK G w→GI.bd≤d →
  CallsIn Fence.wide 0 P g vs w (fun e w'=>∃(v:Value) (G':Gh) (r:AV) (H':List AObj),e=.returned v∧Rep G' w' none r v∧HeapRel G' H' w'∧TagOK G' w'∧Keep (d+1) G w G' w'∧post r H')
/-- What is asked at a body's end: the first j of its objects are handed back. -/
def FO (P:Program) (rs:List ResultVar) (n:Nat) (post:AV→List AObj→Prop) (e:Exit) (st':St):Prop:=
 (e=.normal∨e=.ret)∧st'.defs=[]∧∃(r:AV) (rv:ResultVar) (j:Nat),rs=[rv]∧ResV P st' rv r∧Low (n+j) r∧(∀x∈st'.up++st'.own.take j,ObjLow (n+j) x)∧j≤st'.own.length∧post r (st'.up++st'.own.take j)
theorem ACallO.ofBody {g:FuncId} {fn:Func} {c:Code} {args:List AV} {H:List AObj} {post:AV→List AObj→Prop} {rs:List ResultVar} {n:Nat} (hf:P.funcs[g]? = some fn) (hb:fn.body=some c) (hrs:fn.results=rs.toArray)
  (hn:fn.ntmps=n) (hargs:args.length≤n) (h:∀d,AW P (d+1) c ⟨n,argsF args,H,[],[],none⟩ (FO P rs H.length post)):ACallO P g args H post:=by
 intro d G w vs hvs hrep hH hT hTop
 refine callsIn_of_wp_marks hf hb trivial ?_
 have hst:StRel (d+1) G ⟨n,argsF args,H,[],[],none⟩ { tmps:=vs++Array.replicate (fn.ntmps-vs.size) undef,defers:=[] } w:=by
  refine ⟨?_,fun s=>?_,by simpa using hH,(by rw [Fc hTop];rfl),(fun o ho=>by simp at ho),Ka,(fun o ho=>by simp at ho),hT,(fun l hl=>by cases hl),fun x hx=>?_,Ln hTop⟩
  ·simp only [Jl,Yh,hvs,hn];omega
  ·show Rep G w _ (args.getD s (.v undef)) _
   rw [Cz,Iq]
   rcases B3 s args.length with h'|h'
   ·rw [Aa h',Jk (by omega),Ds (by omega)]
    exact hrep s _ _ (Aa h') (Ds (by omega))
   rw [Ex h',O8 (by omega)]
   simp only [Option.getD_none]
   have:((Array.replicate (fn.ntmps-vs.size) undef)[s-vs.size]?).getD undef=undef:=by
    rw [Lh];split<;>rfl
   rw [this]
   exact .v _ _
  obtain ⟨i,hi⟩:=Cc hx
  have hob:=hH.obj i x hi
  show ObjLow H.length x
  rw [←hH.n]
  exact hob.low
 have hw:=h d G _ w hst
 refine wpIn_mono hw ?_
 rintro e a' w' ⟨G1,st',h1,k1,e1,e2,e3,hcase,hdefs,r,rv,j,rfl,hres,hlow,hobjs,hj,hpost⟩
 have fin:LeavesInM Fence.wide 0 P fn a'.tmps (fun e w'=>∃(v:Value) (G':Gh) (r:AV) (H':List AObj),e=.returned v∧Rep G' w' none r v∧HeapRel G' H' w'∧TagOK G' w'∧Keep (d+1) G w G' w'∧post r H') a'.defers .returning w':=by
  rw [h1.defs,hdefs,Fc hTop]
  obtain ⟨v,hv,hr⟩:=hres.run h1
  have hupl:st'.up.length=H.length:=e1
  have hgn:G1.n=st'.up.length+st'.own.length:=by rw [h1.heap.n,Ap]
  have hget:∀(i:Nat) (x:AObj),(st'.up++st'.own.take j)[i]? = some x→(st'.up++st'.own)[i]? = some x:=fun i x hx=>by
   rcases B3 i st'.up.length with h'|h'
   ·rw [Cg h'] at hx ⊢;exact hx
   rw [Ck h'] at hx ⊢
   rw [Gk] at hx
   split at hx
   ·exact hx
   cases hx
  refine ⟨v,by simp [F9,hrs,hv],v,{ G1 with n:=H.length+j },r,st'.up++st'.own.take j,rfl,hr.cut hlow,⟨fun i x hx=>(h1.heap.obj i x (hget i x hx)).cut (hobjs x (Ar hx)),?_,fun a b ha hb' e=>?_⟩,
   ⟨h1.tags.ex,h1.tags.obj,h1.tags.tail,h1.tags.globCut (by rw [hgn];omega)⟩,?_,hpost⟩
  ·show H.length+j=_
   rw [Ap,Cn,jx hj,hupl]
  ·exact h1.heap.inj a b (by rw [hgn];simp only at ha;omega) (by rw [hgn];simp only at hb';omega) e
  have hGn:G.n=H.length:=hH.n
  exact ⟨k1.fix,k1.slot,by rw [hGn];exact Nat.le_add_right _ _,k1.blk,k1.os,k1.tape,k1.output,k1.size,k1.old.cut (by rw [hgn];omega)⟩
 rcases hcase with rfl|rfl
 ·exact fin
 exact fin
end
section
variable {P:Program} {d:Nat} {ops:Array Oper} {rest:List Oper} {sz s:Nat} {fr:Nat→AV} {up own:List AObj} {dfs:List Nat} {rnd:Option Nat} {Q:St→Prop} {ty:TypeId} {pos:String} {aft:Array Edge}
theorem ACallO.body {g:FuncId} {fn:Func} {c:Code} {args:List AV} {H:List AObj} {post:AV→List AObj→Prop} {fr':Nat→AV} (rs:List ResultVar) (l:List Nat) {n:Nat} (hf:P.funcs[g]? = some fn) (hn:fn.ntmps=n)
  (h:∀d,AW P (d+1) c ⟨n,fr',H,[],[],none⟩ (FO P rs H.length post)) (hb:fn.body=some c:=by rfl) (hrs:fn.results=rs.toArray:=by rfl) (hargs:args.length≤n:=by exact sL1)
  (hk:Mb l (argsF args)=fr':=by exact sL0):ACallO P g args H post:=
 ACallO.ofBody hf hb hrs hn hargs (fun d=>X4 l hk (h d))
/-- The end of such a body. -/
theorem K.finO {rs:List ResultVar} {n:Nat} {post:AV→List AObj→Prop} {r:AV} {rv:ResultVar} {st:St} (j:Nat) (hres:ResV P st rv r) (hp:post r (st.up++st.own.take j)) (hlow:Low (n+j) r) (hobj:∀x∈st.up++st.own.take j,ObjLow (n+j) x)
  (hd:st.defs=[]:=by rfl) (hr:rs=[rv]:=by rfl) (hj:j≤st.own.length:=by simp):FO P rs n post .ret st:=⟨.inr rfl,hd,r,rv,j,hr,hres,hlow,hobj,hj,hp⟩
/-- A call of such a function. -/
theorem R.callO {g:FuncId} {xs:List Operand} {ats:Array TypeId} {args:List AV} {post:AV→List AObj→Prop} (hcall:∀args w,(callFunc g args).run P w=.ok (.enter g args) w)
  (h:ACallO P g args (up++own) post) (hp:∀r H',post r H'→∃O,H'=up++(own++O)∧ARun P d ops rest ⟨sz,A7 s r fr,up,own++O,dfs,rnd⟩ Q)
  (ha:xs.map (Ax fr)=args:=by exact sL0) (hs:Nat.blt s sz=true:=by rfl):
  ARun P d ops (⟨some s,.call ⟨.value (.func g),xs.toArray,ats⟩,ty,pos,aft,none⟩::rest) ⟨sz,fr,up,own,dfs,rnd⟩ Q:=by
 refine Tp rfl (Q1:=fun s'=>ARun P d ops rest s' Q) ?_ (fun s' e=>e)
 intro G a w hr Q'
 have hs:s<sz:=by simpa using hs
 have hxr:=Pm hr xs
 have ha':xs.map (St.ev ⟨sz,fr,up,own,dfs,rnd⟩)=args:=ha
 rw [ha'] at hxr
 have hrun:(execOp a.eval (⟨some s,.call ⟨.value (.func g),xs.toArray,ats⟩,ty,pos,aft,none⟩:Oper)).run P w=.ok (.enter g (xs.map a.eval).toArray) w:=by
  have:=Oo (P:=P) (dst:=some s) (ty:=ty) (pos:=pos) (aft:=aft) (gd:=none) (ats:=ats) (f:=.func g) (xs:=xs) (g:=g) (va:=#[]) (vc:=#[]) (a:=a) (w:=w) hcall rfl
  simpa using this
 refine On (by intro c h;cases h) hrun (h d G w _ (by rw [←ha'];simp) (fun i y u hy hu=>(hxr i y u hy hu).lift) hr.heap hr.tags hr.top) ?_
 rintro e w' ⟨v,G',r,H',rfl,hrep,hH,hT,hk,hpo⟩
 obtain ⟨O,rfl,hrn⟩:=hp r H' hpo
 have h3:=hr.called (U:=up) (O:=own++O) hH hT hk rfl rfl (fun o ho=>by
  have:=hr.defsAt o ho
  rw [←Bo,Cg (Ab.1 this).1]
  exact this) hr.low
 obtain ⟨h4,k4⟩:=h3.took hrep.lift (s:=s) hs
 exact ⟨v,rfl,_,_,h4,(hk.less (Ii d)).trans k4,rfl,rfl,rfl,hrn⟩
end
end Go.SX
