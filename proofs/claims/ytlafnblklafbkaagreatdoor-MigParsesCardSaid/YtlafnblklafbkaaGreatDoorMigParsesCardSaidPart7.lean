/- On the way (part 7). -/
import Derived.ReadAgain
import Derived.ChangeSame
import Derived.ChangeArms
import Derived.ChangeOld
import Derived.ChangeFn
import Derived.MapPlaces
import Derived.DataReads
import Derived.OpenShut
import Derived.RowKit
import Derived.Deep.DeepHandedRow
import Derived.Test.YtlafnblklafbkaaGreatDoorCards
import Derived.Test.YtlafnblklafbkaaGreatDoorTie
import Derived.Lay
import Derived.Lib.LaidTab
import Derived.Stop.LaidErr
import Derived.Shelf.Vars
import Derived.ChangeBears
import Derived.Lib.ParseIntBTie
import Derived.Test.YtlafnblklafbkaaGreatDoorMigParsesCardSaidPart6
set_option linter.all false
namespace Go.SX
variable [GI:GlobInv]
open Classical Go.RowKit Go.ChangeShapes
variable {W:World} {t:TypeId}
section
variable {P:Program} {H:Type} {enc:TypeId×Value→H}

/-- The first ghost: whatever lies there is read for good. -/
noncomputable def G0 (W:World):Gh:=⟨fun b o=>if (W.cell? ⟨b,o,none⟩).isSome then .fix else .free,fun _=>0,0⟩
theorem AN2 {b o:Nat} {u:Value} (h:W.cell? ⟨b,o,none⟩=some u):(G0 W).tag b o=.fix:=by simp [G0,h]
theorem Wn {b:Nat} (h:b<W.heap.size):M8 (G0 W) W b:=⟨h,fun o=>by simp only [G0];split<;>simp,fun i hi=>absurd hi (Nat.not_lt_zero _)⟩
theorem AJ5 (W:World):HeapRel (G0 W) [] W:=⟨fun i x h=>by simp at h,rfl,fun i j hi=>absurd hi (Nat.not_lt_zero _)⟩
theorem AJ6 {W:World} (h:Mh W):TagOK (G0 W) W:=by
 refine ⟨fun b o hb=>?_,fun b o i hb=>?_,fun b o L hb=>?_,fun x hx=>?_⟩
 ·simp only [G0] at hb
  split at hb
  ·rename_i hs;exact Option.isSome_iff_exists.1 hs
  exact absurd rfl hb
 ·simp only [G0] at hb;split at hb<;>cases hb
 ·simp only [G0] at hb;split at hb<;>cases hb
 obtain ⟨v,h1,h2⟩:=h x hx
 exact ⟨Wn (Qo.1 h1).1,v,h1,h2⟩

/-- What a datum of a plain type ARg as. -/
inductive DRep (P:Program):TypeId→DataW H→AV→Prop
 | int {t:TypeId} {k:IntKind} {n:Int} (hu:P.underlying t=some (.int k)) (wf:(Lit.int k n).wf=true):DRep P t (.lit (.int k n)) (.v (.int k n))
 | bool {t:TypeId} {b:Bool} (hu:P.underlying t=some .bool):DRep P t (.lit (.bool b)) (.v (.bool b))
 | str {t:TypeId} {bs:List UInt8} (hu:P.underlying t=some .string):DRep P t (.lit (.string bs)) (.v (sv bs))
 | nil {t e:TypeId} (hu:P.underlying t=some (.slice e)):DRep P t .nil (.slice false (P.cellsOf e) [])
 | slice {t e:TypeId} {elems spare:List (DataW H)} {ys:List AV} (hu:P.underlying t=some (.slice e)) (hn:ys.length=elems.length)
   (h:∀(i:Nat) (d:DataW H) (y:AV),elems[i]? = some d→ys[i]? = some y→DRep P e d y):DRep P t (.slice elems spare) (.slice false (P.cellsOf e) ys)
 | struct {t:TypeId} {fs:Array Field} {parts:List (DataW H)} {ys:List AV} (hu:P.underlying t=some (.struct fs)) (hn:parts.length=fs.size) (hn':ys.length=fs.size)
   (h:∀(i:Nat) (f:Field) (d:DataW H) (y:AV),fs[i]? = some f→parts[i]? = some d→ys[i]? = some y→DRep P f.type d y):DRep P t (.agg parts) (.agg (ys.flatMap AV.cells))

/-- Types that are made of numbers, texts, bools, slices and structs alone. -/
structure PlainT (P:Program) (T:TypeId→Prop):Prop where
 look:∀t,T t→(P.cellsOf t=1∧((∃k,P.underlying t=some (.int k))∨P.underlying t=some .bool∨P.underlying t=some .string∨(∃e,P.underlying t=some (.slice e)∧T e∧0<P.cellsOf e))) ∨
  (∃fs,P.underlying t=some (.struct fs)∧(∀f∈fs.toList,T f.type)∧P.cellsOf t=(fs.toList.map fun f=>P.cellsOf f.type).sum ∧
   ∀(j:Nat) (f:Field),fs.toList[j]? = some f→f.offset=((fs.toList.take j).map fun f=>P.cellsOf f.type).sum)

/-- The reading of a row of cells. -/
def CRep (W:World) (y:AV) (cs:List Value):Prop:=
 y.cells.length=cs.length∧(∀c∈y.cells,c.one=true)∧∀(j:Nat) (c:AV) (v:Value),y.cells[j]? = some c→cs[j]? = some v→Rep (G0 W) W none c v

theorem CRep.v1 {W:World} {x:Value} (h:x.oneCell'=true):CRep W (.v x) [x]:=
 ⟨rfl,by simp [AV.cells,AV.one,h],fun j c v h1 h2=>by
  match j with
  | 0=>simp [AV.cells] at h1 h2;subst h1;subst h2;exact .v _ _
  | j+1=>simp [AV.cells] at h1⟩

theorem ow {f:AV→List AV}:∀(ys:List AV) (j:Nat) (c:AV),(ys.flatMap f)[j]? = some c→∃(i:Nat) (y:AV) (q:Nat),ys[i]? = some y∧(f y)[q]? = some c∧j=((ys.take i).map fun y=>(f y).length).sum+q
 | [],j,c,h=>by simp at h
 | y::r,j,c,h=>by
  rw [Ia] at h
  rcases Aw j (f y).length with h'|h'
  ·rw [Do h'] at h
   exact ⟨0,y,j,rfl,h,by simp⟩
  rw [Dg h'] at h
  obtain ⟨i,z,q,h1,h2,h3⟩:=ow r _ c h
  exact ⟨i+1,z,q,h1,h2,by simp only [List.take_succ_cons,Bs,List.sum_cons];omega⟩
theorem Rl {α:Type} {R:Nat→α→Prop}:∀(n:Nat),(∀i,i<n→∃y,R i y)→∃ys:List α,ys.length=n∧∀(i:Nat) (y:α),ys[i]? = some y→R i y
 | 0,_=>⟨[],rfl,fun i y h=>by simp at h⟩
 | n+1,h=>by
  obtain ⟨ys,h1,h2⟩:=Rl n (fun i hi=>h i (by omega))
  obtain ⟨y,hy⟩:=h n (by omega)
  refine ⟨ys++[y],by simp [h1],fun i z hz=>?_⟩
  rcases Aw i n with h'|h'
  ·rw [Do (by omega)] at hz;exact h2 i z hz
  rw [Dg (by omega)] at hz
  have:i=n:=by
   have:=(Aa.1 hz).1
   simp at this;omega
  subst this
  rw [h1] at hz
  simp at hz
  exact hz ▸ hy
theorem U0 {α β:Type} {f:α→Nat} {g:β→Nat}:∀(l:List α) (m:List β),l.length=m.length→(∀(i:Nat) (a:α) (b:β),l[i]? = some a→m[i]? = some b→f a=g b)→(l.map f).sum=(m.map g).sum
 | [],[],_,_=>rfl
 | [],b::m,h,_=>by simp at h
 | a::l,[],h,_=>by simp at h
 | a::l,b::m,h,hh=>by
  simp only [Bs,List.sum_cons]
  rw [hh 0 a b rfl rfl,U0 l m (by simpa using h) (fun i a b h1 h2=>hh (i+1) a b h1 h2)]

theorem AFb {T:TypeId→Prop} (PT:PlainT P T) {W:World}:∀(n:Nat) (t:TypeId) (cs:List Value) (x:DataW H×List MemPlace),T t→DataW.trod enc P W 0 (fun _=>true) true n t cs=some x →
  ∃y,DRep P t x.1 y∧CRep W y cs∧cs.length=P.cellsOf t:=by
 intro n
 induction n with
 | zero=>intro t cs x _ h;simp [DataW.trod] at h
 | succ n ih =>
  intro t cs x hT h
  rcases PT.look t hT with ⟨hc1,⟨k,hu⟩|hu|hu|⟨e,hu,he,hz⟩⟩|⟨fs,hu,hf,hsum,hoff⟩
  ·obtain ⟨m,rfl,rfl,hw⟩:=DataW.trod_int hu h
   exact ⟨_,.int hu hw,.v1 rfl,hc1.symm⟩
  ·obtain ⟨b,rfl,rfl⟩:=DataW.trod_bool hu h
   exact ⟨_,.bool hu,.v1 rfl,hc1.symm⟩
  ·obtain ⟨s,rfl,rfl,_⟩:=DataW.trod_string hu h
   exact ⟨_,.str hu,.v1 rfl,hc1.symm⟩
  ·rcases DataW.trod_slice hu h with ⟨rfl,rfl⟩|⟨a,len,cap,elems,rest,m,hm,rfl,rfl,hb,hlc,hcm,hel,hE,_,_⟩
   ·refine ⟨_,.nil hu,⟨rfl,by simp [AV.cells,AV.one],fun j c v h1 h2=>?_⟩,hc1.symm⟩
    match j with
    | 0=>simp [AV.cells] at h1 h2;subst h1;subst h2;exact .slice0 _ _ _
    | j+1=>simp [AV.cells] at h1
   injection hm with hm
   subst hm
   subst hel
   have hEi:∀i,i<elems.length→∃y,(∀d,elems[i]? = some d→DRep P e d.1 y)∧∃ci,W.cells? 0 (a.add (i*P.cellsOf e)) (P.cellsOf e)=some ci∧CRep W y ci:=fun i hi=>by
    have h1:=hE i hi
    rw [Ak hi,Option.bind_eq_some_iff] at h1
    obtain ⟨ci,h2,h3⟩:=h1
    obtain ⟨y,h4,h5,_⟩:=ih e ci _ he h3
    exact ⟨y,fun d hd=>by rw [Ak hi] at hd;injection hd with hd;subst hd;exact h4,ci,h2,h5⟩
   obtain ⟨ys,hyl,hys⟩:=Rl elems.length hEi
   refine ⟨.slice false (P.cellsOf e) ys,.slice hu (by simp [hyl]) (fun i d y hd hy=>?_),⟨rfl,by simp [AV.cells,AV.one],fun j c v h1 h2=>?_⟩,hc1.symm⟩
   ·rw [D3,Fj] at hd
    obtain ⟨d',hd',rfl⟩:=hd
    exact (hys i y hy).1 d' hd'
   match j with
   | j+1=>simp [AV.cells] at h1
   | 0 =>
    simp [AV.cells] at h1 h2
    subst h1;subst h2
    by_cases h0:elems.length=0
    ·have:ys=[]:=Qu (by omega)
     subst this
     rw [h0]
     exact .sliceE _ _ _ _
    have hspot:a.spot=none:=by
     obtain ⟨ci,hci,_⟩:=(hys 0 ys[0] (Ak (by omega))).2
     obtain ⟨_,g1,g2⟩:=World.cells?_some hci
     have g3:=g2 0 hz
     rw [Ak (by omega)] at g3
     simp only [Ys,Addr.add,if_true] at g3
     unfold World.cell? at g3
     split at g3
     ·split at g3
      ·cases g3
      rename_i hs;simpa using hs
     cases g3
    refine .slice _ false _ ys a _ cap (fun i j=>(W.cell? ⟨a.block,a.off+i*P.cellsOf e+j,none⟩).getD undef) hspot hyl.symm hlc (fun x hx=>?_) (fun x hx=>?_) (fun i x j y hx hy=>?_) (fun i x j y hx hy=>?_) (fun h=>by cases h)
    ·obtain ⟨i,hi⟩:=Dp hx
     obtain ⟨ci,hci,hcr⟩:=(hys i x hi).2
     rw [hcr.1]
     exact (World.cells?_some hci).2.1
    ·obtain ⟨i,hi⟩:=Dp hx
     obtain ⟨ci,hci,hcr⟩:=(hys i x hi).2
     exact hcr.2.1
    ·obtain ⟨ci,hci,hcr⟩:=(hys i x hx).2
     obtain ⟨_,g1,g2⟩:=World.cells?_some hci
     have hj:j<P.cellsOf e:=by
      have:=(Aa.1 hy).1
      rw [hcr.1] at this;omega
     have g3:=g2 j hj
     rw [Ak (by omega),Cq hspot,Cq rfl] at g3
     exact ⟨AN2 g3,by rw [g3];rfl⟩
    obtain ⟨ci,hci,hcr⟩:=(hys i x hx).2
    obtain ⟨_,g1,g2⟩:=World.cells?_some hci
    have hj:j<P.cellsOf e:=by
     have:=(Aa.1 hy).1
     rw [hcr.1] at this;omega
    have g3:=g2 j hj
    rw [Ak (by omega),Cq hspot,Cq rfl] at g3
    simp only at g3
    rw [g3]
    exact hcr.2.2 j y _ hy (Ak (by omega))
  obtain ⟨xs,m,hm,rfl,hcl,hxl,hX⟩:=DataW.trod_struct hu h
  injection hm with hm
  subst hm
  have hXi:∀i,i<fs.size→∃y,∀(f:Field),fs[i]? = some f→(∀d,xs[i]? = some d→DRep P f.type d.1 y)∧CRep W y ((cs.drop f.offset).take (P.cellsOf f.type))∧y.cells.length=P.cellsOf f.type:=fun i hi=>by
   have h1:=hX i fs[i] (F3 hi)
   rw [Ak (by omega)] at h1
   obtain ⟨y,h2,h3,h4⟩:=ih _ _ _ (hf _ (by simp)) h1
   refine ⟨y,fun f hf'=>?_⟩
   rw [F3 hi] at hf'
   injection hf' with hf'
   subst hf'
   exact ⟨fun d hd=>by rw [Ak (by omega)] at hd;injection hd with hd;subst hd;exact h2,h3,by rw [h3.1,h4]⟩
  obtain ⟨ys,hyl,hys⟩:=Rl fs.size hXi
  have hlenI:∀(i:Nat),((ys.take i).map fun y=>y.cells.length).sum=((fs.toList.take i).map fun f=>P.cellsOf f.type).sum:=fun i=>by
   refine U0 _ _ (by simp [hyl]) (fun j y f h1 h2=>?_)
   rw [Ib] at h1 h2
   split at h1
   ·rename_i hj
    rw [if_pos hj] at h2
    exact (hys j y h1 f (by simpa using h2)).2.2
   cases h1
  have htot:(ys.flatMap AV.cells).length=cs.length:=by
   rw [List.length_flatMap,hcl,hsum]
   refine U0 _ _ (by simp [hyl]) (fun j y f h1 h2=>(hys j y h1 f (by simpa using h2)).2.2)
  refine ⟨.agg (ys.flatMap AV.cells),.struct hu (by simp [hxl]) hyl (fun i f d y hf' hd hy=>?_),⟨htot,fun c hc=>?_,fun j c v h1 h2=>?_⟩,hcl⟩
  ·rw [D3,Fj] at hd
   obtain ⟨d',hd',rfl⟩:=hd
   exact (hys i y hy f hf').1 d' hd'
  ·obtain ⟨y,hy,hcy⟩:=List.mem_flatMap.1 hc
   obtain ⟨i,hi⟩:=Dp hy
   have hlt:i<fs.size:=by rw [←hyl];exact (Aa.1 hi).1
   exact ((hys i y hi fs[i] (F3 hlt)).2.1).2.1 c hcy
  obtain ⟨i,y,q,g1,g2,rfl⟩:=ow ys j c h1
  have hlt:i<fs.size:=by rw [←hyl];exact (Aa.1 g1).1
  obtain ⟨_,k2,k3⟩:=hys i y g1 fs[i] (F3 hlt)
  have hq:q<P.cellsOf (fs[i]).type:=by have:=(Aa.1 g2).1;omega
  refine k2.2.2 q c v g2 ?_
  rw [Ib,if_pos hq,Gg,hoff i fs[i] (by simp [hlt]),←hlenI i]
  exact h2

theorem DRep.int' {t:TypeId} {k:IntKind} {d:DataW H} {y:AV} (hu:P.underlying t=some (.int k)) (h:DRep P t d y):∃n,d=.lit (.int k n)∧y=.v (.int k n)∧k.min≤n∧n≤k.max:=by
 cases h with
 | int hu' wf=>rw [hu] at hu';injection hu' with e;injection e with e;subst e;exact ⟨_,rfl,rfl,by simpa [Lit.wf] using wf⟩
 | _ hu'=>rw [hu] at hu';cases hu'
theorem DRep.str' {t:TypeId} {d:DataW H} {y:AV} (hu:P.underlying t=some .string) (h:DRep P t d y):∃s,d=.lit (.string s)∧y=.v (sv s):=by
 cases h with
 | str hu'=>exact ⟨_,rfl,rfl⟩
 | _ hu'=>rw [hu] at hu';cases hu'
/-- An argument's reading. -/
theorem AJ7 {T:TypeId→Prop} (PT:PlainT P T) {W:World} {t:TypeId} {v:Value} {d:DataW H} {ps:List MemPlace} {b0:Nat} (hT:T t) (hok:Value.okWide P W .any b0 t v) (h:DataW.Trod enc P W 0 (fun _=>true) true t v d ps):
  ∃y,DRep P t d y∧Rep (G0 W) W none y v:=by
 obtain ⟨n,hn⟩:=h
 obtain ⟨y,h1,h2,h3⟩:=AFb PT n t _ _ hT hn
 refine ⟨y,h1,?_⟩
 rcases PT.look t hT with ⟨hc1,hone⟩|⟨fs,hu,_⟩
 ·have hva:∀cs,v≠.agg cs:=fun cs e=>by
   subst e
   rcases hone with ⟨k,hu⟩|hu|hu|⟨e,hu,he,hz⟩<;>simp [Value.okWide,hu,Cell.okWide,Cell.ok] at hok
  have hvc:v.cells=#[v]:=by cases v<;>first|rfl|exact absurd rfl (hva _)
  have hyc:y.cells=[y]:=by
   cases h1 with
   | struct hu=>rcases hone with ⟨k,hu'⟩|hu'|hu'|⟨e,hu',he,hz⟩<;>rw [hu] at hu'<;>cases hu'
   | _=>rfl
  have:=h2.2.2 0 y v (by rw [hyc];rfl) (by rw [hvc];rfl)
  exact this
 obtain ⟨cs,rfl,hsz,_⟩:∃cs,v=.agg cs∧cs.size=P.cellsOf t∧Row.okWide P W .any b0 t cs:=by
  simp only [Value.okWide,hu] at hok
  exact hok
 cases h1 with
 | struct hu' hn1 hn2 hh =>
  refine .agg _ _ _ (by have:=h2.1;simp only [AV.cells,Value.cells,Array.length_toList] at this;exact this.symm) h2.2.1 (fun i c u a b=>h2.2.2 i c u a (by simpa [Value.cells] using b))
 | int hu'=>rw [hu] at hu';cases hu'
 | bool hu'=>rw [hu] at hu';cases hu'
 | str hu'=>rw [hu] at hu';cases hu'
 | nil hu'=>rw [hu] at hu';cases hu'
 | slice hu'=>rw [hu] at hu';cases hu'

def DReps (P:Program):List TypeId→List (DataW H)→List AV→Prop
 | [],[],[]=>True
 | t::ts,d::ds,y::ys=>DRep P t d y∧DReps P ts ds ys
 | _,_,_=>False

theorem DReps.cons' {t:TypeId} {ts:List TypeId} {ds:List (DataW H)} {ys:List AV} (h:DReps P (t::ts) ds ys):∃d ds' y ys',ds=d::ds'∧ys=y::ys'∧DRep P t d y∧DReps P ts ds' ys':=by
 match ds,ys,h with
 | d::ds',y::ys',⟨h1,h2⟩=>exact ⟨d,ds',y,ys',rfl,rfl,h1,h2⟩
 | [],_,h=>simp [DReps] at h
 | _::_,[],h=>simp [DReps] at h
theorem DReps.nil' {ds:List (DataW H)} {ys:List AV} (h:DReps P [] ds ys):ds=[]∧ys=[]:=by
 match ds,ys,h with
 | [],[],_=>exact ⟨rfl,rfl⟩
 | [],_::_,h=>simp [DReps] at h
 | _::_,_,h=>simp [DReps] at h
theorem gj {T:TypeId→Prop} (PT:PlainT P T) {W:World} {b0:Nat}:∀(ts:List TypeId) (vs:List Value) (ds:List (DataW H)) (ps:List MemPlace),(∀t∈ts,T t) →
  (∀(j:Nat) t v,ts[j]? = some t→vs[j]? = some v→Value.okWide P W .any b0 t v)→DataW.TrodAll enc P W 0 (fun _=>true) true ts vs ds ps →
  ∃ys,DReps P ts ds ys∧ys.length=vs.length∧∀(i:Nat) (y:AV) (u:Value),ys[i]? = some y→vs[i]? = some u→Rep (G0 W) W none y u
 | [],[],[],_,_,_,_=>⟨[],trivial,rfl,fun i y u h=>by simp at h⟩
 | t::ts,v::vs,d::ds,ps,hT,hok,⟨p,q,h1,h2,_⟩=>by
  obtain ⟨y,k1,k2⟩:=AJ7 PT (hT t (by simp)) (hok 0 t v rfl rfl) h1
  obtain ⟨ys,k3,k4,k5⟩:=gj PT ts vs ds q (fun t ht=>hT t (by simp [ht])) (fun j t v a b=>hok (j+1) t v a b) h2
  refine ⟨y::ys,⟨k1,k3⟩,by simp [k4],fun i z u a b=>?_⟩
  match i with
  | 0=>simp at a b;subst a;subst b;exact k2
  | i+1=>exact k5 i z u a b
 | [],_::_,_,_,_,_,h=>by simp [DataW.TrodAll] at h
 | [],[],_::_,_,_,_,h=>by simp [DataW.TrodAll] at h
 | _::_,[],_,_,_,_,h=>by simp [DataW.TrodAll] at h
 | _::_,_::_,[],_,_,_,h=>by simp [DataW.TrodAll] at h

theorem Xq {sp:Nat→Bool} {hd:Bool}:∀{ts:List TypeId} {vs:List Value} {ds:List (DataW H)} {ps:List MemPlace},DataW.TrodAll enc P W 0 sp hd ts vs ds ps→ds.length=ts.length
 | [],[],[],_,_=>rfl
 | _::_,_::_,_::_,_,⟨_,_,_,h,_⟩=>by rw [Aq,Aq,Xq h]
 | [],_::_,_,_,h=>by simp [DataW.TrodAll] at h
 | [],[],_::_,_,h=>by simp [DataW.TrodAll] at h
 | _::_,[],_,_,h=>by simp [DataW.TrodAll] at h
 | _::_,_::_,[],_,h=>by simp [DataW.TrodAll] at h
theorem Rm {W':World} {sp:Nat→Bool}:∀{ts:List TypeId} {vs:List Value} {ds:List (DataW H)} {ps:List MemPlace},DataW.TrodAll enc P W 0 sp true ts vs ds ps→(∀p∈ps,W.sameAt W' p)→DataW.TrodAll enc P W' 0 sp true ts vs ds ps
 | [],[],[],_,h,_=>h
 | _::_,_::_,_::_,_,⟨p,q,⟨n,hn⟩,h2,e⟩,hs=>⟨p,q,⟨n,DataW.trod_carry n _ _ _ hn (fun x hx=>hs x (by rw [e];exact xz _ hx))⟩,Rm h2 (fun x hx=>hs x (by rw [e];exact Pg _ hx)),e⟩
 | [],_::_,_,_,h,_=>by simp [DataW.TrodAll] at h
 | [],[],_::_,_,h,_=>by simp [DataW.TrodAll] at h
 | _::_,[],_,_,h,_=>by simp [DataW.TrodAll] at h
 | _::_,_::_,[],_,h,_=>by simp [DataW.TrodAll] at h

/-- **A law that answers true, for whatever can be read.** -/
theorem ABo {f:FuncId} {fn:Func} {s:ChangeSpec} {T:TypeId→Prop} {tb:TypeId} {W:World} {base:Nat} {args:Array Value} {ds gs:List (DataW H)} {before:List MemPlace} (K:Kids P (·<P.types.size)) (hz:∀t e,t<P.types.size→P.underlying t=some (.slice e)→0<P.cellsOf e)
  (PT:PlainT P T) (hT:∀t∈fn.params.toList,T t∧t<P.types.size) (hb:P.underlying tb=some .bool) (hres:fn.resultTypes=#[tb]) (hvars:s.vars=[])
  (hspec:∀ds:List (DataW H),ds.length=fn.params.size→s.fn H ds={ results:=[.lit (.bool true)],args:=ds })
  (hval:∀(j:Nat) t v,fn.params[j]? = some t→args[j]? = some v→Value.okWide P W .any base t v) (hW:DataW.Whole enc P fn.params.toList s.vars false W args.toList ds gs before)
  (hglob:Mh W)
  (main:∀ys:List AV,DReps P fn.params.toList ds ys→AFun P f ys [] (.v (.bool true))) (hbd:GI.bd≤0:=by exact Ae 0):
  Calls P f args W (fun e W'=>∃v,e=.returned v∧s.post enc P fn false true false false W args v W'):=by
 have hW0:=hW
 obtain ⟨p,q,hA,hV,hpq,hfz,hnd⟩:=hW
 rw [hvars] at hV
 obtain ⟨rfl,rfl⟩:=trodVars_none hV
 rw [Ep] at hpq
 subst hpq
 obtain ⟨ys,h1,h2,h3⟩:=gj PT _ _ _ _ (fun t ht=>(hT t ht).1) (fun j t v a b=>hval j t v (by simpa using a) (by simpa using b)) hA
 have hlen:=Xq hA
 have hc:=main ys h1 0 (G0 W) W args (by simpa using h2.symm) (fun i y u a b=>(h3 i y u a (by simpa using b)).lift) (AJ5 W) (AJ6 hglob)
 refine (callsIn_wide.1 (hc hbd)).mono ?_
 rintro e W' ⟨v,G',r,H',rfl,hr,hH,hTg,hk,hl,rfl,rfl⟩
 have hv:=O4 hr
 subst hv
 refine ⟨_,rfl,ds,[],before,[],before,[],hW0,?_,?_,?_,?_,fun h=>by cases h⟩
 ·rw [hres,Ep,hspec ds (by simpa using hlen)]
  exact trodAll_cons_mk (p:=[]) (shut_bool hb true) trodAll_mk0
 ·rw [Ep,hspec ds (by simpa using hlen)]
  refine Rm (DataW.TrodAll.respare K hz (fun t ht=>(hT t ht).2) hA (fun p hp=>by simpa using hW0.lt p hp)) (fun p hp=>?_)
  have hlt:=hW0.lt p hp
  have hb:=(hk.old _ (Wn hlt)).1
  cases p with
  | cell b o=>exact Fo hb
  | map b=>exact hb
 ·rw [hvars,Ep,hspec ds (by simpa using hlen)]
  rfl
 refine ⟨hk.os,hk.output,fun i hi=>?_⟩
 have hb:=(hk.old i (Wn hi)).1
 rw [hb]
 cases ho:W.heap[i]? with
 | none=>simp
 | some o=>cases o<;>simp
end
end Go.SX
namespace Go.Proofs.YtlafnblklafbkaaGreatDoor
open Go Go.SX Go.SX.Nb Go.ChangeShapes Go.RowKit
set_option maxRecDepth 100000

theorem own:ownKnob Tryz.prog.godebug=none:=by kernel_rfl
theorem kids:Kids Tryz.prog (·<Tryz.prog.types.size):=kids_rows (by kernel_rfl) (by kernel_rfl)
theorem full:∀t e,t<Tryz.prog.types.size→Tryz.prog.underlying t=some (.slice e)→0<Tryz.prog.cellsOf e:=slices_full_of Tryz.prog (by kernel_rfl)
/-- What the rows of this seat list. -/
def AFc:List (String×DataW Unit):=Rows.migJoinsUptoRow.laid
theorem ABp:∀u,Tryz.prog.typeName? 3 u=some "*errors.errorString" → u=271:=by
 intro u hu
 exact typeName_ptr_named (nm := "errors.errorString") (by kernel_rfl) (by kernel_rfl) (by decide) u hu
theorem AJ8 {W:World} (h:laidMet Tryz.prog AFc W):∃a:Addr,W.var? Tryz.prog "strconv.ErrRange" = some #[.iface 271 (.pointer (some a))]:=by
 have h':=h.tail.tail.tail.tail
 obtain ⟨a,s,h1,_⟩:=laid_sentinel (g:=3) (ti:=77) (tp:=271) (te:=273) (ts:=9) h' (by kernel_rfl) (by kernel_rfl) Tryz.underlying77 ABp Tryz.underlying271 Tryz.underlying273 rfl rfl Tryz.underlying9 (by kernel_rfl) (by kernel_rfl)
 exact ⟨a,h1⟩
theorem AJ9 {W:World} (h:laidMet Tryz.prog AFc W):Lib.TabIs Tryz.prog W "internal/strconv.uint64pow10" .u64 Lib.pow10Tab:=
 Lib.tabIs_of_head (g:=5) (t:=268) (e:=126) (n:=20) (by kernel_rfl) (by kernel_rfl) (by kernel_rfl) (by kernel_rfl) (by kernel_rfl) (by kernel_rfl) h.tail.tail
theorem gk {P:Program} {W:World} {n:String} {g:Nat} {cs:Array Value} (hg:P.globalNamed n=some g) (h:W.var? P n=some cs):∃t f,W.heap[g]? = some (.cells cs t f):=by
 unfold World.var? at h
 rw [hg] at h
 simp only [Option.bind_some] at h
 split at h
 ·rename_i cs' t f e
  injection h with h
  subst h
  exact ⟨t,f,e⟩
 cases h
theorem glob {W:World} [E:ErrAt] (h:W.ShapedOpen Tryz.prog) (hl:laidMet Tryz.prog AFc W) (he:W.var? Tryz.prog "strconv.ErrRange" = some #[.iface 271 (.pointer (some E.b))]):Mh W:=by
 intro x hx
 have hx':x∈fp:=hx
 unfold fp at hx'
 simp only [List.mem_cons,List.mem_nil_iff,or_false] at hx'
 rcases hx' with rfl|rfl|rfl
 ·obtain ⟨m,hm⟩:=cell_of_shapedOpen_int (g:=0) (t:=3) (zero:=#[.int .i64 0]) (k:=.i64) h (of_decide_eq_true (by kernel_rfl)) (by kernel_rfl) rfl (by kernel_rfl) (by kernel_rfl) Tryz.underlying3
  obtain ⟨cs,hh,hs,_⟩:=h.1 0 #[.int .i64 0] 3 (of_decide_eq_true (by kernel_rfl)) (by kernel_rfl)
  have hs':cs.size=1:=hs
  have h1:0<cs.size:=by omega
  have hc:cs[0]=.int .i64 m:=by
   simp [World.cell?,hh,h1] at hm
   exact hm
  have:cs=#[.int .i64 m]:=by
   apply Array.ext
   ·simpa using hs'
   intro i h1 h2
   have:i=0:=by omega
   subst this
   simpa using hc
  rw [this] at hh
  exact ⟨_,hh,m,3,_,rfl⟩
 ·obtain ⟨t,f,e⟩:=gk (g:=3) (by kernel_rfl) he
  exact ⟨_,e,t,f,rfl⟩
 obtain ⟨t,f,e⟩:=gk (g:=5) (by kernel_rfl) (AJ9 hl)
 exact ⟨_,e,t,f,rfl⟩
end Go.Proofs.YtlafnblklafbkaaGreatDoor
namespace Go.SX.Nb
open Go Go.SX Go.Proofs
variable [ErrAt]
set_option maxRecDepth 4000
/-- The lexer from a place between two words on. -/
def Ou (f q:Nat) (s:Str):List (Tok×Int):=Gc f (q+gapM s) (s.drop (gapM s))
theorem oy (s:Str):C0 s=Ou (s.length+1) 0 s:=by unfold C0 Ou;rw [Bm]
theorem oz {f q:Nat} {s:Str} (h:s≠[]):∃(n:Nat),Gc (f+1) q s=(⟨(Bi s).1,(Bi s).2.1,q⟩,(Bi s).2.2.2)::(if (Bi s).2.2.2=0 then Ou f (q+n) (s.drop n) else [])∧((Bi s).2.2.2=0→(Bi s).2.2.1=(n:Int)∧1≤n∧n≤s.length):=by
 refine ⟨(Bi s).2.2.1.toNat,?_,fun he=>?_⟩
 ·rw [Jy h]
  simp only [beq_iff_eq]
  rfl
 obtain ⟨n,h1,h2,h3⟩:=Ut (s:=s) (by cases s with|nil=>exact absurd rfl h|cons c r=>simp) he
 rw [h1]
 exact ⟨rfl,by simpa using h2,by simpa using h3⟩
theorem Xr:∀(f f' q:Nat) (s:Str),s.length<f→s.length<f'→Gc f q s=Gc f' q s
 | 0,_,_,_,h,_=>by omega
 | _+1,0,_,_,_,h=>by omega
 | f+1,g+1,q,s,h1,h2=>by
  by_cases hs:s=[]
  ·subst hs;rfl
  rw [Jy hs,Jy hs]
  congr 1
  by_cases he:(Bi s).2.2.2=0
  ·obtain ⟨n,hn,k1,k2⟩:=Ut (s:=s) (by cases s with|nil=>exact absurd rfl hs|cons c r=>simp) he
   rw [he]
   simp only [beq_self_eq_true,if_true]
   rw [hn,Int.toNat_natCast]
   exact Xr f g _ _ (by simp only [Dh];omega) (by simp only [Dh];omega)
  rw [if_neg (by simpa using he),if_neg (by simpa using he)]
/-! ### Gaps -/
theorem Xs:∀(s:Str) (b:Bool),s.drop (s.length-(Cx s b).length)=Cx s b
 | [],b=>by cases b<;>rfl
 | c::r,b=>by
  have ih:=Xs r
  have hl:=O9 r
  have key:∀b',(c::r).drop ((c::r).length-(Cx r b').length)=Cx r b':=fun b'=>by
   have:=hl b'
   rw [Aq,show r.length+1-(Cx r b').length=(r.length-(Cx r b').length)+1 by omega,Ok]
   exact ih b'
  cases b with
  | false =>
   rw [Cx]
   split
   ·exact key _
   split
   ·exact key _
   simp
  | true =>
   rw [Cx]
   split
   ·exact key _
   exact key _
theorem AFd (s:Str):s.drop (gapM s)=Cx s false:=Xs s false
/-! ### Words -/
theorem L2 (s of:Str):Cp s of=s.takeWhile (of.contains ·):=oc s of
theorem Yz {s:Str} (h:(C4 s).2.1=0):s.length≤4000∧(∀it∈C0 s,it.2=0)∧C4 s=((C0 s).map (·.1)++[⟨0,[],s.length⟩],0,0):=by
 unfold C4 at h ⊢
 split at h
 ·exact absurd h (show ¬(3:Int)=0 by decide)
 rename_i hl
 rw [if_neg hl]
 cases hf:(C0 s).find? (fun it=>it.2 != 0) with
 | some it =>
  rw [hf] at h
  have:=List.find?_some hf
  simp at this
  exact absurd h this
 | none =>
  rw [W7] at hf
  refine ⟨by omega,fun it hit=>by simpa using hf it hit,rfl⟩
theorem AJa {s:Str} (hl:s.length≤4000) (h:∀it∈C0 s,it.2=0):C4 s=((C0 s).map (·.1)++[⟨0,[],s.length⟩],0,0):=by
 unfold C4
 rw [if_neg (by omega),og h]
theorem Uy (k:Int):(Av k).length≤4:=by
 unfold Av
 split
 ·simp
 rename_i h
 have hk:k=1∨k=2∨k=3:=by omega
 rcases hk with rfl|rfl|rfl<;>decide
theorem ASa:Tryz.prog.eqGuardType Tryz.prog.depth 64=false:=by kernel_rfl
theorem AJb (k k':Int) (s s':List UInt8) (w:World):(Op.equal 64 (.agg #[.string ⟨s.toArray⟩,.int .i64 k]) (.agg #[.string ⟨s'.toArray⟩,.int .i64 k'])).run Tryz.prog w=.ok (s==s'&&k==k') w:=by
 have h1:Tryz.prog.stoodInHeld 64=false:=by kernel_rfl
 show (Op.equalIn (9999+1) _ _ _).run _ _=_
 rw [Op.equalIn]
 generalize hd:(9999:Nat)=d
 obtain ⟨d,rfl⟩:∃e,d=e+1:=⟨9998,hd.symm⟩
 clear hd
 simp [run_underlying Tryz.underlying64,h1,part,mz _ _ _ _ _ _ Tryz.underlying3,ALi _ _ _ _ _ Tryz.underlying9,Tryz.isAgg3,Tryz.isAgg9]
 by_cases e1:k=k'<;>by_cases e3:s=s'<;>simp [e1,e3]
theorem yj {a b:Col}:(a.name==b.name&&a.kind==b.kind)=decide (a=b):=by
 rw [N3]
 cases a;cases b
 simp
def Kd (s:Str):Int:=if Av 1==s then 1 else if Av 2==s then 2 else if Av 3==s then 3 else 0
structure KindUpto (s:Str) (x:Nat):Prop where
 le:x≤3
 a:1≤x→(Av 1==s)=false
 b:2≤x→(Av 2==s)=false
 c:3≤x→(Av 3==s)=false
theorem AJc {s:Str} {x:Nat} (h:KindUpto s x) (hx:x<3) (e:(Av ((x:Int)+1)==s)=true):Kd s=(x:Int)+1:=by
 have h3:x=0∨x=1∨x=2:=by omega
 unfold Kd
 rcases h3 with rfl|rfl|rfl
 ·have e:(Av 1==s)=true:=e
  rw [if_pos e];rfl
 ·have e:(Av 2==s)=true:=e
  rw [if_neg (by rw [h.a (by omega)];simp),if_pos e];rfl
 have e:(Av 3==s)=true:=e
 rw [if_neg (by rw [h.a (by omega)];simp),if_neg (by rw [h.b (by omega)];simp),if_pos e];rfl
theorem AJd {s:Str} {x:Nat} (h:KindUpto s x) (hx:x<3) (e:(Av ((x:Int)+1)==s)=false):KindUpto s (x+1):=by
 have h3:x=0∨x=1∨x=2:=by omega
 rcases h3 with rfl|rfl|rfl
 ·exact ⟨by omega,fun _=>e,fun h=>by omega,fun h=>by omega⟩
 ·exact ⟨by omega,fun _=>h.a (by omega),fun _=>e,fun h=>by omega⟩
 exact ⟨by omega,fun _=>h.a (by omega),fun _=>h.b (by omega),fun _=>e⟩
theorem AJe {s:Str} {x:Nat} (h:KindUpto s x) (hx:3≤x):Kd s=0:=by
 unfold Kd
 rw [if_neg (by rw [h.a (by omega)];simp),if_neg (by rw [h.b (by omega)];simp),if_neg (by rw [h.c (by omega)];simp)]
theorem ASb (s:Str) (Hp:List AObj):AFun Tryz.prog 191 [Ac s] Hp (A7 (Kd s)):=by
 refine B0 [.tmp 2] [0] Tryz.func191 Tryz.ntmps191 (fun d=>?_)
 refine Z59 ?_;refine Z35 ?_;refine Qm ?_
 refine Bo (α:=Nat) (fun x=>⟨13,A9 0 (Ac s) (A9 3 (A7 ((x:Nat)+1)) (fun _=>.any)),Hp,[],[],none⟩) (fun x=>KindUpto s x) (fun x=>3-x) (0) ⟨by omega,fun h=>by omega,fun h=>by omega,fun h=>by omega⟩ (Gk _) rfl (fun x hx=>?_)
 refine Z9 ?_;refine A2 [0,3,5] ?_
 refine A6 (fun ht5=>?_) (fun ht5=>?_)
 ·have hx3:x<3:=by simp at ht5;omega
  refine Z56 ?_;refine Z2 ?_;refine Ap Tryz.call68 (c68 _ _) ?_;refine Z0 ?_;refine A2 [0,3,11] ?_
  refine A6 (fun ht11=>?_) (fun ht11=>?_)
  ·refine Z1 ?_;refine Z3 ?_;refine Z66 ?_;exact Ab (Ao Ag) ⟨by rw [AJc hx hx3 (by simpa using ht11)],rfl⟩
  refine Wf ?_;refine Qm ?_;exact Be (x+1) (AJd hx hx3 (by simpa using ht11)) (by omega) (Bp (by simp))
 have hx3:3≤x:=by simp at ht5;omega
 refine Z41 ?_;refine Z20 ?_;exact Ab (Ao Ag) ⟨by rw [AJe hx hx3],rfl⟩

def Uz (c:UInt8):Str:=if c=39 then [39,39] else [c]
def Cb (t:Str):Str:=t.flatMap Uz
theorem p9:∀t:Str,(Cb t).length≤2*t.length
 | []=>Ae _
 | c::r=>by
  have:=p9 r
  unfold Cb at this ⊢
  rw [Ia,Ai,Aq]
  have h:(Uz c).length≤2:=by unfold Uz;split<;>simp
  omega
theorem Ht (c:UInt8) (r:Str):Cb (c::r)=Uz c++Cb r:=by unfold Cb;rw [Ia]
theorem yk:∀s:Str,(Lib.index s [39] = -1∧Cb s=s)∨∃i:Nat,Lib.index s [39]=(i:Int)∧i<s.length∧Cb s=s.take i++[39,39]++Cb (s.drop (i+1))
 | []=>.inl ⟨rfl,rfl⟩
 | b::l=>by
  by_cases hb:b=39
  ·subst hb
   refine .inr ⟨0,by simp [Lib.index,List.isPrefixOf],by simp,?_⟩
   rw [Ht]
   simp [Uz]
  have hp:([39]:Str).isPrefixOf (b::l)=false:=by
   simp [List.isPrefixOf,Ne.symm hb]
  have hd:Cb (b::l)=b::Cb l:=by
   rw [Ht,Uz,if_neg hb]
   rfl
  rcases yk l with ⟨h1,h2⟩|⟨i,h1,h2,h3⟩
  ·refine .inl ⟨?_,by rw [hd,h2]⟩
   rw [Lib.index,hp,h1];rfl
  refine .inr ⟨i+1,?_,by simp;omega,?_⟩
  ·rw [Lib.index,hp,h1,if_neg (by simp),if_neg (by simp)]
   rfl
  rw [hd,h3]
  simp
theorem V0:∀(n:Nat) (s:Str),s.length≤n→Lib.replaceK [39] [39,39] (Lib.count s [39]) s=Cb s
 | n,s,hn=>by
  rcases yk s with ⟨h1,h2⟩|⟨i,h1,h2,h3⟩
  ·rw [Lib.count_miss h1,h2];rfl
  cases n with
  | zero=>omega
  | succ n =>
   rw [Lib.count_hit (by decide) h1,Sf,Lib.replaceK_hit _ _ _ _ i h1]
   have e:i+([39]:Str).length=i+1:=rfl
   rw [e,V0 n (s.drop (i+1)) (by rw [Dh];omega),h3]
theorem Lt (s:Str):Lib.replaceAll s [39] [39,39]=Cb s:=by
 unfold Lib.replaceAll Lib.replace
 rw [if_neg (by decide)]
 have e:Lib.replaceNum s [39] (-1)=Lib.count s [39]:=by unfold Lib.replaceNum;rw [if_pos (.inl (by decide))]
 rw [e]
 exact V0 _ s (Ae _)
def yl (t:Tok):Str:=if t.kind=4 then [39]++Cb t.text++[39] else t.text
theorem vm {q:Str} (h0:q.headD 0=39) (h1:1≤q.length) (h:(Dy q).2=0):[39]++Cb (Dy q).1.s++[39]=q:=by
 cases q with
 | nil=>simp at h1
 | cons c r =>
  have hc:c=39:=h0
  subst hc
  unfold Dy at h ⊢
  have n1:((39::r:Str)==[110,117,108,108])=false:=by rw [beq_eq_false_iff_ne];intro e;injection e with e;exact absurd e (by decide)
  have n2:((39::r:Str)==[116,114,117,101])=false:=by rw [beq_eq_false_iff_ne];intro e;injection e with e;exact absurd e (by decide)
  have n3:((39::r:Str)==[102,97,108,115,101])=false:=by rw [beq_eq_false_iff_ne];intro e;injection e with e;exact absurd e (by decide)
  rw [n1,n2,n3] at h ⊢
  simp only [B1,if_false,Tl] at h ⊢
  by_cases hq:Kq (39::r)=true
  ·rw [if_pos hq] at h ⊢
   unfold aw at h ⊢
   split at h
   ·exact absurd h (show ¬(7:Int)=0 by decide)
   rename_i hp
   rw [if_neg hp]
   have hp':De (Rj (39::r))=39::r:=by simpa using hp
   have hk:(Rj (39::r)).kind=2:=rfl
   show [39]++Cb (Rj (39::r)).s++[39]=39::r
   generalize Rj (39::r)=v at hp' hk
   have hne:De v≠[]:=by rw [hp'];simp
   rw [←hp']
   unfold De at hne ⊢
   split at hne
   ·exact absurd rfl hne
   rename_i hpl
   rw [if_neg hpl,hk,if_neg (by decide),if_pos (by decide),Lt]
  rw [if_neg hq] at h
  have hd:Gn (39::r)=true:=by
   unfold Gn
   have e:Ng (39::r)=39::r:=by
    rcases Lp (39::r) with ⟨_,h4⟩|⟨r',h3,_⟩
    ·exact h4
    injection h3 with h3;exact absurd h3 (by decide)
   rw [e]
   have:(Lib.trimS (39::r) digs==[])=false:=by
    rw [beq_eq_false_iff_ne]
    intro e
    rw [trimS_nil] at e
    exact absurd (e 39 (by simp)) (by decide)
   rw [this]
   simp
  have hn:B6 (39::r)=(0,6):=by unfold B6;rw [if_pos hd]
  rw [hn] at h
  simp at h
theorem eu (s:Str) (m:Nat):s.take (s.take m).length=s.take m:=by
 rw [J6]
 rcases Nat.le_total m s.length with h|h
 ·rw [Nat.min_eq_left h]
 rw [Nat.min_eq_right h,Fw (Ae _),Fw h]
theorem Rn (s of:Str):s.take (Cp s of).length=Cp s of:=by
 unfold Cp
 exact eu s _
/-- What a word's print spells is what was read. -/
theorem vn {s:Str} {n p:Nat} (h0:1≤s.length) (he:(Bi s).2.2.2=0) (hn:(Bi s).2.2.1=(n:Int)):yl ⟨(Bi s).1,(Bi s).2.1,p⟩=s.take n:=by
 cases s with
 | nil=>simp at h0
 | cons c r =>
  unfold Bi at he hn ⊢
  by_cases c1:decide (0<Lq ((c::r).take 1) letters)=true
  ·rw [if_pos c1] at he hn
   simp only [if_pos c1]
   unfold Nh at he hn ⊢
   by_cases r1:Dk (Cp (c::r) tails)=true
   ·rw [if_pos r1] at hn
    simp only [if_pos r1]
    have hn':(((Cp (c::r) tails).length:Nat):Int)=n:=hn
    have e:n=(Cp (c::r) tails).length:=by omega
    rw [e,Rn]
    rfl
   rw [if_neg r1] at he hn
   simp only [if_neg r1]
   by_cases r2:(!Ej (Cp (c::r) tails))=true
   ·rw [if_pos r2] at he;exact absurd he (show ¬(3:Int)=0 by decide)
   rw [if_neg r2] at hn
   simp only [if_neg r2]
   have hn':(((Cp (c::r) tails).length:Nat):Int)=n:=hn
   have e:n=(Cp (c::r) tails).length:=by omega
   rw [e,Rn]
   rfl
  rw [if_neg c1] at he hn
  simp only [if_neg c1]
  by_cases c2:decide (0<Lq ((c::r).take 1) digs)=true
  ·rw [if_pos c2] at he hn
   simp only [if_pos c2]
   have hn':(((Cp (c::r) digs).length:Nat):Int)=n:=hn
   have e:n=(Cp (c::r) digs).length:=by omega
   rw [e,Rn]
   rfl
  rw [if_neg c2] at he hn
  simp only [if_neg c2]
  by_cases c3:(((((c::r)).getD 0 0).toNat:Int)==39)=true
  ·rw [if_pos c3] at he hn
   simp only [if_pos c3]
   have hc:c=39:=by
    have c3':((c.toNat:Int)==39)=true:=c3
    exact F5.1 (by have:(39:UInt8).toNat=39:=rfl;simp at c3';omega)
   unfold Jb at he hn ⊢
   cases hq:D5 ((c::r).drop 1) with
   | none=>rw [hq] at he;exact absurd he (show ¬(7:Int)=0 by decide)
   | some m =>
    rw [hq] at he hn
    simp only at he hn ⊢
    split at he
    ·exact absurd he (show ¬(3:Int)=0 by decide)
    rename_i hr
    rw [if_neg hr] at hn
    simp only [if_neg hr]
    have hm':(((m+1:Nat)):Int)=n:=hn
    have hm:n=m+1:=by omega
    subst hm
    have hr':(Dy ((c::r).take (m+1))).2=0:=by simpa using hr
    have:=vm (q:=(c::r).take (m+1)) (by rw [hc];rfl) (by simp) hr'
    unfold yl
    rw [if_pos rfl]
    exact this
  rw [if_neg c3] at he hn
  simp only [if_neg c3]
  unfold Ni at he hn ⊢
  split at hn
  ·rename_i h2
   simp only [if_pos h2]
   have hn':(2:Int)=n:=hn
   have:n=2:=by omega
   subst this
   rfl
  rename_i h2
  rw [if_neg h2] at he
  simp only [if_neg h2]
  split at hn
  ·rename_i h3
   simp only [if_pos h3]
   have hn':(1:Int)=n:=hn
   have:n=1:=by omega
   subst this
   rfl
  rename_i h3
  rw [if_neg h3] at he
  exact absurd he (show ¬(7:Int)=0 by decide)
theorem vo (f q:Nat) (J:Str):Ou f q (32::J)=Ou f (q+1) J:=by
 have h:gapM (32::J)=gapM J+1:=by
  have:=O9 J false
  unfold gapM
  rw [Cx,if_pos (by decide),Aq]
  omega
 unfold Ou
 rw [h,Ok,show q+(gapM J+1)=q+1+gapM J by omega]
theorem wrap_u64 {n:Int} (h1:0≤n) (h2:n<18446744073709551616):IntKind.u64.wrap n=n:=by
 have e1:(2 ^ IntKind.u64.bits:Int)=18446744073709551616:=rfl
 have e3:IntKind.u64.signed=false:=rfl
 unfold IntKind.wrap
 simp only [e1,e3,N4]
 simp
 omega
theorem AFe {s:Str} (h:(C4 s).2.1=0):1≤(C4 s).1.length∧(C4 s).1.length≤s.length+2:=by
 obtain ⟨_,_,hl⟩:=Yz h
 rw [hl]
 have:=Tz s
 simp
 omega
theorem ln:∀t:Str,t.length≤(Cb t).length
 | []=>Ae _
 | c::r=>by
  have:=ln r
  rw [Ht,Ai,Aq]
  have h:1≤(Uz c).length:=by unfold Uz;split<;>simp
  omega
theorem AJf (t:Tok):t.text.length≤(yl t).length:=by
 unfold yl
 split
 ·have:=ln t.text
  simp only [Ai,Aq,B9]
  omega
 exact Ae _
/-- Words with an end. -/
structure TokEnd (l:List Tok):Prop where
 split:∃L z,l=L++[z]∧z.kind=0∧∀t∈L,t.kind≠0
 texts:∀t∈l,t.text.length≤1048576
theorem TokEnd.pos {l:List Tok} (h:TokEnd l):1≤l.length:=by
 obtain ⟨L,z,rfl,_,_⟩:=h.split
 simp
theorem TokEnd.text {l:List Tok} (h:TokEnd l) (i:Nat):(A4 l i).text.length≤1048576:=by
 unfold A4
 rcases Aw i l.length with hi|hi
 ·rw [F7,Ak hi]
  exact h.texts _ (D4 hi)
 rw [F7,Gi hi]
 exact Al _
theorem AJg (s:Str) (he:(Bi s).2.2.2=0):(Bi s).1≠0:=by
 revert he
 unfold Bi Nh Py Jb Ni
 repeat' split
 all_goals simp
theorem pc:∀(f q:Nat) (s:Str),(∀it∈Gc f q s,it.2=0)→∀it∈Gc f q s,it.1.kind≠0∧it.1.text.length≤s.length
 | 0,_,_,_,it,hm=>by cases hm
 | f+1,q,s,h,it,hm=>by
  by_cases hs:s=[]
  ·subst hs;cases hm
  obtain ⟨n,h1,h2⟩:=oz (f:=f) (q:=q) hs
  rw [h1] at hm h
  have h0:(Bi s).2.2.2=0:=h (⟨(Bi s).1,(Bi s).2.1,q⟩,(Bi s).2.2.2) (Ev ..)
  obtain ⟨hn,hn1,hn2⟩:=h2 h0
  rw [if_pos h0] at hm h
  rcases C9.1 hm with rfl|hm
  ·refine ⟨AJg s h0,?_⟩
   have hs1:1≤s.length:=by cases s with|nil=>exact absurd rfl hs|cons c r=>simp
   have:=vn (p:=q) hs1 h0 hn
   have h3:=AJf ⟨(Bi s).1,(Bi s).2.1,q⟩
   rw [this] at h3
   simp only [J6] at h3
   show (Bi s).2.1.length≤s.length
   omega
  have:=pc f _ _ (fun it hit=>h it (O1 _ hit)) it hm
  simp only [Dh] at this
  exact ⟨this.1,by omega⟩
theorem Za {s:Str} (h:(C4 s).2.1=0):TokEnd (C4 s).1:=by
 by_cases h4:4000<s.length
 ·unfold C4 at h
  rw [if_pos h4] at h
  exact AEp
 have e:C4 s=((C0 s).map (·.1)++[⟨0,[],s.length⟩],0,0)∧∀it∈C0 s,it.2=0:=by
  unfold C4 at h ⊢
  rw [if_neg h4] at h ⊢
  cases hf:(C0 s).find? (fun it=>it.2 != 0) with
  | none =>
   rw [W7] at hf
   exact ⟨rfl,fun it hit=>by simpa using hf it hit⟩
  | some it =>
   rw [hf] at h
   have:=List.find?_some hf
   simp only [bne_iff_ne] at this
   exact absurd h this
 obtain ⟨e,hz⟩:=e
 have hnz:=pc _ _ _ hz
 rw [e]
 refine ⟨⟨_,_,rfl,rfl,fun t ht=>?_⟩,fun t ht=>?_⟩
 ·obtain ⟨it,hit,rfl⟩:=F4.1 ht
  exact (hnz it hit).1
 rcases Di.1 ht with ht|ht
 ·obtain ⟨it,hit,rfl⟩:=F4.1 ht
  have:=(hnz it hit).2
  simp only [Dh] at this
  omega
 have e:t=⟨0,[],s.length⟩:=by simpa using ht
 subst e
 exact Al _
/-- Where a parser of expressions stands: its word, its nest, its fault. -/
structure PS where
 i:Nat
 nest:Nat
 code:Int
 at_:Int
def noV:Val:=⟨0,0,[]⟩
def Ax:Expr:=.mk 0 [] noV []
def C7 (e a:Int) (S:PS):PS:=if S.code==0 then ⟨S.i,S.nest,e,a⟩ else S
def isM (l:List Tok) (of:Str) (S:PS):Bool:=(((A4 l S.i).kind==5) || ((A4 l S.i).kind==2))&&Fy (A4 l S.i).text of
def A5 (S:PS):PS:=⟨S.i+1,S.nest,S.code,S.at_⟩
def B7 (S:PS):PS:=⟨S.i,S.nest+1,S.code,S.at_⟩
def Hq (S:PS):PS:=⟨S.i,S.nest-1,S.code,S.at_⟩
def Bx (l:List Tok) (s:Str) (S:PS):PS:=if S.code != 0 then S else if ((A4 l S.i).kind != 5) || !((A4 l S.i).text==s) then C7 8 (A4 l S.i).at_ S else A5 S
/-- What stands one nest deeper. -/
structure Fam where
 ei:PS→Expr×PS
 no:PS→Expr×PS
 ne:PS→Expr×PS
def Bb (a:Int) (f:PS→Expr×PS) (S:PS):Expr×PS:=if (S.nest:Int)==30 then (Ax,C7 18 a S) else ((f (B7 S)).1,Hq (f (B7 S)).2)
def Dn (t:Str) (x y:Expr):Expr:=.mk 5 t noV [x,y]
def J2 (l:List Tok) (of:Str) (f:PS→Expr×PS):Nat→Expr×PS→Expr×PS
 | 0,r=>r
 | n+1,r=>if (r.2.code==0)&&isM l of r.2 then J2 l of f n (Dn (A4 l r.2.i).text r.1 (f (A5 r.2)).1,(f (A5 r.2)).2) else r
def F9 (l:List Tok) (of:Str) (f:PS→Expr×PS) (S:PS):Expr×PS:=J2 l of f l.length (f S)
def Mi:Str:=[32,44,32]
def argsF (l:List Tok) (f:PS→Expr×PS):Nat→List Expr×PS→List Expr×PS
 | 0,r=>r
 | n+1,r=>if (r.2.code==0)&&isM l Mi r.2 then argsF l f n (r.1++[(f (A5 r.2)).1],(f (A5 r.2)).2) else r
def Ik (l:List Tok) (f:PS→Expr×PS) (S:PS):List Expr×PS:=argsF l f l.length ([(f S).1],(f S).2)
def Ke (l:List Tok) (a:Int) (f:PS→Expr×PS) (S:PS):List Expr×PS:=if (S.nest:Int)==30 then ([],C7 18 a S) else ((Ik l f (B7 S)).1,Hq (Ik l f (B7 S)).2)
def Bu:Str:=[41]
def Br (l:List Tok) (D:Fam) (S:PS):List Expr×PS:=Ke l (A4 l S.i).at_ D.ei (A5 S)
def I6 (l:List Tok) (D:Fam) (t:Tok) (S:PS):Expr×PS:=
 if Ce t.text<0 then (Ax,C7 9 t.at_ S)
 else if ((Bx l Bu (Br l D S).2).code==0) && !(((Br l D S).1.length:Int)==Ce t.text) then (Ax,C7 8 t.at_ (Bx l Bu (Br l D S).2))
 else (.mk 6 t.text noV (Br l D S).1,Bx l Bu (Br l D S).2)
def orT:Str:=[32,111,114,32]
def vp:Str:=[32,97,110,100,32]
def pg:Str:=[32,110,111,116,32]
def Ya:Str:=[32,61,32,33,61,32,60,32,60,61,32,62,32,62,61,32]
def vq:Str:=[32,43,32,45,32,38,32]
def bg:Str:=[32,42,32,47,32,37,32]
def ph:Str:=[32,45,32]
def opT:Str:=[32,40,32]
def Wo:Str:=[32,116,114,117,101,32,102,97,108,115,101,32,110,117,108,108,32]
def G6 (v:Val):Expr:=.mk 1 [] v []
def Eo (l:List Tok) (D:Fam) (S:PS):Expr×PS:=
 if S.code != 0 then (Ax,S)
 else if ((A4 l S.i).kind==3) || isM l Wo S then (G6 (Dy (A4 l S.i).text).1,A5 S)
 else if (A4 l S.i).kind==4 then (G6 ⟨2,0,(A4 l S.i).text.take 200⟩,A5 S)
 else if (A4 l S.i).kind==1 then (if isM l opT (A5 S) then I6 l D (A4 l S.i) (A5 S) else (Bj (A4 l S.i).text,A5 S))
 else if isM l opT S then ((Bb (A4 l S.i).at_ D.ei (A5 S)).1,Bx l Bu (Bb (A4 l S.i).at_ D.ei (A5 S)).2)
 else (Ax,C7 8 (A4 l S.i).at_ S)
def Cy (op:Int) (x:Expr):Expr:=.mk op [] noV [x]
def Lu (l:List Tok) (D:Fam) (S:PS):Expr×PS:=if !isM l ph S then Eo l D S else (Cy 3 (Bb (A4 l S.i).at_ D.ne (A5 S)).1,(Bb (A4 l S.i).at_ D.ne (A5 S)).2)
def V1 (l:List Tok) (D:Fam):PS→Expr×PS:=F9 l bg (Lu l D)
def Ct (l:List Tok) (D:Fam):PS→Expr×PS:=F9 l vq (V1 l D)
def D6 (l:List Tok) (D:Fam) (S:PS):Expr×PS:=
 if ((Ct l D S).2.code != 0) || !isM l Ya (Ct l D S).2 then Ct l D S
 else (Dn (A4 l (Ct l D S).2.i).text (Ct l D S).1 (Ct l D (A5 (Ct l D S).2)).1,(Ct l D (A5 (Ct l D S).2)).2)
def Lv (l:List Tok) (D:Fam) (S:PS):Expr×PS:=if !isM l pg S then D6 l D S else (Cy 4 (Bb (A4 l S.i).at_ D.no (A5 S)).1,(Bb (A4 l S.i).at_ D.no (A5 S)).2)
def V2 (l:List Tok) (D:Fam):PS→Expr×PS:=F9 l vp (Lv l D)
def Q3 (l:List Tok) (D:Fam):PS→Expr×PS:=F9 l orT (V2 l D)
def Cn (l:List Tok):Nat→Fam
 | 0=>⟨fun S=>(Ax,S),fun S=>(Ax,S),fun S=>(Ax,S)⟩
 | d+1=>⟨Q3 l (Cn l d),Lv l (Cn l d),Lu l (Cn l d)⟩

/-! What is so of them. -/
theorem Hj:∀{n m:Nat},n≤m→∀{e:Expr},okE n e→okE m e
 | 0,_,_,_,h=>h.elim
 | n+1,0,h,_,_=>by omega
 | n+1,m+1,h,_,ho=>⟨ho.1,ho.2.1,fun y hy=>Hj (by omega) (ho.2.2 y hy)⟩
theorem U1:sizeE Ax=1:=rfl
theorem ABq (t:Str) (a b:Expr):sizeE (Dn t a b)=1+(sizeE a+(sizeE b+0)):=by rw [Dn,sizeE,Cs,Cs,Cs]
theorem ABr (o:Int) (a:Expr):sizeE (Cy o a)=1+(sizeE a+0):=by rw [Cy,sizeE,Cs,Cs]
theorem gm:∀a b:List Expr,Cs (a++b)=Cs a+Cs b
 | [],b=>by rw [Fi,Cs,Bm]
 | e::r,b=>by rw [Ey,Cs,Cs,gm r b,Is]
theorem bh {n:Nat} (h:1≤n):okE n Ax:=Hj h ⟨by decide,by decide,fun y hy=>by cases hy⟩
theorem Q4 {n:Nat} (h:1≤n) (v:Val):okE n (G6 v):=Hj h ⟨by simp [G6,Expr.text],by simp [G6,Expr.kids],fun y hy=>by cases hy⟩
structure Fact (l:List Tok) (S:PS) (r:Expr×PS):Prop where
 le:S.i≤r.2.i
 lt:r.2.i<l.length
 nest:r.2.nest=S.nest
 ok:okE (2*(r.2.i-S.i)+1) r.1
 sz:sizeE r.1≤2*(r.2.i-S.i)+1
def Co (l:List Tok) (n:Nat) (f:PS→Expr×PS):Prop:=∀S,S.i<l.length→S.nest=n→Fact l S (f S)
theorem TokEnd.step {l:List Tok} (h:TokEnd l) {i:Nat} (hi:i<l.length) (hk:(A4 l i).kind≠0):i+1<l.length:=by
 obtain ⟨L,z,rfl,hz,_⟩:=h.split
 rcases Aw i L.length with h1|h1
 ·simp only [Ai,Aq,B9];omega
 have:i=L.length:=by simp only [Ai,Aq,B9] at hi;omega
 subst this
 exact absurd (by unfold A4;simpa using hz) hk
theorem AFf {l:List Tok} {of:Str} {S:PS} (h:isM l of S=true):(A4 l S.i).kind≠0:=by
 unfold isM at h
 simp only [Ah,Cz,beq_iff_eq] at h
 omega
theorem TokEnd.stepIs {l:List Tok} (h:TokEnd l) {of:Str} {S:PS} (hi:S.i<l.length) (hk:isM l of S=true):(A5 S).i<l.length:=h.step hi (AFf hk)
theorem failM_i {e a:Int} {S:PS}:(C7 e a S).i=S.i∧(C7 e a S).nest=S.nest:=by unfold C7;split<;>exact ⟨rfl,rfl⟩
theorem Zb {l:List Tok} (hl:TokEnd l) {s:Str} {S:PS} (hi:S.i<l.length):S.i≤(Bx l s S).i∧(Bx l s S).i<l.length∧(Bx l s S).nest=S.nest:=by
 unfold Bx
 split
 ·exact ⟨Ae _,hi,rfl⟩
 split
 ·rw [failM_i.1,failM_i.2];exact ⟨Ae _,hi,rfl⟩
 rename_i h
 simp only [Cz,bne_iff_ne,ne_eq,not_or,Classical.not_not] at h
 have:=hl.step hi (by rw [h.1];decide)
 exact ⟨I4 _,this,rfl⟩
theorem V3 {l:List Tok} {S S0:PS} (h0:S0.i≤S.i) (h1:S.i<l.length) (h2:S.nest=S0.nest) (e a:Int):Fact l S0 (Ax,C7 e a S):=by
 refine ⟨?_,?_,?_,bh (by omega),by rw [U1];omega⟩
 ·show _≤(C7 e a S).i;rw [failM_i.1];exact h0
 ·show (C7 e a S).i<_;rw [failM_i.1];exact h1
 show (C7 e a S).nest=_;rw [failM_i.2];exact h2
/-- A state of a loop of marks. -/
structure LeftAt (l:List Tok) (of:Str) (f:PS→Expr×PS) (S:PS) (r:Expr×PS):Prop where
 fact:Fact l S r
 eq:∃n,l.length≤r.2.i+n∧F9 l of f S=J2 l of f n r
theorem LeftAt.start {l:List Tok} {of:Str} {f:PS→Expr×PS} {S:PS} (h:Fact l S (f S)):LeftAt l of f S (f S):=⟨h,l.length,by omega,rfl⟩
theorem Zc {l:List Tok} {S:PS} {r q:Expr×PS} (h:Fact l S r) (hq:Fact l (A5 r.2) q) (hl:TokEnd l):Fact l S (Dn (A4 l r.2.i).text r.1 q.1,q.2):=by
 have h1:=h.le
 have h2:r.2.i+1≤q.2.i:=hq.le
 refine ⟨by show S.i≤q.2.i;omega,hq.lt,by show q.2.nest=S.nest;rw [hq.nest];exact h.nest,?_,?_⟩
 rotate_left
 ·have s1:=h.sz
  have s2:sizeE q.1≤2*(q.2.i-(r.2.i+1))+1:=hq.sz
  show sizeE (Dn _ r.1 q.1)≤2*(q.2.i-S.i)+1
  rw [ABq]
  omega
 show okE (2*(q.2.i-S.i)+1) _
 refine ⟨hl.text _,by simp [Dn,Expr.kids],fun y hy=>?_⟩
 have hy':y=r.1∨y=q.1:=by simpa [Dn,Expr.kids] using hy
 rcases hy' with rfl|rfl
 ·exact Hj (by omega) h.ok
 exact Hj (by show 2*(q.2.i-(r.2.i+1))+1≤_;omega) hq.ok
theorem LeftAt.on {l:List Tok} {of:Str} {f:PS→Expr×PS} {S:PS} {r:Expr×PS} (hl:TokEnd l) (h:LeftAt l of f S r) (hc:((r.2.code==0)&&isM l of r.2)=true) (hf:Co l S.nest f):(A5 r.2).i<l.length∧Fact l (A5 r.2) (f (A5 r.2))∧LeftAt l of f S (Dn (A4 l r.2.i).text r.1 (f (A5 r.2)).1,(f (A5 r.2)).2):=by
 have hi:=hl.stepIs h.fact.lt (Qq.1 hc).2
 have hq:=hf (A5 r.2) hi h.fact.nest
 obtain ⟨n,hn,e⟩:=h.eq
 have h1:=h.fact.lt
 have h2:r.2.i+1≤(f (A5 r.2)).2.i:=hq.le
 obtain ⟨m,rfl⟩:∃m,n=m+1:=⟨n-1,by omega⟩
 refine ⟨hi,hq,Zc h.fact hq hl,m,by show l.length≤(f (A5 r.2)).2.i+m;omega,?_⟩
 rw [e,J2,if_pos hc]
theorem LeftAt.out {l:List Tok} {of:Str} {f:PS→Expr×PS} {S:PS} {r:Expr×PS} (h:LeftAt l of f S r) (hc:¬((r.2.code==0)&&isM l of r.2)=true):F9 l of f S=r:=by
 obtain ⟨n,hn,e⟩:=h.eq
 have h1:=h.fact.lt
 obtain ⟨m,rfl⟩:∃m,n=m+1:=⟨n-1,by omega⟩
 rw [e,J2,if_neg hc]
theorem pi {l:List Tok} {of:Str} {f:PS→Expr×PS} {S:PS} (hl:TokEnd l) (hf:Co l S.nest f):∀(k:Nat) (r:Expr×PS),l.length-r.2.i≤k→LeftAt l of f S r→Fact l S (F9 l of f S)
 | 0,r,hk,h=>by have:=h.fact.lt;omega
 | k+1,r,hk,h=>by
  by_cases hc:((r.2.code==0)&&isM l of r.2)=true
  ·obtain ⟨h1,h2,h3⟩:=h.on hl hc hf
   have h4:r.2.i+1≤(f (A5 r.2)).2.i:=h2.le
   exact pi hl hf k _ (by show l.length-(f (A5 r.2)).2.i≤k;have:=h.fact.lt;omega) h3
  rw [h.out hc];exact h.fact
theorem Gp {l:List Tok} {of:Str} {f:PS→Expr×PS} {n:Nat} (hl:TokEnd l) (hf:Co l n f):Co l n (F9 l of f):=fun S hi hn=>pi hl (hn ▸ hf) l.length (f S) (by omega) (.start (hf S hi hn))
theorem Mv {l:List Tok} {f:PS→Expr×PS} {S:PS} (a:Int) (hi:S.i<l.length) (hf:S.nest≠30→Co l (S.nest+1) f):Fact l S (Bb a f S):=by
 unfold Bb
 split
 ·exact AIt
 rename_i h
 have h30:S.nest≠30:=fun e=>h (by rw [e];rfl)
 have:=hf h30 (B7 S) hi rfl
 refine ⟨this.le,this.lt,?_,this.ok,this.sz⟩
 show (f (B7 S)).2.nest-1=S.nest
 rw [this.nest]
 rfl
/-- What is so of some kids. -/
structure KFact (l:List Tok) (S:PS) (r:List Expr×PS):Prop where
 le:S.i≤r.2.i
 lt:r.2.i<l.length
 nest:r.2.nest=S.nest
 len:r.1.length≤r.2.i-S.i+1
 ok:∀y∈r.1,okE (2*(r.2.i-S.i)+1) y
 sz:Cs r.1≤2*(r.2.i-S.i)+1
structure ArgsAt (l:List Tok) (f:PS→Expr×PS) (S:PS) (r:List Expr×PS):Prop where
 fact:KFact l S r
 eq:∃n,l.length≤r.2.i+n∧Ik l f S=argsF l f n r
theorem ArgsAt.start {l:List Tok} {f:PS→Expr×PS} {S:PS} (h:Fact l S (f S)):ArgsAt l f S ([(f S).1],(f S).2):=⟨⟨h.le,h.lt,h.nest,by simp,fun y hy=>by rw [C1.1 hy];exact h.ok,by have:=h.sz;show sizeE (f S).1+0≤_;exact this⟩,l.length,by omega,rfl⟩
theorem ArgsAt.on {l:List Tok} {f:PS→Expr×PS} {S:PS} {r:List Expr×PS} (hl:TokEnd l) (h:ArgsAt l f S r) (hc:((r.2.code==0)&&isM l Mi r.2)=true) (hf:Co l S.nest f):(A5 r.2).i<l.length∧Fact l (A5 r.2) (f (A5 r.2))∧ArgsAt l f S (r.1++[(f (A5 r.2)).1],(f (A5 r.2)).2):=by
 have hi:=hl.stepIs h.fact.lt (Qq.1 hc).2
 have hq:=hf (A5 r.2) hi h.fact.nest
 obtain ⟨n,hn,e⟩:=h.eq
 have h1:=h.fact.lt
 have h0:=h.fact.le
 have h2:r.2.i+1≤(f (A5 r.2)).2.i:=hq.le
 obtain ⟨m,rfl⟩:∃m,n=m+1:=⟨n-1,by omega⟩
 refine ⟨hi,hq,⟨by show S.i≤(f (A5 r.2)).2.i;omega,hq.lt,by show (f (A5 r.2)).2.nest=_;rw [hq.nest];exact h.fact.nest,?_,fun y hy=>?_,?_⟩,m,by show l.length≤(f (A5 r.2)).2.i+m;omega,?_⟩
 ·have:=h.fact.len
  show (r.1++_).length≤(f (A5 r.2)).2.i-S.i+1
  simp only [Ai,Aq,B9]
  omega
 ·show okE (2*((f (A5 r.2)).2.i-S.i)+1) y
  rcases Di.1 hy with hy|hy
  ·exact Hj (by omega) (h.fact.ok y hy)
  rw [C1.1 hy]
  exact Hj (by show 2*((f (A5 r.2)).2.i-(r.2.i+1))+1≤_;omega) hq.ok
 ·have s1:=h.fact.sz
  have s2:sizeE (f (A5 r.2)).1≤2*((f (A5 r.2)).2.i-(r.2.i+1))+1:=hq.sz
  show Cs (r.1++[(f (A5 r.2)).1])≤2*((f (A5 r.2)).2.i-S.i)+1
  rw [gm,Cs,Cs]
  omega
 rw [e,argsF,if_pos hc]
theorem ArgsAt.out {l:List Tok} {f:PS→Expr×PS} {S:PS} {r:List Expr×PS} (h:ArgsAt l f S r) (hc:¬((r.2.code==0)&&isM l Mi r.2)=true):Ik l f S=r:=by
 obtain ⟨n,hn,e⟩:=h.eq
 have h1:=h.fact.lt
 obtain ⟨m,rfl⟩:∃m,n=m+1:=⟨n-1,by omega⟩
 rw [e,argsF,if_neg hc]
theorem pj {l:List Tok} {f:PS→Expr×PS} {S:PS} (hl:TokEnd l) (hf:Co l S.nest f):∀(k:Nat) (r:List Expr×PS),l.length-r.2.i≤k→ArgsAt l f S r→KFact l S (Ik l f S)
 | 0,r,hk,h=>by have:=h.fact.lt;omega
 | k+1,r,hk,h=>by
  by_cases hc:((r.2.code==0)&&isM l Mi r.2)=true
  ·obtain ⟨h1,h2,h3⟩:=h.on hl hc hf
   have h4:r.2.i+1≤(f (A5 r.2)).2.i:=h2.le
   exact pj hl hf k _ (by show l.length-(f (A5 r.2)).2.i≤k;have:=h.fact.lt;omega) h3
  rw [h.out hc];exact h.fact
theorem U3 {l:List Tok} {f:PS→Expr×PS} {S:PS} (hl:TokEnd l) (hi:S.i<l.length) (hf:Co l S.nest f):KFact l S (Ik l f S):=pj hl hf l.length _ (by show l.length-(f S).2.i≤_;omega) (.start (hf S hi rfl))
theorem bi {l:List Tok} {f:PS→Expr×PS} {S:PS} (hl:TokEnd l) (a:Int) (hi:S.i<l.length) (hf:S.nest≠30→Co l (S.nest+1) f):KFact l S (Ke l a f S):=by
 unfold Ke
 split
 ·refine ⟨?_,?_,?_,by simp,fun y hy=>(by cases hy),by simp [Cs]⟩
  ·show _≤(C7 _ _ S).i;rw [failM_i.1];exact Ae _
  ·show (C7 _ _ S).i<_;rw [failM_i.1];exact hi
  show (C7 _ _ S).nest=_;rw [failM_i.2]
 rename_i h
 have h30:S.nest≠30:=fun e=>h (by rw [e];rfl)
 have:=U3 (S:=B7 S) hl hi (hf h30)
 refine ⟨this.le,this.lt,?_,this.len,this.ok,this.sz⟩
 show (Ik l f (B7 S)).2.nest-1=S.nest
 rw [this.nest]
 rfl
theorem vr {l:List Tok} {D:Fam} {S:PS} (hl:TokEnd l) (hll:l.length≤1048576) {t:Tok} (ht:t.text.length≤1048576) (hi:(A5 S).i<l.length) (hf:S.nest≠30→Co l (S.nest+1) D.ei):Fact l S (I6 l D t S):=by
 have hk:KFact l (A5 S) (Br l D S):=bi hl _ hi hf
 have h1:S.i+1≤(Br l D S).2.i:=hk.le
 obtain ⟨w1,w2,w3⟩:=Zb (s:=Bu) hl hk.lt
 unfold I6
 split
 ·exact V3 (Ae _) (by show S.i<_;have:S.i+1<l.length:=hi;omega) rfl _ _
 split
 ·exact V3 (show S.i≤(Bx l Bu (Br l D S).2).i by omega) w2 (w3.trans hk.nest) 8 t.at_
 refine ⟨by show S.i≤(Bx l Bu (Br l D S).2).i;omega,w2,w3.trans hk.nest,?_,?_⟩
 rotate_left
 ·have s1:Cs (Br l D S).1≤2*((Br l D S).2.i-(S.i+1))+1:=hk.sz
  show sizeE (.mk 6 t.text noV (Br l D S).1)≤2*((Bx l Bu (Br l D S).2).i-S.i)+1
  rw [sizeE]
  omega
 show okE (2*((Bx l Bu (Br l D S).2).i-S.i)+1) _
 refine ⟨ht,?_,fun y hy=>?_⟩
 ·have h5:(Br l D S).1.length≤(Br l D S).2.i-(A5 S).i+1:=hk.len
  have h6:=hk.lt
  show (Br l D S).1.length≤1048576
  omega
 exact Hj (by show 2*((Br l D S).2.i-(S.i+1))+1≤_;omega) (hk.ok y hy)
theorem vt {l:List Tok} {D:Fam} {n:Nat} (hl:TokEnd l) (hll:l.length≤1048576) (hf:n≠30→Co l (n+1) D.ei):Co l n (Eo l D):=by
 intro S hi hn
 subst hn
 unfold Eo
 have leaf:∀e:Expr,okE 1 e→sizeE e=1→(A4 l S.i).kind≠0→Fact l S (e,A5 S):=fun e he hs hk=>⟨I4 _,hl.step hi hk,rfl,Hj (by omega) he,by show sizeE e≤_;omega⟩
 split
 ·exact APn
 split
 ·rename_i h
  refine leaf _ (Q4 (Ae _) _) rfl ?_
  rcases Bool.or_eq_true_iff.1 h with h|h
  ·rw [beq_iff_eq] at h;rw [h];decide
  exact AFf h
 split
 ·rename_i h
  rw [beq_iff_eq] at h
  exact leaf _ (Q4 (Ae _) _) rfl (by rw [h];decide)
 split
 ·rename_i h
  rw [beq_iff_eq] at h
  have hk:(A4 l S.i).kind≠0:=by rw [h];decide
  split
  ·rename_i h2
   have hi1:(A5 S).i<l.length:=hl.step hi hk
   have:=vr (S:=A5 S) (D:=D) hl hll (hl.text S.i) (hl.stepIs hi1 h2) hf
   have h3:S.i+1≤(I6 l D (A4 l S.i) (A5 S)).2.i:=this.le
   have h4:sizeE (I6 l D (A4 l S.i) (A5 S)).1≤2*((I6 l D (A4 l S.i) (A5 S)).2.i-(S.i+1))+1:=this.sz
   exact ⟨by omega,this.lt,this.nest,Hj (by show 2*((I6 l D (A4 l S.i) (A5 S)).2.i-(S.i+1))+1≤_;omega) this.ok,by omega⟩
  exact leaf _ (ou _ (hl.text _)) rfl hk
 split
 ·rename_i h
  have hi1:(A5 S).i<l.length:=hl.stepIs hi h
  have:=Mv (S:=A5 S) (l:=l) (f:=D.ei) (A4 l S.i).at_ hi1 hf
  obtain ⟨w1,w2,w3⟩:=Zb (s:=Bu) hl this.lt
  have h3:S.i+1≤(Bb (A4 l S.i).at_ D.ei (A5 S)).2.i:=this.le
  have h4:sizeE (Bb (A4 l S.i).at_ D.ei (A5 S)).1≤2*((Bb (A4 l S.i).at_ D.ei (A5 S)).2.i-(S.i+1))+1:=this.sz
  refine ⟨by show S.i≤(Bx l Bu _).i;omega,w2,w3.trans this.nest,Hj ?_ this.ok,by show sizeE (Bb (A4 l S.i).at_ D.ei (A5 S)).1≤2*((Bx l Bu (Bb (A4 l S.i).at_ D.ei (A5 S)).2).i-S.i)+1;omega⟩
  show 2*((Bb (A4 l S.i).at_ D.ei (A5 S)).2.i-(S.i+1))+1≤2*((Bx l Bu (Bb (A4 l S.i).at_ D.ei (A5 S)).2).i-S.i)+1
  omega
 exact AIt
theorem Zd {l:List Tok} {S:PS} {r:Expr×PS} (h:Fact l (A5 S) r) (op:Int):Fact l S (Cy op r.1,r.2):=by
 have h1:S.i+1≤r.2.i:=h.le
 refine ⟨by show S.i≤r.2.i;omega,h.lt,h.nest,?_,?_⟩
 rotate_left
 ·have s1:sizeE r.1≤2*(r.2.i-(S.i+1))+1:=h.sz
  show sizeE (Cy op r.1)≤2*(r.2.i-S.i)+1
  rw [ABr]
  omega
 show okE (2*(r.2.i-S.i)+1) _
 refine ⟨by simp [Cy,Expr.text],by simp [Cy,Expr.kids],fun y hy=>?_⟩
 have hy':y=r.1:=by simpa [Cy,Expr.kids] using hy
 subst hy'
 exact Hj (by show 2*(r.2.i-(S.i+1))+1≤_;omega) h.ok
theorem Ss {l:List Tok} {D:Fam} {n:Nat} (hl:TokEnd l) (hll:l.length≤1048576) (hf:n≠30→Co l (n+1) D.ei) (hg:n≠30→Co l (n+1) D.ne):Co l n (Lu l D):=by
 intro S hi hn
 unfold Lu
 split
 ·exact vt hl hll hf S hi hn
 rename_i h
 subst hn
 exact Zd (Mv (S:=A5 S) _ (hl.stepIs hi (by simpa using h)) hg) 3
theorem gn {l:List Tok} {D:Fam} {n:Nat} (hl:TokEnd l) (hll:l.length≤1048576) (hf:n≠30→Co l (n+1) D.ei) (hg:n≠30→Co l (n+1) D.ne):Co l n (Ct l D):=Gp hl (Gp hl (Ss hl hll hf hg))
theorem Tc {l:List Tok} {D:Fam} {n:Nat} (hl:TokEnd l) (hll:l.length≤1048576) (hf:n≠30→Co l (n+1) D.ei) (hg:n≠30→Co l (n+1) D.ne):Co l n (D6 l D):=by
 intro S hi hn
 have h1:=gn hl hll hf hg S hi hn
 unfold D6
 split
 ·exact h1
 rename_i h
 simp only [Cz,not_or,Tk,Tj] at h
 exact Zc h1 (gn hl hll hf hg _ (hl.stepIs h1.lt h.2) (h1.nest.trans hn)) hl
theorem Wp {l:List Tok} {D:Fam} {n:Nat} (hl:TokEnd l) (hll:l.length≤1048576) (hf:n≠30→Co l (n+1) D.ei) (hg:n≠30→Co l (n+1) D.ne) (hh:n≠30→Co l (n+1) D.no):Co l n (Lv l D):=by
 intro S hi hn
 unfold Lv
 split
 ·exact Tc hl hll hf hg S hi hn
 rename_i h
 subst hn
 exact Zd (Mv (S:=A5 S) _ (hl.stepIs hi (by simpa using h)) hh) 4
theorem Su {l:List Tok} (hl:TokEnd l) (hll:l.length≤1048576):∀(d n:Nat),n+d=31→n≠31→Co l n (Cn l d).ei∧Co l n (Cn l d).no∧Co l n (Cn l d).ne
 | 0,n,h,h2=>by omega
 | d+1,n,h,_=>by
  have ih:n≠30→_:=fun h30=>Su hl hll d (n+1) (by omega) (by omega)
  have hn:=Wp (D:=Cn l d) (n:=n) hl hll (fun h=>(ih h).1) (fun h=>(ih h).2.2) (fun h=>(ih h).2.1)
  exact ⟨Gp hl (Gp hl hn),hn,Ss hl hll (fun h=>(ih h).1) (fun h=>(ih h).2.2)⟩
mutual
def depthE:Expr→Nat
 | .mk _ _ _ k=>Ff k+1
def Ff:List Expr→Nat
  | []=>0
  | e::r=>max (depthE e) (Ff r)
 end
mutual
def E5 (p:Expr→Bool):Expr→Bool
 | .mk o t v k=>p (.mk o t v k)&&pk p k
def pk (p:Expr→Bool):List Expr→Bool
  | []=>true
  | e::r=>E5 p e&&pk p r
 end
mutual
def bj:Expr→List Expr
 | .mk o t v k=>.mk o t v k::Wq k
def Wq:List Expr→List Expr
  | []=>[]
  | e::r=>bj e++Wq r
 end
theorem Sv (e:Expr):depthE e=Ff e.kids+1:=by cases e;rfl
theorem Hl (p:Expr→Bool) (e:Expr):E5 p e=(p e&&pk p e.kids):=by cases e;rfl
theorem Td:∀a b,Ff (a++b)=max (Ff a) (Ff b)
 | [],b=>by rw [Fi,Ff,Nat.zero_max]
 | e::r,b=>by rw [Ey,Ff,Ff,Td r b,Nat.max_assoc]
theorem V4:∀a b,Cs (a++b)=Cs a+Cs b
 | [],b=>by rw [Fi,Cs,Bm]
 | e::r,b=>by rw [Ey,Cs,Cs,V4 r b,Is]
theorem Xt (l:List Expr) {x:Nat} (h:x<l.length):Ff (l.take (x+1))=max (Ff (l.take x)) (depthE l[x]):=by
 rw [Ld h,Td,Ff,Ff,Nat.max_zero]
theorem vu (l:List Expr) {x:Nat} (h:x<l.length):Cs (l.take (x+1))=Cs (l.take x)+sizeE l[x]:=by
 rw [Ld h,V4,Cs,Cs,Nat.add_zero]
theorem Gf (p:Expr→Bool):∀l:List Expr,pk p l=true↔∀y∈l,E5 p y=true
 | []=>by simp [pk]
 | e::r=>by rw [pk,Ah,Gf p r];simp
mutual
theorem Il:∀(d:Int) (e:Expr),(Bw d e).length=sizeE e
 | d,.mk o t v k=>by rw [Bw,sizeE,Aq,bn (d+1) k,Sf]
theorem bn:∀(d:Int) (l:List Expr),(Bq d l).length=Cs l
  | d,[]=>rfl
  | d,e::r=>by rw [Bq,Cs,Ai,Il d e,bn d r]
 end
mutual
theorem bo:∀(d:Int) (e:Expr),(Bw d e).map (·.2)=bj e
 | d,.mk o t v k=>by rw [Bw,bj,Bs,bq (d+1) k]
theorem bq:∀(d:Int) (l:List Expr),(Bq d l).map (·.2)=Wq l
  | d,[]=>rfl
  | d,e::r=>by rw [Bq,Wq,Cu,bo d e,bq d r]
 end
mutual
theorem gq (p:Expr→Bool):∀e:Expr,(bj e).all p=E5 p e
 | .mk o t v k=>by rw [bj,E5,List.all_cons,br p k]
theorem br (p:Expr→Bool):∀l:List Expr,(Wq l).all p=pk p l
  | []=>rfl
  | e::r=>by rw [Wq,pk,List.all_append,gq p e,br p r]
 end
theorem ABs (p:Expr→Bool) (d:Int) (e:Expr):((Bw d e).all fun it=>p it.2)=E5 p e:=by
 rw [←gq p e,←bo d e,List.all_map]
 rfl
def H9 (m:Int) (L:List (Int×Expr)):Int:=L.foldl (fun m it=>max m it.1) m
mutual
theorem bt:∀(d m:Int) (e:Expr),H9 m (Bw d e)=max m (d-1+depthE e)
 | d,m,.mk o t v k=>by
  rw [Bw,depthE]
  show H9 (max m d) (Bq (d+1) k)=_
  rw [bu (d+1) (max m d) k (by omega)]
  omega
theorem bu:∀(d m:Int) (l:List Expr),d-1≤m→H9 m (Bq d l)=max m (d-1+Ff l)
  | d,m,[],h=>by
    rw [Bq,Ff]
    show m=_
    omega
  | d,m,e::r,h=>by
    rw [Bq,Ff]
    unfold H9
    rw [jx]
    show H9 (H9 m (Bw d e)) (Bq d r)=_
    rw [bt d m e,bu d _ r (by omega)]
    omega
 end
theorem Xu (e:Expr):H9 0 (Bw 1 e)=depthE e:=by rw [bt];omega
theorem pm:∀(L:List (Int×Expr)) (m b:Int),m≤b→(H9 m L≤b↔∀it∈L,it.1≤b)
 | [],m,b,h=>by simp [H9,h]
 | it::r,m,b,h=>by
  show H9 (max m it.1) r≤b↔_
  rcases Decidable.em (it.1≤b) with h1|h1
  ·rw [pm r (max m it.1) b (by omega)]
   simp [h1]
  constructor
  ·intro h2
   have:∀(r:List (Int×Expr)) (m:Int),m≤H9 m r:=by
    intro r
    induction r with
    | nil=>intro m;exact Int.le_refl _
    | cons a r ih=>intro m;have:=ih (max m a.1);show m≤H9 (max m a.1) r;omega
   have:=this r (max m it.1)
   omega
  intro h2
  exact absurd (h2 it (by simp)) h1
theorem AJh (e:Expr) {b:Nat}:(∀it∈Bw 1 e,it.1≤(b:Int))↔depthE e≤b:=by
 rw [←pm (Bw 1 e) 0 b (by omega),Xu]
 omega
def Fb (e:Expr):Bool:=(decide (depthE e≤30)&&decide (sizeE e≤300))&&E5 Cl e
theorem Kf (e:Expr):Da e=Fb e:=by
 have hpos:1≤sizeE e:=by rw [Ij];omega
 rw [N3]
 unfold Da Fb
 rw [Ay]
 simp only [Ah,decide_eq_true_eq,Pi,Il]
 rw [←AJh e,←ABs Cl 1 e,Ay]
 constructor
 ·intro h
  have key:∀(k:Nat) (hk:k<(Bw 1 e).length),Cl (Bw 1 e)[k].2=true∧(Bw 1 e)[k].1≤30∧(k:Int)+1≤300:=fun k hk=>by
   have:=h k (by rw [Il] at hk;exact hk)
   rw [lm (Ak hk)] at this
   simp only [I9,Hb,Tj,decide_eq_false_iff_not] at this
   exact ⟨this.1.1,by have:=this.1.2;omega,by have:=this.2;omega⟩
  refine ⟨⟨fun it hit=>?_,?_⟩,fun it hit=>?_⟩
  ·obtain ⟨k,hk,rfl⟩:=Qy hit
   exact (key k hk).2.1
  ·have:=(key (sizeE e-1) (by rw [Il];omega)).2.2
   omega
  obtain ⟨k,hk,rfl⟩:=Qy hit
  exact (key k hk).1
 rintro ⟨⟨h1,h2⟩,h3⟩ k hk
 have hk':k<(Bw 1 e).length:=by rw [Il];exact hk
 rw [lm (Ak hk')]
 have a1:=h1 _ (D4 hk')
 have a3:=h3 _ (D4 hk')
 have a3':Cl (Bw 1 e)[k].2=true:=a3
 rw [a3']
 simp only [I9,Hb,Hu,decide_eq_false_iff_not]
 exact ⟨⟨trivial,by have:(Bw 1 e)[k].1≤(30:Int):=a1;omega⟩,by omega⟩
/-- Its number is one of 64 bits. -/
def J0 (e:Expr):Bool:=decide (-9223372036854775808≤e.val.n)&&decide (e.val.n≤9223372036854775807)
/-! Names. -/
mutual
def AN3 (s:Str) (y:Expr):Expr→Expr
 | .mk o t v k=>if (o==2)&&(t==s) then y else .mk o t v (AJi s y k)
def AJi (s:Str) (y:Expr):List Expr→List Expr
  | []=>[]
  | e::r=>AN3 s y e::AJi s y r
 end
mutual
def eqE:Expr→Expr→Bool
 | .mk o t v k,.mk o' t' v' k'=>((((o==o')&&(t==t'))&&((v.kind==v'.kind&&v.n==v'.n)&&v.s==v'.s)))&&eqL k k'
def eqL:List Expr→List Expr→Bool
  | [],[]=>true
  | e::r,e'::r'=>eqE e e'&&eqL r r'
  | _,_=>false
 end
theorem AFg (x y:Expr):eqE x y=((((x.op==y.op)&&(x.text==y.text))&&((x.val.kind==y.val.kind&&x.val.n==y.val.n)&&x.val.s==y.val.s))&&eqL x.kids y.kids):=by
 cases x;cases y;rw [eqE];rfl
mutual
theorem V5:∀x y:Expr,eqE x y=true↔x=y
 | .mk o t v k,.mk o' t' v' k'=>by
  rw [eqE]
  simp only [Ah,beq_iff_eq,Oa k k',Expr.mk.injEq]
  constructor
  ·rintro ⟨⟨⟨rfl,rfl⟩,⟨h1,h2⟩,h3⟩,rfl⟩
   refine ⟨rfl,rfl,?_,rfl⟩
   cases v;cases v'
   simp_all
  rintro ⟨rfl,rfl,rfl,rfl⟩
  exact ⟨⟨⟨rfl,rfl⟩,⟨rfl,rfl⟩,rfl⟩,rfl⟩
theorem Oa:∀x y:List Expr,eqL x y=true↔x=y
  | [],[]=>by simp [eqL]
  | [],e::r=>by simp [eqL]
  | e::r,[]=>by simp [eqL]
  | e::r,e'::r'=>by rw [eqL,Ah,V5 e e',Oa r r',Qs]
 end
theorem AJj:∀{x y:List Expr},eqL x y=true→x.length=y.length:=fun h=>by rw [(Oa _ _).1 h]
theorem bv (x:Expr):eqE x x=true:=(V5 x x).2 rfl
/-! A node by itself, and marks. -/
theorem Kg {of:Str} {ws:List Str} (h:of=Nj ws) (hp:∀w∈ws,(32:UInt8)∉w) (s:Str):Fy s of=(!(s==[])&&ws.contains s):=by
 unfold Fy
 rw [be]
 cases hb:s.contains 32 with
 | false =>
  have h2:(32:UInt8)∉s:=by simpa using hb
  rw [h,Nk s h2 ws hp,N5,jt]
  congr 1
  rw [List.contains_eq_any_beq]
  congr 1
  funext w
  rw [N3,beq_iff_eq,beq_iff_eq]
  exact eq_comm
 | true =>
  have h2:(32:UInt8)∈s:=by simpa using hb
  have h3:ws.contains s=false:=by
   rw [Qr]
   intro h4
   exact hp s (by simpa using h4) h2
  rw [h3]
  simp
def levels:List (List Str):=[[[111,114]],[[97,110,100]],[],[[61],[33,61],[60],[60,61],[62],[62,61]],[[43],[45],[38]],[[42],[47],[37]]]
def B8 (s:Str):Int:=match levels.findIdx? (fun l=>l.contains s) with|some i=>i|none => -1
def Wr:List Str:=[[111,114],[],[97,110,100],[],[61],[33,61],[60],[60,61],[62],[62,61],[],[43],[45],[38],[],[42],[47],[37]]
theorem vw:Sr=Nj Wr:=by kernel_rfl
theorem pt:∀w∈Wr,(32:UInt8)∉w:=by decide
theorem vx (s:Str):Fy s Sr=decide (0≤B8 s):=by
 rw [Kg vw pt s]
 have h1:decide (0≤B8 s)=levels.any (fun l=>l.contains s):=by
  unfold B8
  cases h:levels.findIdx? (fun l=>l.contains s) with
  | some i =>
   have:levels.any (fun l=>l.contains s)=true:=by
    have:=AE0.1 h
    obtain ⟨hi,hp,_⟩:=this
    exact Zu.2 ⟨_,D4 hi,hp⟩
   rw [this]
   simp
  | none =>
   have:=t6.1 h
   have e:levels.any (fun l=>l.contains s)=false:=by
    rw [jv]
    intro l hl
    rw [this l hl]
    simp
   rw [e]
   rfl
 rw [h1]
 by_cases h0:s=[]
 ·subst h0;rfl
 have:(s==[])=false:=by simpa using h0
 rw [this,N5,D0]
 simp [levels,Wr,h0,sm]
def V6 (e:Expr):Bool:=
 if e.op==1 then ((Dr e.val&&decide (0≤e.val.n))&&(e.text==[]))&&((e.kids.length:Int)==0)
 else if !(Ls e.val) then false
 else if e.op==2 then H8 e.text&&((e.kids.length:Int)==0)
 else if e.op==3 || e.op==4 then (e.text==[])&&((e.kids.length:Int)==1)
 else if e.op==5 then decide (0≤B8 e.text)&&((e.kids.length:Int)==2)
 else if e.op==6 then Ce e.text==(e.kids.length:Int)
 else false
theorem Lw (e:Expr):Cl e=V6 e:=by
 unfold Cl V6
 rw [vx,Hi]
 cases Ls e.val<;>simp
/-! What is wide. -/
/-! What is printed of columns, word by word. -/
theorem vy {k:Int} (h1:1≤k) (h3:k≤3):k=1∨k=2∨k=3:=by omega
def ktT (t:Tok):Int×Str:=(t.kind,t.text)
/-! What is printed of a schema is read. -/
theorem ABt {k:Int} (h1:1≤k) (h3:k≤3):Kd (Av k)=k:=by
 rcases vy h1 h3 with rfl|rfl|rfl<;>kernel_rfl
/-! What went and came, taken back: the same columns. -/
set_option maxRecDepth 8000
/-! The signs have as many as the nodes have kids. -/
/-! More columns. -/
/-! A tree in a column's place. -/
set_option maxRecDepth 4000
abbrev pr (l:List Tok) (S:PS):AObj:=.cells 223 [.slice false 3 (l.map En),A7 (S.i:Int),A7 (S.nest:Int),A7 S.code,A7 S.at_]
theorem Dz {n:Nat} {l:List Tok} {S:PS}:ObjLow n (pr l S):=by
 show ∀y∈[AV.slice false 3 (l.map En),A7 (S.i:Int),A7 (S.nest:Int),A7 S.code,A7 S.at_],Low n y
 intro y hy
 simp only [C9,Hc,or_false] at hy
 rcases hy with rfl|rfl|rfl|rfl|rfl
 ·simp [or_imp,forall_and]
 all_goals simp
theorem Nl (o:Int) (t:Str) (v:Val):Le (.agg [A7 o,Ac t,A7 v.kind,A7 v.n,Ac v.s,.nil]) (Aj (.mk o t v [])):=by
 rw [Ad]
 refine .agg _ _ rfl (by simp [AV.one,Value.oneCell',sv]) fun i y y' h1 h2=>?_
 match i with
 | 0=>simp at h1 h2;subst h1;subst h2;exact .inl rfl
 | 1=>simp at h1 h2;subst h1;subst h2;exact .inl rfl
 | 2=>simp at h1 h2;subst h1;subst h2;exact .inl rfl
 | 3=>simp at h1 h2;subst h1;subst h2;exact .inl rfl
 | 4=>simp at h1 h2;subst h1;subst h2;exact .inl rfl
 | 5=>simp at h1 h2;subst h1;subst h2;exact .inr ⟨rfl,6,rfl⟩
 | i+6=>simp at h1
theorem Kh:Le (.agg [A7 0,Ac [],A7 0,A7 0,Ac [],.nil]) (Aj Ax):=Nl 0 [] noV
theorem AQg (l:List Tok) (S:PS) (o:Nat) (Hp:List AObj) (ho:Hp[o]? = some (pr l S)) (hi:S.i<l.length):AFun Tryz.prog 257 [.ptr o 0] Hp (En (A4 l S.i)):=by
 refine B0 [.cell 2 59] [0] Tryz.func257 Tryz.ntmps257 (fun d=>?_)
 refine AP5 ?_;refine Z19 ?_
 refine Am (h:=An ho) (hr:=?_)
 refine Z19 ?_
 refine Am (h:=An ho) (hr:=?_)
 refine Er ?_
 refine A3 (h:=B2 (S.i) (En (A4 l S.i)) (fun _=>Ez hi)) (hr:=?_)
 refine A3 ?_;exact AMb

theorem pu (l:List Tok) (S:PS) (of:Str) (o:Nat) (Hp:List AObj) (ho:Hp[o]? = some (pr l S)) (hi:S.i<l.length) (hl:TokEnd l) (hof:of.length≤1048576):AFun Tryz.prog 244 [.ptr o 0,Ac of] Hp (Bz (isM l of S)):=by
 refine B0 [.tmp 4] [0,1] Tryz.func244 Tryz.ntmps244 (fun d=>?_)
 refine Z63 ?_;refine AMa ?_;refine Z11 ?_;refine A2 [1,5] ?_;refine Z1 ?_;refine uj ?_;refine uj ?_;refine D9 Tryz.call144 (fun hB=>AQe (A4 l S.i).text of (hl.text _) hof _) ?_;exact AIi

theorem AFh (l:List Tok) (S:PS) (o:Nat) (Hp:List AObj) (ho:Hp[o]? = some (pr l S)) (hi:S.i<l.length) (hll:l.length≤1048576):ACall Tryz.prog 245 [.ptr o 0] Hp (fun r H'=>r=En (A4 l S.i)∧H'=Hp.set o (pr l (A5 S))):=by
 refine B0 [.cell 2 59] [0] Tryz.func245 Tryz.ntmps245 (fun d=>?_)
 refine Z43 ?_;refine AMa ?_;refine Z92 ?_;refine Z16 ?_
 refine A3 (h:=An ho) (hr:=?_)
 refine Z7 ?_
 refine Cv jS ho ?_ ?_
 ·simp
 refine ue ?_;exact AMk

theorem ABu (l:List Tok) (S:PS) (e a:Int) (o:Nat) (Hp:List AObj) (ho:Hp[o]? = some (pr l S)):ACall Tryz.prog 217 [.ptr o 0,A7 e,A7 a] Hp (fun r H'=>r=Aj Ax∧H'=Hp.set o (pr l (C7 e a S))):=by
 refine B0 [.cell 6 69] [0,1,2] Tryz.func217 Tryz.ntmps217 (fun d=>?_)
 refine AIm ?_;refine Z42 ?_
 refine A3 (h:=An ho) (hr:=?_)
 refine A3 ?_;refine A2 [0,1,2,6,12] ?_
 refine A6 (fun ht12=>?_) (fun ht12=>?_)
 ·have e:C7 e a S=⟨S.i,S.nest,e,a⟩:=if_pos ht12
  refine Z15 ?_;refine ef ?_;refine Z0 ?_
  refine Cv jS ho ?_ ?_
  ·simp
  refine A2 [6] ?_;refine Ig ?_;refine Z27 ?_;refine Ga 19 _ Kh ?_;refine AB5 ?_;exact Ab (Ao (B5 jA jS)) ⟨rfl,by rw [e]⟩ (hlow:=At _ Ax)
 have e:C7 e a S=S:=if_neg (by rw [ht12];simp)
 refine Z4 ?_;refine Z27 ?_;refine Ga 19 _ Kh ?_;refine AB5 ?_;exact Ab (Ao (B5 jA jS)) ⟨rfl,by rw [e];exact (E8 ho).symm⟩ (hlow:=At _ Ax)

theorem AQh (v:Val) (Hp:List AObj):AFun Tryz.prog 272 [lh v] Hp (Aj (G6 v)):=by
 refine B0 [.cell 2 69] [0] Tryz.func272 Tryz.ntmps272 (fun d=>?_)
 refine AEn ?_;refine A2 [1,2] ?_;refine AP8 ?_;refine Ga 4 _ (Nl 1 [] v) ?_;refine Z18 ?_;exact Ab (Ao (B5 jA jS)) ⟨rfl,rfl⟩ (hlow:=At _ (G6 v))

theorem AQi (l:List Tok) (S:PS) (s:Str) (o:Nat) (Hp:List AObj) (ho:Hp[o]? = some (pr l S)) (hi:S.i<l.length) (hll:l.length≤1048576):ACall Tryz.prog 274 [.ptr o 0,Ac s] Hp (fun r H'=>r=.v (.tuple #[])∧H'=Hp.set o (pr l (Bx l s S))):=by
 refine B0 [] [0,1] Tryz.func274 Tryz.ntmps274 (fun d=>?_)
 refine Z42 ?_
 refine A3 (h:=An ho) (hr:=?_)
 refine A3 ?_;refine A2 [0,1,10] ?_
 refine A6 (fun ht10=>?_) (fun ht10=>?_)
 ·have e:Bx l s S=S:=if_pos ht10
  refine ud ?_;exact Ab .nores (hp:=⟨rfl,by rw [e];exact (E8 ho).symm⟩)
 have e0:¬(S.code != 0)=true:=by rw [ht10];simp
 refine Z4 ?_;refine Z35 ?_;refine Ap Tryz.call257 (AQg l S o _ (A8 ho) hi) ?_;refine Z11 ?_;refine eg ?_;refine Z1 ?_;refine Z48 ?_;refine A3 ?_;refine A2 [0,4,21] ?_
 refine A6 (fun ht21=>?_) (fun ht21=>?_)
 ·have e:Bx l s S=C7 8 (A4 l S.i).at_ S:=by unfold Bx;rw [if_neg e0,if_pos ht21]
  refine AOu ?_;refine Nf ?_;refine ud ?_;exact Ab .nores (hp:=⟨rfl,by rw [e]⟩)
 have e:Bx l s S=A5 S:=by unfold Bx;rw [if_neg e0,if_neg (by rw [ht21];simp)]
 refine Z4 ?_;refine Z15 ?_
 refine A3 (h:=An ho) (hr:=?_)
 refine Z7 ?_
 refine Cv jS ho ?_ ?_
 ·simp
 refine Nf ?_;exact On .nores (hp:=⟨rfl,by rw [e];rfl⟩)

/-- The contract of one of the parser's functions. -/
def PC (g:FuncId) (l:List Tok) (f:PS→Expr×PS) (n:Nat):Prop:=∀(o:Nat) (Hp:List AObj) (S:PS),Hp[o]? = some (pr l S)→S.i<l.length→S.nest=n→ACall Tryz.prog g [.ptr o 0] Hp (fun r H'=>r=Aj (f S).1∧H'=Hp.set o (pr l (f S).2))
abbrev Ov:AObj:=.cells 69 [A7 0,Ac [],A7 0,A7 0,Ac [],.nil]
theorem ym {n:Nat}:ObjLow n Ov:=by
 show ∀y∈[A7 0,Ac [],A7 0,A7 0,Ac [],AV.nil],Low n y
 simp
theorem AJk {n:Nat} (e:Expr):ObjLow n (.cells 69 (E3 e)):=by
 have h:=At n e
 rw [Ad] at h
 show ∀y∈E3 e,Low n y
 intro y hy
 cases h with
 | agg _ h=>exact h y hy
theorem AJl (l:List Tok) (S:PS) (a:Int) (g:FuncId) (first caps:List AV) (x:Expr) (S2:PS) (o:Nat) (Hp Hx:List AObj) (ho:Hp[o]? = some (pr l S)) (hnl:S.nest≤1048576) (hgc:∀args w,(callFunc g args).run Tryz.prog w=.ok (.enter g args) w) (hxl:Hx.length=Hp.length) (hxo:Hx[o]? = some (pr l S2)) (hn2:S2.nest=S.nest+1) (hlow:(∀y∈Hp.set o (pr l (B7 S)),ObjLow Hp.length y)→∀y∈Hx,ObjLow Hp.length y) (hcf:S.nest≠30→∀own,ACall Tryz.prog g (first++caps) (Hp.set o (pr l (B7 S))++own) (fun y H'=>y=Aj x∧H'=Hx++own)):ACall Tryz.prog 259 [.ptr o 0,A7 a,.fn (.func g) first caps] Hp (fun r H'=>(S.nest=30→r=Aj Ax∧H'=Hp.set o (pr l (C7 18 a S)))∧(S.nest≠30→r=Aj x∧H'=Hx.set o (pr l (Hq S2)))):=by
 refine B0 [.cell 6 69] [0,1,2] Tryz.func259 Tryz.ntmps259 (fun d=>?_)
 refine AIm ?_;refine Z50 ?_
 refine A3 (h:=An ho) (hr:=?_)
 refine A3 ?_;refine A2 [0,1,2,6,12] ?_
 refine A6 (fun ht12=>?_) (fun ht12=>?_)
 ·have hn30:S.nest=30:=by have:=ht12;simp at this;omega
  refine Z1 ?_;refine B4 Tryz.call217 ho (by simp) Dz (ABu l S 18 a o _ (A8 ho)) ?_;refine AB5 ?_;refine Dd ?_;exact Ab (Ao (B5 jA jS)) ⟨fun _=>⟨by rw [Ad],rfl⟩,fun h=>absurd hn30 h⟩ (hlow:=by have:=At Hp.length Ax;rw [Ad] at this;simpa using this)
 have hn30:S.nest≠30:=by have:=ht12;simp at this;omega
 refine Y9 ?_
 refine A3 (h:=An ho) (hr:=?_)
 refine Z7 ?_
 refine Cv jS ho ?_ ?_
 ·simp
 refine A2 [0,2,6] ?_;refine Z2 ?_
 refine R.callVX (up':=Hx) (own':=[Ov]) hgc (hcf hn30 [Ov]) (by simpa using hxl) (by rw [Bg];exact hlow) ?_
 rw [←hxl]
 refine Z11 ?_;refine A2 [0,6,7] ?_;refine Z16 ?_
 refine A3 (h:=An hxo) (hr:=?_)
 refine Z7 ?_
 refine Cv jS hxo ?_ ?_
 ·simp
 refine A2 [6,7] ?_;refine Z2 ?_;refine AB5 ?_;exact Ab (Ao (B5 jA jS)) ⟨fun h=>absurd h hn30,fun _=>⟨by rw [Ad],by rw [show ((S2.nest:Int)-1)=((Hq S2).nest:Int) by show _=((S2.nest-1:Nat):Int);omega];rfl⟩⟩ (hlow:=by have:=At Hx.length x;rw [Ad] at this;simpa using this)

theorem gr (t:Str) (a b:Expr):E3 (Dn t a b)=[A7 5,.v (sv t),A7 0,A7 0,Ac [],.slice false 6 [Aj a,Aj b]]:=rfl
theorem AJm {n:Nat} (t:Str) (a b:Expr):ObjLow n (.cells 69 [A7 5,.v (sv t),A7 0,A7 0,Ac [],.slice false 6 [Aj a,Aj b]]):=AJk (Dn t a b)
theorem AJn {n:Nat} {U:List AObj} {i:Nat} {x:AObj} (h:∀y∈U,ObjLow n y) (hx:ObjLow n x):∀y∈U.set i x,ObjLow n y:=by
 intro y hy
 rcases K8 hy with h1|h1
 ·exact h y h1
 rw [h1];exact hx
/-- within, with a method's value. -/
theorem AFi {g:FuncId} (hgc:∀args w,(callFunc g args).run Tryz.prog w=.ok (.enter g args) w) (l:List Tok) (S:PS) (a:Int) (f:PS→Expr×PS) (o:Nat) (Hp:List AObj) (ho:Hp[o]? = some (pr l S)) (hi:S.i<l.length) (hnl:S.nest≤30) (hf:S.nest≠30→Co l (S.nest+1) f) (hcf:S.nest≠30→PC g l f (S.nest+1)):
  ACall Tryz.prog 259 [.ptr o 0,A7 a,.fn (.func g) [.ptr o 0] []] Hp (fun r H'=>r=Aj (Bb a f S).1∧H'=Hp.set o (pr l (Bb a f S).2)):=by
 have hlt:=(Aa.1 ho).1
 by_cases h30:S.nest=30
 ·refine (AJl l S a g [.ptr o 0] [] Ax (B7 S) o Hp (Hp.set o (pr l (B7 S))) ho (by omega) hgc (by simp) (by simp [hlt]) rfl (fun h=>h) (fun h=>absurd h30 h)).mono fun r H' h=>?_
  have e:Bb a f S=(Ax,C7 18 a S):=if_pos (by rw [h30];rfl)
  rw [e]
  exact h.1 h30
 have hq:=hf h30 (B7 S) hi rfl
 refine (AJl l S a g [.ptr o 0] [] (f (B7 S)).1 (f (B7 S)).2 o Hp (Hp.set o (pr l (f (B7 S)).2)) ho (by omega) hgc (by simp) (by simp [hlt]) hq.nest (fun h y hy=>?_) (fun _ own=>?_)).mono fun r H' h=>?_
 ·rcases K8 hy with h1|h1
  ·obtain ⟨i,hi',rfl⟩:=Qy h1
   by_cases hio:i=o
   ·subst hio
    have:Hp[i]=pr l S:=by rw [Ak hi'] at ho;injection ho
    rw [this];exact Dz
   refine h _ ?_
   rw [y6]
   exact ⟨i,by rw [Gj (Ne.symm hio),Ak hi']⟩
  rw [h1];exact Dz
 ·have hg:(Hp.set o (pr l (B7 S))++own)[o]? = some (pr l (B7 S)):=A8 (by simp [hlt])
  refine (hcf h30 o (Hp.set o (pr l (B7 S))++own) (B7 S) hg hi rfl).mono fun r H' h=>⟨h.1,h.2.trans ?_⟩
  rw [Ir _ _ (by simpa using hlt),Bc]
 have e:Bb a f S=((f (B7 S)).1,Hq (f (B7 S)).2):=if_neg (by
  show ¬(((S.nest:Int)==30)=true)
  simp
  omega)
 rw [e]
 obtain ⟨h1,h2⟩:=h.2 h30
 exact ⟨h1,by rw [h2,Bc]⟩
theorem AJo {g:FuncId} (hgc:∀args w,(callFunc g args).run Tryz.prog w=.ok (.enter g args) w) (l:List Tok) (S:PS) (of:Str) (hof:of.length≤1048576) (f:PS→Expr×PS) (o:Nat) (Hp:List AObj) (ho:Hp[o]? = some (pr l S)) (hi:S.i<l.length) (hl:TokEnd l) (hll:l.length≤1048576) (hf:Co l S.nest f) (hcf:PC g l f S.nest):ACall Tryz.prog 234 [.ptr o 0,Ac of,.fn (.func g) [.ptr o 0] []] Hp (fun r H'=>r=Aj (F9 l of f S).1∧H'=Hp.set o (pr l (F9 l of f S).2)):=by
 have holt:=(Aa.1 ho).1
 refine B0 [.cell 6 69] [0,1,2] Tryz.func234 Tryz.ntmps234 (fun d=>?_)
 refine AIm ?_;refine Z2 ?_;refine R.callVUp hgc ho (by simp) Dz (hcf o _ S (A8 ho) hi rfl) ?_;refine Z11 ?_;refine A2 [0,1,2,6,7] ?_;refine Hw ?_
 refine Bo (α:=Expr×PS) (fun r=>⟨32,A9 0 (.ptr o 0) (A9 1 (Ac of) (A9 2 (.fn (.func g) [.ptr o 0] []) (A9 6 (.ptr (oid Hp.length 0) 0) (A9 7 (.ptr (oid Hp.length 1) 0) (fun _=>.any))))),Hp.set o (pr l r.2),[.cells 69 [A7 0,Ac [],A7 0,A7 0,Ac [],.nil],.cells 69 (E3 r.1)],[],none⟩) (fun r=>LeftAt l of f S r) (fun r=>l.length-r.2.i) (f S) (.start (hf S hi rfl)) (Ar (by simp)) rfl (fun r hx=>?_)
 refine Z42 ?_
 refine A3 (h:=An (getset ho)) (hr:=?_)
 refine Z30 ?_;refine D9 Tryz.call244 (fun hB=>pu l r.2 of o _ (A8 (getset ho)) hx.fact.lt hl hof) ?_;refine A3 ?_;refine A2 [0,1,2,6,7,21] ?_
 refine A6 (fun ht21=>?_) (fun ht21=>?_)
 ·have hon:=hx.on hl ht21 hf
  have hle:=hon.2.1.le
  have hlt0:=hx.fact.lt
  have hU1:(Hp.set o (pr l r.2)).set o (pr l (A5 r.2))=Hp.set o (pr l (A5 r.2)):=Bc ..
  refine ec ?_;refine Z2 ?_;refine B4 Tryz.call245 (getset ho) (by simp) Dz (AFh l r.2 o _ (A8 (getset ho)) hx.fact.lt hll) ?_;refine Z11 ?_;refine A2 [0,1,2,6,7,8] ?_;refine Me [0,1,0,0,8,28,63,127] [4] [.q 4 [] [],.s [28] (some 0) [] [],.q 1 [0] []] (fun B=>Hp.set o (if B 0=true then pr l (f (A5 r.2)).2 else pr l (A5 r.2))) (fun _=>[.cells 69 [A7 0,Ac [],A7 0,A7 0,Ac [],.nil],.cells 69 (E3 r.1),.cells 59 [A7 (A4 l r.2.i).kind,Ac (A4 l r.2.i).text,A7 (A4 l r.2.i).at_]]) Af (by kernel_rfl) (by simp [Bc]) rfl (fun B=>by simp) ?_
  apply Y.q
  ·intro B hT hF
   exact nq
  case hTF=>decide
  refine Y.callVUp (r:=Aj (f (A5 r.2)).1) (o:=o) (x0:=pr l (A5 r.2)) (x:=pr l (f (A5 r.2)).2) hgc (fun B hT hF hB=>⟨by simp only [hB];exact getset ho,by simp [upd],rfl,Dz,?_⟩) ?_
  ·simp only [hB]
   exact hcf o _ (A5 r.2) (A8 (getset ho)) hon.1 hx.fact.nest
  apply Y.q
  ·intro B hT hF
   exact Z28
  case hTF=>decide
  refine Dj (tn:=[4]) (U:=Hp.set o (pr l (f (A5 r.2)).2)) ?_;refine Z57 ?_;refine A2 [0,1,2,6,7] ?_;refine Hh ?_
  refine Be (Dn (A4 l r.2.i).text r.1 (f (A5 r.2)).1,(f (A5 r.2)).2) hon.2.2 (by show l.length-(f (A5 r.2)).2.i<l.length-r.2.i;have:r.2.i+1≤(f (A5 r.2)).2.i:=hle;omega) ?_
  simp only [gr]
  have hlow2:=fun n=>AJm (n:=n) (A4 l r.2.i).text r.1 (f (A5 r.2)).1
  simp only [Ad] at hlow2 ⊢
  exact Oo (fun _=>.refl _) (by repeat (first|exact H3|refine H1 (by simp [oid]<;>omega) ?_)) (by intro y hy;rcases C9.1 hy with rfl|hy;exact ym;rw [C1.1 hy];exact hlow2 _) (by simp)
 have hout:=hx.out (by rw [ht21];simp)
 refine uk ?_;refine AB5 ?_;exact Ab (Ao (B5 jA jS)) ⟨by rw [hout,Ad],by rw [hout]⟩ (hlow:=by have:=At (Hp.set o (pr l r.2)).length r.1;rw [Ad] at this;simpa using this)

theorem ASc (l:List Tok) (S:PS) (f:PS→Expr×PS) (o:Nat) (Hp:List AObj) (ho:Hp[o]? = some (pr l S)) (hi:S.i<l.length) (hl:TokEnd l) (hll:l.length≤1048576) (hf:Co l S.nest f) (hcf:PC 235 l f S.nest):ACall Tryz.prog 215 [.ptr o 0] Hp (fun r H'=>r=Aj (F9 l orT f S).1∧H'=Hp.set o (pr l (F9 l orT f S).2)):=by
 refine B0 [.cell 2 69] [0] Tryz.func215 Tryz.ntmps215 (fun d=>?_)
 refine Z43 ?_;refine Z1 ?_;refine Jj ?_;refine B4 Tryz.call234 ho (by simp) Dz (AJo Tryz.call235 l S orT (by decide) f o _ (A8 ho) hi hl hll hf hcf) ?_;refine Z18 ?_;exact Ab (Ao (B5 jA jS)) ⟨by rw [Ad],rfl⟩ (hlow:=by have:=At Hp.length (F9 l orT f S).1;rw [Ad] at this;simpa using this)

theorem ASd (l:List Tok) (S:PS) (f:PS→Expr×PS) (o:Nat) (Hp:List AObj) (ho:Hp[o]? = some (pr l S)) (hi:S.i<l.length) (hl:TokEnd l) (hll:l.length≤1048576) (hf:Co l S.nest f) (hcf:PC 246 l f S.nest):ACall Tryz.prog 235 [.ptr o 0] Hp (fun r H'=>r=Aj (F9 l vp f S).1∧H'=Hp.set o (pr l (F9 l vp f S).2)):=by
 refine B0 [.cell 2 69] [0] Tryz.func235 Tryz.ntmps235 (fun d=>?_)
 refine Z43 ?_;refine Z1 ?_;refine Jj ?_;refine B4 Tryz.call234 ho (by simp) Dz (AJo Tryz.call246 l S vp (by decide) f o _ (A8 ho) hi hl hll hf hcf) ?_;refine Z18 ?_;exact Ab (Ao (B5 jA jS)) ⟨by rw [Ad],rfl⟩ (hlow:=by have:=At Hp.length (F9 l vp f S).1;rw [Ad] at this;simpa using this)

theorem ASe (l:List Tok) (S:PS) (f:PS→Expr×PS) (o:Nat) (Hp:List AObj) (ho:Hp[o]? = some (pr l S)) (hi:S.i<l.length) (hl:TokEnd l) (hll:l.length≤1048576) (hf:Co l S.nest f) (hcf:PC 269 l f S.nest):ACall Tryz.prog 266 [.ptr o 0] Hp (fun r H'=>r=Aj (F9 l vq f S).1∧H'=Hp.set o (pr l (F9 l vq f S).2)):=by
 refine B0 [.cell 2 69] [0] Tryz.func266 Tryz.ntmps266 (fun d=>?_)
 refine Z43 ?_;refine Z1 ?_;refine Jj ?_;refine B4 Tryz.call234 ho (by simp) Dz (AJo Tryz.call269 l S vq (by decide) f o _ (A8 ho) hi hl hll hf hcf) ?_;refine Z18 ?_;exact Ab (Ao (B5 jA jS)) ⟨by rw [Ad],rfl⟩ (hlow:=by have:=At Hp.length (F9 l vq f S).1;rw [Ad] at this;simpa using this)

theorem ASf (l:List Tok) (S:PS) (f:PS→Expr×PS) (o:Nat) (Hp:List AObj) (ho:Hp[o]? = some (pr l S)) (hi:S.i<l.length) (hl:TokEnd l) (hll:l.length≤1048576) (hf:Co l S.nest f) (hcf:PC 270 l f S.nest):ACall Tryz.prog 269 [.ptr o 0] Hp (fun r H'=>r=Aj (F9 l bg f S).1∧H'=Hp.set o (pr l (F9 l bg f S).2)):=by
 refine B0 [.cell 2 69] [0] Tryz.func269 Tryz.ntmps269 (fun d=>?_)
 refine Z43 ?_;refine Z1 ?_;refine Jj ?_;refine B4 Tryz.call234 ho (by simp) Dz (AJo Tryz.call270 l S bg (by decide) f o _ (A8 ho) hi hl hll hf hcf) ?_;refine Z18 ?_;exact Ab (Ao (B5 jA jS)) ⟨by rw [Ad],rfl⟩ (hlow:=by have:=At Hp.length (F9 l bg f S).1;rw [Ad] at this;simpa using this)

/-- What is so of the functions one nest deeper. -/
structure DeepC (l:List Tok) (Dv:Fam) (n:Nat):Prop where
 ei:n≠30→Co l (n+1) Dv.ei∧PC 215 l Dv.ei (n+1)
 no:n≠30→Co l (n+1) Dv.no∧PC 246 l Dv.no (n+1)
 ne:n≠30→Co l (n+1) Dv.ne∧PC 270 l Dv.ne (n+1)
theorem Ob (op:Int) (x:Expr):Aj (Cy op x)=.agg [A7 op,Ac [],A7 0,A7 0,Ac [],.slice false 6 [Aj x]]:=by rw [Ad];rfl
theorem Ze (t:Str) (a b:Expr):Aj (Dn t a b)=.agg [A7 5,.v (sv t),A7 0,A7 0,Ac [],.slice false 6 [Aj a,Aj b]]:=by rw [Ad];rfl
theorem low_agg {n:Nat} (e:Expr):Low n (.agg [.v (.int .i64 e.op),.v (sv e.text),.v (.int .i64 e.val.kind),.v (.int .i64 e.val.n),.v (sv e.val.s),.slice false 6 (e.kids.map Aj)]):=by
 have:=At n e
 rwa [Ad] at this
theorem ASg (l:List Tok) (S:PS) (Dv:Fam) (o:Nat) (Hp:List AObj) (ho:Hp[o]? = some (pr l S)) (hi:S.i<l.length) (hl:TokEnd l) (hll:l.length≤1048576) (hnl:S.nest≤30) (hd:DeepC l Dv S.nest) (hc:PC 271 l (Eo l Dv) S.nest):ACall Tryz.prog 270 [.ptr o 0] Hp (fun r H'=>r=Aj (Lu l Dv S).1∧H'=Hp.set o (pr l (Lu l Dv S).2)):=by
 refine B0 [.cell 2 69] [0] Tryz.func270 Tryz.ntmps270 (fun d=>?_)
 refine Z43 ?_;refine Z35 ?_;refine Ap Tryz.call244 (pu l S ph o _ (A8 ho) hi hl (by decide)) ?_;refine A3 ?_;refine A2 [0,2,6] ?_
 refine A6 (fun ht6=>?_) (fun ht6=>?_)
 ·have e:Lu l Dv S=Eo l Dv S:=if_pos ht6
  refine Z2 ?_;refine B4 Tryz.call271 ho (by simp) Dz (hc o _ S (A8 ho) hi rfl) ?_;refine Z18 ?_;exact Z64
 have his:isM l ph S=true:=by simpa using ht6
 have hi1:(A5 S).i<l.length:=hl.stepIs hi his
 have e:Lu l Dv S=(Cy 3 (Bb (A4 l S.i).at_ Dv.ne (A5 S)).1,(Bb (A4 l S.i).at_ Dv.ne (A5 S)).2):=if_neg (by rw [ht6];simp)
 refine Z4 ?_;refine Z53 ?_;refine Z92 ?_;refine Z33 ?_;refine Jj ?_;refine B4 Tryz.call259 (getset ho) (by simp) Dz (AFi Tryz.call270 l (A5 S) (A4 l S.i).at_ Dv.ne o _ (A8 (getset ho)) hi1 hnl (fun h=>(hd.ne h).1) (fun h=>(hd.ne h).2)) ?_;refine Rg ?_;refine AM5 ?_;exact Ab (Ao (B5 jA jS)) ⟨by rw [e,Ob];simp only [Ad],by rw [e,Bc]⟩ (hlow:=by have:=At Hp.length (Cy 3 (Bb (A4 l S.i).at_ Dv.ne (A5 S)).1);rw [Ob] at this;simp only [Ad] at this;simpa only [Bg] using this)

theorem ASh (l:List Tok) (S:PS) (Dv:Fam) (o:Nat) (Hp:List AObj) (ho:Hp[o]? = some (pr l S)) (hi:S.i<l.length) (hl:TokEnd l) (hll:l.length≤1048576) (hnl:S.nest≤30) (hd:DeepC l Dv S.nest) (hc:PC 258 l (D6 l Dv) S.nest):ACall Tryz.prog 246 [.ptr o 0] Hp (fun r H'=>r=Aj (Lv l Dv S).1∧H'=Hp.set o (pr l (Lv l Dv S).2)):=by
 refine B0 [.cell 2 69] [0] Tryz.func246 Tryz.ntmps246 (fun d=>?_)
 refine Z43 ?_;refine Z35 ?_;refine Ap Tryz.call244 (pu l S pg o _ (A8 ho) hi hl (by decide)) ?_;refine A3 ?_;refine A2 [0,2,6] ?_
 refine A6 (fun ht6=>?_) (fun ht6=>?_)
 ·have e:Lv l Dv S=D6 l Dv S:=if_pos ht6
  refine Z2 ?_;refine B4 Tryz.call258 ho (by simp) Dz (hc o _ S (A8 ho) hi rfl) ?_;refine Z18 ?_;exact Z64
 have his:isM l pg S=true:=by simpa using ht6
 have hi1:(A5 S).i<l.length:=hl.stepIs hi his
 have e:Lv l Dv S=(Cy 4 (Bb (A4 l S.i).at_ Dv.no (A5 S)).1,(Bb (A4 l S.i).at_ Dv.no (A5 S)).2):=if_neg (by rw [ht6];simp)
 refine Z4 ?_;refine Z53 ?_;refine Z92 ?_;refine Z33 ?_;refine Jj ?_;refine B4 Tryz.call259 (getset ho) (by simp) Dz (AFi Tryz.call246 l (A5 S) (A4 l S.i).at_ Dv.no o _ (A8 (getset ho)) hi1 hnl (fun h=>(hd.no h).1) (fun h=>(hd.no h).2)) ?_;refine Rg ?_;refine AM5 ?_;exact Ab (Ao (B5 jA jS)) ⟨by rw [e,Ob];simp only [Ad],by rw [e,Bc]⟩ (hlow:=by have:=At Hp.length (Cy 4 (Bb (A4 l S.i).at_ Dv.no (A5 S)).1);rw [Ob] at this;simp only [Ad] at this;simpa only [Bg] using this)

theorem ASi (l:List Tok) (S:PS) (Dv:Fam) (o:Nat) (Hp:List AObj) (ho:Hp[o]? = some (pr l S)) (hi:S.i<l.length) (hl:TokEnd l) (hll:l.length≤1048576) (hnl:S.nest≤30) (hd:DeepC l Dv S.nest) (hg:Co l S.nest (Ct l Dv)) (hc:PC 266 l (Ct l Dv) S.nest):ACall Tryz.prog 258 [.ptr o 0] Hp (fun r H'=>r=Aj (D6 l Dv S).1∧H'=Hp.set o (pr l (D6 l Dv S).2)):=by
 have hq:=hg S hi rfl
 refine B0 [.cell 2 69] [0] Tryz.func258 Tryz.ntmps258 (fun d=>?_)
 refine Z43 ?_;refine Z2 ?_;refine B4 Tryz.call266 ho (by simp) Dz (hc o _ S (A8 ho) hi rfl) ?_;refine Z92 ?_;refine Z42 ?_
 refine A3 (h:=An (getset ho)) (hr:=?_)
 refine Wg ?_;refine D9 Tryz.call244 (fun hB=>pu l (Ct l Dv S).2 Ya o _ (A8 (getset ho)) hq.lt hl (by decide)) ?_;refine Z55 ?_;refine A2 [0,2,3,17] ?_
 refine A6 (fun ht17=>?_) (fun ht17=>?_)
 ·have e:D6 l Dv S=Ct l Dv S:=if_pos ht17
  refine Z91 ?_;exact Z64
 have his:isM l Ya (Ct l Dv S).2=true:=by
  have:=ht17
  simp only [Hb,Tj] at this
  exact this.2
 have hi1:(A5 (Ct l Dv S).2).i<l.length:=hl.stepIs hq.lt his
 have e:D6 l Dv S=(Dn (A4 l (Ct l Dv S).2.i).text (Ct l Dv S).1 (Ct l Dv (A5 (Ct l Dv S).2)).1,(Ct l Dv (A5 (Ct l Dv S).2)).2):=if_neg (by rw [ht17];simp)
 refine ar ?_;refine B4 Tryz.call245 (getset ho) (by simp) Dz (AFh l (Ct l Dv S).2 o _ (A8 (getset ho)) hq.lt hll) ?_;refine Z11 ?_;refine lb ?_;refine Fe [0,1,0,0,8,28,63,127] [4] [.q 4 [] [],.s [25] (some 0) [] [],.q 1 [0] []] (fun B=>Hp.set o (if B 0=true then pr l (Ct l Dv (A5 (Ct l Dv S).2)).2 else pr l (A5 (Ct l Dv S).2))) (fun _=>[.cells 69 [A7 0,Ac [],A7 0,A7 0,Ac [],.nil],.cells 69 (E3 (Ct l Dv S).1),.cells 59 [A7 (A4 l (Ct l Dv S).2.i).kind,Ac (A4 l (Ct l Dv S).2.i).text,A7 (A4 l (Ct l Dv S).2.i).at_]]) Af (by kernel_rfl) (by simp [Bc]) rfl (fun B=>by simp) ?_
 apply Y.q
 ·intro B hT hF
  exact nq
 case hTF=>decide
 refine Jk (r:=Aj (Ct l Dv (A5 (Ct l Dv S).2)).1) (o:=o) (x0:=pr l (A5 (Ct l Dv S).2)) (x:=pr l (Ct l Dv (A5 (Ct l Dv S).2)).2) Tryz.call266 (fun B hT hF hB=>⟨by simp only [hB];exact getset ho,by simp [upd],rfl,Dz,?_⟩) ?_
 ·simp only [hB]
  exact hc o _ (A5 (Ct l Dv S).2) (A8 (getset ho)) hi1 hq.nest
 apply Y.q
 ·intro B hT hF
  exact Z28
 case hTF=>decide
 refine Dj (tn:=[4]) (U:=Hp.set o (pr l (Ct l Dv (A5 (Ct l Dv S).2)).2)) ?_;refine AM5 ?_;exact Ab (Ao (B5 jA jS)) ⟨by rw [e,Ze];simp only [Ad],by rw [e]⟩ (hlow:=by have:=At Hp.length (Dn (A4 l (Ct l Dv S).2.i).text (Ct l Dv S).1 (Ct l Dv (A5 (Ct l Dv S).2)).1);rw [Ze] at this;simp only [Ad] at this;simpa only [Bg] using this)

/-- The contract of the parser of calls. -/
def pv (l:List Tok) (Dv:Fam) (n:Nat):Prop:=∀(o:Nat) (Hp:List AObj) (S:PS) (t:Tok),Hp[o]? = some (pr l S)→(A5 S).i<l.length→S.nest=n→t.text.length≤1048576→isM l opT S=true→ACall Tryz.prog 273 [.ptr o 0,En t] Hp (fun r H'=>r=Aj (I6 l Dv t S).1∧H'=Hp.set o (pr l (I6 l Dv t S).2))
theorem AFj:Aj Ax=.agg [A7 0,Ac [],A7 0,A7 0,Ac [],.slice false 6 []]:=by rw [Ad];rfl
theorem ASj (l:List Tok) (S:PS) (Dv:Fam) (o:Nat) (Hp:List AObj) (ho:Hp[o]? = some (pr l S)) (hi:S.i<l.length) (hl:TokEnd l) (hll:l.length≤1048576) (hnl:S.nest≤30) (hd:DeepC l Dv S.nest) (hcl:pv l Dv S.nest):ACall Tryz.prog 271 [.ptr o 0] Hp (fun r H'=>r=Aj (Eo l Dv S).1∧H'=Hp.set o (pr l (Eo l Dv S).2)):=by
 refine B0 [.cell 2 69] [0] Tryz.func271 Tryz.ntmps271 (fun d=>?_)
 refine Z43 ?_;refine AMa ?_;refine Z92 ?_;refine Z42 ?_
 refine A3 (h:=An ho) (hr:=?_)
 refine A3 ?_;refine A2 [0,2,3,14] ?_
 refine A6 (fun ht14=>?_) (fun ht14=>?_)
 ·have e:Eo l Dv S=(Ax,S):=if_pos ht14
  refine Z27 ?_;refine Ga 15 _ Kh ?_;refine AB7 ?_;exact Ab (Ao (B5 jA jS)) ⟨by rw [e,Ad],by rw [e];exact (E8 ho).symm⟩ (hlow:=by have:=At Hp.length (Ax);simpa only [Ad,Bg] using this)
 have e0:¬(S.code != 0)=true:=by rw [ht14];simp
 refine Z56 ?_;refine Z33 ?_;refine Bk ?_;refine D9 Tryz.call244 (fun hB=>pu l S Wo o _ (A8 ho) hi hl (by decide)) ?_;refine Z0 ?_;refine A2 [0,2,3,16] ?_
 refine A6 (fun ht16=>?_) (fun ht16=>?_)
 ·have e:Eo l Dv S=(G6 (Dy (A4 l S.i).text).1,A5 S):=by unfold Eo;rw [if_neg e0,if_pos ht16]
  refine Z53 ?_;refine A3 ?_;refine Ap Tryz.call157 (AMw (A4 l S.i).text (hl.text _) _) ?_;refine Z7 ?_;refine Z11 ?_;refine A3 ?_;refine A2 [2,4] ?_;refine Z2 ?_;refine Ap Tryz.call272 (AQh (Dy (A4 l S.i).text).1 _) ?_;refine nv ?_;exact Ab (Ao (B5 jA jS)) ⟨by rw [e,Ad],by rw [e]⟩ (hlow:=by have:=At Hp.length (G6 (Dy (A4 l S.i).text).1);simpa only [Ad,Bg] using this)
 have e1:¬(((A4 l S.i).kind==3) || isM l Wo S)=true:=by rw [ht16];simp
 refine Z33 ?_;refine A2 [0,2,3,33] ?_
 refine A6 (fun ht33=>?_) (fun ht33=>?_)
 ·have e:Eo l Dv S=(G6 ⟨2,0,(A4 l S.i).text.take 200⟩,A5 S):=by unfold Eo;rw [if_neg e0,if_neg e1,if_pos ht33]
  refine Z53 ?_;refine A3 ?_;refine Ap Tryz.call210 (c210 (A4 l S.i).text _) ?_;refine Ap Tryz.call272 (AQh ⟨2,0,(A4 l S.i).text.take 200⟩ _) ?_;refine nv ?_;exact Ab (Ao (B5 jA jS)) ⟨by rw [e,Ad],by rw [e]⟩ (hlow:=by have:=At Hp.length (G6 ⟨2,0,(A4 l S.i).text.take 200⟩);simpa only [Ad,Bg] using this)
 have e2:¬((A4 l S.i).kind==4)=true:=by rw [ht33];simp
 refine Z33 ?_;refine A2 [0,2,3,42] ?_
 refine A6 (fun ht42=>?_) (fun ht42=>?_)
 ·have hi1:(A5 S).i<l.length:=hl.step hi (by rw [beq_iff_eq] at ht42;rw [ht42];decide)
  refine Z53 ?_;refine T9 ?_;refine Z35 ?_;refine Ap Tryz.call244 (pu l (A5 S) opT o _ (A8 (getset ho)) hi1 hl (by decide)) ?_;refine A2 [0,2,3,49] ?_
  refine A6 (fun ht49=>?_) (fun ht49=>?_)
  ·have e:Eo l Dv S=I6 l Dv (A4 l S.i) (A5 S):=by unfold Eo;rw [if_neg e0,if_neg e1,if_neg e2,if_pos ht42,if_pos ht49]
   have hi2:(A5 (A5 S)).i<l.length:=hl.stepIs hi1 ht49
   refine Z1 ?_;refine B4 Tryz.call273 (getset ho) (by simp) Dz (hcl o _ (A5 S) (A4 l S.i) (A8 (getset ho)) hi2 rfl (hl.text _) ht49) ?_;refine AB7 ?_;refine Z8 ?_;exact Ab (Ao (B5 jA jS)) ⟨by rw [e,Ad],by rw [e,Bc]⟩ (hlow:=by have:=At Hp.length ((I6 l Dv (A4 l S.i) (A5 S)).1);simpa only [Ad,Bg] using this)
  have e:Eo l Dv S=(Bj (A4 l S.i).text,A5 S):=by unfold Eo;rw [if_neg e0,if_neg e1,if_neg e2,if_pos ht42,if_neg (by rw [ht49];simp)]
  refine Z4 ?_;refine AM4 ?_;refine Ga 55 _ (Uw _) ?_;refine nv ?_;exact Ab (Ao (B5 jA jS)) ⟨by rw [e,Ad],by rw [e]⟩ (hlow:=by have:=At Hp.length (Bj (A4 l S.i).text);simpa only [Ad,Bg] using this)
 have e3:¬((A4 l S.i).kind==1)=true:=by rw [ht42];simp
 refine Z2 ?_;refine Ap Tryz.call244 (pu l S opT o _ (A8 ho) hi hl (by decide)) ?_;refine A3 ?_;refine A2 [0,2,3,56] ?_
 refine A6 (fun ht56=>?_) (fun ht56=>?_)
 ·have e:Eo l Dv S=((Bb (A4 l S.i).at_ Dv.ei (A5 S)).1,Bx l Bu (Bb (A4 l S.i).at_ Dv.ei (A5 S)).2):=by unfold Eo;rw [if_neg e0,if_neg e1,if_neg e2,if_neg e3,if_pos ht56]
  have hi1:(A5 S).i<l.length:=hl.stepIs hi ht56
  have hwf:=Mv (S:=A5 S) (l:=l) (f:=Dv.ei) (A4 l S.i).at_ hi1 (fun h=>(hd.ei h).1)
  refine Z53 ?_;refine T9 ?_;refine Z33 ?_;refine Jj ?_;refine B4 Tryz.call259 (getset ho) (by simp) Dz (AFi Tryz.call215 l (A5 S) (A4 l S.i).at_ Dv.ei o _ (A8 (getset ho)) hi1 hnl (fun h=>(hd.ei h).1) (fun h=>(hd.ei h).2)) ?_;refine Z11 ?_;refine A2 [0,2,6] ?_;refine Z2 ?_;refine B4 Tryz.call274 (getset (getset ho)) (by simp) Dz (AQi l (Bb (A4 l S.i).at_ Dv.ei (A5 S)).2 Bu o _ (A8 (getset (getset ho))) hwf.lt hll) ?_;refine A2 [2,6] ?_;refine Z91 ?_;refine Z8 ?_;exact Ab (Ao (B5 jA jS)) ⟨by rw [e,Ad],by rw [e,Bc,Bc]⟩ (hlow:=by have:=At Hp.length ((Bb (A4 l S.i).at_ Dv.ei (A5 S)).1);simpa only [Ad,Bg] using this)
 have e:Eo l Dv S=(Ax,C7 8 (A4 l S.i).at_ S):=by unfold Eo;rw [if_neg e0,if_neg e1,if_neg e2,if_neg e3,if_neg (by rw [ht56];simp)]
 refine Z25 ?_;refine AOu ?_;refine Z18 ?_;exact Ab (Ao (B5 jA jS)) ⟨by rw [e,Ad],by rw [e]⟩ (hlow:=by have:=At Hp.length (Ax);simpa only [Ad,Bg] using this)

theorem AJp {l:List Tok} (hl:TokEnd l) (hll:l.length≤1048576) {d n:Nat} (h:n+(d+1)=31) (hp:n≠30→PC 215 l (Cn l d).ei (n+1)∧PC 246 l (Cn l d).no (n+1)∧PC 270 l (Cn l d).ne (n+1)):DeepC l (Cn l d) n:=by
 have g:n≠30→_:=fun h30=>Su hl hll d (n+1) (by omega) (by omega)
 exact ⟨fun h=>⟨(g h).1,(hp h).1⟩,fun h=>⟨(g h).2.1,(hp h).2.1⟩,fun h=>⟨(g h).2.2,(hp h).2.2⟩⟩
/-- All functions of the parser. -/
theorem px {l:List Tok} (hl:TokEnd l) (hll:l.length≤1048576) (hcl:∀n Dv,n≤30→DeepC l Dv n→pv l Dv n):∀(d n:Nat),n+d=31→n≤30→PC 215 l (Cn l d).ei n∧PC 246 l (Cn l d).no n∧PC 270 l (Cn l d).ne n
 | 0,n,h,hn=>by omega
 | d+1,n,h,hn=>by
  have hd:DeepC l (Cn l d) n:=AJp hl hll h (fun h30=>px hl hll hcl d (n+1) (by omega) (by omega))
  have g1:Co l n (Lu l (Cn l d)):=Ss hl hll (fun h=>(hd.ei h).1) (fun h=>(hd.ne h).1)
  have g2:Co l n (V1 l (Cn l d)):=Gp hl g1
  have g3:Co l n (Ct l (Cn l d)):=Gp hl g2
  have g4:Co l n (D6 l (Cn l d)):=Tc hl hll (fun h=>(hd.ei h).1) (fun h=>(hd.ne h).1)
  have g5:Co l n (Lv l (Cn l d)):=Wp hl hll (fun h=>(hd.ei h).1) (fun h=>(hd.ne h).1) (fun h=>(hd.no h).1)
  have g6:Co l n (V2 l (Cn l d)):=Gp hl g5
  have p0:PC 271 l (Eo l (Cn l d)) n:=fun o Hp S ho hi hS=>by
   subst hS
   exact ASj l S (Cn l d) o Hp ho hi hl hll hn hd (hcl _ _ hn hd)
  have p1:PC 270 l (Lu l (Cn l d)) n:=fun o Hp S ho hi hS=>by
   subst hS
   exact ASg l S (Cn l d) o Hp ho hi hl hll hn hd p0
  have p2:PC 269 l (V1 l (Cn l d)) n:=fun o Hp S ho hi hS=>by
   subst hS
   exact ASf l S (Lu l (Cn l d)) o Hp ho hi hl hll g1 p1
  have p3:PC 266 l (Ct l (Cn l d)) n:=fun o Hp S ho hi hS=>by
   subst hS
   exact ASe l S (V1 l (Cn l d)) o Hp ho hi hl hll g2 p2
  have p4:PC 258 l (D6 l (Cn l d)) n:=fun o Hp S ho hi hS=>by
   subst hS
   exact ASi l S (Cn l d) o Hp ho hi hl hll hn hd g3 p3
  have p5:PC 246 l (Lv l (Cn l d)) n:=fun o Hp S ho hi hS=>by
   subst hS
   exact ASh l S (Cn l d) o Hp ho hi hl hll hn hd p4
  have p6:PC 235 l (V2 l (Cn l d)) n:=fun o Hp S ho hi hS=>by
   subst hS
   exact ASd l S (Lv l (Cn l d)) o Hp ho hi hl hll g5 p5
  have p7:PC 215 l (Q3 l (Cn l d)) n:=fun o Hp S ho hi hS=>by
   subst hS
   exact ASc l S (V2 l (Cn l d)) o Hp ho hi hl hll g6 p6
  exact ⟨p7,p5,p1⟩
theorem gt:∀(n:Nat) (e:Expr),okE n e→depthE e≤n
 | 0,_,h=>h.elim
 | n+1,e,h=>by
  rw [Sv]
  have:∀l:List Expr,(∀y∈l,okE n y)→Ff l≤n:=by
   intro l
   induction l with
   | nil=>intro _;exact Al _
   | cons y r ih =>
    intro hl
    rw [Ff]
    have h1:=gt n y (hl y (by simp))
    have h2:=ih (fun z hz=>hl z (by simp [hz]))
    omega
  have:=this e.kids h.2.2
  omega
theorem AFk (e:Expr) (x:Nat):Cs (e.kids.take x)+1≤sizeE e:=by
 rw [Ij]
 have:∀(l:List Expr) (x:Nat),Cs (l.take x)≤Cs l:=by
  intro l
  induction l with
  | nil=>intro x;simp
  | cons y r ih =>
   intro x
   cases x with
   | zero=>simp [Cs]
   | succ x =>
    have:=ih x
    rw [List.take_succ_cons,Cs,Cs]
    omega
 have:=this e.kids x
 omega
theorem ASk:∀(n:Nat) (e:Expr),okE n e→n≤1048576→∀Hp:List AObj,AFun Tryz.prog 146 [Aj e] Hp (A7 (depthE e:Nat)):=by
 intro n
 induction n with
 | zero=>exact fun e h=>h.elim
 | succ n ih =>
 intro e hok hn Hp
 refine B0 [.tmp 2] [0] Tryz.func146 Tryz.ntmps146 (fun d=>?_)
 refine Z90 ?_;refine Z2 ?_;refine A2 [1,3] ?_;refine Z35 ?_;refine A2 [1,3,4] ?_
 refine Bo (α:=Nat) (fun x=>⟨25,A9 1 (.ro (E3 e)) (A9 3 (A7 (Ff (e.kids.take x):Nat)) (A9 4 (A7 (x:Nat)) (fun _=>.any))),Hp,[],[],none⟩) (fun x=>x≤e.kids.length) (fun x=>e.kids.length-x) (0) (Al _) (Ar (by simp [Ff])) rfl (fun x hx=>?_)
 refine Tt ?_;refine A2 [1,3,4,10] ?_
 refine A6 (fun ht10=>?_) (fun ht10=>?_)
 ·have hlt:x<e.kids.length:=by simpa using ht10
  have hkl:=hok.2.1
  refine Z56 ?_;refine Z16 ?_
  refine A3 (h:=B2 (x) (Aj e.kids[x]) (fun _=>Ea hlt)) (hr:=?_)
  refine A3 ?_;refine Ap Tryz.call146 (ih e.kids[x] (hok.2.2 _ (D4 hlt)) (by omega) _) ?_;refine A3 ?_;refine A2 [1,3,4,5] ?_;refine Z16 ?_;refine A2 [1,3,4,5,21] ?_
  refine A6 (fun ht21=>?_) (fun ht21=>?_)
  ·have em:Ff (e.kids.take (x+1))=depthE e.kids[x]:=by rw [Xt _ hlt];have:=of_decide_eq_true ht21;omega
   refine Z21 ?_;refine A2 [1,3,4] ?_;refine Z75 ?_;exact AOg
  have em:Ff (e.kids.take (x+1))=Ff (e.kids.take x):=by rw [Xt _ hlt];have:=of_decide_eq_false ht21;omega
  refine Wf ?_;exact AOg
 have hd1:=gt _ e hok
 have hxe:e.kids.take x=e.kids:=Fw (by simp at ht10;omega)
 have hdd:=Sv e
 refine uk ?_
 rw [hxe]
 refine Z54 ?_;exact Ab (Ao Ag) ⟨by rw [hdd];rfl,rfl⟩

theorem ASl:∀(n:Nat) (e:Expr),okE n e→sizeE e≤1048576→∀Hp:List AObj,AFun Tryz.prog 147 [Aj e] Hp (A7 (sizeE e:Nat)):=by
 intro n
 induction n with
 | zero=>exact fun e h=>h.elim
 | succ n ih =>
 intro e hok hn Hp
 refine B0 [.tmp 2] [0] Tryz.func147 Tryz.ntmps147 (fun d=>?_)
 refine Z90 ?_;refine Z2 ?_;refine A2 [1,3] ?_;refine Z35 ?_;refine A2 [1,3,4] ?_
 refine Bo (α:=Nat) (fun x=>⟨21,A9 1 (.ro (E3 e)) (A9 3 (A7 ((Cs (e.kids.take x):Nat)+1)) (A9 4 (A7 (x:Nat)) (fun _=>.any))),Hp,[],[],none⟩) (fun x=>x≤e.kids.length) (fun x=>e.kids.length-x) (0) (Al _) (Ar (by simp [Cs])) rfl (fun x hx=>?_)
 refine Tt ?_;refine A2 [1,3,4,9] ?_
 refine A6 (fun ht9=>?_) (fun ht9=>?_)
 ·have hlt:x<e.kids.length:=by simpa using ht9
  have hkl:=hok.2.1
  have hs1:=vu e.kids hlt
  have hs2:=AFk e (x+1)
  refine Z56 ?_;refine Z21 ?_;refine Z0 ?_
  refine A3 (h:=B2 (x) (Aj e.kids[x]) (fun _=>Ea hlt)) (hr:=?_)
  refine A3 ?_
  refine Ap Tryz.call147 (ih e.kids[x] (hok.2.2 _ (D4 hlt)) (by have:=ol e hlt;omega) _) ?_
  refine Z0 ?_;refine A2 [1,3,4] ?_;refine Z75 ?_;refine A2 [1,3,4] ?_;exact Be (x+1) hlt (by omega) (Bp (by simp only [hs1];congr 4;simp only [AV.v.injEq,Value.int.injEq,true_and];omega))
 have hxe:e.kids.take x=e.kids:=Fw (by simp at ht9;omega)
 have hdd:=Ij e
 refine Z41 ?_;refine Z1 ?_;refine Z3 ?_;exact Ab (Ao Ag) ⟨by rw [hxe,hdd];simp;omega,rfl⟩

def Mj (s:Str):Int:=if (((s==[108,101,110]) || (s==[115,116,114])) || (s==[110,117,109])) || (s==[105,115,110,117,108,108]) then 1 else if ((s==[110,118,108]) || (s==[108,101,102,116])) || (s==[114,105,103,104,116]) then 2 else if s==[105,102] then 3 else -1
theorem gu (s:Str):Ce s=Mj s:=by
 by_cases h:s∈arityList.map (·.1)
 ·have:((arityList.map (·.1)).all fun s=>decide (Ce s=Mj s))=true:=by kernel_rfl
  exact of_decide_eq_true (Ay.1 this s h)
 have h1:Ce s = -1:=by
  unfold Ce
  rw [W7.2 fun p hp=>by
   simp only [beq_iff_eq]
   rintro rfl
   exact h (F4.2 ⟨p,hp,rfl⟩)]
 rw [h1]
 simp only [arityList,Bs,Gu,C9,Hc,or_false,not_or] at h
 obtain ⟨a1,a2,a3,a4,a5,a6,a7,a8⟩:=h
 simp [Mj,a1,a2,a3,a4,a5,a6,a7,a8]
theorem AQj (s:Str) (Hp:List AObj):AFun Tryz.prog 205 [Ac s] Hp (A7 (Mj s)):=by
 refine B0 [.tmp 2] [0] Tryz.func205 Tryz.ntmps205 (fun d=>?_)
 refine Z59 ?_;refine Z35 ?_;refine A2 [3] ?_;refine Ic ?_;refine Z9 ?_;refine A2 [3,4] ?_
 refine A6 (fun ht4=>?_) (fun ht4=>?_)
 ·refine Z4 ?_
  refine A6 (fun ht4=>?_) (fun ht4=>?_)
  ·exact Z44
  refine Z9 ?_;refine A2 [3,9] ?_
  refine A6 (fun ht9=>?_) (fun ht9=>?_)
  ·refine Z4 ?_
   refine A6 (fun ht9=>?_) (fun ht9=>?_)
   ·exact Z44
   refine Z81 ?_
   refine A6 (fun ht13=>?_) (fun ht13=>?_)
   ·exact Z44
   exact Z93
  refine Z1 ?_;refine A2 [3,9] ?_
  refine A6 (fun ht9=>?_) (fun ht9=>?_)
  ·refine Z4 ?_
   refine A6 (fun ht9=>?_) (fun ht9=>?_)
   ·exact Z44
   refine Z81 ?_
   refine A6 (fun ht13=>?_) (fun ht13=>?_)
   ·exact Z44
   exact Z93
  refine Z21 ?_;refine AIr ?_
  refine A6 (fun ht9=>?_) (fun ht9=>?_)
  ·exact Z44
  refine Z81 ?_
  refine A6 (fun ht13=>?_) (fun ht13=>?_)
  ·exact Z44
  exact Z93
 refine Z1 ?_;refine A2 [3,4] ?_
 refine A6 (fun ht4=>?_) (fun ht4=>?_)
 ·refine Z4 ?_
  refine A6 (fun ht4=>?_) (fun ht4=>?_)
  ·exact Z44
  refine Z9 ?_;refine A2 [3,9] ?_
  refine A6 (fun ht9=>?_) (fun ht9=>?_)
  ·refine Z4 ?_
   refine A6 (fun ht9=>?_) (fun ht9=>?_)
   ·exact Z44
   refine Z81 ?_
   refine A6 (fun ht13=>?_) (fun ht13=>?_)
   ·exact Z44
   exact Z93
  refine Z1 ?_;refine A2 [3,9] ?_
  refine A6 (fun ht9=>?_) (fun ht9=>?_)
  ·refine Z4 ?_
   refine A6 (fun ht9=>?_) (fun ht9=>?_)
   ·exact Z44
   refine Z81 ?_
   refine A6 (fun ht13=>?_) (fun ht13=>?_)
   ·exact Z44
   exact Z93
  refine Z21 ?_;refine AIr ?_
  refine A6 (fun ht9=>?_) (fun ht9=>?_)
  ·exact Z44
  refine Z81 ?_
  refine A6 (fun ht13=>?_) (fun ht13=>?_)
  ·exact Z44
  exact Z93
 refine Z1 ?_;refine A2 [3,4] ?_
 refine A6 (fun ht4=>?_) (fun ht4=>?_)
 ·refine Z4 ?_
  refine A6 (fun ht4=>?_) (fun ht4=>?_)
  ·exact Z44
  refine Z9 ?_;refine A2 [3,9] ?_
  refine A6 (fun ht9=>?_) (fun ht9=>?_)
  ·refine Z4 ?_
   refine A6 (fun ht9=>?_) (fun ht9=>?_)
   ·exact Z44
   refine Z81 ?_
   refine A6 (fun ht13=>?_) (fun ht13=>?_)
   ·exact Z44
   exact Z93
  refine Z1 ?_;refine A2 [3,9] ?_
  refine A6 (fun ht9=>?_) (fun ht9=>?_)
  ·refine Z4 ?_
   refine A6 (fun ht9=>?_) (fun ht9=>?_)
   ·exact Z44
   refine Z81 ?_
   refine A6 (fun ht13=>?_) (fun ht13=>?_)
   ·exact Z44
   exact Z93
  refine Z21 ?_;refine AIr ?_
  refine A6 (fun ht9=>?_) (fun ht9=>?_)
  ·exact Z44
  refine Z81 ?_
  refine A6 (fun ht13=>?_) (fun ht13=>?_)
  ·exact Z44
  exact Z93
 refine Z21 ?_;refine A2 [3,4] ?_;refine Ig ?_
 refine A6 (fun ht4=>?_) (fun ht4=>?_)
 ·exact Z44
 refine Z9 ?_;refine A2 [3,9] ?_
 refine A6 (fun ht9=>?_) (fun ht9=>?_)
 ·refine Z4 ?_
  refine A6 (fun ht9=>?_) (fun ht9=>?_)
  ·exact Z44
  refine Z81 ?_
  refine A6 (fun ht13=>?_) (fun ht13=>?_)
  ·exact Z44
  exact Z93
 refine Z1 ?_;refine A2 [3,9] ?_
 refine A6 (fun ht9=>?_) (fun ht9=>?_)
 ·refine Z4 ?_
  refine A6 (fun ht9=>?_) (fun ht9=>?_)
  ·exact Z44
  refine Z81 ?_
  refine A6 (fun ht13=>?_) (fun ht13=>?_)
  ·exact Z44
  exact Z93
 refine Z21 ?_;refine AIr ?_
 refine A6 (fun ht9=>?_) (fun ht9=>?_)
 ·exact Z44
 refine Z81 ?_
 refine A6 (fun ht13=>?_) (fun ht13=>?_)
 ·exact Z44
 exact Z93

theorem AFl {s:Str} {x:Nat} (hx:x<levels.length) (h:levels[x].contains s=true) (h0:∀(j:Nat) (l:List Str),j<x→levels[j]? = some l→l.contains s=false):B8 s=(x:Int):=by
 unfold B8
 rw [AE0.2 ⟨hx,h,fun j hj=>by
  have e:=h0 j levels[j] hj (Ak _)
  show ¬(levels[j].contains s=true)
  rw [e]
  simp⟩]
theorem AFm {s:Str} (h0:∀(j:Nat) (l:List Str),j<levels.length→levels[j]? = some l→l.contains s=false):B8 s = -1:=by
 unfold B8
 rw [t6.2 fun l hl=>by
  obtain ⟨j,hj⟩:=Dp hl
  exact h0 j l (Aa.1 hj).1 hj]
theorem vz:levels.length=6:=rfl
theorem lp {x:Nat} (hx:x<levels.length):levels[x].length≤6:=by
 have:(levels.all fun l=>decide (l.length≤6))=true:=by kernel_rfl
 exact of_decide_eq_true (Ay.1 this _ (D4 hx))
theorem ew {l:List Str} {s:Str} (h:∀(j:Nat) (w:Str),j<l.length→l[j]? = some w→(w==s)=false):l.contains s=false:=by
 rw [Qr]
 intro hc
 have hm:s∈l:=by simpa using hc
 obtain ⟨j,hj⟩:=Dp hm
 have:=h j s (Aa.1 hj).1 hj
 simp at this
theorem ASm (s:Str) (Hp:List AObj):AFun Tryz.prog 112 [Ac s] Hp (A7 (B8 s)):=by
 refine B0 [.tmp 2] [0] Tryz.func112 Tryz.ntmps112 (fun d=>?_)
 refine Z59 ?_;refine Ei ?_;refine AMf ?_;refine AMf ?_;refine AMf ?_;refine AB3 ?_;refine Qm ?_;refine Z35 ?_;refine la ?_
 refine Bo (α:=Nat) (fun x=>⟨38,A9 0 (Ac s) (A9 3 (.slice true 1 (levels.map Jw)) (A9 4 (A7 (x:Nat)) (fun _=>.any))),Hp,[],[],none⟩) (fun x=>x≤levels.length∧∀(j:Nat) (l:List Str),j<x→levels[j]? = some l→l.contains s=false) (fun x=>levels.length-x) (0) ⟨Al _,fun j l h=>by omega⟩ (Gk _) rfl (fun x hx=>?_)
 refine Z42 ?_;refine A2 [0,3,4,16] ?_
 refine A6 (fun ht16=>?_) (fun ht16=>?_)
 ·have hlt:x<levels.length:=by simpa using ht16
  have h6:=vz
  have hls:=lp hlt
  refine Z56 ?_;refine Z2 ?_;refine o4 ?_
  refine Bo (α:=Nat) (fun y=>⟨38,A9 0 (Ac s) (A9 3 (.slice true 1 (levels.map Jw)) (A9 4 (A7 (x:Nat)) (A9 5 (A7 (y:Nat)) (fun _=>.any)))),Hp,[],[],none⟩) (fun y=>y≤levels[x].length∧∀(j:Nat) (w:Str),j<y→levels[x][j]? = some w→(w==s)=false) (fun y=>levels[x].length-y) (0) ⟨Al _,fun j l h=>by omega⟩ (Gk _) rfl (fun y hy=>?_)
  refine Z50 ?_
  refine A3 (h:=B2 (x) (Jw levels[x]) (fun _=>Ea hlt)) (hr:=?_)
  refine Z7 ?_;refine A2 [0,3,4,5,25] ?_
  refine A6 (fun ht25=>?_) (fun ht25=>?_)
  ·have hly:y<levels[x].length:=by simpa using ht25
   refine Z56 ?_;refine Z1 ?_
   refine A3 (h:=B2 (x) (Jw levels[x]) (fun _=>Ea hlt)) (hr:=?_)
   refine Z0 ?_
   refine A3 (h:=B2 (y) (Ac (levels[x])[y]) (fun _=>Ea hly)) (hr:=?_)
   refine Z7 ?_;refine A2 [0,3,4,5,36] ?_
   refine A6 (fun ht36=>?_) (fun ht36=>?_)
   ·refine Z1 ?_;refine Z3 ?_;refine Z46 ?_;refine Z66 ?_;exact Ab (Ao Ag) ⟨by rw [AFl hlt (by simp only [sr];have:=ht36;simp only [beq_iff_eq] at this;rw [←this];exact D4 hly) hx.2],rfl⟩
   refine Wf ?_;refine o4 ?_;exact Be (y+1) ⟨hly,Jx hly hy.2 ht36⟩ (by omega) (Bp rfl)
  have hny:levels[x].length≤y:=by simpa using ht25
  refine AB8 ?_;refine Z75 ?_;refine la ?_;exact Be (x+1) ⟨hlt,Jx hlt hx.2 (ew fun j w hj hw=>hy.2 j w (by omega) hw)⟩ (by omega) (Bp rfl)
 have hnx:levels.length≤x:=by simpa using ht16
 refine Z41 ?_;refine Z20 ?_;exact Ab (Ao Ag) ⟨by rw [AFm (fun j l hj h=>hx.2 j l (by omega) h)],rfl⟩

set_option maxRecDepth 8000
/-! The document's kinds of trees are infer's. -/
set_option maxRecDepth 4000
theorem yn {n:Nat} {U F:Nat→List AObj} {H':List AObj} (h:P5 (fun _=>true) U F n H'):H'=U n:=by
 rcases h with ⟨_,h⟩|⟨j,_,_,h,_⟩
 ·exact h
 cases h
theorem ABv {α:Type} {l:List α} {k:Nat} {y:α} (h:l[k]? = some y):l.take (k+1)=l.take k++[y]:=by rw [List.take_add_one,h];rfl
theorem AFn {L:List (Int×Expr)} {k:Nat} {it:Int×Expr} (h:L[k]? = some it):H9 0 (L.take (k+1))=if H9 0 (L.take k)<it.1 then it.1 else H9 0 (L.take k):=by
 have e:H9 0 (L.take (k+1))=max (H9 0 (L.take k)) it.1:=by
  unfold H9
  rw [ABv h,jx]
  rfl
 rw [e]
 split<;>omega
theorem gv {n k:Nat} {o:Bool} {l:List Str}:Low n (.slice o k (l.map Ac)):=by simp [or_imp,forall_and]
theorem ASn (n:Nat) (e:Expr) (hok:okE n e) (hn:n≤1048576) (hs:sizeE e≤1048576) (Hp:List AObj):AFun Tryz.prog 216 [Aj e] Hp (A7 (depthE e:Nat)):=by
 refine B0 [.tmp 2] [0,4] Tryz.func216 Tryz.ntmps216 (fun d=>?_)
 refine Z1 ?_;refine A2 [1,4] ?_;refine Ei ?_;refine Z11 ?_;refine A2 [1,3,4] ?_;refine Z71 ?_
 refine R.assumeLow (fun hlow=>?_)
 refine AMj ?_;refine A2 [3,4,6] ?_;refine Ic ?_
 refine W.rangeV (m:=1) Tryz.call141 (fun FR as' bd' hFR has hbd=>?_)
 have hFRl:∀s,Low (Hp.length+3) (FR s):=by
  intro s
  rw [hFR]
  refine Low.strip ?_
  revert s
  repeat (first|exact H3|refine H1 (by simp [oid,At]<;>try omega) ?_)
 have hOl:∀{k:Nat},∀x∈[AObj.cells 3 [A7 (H9 0 ((Bw 1 e).take k))],AObj.defs,AObj.loop LoopState.ready none FR 13 #[7,8] as' bd' (oid Hp.length 1)],ObjLow (Hp.length+3) x:=by
  intro k x hx
  simp only [C9,Ph,or_false] at hx
  rcases hx with rfl|rfl|rfl
  ·intro y hy
   rw [C1.1 hy]
   first|exact gv|simp
  ·trivial
  exact AIs
 refine ⟨fun _ H'=>P5 (fun _=>true) (fun k=>Hp++[AObj.cells 3 [A7 (H9 0 ((Bw 1 e).take k))],AObj.defs,AObj.loop LoopState.ready none FR 13 #[7,8] as' bd' (oid Hp.length 1)]) (fun k=>Hp++[AObj.cells 3 [A7 (H9 0 ((Bw 1 e).take k))],AObj.defs,AObj.loop LoopState.ready none FR 13 #[7,8] as' bd' (oid Hp.length 1)]) (Bw 1 e).length H',AMz (l:=oid Hp.length 2) (go:=fun _=>true) (U:=fun k=>Hp++[AObj.cells 3 [A7 (H9 0 ((Bw 1 e).take k))],AObj.defs,AObj.loop LoopState.ready none FR 13 #[7,8] as' bd' (oid Hp.length 1)]) (F:=fun k=>Hp++[AObj.cells 3 [A7 (H9 0 ((Bw 1 e).take k))],AObj.defs,AObj.loop LoopState.ready none FR 13 #[7,8] as' bd' (oid Hp.length 1)]) (n0:=Hp.length+3) ⟨fun k=>by simp,fun k=>by simp,fun k x hx=>?_,fun k x hx=>?_,by simp [oid],fun X k it hit hgo=>?_⟩ n hok hn,?_⟩
 ·exact AEq
 ·exact AEq
 ·have hklt:k<sizeE e:=by rw [←Il 1 e];exact (Aa.1 hit).1
  generalize hV:(Hp++[AObj.cells 3 [A7 (H9 0 ((Bw 1 e).take k))],AObj.defs,AObj.loop LoopState.ready none FR 13 #[7,8] as' bd' (oid Hp.length 1)]++X)=V
  have hL:V[oid Hp.length 2]? = some (AObj.loop LoopState.ready none FR 13 #[7,8] as' bd' (oid Hp.length 1)):=by rw [←hV,C8,Cj];rfl
  have hA0:V[oid Hp.length 0]? = some (AObj.cells 3 [A7 (H9 0 ((Bw 1 e).take k))]):=by rw [←hV,C8,Cj];rfl
  refine kv (pd:=none) (fr:=FR) (sz:=13) (ps:=#[7,8]) (df:=oid Hp.length 1) (asg:=as') (bd:=bd') hL rfl (by decide) (fun d=>?_)
  subst hFR has hbd
  refine Eh [3,7,8] ?_;refine Z32 ?_;refine A2 [3,4] ?_
  refine ⟨rfl,none,hL,?_⟩
  generalize hbz:(AObj.loop LoopState.busy _ _ _ _ _ _ _)=bz
  have hA:(V.set (oid Hp.length 2) bz)[oid Hp.length 0]? = some (AObj.cells 3 [A7 (H9 0 ((Bw 1 e).take k))]):=by rw [Gj (Iz (by decide))];exact hA0
  refine Ic ?_;refine Ky ?_
  refine A3 (h:=An hA) (hr:=?_)
  refine A3 ?_;refine R.maxI ?_
  refine Cv jS hA ?_ ?_
  ·simp
  refine Z96 ?_
  subst hbz
  refine K.rdN (nk hL (Iz (by decide))) ?_
  refine ⟨rfl,?_⟩
  rw [if_pos rfl]
  subst hV
  simp only [C8,O8,Ey,Fi,List.set_cons_succ,List.set_cons_zero]
  rw [AFn hit]
 intro r H' hq
 obtain rfl:=yn hq
 refine ⟨Hp,_,_,_,rfl,rfl,fun h=>h,?_,rfl,by simp,?_⟩
 ·intro o ho
  have:o=oid Hp.length 1:=by simpa using ho
  subst this
  rw [Cj]
  rfl
 refine Z12 ?_;refine Z1 ?_;refine Z3 ?_;exact Ab (Ao Ag) ⟨by rw [Yl,Xu],rfl⟩

theorem ASo (n:Nat) (e:Expr) (hok:okE n e) (hn:n≤1048576) (hs:sizeE e≤1048576) (Hp:List AObj):AFun Tryz.prog 218 [Aj e] Hp (A7 (sizeE e:Nat)):=by
 refine B0 [.tmp 2] [0] Tryz.func218 Tryz.ntmps218 (fun d=>?_)
 refine Z90 ?_;refine Ei ?_;refine Z11 ?_;refine A2 [1,3] ?_;refine Z71 ?_
 refine R.assumeLow (fun hlow=>?_)
 refine AMj ?_;refine A2 [3,5] ?_;refine Ic ?_
 refine W.rangeV (m:=1) Tryz.call141 (fun FR as' bd' hFR has hbd=>?_)
 have hFRl:∀s,Low (Hp.length+3) (FR s):=by
  intro s
  rw [hFR]
  refine Low.strip ?_
  revert s
  repeat (first|exact H3|refine H1 (by simp [oid,At]<;>try omega) ?_)
 have hOl:∀{k:Nat},∀x∈[AObj.cells 3 [A7 ((k:Nat))],AObj.defs,AObj.loop LoopState.ready none FR 11 #[6,7] as' bd' (oid Hp.length 1)],ObjLow (Hp.length+3) x:=by
  intro k x hx
  simp only [C9,Ph,or_false] at hx
  rcases hx with rfl|rfl|rfl
  ·intro y hy
   rw [C1.1 hy]
   first|exact gv|simp
  ·trivial
  exact AIs
 refine ⟨fun _ H'=>P5 (fun _=>true) (fun k=>Hp++[AObj.cells 3 [A7 ((k:Nat))],AObj.defs,AObj.loop LoopState.ready none FR 11 #[6,7] as' bd' (oid Hp.length 1)]) (fun k=>Hp++[AObj.cells 3 [A7 ((k:Nat))],AObj.defs,AObj.loop LoopState.ready none FR 11 #[6,7] as' bd' (oid Hp.length 1)]) (Bw 1 e).length H',AMz (l:=oid Hp.length 2) (go:=fun _=>true) (U:=fun k=>Hp++[AObj.cells 3 [A7 ((k:Nat))],AObj.defs,AObj.loop LoopState.ready none FR 11 #[6,7] as' bd' (oid Hp.length 1)]) (F:=fun k=>Hp++[AObj.cells 3 [A7 ((k:Nat))],AObj.defs,AObj.loop LoopState.ready none FR 11 #[6,7] as' bd' (oid Hp.length 1)]) (n0:=Hp.length+3) ⟨fun k=>by simp,fun k=>by simp,fun k x hx=>?_,fun k x hx=>?_,by simp [oid],fun X k it hit hgo=>?_⟩ n hok hn,?_⟩
 ·exact AEq
 ·exact AEq
 ·have hklt:k<sizeE e:=by rw [←Il 1 e];exact (Aa.1 hit).1
  generalize hV:(Hp++[AObj.cells 3 [A7 ((k:Nat))],AObj.defs,AObj.loop LoopState.ready none FR 11 #[6,7] as' bd' (oid Hp.length 1)]++X)=V
  have hL:V[oid Hp.length 2]? = some (AObj.loop LoopState.ready none FR 11 #[6,7] as' bd' (oid Hp.length 1)):=by rw [←hV,C8,Cj];rfl
  have hA0:V[oid Hp.length 0]? = some (AObj.cells 3 [A7 ((k:Nat))]):=by rw [←hV,C8,Cj];rfl
  refine kv (pd:=none) (fr:=FR) (sz:=11) (ps:=#[6,7]) (df:=oid Hp.length 1) (asg:=as') (bd:=bd') hL rfl (by decide) (fun d=>?_)
  subst hFR has hbd
  refine Eh [3,6,7] ?_;refine He ?_
  refine ⟨rfl,none,hL,?_⟩
  generalize hbz:(AObj.loop LoopState.busy _ _ _ _ _ _ _)=bz
  have hA:(V.set (oid Hp.length 2) bz)[oid Hp.length 0]? = some (AObj.cells 3 [A7 ((k:Nat))]):=by rw [Gj (Iz (by decide))];exact hA0
  refine Ic ?_;refine Ky ?_
  refine A3 (h:=An hA) (hr:=?_)
  refine A3 ?_
  refine Cv jS hA ?_ ?_
  ·simp
  refine Z96 ?_
  subst hbz
  refine K.rdN (nk hL (Iz (by decide))) ?_
  refine ⟨rfl,?_⟩
  rw [if_pos rfl]
  subst hV
  simp only [C8,O8,Ey,Fi,List.set_cons_succ,List.set_cons_zero]
  rfl
 intro r H' hq
 obtain rfl:=yn hq
 refine ⟨Hp,_,_,_,rfl,rfl,fun h=>h,?_,rfl,by simp,?_⟩
 ·intro o ho
  have:o=oid Hp.length 1:=by simpa using ho
  subst this
  rw [Cj]
  rfl
 refine Z12 ?_;refine Z1 ?_;refine Z3 ?_;exact Ab (Ao Ag) ⟨by rw [Il],rfl⟩

set_option maxRecDepth 8000
abbrev TK:=Int×Str
/-- What stands from word i on. -/
def seg (l:List Tok) (i:Nat):List TK:=(l.drop i).map ktT
theorem Bt {l:List Tok} {i:Nat} {k:Int} {t:Str} {r:List TK} (h:seg l i=(k,t)::r):(A4 l i).kind=k∧(A4 l i).text=t∧seg l (i+1)=r∧i<l.length:=by
 unfold seg at h ⊢
 rcases Aw i l.length with hi|hi
 ·rw [W5 hi,Bs,Qs] at h
  have e:A4 l i=l[i]:=by unfold A4;rw [F7,Ak hi];rfl
  rw [e]
  have h1:=h.1
  unfold ktT at h1
  rw [Yu] at h1
  exact ⟨h1.1,h1.2,h.2,hi⟩
 rw [List.drop_of_length_le hi] at h;cases h
theorem Ex {l:List Tok} {i:Nat} {ts rest:List TK} (h:seg l i=ts++rest):seg l (i+ts.length)=rest:=by
 unfold seg at h ⊢
 have:=congrArg (List.drop ts.length) h
 rw [List.drop_left,←List.map_drop,Qt] at this
 exact this
theorem Fz {l:List Tok} {S:PS} {of:Str} {k:Int} {t:Str} {r:List TK} (h:seg l S.i=(k,t)::r):isM l of S=(((k==5) || (k==2))&&Fy t of):=by
 unfold isM
 rw [(Bt h).1,(Bt h).2.1]
theorem lq {l:List Tok} {S:PS} {of:Str} (h:seg l S.i=[]):isM l of S=false:=by
 unfold seg at h
 have hi:l.length≤S.i:=by simpa using h
 unfold isM A4
 rw [F7,Gi hi]
 rfl
theorem py {w:Str} (hw:(32:UInt8)∉w) (h0:w≠[]) (s:Str):Fy s (32::(w++[32]))=(s==w):=by
 have e:(32::(w++[32]):Str)=Nj [w]:=rfl
 rw [Kg e (fun x hx=>by rw [C1.1 hx];exact hw) s]
 by_cases hs:s=[]
 ·subst hs
  cases w with
  | nil=>exact absurd rfl h0
  | cons a r=>rfl
 have:(s==[])=false:=by simpa using hs
 rw [this,N3]
 simp
theorem Ly (s:Str):s∈levels.flatten∨(B8 s = -1∧∀l∈levels,l.contains s=false):=by
 by_cases h:s∈levels.flatten
 ·exact .inl h
 have h2:∀l∈levels,l.contains s=false:=fun l hl=>by
  rw [Qr]
  intro h3
  exact h (List.mem_flatten.2 ⟨l,hl,by simpa using h3⟩)
 refine .inr ⟨?_,h2⟩
 unfold B8
 rw [t6.2 fun l hl=>h2 l hl]
/-- The texts of levels of marks. -/
def ofL (k:Nat):Str:=if k=0 then orT else if k=1 then vp else if k=3 then Ya else if k=4 then vq else bg
theorem Im {k:Nat} (hk:k=0∨k=1∨k=3∨k=4∨k=5) (s:Str):Fy s (ofL k)=(B8 s==(k:Int)):=by
 have e:ofL k=Nj (levels.getD k []):=by rcases hk with rfl|rfl|rfl|rfl|rfl<;>kernel_rfl
 have hp:∀w∈levels.getD k [],(32:UInt8)∉w:=by rcases hk with rfl|rfl|rfl|rfl|rfl<;>decide
 have hm:levels.getD k []∈levels:=by rcases hk with rfl|rfl|rfl|rfl|rfl<;>decide
 rw [Kg e hp s]
 rcases Ly s with h|⟨h1,h2⟩
 ·have h3:(levels.flatten.all fun s=>decide ((!(s==[])&&(levels.getD k []).contains s)=(B8 s==(k:Int))))=true:=by rcases hk with rfl|rfl|rfl|rfl|rfl<;>kernel_rfl
  exact of_decide_eq_true (Ay.1 h3 s h)
 rw [h2 _ hm,h1,Zt]
 symm
 rw [beq_eq_false_iff_ne]
 omega
theorem V7 (s:Str) : -1≤B8 s∧B8 s≤5∧B8 s≠2:=by
 rcases Ly s with h|⟨h,_⟩
 ·have h3:(levels.flatten.all fun s=>decide (-1≤B8 s∧B8 s≤5∧B8 s≠2))=true:=by kernel_rfl
  exact of_decide_eq_true (Ay.1 h3 s h)
 omega
/-- A row of words behind which no mark of a level, or of a tighter one, stands. -/
def stops (k:Nat) (rest:List TK):Prop:=∀h r,rest=h::r→((h.1==5) || (h.1==2))=true→B8 h.2<(k:Int)∧h.2≠[40]
theorem stops.mono {k k':Nat} {rest:List TK} (h:stops k rest) (hk:k≤k'):stops k' rest:=fun a r e hm=>⟨by have:=(h a r e hm).1;omega,(h a r e hm).2⟩
theorem My {l:List Tok} {S:PS} {k:Nat} {rest:List TK} (h:stops k rest) (hs:seg l S.i=rest) (hk:k=0∨k=1∨k=3∨k=4∨k=5):isM l (ofL k) S=false:=by
 cases rest with
 | nil=>exact lq hs
 | cons a r =>
  obtain ⟨ka,ta⟩:=a
  rw [Fz hs,Im hk]
  cases hb:((ka==5) || (ka==2)) with
  | false=>rfl
  | true =>
   have:=(h _ _ rfl hb).1
   rw [D0,beq_eq_false_iff_ne]
   show B8 ta≠_
   have:B8 ta<(k:Int):=this
   omega
def Q5:Str:=[110,111,116]
def levE (e:Expr):Nat:=if e.op==4 then 2 else if e.op==3 then 6 else if e.op==5 then (B8 e.text).toNat else 7
theorem AJq (e:Expr):levE e≤7:=by
 have:=V7 e.text
 unfold levE
 repeat' split
 all_goals omega
def G7 (least:Nat) (x:Expr) (T:List TK):List TK:=if least≤levE x then T else (5,[40])::(T++[(5,[41])])
def Gr (least:Nat) (x:Expr) (n:Nat):Nat:=if least≤levE x then n else n+1
def Fg (own:Nat):Nat:=if own=3 then 4 else own
def L3 (v:Val):TK:=if v.kind==1 then (3,De v) else if v.kind==2 then (4,v.s) else (2,De v)
def opTok (t:Str):TK:=(if Cw (t.headD 0) then 2 else 5,t)
def Ko:List (List TK)→List TK
 | []=>[]
 | T::r=>(5,[44])::(T++Ko r)
def bw (o:Int) (t:Str) (v:Val) (k:List Expr) (ts:List (List TK)):List TK:=
 if o==1 then [L3 v] else if o==2 then [(1,t)]
 else if o==3 then (5,[45])::G7 6 (k.getD 0 Ax) (ts.getD 0 [])
 else if o==4 then (2,Q5)::G7 2 (k.getD 0 Ax) (ts.getD 0 [])
 else if o==5 then G7 (Fg (B8 t).toNat) (k.getD 0 Ax) (ts.getD 0 [])++opTok t::G7 ((B8 t).toNat+1) (k.getD 1 Ax) (ts.getD 1 [])
 else (1,t)::(5,[40])::((Ko ts).drop 1++[(5,[41])])
mutual
def Au:Expr→List TK
 | .mk o t v k=>bw o t v k (I7 k)
def I7:List Expr→List (List TK)
  | []=>[]
  | e::r=>Au e::I7 r
 end
def w4:List Nat→Nat
 | []=>0
 | n::r=>max n (w4 r)
def Xv (o:Int) (t:Str) (k:List Expr) (ns:List Nat):Nat:=
 if o==1 then 0 else if o==2 then 0
 else if o==3 then 1+Gr 6 (k.getD 0 Ax) (ns.getD 0 0)
 else if o==4 then 1+Gr 2 (k.getD 0 Ax) (ns.getD 0 0)
 else if o==5 then max (Gr (Fg (B8 t).toNat) (k.getD 0 Ax) (ns.getD 0 0)) (Gr ((B8 t).toNat+1) (k.getD 1 Ax) (ns.getD 1 0))
 else 1+w4 ns
mutual
def C2:Expr→Nat
 | .mk o t v k=>Xv o t k (Ro k)
def Ro:List Expr→List Nat
  | []=>[]
  | e::r=>C2 e::Ro r
 end
theorem gw:∀l,I7 l=l.map Au
 | []=>rfl
 | e::r=>by rw [I7,gw r];rfl
theorem yo:∀(l:List Expr),∀y∈l,C2 y≤w4 (Ro l)
 | [],y,h=>by cases h
 | e::r,y,h=>by
  rw [Ro,w4]
  rcases C9.1 h with rfl|h
  ·omega
  have:=yo r y h;omega
theorem AJr {v:Val} (h:Ls v=true):v=noV:=by
 unfold Ls at h
 simp only [Ah,beq_iff_eq] at h
 cases v
 simp_all [noV]
/-- What a right node is. -/
inductive NodeC:Expr→Prop
 | val (v:Val) (h:Dr v=true) (h0:0≤v.n):NodeC (G6 v)
 | name (t:Str) (h:H8 t=true):NodeC (Bj t)
 | neg (a:Expr):NodeC (Cy 3 a)
 | no (a:Expr):NodeC (Cy 4 a)
 | bin (t:Str) (a b:Expr) (h:0≤B8 t):NodeC (Dn t a b)
 | call (t:Str) (k:List Expr) (h:Ce t=(k.length:Int)):NodeC (.mk 6 t noV k)
theorem Jo (o:Int) (t:Str) (v:Val) (k:List Expr):V6 (.mk o t v k) =
 if o==1 then ((Dr v&&decide (0≤v.n))&&(t==[]))&&((k.length:Int)==0)
 else if !(Ls v) then false
 else if o==2 then H8 t&&((k.length:Int)==0)
 else if o==3 || o==4 then (t==[])&&((k.length:Int)==1)
 else if o==5 then decide (0≤B8 t)&&((k.length:Int)==2)
 else if o==6 then Ce t==(k.length:Int)
 else false:=rfl
theorem L4 {e:Expr} (h:Cl e=true):NodeC e:=by
 rw [Lw] at h
 cases e with
 | mk o t v k =>
 rw [Jo] at h
 by_cases h1:(o==1)=true
 ·rw [if_pos h1] at h
  simp only [Ah,beq_iff_eq,decide_eq_true_eq] at h h1
  obtain ⟨⟨⟨a1,a2⟩,a3⟩,a4⟩:=h
  subst h1
  subst a3
  have:k=[]:=by cases k with|nil=>rfl|cons x r=>simp at a4;omega
  subst this
  exact .val v a1 a2
 rw [if_neg h1] at h
 by_cases hb:(!(Ls v))=true
 ·rw [if_pos hb] at h;cases h
 rw [if_neg hb] at h
 have hv:v=noV:=AJr (by simpa using hb)
 subst hv
 by_cases h2:(o==2)=true
 ·rw [if_pos h2] at h
  simp only [Ah,beq_iff_eq] at h h2
  subst h2
  have:k=[]:=by cases k with|nil=>rfl|cons x r=>have:=h.2;simp at this;omega
  subst this
  exact .name t h.1
 rw [if_neg h2] at h
 by_cases h3:(o==3 || o==4)=true
 ·rw [if_pos h3] at h
  simp only [Ah,Cz,beq_iff_eq] at h h3
  obtain ⟨rfl,h4⟩:=h
  match k,h4 with
  | [a],_ =>
   rcases h3 with rfl|rfl
   ·exact .neg a
   exact .no a
  | [],h4=>simp at h4
  | _::_::_,h4=>simp at h4;omega
 rw [if_neg h3] at h
 by_cases h5:(o==5)=true
 ·rw [if_pos h5] at h
  simp only [Ah,beq_iff_eq,decide_eq_true_eq] at h h5
  subst h5
  match k,h.2 with
  | [a,b],_=>exact .bin t a b h.1
  | [],h4=>simp at h4
  | [_],h4=>simp at h4
  | _::_::_::_,h4=>simp at h4;omega
 rw [if_neg h5] at h
 by_cases h6:(o==6)=true
 ·rw [if_pos h6] at h
  simp only [beq_iff_eq] at h h6
  subst h6
  exact .call t k h
 rw [if_neg h6] at h;cases h
/-- The functions of the levels. -/
def pf (l:List Tok) (D:Fam):Nat→PS→Expr×PS
 | 0=>Q3 l D
 | 1=>V2 l D
 | 2=>Lv l D
 | 3=>D6 l D
 | 4=>Ct l D
 | 5=>V1 l D
 | 6=>Lu l D
 | _=>Eo l D
abbrev fam (l:List Tok) (n:Nat):Fam:=Cn l (30-n)
theorem V8 {l:List Tok} {n:Nat} (h:n<30):fam l n=⟨pf l (fam l (n+1)) 0,pf l (fam l (n+1)) 2,pf l (fam l (n+1)) 6⟩:=by
 unfold fam
 rw [show 30-n=(30-(n+1))+1 by omega]
 rfl
def adv (S:PS) (n:Nat):PS:=⟨S.i+n,S.nest,S.code,S.at_⟩
theorem Jc (S:PS) (a b:Nat):adv (adv S a) b=adv S (a+b):=by unfold adv;simp [Is]
theorem Lz (S:PS):A5 S=adv S 1:=rfl
/-- A level is as the tighter one, where nothing of it stands. -/
theorem AJs {l:List Tok} {D:Fam} {k:Nat} (hk:k≤6) {S:PS} {x:Expr} {n:Nat} {rest:List TK} (h:pf l D (k+1) S=(x,adv S n)) (h0:S.code=0) (hs:seg l (S.i+n)=rest) (hst:stops k rest) (hnot:k=2→isM l pg S=false) (hneg:k=6→isM l ph S=false):pf l D k S=(x,adv S n):=by
 have hl:∀of:Str,isM l of (adv S n)=false→∀m,J2 l of (pf l D (k+1)) m (x,adv S n)=(x,adv S n):=fun of ho m=>by
  cases m with
  | zero=>rfl
  | succ m=>rw [J2,if_neg (by rw [ho];simp)]
 have left:∀of:Str,isM l of (adv S n)=false→F9 l of (pf l D (k+1)) S=(x,adv S n):=fun of ho=>by
  unfold F9
  rw [h]
  exact hl of ho _
 match k,hk with
 | 0,_=>exact left orT (My (k:=0) hst hs (by omega))
 | 1,_=>exact left vp (My (k:=1) hst hs (by omega))
 | 2,_ =>
  show Lv l D S=_
  unfold Lv
  rw [hnot rfl]
  exact h
 | 3,_ =>
  show D6 l D S=_
  have h':Ct l D S=(x,adv S n):=h
  unfold D6
  rw [h',if_pos (by rw [show isM l Ya (adv S n)=false from My (k:=3) hst hs (by omega)];simp)]
 | 4,_=>exact left vq (My (k:=4) hst hs (by omega))
 | 5,_=>exact left bg (My (k:=5) hst hs (by omega))
 | 6,_ =>
  show Lu l D S=_
  unfold Lu
  rw [hneg rfl]
  exact h
theorem lr {l:List Tok} {D:Fam} {S:PS} {x:Expr} {n:Nat} {rest:List TK} (h0:S.code=0) (hs:seg l (S.i+n)=rest):∀(m k j:Nat),k+m=j→j≤7→pf l D j S=(x,adv S n)→stops k rest→(3≤j→isM l pg S=false)→(7≤j→isM l ph S=false)→pf l D k S=(x,adv S n)
 | 0,k,j,e,_,h,_,_,_=>by rw [show k=j by omega];exact h
 | m+1,k,j,e,hj,h,hst,h1,h2=>AJs (by omega) (lr h0 hs m (k+1) j (by omega) hj h (hst.mono (by omega)) h1 h2) h0 hs hst (fun _=>h1 (by omega)) (fun _=>h2 (by omega))
def T1 (l:List Tok) (x:Expr):Prop:=∀(k:Nat) (S:PS) (rest:List TK),k≤levE x→S.code=0→S.nest+C2 x≤30→seg l S.i=Au x++rest→stops k rest→pf l (fam l S.nest) k S=(x,adv S (Au x).length)
def T2 (l:List Tok) (x:Expr):Prop:=∀(k:Nat) (S:PS) (rest:List TK),(k=0∨k=1∨k=4∨k=5)→k≤levE x→S.code=0→S.nest+C2 x≤30→seg l S.i=Au x++rest→stops (k+1) rest →
 ∃n,l.length≤S.i+(Au x).length+n∧F9 l (ofL k) (pf l (fam l S.nest) (k+1)) S=J2 l (ofL k) (pf l (fam l S.nest) (k+1)) n (x,adv S (Au x).length)
theorem V9 (s w:Str) (h1:(32:UInt8)∉w) (h2:w≠[]) {of:Str} (h:of=32::(w++[32])):Fy s of=(s==w):=by rw [h];exact py h1 h2 s
theorem w5 (s:Str):Fy s pg=(s==Q5):=V9 s Q5 (by decide) (by decide) rfl
theorem w6 (s:Str):Fy s ph=(s==[45]):=V9 s [45] (by decide) (by decide) rfl
theorem AFo (s:Str):Fy s opT=(s==[40]):=V9 s [40] (by decide) (by decide) rfl
theorem pz (s:Str):Fy s Mi=(s==[44]):=V9 s [44] (by decide) (by decide) rfl
def litWords:List Str:=[[116,114,117,101],[102,97,108,115,101],[110,117,108,108]]
theorem w7 (s:Str):Fy s Wo=(!(s==[])&&litWords.contains s):=Kg (show Wo=Nj litWords by kernel_rfl) (by decide) s
/-- In brackets. -/
theorem AFp {l:List Tok} {y:Expr} (hy:T1 l y) {S:PS} {rest:List TK} (h0:S.code=0) (hn:S.nest+(C2 y+1)≤30) (hs:seg l S.i=((5,[40])::(Au y++[(5,[41])]))++rest):
  pf l (fam l S.nest) 7 S=(y,adv S ((5,[40])::(Au y++[((5,[41]):TK)])).length):=by
 have hs':seg l S.i=(5,[40])::(Au y++(5,[41])::rest):=by rw [hs];simp
 obtain ⟨k1,t1,r1,i1⟩:=Bt hs'
 have e1:isM l Wo S=false:=by rw [Fz hs',w7];decide
 have e2:isM l opT S=true:=by rw [Fz hs',AFo];decide
 show Eo l (fam l S.nest) S=_
 unfold Eo
 rw [if_neg (by rw [h0];decide),k1,e1,if_neg (by decide),if_neg (by decide),if_neg (by decide),if_pos e2]
 have hw:Bb (A4 l S.i).at_ (fam l S.nest).ei (A5 S)=(y,adv (A5 S) (Au y).length):=by
  unfold Bb
  rw [if_neg (by show ¬(((S.nest:Int)==30)=true);simp;omega),V8 (by omega)]
  have:=hy 0 (B7 (A5 S)) ((5,[41])::rest) (Al _) h0 (by show S.nest+1+C2 y≤30;omega) r1 (fun h r e hm=>by
   injection e with e _
   subst e
   exact ⟨by decide,by decide⟩)
  show ((pf l (fam l (S.nest+1)) 0 (B7 (A5 S))).1,Hq (pf l (fam l (S.nest+1)) 0 (B7 (A5 S))).2)=_
  have this':pf l (fam l (S.nest+1)) 0 (B7 (A5 S))=(y,adv (B7 (A5 S)) (Au y).length):=this
  rw [this']
  rfl
 rw [hw]
 have r2:=Ex r1
 have hc:Bx l Bu (adv (A5 S) (Au y).length)=adv (A5 S) ((Au y).length+1):=by
  obtain ⟨k2,t2,_,_⟩:=Bt r2
  unfold Bx
  rw [if_neg (by show ¬((S.code != 0)=true);rw [h0];decide)]
  have k2':(A4 l (adv (A5 S) (Au y).length).i).kind=5:=k2
  have t2':(A4 l (adv (A5 S) (Au y).length).i).text=[41]:=t2
  rw [k2',t2',if_neg (by decide)]
  rfl
 show (y,Bx l Bu (adv (A5 S) (Au y).length))=_
 rw [hc,Lz,Jc]
 congr 2
 simp
 omega
/-- A kid at a level. -/
theorem Ws {l:List Tok} {y:Expr} (hy:T1 l y) {k:Nat} (hk:k≤7) {S:PS} {rest:List TK} (h0:S.code=0) (hn:S.nest+Gr k y (C2 y)≤30) (hs:seg l S.i=G7 k y (Au y)++rest) (hst:stops k rest):
  pf l (fam l S.nest) k S=(y,adv S (G7 k y (Au y)).length):=by
 unfold G7 at hs ⊢
 unfold Gr at hn
 by_cases hl:k≤levE y
 ·rw [if_pos hl] at hs hn ⊢
  exact hy k S rest hl h0 hn hs hst
 rw [if_neg hl] at hs hn ⊢
 have hs':seg l S.i=(5,[40])::(Au y++(5,[41])::rest):=by rw [hs];simp
 exact lr h0 (Ex hs) (7-k) k 7 (by omega) (Ae _) (AFp hy h0 (by omega) hs) hst (fun _=>by rw [Fz hs',w5];decide) (fun _=>by rw [Fz hs',w6];decide)
theorem bx (v:Val):Au (G6 v)=[L3 v]:=by simp [G6,Au,bw]
theorem Wt (t:Str):Au (Bj t)=[(1,t)]:=by simp [Bj,Au,bw]
theorem c6 (a:Expr):Au (Cy 3 a)=(5,[45])::G7 6 a (Au a):=by simp [Cy,Au,I7,bw]
theorem ls (a:Expr):Au (Cy 4 a)=(2,Q5)::G7 2 a (Au a):=by simp [Cy,Au,I7,bw]
theorem Va (t:Str) (a b:Expr):Au (Dn t a b)=G7 (Fg (B8 t).toNat) a (Au a)++opTok t::G7 ((B8 t).toNat+1) b (Au b):=by simp [Dn,Au,I7,bw]
theorem Wu (t:Str) (k:List Expr):Au (.mk 6 t noV k)=(1,t)::(5,[40])::((Ko (I7 k)).drop 1++[(5,[41])]):=by simp [Au,bw]
theorem q9 (v:Val):C2 (G6 v)=0:=by simp [G6,C2,Xv]
theorem ABw (t:Str):C2 (Bj t)=0:=by simp [Bj,C2,Xv]
theorem qb (a:Expr):C2 (Cy 3 a)=1+Gr 6 a (C2 a):=by simp [Cy,C2,Ro,Xv]
theorem yp (a:Expr):C2 (Cy 4 a)=1+Gr 2 a (C2 a):=by simp [Cy,C2,Ro,Xv]
theorem Vb (t:Str) (a b:Expr):C2 (Dn t a b)=max (Gr (Fg (B8 t).toNat) a (C2 a)) (Gr ((B8 t).toNat+1) b (C2 b)):=by simp [Dn,C2,Ro,Xv]
theorem gx (t:Str) (k:List Expr):C2 (.mk 6 t noV k)=1+w4 (Ro k):=by simp [C2,Xv]
theorem Zf (v:Val):levE (G6 v)=7:=by simp [levE,G6,Expr.op]
theorem ca (t:Str):levE (Bj t)=7:=by simp [levE,Bj,Expr.op]
theorem Zg (a:Expr):levE (Cy 3 a)=6:=by simp [levE,Cy,Expr.op]
theorem lu (a:Expr):levE (Cy 4 a)=2:=by simp [levE,Cy,Expr.op]
theorem Vc (t:Str) (a b:Expr):levE (Dn t a b)=(B8 t).toNat:=by simp [levE,Dn,Expr.op,Expr.text]
theorem cb (t:Str) (k:List Expr):levE (.mk 6 t noV k)=7:=by simp [levE,Expr.op]
/-- What a right value is. -/
theorem Oc {v:Val} (h:Dr v=true):v=⟨0,0,[]⟩∨v=⟨1,v.n,[]⟩∨(v=⟨2,0,v.s⟩∧v.s.length≤200)∨v=⟨3,0,[]⟩∨v=⟨3,1,[]⟩:=by
 obtain ⟨k,n,s⟩:=v
 unfold Dr at h
 simp only at h
 split at h
 ·rename_i h1
  simp only [Ah,beq_iff_eq] at h h1
  obtain ⟨rfl,rfl⟩:=h
  subst h1
  exact .inl rfl
 split at h
 ·rename_i h1
  simp only [beq_iff_eq] at h h1
  subst h h1
  exact .inr (.inl rfl)
 split at h
 ·rename_i h1
  simp only [Ah,beq_iff_eq,decide_eq_true_eq] at h h1
  obtain ⟨rfl,h3⟩:=h
  subst h1
  exact .inr (.inr (.inl ⟨rfl,by show s.length≤200;omega⟩))
 simp only [Ah,beq_iff_eq,decide_eq_true_eq] at h
 obtain ⟨⟨⟨rfl,rfl⟩,h3⟩,h4⟩:=h
 have:n=0∨n=1:=by omega
 rcases this with rfl|rfl
 ·exact .inr (.inr (.inr (.inl rfl)))
 exact .inr (.inr (.inr (.inr rfl)))
def w9 (h:TK) (w:Str):Bool:=((h.1==5) || (h.1==2))&&(h.2==w)
theorem qc:∀(n:Nat) (x:Expr),sizeE x≤n→E5 Cl x=true→∃h r,Au x=h::r∧(3≤levE x→w9 h Q5=false)∧(7≤levE x→w9 h [45]=false)
 | 0,x,hn,_=>by rw [Ij] at hn;omega
 | n+1,x,hn,hx=>by
  rw [Hl,Ah] at hx
  obtain ⟨h1,h2⟩:=hx
  cases L4 h1 with
  | val v hv h0 =>
   rw [bx]
   refine ⟨_,_,rfl,fun _=>?_,fun _=>?_⟩<;>rcases Oc hv with e|e|⟨e,_⟩|e|e<;>rw [e]<;>first|rfl|kernel_rfl
  | name t ht=>rw [Wt];exact ⟨_,_,rfl,fun _=>rfl,fun _=>rfl⟩
  | neg a=>rw [c6,Zg];exact ⟨_,_,rfl,fun _=>by decide,fun h=>by omega⟩
  | no a=>rw [ls,lu];exact ⟨_,_,rfl,fun h=>by omega,fun h=>by omega⟩
  | call t k hk=>rw [Wu];exact ⟨_,_,rfl,fun _=>rfl,fun _=>rfl⟩
  | bin t a b ht =>
   rw [Va,Vc]
   have hlv:=V7 t
   have ha:sizeE a≤n:=by
    rw [Ij] at hn
    have:Cs [a,b]≤n:=by have:(Dn t a b).kids=[a,b]:=rfl;rw [this] at hn;omega
    simp [Cs] at this
    omega
   have hxa:E5 Cl a=true:=(Gf _ _).1 h2 a (by simp [Dn,Expr.kids])
   obtain ⟨h,r,e,g1,g2⟩:=qc n a ha hxa
   unfold G7
   split
   ·rename_i hl
    rw [e]
    refine ⟨h,_,rfl,fun h3=>g1 ?_,fun h7=>by omega⟩
    unfold Fg at hl
    split at hl<;>omega
   exact ⟨_,_,rfl,fun _=>by decide,fun h7=>by omega⟩
theorem AJt {l:List Tok} {S:PS} {x:Expr} {rest:List TK} (hx:E5 Cl x=true) (hs:seg l S.i=Au x++rest):(3≤levE x→isM l pg S=false)∧(7≤levE x→isM l ph S=false):=by
 obtain ⟨⟨k,t⟩,r,e,g1,g2⟩:=qc _ x (Ae _) hx
 rw [e] at hs
 refine ⟨fun h=>?_,fun h=>?_⟩
 ·rw [Fz (r:=r++rest) hs,w5];exact g1 h
 rw [Fz (r:=r++rest) hs,w6];exact g2 h
/-- From a tree's own level to all. -/
theorem ABx {l:List Tok} {x:Expr} (hx:E5 Cl x=true) (hA:∀(S:PS) (rest:List TK),S.code=0→S.nest+C2 x≤30→seg l S.i=Au x++rest→stops (levE x) rest→pf l (fam l S.nest) (levE x) S=(x,adv S (Au x).length))
  (hB:∀(S:PS) (rest:List TK),(levE x=0∨levE x=1∨levE x=4∨levE x=5)→S.code=0→S.nest+C2 x≤30→seg l S.i=Au x++rest→stops (levE x+1) rest →
   ∃n,l.length≤S.i+(Au x).length+n∧F9 l (ofL (levE x)) (pf l (fam l S.nest) (levE x+1)) S=J2 l (ofL (levE x)) (pf l (fam l S.nest) (levE x+1)) n (x,adv S (Au x).length)):T1 l x∧T2 l x:=by
 have h1:T1 l x:=fun k S rest hk h0 hn hs hst=>by
  obtain ⟨g1,g2⟩:=AJt hx hs
  exact lr h0 (Ex hs) (levE x-k) k (levE x) (by omega) (AJq x) (hA S rest h0 hn hs (hst.mono hk)) hst g1 g2
 refine ⟨h1,fun k S rest hk hkl h0 hn hs hst=>?_⟩
 rcases Aw k (levE x) with h|h
 ·refine ⟨l.length,by omega,?_⟩
  unfold F9
  rw [h1 (k+1) S rest h h0 hn hs hst]
 obtain rfl:k=levE x:=by omega
 exact hB S rest hk h0 hn hs hst
theorem Vd {k:Nat} (hk:k=0∨k=1∨k=4∨k=5):k=0∨k=1∨k=3∨k=4∨k=5:=by omega
theorem AJu {l:List Tok} {D:Fam} {k:Nat} (hk:k=0∨k=1∨k=4∨k=5):pf l D k=F9 l (ofL k) (pf l D (k+1)):=by rcases hk with rfl|rfl|rfl|rfl<;>rfl
theorem cd {t:Str} {k:Nat} {r:List TK} (h0:0≤B8 t) (hk:B8 t<(k:Int)):stops k (opTok t::r):=fun h r' e _=>by
 injection e with e _
 subst e
 exact ⟨hk,fun e=>by have:t=[40]:=e;subst this;revert h0;decide⟩
theorem ALl {l:List Tok} {S:PS} {t:Str} {r:List TK} {of:Str} (hs:seg l S.i=opTok t::r):isM l of S=Fy t of:=by
 have:=Fz (of:=of) (k:=if Cw (t.headD 0) then 2 else 5) (t:=t) hs
 rw [this]
 split<;>simp
theorem gy {e:Expr} {n:Nat} (h:sizeE e≤n+1) {y:Expr} (hy:y∈e.kids):sizeE y≤n:=by
 rw [Ij] at h
 obtain ⟨i,hi,rfl⟩:=Qy hy
 have:=Wm e.kids hi
 omega
theorem AQk {l:List Tok} {t:Str} {a b:Expr} (ht:0≤B8 t) (hx:E5 Cl (Dn t a b)=true) (ha:T1 l a∧T2 l a) (hb:T1 l b):T1 l (Dn t a b)∧T2 l (Dn t a b):=by
 have hlv:=V7 t
 obtain ⟨own,hown⟩:∃own,own=(B8 t).toNat:=⟨_,rfl⟩
 have hoi:B8 t=(own:Int):=by omega
 have hB:∀(S:PS) (rest:List TK),(own=0∨own=1∨own=4∨own=5)→S.code=0→S.nest+C2 (Dn t a b)≤30→seg l S.i=Au (Dn t a b)++rest→stops (own+1) rest →
   ∃n,l.length≤S.i+(Au (Dn t a b)).length+n∧F9 l (ofL own) (pf l (fam l S.nest) (own+1)) S=J2 l (ofL own) (pf l (fam l S.nest) (own+1)) n (Dn t a b,adv S (Au (Dn t a b)).length):=by
  intro S rest hl h0 hn hs hst
  rw [Va,←hown,show Fg own=own by unfold Fg;split<;>omega] at hs ⊢
  rw [Vb,←hown,show Fg own=own by unfold Fg;split<;>omega] at hn
  have hs':seg l S.i=G7 own a (Au a)++(opTok t::(G7 (own+1) b (Au b)++rest)):=by rw [hs];simp
  have hna:S.nest+Gr own a (C2 a)≤30:=by omega
  have hRA:∃n,l.length≤S.i+(G7 own a (Au a)).length+n∧F9 l (ofL own) (pf l (fam l S.nest) (own+1)) S=J2 l (ofL own) (pf l (fam l S.nest) (own+1)) n (a,adv S (G7 own a (Au a)).length):=by
   by_cases hla:own≤levE a
   ·have e1:G7 own a (Au a)=Au a:=if_pos hla
    have e2:Gr own a (C2 a)=C2 a:=if_pos hla
    rw [e1] at hs' ⊢
    rw [e2] at hna
    exact ha.2 own S _ hl hla h0 hna hs' (cd ht (by omega))
   have e1:G7 own a (Au a)=G7 (own+1) a (Au a):=by unfold G7;rw [if_neg hla,if_neg (by omega)]
   have e2:Gr own a (C2 a)=Gr (own+1) a (C2 a):=by unfold Gr;rw [if_neg hla,if_neg (by omega)]
   rw [e1] at hs' ⊢
   rw [e2] at hna
   refine ⟨l.length,by omega,?_⟩
   unfold F9
   rw [Ws ha.1 (by omega) h0 hna hs' (cd ht (by omega))]
  obtain ⟨n,hn1,hn2⟩:=hRA
  have s1:=Ex hs'
  have s1':seg l (adv S (G7 own a (Au a)).length).i=opTok t::(G7 (own+1) b (Au b)++rest):=s1
  obtain ⟨_,tx,s2,i1⟩:=Bt s1'
  obtain ⟨m,rfl⟩:∃m,n=m+1:=⟨n-1,by have:S.i+(G7 own a (Au a)).length<l.length:=i1;omega⟩
  refine ⟨m,by simp only [Ai,Aq];omega,?_⟩
  rw [hn2,J2,if_pos (by
   show (((adv S (G7 own a (Au a)).length).code==0)&&isM l (ofL own) (adv S (G7 own a (Au a)).length))=true
   rw [ALl s1',Im (Vd hl),hoi]
   show ((S.code==0)&&_)=true
   rw [h0]
   simp)]
  have hk:=Ws (l:=l) (S:=adv S ((G7 own a (Au a)).length+1)) hb (k:=own+1) (by omega) h0 (show S.nest+Gr (own+1) b (C2 b)≤30 by omega) s2 hst
  have e3:A5 (adv S (G7 own a (Au a)).length)=adv S ((G7 own a (Au a)).length+1):=by rw [Lz,Jc]
  show J2 l (ofL own) _ m (Dn (A4 l (adv S (G7 own a (Au a)).length).i).text a (pf l (fam l S.nest) (own+1) (A5 (adv S (G7 own a (Au a)).length))).1,(pf l (fam l S.nest) (own+1) (A5 (adv S (G7 own a (Au a)).length))).2)=_
  rw [e3,tx,show pf l (fam l S.nest) (own+1) (adv S ((G7 own a (Au a)).length+1))=_ from hk,Jc]
  exact congrArg (fun n=>J2 l (ofL own) (pf l (fam l S.nest) (own+1)) m (Dn t a b,adv S n)) (by simp only [Ai,Aq];omega)
 refine ABx hx ?_ ?_
 ·rw [Vc,←hown]
  intro S rest h0 hn hs hst
  by_cases h3:own=3
  ·subst h3
   rw [Va,←hown] at hs ⊢
   rw [Vb,←hown] at hn
   have e4:Fg 3=4:=rfl
   rw [e4] at hs hn ⊢
   have hn4:S.nest+max (Gr 4 a (C2 a)) (Gr 4 b (C2 b))≤30:=hn
   have hs':seg l S.i=G7 4 a (Au a)++(opTok t::(G7 4 b (Au b)++rest)):=by rw [hs];simp
   have h1:Ct l (fam l S.nest) S=(a,adv S (G7 4 a (Au a)).length):=Ws (k:=4) ha.1 (by omega) h0 (by omega) hs' (cd ht (by omega))
   have s1:seg l (adv S (G7 4 a (Au a)).length).i=opTok t::(G7 4 b (Au b)++rest):=Ex hs'
   obtain ⟨_,tx,s2,i1⟩:=Bt s1
   have h2:isM l Ya (adv S (G7 4 a (Au a)).length)=true:=by
    rw [ALl s1,show Ya=ofL 3 from rfl,Im (by omega),hoi]
    rfl
   have h4:Ct l (fam l S.nest) (adv S ((G7 4 a (Au a)).length+1))=_:=Ws (l:=l) (S:=adv S ((G7 4 a (Au a)).length+1)) hb (k:=4) (by omega) h0 (show S.nest+Gr 4 b (C2 b)≤30 by omega) s2 (hst.mono (by omega))
   show D6 l (fam l S.nest) S=_
   unfold D6
   rw [h1,if_neg (by rw [h2];show ¬(((S.code != 0) || _)=true);rw [h0];decide),Lz,Jc,h4,tx,Jc]
   refine Prod.ext rfl ?_
   show adv S _=adv S (G7 4 a (Au a)++opTok t::G7 4 b (Au b)).length
   congr 1
   simp only [Ai,Aq]
   omega
  have hl:own=0∨own=1∨own=4∨own=5:=by omega
  obtain ⟨n,_,h⟩:=hB S rest hl h0 hn hs (hst.mono (by omega))
  rw [AJu hl,h]
  have hf:isM l (ofL own) (adv S (Au (Dn t a b)).length)=false:=My hst (Ex hs) (Vd hl)
  cases n with
  | zero=>rfl
  | succ n=>rw [J2,if_neg (by rw [hf];simp)]
 rw [Vc,←hown]
 exact hB
theorem AQl {l:List Tok} {a:Expr} (hx:E5 Cl (Cy 3 a)=true) (ha:T1 l a):T1 l (Cy 3 a)∧T2 l (Cy 3 a):=by
 refine ABx hx ?_ (fun S rest h=>by rw [Zg] at h;omega)
 rw [Zg,c6,qb]
 intro S rest h0 hn hs hst
 obtain ⟨_,_,s1,_⟩:=Bt hs
 show Lu l (fam l S.nest) S=_
 unfold Lu
 rw [if_neg (by rw [Fz hs,w6];decide)]
 have hk:=Ws (l:=l) (S:=B7 (A5 S)) ha (k:=6) (by omega) h0 (show S.nest+1+Gr 6 a (C2 a)≤30 by omega) s1 hst
 have hw:Bb (A4 l S.i).at_ (fam l S.nest).ne (A5 S)=(a,adv (A5 S) (G7 6 a (Au a)).length):=by
  unfold Bb
  rw [if_neg (by show ¬(((S.nest:Int)==30)=true);simp;omega),V8 (by omega)]
  show ((pf l (fam l (S.nest+1)) 6 (B7 (A5 S))).1,Hq (pf l (fam l (S.nest+1)) 6 (B7 (A5 S))).2)=_
  rw [show pf l (fam l (S.nest+1)) 6 (B7 (A5 S))=_ from hk]
  rfl
 rw [hw,Lz,Jc]
 exact congrArg (fun n=>(Cy 3 a,adv S n)) (by simp only [Aq];omega)
theorem ASp {l:List Tok} {a:Expr} (hx:E5 Cl (Cy 4 a)=true) (ha:T1 l a):T1 l (Cy 4 a)∧T2 l (Cy 4 a):=by
 refine ABx hx ?_ (fun S rest h=>by rw [lu] at h;omega)
 rw [lu,ls,yp]
 intro S rest h0 hn hs hst
 obtain ⟨_,_,s1,_⟩:=Bt hs
 show Lv l (fam l S.nest) S=_
 unfold Lv
 rw [if_neg (by rw [Fz hs,w5];decide)]
 have hk:=Ws (l:=l) (S:=B7 (A5 S)) ha (k:=2) (by omega) h0 (show S.nest+1+Gr 2 a (C2 a)≤30 by omega) s1 hst
 have hw:Bb (A4 l S.i).at_ (fam l S.nest).no (A5 S)=(a,adv (A5 S) (G7 2 a (Au a)).length):=by
  unfold Bb
  rw [if_neg (by show ¬(((S.nest:Int)==30)=true);simp;omega),V8 (by omega)]
  show ((pf l (fam l (S.nest+1)) 2 (B7 (A5 S))).1,Hq (pf l (fam l (S.nest+1)) 2 (B7 (A5 S))).2)=_
  rw [show pf l (fam l (S.nest+1)) 2 (B7 (A5 S))=_ from hk]
  rfl
 rw [hw,Lz,Jc]
 exact congrArg (fun n=>(Cy 4 a,adv S n)) (by simp only [Aq];omega)
theorem AN4 {l:List Tok} {t:Str} (hx:E5 Cl (Bj t)=true):T1 l (Bj t)∧T2 l (Bj t):=by
 refine ABx hx ?_ (fun S rest h=>by rw [ca] at h;omega)
 rw [ca,Wt]
 intro S rest h0 hn hs hst
 obtain ⟨k1,t1,s1,_⟩:=Bt (show seg l S.i=(1,t)::rest from hs)
 show Eo l (fam l S.nest) S=_
 have e1:isM l Wo S=false:=by rw [Fz (show seg l S.i=(1,t)::rest from hs)];rfl
 have e2:isM l opT (A5 S)=false:=by
  cases rest with
  | nil=>exact lq s1
  | cons h r =>
   obtain ⟨k2,t2⟩:=h
   rw [Fz (show seg l (A5 S).i=(k2,t2)::r from s1),AFo]
   cases hb:((k2==5) || (k2==2)) with
   | false=>rfl
   | true =>
    have:t2≠[40]:=(hst _ _ rfl hb).2
    rw [D0,beq_eq_false_iff_ne]
    exact this
 unfold Eo
 rw [if_neg (by rw [h0];decide),k1,e1,if_neg (by decide),if_neg (by decide),if_pos (by decide),e2,if_neg (by decide),t1]
 rfl
/-- Kids behind commas. -/
theorem AFq {l:List Tok} {nst:Nat} {rest:List TK} (hst:stops 0 rest) (hc:∀h r,rest=h::r→w9 h [44]=false):∀(ks:List Expr),(∀y∈ks,T1 l y)→∀(acc:List Expr) (S:PS) (n:Nat),S.nest=nst→S.code=0→(∀y∈ks,nst+C2 y≤30)→seg l S.i=Ko (I7 ks)++rest→l.length≤S.i+n →
  argsF l (pf l (fam l nst) 0) n (acc,S)=(acc++ks,adv S (Ko (I7 ks)).length)
 | [],_,acc,S,n,hN,h0,_,hs,_=>by
  have hf:isM l Mi S=false:=by
   have hs':seg l S.i=rest:=hs
   cases rest with
   | nil=>exact lq hs'
   | cons h r=>obtain ⟨k2,t2⟩:=h;rw [Fz hs',pz];exact hc _ _ rfl
  cases n with
  | zero=>rw [argsF,Ep];rfl
  | succ n=>rw [argsF,if_neg (by rw [hf];simp),Ep];rfl
 | y::ks,hT,acc,S,n,hN,h0,hnd,hs,hn=>by
  have hs':seg l S.i=(5,[44])::(Au y++(Ko (I7 ks)++rest)):=by rw [hs];simp [I7,Ko]
  obtain ⟨_,_,s1,i1⟩:=Bt hs'
  obtain ⟨m,rfl⟩:∃m,n=m+1:=⟨n-1,by omega⟩
  have hy:=hT y (by simp) 0 (A5 S) (Ko (I7 ks)++rest) (Al _) h0 (by have:=hnd y (by simp);show S.nest+_≤30;omega) s1 (by
   cases ks with
   | nil=>exact hst
   | cons z ks =>
    intro h r e _
    injection e with e _
    subst e
    exact ⟨by decide,by decide⟩)
  have hy':pf l (fam l nst) 0 (A5 S)=(y,adv (A5 S) (Au y).length):=by rw [←hN];exact hy
  rw [argsF,if_pos (by
   show ((S.code==0)&&isM l Mi S)=true
   rw [h0,Fz hs',pz]
   decide)]
  show argsF l (pf l (fam l nst) 0) m (acc++[(pf l (fam l nst) 0 (A5 S)).1],(pf l (fam l nst) 0 (A5 S)).2)=_
  rw [hy']
  show argsF l (pf l (fam l nst) 0) m (acc++[y],adv (A5 S) (Au y).length)=_
  rw [AFq hst hc ks (fun z hz=>hT z (by simp [hz])) (acc++[y]) (adv (A5 S) (Au y).length) m hN h0 (fun z hz=>hnd z (by simp [hz])) (Ex s1) (by show l.length≤S.i+1+(Au y).length+m;omega)]
  rw [Lz,Jc,Jc,show acc++[y]++ks=acc++y::ks by simp]
  exact congrArg (fun n=>(acc++y::ks,adv S n)) (by simp only [I7,Ko,Aq,Ai];omega)
theorem AFr (T:List TK) (r:List (List TK)):(Ko (T::r)).drop 1=T++Ko r:=rfl
theorem AN5 {l:List Tok} {t:Str} {k:List Expr} (hx:E5 Cl (.mk 6 t noV k)=true) (ha:Ce t=(k.length:Int)) (h1:1≤k.length) (hT:∀y∈k,T1 l y):T1 l (.mk 6 t noV k)∧T2 l (.mk 6 t noV k):=by
 refine ABx hx ?_ (fun S rest h=>by rw [cb] at h;omega)
 rw [cb,Wu,gx]
 intro S rest h0 hn hs hst
 match k,h1,ha,hT,hn,hs with
 | y::ks,_,ha,hT,hn,hs =>
 rw [I7,AFr] at hs ⊢
 have hs':seg l S.i=(1,t)::((5,[40])::(Au y++(Ko (I7 ks)++((5,[41])::rest)))):=by rw [hs];simp
 obtain ⟨k1,t1,s1,i1⟩:=Bt hs'
 have s1':seg l (A5 S).i=(5,[40])::(Au y++(Ko (I7 ks)++((5,[41])::rest))):=s1
 obtain ⟨k2,t2,s2,i2⟩:=Bt s1'
 have hmax:=yo (y::ks)
 have hz:stops 0 (((5,[41]):TK)::rest):=fun h r e _=>by
  injection e with e _
  subst e
  exact ⟨by decide,by decide⟩
 have hy:=hT y (by simp) 0 (B7 (A5 (A5 S))) (Ko (I7 ks)++((5,[41])::rest)) (Al _) h0 (by have:=hmax y (by simp);show S.nest+1+_≤30;omega) s2 (by
  cases ks with
  | nil=>exact hz
  | cons z ks =>
   intro h r e _
   injection e with e _
   subst e
   exact ⟨by decide,by decide⟩)
 have hy':pf l (fam l (S.nest+1)) 0 (B7 (A5 (A5 S)))=(y,adv (B7 (A5 (A5 S))) (Au y).length):=hy
 have hargs:=AFq (l:=l) (nst:=S.nest+1) hz (fun h r e=>by
  injection e with e _
  subst e
  decide) ks (fun z hz=>hT z (by simp [hz])) [y] (adv (B7 (A5 (A5 S))) (Au y).length) l.length rfl h0 (fun z hz=>by have:=hmax z (by simp [hz]);omega) (Ex s2) (by omega)
 have hk:Br l (fam l S.nest) (A5 S)=(y::ks,adv (A5 (A5 S)) ((Au y).length+(Ko (I7 ks)).length)):=by
  unfold Br Ke
  rw [if_neg (by show ¬(((S.nest:Int)==30)=true);simp;omega),V8 (by omega)]
  unfold Ik
  show ((argsF l (pf l (fam l (S.nest+1)) 0) l.length ([(pf l (fam l (S.nest+1)) 0 (B7 (A5 (A5 S)))).1],(pf l (fam l (S.nest+1)) 0 (B7 (A5 (A5 S)))).2)).1,Hq (argsF l (pf l (fam l (S.nest+1)) 0) l.length ([(pf l (fam l (S.nest+1)) 0 (B7 (A5 (A5 S)))).1],(pf l (fam l (S.nest+1)) 0 (B7 (A5 (A5 S)))).2)).2)=_
  rw [hy',hargs,Jc]
  rfl
 have s3:=Ex (Ex s2)
 have hw:Bx l Bu (Br l (fam l S.nest) (A5 S)).2=adv (A5 (A5 S)) ((Au y).length+(Ko (I7 ks)).length+1):=by
  rw [hk]
  have s3':seg l (adv (A5 (A5 S)) ((Au y).length+(Ko (I7 ks)).length)).i=(5,[41])::rest:=by
   show seg l ((A5 S).i+1+((Au y).length+(Ko (I7 ks)).length))=_
   rw [←Is]
   exact s3
  obtain ⟨k3,t3,_,_⟩:=Bt s3'
  show Bx l Bu (adv (A5 (A5 S)) ((Au y).length+(Ko (I7 ks)).length))=_
  unfold Bx
  rw [if_neg (by show ¬((S.code != 0)=true);rw [h0];decide),k3,t3,if_neg (by decide)]
  rfl
 have e1:isM l Wo S=false:=by rw [Fz hs'];rfl
 have e2:isM l opT (A5 S)=true:=by rw [Fz s1',AFo];decide
 show Eo l (fam l S.nest) S=_
 unfold Eo
 rw [if_neg (by rw [h0];decide),k1,e1,if_neg (by decide),if_neg (by decide),if_pos (by decide),if_pos e2]
 unfold I6
 rw [t1,if_neg (by rw [ha];omega),if_neg (by rw [hk,ha];simp),hw,hk]
 refine Prod.ext rfl ?_
 show adv (A5 (A5 S)) ((Au y).length+(Ko (I7 ks)).length+1)=adv S _
 rw [Lz,Lz,Jc,Jc]
 congr 1
 simp only [Aq,Ai,B9]
 omega
theorem yq:∀d,d<10→digs.contains (UInt8.ofNat (48+d))=true:=by decide
theorem AJv:∀d,d<10→(UInt8.ofNat (48+d)).toNat=48+d:=by decide
theorem AN6:∀d,d<10→1≤d→UInt8.ofNat (48+d)≠48:=by decide
theorem ce {u:Nat} (h:¬u<10):Lib.decDigits u=Lib.decDigits (u / 10)++[UInt8.ofNat (48+u % 10)]:=by rw [Lib.decDigits,dif_neg h]
theorem Ve:∀(u:Nat),∀c∈Lib.decDigits u,digs.contains c=true:=by
 intro u
 induction u using Nat.strongRecOn with
 | _ u ih =>
  intro c hc
  by_cases h:u<10
  ·rw [Lib.decDigits_one h,C1] at hc
   subst hc
   exact yq u h
  rw [ce h] at hc
  rcases Di.1 hc with hc|hc
  ·exact ih (u / 10) (by omega) c hc
  rw [C1.1 hc]
  exact yq _ (Ja _ (by decide))
theorem Vf:∀(u:Nat),∃c r,Lib.decDigits u=c::r∧(1≤u→c≠48):=by
 intro u
 induction u using Nat.strongRecOn with
 | _ u ih =>
  by_cases h:u<10
  ·exact ⟨_,_,Lib.decDigits_one h,fun h1=>AN6 u h h1⟩
  obtain ⟨c,r,e,h1⟩:=ih (u / 10) (by omega)
  exact ⟨c,r++[UInt8.ofNat (48+u % 10)],by rw [ce h,e];rfl,fun _=>h1 (by omega)⟩
theorem Te (M:Nat):∀(a:Str) (acc v:Nat) (b:Str),Lib.parseUintM M acc a=.ok v→Lib.parseUintM M acc (a++b)=Lib.parseUintM M v b
 | [],acc,v,b,h=>by
  rw [Lib.parseUintM] at h
  injection h with h
  subst h
  rfl
 | c::r,acc,v,b,h=>by
  rw [Ey,Lib.parseUintM]
  rw [Lib.parseUintM] at h
  split at h
  ·rename_i h1
   rw [if_pos h1]
   split at h
   ·cases h
   rename_i h2
   rw [if_neg h2]
   split at h
   ·cases h
   rename_i h3
   rw [if_neg h3]
   exact Te M r _ v b h
  cases h
theorem wc {M:Nat} (hM:M≤18446744073709551615):∀(u:Nat),u≤M→Lib.parseUintM M 0 (Lib.decDigits u)=.ok u:=by
 intro u
 induction u using Nat.strongRecOn with
 | _ u ih =>
  intro hu
  have one:∀acc d,d<10→acc≤1844674407370955161→acc*10+d≤M→Lib.parseUintM M acc [UInt8.ofNat (48+d)]=.ok (acc*10+d):=fun acc d hd ha hm=>by
   have e:=AJv d hd
   rw [Lib.parseUintM,e,if_pos (by omega),if_neg (by omega),if_neg (by omega),Lib.parseUintM]
   congr 1
   omega
  by_cases h:u<10
  ·rw [Lib.decDigits_one h,one 0 u h (by omega) (by omega)]
   congr 1
   omega
  rw [ce h,Te M _ 0 (u / 10) _ (ih (u / 10) (by omega) (by omega)),one (u / 10) (u % 10) (Ja _ (by decide)) (by omega) (by omega)]
  congr 1
  omega
theorem Rp:∀c:UInt8,digs.contains c=true→c≠45∧c≠43∧c≠39∧c≠110∧c≠116∧c≠102:=by
 have h:((List.range 256).all fun n => !digs.contains (UInt8.ofNat n) || decide (UInt8.ofNat n≠45∧UInt8.ofNat n≠43∧UInt8.ofNat n≠39∧UInt8.ofNat n≠110∧UInt8.ofNat n≠116∧UInt8.ofNat n≠102))=true:=by kernel_rfl
 intro c hc
 have:=Ay.1 h c.toNat (Pi.2 c.toNat_lt)
 rw [show UInt8.ofNat c.toNat=c by simp,hc] at this
 simpa using this
theorem AJw (u:Nat) (h1:u≤9223372036854775807):B6 (Lib.decDigits u)=((u:Int),0):=by
 obtain ⟨c,r,e,h0⟩:=Vf u
 have hc:digs.contains c=true:=Ve u c (by rw [e];simp)
 obtain ⟨n45,n43,_⟩:=Rp c hc
 have hds:Ng (Lib.decDigits u)=Lib.decDigits u:=by
  unfold Ng Lib.trimPrefix
  rw [if_neg]
  rw [e]
  unfold Lib.hasPrefix
  simp [Ne.symm n45]
 have hb:Gn (Lib.decDigits u)=false:=by
  unfold Gn
  rw [hds]
  have a1:(Lib.decDigits u==[])=false:=by rw [e];rfl
  have a2:Lib.trimS (Lib.decDigits u) digs=[]:=by
   unfold Lib.trimS Lib.trimRightS
   have:(Lib.decDigits u).reverse.dropWhile (fun x=>digs.contains x)=[]:=by
    rw [uq]
    intro b hb
    exact Ve u b (by simpa using hb)
   rw [this]
   rfl
  have a3:(((Lib.decDigits u).headD 0==48)&&decide (1<(Lib.decDigits u).length))=false:=by
   by_cases hu:u<10
   ·rw [Lib.decDigits_one hu];simp
   rw [e]
   have:(c==48)=false:=by simpa using h0 (by omega)
   simp [this]
  rw [a1,a2,a3]
  rfl
 have hp:Lib.parseIntB 64 (Lib.decDigits u)=.ok (u:Int):=by
  have hu:Lib.parseUintB 64 (Lib.decDigits u)=.ok u:=by
   unfold Lib.parseUintB
   rw [if_neg (by rw [e];simp)]
   exact wc (by decide) u (by
    have:(2:Nat) ^ 64-1=18446744073709551615:=by decide
    omega)
  have n45':c.toNat≠45:=fun h=>n45 (F5.1 (by rw [h];rfl))
  have n43':c.toNat≠43:=fun h=>n43 (F5.1 (by rw [h];rfl))
  have e63:(2:Nat) ^ (64-1)=9223372036854775808:=by decide
  rw [e] at hu ⊢
  simp only [Lib.parseIntB,n43',n45',or_self,if_false,hu,e63]
  simp
  omega
 unfold B6
 rw [hb,hp]
 rfl
theorem qd {n:Int} (h0:0≤n) (h1:n≤9223372036854775807):Dy (Lib.itoa n)=(⟨1,n,[]⟩,0):=by
 obtain ⟨u,rfl⟩:∃u:Nat,n=(u:Int):=⟨n.toNat,by omega⟩
 have e0:Lib.itoa (u:Int)=Lib.decDigits u:=by unfold Lib.itoa;rw [if_neg (by omega)];simp
 rw [e0]
 obtain ⟨c,r,e,_⟩:=Vf u
 have hc:digs.contains c=true:=Ve u c (by rw [e];simp)
 obtain ⟨_,_,n39,n110,n116,n102⟩:=Rp c hc
 unfold Dy
 have b1:(Lib.decDigits u==[110,117,108,108])=false:=by rw [e];simp [n110]
 have b2:(Lib.decDigits u==[116,114,117,101])=false:=by rw [e];simp [n116]
 have b3:(Lib.decDigits u==[102,97,108,115,101])=false:=by rw [e];simp [n102]
 have b4:Kq (Lib.decDigits u)=false:=by
  unfold Kq Lib.hasPrefix
  rw [e]
  simp [Ne.symm n39]
 rw [b1,b2,b3,b4,AJw u (by omega)]
 rfl
/-- What is printed is read: of values. -/
theorem cf {v:Val} (h:Dr v=true) (h2:(v.kind==2)=false) (h0:0≤v.n) (h1:v.n≤9223372036854775807):Dy (De v)=(v,0):=by
 obtain ⟨k,n,s⟩:=v
 unfold De
 rw [h]
 unfold Dr at h
 simp only at h h2 h0 h1 ⊢
 by_cases e0:k=0
 ·subst e0
  simp at h
  obtain ⟨rfl,rfl⟩:=h
  kernel_rfl
 by_cases e1:k=1
 ·subst e1
  simp at h
  subst h
  simpa using qd h0 h1
 have e2:k≠2:=by simpa using h2
 simp [e0,e1,e2] at h
 obtain ⟨⟨⟨rfl,rfl⟩,_⟩,h4⟩:=h
 have:n=0∨n=1:=by omega
 rcases this with rfl|rfl
 ·rfl
 rfl
theorem AQm {l:List Tok} {v:Val} (hx:E5 Cl (G6 v)=true) (hp:Dr v=true) (hv0:0≤v.n) (hv1:v.n≤9223372036854775807):T1 l (G6 v)∧T2 l (G6 v):=by
 refine ABx hx ?_ (fun S rest h=>by rw [Zf] at h;omega)
 rw [Zf,bx]
 intro S rest h0 hn hs hst
 show Eo l (fam l S.nest) S=_
 unfold Eo
 rw [if_neg (by rw [h0];decide)]
 cases hk1:v.kind==1 with
 | true =>
  have e:L3 v=(3,De v):=by unfold L3;rw [hk1];rfl
  rw [e] at hs
  obtain ⟨k1,t1,_,_⟩:=Bt (show seg l S.i=(3,De v)::rest from hs)
  have hk2:(v.kind==2)=false:=by
   have:v.kind=1:=by simpa using hk1
   rw [this];rfl
  rw [k1,if_pos (by simp),t1,cf hp hk2 hv0 hv1]
  rfl
 | false =>
  cases hk2:v.kind==2 with
  | true =>
   have e:L3 v=(4,v.s):=by unfold L3;rw [hk1,hk2];rfl
   rw [e] at hs
   have hs':seg l S.i=(4,v.s)::rest:=hs
   obtain ⟨k1,t1,_,_⟩:=Bt hs'
   have e1:isM l Wo S=false:=by rw [Fz hs'];rfl
   rw [k1,e1,if_neg (by decide),if_pos (by decide),t1]
   have hv:v=⟨2,0,v.s⟩∧v.s.length≤200:=by
    rcases Oc hp with e|e|e|e|e
    ·rw [e] at hk2;cases hk2
    ·rw [e] at hk2;cases hk2
    ·exact e
    ·rw [e] at hk2;cases hk2
    rw [e] at hk2;cases hk2
   rw [Fw hv.2,←hv.1]
   rfl
  | false =>
   have e:L3 v=(2,De v):=by unfold L3;rw [hk1,hk2];rfl
   rw [e] at hs
   have hs':seg l S.i=(2,De v)::rest:=hs
   obtain ⟨k1,t1,_,_⟩:=Bt hs'
   have hw:Fy (De v) Wo=true:=by
    rw [w7]
    rcases Oc hp with e|e|e|e|e
    ·rw [e];kernel_rfl
    ·rw [e] at hk1;cases hk1
    ·rw [e.1] at hk2;cases hk2
    ·rw [e];kernel_rfl
    rw [e];kernel_rfl
   have e1:isM l Wo S=true:=by rw [Fz hs',hw];rfl
   rw [e1,if_pos (by simp),t1,cf hp hk2 hv0 hv1]
   rfl
theorem gz (t:Str):Ce t = -1∨1≤Ce t:=by
 unfold Ce
 cases h:arityList.find? (fun p=>p.1==t) with
 | none=>exact .inl rfl
 | some p =>
  have hm:=List.mem_of_find?_eq_some h
  have ha:(arityList.all fun p=>decide (1≤AF2 p))=true:=by kernel_rfl
  exact .inr (of_decide_eq_true (Ay.1 ha p hm))
theorem cg (l:List Tok):∀(n:Nat) (x:Expr),sizeE x≤n→E5 Cl x=true→E5 J0 x=true→T1 l x∧T2 l x
 | 0,x,hn,_,_=>by rw [Ij] at hn;omega
 | n+1,x,hn,hx,hr=>by
  have hx0:=hx
  have hr0:=hr
  rw [Hl,Ah] at hx0 hr0
  have ih:∀y∈x.kids,T1 l y∧T2 l y:=fun y hy=>cg l n y (gy hn hy) ((Gf _ _).1 hx0.2 y hy) ((Gf _ _).1 hr0.2 y hy)
  cases L4 hx0.1 with
  | val v hv h0 =>
   have:=hr0.1
   unfold J0 at this
   simp only [Ah,decide_eq_true_eq] at this
   exact AQm hx hv h0 this.2
  | name t ht=>exact AN4 hx
  | neg a=>exact AQl hx (ih a (by simp [Cy,Expr.kids])).1
  | no a=>exact ASp hx (ih a (by simp [Cy,Expr.kids])).1
  | bin t a b ht=>exact AQk ht hx (ih a (by simp [Dn,Expr.kids])) (ih b (by simp [Dn,Expr.kids])).1
  | call t k hk =>
   refine AN5 hx hk ?_ (fun y hy=>(ih y hy).1)
   have:=gz t
   omega
/-! The parser from a word on, and of a source. -/
def atS (l:List Tok) (i:Nat) (r:Expr×PS):PS:=if r.2.code != 0 then r.2 else if decide ((30:Int)<depthE r.1) then C7 18 (A4 l i).at_ r.2 else if decide ((300:Int)<sizeE r.1) then C7 3 (A4 l i).at_ r.2 else r.2
def atR (l:List Tok) (i:Nat):Expr×PS:=Q3 l (Cn l 30) ⟨i,0,0,0⟩
/-- The tree, the word behind it, the fault. -/
def atM (l:List Tok) (i:Nat):Expr×Int×Int×Int:=if (atS l i (atR l i)).code != 0 then (Ax,0,(atS l i (atR l i)).code,(atS l i (atR l i)).at_) else ((atR l i).1,((atS l i (atR l i)).i:Int),0,0)
set_option maxRecDepth 4000
theorem cj {l:List Tok} (hl:TokEnd l) (hll:l.length≤1048576) {i:Nat} (hi:i<l.length):Fact l ⟨i,0,0,0⟩ (atR l i):=(Su hl hll 31 0 rfl (by decide)).1 ⟨i,0,0,0⟩ hi rfl
theorem AN7 {l:List Tok} {i:Nat} (hi:i<l.length) (hl:TokEnd l) (hll:l.length≤1048576) (hcl:∀n Dv,n≤30→DeepC l Dv n→pv l Dv n) (o:Nat) (Hp:List AObj) (ho:Hp[o]? = some (pr l ⟨i,0,0,0⟩)):ACall Tryz.prog 215 [.ptr o 0] Hp (fun r H'=>r=Aj (atR l i).1∧H'=Hp.set o (pr l (atR l i).2)):=(px hl hll hcl 31 0 rfl (by decide)).1 o Hp ⟨i,0,0,0⟩ ho hi rfl
theorem qe {l:List Tok} (hl:TokEnd l):(A4 l (l.length-1)).kind=0:=by
 obtain ⟨L,z,rfl,hz,_⟩:=hl.split
 unfold A4
 simp [hz]
theorem ASq (l:List Tok) (i:Nat) (hi:i<l.length) (hl:TokEnd l) (hll:l.length≤500000) (hcl:∀n Dv,n≤30→DeepC l Dv n→pv l Dv n) (Hp:List AObj):AFun Tryz.prog 192 [Us l,A7 (i:Int)] Hp (.tup [Aj (atM l i).1,A7 (atM l i).2.1,.agg [A7 (atM l i).2.2.1,A7 (atM l i).2.2.2]]):=by
 have hmap:(l.map En).length=l.length:=Bh ..
 have hll1:l.length≤1048576:=by omega
 have hq:=cj hl hll1 hi
 have hlast:=qe hl
 have hpos:=hl.pos
 have hqlt:=hq.lt
 have hqs:=hq.sz
 have hok0:okE 1048576 (atR l i).1:=Hj (by have:=hq.lt;omega) hq.ok
 have hsz0:sizeE (atR l i).1≤1048576:=by have:=hq.sz;have:=hq.lt;omega
 refine B0 [.cell 4 69,.tmp 5,.cell 6 26] [0,1] Tryz.func192 Tryz.ntmps192 (fun d=>?_)
 refine Z24 ?_;refine A3 ?_;refine Ka jZ ?_;refine A2 [0,1,4,6] ?_;refine Z50 ?_;refine l9 ?_;refine Z48 ?_
 refine Bk (h:=B2 ((l.length-1)) (En (A4 l (l.length-1))) (fun _=>Ez (by omega))) (hr:=?_)
 refine Z6 ?_;refine Z55 ?_;refine A2 [0,1,4,6,26] ?_
 refine A6 (fun ht26=>?_) (fun ht26=>?_)
 ·simp only [Cz,decide_eq_true_eq,bne_iff_ne,ne_eq] at ht26
  rcases ht26 with (h|h)|h
  ·omega
  ·simp at h;omega
  exact absurd hlast h
 refine nw ?_;refine AP6 ?_;refine A3 ?_;refine A2 [0,1,4,6,7] ?_;refine Z2 ?_
 refine Md (n:=2) (x:=pr l (atR l i).2) Tryz.call215 (AN7 hi hl hll1 hcl (oid Hp.length 2) _ (by rw [Cj];rfl)) ?_
 refine Z11 ?_;refine A2 [0,1,4,6,7,8] ?_
 refine Ih ⟨81,A9 4 (.ptr (oid Hp.length 0) 0) (A9 6 (.ptr (oid Hp.length 1) 0) (A9 7 (.ptr (oid Hp.length 2) 0) (A9 8 (.ptr (oid Hp.length 3) 0) (fun _=>.any)))),Hp,[.cells 69 [A7 0,Ac [],A7 0,A7 0,Ac [],.nil],.cells 26 [A7 0,A7 0],pr l (atS l i (atR l i)),.cells 69 (E3 (atR l i).1)],[],none⟩ ?_ ?_
 ·refine Ic ?_;refine Z33 ?_;refine Z7 ?_;refine A2 [0,1,4,6,7,8,35] ?_
  refine A6 (fun ht35=>?_) (fun ht35=>?_)
  ·have e:atS l i (atR l i)=(atR l i).2:=if_pos ht35
   refine Eh [4,6,7,8] ?_;refine He ?_;exact AIl
  have e0:¬((atR l i).2.code != 0)=true:=by rw [ht35];simp
  refine Z2 ?_;refine Ap Tryz.call216 (ASn 1048576 _ hok0 (Ae _) hsz0 _) ?_;refine Z0 ?_;refine A2 [0,1,4,6,7,8,42] ?_
  refine A6 (fun ht42=>?_) (fun ht42=>?_)
  ·have e:atS l i (atR l i)=C7 18 (A4 l i).at_ (atR l i).2:=by unfold atS;rw [if_neg e0,if_pos ht42]
   refine Z15 ?_
   refine A3 (h:=B2 (i) (En (A4 l i)) (fun _=>Ez hi)) (hr:=?_)
   refine Z0 ?_
   refine Md (n:=2) (x:=pr l (C7 18 (A4 l i).at_ (atR l i).2)) Tryz.call217 (ABu l (atR l i).2 18 (A4 l i).at_ (oid Hp.length 2) _ (by rw [Cj];rfl)) ?_
   refine A2 [4,6,7,8] ?_;exact AIl
  have e1:¬decide ((30:Int)<depthE (atR l i).1)=true:=by rw [ht42];simp
  refine Z2 ?_;refine Ap Tryz.call218 (ASo 1048576 _ hok0 (Ae _) hsz0 _) ?_;refine Z0 ?_;refine A2 [0,1,4,6,7,8,53] ?_
  refine A6 (fun ht53=>?_) (fun ht53=>?_)
  ·have e:atS l i (atR l i)=C7 3 (A4 l i).at_ (atR l i).2:=by unfold atS;rw [if_neg e0,if_neg e1,if_pos ht53]
   refine Z15 ?_
   refine A3 (h:=B2 (i) (En (A4 l i)) (fun _=>Ez hi)) (hr:=?_)
   refine Z0 ?_
   refine Md (n:=2) (x:=pr l (C7 3 (A4 l i).at_ (atR l i).2)) Tryz.call217 (ABu l (atR l i).2 3 (A4 l i).at_ (oid Hp.length 2) _ (by rw [Cj];rfl)) ?_
   refine A2 [4,6,7,8] ?_;exact AIl
  have e:atS l i (atR l i)=(atR l i).2:=by unfold atS;rw [if_neg e0,if_neg e1,if_neg (by rw [ht53];simp)]
  refine Eh [4,6,7,8] ?_;refine He ?_;exact AIl
 refine Z42 ?_;refine Z0 ?_;refine A2 [4,6,7,8,69] ?_
 refine A6 (fun ht69=>?_) (fun ht69=>?_)
 ·have e:atM l i=(Ax,0,(atS l i (atR l i)).code,(atS l i (atR l i)).at_):=if_pos ht69
  refine Fe [0,0,2,6,14,1,33,127] [5] [.q 5 [] [],.s [] (some 0) [] [],.q 1 [0] []] (fun _=>Hp) (fun _=>[.cells 69 [A7 0,Ac [],A7 0,A7 0,Ac [],.nil],.cells 26 [A7 0,A7 0],pr l (atS l i (atR l i)),.cells 69 (E3 (atR l i).1)]) Af (by kernel_rfl) rfl rfl (fun _=>rfl) ?_
  apply Y.q
  ·intro B hT hF
   exact AOh
  case hTF=>decide
  refine APo ?_
  apply Y.q
  ·intro B hT hF
   exact Z29
  case hTF=>decide
  refine Dj (tn:=[5])  ?_;refine Mg 0 5 6 ?_;refine AIj ?_;exact AOf
 have e:atM l i=((atR l i).1,((atS l i (atR l i)).i:Int),0,0):=if_neg (by rw [ht69];simp)
 refine Z4 ?_;refine Fe [0,0,2,6,14,0,1,95,255] [6] [.q 6 [] [],.s [] (some 0) [] [],.q 1 [0] []] (fun _=>Hp) (fun B=>[.cells 69 (if B 0=true then E3 (atR l i).1 else [A7 0,Ac [],A7 0,A7 0,Ac [],.nil]),.cells 26 [A7 0,A7 0],pr l (atS l i (atR l i)),.cells 69 (E3 (atR l i).1)]) Af (by kernel_rfl) rfl rfl (fun _=>rfl) ?_
 apply Y.q
 ·intro B hT hF
  refine aq ?_;exact Z97
 case hTF=>decide
 refine So (u:=Hp.length) (n:=0) (t':=69) (cs:=[A7 0,Ac [],A7 0,A7 0,Ac [],.nil]) (cs':=E3 (atR l i).1) Tryz.sizeOf69 (fun B hB=>⟨rfl,by simp only [hB];rfl,by simp [upd],rfl⟩) ?_
 apply Y.q
 ·intro B hT hF
  exact Z29
 case hTF=>decide
 refine Dj (tn:=[6]) (O:=[.cells 69 (E3 (atR l i).1),.cells 26 [A7 0,A7 0],pr l (atS l i (atR l i)),.cells 69 (E3 (atR l i).1)]) ?_;refine AIj ?_;refine Kx ?_;exact Ab (V.three (B5 jA jS) Ag (B5 jA jS)) ⟨by rw [e,Ad]<;>rfl,rfl⟩ (hlow:=by have:=low_agg (n:=Hp.length) (atR l i).1;simp at this ⊢;exact this)

theorem Zh {s:Str} (h:(C4 s).2.1=0):(C4 s).1.length≤4002:=by
 obtain ⟨h1,_,h3⟩:=Yz h
 have h2:=Tz s
 rw [h3]
 simp only [Ai,Bh,Aq,B9]
 omega
theorem lv {l:List Tok} (hl:TokEnd l) (hll:l.length≤1048576) {i:Nat} (hi:i<l.length) (h:(atM l i).2.2.1=0):∃k:Nat,(atM l i).2.1=(k:Int)∧k<l.length:=by
 have hq:=cj hl hll hi
 unfold atM at h ⊢
 split at h
 ·rename_i h1
  have:(atS l i (atR l i)).code=0:=h
  rw [this] at h1
  cases h1
 rename_i h1
 rw [if_neg h1]
 refine ⟨(atS l i (atR l i)).i,rfl,?_⟩
 have e:(atS l i (atR l i)).i=(atR l i).2.i:=by
  unfold atS
  repeat' split
  all_goals first|rfl|exact failM_i.1
 rw [e]
 exact hq.lt
theorem Ow {α:Type} {a b:List α} (hl:a.length=b.length) (h:∀(j:Nat) (y:α),j<a.length→a[j]? = some y→b[j]? = some y):a=b:=by
 apply sy hl
 intro j h1 h2
 have:=h j a[j] h1 (Ak h1)
 rw [Ak h2] at this
 injection this with this
 exact this.symm
theorem c27 (a b:List Str) (ha:a.length≤1048576) (Hp:List AObj):AFun Tryz.prog 27 [Jw a,Jw b] Hp (Bz (decide (a=b))):=by
 refine B0 [.tmp 4] [0,1] Tryz.func27 Tryz.ntmps27 (fun d=>?_)
 refine Z63 ?_;refine Tt ?_;refine A2 [0,1,10] ?_
 refine A6 (fun ht10=>?_) (fun ht10=>?_)
 ·have hne:a≠b:=by rintro rfl;simp at ht10
  refine Z79 ?_;refine Dd ?_;exact APp
 have hlen:a.length=b.length:=by have:=ht10;simp at this;omega
 refine Z4 ?_;refine Z35 ?_;refine A2 [0,1,5] ?_
 refine Bo (α:=Nat) (fun x=>⟨26,A9 0 (Jw a) (A9 1 (Jw b) (A9 5 (A7 (x:Nat)) (fun _=>.any))),Hp,[],[],none⟩) (fun x=>x≤a.length∧∀(j:Nat) (y:Str),j<x→a[j]? = some y→b[j]? = some y) (fun x=>a.length-x) (0) ⟨Al _,fun j y h=>by omega⟩ (Gk _) rfl (fun x hx=>?_)
 refine Z42 ?_;refine A2 [0,1,5,14] ?_
 refine A6 (fun ht14=>?_) (fun ht14=>?_)
 ·have hlt:x<a.length:=by simpa using ht14
  have hlb:x<b.length:=by omega
  refine Z56 ?_;refine Gb [0,0,3,7,0,0,48,112,255] 8 Af (by kernel_rfl) ?_;refine Z5 ?_
  refine Am (h:=B2 (x) (Ac a[x]) (fun _=>Ea hlt)) (hr:=?_)
  refine Z19 ?_
  refine Am (h:=B2 (x) (Ac b[x]) (fun _=>Ea hlb)) (hr:=?_)
  refine Z65 ?_;refine A3 ?_;refine A2 [0,1,5,25] ?_
  refine A6 (fun ht25=>?_) (fun ht25=>?_)
  ·have hne:a≠b:=by rintro rfl;simp at ht25
   refine Z79 ?_;refine Z66 ?_;exact APp
  have heq:a[x]=b[x]:=by simpa using ht25
  refine Wf ?_;refine A2 [0,1,5] ?_
  refine Be (x+1) ⟨hlt,fun j y hj hy=>?_⟩ (by omega) (Bp rfl)
  rcases Aw j x with h|h
  ·exact hx.2 j y h hy
  have:j=x:=by omega
  subst this
  rw [Ak hlt] at hy
  rw [Ak hlb,←hy,heq]
 have hxe:a.length≤x:=by simpa using ht14
 refine Z41 ?_;refine Z79 ?_;exact Ab (Ao Ag) ⟨by rw [decide_eq_true (Ow hlen fun j y hj hy=>hx.2 j y (by omega) hy)],rfl⟩

theorem H4 {n k:Nat} {o:Bool} {l:List Expr}:Low n (.slice o k (l.map Aj)):=low_slice.2 fun y hy=>by
 obtain ⟨a,_,rfl⟩:=F4.1 hy
 exact At _ a
theorem Vg {a b:List Expr} (hl:a.length=b.length) (h:∀(j:Nat) (y z:Expr),j<a.length→a[j]? = some y→b[j]? = some z→eqE y z=true):eqL a b=true:=by
 rw [Oa]
 refine Ow hl fun j y hj hy=>?_
 have hjb:j<b.length:=by omega
 have:=h j y b[j] hj hy (Ak hjb)
 rw [Ak hjb,(V5 _ _).1 this]
theorem AN8 {a b:List Expr} (h:eqL a b=true) {j:Nat} (hj:j<a.length) (hb:j<b.length):eqE a[j] b[j]=true:=by
 have e:=(Oa _ _).1 h
 subst e
 exact bv _
theorem lw {a b:List Expr} {j:Nat} (hj:j<a.length) (hb:j<b.length) (h:eqE a[j] b[j]=false):eqL a b=false:=by
 rw [Qr]
 intro h2
 rw [AN8 h2 hj hb] at h
 cases h
theorem yr {a b:List Expr} (h:a.length≠b.length):eqL a b=false:=by
 rw [Qr]
 exact fun h2=>h (AJj h2)
theorem yt {a b:List Expr} {x:Nat} (hx:x<a.length) (hb:x<b.length) (h:∀(j:Nat) (y z:Expr),j<x→a[j]? = some y→b[j]? = some z→eqE y z=true) (he:eqE a[x] b[x]=true):∀(j:Nat) (y z:Expr),j<x+1→a[j]? = some y→b[j]? = some z→eqE y z=true:=by
 intro j y z hj h1 h2
 rcases Aw j x with h3|h3
 ·exact h j y z h3 h1 h2
 have:j=x:=by omega
 subst this
 rw [Ak hx] at h1
 rw [Ak hb] at h2
 injection h1 with h1
 injection h2 with h2
 rw [←h1,←h2]
 exact he
def qf (x y:Expr):Bool:=((x.op==y.op)&&(x.text==y.text))&&((x.val.kind==y.val.kind&&x.val.n==y.val.n)&&x.val.s==y.val.s)
theorem lx (x y:Expr):eqE x y=(qf x y&&eqL x.kids y.kids):=AFg x y
theorem c28:∀(n:Nat) (x:Expr),okE n x→∀(y:Expr) (Hp:List AObj),AFun Tryz.prog 28 [Aj x,Aj y] Hp (Bz (eqE x y)):=by
 intro n
 induction n with
 | zero=>exact fun x h=>h.elim
 | succ n ih =>
 intro x hok y Hp
 refine B0 [.tmp 4] [0,1] Tryz.func28 Tryz.ntmps28 (fun d=>?_)
 refine Z16 ?_;refine P3 ?_;refine Z42 ?_;refine Z48 ?_;refine We ?_
 refine Bk (h:=Q.neqAgg AIy (fun w=>Yw x.val.kind x.val.n y.val.kind y.val.n x.val.s y.val.s w)) (hr:=?_)
 refine Z48 ?_;refine Z6 ?_;refine Z55 ?_;refine A2 [2,3,33] ?_
 refine A6 (fun ht33=>?_) (fun ht33=>?_)
 ·have hf:eqE x y=false:=by
   rw [lx]
   simp only [Cz,bne_iff_ne,ne_eq,Bh,I9] at ht33
   by_cases hh:qf x y=true
   ·rw [hh,D0]
    refine yr ?_
    unfold qf at hh
    simp only [Ah,beq_iff_eq] at hh
    obtain ⟨⟨h1,h2⟩,⟨h3,h4⟩,h5⟩:=hh
    rcases ht33 with ((h|h)|h)|h
    ·exact absurd h1 h
    ·simp [h2] at h
    ·simp [h3,h4,h5] at h
    intro e;exact h (by rw [e])
   rw [Tk] at hh
   rw [hh,N4]
  refine Z79 ?_;exact AP9
 have hh:qf x y=true∧x.kids.length=y.kids.length:=by
  simp only [Hb,bne_eq_false_iff_eq,Bh,Tj] at ht33
  obtain ⟨⟨⟨h1,h2⟩,h3⟩,h4⟩:=ht33
  unfold qf
  refine ⟨?_,by omega⟩
  simp only [beq_iff_eq,Ah] at h1 h2 h3 ⊢
  exact ⟨⟨h1,h2⟩,h3⟩
 obtain ⟨hh,hlen⟩:=hh
 have hkl:=hok.2.1
 refine Z4 ?_;refine Z35 ?_;refine A2 [2,3,5] ?_
 refine Bo (α:=Nat) (fun i=>⟨53,A9 2 (.ro (E3 x)) (A9 3 (.ro (E3 y)) (A9 5 (A7 (i:Nat)) (fun _=>.any))),Hp,[],[],none⟩) (fun i=>i≤x.kids.length∧∀(j:Nat) (a b:Expr),j<i→x.kids[j]? = some a→y.kids[j]? = some b→eqE a b=true) (fun i=>x.kids.length-i) (0) ⟨Al _,fun j a b h=>by omega⟩ (Gk _) rfl (fun i hi=>?_)
 refine Tt ?_;refine A2 [2,3,5,38] ?_
 refine A6 (fun ht38=>?_) (fun ht38=>?_)
 ·have hlt:i<x.kids.length:=by simpa using ht38
  have hly:i<y.kids.length:=by omega
  refine Z56 ?_;refine Gb [0,1,0,7,15,0,32,0,224,480,1023,2047] 10 Af (by kernel_rfl) ?_;refine Z19 ?_
  refine Am (h:=B2 (i) (Aj x.kids[i]) (fun _=>Ea hlt)) (hr:=?_)
  refine Z85 ?_
  refine Am (h:=B2 (i) (Aj y.kids[i]) (fun _=>Ea hly)) (hr:=?_)
  refine Z65 ?_;refine Ap Tryz.call28 (ih x.kids[i] (hok.2.2 _ (D4 hlt)) y.kids[i] _) ?_;refine A3 ?_;refine A2 [2,3,5,52] ?_
  refine A6 (fun ht52=>?_) (fun ht52=>?_)
  ·have hf:eqE x y=false:=by rw [lx,lw hlt hly (by simpa using ht52),Zt]
   refine Z79 ?_;exact APa
  have he:eqE x.kids[i] y.kids[i]=true:=by simpa using ht52
  refine Wf ?_;refine A2 [2,3,5] ?_;exact Be (i+1) ⟨hlt,yt hlt hly hi.2 he⟩ (by omega) (Bp rfl)
 have hxe:x.kids.length≤i:=by simpa using ht38
 refine Z41 ?_;refine Z79 ?_;exact Ab (Ao Ag) ⟨by rw [lx,hh,Vg hlen (fun j a b hj=>hi.2 j a b (by omega))];rfl,rfl⟩

theorem c81 (n:Nat) (a b:List Expr) (ha:a.length≤1048576) (hok:∀y∈a,okE n y) (ih:∀(x:Expr),okE n x→∀(y:Expr) (Hp:List AObj),AFun Tryz.prog 74 [Aj x,Aj y] Hp (Bz (eqE x y))) (Hp:List AObj):AFun Tryz.prog 81 [.slice false 6 (a.map Aj),.slice false 6 (b.map Aj),.fn (.func 74) [] []] Hp (Bz (eqL a b)):=by
 refine B0 [.tmp 6] [0,1,2] Tryz.func81 Tryz.ntmps81 (fun d=>?_)
 refine Z2 ?_;refine A2 [0,1,2] ?_;refine Tt ?_;refine A2 [0,1,2,14] ?_
 refine A6 (fun ht14=>?_) (fun ht14=>?_)
 ·have hf:eqL a b=false:=yr (by have:=ht14;simp at this;omega)
  refine Z2 ?_;refine Z69 ?_;exact AP9
 have hlen:a.length=b.length:=by have:=ht14;simp at this;omega
 refine Z4 ?_;refine Z50 ?_;refine A2 [1,2,15,16,17] ?_
 refine Bo (α:=Nat) (fun i=>⟨32,A9 1 (.slice false 6 (b.map Aj)) (A9 2 (.fn (.func 74) [] []) (A9 15 (.slice false 6 (a.map Aj)) (A9 16 (A7 (a.length:Nat)) (A9 17 (A7 (i:Nat)) (fun _=>.any))))),Hp,[],[],none⟩) (fun i=>i≤a.length∧∀(j:Nat) (y z:Expr),j<i→a[j]? = some y→b[j]? = some z→eqE y z=true) (fun i=>a.length-i) (0) ⟨Al _,fun j y z h=>by omega⟩ (Ar (by simp)) rfl (fun i hi=>?_)
 refine Z2 ?_;refine A2 [1,2,15,16,17,18] ?_
 refine Nc (fun ht18=>?_) (fun ht18=>?_)
 ·have hlt:i<a.length:=by simpa using ht18
  have hlb:i<b.length:=by omega
  refine Z22 ?_;refine Z2 ?_
  refine A3 (h:=B2 (i) (Aj a[i]) (fun _=>Ea hlt)) (hr:=?_)
  refine A3 ?_;refine nr ?_;refine A2 [1,2,7,8,15,16,17] ?_;refine Z1 ?_
  refine A3 (h:=B2 (i) (Aj b[i]) (fun _=>Ea hlb)) (hr:=?_)
  refine A3 ?_;refine Z11 ?_;refine A2 [1,2,8,9,15,16,17] ?_;refine Z16 ?_;refine R.callV Tryz.call74 (ih a[i] (hok _ (D4 hlt)) b[i] _) ?_;refine A3 ?_;refine A2 [1,2,15,16,17,30] ?_
  refine A6 (fun ht30=>?_) (fun ht30=>?_)
  ·have hf:eqL a b=false:=lw hlt hlb (by simpa using ht30)
   refine Z2 ?_;refine Z69 ?_;exact APa
  have he:eqE a[i] b[i]=true:=by simpa using ht30
  refine ui ?_;refine A2 [1,2,15,16,17] ?_;refine Be (i+1) ⟨hlt,yt hlt hlb hi.2 he⟩ (by omega) ?_
  exact Oo (own:=[]) (fun _=>.refl _) (by repeat (first|exact H3|refine H1 (by first|exact H4|(simp;done)) ?_)) (by simp) (by simp)
 have hxe:a.length≤i:=by simpa using ht18
 refine Z26 ?_;refine Z2 ?_;refine Z69 ?_;exact Ab (Ao Ag) ⟨by rw [Vg hlen (fun j y z hj=>hi.2 j y z (by omega))],rfl⟩

theorem c74:∀(n:Nat) (x:Expr),okE n x→∀(y:Expr) (Hp:List AObj),AFun Tryz.prog 74 [Aj x,Aj y] Hp (Bz (eqE x y)):=by
 intro n
 induction n with
 | zero=>exact fun x h=>h.elim
 | succ n ih =>
 intro x hok y Hp
 refine B0 [.tmp 4] [0,1] Tryz.func74 Tryz.ntmps74 (fun d=>?_)
 refine Z16 ?_;refine P3 ?_;refine Z33 ?_;refine Z48 ?_;refine We ?_
 refine Bk (h:=Q.eqlAgg AIy (fun w=>Yw x.val.kind x.val.n y.val.kind y.val.n x.val.s y.val.s w)) (hr:=?_)
 refine Z48 ?_;refine D9 Tryz.call81 (fun hB=>c81 n x.kids y.kids hok.2.1 hok.2.2 ih _) ?_;refine AEh ?_;exact Ab (Ao Ag) ⟨by rw [AFg],rfl⟩

set_option maxRecDepth 8000
/-! Moves: what mig.Right, sound.* and the document's layers 18, 19 answer. -/
structure Mov where
 kind:Int
 take:List Str
 give:List Col
 ahead:List Expr
 back:List Expr
abbrev U4 (l:List Expr):AV:=.slice false 6 (l.map Aj)
abbrev Yb (m:Mov):List AV:=[A7 m.kind,Jw m.take,ALk m.give,U4 m.ahead,U4 m.back]
abbrev K5 (m:Mov):AV:=.agg (Yb m)
abbrev Io (l:List Mov):AV:=.slice false 5 (l.map K5)
/-- Trees that may be walked. -/
structure OkEs (l:List Expr):Prop where
 len:l.length≤1048576
 ok:∀e∈l,okE 61 e
 size:∀e∈l,sizeE e≤1048576
 rng:∀e∈l,E5 J0 e=true
structure OkMov (m:Mov):Prop where
 takes:m.take.length≤1048576
 names:∀s∈m.take,s.length≤1048576
 gives:OkCols m.give
 gives2:m.give.length≤1000000
 ahead:OkEs m.ahead
 back:OkEs m.back
structure OkMovs (l:List Mov):Prop where
 len:l.length≤1048576
 each:∀m∈l,OkMov m
def Ew (m:Mov):Bool:=
 if ((m.ahead.length:Int) != (m.give.length:Int)) || ((m.back.length:Int) != (m.take.length:Int)) then false
 else if m.kind==1 then ((m.take.length:Int)==0)&&((m.give.length:Int)==1)
 else if m.kind==2 then ((m.take.length:Int)==1)&&((m.give.length:Int)==0)
 else if (m.kind==3) || (m.kind==6) then ((m.take.length:Int)==1)&&((m.give.length:Int)==1)
 else if m.kind==4 then ((m.take.length:Int)==1)&&decide ((1:Int)<(m.give.length:Int))
 else if m.kind==5 then decide ((1:Int)<(m.take.length:Int))&&((m.give.length:Int)==1)
 else false
def L5 (m:Mov) (c:Col):Bool:=Ej c.name&&(((Av c.kind==[])==(m.kind==3)) && !((m.kind==3)&&(c.kind != 0)))
def Jp (m:Mov):Bool:=
 if m.kind==3 then eqE (m.ahead.getD 0 Ax) (Bj (m.take.getD 0 []))&&eqE (m.back.getD 0 Ax) (Bj (m.give.getD 0 ⟨[],0⟩).name)
 else if m.kind==6 then m.take.getD 0 []==(m.give.getD 0 ⟨[],0⟩).name else true
def Ix (m:Mov):Bool:=(((((Ew m&&m.give.all (L5 m))&&m.take.all Ej)&&m.ahead.all Da)&&m.back.all Da)&&Jp m)
def ck (l:List Mov):Bool:=decide ((l.length:Int)≤8)&&l.all Ix
/-! Columns behind moves. -/
theorem Sw {m:Mov} (h:Ix m=true):Ew m=true:=by
 unfold Ix at h
 simp only [Ah] at h
 exact h.1.1.1.1.1
theorem L6 {m:Mov} (h:Ew m=true):m.ahead.length=m.give.length∧m.back.length=m.take.length:=by
 unfold Ew at h
 split at h
 ·cases h
 rename_i h1
 simp only [Cz,bne_iff_ne,ne_eq,not_or,Classical.not_not] at h1
 omega
theorem Vh {m:Mov} (h:Ew m=true) (h3:((m.kind==3) || (m.kind==6))=true):m.take.length=1∧m.give.length=1:=by
 unfold Ew at h
 split at h
 ·cases h
 have h1:(m.kind==1)=false:=by simp at h3 ⊢;omega
 have h2:(m.kind==2)=false:=by simp at h3 ⊢;omega
 simp only [h1,h2,h3,if_true,if_false,B1,Ah,beq_iff_eq] at h
 omega
set_option maxRecDepth 4000
/-! mig.Parse: the first fault is Jl. -/
inductive PR (α:Type) where
 | ok (r:α) (i:Nat)
 | bad (e a:Int)
def PR.bind {α β:Type} (x:PR α) (f:α→Nat→PR β):PR β:=match x with
 | .ok r i=>f r i
 | .bad e a=>.bad e a
def cl {α:Type} (L:List Tok) (i:Nat) (e:Int):PR α:=.bad e (A4 L i).at_
def isP (L:List Tok) (s:Str) (i:Nat):Bool:=(((A4 L i).kind==5) || ((A4 L i).kind==2))&&((A4 L i).text==s)
def Cm (L:List Tok) (s:Str) (i:Nat):PR Unit:=if isP L s i then .ok () (i+1) else cl L i 8
def Fh (L:List Tok) (i:Nat):PR Str:=if (A4 L i).kind != 1 then cl L i 8 else .ok (A4 L i).text (i+1)
def Tf (L:List Tok) (nm:Str) (j:Nat):PR Col:=if ((A4 L j).kind != 2) || (Kd (A4 L j).text==0) then cl L j 8 else .ok ⟨nm,Kd (A4 L j).text⟩ (j+1)
def Jd (L:List Tok) (i:Nat):PR Col:=(Fh L i).bind (Tf L)
def K0 (L:List Tok) (i:Nat):PR Expr:=if (atM L i).2.2.1 != 0 then .bad (atM L i).2.2.1 (atM L i).2.2.2 else .ok (atM L i).1 (atM L i).2.1.toNat
def Ek (m:Mov) (c:Col):Mov:={ m with give:=m.give++[c] }
def Ml (m:Mov) (x:Expr):Mov:={ m with ahead:=m.ahead++[x] }
def Eb (L:List Tok) (m:Mov) (i:Nat):PR Mov:=(Jd L i).bind fun c j=>(Cm L [61] j).bind fun _ j=>(K0 L j).bind fun x j=>.ok (Ml (Ek m c) x) j
def Kr (L:List Tok) (n:Int) (k:Nat) (i:Nat):Bool:=decide ((k:Int)<n) || ((n==0)&&(decide ((k:Int)<2) || isP L [44] i))
/-- Things with commas between, behind the first k. -/
def Ip (L:List Tok) (n:Int) (one:Mov→Nat→PR Mov):Nat→Nat→Mov→Nat→PR Mov
 | 0,_,m,i=>.ok m i
 | f+1,k,m,i=>if Kr L n k i then (Cm L [44] i).bind fun _ j=>(one m j).bind fun m j=>Ip L n one f (k+1) m j else .ok m i
def Gq (L:List Tok) (n:Int) (one:Mov→Nat→PR Mov) (m:Mov) (i:Nat):PR Mov:=(one m i).bind fun m j=>Ip L n one (L.length+1) 1 m j
def backW:Str:=[98,97,99,107]
def intoW:Str:=[105,110,116,111]
def toW:Str:=[116,111]
def M0 (m:Mov) (x:Expr):Mov:={ m with back:=m.back++[x] }
def Nm (L:List Tok) (m:Mov) (i:Nat):PR Mov:=(K0 L i).bind fun x j=>.ok (M0 m x) j
def Fc (L:List Tok) (m:Mov) (i:Nat):PR Mov:=(Cm L backW i).bind fun _ j=>Gq L m.take.length (Nm L) m j
def Mw (L:List Tok) (m:Mov) (i:Nat):PR Mov:=(Fh L i).bind fun s j=>(Cm L toW j).bind fun _ j=>(Fh L j).bind fun t j=>.ok ⟨m.kind,[s],[⟨t,0⟩],[Bj s],[Bj t]⟩ j
def takeS (m:Mov) (s:Str):Mov:={ m with take:=[s] }
def Tg (m:Mov) (s:Str):Mov:={ m with take:=m.take++[s] }
def Nn (L:List Tok) (m:Mov) (i:Nat):PR Mov:=(Fh L i).bind fun s j=>.ok (Tg m s) j
def I8 (L:List Tok) (m:Mov) (i:Nat):PR Mov:=
 if m.kind==1 then Eb L m i
 else if m.kind==2 then (Fh L i).bind fun s j=>Fc L (takeS m s) j
 else if m.kind==3 then Mw L m i
 else if m.kind==4 then (Fh L i).bind fun s j=>(Cm L intoW j).bind fun _ j=>(Gq L 0 (Eb L) (takeS m s) j).bind fun m j=>Fc L m j
 else if m.kind==5 then (Gq L 0 (Nn L) m i).bind fun m j=>(Cm L intoW j).bind fun _ j=>(Eb L m j).bind fun m j=>Fc L m j
 else if m.kind==6 then (Eb L m i).bind fun m j=>Fc L (takeS m (m.give.getD 0 ⟨[],0⟩).name) j
 else .ok m i
def migWords:List Str:=[[],[97,100,100],[100,114,111,112],[114,101,110,97,109,101],[115,112,108,105,116],[109,101,114,103,101],[114,101,116,121,112,101]]
def B3 (k:Int):Str:=if (decide (k<1) || decide (6<k))=true then [] else migWords.getD k.toNat []
def E9 (s:Str):Int:=if B3 1==s then 1 else if B3 2==s then 2 else if B3 3==s then 3 else if B3 4==s then 4 else if B3 5==s then 5 else if B3 6==s then 6 else 0
def J3 (L:List Tok) (i:Nat):PR Mov:=
 if ((A4 L i).kind != 2) || (E9 (A4 L i).text==0) then cl L i 8
 else (I8 L ⟨E9 (A4 L i).text,[],[],[],[]⟩ (i+1)).bind fun m j=>(Cm L [59] j).bind fun _ j=>.ok m j
/-- Moves, behind some. -/
def F1 (L:List Tok):Nat→List Mov→Nat→PR (List Mov)
 | 0,l,i=>.ok l i
 | f+1,l,i=>if (A4 L i).kind != 0 then (if (l.length:Int)==8 then cl L i 3 else (J3 L i).bind fun m j=>F1 L f (l++[m]) j) else .ok l i
def L7 (L:List Tok):PR (List Mov):=F1 L 9 [] 0
/-- The moves; the fault's code and place. -/
def M1 (s:Str):List Mov×Int×Int:=
 if (C4 s).2.1 != 0 then ([],(C4 s).2.1,(C4 s).2.2)
 else match L7 (C4 s).1 with
  | .ok l _=>(l,0,0)
  | .bad e a=>([],e,a)
/-! Where the parser of moves comes to. -/
def PR.In {α:Type} (x:PR α) (i n:Nat):Prop:=∀r j,x=.ok r j→i<j∧j<n
theorem PR.bind_ok {α β:Type} {x:PR α} {f:α→Nat→PR β} {r:β} {j:Nat} (h:x.bind f=.ok r j):∃a k,x=.ok a k∧f a k=.ok r j:=by
 cases x with
 | ok a k=>exact ⟨a,k,rfl,h⟩
 | bad e a=>cases h
theorem yu {L:List Tok} {s:Str} {i:Nat} (h:isP L s i=true):(A4 L i).kind≠0:=by
 unfold isP at h
 simp only [Ah,Cz,beq_iff_eq] at h
 rcases h.1 with h|h<;>rw [h]<;>decide
theorem El {L:List Tok} (hl:TokEnd L) {s:Str} {i:Nat} (hi:i<L.length):(Cm L s i).In i L.length:=by
 intro r j h
 unfold Cm at h
 split at h
 ·rename_i h1
  injection h with _ h
  subst h
  exact ⟨kj i,hl.step hi (yu h1)⟩
 cases h
theorem Gx {L:List Tok} (hl:TokEnd L) {i:Nat} (hi:i<L.length):(Fh L i).In i L.length:=by
 intro r j h
 unfold Fh at h
 split at h
 ·cases h
 rename_i h1
 injection h with _ h
 subst h
 have hk:(A4 L i).kind=1:=by simpa using h1
 exact APq
theorem AJx {L:List Tok} (hl:TokEnd L) {nm:Str} {i:Nat} (hi:i<L.length):(Tf L nm i).In i L.length:=by
 intro r j h
 unfold Tf at h
 split at h
 ·cases h
 rename_i h1
 injection h with _ h
 subst h
 have hk:(A4 L i).kind=2:=by simp only [Tk,Hb,bne_eq_false_iff_eq] at h1;exact h1.1
 exact APq
theorem Wv {L:List Tok} (hl:TokEnd L) {i:Nat} (hi:i<L.length):(Jd L i).In i L.length:=by
 intro r j h
 obtain ⟨a,k,h1,h2⟩:=PR.bind_ok h
 obtain ⟨a1,a2⟩:=Gx hl hi _ _ h1
 obtain ⟨b1,b2⟩:=AJx hl a2 _ _ h2
 exact ⟨by omega,b2⟩
theorem Li {L:List Tok} (hl:TokEnd L) (hll:L.length≤500000) {i:Nat} (hi:i<L.length) {x:Expr} {k:Nat} (h:K0 L i=.ok x k):i≤k∧k<L.length:=by
 unfold K0 at h
 split at h
 ·cases h
 rename_i h0
 injection h with _ h
 subst h
 have h0:(atM L i).2.2.1=0:=by simpa using h0
 have hq:=cj hl (by omega:L.length≤1048576) hi
 unfold atM at h0 ⊢
 split at h0
 ·rename_i h1
  have:(atS L i (atR L i)).code=0:=h0
  rw [this] at h1
  cases h1
 rename_i h1
 rw [if_neg h1]
 have e:(atS L i (atR L i)).i=(atR L i).2.i:=by
  unfold atS
  repeat' split
  all_goals first|rfl|exact failM_i.1
 show i≤((atS L i (atR L i)).i:Int).toNat∧((atS L i (atR L i)).i:Int).toNat<_
 rw [Int.toNat_natCast,e]
 exact ⟨hq.le,hq.lt⟩
/-- A move has no more parts than so many. -/
structure MvLe (m:Mov) (n:Nat):Prop where
 take:m.take.length≤n
 give:m.give.length≤n
 ahead:m.ahead.length≤n
 back:m.back.length≤n
theorem MvLe.mono {m:Mov} {i j:Nat} (h:MvLe m i) (hij:i≤j):MvLe m j:=⟨Mq h.take hij,Mq h.give hij,Mq h.ahead hij,Mq h.back hij⟩
/-- What a part of a move comes to. -/
def AN9 (x:PR Mov) (i n:Nat):Prop:=∀m j,x=.ok m j→i≤j∧j<n∧MvLe m (2*j)
/-- A part of a move that goes on from i. -/
def ey (L:List Tok) (one:Mov→Nat→PR Mov):Prop:=∀m i,MvLe m (2*i-1)→0<i→i<L.length→AN9 (one m i) i L.length
theorem Je {L:List Tok} (hl:TokEnd L) (hll:L.length≤500000):ey L (Eb L):=by
 intro m i hm _ hi m' k h
 obtain ⟨c,j,h1,h2⟩:=PR.bind_ok h
 obtain ⟨u,j2,h3,h4⟩:=PR.bind_ok h2
 obtain ⟨x,j3,h5,h6⟩:=PR.bind_ok h4
 injection h6 with h6 h7
 subst h6;subst h7
 have a1:=Wv hl hi _ _ h1
 have a2:=El hl a1.2 _ _ h3
 have a3:=Li hl hll a2.2 h5
 obtain ⟨b1,b2,b3,b4⟩:=hm
 exact ⟨by omega,a3.2,by show m.take.length≤_;omega,by show (m.give++[c]).length≤_;rw [Ai,Gt];omega,by show (m.ahead++[x]).length≤_;rw [Ai,Gt];omega,by show m.back.length≤_;omega⟩
theorem cm {L:List Tok} (hl:TokEnd L) (hll:L.length≤500000):ey L (Nm L):=by
 intro m i hm h0 hi m' k h
 obtain ⟨x,j,h1,h2⟩:=PR.bind_ok h
 injection h2 with h6 h7
 subst h6;subst h7
 have a3:=Li hl hll hi h1
 obtain ⟨b1,b2,b3,b4⟩:=hm
 exact ⟨by omega,a3.2,by show m.take.length≤_;omega,by show m.give.length≤_;omega,by show m.ahead.length≤_;omega,by show (m.back++[x]).length≤_;rw [Ai,Gt];omega⟩
theorem Rq {L:List Tok} (hl:TokEnd L):ey L (Nn L):=by
 intro m i hm _ hi m' k h
 obtain ⟨s,j,h1,h2⟩:=PR.bind_ok h
 injection h2 with h6 h7
 subst h6;subst h7
 have a1:=Gx hl hi _ _ h1
 obtain ⟨b1,b2,b3,b4⟩:=hm
 exact ⟨by omega,a1.2,by show (m.take++[s]).length≤_;rw [Ai,Gt];omega,by show m.give.length≤_;omega,by show m.ahead.length≤_;omega,by show m.back.length≤_;omega⟩
theorem Jq {L:List Tok} {s:Str} {i:Nat} {u:Unit} {j:Nat} (h:Cm L s i=.ok u j):j=i+1:=by
 unfold Cm at h
 split at h
 ·injection h with _ h;exact h.symm
 cases h
theorem qg {L:List Tok} (hl:TokEnd L) {n:Int} {one:Mov→Nat→PR Mov} (hP:ey L one):∀(f k:Nat) (m:Mov) (i:Nat),MvLe m (2*i)→0<i→i<L.length→AN9 (Ip L n one f k m i) i L.length
 | 0,k,m,i,hm,h0,hi=>fun m' j h=>by
  injection h with h1 h2
  subst h1;subst h2
  exact ⟨Ae _,hi,hm⟩
 | f+1,k,m,i,hm,h0,hi=>fun m' j h=>by
  rw [Ip] at h
  split at h
  ·obtain ⟨u,j1,h1,h2⟩:=PR.bind_ok h
   obtain ⟨m1,j2,h3,h4⟩:=PR.bind_ok h2
   have e:=Jq h1
   have a1:=El hl hi _ _ h1
   obtain ⟨b1,b2,b3⟩:=hP m j1 (hm.mono (by omega)) (by omega) a1.2 _ _ h3
   obtain ⟨c1,c2,c3⟩:=qg hl hP f (k+1) m1 j2 b3 (by omega) b2 _ _ h4
   exact um
  injection h with h1 h2
  subst h1;subst h2
  exact ⟨Ae _,hi,hm⟩
theorem Q6 {L:List Tok} (hl:TokEnd L) {n:Int} {one:Mov→Nat→PR Mov} (hP:ey L one):ey L (Gq L n one):=by
 intro m i hm h0 hi m' k h
 obtain ⟨m1,j,h1,h2⟩:=PR.bind_ok h
 obtain ⟨b1,b2,b3⟩:=hP m i hm h0 hi _ _ h1
 obtain ⟨c1,c2,c3⟩:=qg hl hP _ _ m1 j b3 (by omega) b2 _ _ h2
 exact um
theorem Zi {L:List Tok} (hl:TokEnd L) (hll:L.length≤500000) {m:Mov} {i:Nat} (hm:MvLe m (2*i)) (hi:i<L.length):AN9 (Fc L m i) i L.length:=by
 intro m' k h
 obtain ⟨u,j,h1,h2⟩:=PR.bind_ok h
 have e:=Jq h1
 have a1:=El hl hi _ _ h1
 obtain ⟨c1,c2,c3⟩:=Q6 hl (cm hl hll) m j (hm.mono (by omega)) (by omega) a1.2 _ _ h2
 exact um
theorem ABy {L:List Tok} (hl:TokEnd L):ey L (Mw L):=by
 intro m i hm h0 hi m' k h
 obtain ⟨s,j,h1,h2⟩:=PR.bind_ok h
 obtain ⟨u,j2,h3,h4⟩:=PR.bind_ok h2
 obtain ⟨t,j3,h5,h6⟩:=PR.bind_ok h4
 injection h6 with h6 h7
 subst h6;subst h7
 have a1:=Gx hl hi _ _ h1
 have a2:=El hl a1.2 _ _ h3
 have a3:=Gx hl a2.2 _ _ h5
 exact ⟨by omega,a3.2,by show 1≤_;omega,by show 1≤_;omega,by show 1≤_;omega,by show 1≤_;omega⟩
theorem MvLe.takeS {m:Mov} {n:Nat} (h:MvLe m n) {s:Str} (h1:1≤n):MvLe (takeS m s) n:=⟨h1,h.give,h.ahead,h.back⟩
theorem ly {L:List Tok} (hl:TokEnd L) (hll:L.length≤500000):ey L (I8 L):=by
 intro m i hm h0 hi m' k h
 unfold I8 at h
 split at h
 ·exact Je hl hll m i hm h0 hi _ _ h
 split at h
 ·obtain ⟨s,j,h1,h2⟩:=PR.bind_ok h
  have a1:=Gx hl hi _ _ h1
  obtain ⟨c1,c2,c3⟩:=Zi hl hll ((hm.mono (by omega:2*i-1≤2*j)).takeS (by omega)) a1.2 _ _ h2
  exact um
 split at h
 ·exact ABy hl m i hm h0 hi _ _ h
 split at h
 ·obtain ⟨s,j,h1,h2⟩:=PR.bind_ok h
  obtain ⟨u,j2,h3,h4⟩:=PR.bind_ok h2
  obtain ⟨m1,j3,h5,h6⟩:=PR.bind_ok h4
  have a1:=Gx hl hi _ _ h1
  have a2:=El hl a1.2 _ _ h3
  obtain ⟨b1,b2,b3⟩:=Q6 hl (Je hl hll) (takeS m s) j2 ((hm.mono (by omega:2*i-1≤2*j2-1)).takeS (by omega)) (by omega) a2.2 _ _ h5
  obtain ⟨c1,c2,c3⟩:=Zi hl hll b3 b2 _ _ h6
  exact um
 split at h
 ·obtain ⟨m1,j,h1,h2⟩:=PR.bind_ok h
  obtain ⟨u,j2,h3,h4⟩:=PR.bind_ok h2
  obtain ⟨m2,j3,h5,h6⟩:=PR.bind_ok h4
  obtain ⟨b1,b2,b3⟩:=Q6 hl (Rq hl) m i hm h0 hi _ _ h1
  have e:=Jq h3
  have a2:=El hl b2 _ _ h3
  obtain ⟨d1,d2,d3⟩:=Je hl hll m1 j2 (b3.mono (by omega)) (by omega) a2.2 _ _ h5
  obtain ⟨c1,c2,c3⟩:=Zi hl hll d3 d2 _ _ h6
  exact um
 split at h
 ·obtain ⟨m1,j,h1,h2⟩:=PR.bind_ok h
  obtain ⟨d1,d2,d3⟩:=Je hl hll m i hm h0 hi _ _ h1
  obtain ⟨c1,c2,c3⟩:=Zi hl hll (d3.takeS (by omega)) d2 _ _ h2
  exact um
 injection h with h1 h2
 subst h1;subst h2
 exact ⟨Ae _,hi,hm.mono (by omega)⟩
def Cc:=@PR.bind_ok
set_option maxRecDepth 8000
/-! The words of a print. -/
/-- This text, before that one, is these words. -/
def Lx (u:Str) (T:List TK) (R:Str):Prop:=∀f q,(u++R).length<f→∃M:List Tok,M.map ktT=T∧Ou f q (u++R)=M.map (fun t=>(t,0))++Ou f (q+u.length) R
theorem Lx.nil (R:Str):Lx [] [] R:=fun f q _=>⟨[],rfl,by simp⟩
theorem Lx.app {u v:Str} {T V:List TK} {R:Str} (h1:Lx u T (v++R)) (h2:Lx v V R):Lx (u++v) (T++V) R:=fun f q hf=>by
 obtain ⟨M,hM,e1⟩:=h1 f q (by simpa using hf)
 obtain ⟨N,hN,e2⟩:=h2 f (q+u.length) (by simp at hf ⊢;omega)
 refine ⟨M++N,by rw [Cu,hM,hN],?_⟩
 rw [C8,e1,e2,Cu,C8,Ai,Is]
theorem ABz {f f' q:Nat} {s:Str} (h1:s.length<f) (h2:s.length<f'):Ou f q s=Ou f' q s:=by
 have:=ll s
 unfold Ou
 exact Xr f f' _ _ (by rw [Dh];omega) (by rw [Dh];omega)
theorem Lx.blank (R:Str):Lx [32] [] R:=fun f q _=>⟨[],rfl,by simpa using vo f q R⟩
/-- One word, that starts at once. -/
theorem Lx.word {u R:Str} {k:Int} {t:Str} (hu:u≠[]) (hb:blanks.contains (u.headD 0)=false) (h35:u.headD 0≠35) (hw:Bi (u++R)=(k,t,(u.length:Int),0)):Lx u [(k,t)] R:=fun f q hf=>by
 cases u with
 | nil=>exact absurd rfl hu
 | cons c v =>
  have hg:gapM (c::v++R)=0:=by
   unfold gapM
   rw [Ey,Cx,if_neg (by rw [show (c::v).headD 0=c from rfl] at hb;rw [hb];simp),if_neg (by rw [show (c::v).headD 0=c from rfl] at h35;simpa using h35)]
   simp
  cases f with
  | zero=>omega
  | succ f =>
   refine ⟨[⟨k,t,q⟩],rfl,?_⟩
   have hne:(c::v++R==[])=false:=rfl
   have e:Ou (f+1) q (c::v++R)=(⟨k,t,q⟩,0)::Ou f (q+(c::v).length) R:=by
    have hd:(c::v++R).drop (c::v).length=R:=List.drop_left
    unfold Ou
    rw [hg,Pf,Nat.add_zero,Gc,hne,if_neg (by simp),hw]
    simp only [beq_self_eq_true,if_true,Int.toNat_natCast,hd,Nat.add_zero]
   rw [e]
   show _=[((⟨k,t,q⟩:Tok),(0:Int))]++_
   have hl:R.length<f:=by simp at hf;omega
   rw [List.singleton_append,ABz hl (show R.length<f+1 by omega)]
/-- What may stand behind a tree, or a name. -/
def G8 (R:Str):Prop:=∀c r,R=c::r→c=32∨c=40∨c=41∨c=44∨c=59
theorem qh {p:UInt8→Bool} {u R:Str} (h:∀c∈u,p c=true) (hR:∀c r,R=c::r→p c=false):(u++R).takeWhile p=u:=by
 induction u with
 | nil =>
  cases R with
  | nil=>rfl
  | cons c r=>rw [Fi,O2,hR c r rfl];rfl
 | cons a u ih =>
  rw [Ey,O2,h a Ev,if_pos rfl,ih (fun c hc=>h c (O1 _ hc))]
theorem wd {R:Str} (h:G8 R):∀c r,R=c::r→tails.contains c=false:=fun c r e=>by
 rcases h c r e with rfl|rfl|rfl|rfl|rfl<;>kernel_rfl
theorem AC0 {R:Str} (h:G8 R):∀c r,R=c::r→digs.contains c=false:=fun c r e=>by
 rcases h c r e with rfl|rfl|rfl|rfl|rfl<;>kernel_rfl
/-- A word of letters. -/
theorem cn {u R:Str} (hl:letters.contains (u.headD 0)=true) (hu:u≠[]) (ha:∀c∈u,tails.contains c=true) (hR:G8 R):Bi (u++R)=if Dk u then (2,u,(u.length:Int),0) else if !Ej u then (0,[],0,3) else (1,u,(u.length:Int),0):=by
 have hw:Cp (u++R) tails=u:=by rw [L2];exact qh ha (wd hR)
 cases u with
 | nil=>exact absurd rfl hu
 | cons c v =>
  have h1:decide (0<Lq ((c::v++R).take 1) letters)=true:=by
   have e:(c::v++R).take 1=[c]:=rfl
   have e2:Cp [c] letters=[c]:=by rw [L2,O2,show letters.contains c=true from hl];rfl
   have e3:=Ur [c] letters
   have e4:runN [c] letters=1:=by
    have:(Cp [c] letters).length=1:=by rw [e2];rfl
    unfold Cp at this
    rw [J6] at this
    have hle:runN [c] letters≤1:=Yq _ _
    simp at this
    omega
   rw [e,e3,e4]
   rfl
  unfold Bi
  rw [if_pos h1]
  unfold Nh
  rw [hw]
theorem we:(letters.all fun c => !(blanks.contains c) && !(c==35) && !(c==39) && !(c==61))=true:=by kernel_rfl
theorem Vi {c:UInt8} (h:letters.contains c=true):blanks.contains c=false:=by
 have:=Ay.1 we c (by simpa using h)
 simp only [Ah,I9] at this
 exact this.1.1.1
theorem co {t R:Str} (h:H8 t=true) (hR:G8 R):Lx t [(1,t)] R:=by
 have h0:=h
 rw [o8] at h
 simp only [Ah,I9,Hb,beq_eq_false_iff_ne,decide_eq_false_iff_not,sk] at h
 obtain ⟨⟨⟨⟨h1,h2⟩,h3⟩,h4⟩,h5⟩:=h
 have hu:t≠[]:=by rintro rfl;simp at h1
 have hl:letters.contains (t.headD 0)=true:=by rw [Ux];simpa using h3
 have hr:Dk t=false:=by
  have:=Hi t
  rw [h0] at this
  unfold Ej at this
  simp only [Ah,I9] at this
  exact this.2
 refine Lx.word hu ?_ ?_ ?_
 ·exact Vi hl
 ·intro e;rw [e] at hl;revert hl;decide
 rw [cn hl hu (fun c hc=>by rw [bf];exact Ay.1 h5 c hc) hR,hr,Hi,h0]
 rfl
def E6:=@Lx.app
theorem Od (c:UInt8) (of:Str):Lq [c] of=if of.contains c then 1 else 0:=by
 have e2:=L2 [c] of
 have e3:=Ur [c] of
 have hle:runN [c] of≤1:=Yq _ _
 have hlen:(Cp [c] of).length=runN [c] of:=by unfold Cp;rw [J6];simp;omega
 rw [e3,←hlen,e2,O2]
 cases of.contains c<;>rfl
/-- A word that no letter begins, and no digit. -/
theorem i6 {c:UInt8} {R:Str} (hl:letters.contains c=false) (hd:digs.contains c=false) (h39:c≠39):Bi (c::R)=Ni (c::R):=by
 have h1:¬(decide (0<Lq ((c::R).take 1) letters)=true):=by
  rw [show (c::R).take 1=[c] from rfl,Od,hl];simp
 have h2:¬(decide (0<Lq ((c::R).take 1) digs)=true):=by
  rw [show (c::R).take 1=[c] from rfl,Od,hd];simp
 have h3:¬(((((c::R).getD 0 0).toNat:Int)==39)=true):=by
  rw [show (c::R).getD 0 0=c from rfl,beq_iff_eq]
  intro h
  exact h39 (F5.1 (by rw [show (39:UInt8).toNat=39 from rfl];omega))
 unfold Bi
 rw [if_neg h1,if_neg h2,if_neg h3]
/-- A mark of one sign. -/
theorem Q7 {c:UInt8} {R:Str} (hc:(!(letters.contains c) && !(digs.contains c) && !(c==39) && !(blanks.contains c) && !(c==35)&&Lib.contains singles [c])=true) (hR:∀d r,R=d::r→d≠61):Lx [c] [(5,[c])] R:=by
 simp only [Ah,I9,beq_eq_false_iff_ne] at hc
 obtain ⟨⟨⟨⟨⟨h1,h2⟩,h3⟩,h4⟩,h5⟩,h6⟩:=hc
 refine Lx.word (by simp) h4 h5 ?_
 rw [List.singleton_append,i6 h1 h2 h3]
 have hx:(((((c::R).getD 1 0).toNat:Int)==61))=false:=by
  cases R with
  | nil=>rfl
  | cons d r =>
   rw [show (c::d::r).getD 1 0=d from rfl,beq_eq_false_iff_ne]
   intro h
   exact hR d r rfl (F5.1 (by rw [show (61:UInt8).toNat=61 from rfl];omega))
 unfold Ni
 rw [hx,Zt,if_neg (by simp),if_pos (by rw [show (c::R).take 1=[c] from rfl];exact h6)]
 rfl
/-- A mark of two signs. -/
theorem lz {c:UInt8} {R:Str} (hc:(!(letters.contains c) && !(digs.contains c) && !(c==39) && !(blanks.contains c) && !(c==35)&&Lib.contains Sq [c,61])=true):Lx [c,61] [(5,[c,61])] R:=by
 simp only [Ah,I9,beq_eq_false_iff_ne] at hc
 obtain ⟨⟨⟨⟨⟨h1,h2⟩,h3⟩,h4⟩,h5⟩,h6⟩:=hc
 refine Lx.word (by simp) h4 h5 ?_
 rw [show [c,61]++R=c::61::R from rfl,i6 h1 h2 h3]
 unfold Ni
 have hl:decide ((1:Int)<((c::61::R).length:Int))=true:=by simp;omega
 rw [if_pos (by rw [hl,show (c::61::R).take 2=[c,61] from rfl,h6];rfl)]
 rfl
/-- A reserved word. -/
theorem cp {u R:Str} (hu:(!(u==[])&&letters.contains (u.headD 0)&&(u.all fun c=>tails.contains c)&&Dk u)=true) (hR:G8 R):Lx u [(2,u)] R:=by
 simp only [Ah,I9,beq_eq_false_iff_ne] at hu
 obtain ⟨⟨⟨h1,h2⟩,h3⟩,h4⟩:=hu
 refine Lx.word h1 (Vi h2) (fun e=>by rw [e] at h2;revert h2;decide) ?_
 rw [cn h2 h1 (fun c hc=>Ay.1 h3 c hc) hR,h4]
 rfl
/-- A number. -/
theorem AQn {n:Int} (h0:0≤n) (h1:n≤9223372036854775807) {R:Str} (hR:G8 R):Lx (Lib.itoa n) [(3,Lib.itoa n)] R:=by
 obtain ⟨u,rfl⟩:∃u:Nat,n=(u:Int):=⟨n.toNat,by omega⟩
 have e0:Lib.itoa (u:Int)=Lib.decDigits u:=by unfold Lib.itoa;rw [if_neg (by omega)];simp
 have hr:=qd h0 h1
 rw [e0] at hr ⊢
 obtain ⟨c,r,hcr,_⟩:=Vf u
 have hall:=Ve u
 have hcd:digs.contains c=true:=hall c (by rw [hcr];exact Ev)
 have hda:(digs.all fun c => !(letters.contains c) && !(blanks.contains c) && !(c==35))=true:=by kernel_rfl
 have hc:=Ay.1 hda c (by simpa using hcd)
 simp only [Ah,I9,beq_eq_false_iff_ne] at hc
 have hw:Cp (Lib.decDigits u++R) digs=Lib.decDigits u:=by rw [L2];exact qh hall (AC0 hR)
 refine Lx.word (by rw [hcr];simp) (by rw [hcr];exact hc.1.2) (by rw [hcr];exact hc.2) ?_
 have h1':¬(decide (0<Lq ((Lib.decDigits u++R).take 1) letters)=true):=by
  rw [hcr,show (c::r++R).take 1=[c] from rfl,Od,hc.1.1];simp
 have h2':decide (0<Lq ((Lib.decDigits u++R).take 1) digs)=true:=by
  rw [hcr,show (c::r++R).take 1=[c] from rfl,Od,hcd];simp
 unfold Bi
 rw [if_neg h1',if_pos h2']
 unfold Py
 rw [hw,hr]
/-! What a tree comes to: eval's model. -/
abbrev Rs:=Val×Int
def cq (e:Int):Rs:=(noV,e)
def AQo (s:Str):Val:=⟨2,0,s.take 200⟩
def i7 (a:Int):Int:=if decide (a<0) then IntKind.u64.wrap (0-IntKind.u64.wrap a) else IntKind.u64.wrap a
def No (r:Rs):Rs:=if (r.2==0)&&(r.1.kind != 0)&&(r.1.kind != 3) then cq 10 else r
def AFs (strong:Val) (a b:Rs):Rs:=if ((No a).2 != 0) || ((No a).1==strong) then No a else if (((No b).2 != 0) || ((No b).1==strong)) || ((No a).1.kind != 0) then No b else ((No a).1,0)
def ifW:Str:=[105,102]
def AJy:Str:=[110,118,108]
def Vj:Str:=[105,115,110,117,108,108]
def AQp (t:Str) (a b c:Rs):Rs:=
 if t==ifW then (if (No a).2 != 0 then cq (No a).2 else if (No a).1==oa true then b else c)
 else if a.2 != 0 then cq a.2 else if t==Vj then (oa (a.1.kind==0),0) else if a.1.kind != 0 then (a.1,0) else b
def ASr (strict:List Val→Rs) (l:List Rs):Rs:=match l.find? (fun q=>q.2 != 0) with|some q=>cq q.2|none=>if l.any (fun q=>q.1.kind==0) then (noV,0) else strict (l.map (·.1))
def cr (c:List Col) (l:List Val) (t:Str):Rs:=if yf t c<0 then cq 9 else (l.getD (yf t c).toNat noV,0)
def orW:Str:=[111,114]
def ASs:Str:=[97,110,100]
/-- A node, of what its kids come to; what a strict node comes to is a parameter. -/
def ALm (strict:Int→Str→List Val→Rs) (c:List Col) (l:List Val) (o:Int) (t:Str) (v:Val) (ks:List Rs):Rs:=
 if o==1 then (v,0) else if o==2 then cr c l t
 else if (o==5)&&(t==orW) then AFs (oa true) (ks.getD 0 (noV,0)) (ks.getD 1 (noV,0))
 else if (o==5)&&(t==ASs) then AFs (oa false) (ks.getD 0 (noV,0)) (ks.getD 1 (noV,0))
 else if (o==6)&&(((t==ifW) || (t==AJy)) || (t==Vj)) then AQp t (ks.getD 0 (noV,0)) (ks.getD 1 (noV,0)) (ks.getD 2 (noV,0))
 else ASr (strict o t) ks
mutual
def Xw (strict:Int→Str→List Val→Rs) (c:List Col) (l:List Val):Expr→Rs
 | .mk o t v k=>ALm strict c l o t v (ib strict c l k)
def ib (strict:Int→Str→List Val→Rs) (c:List Col) (l:List Val):List Expr→List Rs
  | []=>[]
  | e::r=>Xw strict c l e::ib strict c l r
 end
/-! A tree in a column's place comes to what its value would there. -/
mutual
theorem eval_put {f:Int→Str→List Val→Rs} {c:List Col} {l m:List Val} {s:Str} {y:Expr} (hs:cr c m s=Xw f c l y) (ho:∀t,t≠s→cr c m t=cr c l t):∀x:Expr,Xw f c l (AN3 s y x)=Xw f c m x
 | .mk o t v k=>by
  rw [AN3]
  split
  ·rename_i h
   rw [Ah,beq_iff_eq,beq_iff_eq] at h
   obtain ⟨rfl,rfl⟩:=h
   rw [←hs,Xw]
   rfl
  rename_i h
  rw [Xw,Xw,ic hs ho k]
  unfold ALm
  by_cases h2:(o==2)=true
  ·have:t≠s:=fun e=>h (by rw [h2,e];simp)
   rw [ho t this]
  rw [if_neg h2,if_neg h2]
theorem ic {f:Int→Str→List Val→Rs} {c:List Col} {l m:List Val} {s:Str} {y:Expr} (hs:cr c m s=Xw f c l y) (ho:∀t,t≠s→cr c m t=cr c l t):∀k:List Expr,ib f c l (AJi s y k)=ib f c m k
  | []=>rfl
  | e::r=>by rw [AJi,ib,ib,eval_put hs ho e,ic hs ho r]
 end
/-! Who is not named plays no part. -/
/-! What a strict node comes to. -/
/-! Values are plain, and their numbers have 64 bits. -/
structure Fine (v:Val):Prop where
 plain:Dr v=true
 lo : -9223372036854775808≤v.n
 hi:v.n≤9223372036854775807
theorem AFt (s:Str):Fine (AQo s):=⟨by
 unfold Dr AQo
 simp only [show ((2:Int)==0)=false from rfl,show ((2:Int)==1)=false from rfl,show ((2:Int)==2)=true from rfl,B1,if_false,if_true,show ((0:Int)==0)=true from rfl,D0,decide_eq_true_eq,J6]
 omega,by show -9223372036854775808≤(0:Int);decide,by show (0:Int)≤9223372036854775807;decide⟩
/-! A text between marks. -/
theorem Ww {R:Str} (hR:∀c r,R=c::r→c≠39):∀t:Str,D5 (Cb t++39::R)=some ((Cb t).length+1)
 | []=>by
  show D5 (39::R)=some 1
  cases R with
  | nil=>rfl
  | cons d r =>
   have:(d==39)=false:=by simpa using hR d r rfl
   rw [D5,if_pos (by decide),this]
   rfl
 | c::t=>by
  rw [Ht]
  by_cases hc:c=39
  ·subst hc
   rw [show Uz 39=[39,39] from rfl]
   show D5 (39::39::(Cb t++39::R))=_
   rw [D5,if_pos (by decide),if_pos (by decide),Ww hR t]
   simp
  rw [show Uz c=[c] from if_neg hc]
  show D5 (c::(Cb t++39::R))=_
  rw [Lr (by simpa using hc),Ww hR t]
  simp
theorem AFu:∀t:Str,(Lib.index (Cb t) [39,39] = -1∧Cb t=t)∨∃i:Nat,Lib.index (Cb t) [39,39]=(i:Int)∧i<t.length∧(Cb t).take i=t.take i∧(Cb t).drop (i+2)=Cb (t.drop (i+1))∧t=t.take i++[39]++t.drop (i+1)
 | []=>.inl ⟨rfl,rfl⟩
 | b::l=>by
  by_cases hb:b=39
  ·subst hb
   refine .inr ⟨0,?_,by simp,rfl,?_,by simp⟩
   ·rw [Ht]
    show Lib.index (39::39::Cb l) [39,39]=0
    rw [Lib.index,if_pos (by simp [List.isPrefixOf])]
   rw [Ht]
   rfl
  have hd:Cb (b::l)=b::Cb l:=by
   rw [Ht,Uz,if_neg hb]
   rfl
  have hp:([39,39]:Str).isPrefixOf (b::Cb l)=false:=by
   simp [List.isPrefixOf,Ne.symm hb]
  rcases AFu l with ⟨h1,h2⟩|⟨i,h1,h2,h3,h4,h5⟩
  ·refine .inl ⟨?_,by rw [hd,h2]⟩
   rw [hd,Lib.index,hp,h1];rfl
  refine .inr ⟨i+1,?_,by simp;omega,?_,?_,?_⟩
  ·rw [hd,Lib.index,hp,h1,if_neg (by simp),if_neg (by simp)]
   rfl
  ·rw [hd,List.take_succ_cons,List.take_succ_cons,h3]
  ·rw [hd,show i+1+2=(i+2)+1 by omega,Ok,Ok,h4]
  rw [List.take_succ_cons,Ok,Ey,Ey,←h5]
theorem Xx:∀(n:Nat) (t:Str),t.length≤n→Lib.replaceK [39,39] [39] (Lib.count (Cb t) [39,39]) (Cb t)=t
 | n,t,hn=>by
  rcases AFu t with ⟨h1,h2⟩|⟨i,h1,h2,h3,h4,h5⟩
  ·rw [Lib.count_miss h1];exact h2
  cases n with
  | zero=>omega
  | succ n =>
   rw [Lib.count_hit (by decide) h1,Sf,Lib.replaceK_hit _ _ _ _ i h1]
   have e:i+([39,39]:Str).length=i+2:=rfl
   rw [e,h4,Xx n (t.drop (i+1)) (by rw [Dh];omega),h3]
   exact h5.symm
theorem ct (t:Str):Lib.replaceAll (Cb t) [39,39] [39]=t:=by
 unfold Lib.replaceAll Lib.replace
 rw [if_neg (by decide)]
 have e:Lib.replaceNum (Cb t) [39,39] (-1)=Lib.count (Cb t) [39,39]:=by unfold Lib.replaceNum;rw [if_pos (.inl (by decide))]
 rw [e]
 exact Xx _ t (Ae _)
theorem ie {t:Str} (h:t.length≤200):Dy ([39]++Cb t++[39])=(⟨2,0,t⟩,0):=by
 have hin:Wj ([39]++Cb t++[39])=t:=by
  unfold Wj
  have:(([39]++Cb t++[39]:Str).take (([39]++Cb t++[39]:Str).length-1)).drop 1=Cb t:=by
   rw [show ([39]++Cb t++[39]:Str).length-1=([39]++Cb t:Str).length by simp,ke]
   rfl
  rw [this]
  exact ct t
 have ht:Rj ([39]++Cb t++[39])=⟨2,0,t⟩:=by
  unfold Rj
  rw [hin,Fw h]
 have hp:Dr ⟨2,0,t⟩=true:=by
  unfold Dr
  simp
  omega
 have hpr:De ⟨2,0,t⟩=[39]++Cb t++[39]:=by
  unfold De
  rw [hp,Lt]
  rfl
 have hq:Kq ([39]++Cb t++[39])=true:=by
  unfold Kq
  simp [Lib.hasPrefix,Lib.hasSuffix,List.isPrefixOf]
  omega
 unfold Dy
 have n1:(([39]++Cb t++[39]:Str)==[110,117,108,108])=false:=by rw [beq_eq_false_iff_ne];intro e;injection e with e;exact absurd e (by decide)
 have n2:(([39]++Cb t++[39]:Str)==[116,114,117,101])=false:=by rw [beq_eq_false_iff_ne];intro e;injection e with e;exact absurd e (by decide)
 have n3:(([39]++Cb t++[39]:Str)==[102,97,108,115,101])=false:=by rw [beq_eq_false_iff_ne];intro e;injection e with e;exact absurd e (by decide)
 rw [n1,n2,n3,hq]
 simp only [B1,if_false,Tl,if_true]
 unfold aw
 rw [ht,hpr]
 simp
theorem ANa {t R:Str} (h:t.length≤200) (hR:G8 R):Lx ([39]++Cb t++[39]) [(4,t)] R:=by
 have h39:∀c r,R=c::r→c≠39:=fun c r e=>by rcases hR c r e with rfl|rfl|rfl|rfl|rfl<;>decide
 refine Lx.word (by simp) (by show blanks.contains 39=false;kernel_rfl) (by show (39:UInt8)≠35;decide) ?_
 have e:[39]++Cb t++[39]++R=39::(Cb t++39::R):=by simp
 rw [e]
 have h1:¬(decide (0<Lq ((39::(Cb t++39::R)).take 1) letters)=true):=by
  rw [show (39::(Cb t++39::R)).take 1=[39] from rfl,Od,show letters.contains 39=false by kernel_rfl];simp
 have h2:¬(decide (0<Lq ((39::(Cb t++39::R)).take 1) digs)=true):=by
  rw [show (39::(Cb t++39::R)).take 1=[39] from rfl,Od,show digs.contains 39=false by kernel_rfl];simp
 unfold Bi
 rw [if_neg h1,if_neg h2,if_pos (by rfl)]
 unfold Jb
 rw [show (39::(Cb t++39::R)).drop 1=Cb t++39::R from rfl,Ww h39 t]
 have ht:(39::(Cb t++39::R)).take ((Cb t).length+1+1)=[39]++Cb t++[39]:=by
  rw [←e,show (Cb t).length+1+1=([39]++Cb t++[39]:Str).length by simp]
  exact ke
 simp only [ht,ie h]
 simp
set_option maxRecDepth 4000
theorem m9 (o:Int) (t:Str) (v:Val) (k:List Expr):Aj (.mk o t v k)=.agg [A7 o,.v (sv t),A7 v.kind,A7 v.n,.v (sv v.s),.slice false 6 (k.map Aj)]:=by rw [Ad];rfl
set_option maxRecDepth 8000
/-! Who decides decides: the law's sources, columns and truths. -/
/-! Rows. -/
/-! Rows that differ in what is not named. -/
/-! Who has a kind comes to it. -/
theorem U5 {t:Str} {n:Nat} (h:Ce t=(n:Int)):(t=[108,101,110]∧n=1)∨(t=[115,116,114]∧n=1)∨(t=[110,117,109]∧n=1)∨(t=Vj∧n=1)∨(t=AJy∧n=2)∨(t=[108,101,102,116]∧n=2)∨(t=[114,105,103,104,116]∧n=2)∨(t=ifW∧n=3):=by
 by_cases hm:t∈arityList.map (·.1)
 ·have ha:∀s∈arityList.map (·.1),(s=[108,101,110]∧Ce s=1)∨(s=[115,116,114]∧Ce s=1)∨(s=[110,117,109]∧Ce s=1)∨(s=Vj∧Ce s=1)∨(s=AJy∧Ce s=2)∨(s=[108,101,102,116]∧Ce s=2)∨(s=[114,105,103,104,116]∧Ce s=2)∨(s=ifW∧Ce s=3):=by
   have:((arityList.map (·.1)).all fun s=>decide ((s=[108,101,110]∧Ce s=1)∨(s=[115,116,114]∧Ce s=1)∨(s=[110,117,109]∧Ce s=1)∨(s=Vj∧Ce s=1)∨(s=AJy∧Ce s=2)∨(s=[108,101,102,116]∧Ce s=2)∨(s=[114,105,103,104,116]∧Ce s=2)∨(s=ifW∧Ce s=3)))=true:=by kernel_rfl
   exact fun s hs=>of_decide_eq_true (Ay.1 this s hs)
  have:=ha t hm
  rw [h] at this
  rcases this with ⟨e,h2⟩|⟨e,h2⟩|⟨e,h2⟩|⟨e,h2⟩|⟨e,h2⟩|⟨e,h2⟩|⟨e,h2⟩|⟨e,h2⟩
  ·exact .inl ⟨e,by omega⟩
  ·exact .inr (.inl ⟨e,by omega⟩)
  ·exact .inr (.inr (.inl ⟨e,by omega⟩))
  ·exact .inr (.inr (.inr (.inl ⟨e,by omega⟩)))
  ·exact .inr (.inr (.inr (.inr (.inl ⟨e,by omega⟩))))
  ·exact .inr (.inr (.inr (.inr (.inr (.inl ⟨e,by omega⟩)))))
  ·exact .inr (.inr (.inr (.inr (.inr (.inr (.inl ⟨e,by omega⟩))))))
  exact .inr (.inr (.inr (.inr (.inr (.inr (.inr ⟨e,by omega⟩))))))
 have h1:Ce t = -1:=by
  unfold Ce
  rw [W7.2 fun p hp=>by
   simp only [beq_iff_eq]
   rintro rfl
   exact hm (F4.2 ⟨p,hp,rfl⟩)]
 omega
/-! The print of a tree, and its words. -/
def Nz (least:Nat) (x:Expr) (s:Str):Str:=if least≤levE x then s else 40::(s++[41])
def Hm:List Str→Str
 | []=>[]
 | s::r=>44::32::(s++Hm r)
def Vk (o:Int) (t:Str) (v:Val) (k:List Expr) (ss:List Str):Str:=
 if o==1 then De v else if o==2 then t
 else if o==3 then 45::Nz 6 (k.getD 0 Ax) (ss.getD 0 [])
 else if o==4 then Q5++32::Nz 2 (k.getD 0 Ax) (ss.getD 0 [])
 else if o==5 then Nz (Fg (B8 t).toNat) (k.getD 0 Ax) (ss.getD 0 [])++32::(t++32::Nz ((B8 t).toNat+1) (k.getD 1 Ax) (ss.getD 1 []))
 else t++40::((Hm ss).drop 2++[41])
mutual
def As:Expr→Str
 | .mk o t v k=>Vk o t v k (Rr k)
def Rr:List Expr→List Str
  | []=>[]
  | e::r=>As e::Rr r
 end
theorem Q8:∀l,Rr l=l.map As
 | []=>rfl
 | e::r=>by rw [Rr,Q8 r];rfl
theorem AFv (v:Val):As (G6 v)=De v:=by simp [G6,As,Vk]
theorem yw (t:Str):As (Bj t)=t:=by simp [Bj,As,Vk]
theorem AFw (a:Expr):As (Cy 3 a)=45::Nz 6 a (As a):=by simp [Cy,As,Rr,Vk]
theorem ALn (a:Expr):As (Cy 4 a)=Q5++32::Nz 2 a (As a):=by simp [Cy,As,Rr,Vk]
theorem AFx (t:Str) (a b:Expr):As (Dn t a b)=Nz (Fg (B8 t).toNat) a (As a)++32::(t++32::Nz ((B8 t).toNat+1) b (As b)):=by simp [Dn,As,Rr,Vk]
theorem yx (t:Str) (k:List Expr):As (.mk 6 t noV k)=t++40::((Hm (Rr k)).drop 2++[41]):=by simp [As,Vk]
/-- A text that something begins, and no equals sign. -/
def Hd (s:Str):Prop:=∃c r,s=c::r∧c≠61
theorem Hd.not61 {s:Str} (h:Hd s) (Z:Str):∀d r,s++Z=d::r→d≠61:=fun d r e=>by
 obtain ⟨c,q,rfl,hc⟩:=h
 injection e with e1 e2
 rw [←e1]
 exact hc
theorem Hd.app {s:Str} (h:Hd s) (Z:Str):Hd (s++Z):=by
 obtain ⟨c,q,rfl,hc⟩:=h
 exact ⟨c,q++Z,rfl,hc⟩
theorem Hd.brk {k:Nat} {x:Expr} {s:Str} (h:Hd s):Hd (Nz k x s):=by
 unfold Nz
 split
 ·exact h
 exact ⟨40,_,rfl,by decide⟩
theorem cu {R:Str} (h:G8 R):∀d r,R=d::r→d≠61:=fun d r e=>by
 rcases h d r e with rfl|rfl|rfl|rfl|rfl<;>decide
theorem Iv (Z:Str):G8 (32::Z):=fun c r e=>by injection e with e1 e2;exact .inl e1.symm
theorem AJz (Z:Str):G8 (40::Z):=fun c r e=>by injection e with e1 e2;exact .inr (.inl e1.symm)
theorem yy (Z:Str):G8 (41::Z):=fun c r e=>by injection e with e1 e2;exact .inr (.inr (.inl e1.symm))
theorem yz (Z:Str):G8 (44::Z):=fun c r e=>by injection e with e1 e2;exact .inr (.inr (.inr (.inl e1.symm)))
theorem AK0 (Z:Str):G8 (59::Z):=fun c r e=>by injection e with e1 e2;exact .inr (.inr (.inr (.inr e1.symm)))
theorem AFy {R:Str} (hR:∀d r,R=d::r→d≠61):Lx [40] [(5,[40])] R:=Q7 (by kernel_rfl) hR
theorem z6 {R:Str} (hR:∀d r,R=d::r→d≠61):Lx [41] [(5,[41])] R:=Q7 (by kernel_rfl) hR
theorem z7 (R:Str):Lx [44,32] [(5,[44])] R:=by
 have:=E6 (R:=R) (Q7 (c:=44) (by kernel_rfl) (fun d r e=>by injection e with e1 e2;rw [←e1];decide):Lx [44] [(5,[44])] ([32]++R)) (Lx.blank R)
 simpa using this
theorem Zj {u R:Str} {T:List TK} (h:Lx u T R):Lx (32::u) T R:=by
 have:=E6 (Lx.blank (u++R)) h
 simpa using this
theorem ASt {t R:Str} (ht:0≤B8 t):Lx t [opTok t] (32::R):=by
 have hmem:t∈levels.flatten:=by
  rcases Ly t with h|h
  ·exact h
  omega
 have h61:∀d r,(32::R:Str)=d::r→d≠61:=fun d r e=>by injection e with e1 e2;rw [←e1];decide
 simp only [levels,List.flatten_cons,List.flatten_nil,Ey,Fi,Ep,C9,Hc,or_false] at hmem
 rcases hmem with rfl|rfl|rfl|rfl|rfl|rfl|rfl|rfl|rfl|rfl|rfl|rfl|rfl|rfl
 ·exact cp (by kernel_rfl) (Iv R)
 ·exact cp (by kernel_rfl) (Iv R)
 ·exact lc
 ·exact lz (by kernel_rfl)
 ·exact lc
 ·exact lz (by kernel_rfl)
 ·exact lc
 ·exact lz (by kernel_rfl)
 ·exact lc
 ·exact lc
 ·exact lc
 ·exact lc
 ·exact lc
 exact lc
theorem AQq {v:Val} (hp:Dr v=true) (h0:0≤v.n) (h1:v.n≤9223372036854775807):(∀R,G8 R→Lx (De v) [L3 v] R)∧Hd (De v):=by
 have hc:=Oc hp
 rcases hc with e|e|⟨e,hs⟩|e|e
 ·rw [e]
  exact ⟨fun R hR=>cp (by kernel_rfl) hR,⟨110,[117,108,108],by kernel_rfl,by decide⟩⟩
 ·have hpr:De v=Lib.itoa v.n:=by
   unfold De
   rw [hp,e]
   rfl
  have hv:L3 v=(3,De v):=by unfold L3;rw [show v.kind=1 by rw [e]];rfl
  rw [hv,hpr]
  refine ⟨fun R hR=>AQn h0 h1 hR,?_⟩
  obtain ⟨u,hu⟩:∃u:Nat,v.n=(u:Int):=⟨v.n.toNat,by omega⟩
  have e0:Lib.itoa (u:Int)=Lib.decDigits u:=by unfold Lib.itoa;rw [if_neg (by omega)];simp
  rw [hu,e0]
  obtain ⟨c,r,hcr,_⟩:=Vf u
  have hall:=Ve u c (by rw [hcr];exact Ev)
  exact ⟨c,r,hcr,by rintro rfl;revert hall;decide⟩
 ·have hpr:De v=[39]++Cb v.s++[39]:=by
   unfold De
   rw [hp,e]
   simp only [Hu,B1,if_false,show ((2:Int)==1)=false from rfl,show ((2:Int)==2)=true from rfl,if_true,Lt]
  have hv:L3 v=(4,v.s):=by unfold L3;rw [show v.kind=2 by rw [e]];rfl
  rw [hv,hpr]
  exact ⟨fun R hR=>ANa hs hR,⟨39,_,rfl,by decide⟩⟩
 ·rw [e]
  exact ⟨fun R hR=>cp (by kernel_rfl) hR,⟨102,[97,108,115,101],by kernel_rfl,by decide⟩⟩
 rw [e]
 exact ⟨fun R hR=>cp (by kernel_rfl) hR,⟨116,[114,117,101],by kernel_rfl,by decide⟩⟩
/-- A tree's print is its words, before what may stand there. -/
def PL (x:Expr):Prop:=(∀R,G8 R→Lx (As x) (Au x) R)∧Hd (As x)
theorem z8 {x:Expr} (h:PL x) (k:Nat) {R:Str} (hR:G8 R):Lx (Nz k x (As x)) (G7 k x (Au x)) R:=by
 unfold Nz G7
 split
 ·exact h.1 R hR
 have h1:=E6 (E6 (AFy (R:=As x++([41]++R)) (h.2.not61 _)) (h.1 ([41]++R) (yy R))) (z6 (R:=R) (cu hR))
 simpa using h1
theorem AFz:∀(k:List Expr),(∀y∈k,PL y)→∀R,G8 R→Lx (Hm (k.map As)) (Ko (k.map Au)) R∧G8 (Hm (k.map As)++R)
 | [],_,R,hR=>⟨Lx.nil R,hR⟩
 | x::r,h,R,hR=>by
  obtain ⟨h1,h2⟩:=AFz r (fun y hy=>h y (O1 _ hy)) R hR
  have hx:=(h x Ev).1 _ h2
  refine ⟨?_,yz _⟩
  have h3:Lx ([44,32]++(As x++Hm (r.map As))) ([(5,[44])]++(Au x++Ko (r.map Au))) R:=E6 (z7 _) (E6 hx h1)
  simpa [Hm,Ko] using h3
theorem za {t:Str} (h:H8 t=true):Hd t:=by
 rw [o8] at h
 simp only [Ah,I9,Hb,beq_eq_false_iff_ne,decide_eq_false_iff_not] at h
 cases t with
 | nil=>simp at h
 | cons c r =>
  refine ⟨c,r,rfl,?_⟩
  rintro rfl
  have h2:(!Cw 61)=false:=h.1.1.2
  exact absurd h2 (by decide)
theorem wg {t:Str} {n:Nat} (h:Ce t=(n:Int)):H8 t=true:=by
 rcases U5 h with ⟨rfl,_⟩|⟨rfl,_⟩|⟨rfl,_⟩|⟨rfl,_⟩|⟨rfl,_⟩|⟨rfl,_⟩|⟨rfl,_⟩|⟨rfl,_⟩<;>kernel_rfl
theorem qi:∀(n:Nat) (x:Expr),sizeE x≤n→E5 Cl x=true→E5 J0 x=true→PL x
 | 0,x,hn,_,_=>by have:=Ij x;omega
 | n+1,x,hn,hnd,hrg=>by
  have hnd0:=hnd
  have hrg0:=hrg
  rw [Hl,Ah] at hnd0 hrg0
  have ih:∀y∈x.kids,PL y:=fun y hy=>qi n y (gy hn hy) ((Gf _ _).1 hnd0.2 y hy) ((Gf _ _).1 hrg0.2 y hy)
  have hNC:=L4 hnd0.1
  cases hNC with
  | val v hp h0 =>
   have hr:=hrg0.1
   unfold J0 at hr
   simp only [Ah,decide_eq_true_eq] at hr
   unfold PL
   rw [AFv,bx]
   exact AQq hp h0 hr.2
  | name t ht =>
   unfold PL
   rw [yw,Wt]
   exact ⟨fun R hR=>co ht hR,za ht⟩
  | neg a =>
   have ha:=ih a (by simp [Cy,Expr.kids])
   unfold PL
   rw [AFw,c6]
   exact ⟨fun R hR=>E6 (u:=[45]) (T:=[(5,[45])]) (Q7 (by kernel_rfl) (ha.2.brk.not61 R)) (z8 ha 6 hR),⟨45,_,rfl,by decide⟩⟩
  | no a =>
   have ha:=ih a (by simp [Cy,Expr.kids])
   unfold PL
   rw [ALn,ls]
   exact ⟨fun R hR=>E6 (T:=[(2,Q5)]) (cp (by kernel_rfl) (Iv _)) (Zj (z8 ha 2 hR)),⟨110,_,rfl,by decide⟩⟩
  | bin t a b ht =>
   have ha:=ih a (by simp [Dn,Expr.kids])
   have hb:=ih b (by simp [Dn,Expr.kids])
   unfold PL
   rw [AFx,Va]
   refine ⟨fun R hR=>E6 (z8 ha _ (Iv _)) (Zj ?_),ha.2.brk.app _⟩
   exact E6 (T:=[opTok t]) (ASt ht) (Zj (z8 hb _ hR))
  | call t k ht =>
   have hk:∀y∈k,PL y:=fun y hy=>ih y (by simpa [Expr.kids] using hy)
   have hnm:=wg ht
   unfold PL
   rw [yx,Wu,Q8,gw]
   refine ⟨fun R hR=>?_,(za hnm).app _⟩
   match k,hk,ht with
   | [],_,ht =>
    exfalso
    have:=gz t
    simp at ht
    omega
   | x::r,hk,_ =>
    have hx:=hk x Ev
    obtain ⟨h1,h2⟩:=AFz r (fun y hy=>hk y (O1 _ hy)) ([41]++R) (yy R)
    have hin:Lx (As x++Hm (r.map As)) (Au x++Ko (r.map Au)) ([41]++R):=E6 (hx.1 _ h2) h1
    have hcl:Lx ((As x++Hm (r.map As))++[41]) ((Au x++Ko (r.map Au))++[(5,[41])]) R:=E6 hin (z6 (cu hR))
    have hop:Lx ([40]++((As x++Hm (r.map As))++[41])) ([(5,[40])]++((Au x++Ko (r.map Au))++[(5,[41])])) R:=E6 (AFy ((((hx.2.app _).app _)).not61 R)) hcl
    have hnl:Lx (t++([40]++((As x++Hm (r.map As))++[41]))) ([(1,t)]++([(5,[40])]++((Au x++Ko (r.map Au))++[(5,[41])]))) R:=E6 (co hnm (AJz _)) hop
    simpa [Hm,Ko] using hnl
/-! What was parsed nests no deeper than may be. -/
structure NB (N k:Nat) (r:Expr×PS):Prop where
 nest:r.2.nest=N
 need:r.2.code=0→N+Gr k r.1 (C2 r.1)≤30
def NF (N k:Nat) (f:PS→Expr×PS):Prop:=∀S:PS,S.nest=N→NB N k (f S)
theorem AC1 {k k':Nat} (h:k≤k') (x:Expr) (n:Nat):Gr k x n≤Gr k' x n:=by
 unfold Gr
 split
 ·split<;>omega
 rw [if_neg (by omega)];exact Ae _
theorem Vl (k:Nat) (x:Expr) (n:Nat):n≤Gr k x n∧Gr k x n≤n+1:=by unfold Gr;split<;>omega
theorem NB.down {N k k':Nat} {r:Expr×PS} (h:NB N k' r) (hk:k≤k'):NB N k r:=⟨h.nest,fun h0=>by
 have:=h.need h0
 have:=AC1 hk r.1 (C2 r.1)
 omega⟩
theorem Sx (e a:Int) (S:PS):(C7 e a S).nest=S.nest:=by unfold C7;split<;>rfl
theorem Mz {e a:Int} (he:e≠0) (S:PS):(C7 e a S).code≠0:=by
 unfold C7
 split
 ·exact he
 rename_i h;simpa using h
theorem Wx (l:List Tok) (s:Str) (S:PS):(Bx l s S).nest=S.nest:=by
 unfold Bx
 split
 ·rfl
 split
 ·exact Sx _ _ _
 rfl
theorem P6 {l:List Tok} {s:Str} {S:PS} (h:(Bx l s S).code=0):S.code=0:=by
 unfold Bx at h
 split at h
 ·exact h
 rename_i h0;simpa using h0
theorem Wy {N k:Nat} {a:Int} {f:PS→Expr×PS} (hN:N≤30) (hf:N<30→NF (N+1) k f) {S:PS} (hS:S.nest=N):(Bb a f S).2.nest=N∧((Bb a f S).2.code=0→N+1+Gr k (Bb a f S).1 (C2 (Bb a f S).1)≤30):=by
 unfold Bb
 split
 ·exact APr
 rename_i h
 have hlt:N<30:=by simp at h;omega
 have:=hf hlt (B7 S) (by show S.nest+1=N+1;omega)
 refine ⟨?_,fun h0=>this.need h0⟩
 show (f (B7 S)).2.nest-1=N
 rw [this.nest]
 rfl
theorem zb {N:Nat} {l:List Tok} {f:PS→Expr×PS} (hf:NF N 0 f):∀(n:Nat) (r:List Expr×PS),r.2.nest=N→(r.2.code=0→∀y∈r.1,N+C2 y≤30)→(argsF l f n r).2.nest=N∧((argsF l f n r).2.code=0→∀y∈(argsF l f n r).1,N+C2 y≤30)
 | 0,r,h1,h2=>⟨h1,h2⟩
 | n+1,r,h1,h2=>by
  rw [argsF]
  split
  ·rename_i hc
   simp only [Ah,beq_iff_eq] at hc
   have hq:=hf (A5 r.2) h1
   refine zb hf n _ hq.nest (fun h0 y hy=>?_)
   rcases Di.1 hy with hy|hy
   ·exact h2 hc.1 y hy
   rw [C1.1 hy]
   have:=hq.need h0
   have:=(Vl 0 (f (A5 r.2)).1 (C2 (f (A5 r.2)).1)).1
   omega
  exact ⟨h1,h2⟩
theorem AK1 {l:List Expr} {m:Nat} (h:∀y∈l,C2 y≤m):w4 (Ro l)≤m:=by
 induction l with
 | nil=>exact Al _
 | cons a r ih =>
  rw [Ro,w4]
  have h1:=h a Ev
  have h2:=ih fun y hy=>h y (O1 _ hy)
  omega
theorem AK2 {N:Nat} {l:List Tok} {a:Int} {f:PS→Expr×PS} (hN:N≤30) (hf:N<30→NF (N+1) 0 f) {S:PS} (hS:S.nest=N):(Ke l a f S).2.nest=N∧((Ke l a f S).2.code=0→∀y∈(Ke l a f S).1,N+1+C2 y≤30):=by
 unfold Ke
 split
 ·exact APr
 rename_i h
 have hlt:N<30:=by simp at h;omega
 have hq:=hf hlt (B7 S) (by show S.nest+1=N+1;omega)
 obtain ⟨h1,h2⟩:=zb (l:=l) (hf hlt) l.length ([(f (B7 S)).1],(f (B7 S)).2) hq.nest (fun h0 y hy=>by
  rw [C1.1 hy]
  have:=hq.need h0
  have:=(Vl 0 (f (B7 S)).1 (C2 (f (B7 S)).1)).1
  omega)
 refine ⟨?_,h2⟩
 show (Ik l f (B7 S)).2.nest-1=N
 unfold Ik
 rw [h1]
 rfl
theorem AK3 {N:Nat} {l:List Tok} {D:Fam} (hN:N≤30) (hD:N<30→NF (N+1) 0 D.ei):NF N 7 (Eo l D):=fun S hS=>by
 have leaf:∀(x:Expr) (S':PS),S'.nest=N→C2 x=0→levE x=7→NB N 7 (x,S'):=fun x S' h1 h2 h3=>⟨h1,fun _=>by
  show N+Gr 7 x (C2 x)≤30
  unfold Gr
  rw [h3,h2,if_pos (by decide)]
  omega⟩
 have bad:∀(x:Expr) (S':PS),S'.nest=N→S'.code≠0→NB N 7 (x,S'):=fun x S' h1 h2=>⟨h1,fun h=>absurd h h2⟩
 unfold Eo
 split
 ·rename_i h;exact bad _ _ hS (by simpa using h)
 split
 ·exact leaf _ _ hS (q9 _) (Zf _)
 split
 ·exact leaf _ _ hS (q9 _) (Zf _)
 split
 ·split
  ·unfold I6
   split
   ·exact APs
   have hk:=AK2 (l:=l) (a:=(A4 l (A5 S).i).at_) hN hD (show (A5 (A5 S)).nest=N from hS)
   split
   ·exact bad _ _ ((Sx _ _ _).trans ((Wx _ _ _).trans hk.1)) (Mz (by decide) _)
   refine ⟨(Wx _ _ _).trans hk.1,fun h0=>?_⟩
   have hkk:=hk.2 (P6 h0)
   show N+Gr 7 (.mk 6 _ noV (Br l D (A5 S)).1) (C2 (.mk 6 _ noV (Br l D (A5 S)).1))≤30
   rw [gx]
   unfold Gr
   rw [cb,if_pos (by decide)]
   by_cases hlt:N<30
   ·have:=AK1 (l:=(Br l D (A5 S)).1) (m:=30-N-1) (fun y hy=>by have:=hkk y hy;omega)
    omega
   exfalso
   have hc:=P6 h0
   unfold Br Ke at hc
   rw [if_pos (by show ((S.nest:Int)==30)=true;simp;omega)] at hc
   exact Mz (by decide) _ hc
  exact leaf _ _ hS (ABw _) (ca _)
 split
 ·have hw:=Wy (a:=(A4 l S.i).at_) hN hD (show (A5 S).nest=N from hS)
  refine ⟨(Wx _ _ _).trans hw.1,fun h0=>?_⟩
  have h1:=hw.2 (P6 h0)
  have h2:=(Vl 0 (Bb (A4 l S.i).at_ D.ei (A5 S)).1 (C2 (Bb (A4 l S.i).at_ D.ei (A5 S)).1)).1
  have h3:=(Vl 7 (Bb (A4 l S.i).at_ D.ei (A5 S)).1 (C2 (Bb (A4 l S.i).at_ D.ei (A5 S)).1)).2
  show N+Gr 7 (Bb (A4 l S.i).at_ D.ei (A5 S)).1 (C2 (Bb (A4 l S.i).at_ D.ei (A5 S)).1)≤30
  omega
 exact APs
theorem AG0 {N:Nat} {l:List Tok} {D:Fam} (hN:N≤30) (hD:N<30→NF (N+1) 0 D.ei) (hn:N<30→NF (N+1) 6 D.ne):NF N 6 (Lu l D):=fun S hS=>by
 unfold Lu
 split
 ·exact (AK3 hN hD S hS).down (by decide)
 have hw:=Wy (a:=(A4 l S.i).at_) hN hn (show (A5 S).nest=N from hS)
 refine ⟨hw.1,fun h0=>?_⟩
 have h1:=hw.2 h0
 show N+Gr 6 (Cy 3 (Bb (A4 l S.i).at_ D.ne (A5 S)).1) _≤30
 unfold Gr
 rw [Zg,if_pos (by decide),qb]
 omega
theorem Q9 {N k:Nat} {l:List Tok} {f:PS→Expr×PS} (hk:k=0∨k=1∨k=4∨k=5) (hf:NF N (k+1) f):NF N k (F9 l (ofL k) f):=by
 have hloop:∀(n:Nat) (r:Expr×PS),NB N k r→NB N k (J2 l (ofL k) f n r):=by
  intro n
  induction n with
  | zero=>exact fun r h=>h
  | succ n ih =>
   intro r h
   rw [J2]
   split
   ·rename_i hc
    simp only [Ah,beq_iff_eq] at hc
    have hq:=hf (A5 r.2) h.nest
    refine ih _ ⟨hq.nest,fun h0=>?_⟩
    have hlv:B8 (A4 l r.2.i).text=(k:Int):=by
     have hm:=hc.2
     unfold isM at hm
     rw [Ah] at hm
     have:=hm.2
     rw [Im (Vd hk)] at this
     simpa using this
    have h1:=h.need hc.1
    have h2:=hq.need h0
    have hfl:Fg k=k:=by unfold Fg;rw [if_neg (by omega)]
    show N+Gr k (Dn (A4 l r.2.i).text r.1 (f (A5 r.2)).1) (C2 (Dn (A4 l r.2.i).text r.1 (f (A5 r.2)).1))≤30
    rw [Vb,hlv]
    rw [show Gr k (Dn (A4 l r.2.i).text r.1 (f (A5 r.2)).1) _=_ from if_pos (by rw [Vc,hlv];simp)]
    rw [Int.toNat_natCast,hfl]
    omega
   exact h
 exact fun S hS=>hloop _ _ ((hf S hS).down (I4 k))
theorem AG1 {N:Nat} {l:List Tok} {D:Fam} (hf:NF N 4 (Ct l D)):NF N 3 (D6 l D):=fun S hS=>by
 unfold D6
 split
 ·exact (hf S hS).down (by decide)
 rename_i hc
 simp only [Cz,not_or,bne_iff_ne,ne_eq,Decidable.not_not,I9,sk] at hc
 have hx:=hf S hS
 have hq:=hf (A5 (Ct l D S).2) hx.nest
 refine ⟨hq.nest,fun h0=>?_⟩
 have hlv:B8 (A4 l (Ct l D S).2.i).text=((3:Nat):Int):=by
  have hm:=hc.2
  unfold isM at hm
  rw [Ah] at hm
  have:=hm.2
  rw [show Ya=ofL 3 from rfl,Im (.inr (.inr (.inl rfl)))] at this
  simpa using this
 have h1:=hx.need hc.1
 have h2:=hq.need h0
 show N+Gr 3 (Dn (A4 l (Ct l D S).2.i).text (Ct l D S).1 (Ct l D (A5 (Ct l D S).2)).1) (C2 (Dn (A4 l (Ct l D S).2.i).text (Ct l D S).1 (Ct l D (A5 (Ct l D S).2)).1))≤30
 rw [Vb,hlv]
 rw [show Gr 3 (Dn (A4 l (Ct l D S).2.i).text (Ct l D S).1 (Ct l D (A5 (Ct l D S).2)).1) _=_ from if_pos (by rw [Vc,hlv];simp)]
 rw [Int.toNat_natCast,show Fg 3=4 from rfl,show 3+1=4 from rfl]
 omega
theorem AG2 {N:Nat} {l:List Tok} {D:Fam} (hN:N≤30) (hf:NF N 3 (D6 l D)) (hn:N<30→NF (N+1) 2 D.no):NF N 2 (Lv l D):=fun S hS=>by
 unfold Lv
 split
 ·exact (hf S hS).down (by decide)
 have hw:=Wy (a:=(A4 l S.i).at_) hN hn (show (A5 S).nest=N from hS)
 refine ⟨hw.1,fun h0=>?_⟩
 have h1:=hw.2 h0
 show N+Gr 2 (Cy 4 (Bb (A4 l S.i).at_ D.no (A5 S)).1) _≤30
 unfold Gr
 rw [lu,if_pos (by decide),yp]
 omega
theorem wh (l:List Tok):∀(d N:Nat),N+d=30→NF N 0 (Q3 l (Cn l d))∧NF N 2 (Lv l (Cn l d))∧NF N 6 (Lu l (Cn l d))
 | d,N,h=>by
  have ih:N<30→NF (N+1) 0 (Cn l d).ei∧NF (N+1) 2 (Cn l d).no∧NF (N+1) 6 (Cn l d).ne:=fun hlt=>by
   match d,h with
   | 0,h=>omega
   | d+1,h=>exact wh l d (N+1) (by omega)
  have hneg:=AG0 (l:=l) (D:=Cn l d) (by omega) (fun h=>(ih h).1) (fun h=>(ih h).2.2)
  have hsum:NF N 4 (Ct l (Cn l d)):=Q9 (k:=4) (by decide) (Q9 (k:=5) (by decide) hneg)
  have hno:=AG2 (by omega) (AG1 hsum) (fun h=>(ih h).2.1)
  exact ⟨Q9 (k:=0) (by decide) (Q9 (k:=1) (by decide) hno),hno,hneg⟩
theorem AC2:C2 Ax≤30:=by decide
/-! What nests too deep is told to be too deep. -/
def F2 (l:List Tok) (x:Expr):Prop:=∀(k:Nat) (S:PS) (rest:List TK),(k=0∨k=1∨k=4∨k=5)→k≤levE x→S.code=0→S.nest≤30→30<S.nest+C2 x→seg l S.i=Au x++rest→stops (k+1) rest→(F9 l (ofL k) (pf l (fam l S.nest) (k+1)) S).2.code=18
/-! What was parsed is right, where the words are the lexer's. -/
/-- What the lexer's words are. -/
structure WordOk (t:Tok):Prop where
 name:t.kind=1→H8 t.text=true
 num:t.kind=3→Dr (Dy t.text).1=true∧0≤(Dy t.text).1.n∧(Dy t.text).1.n≤9223372036854775807
def RB (r:Expr×PS):Prop:=r.2.code=0→E5 Cl r.1=true∧E5 J0 r.1=true
def RF (N:Nat) (f:PS→Expr×PS):Prop:=∀S:PS,S.nest=N→RB (f S)
theorem AG3 {t:Str} {x y:Expr} (ht:0≤B8 t):Cl (Dn t x y)=true:=by
 rw [Lw,Dn,Jo]
 simp [ht,show Ls noV=true from rfl]
theorem AC3 (x:Expr):Cl (Cy 3 x)=true:=by rw [Lw,Cy,Jo];simp [show Ls noV=true from rfl]
theorem AC4 (x:Expr):Cl (Cy 4 x)=true:=by rw [Lw,Cy,Jo];simp [show Ls noV=true from rfl]
theorem AC5 {v:Val} (h:Dr v=true) (h0:0≤v.n):Cl (G6 v)=true:=by rw [Lw,G6,Jo];simp [h,h0]
theorem wi {t:Str} (h:H8 t=true):Cl (Bj t)=true:=by rw [Lw,Bj,Jo];simp [h,show Ls ⟨0,0,[]⟩=true from rfl]
theorem AC6 {t:Str} {k:List Expr} (h:Ce t=(k.length:Int)):Cl (.mk 6 t noV k)=true:=by rw [Lw,Jo];simp [h,show Ls noV=true from rfl]
theorem AG4 {t:Str} {x y:Expr} (ht:0≤B8 t) (hx:E5 Cl x=true∧E5 J0 x=true) (hy:E5 Cl y=true∧E5 J0 y=true):E5 Cl (Dn t x y)=true∧E5 J0 (Dn t x y)=true:=by
 rw [Hl,Hl]
 refine ⟨?_,?_⟩
 ·rw [AG3 ht]
  show (true&&(E5 Cl x&&(E5 Cl y&&true)))=true
  rw [hx.1,hy.1];rfl
 show (J0 (Dn t x y)&&(E5 J0 x&&(E5 J0 y&&true)))=true
 rw [hx.2,hy.2];rfl
theorem AG5 {o:Int} {x:Expr} (ho:Cl (Cy o x)=true) (hx:E5 Cl x=true∧E5 J0 x=true):E5 Cl (Cy o x)=true∧E5 J0 (Cy o x)=true:=by
 rw [Hl,Hl]
 refine ⟨?_,?_⟩
 ·rw [ho]
  show (true&&(E5 Cl x&&true))=true
  rw [hx.1];rfl
 show (J0 (Cy o x)&&(E5 J0 x&&true))=true
 rw [hx.2];rfl
theorem zc {x:Expr} (hn:Cl x=true) (hr:J0 x=true) (hk:x.kids=[]):E5 Cl x=true∧E5 J0 x=true:=by
 rw [Hl,Hl,hk,hn,hr]
 exact ⟨rfl,rfl⟩
theorem Wz {N:Nat} {a:Int} {f:PS→Expr×PS} (hN:N≤30) (hf:N<30→RF (N+1) f) {S:PS} (hS:S.nest=N):RB (Bb a f S):=by
 unfold Bb
 split
 ·exact AIu
 rename_i h
 exact hf (by simp at h;omega) (B7 S) (by show S.nest+1=N+1;omega)
theorem zd {N:Nat} {l:List Tok} {f:PS→Expr×PS} (hn:NF N 0 f) (hf:RF N f):∀(n:Nat) (r:List Expr×PS),r.2.nest=N→(r.2.code=0→∀y∈r.1,E5 Cl y=true∧E5 J0 y=true)→((argsF l f n r).2.code=0→∀y∈(argsF l f n r).1,E5 Cl y=true∧E5 J0 y=true)
 | 0,r,h1,h2=>h2
 | n+1,r,h1,h2=>by
  rw [argsF]
  split
  ·rename_i hc
   simp only [Ah,beq_iff_eq] at hc
   refine zd hn hf n _ (hn (A5 r.2) h1).nest (fun h0 y hy=>?_)
   rcases Di.1 hy with hy|hy
   ·exact h2 hc.1 y hy
   rw [C1.1 hy]
   exact hf (A5 r.2) h1 h0
  exact h2
theorem AK4 {t:Str} (h:Fy t Wo=true):Dr (Dy t).1=true∧0≤(Dy t).1.n∧(Dy t).1.n≤9223372036854775807:=by
 rw [w7] at h
 simp only [Ah,litWords,sq,List.contains_nil,Oj,Cz,beq_iff_eq] at h
 rcases h.2 with rfl|rfl|rfl
 ·exact AMl
 ·exact AMl
 exact AMl
theorem AK5 {v:Val} (h0:0≤v.n) (h1:v.n≤9223372036854775807):J0 (G6 v)=true:=by
 show (decide (-9223372036854775808≤v.n)&&decide (v.n≤9223372036854775807))=true
 simp only [Ah,decide_eq_true_eq]
 omega
theorem AK6 {N:Nat} {l:List Tok} {D:Fam} (hw:∀i,WordOk (A4 l i)) (hN:N≤30) (hD:N<30→NF (N+1) 0 D.ei) (hR:N<30→RF (N+1) D.ei):RF N (Eo l D):=fun S hS=>by
 have val:∀(v:Val) (S':PS),Dr v=true→0≤v.n→v.n≤9223372036854775807→RB (G6 v,S'):=fun v S' h1 h2 h3 _=>zc (AC5 h1 h2) (AK5 h2 h3) rfl
 unfold Eo
 split
 ·rename_i h;exact fun h0=>absurd h0 (by simpa using h)
 split
 ·rename_i h1 h2
  rw [Cz] at h2
  rcases h2 with h2|h2
  ·obtain ⟨a,b,c⟩:=(hw S.i).num (by simpa using h2)
   exact val _ _ a b c
  unfold isM at h2
  rw [Ah] at h2
  obtain ⟨a,b,c⟩:=AK4 h2.2
  exact val _ _ a b c
 split
 ·refine val _ _ ?_ (by show (0:Int)≤0;decide) (by show (0:Int)≤9223372036854775807;decide)
  exact (AFt _).plain
 split
 ·rename_i h1
  have hnm:=(hw S.i).name (by simpa using h1)
  split
  ·unfold I6
   split
   ·exact AIu
   split
   ·exact AIu
   rename_i h2 h3
   intro h0
   have h0':(Bx l Bu (Br l D (A5 S)).2).code=0:=h0
   have hlen:((Br l D (A5 S)).1.length:Int)=Ce (A4 l S.i).text:=by
    rw [h0'] at h3
    simpa using h3
   have hc:=P6 h0'
   have hkids:∀y∈(Br l D (A5 S)).1,E5 Cl y=true∧E5 J0 y=true:=by
    unfold Br Ke at hc ⊢
    by_cases h30:((A5 (A5 S)).nest:Int)==30
    ·rw [if_pos h30] at hc
     exact AMm
    rw [if_neg h30] at hc ⊢
    have hlt:N<30:=by
     have:(A5 (A5 S)).nest=N:=hS
     rw [this] at h30
     simp at h30
     omega
    have hd:(B7 (A5 (A5 S))).nest=N+1:=by show S.nest+1=N+1;omega
    exact zd (l:=l) (hD hlt) (hR hlt) l.length ([(D.ei (B7 (A5 (A5 S)))).1],(D.ei (B7 (A5 (A5 S)))).2) (hD hlt _ hd).nest (fun h0 y hy=>by rw [C1.1 hy];exact hR hlt _ hd h0) hc
   show E5 Cl (.mk 6 _ noV _)=true∧E5 J0 (.mk 6 _ noV _)=true
   rw [Hl,Hl,AC6 hlen.symm]
   exact ⟨by rw [D0];exact (Gf _ _).2 fun y hy=>(hkids y hy).1,by
    rw [Ah]
    exact ⟨rfl,(Gf _ _).2 fun y hy=>(hkids y hy).2⟩⟩
  exact fun _=>zc (wi hnm) rfl rfl
 split
 ·intro h0
  exact Wz hN hR (show (A5 S).nest=N from hS) (P6 h0)
 exact AIu
theorem Zk {N k:Nat} {l:List Tok} {f:PS→Expr×PS} (hk:k=0∨k=1∨k=4∨k=5) (hn:NF N (k+1) f) (hf:RF N f):RF N (F9 l (ofL k) f):=by
 have hloop:∀(n:Nat) (r:Expr×PS),r.2.nest=N→RB r→RB (J2 l (ofL k) f n r):=by
  intro n
  induction n with
  | zero=>exact fun r _ h=>h
  | succ n ih =>
   intro r hr h
   rw [J2]
   split
   ·rename_i hc
    simp only [Ah,beq_iff_eq] at hc
    refine ih _ (hn (A5 r.2) hr).nest (fun h0=>?_)
    have hlv:B8 (A4 l r.2.i).text=(k:Int):=by
     have hm:=hc.2
     unfold isM at hm
     rw [Ah] at hm
     have:=hm.2
     rw [Im (Vd hk)] at this
     simpa using this
    exact AG4 (by omega) (h hc.1) (hf (A5 r.2) hr h0)
   exact h
 exact fun S hS=>hloop _ _ (hn S hS).nest (hf S hS)
theorem ANb {N:Nat} {l:List Tok} {D:Fam} (hn:NF N 4 (Ct l D)) (hf:RF N (Ct l D)):RF N (D6 l D):=fun S hS=>by
 unfold D6
 split
 ·exact hf S hS
 rename_i hc
 simp only [Cz,not_or,bne_iff_ne,ne_eq,Decidable.not_not,I9,sk] at hc
 intro h0
 have hlv:B8 (A4 l (Ct l D S).2.i).text=((3:Nat):Int):=by
  have hm:=hc.2
  unfold isM at hm
  rw [Ah] at hm
  have:=hm.2
  rw [show Ya=ofL 3 from rfl,Im (.inr (.inr (.inl rfl)))] at this
  simpa using this
 exact AG4 (by omega) (hf S hS hc.1) (hf (A5 (Ct l D S).2) (hn S hS).nest h0)
theorem AG6 (l:List Tok) (hw:∀i,WordOk (A4 l i)):∀(d N:Nat),N+d=30→RF N (Q3 l (Cn l d))∧RF N (Lv l (Cn l d))∧RF N (Lu l (Cn l d))
 | d,N,h=>by
  have ihn:N<30→NF (N+1) 0 (Cn l d).ei∧NF (N+1) 2 (Cn l d).no∧NF (N+1) 6 (Cn l d).ne:=fun hlt=>by
   match d,h with
   | 0,h=>omega
   | d+1,h=>exact wh l d (N+1) (by omega)
  have ih:N<30→RF (N+1) (Cn l d).ei∧RF (N+1) (Cn l d).no∧RF (N+1) (Cn l d).ne:=fun hlt=>by
   match d,h with
   | 0,h=>omega
   | d+1,h=>exact AG6 l hw d (N+1) (by omega)
  have hN:N≤30:=by omega
  have hnegN:=AG0 (l:=l) (D:=Cn l d) hN (fun h=>(ihn h).1) (fun h=>(ihn h).2.2)
  have hneg:RF N (Lu l (Cn l d)):=fun S hS=>by
   unfold Lu
   split
   ·exact AK6 hw hN (fun h=>(ihn h).1) (fun h=>(ih h).1) S hS
   exact fun h0=>AG5 (AC3 _) (Wz hN (fun h=>(ih h).2.2) (show (A5 S).nest=N from hS) h0)
  have hprodN:NF N 5 (V1 l (Cn l d)):=Q9 (k:=5) (by decide) hnegN
  have hprod:RF N (V1 l (Cn l d)):=Zk (k:=5) (by decide) hnegN hneg
  have hsumN:NF N 4 (Ct l (Cn l d)):=Q9 (k:=4) (by decide) hprodN
  have hsum:RF N (Ct l (Cn l d)):=Zk (k:=4) (by decide) hprodN hprod
  have hcmpN:=AG1 hsumN
  have hcmp:=ANb hsumN hsum
  have hnoN:=AG2 (l:=l) (D:=Cn l d) hN hcmpN (fun h=>(ihn h).2.1)
  have hno:RF N (Lv l (Cn l d)):=fun S hS=>by
   unfold Lv
   split
   ·exact hcmp S hS
   exact fun h0=>AG5 (AC4 _) (Wz hN (fun h=>(ih h).2.1) (show (A5 S).nest=N from hS) h0)
  have hboN:NF N 1 (V2 l (Cn l d)):=Q9 (k:=1) (by decide) hnoN
  have hbo:RF N (V2 l (Cn l d)):=Zk (k:=1) (by decide) hnoN hno
  exact ⟨Zk (k:=0) (by decide) hboN hbo,hno,hneg⟩
/-! The lexer's words. -/
theorem AG7 {c:UInt8} {r of:Str} (h:decide (0<Lq ((c::r).take 1) of)=true):of.contains c=true:=by
 rw [show (c::r).take 1=[c] from rfl,Od] at h
 cases hc:of.contains c with
 | true=>rfl
 | false=>rw [hc] at h;simp at h
theorem AG8 {q:Str} (h0:q≠[]) (ha:∀c∈q,digs.contains c=true) (he:(Dy q).2=0):Dr (Dy q).1=true∧0≤(Dy q).1.n∧(Dy q).1.n≤9223372036854775807:=by
 cases q with
 | nil=>exact absurd rfl h0
 | cons c r =>
 have hc:=ha c Ev
 have hn:=Rp c hc
 have n1:((c::r:Str)==[110,117,108,108])=false:=by rw [beq_eq_false_iff_ne];intro e;injection e with e;exact hn.2.2.2.1 e
 have n2:((c::r:Str)==[116,114,117,101])=false:=by rw [beq_eq_false_iff_ne];intro e;injection e with e;exact hn.2.2.2.2.1 e
 have n3:((c::r:Str)==[102,97,108,115,101])=false:=by rw [beq_eq_false_iff_ne];intro e;injection e with e;exact hn.2.2.2.2.2 e
 have hq:Kq (c::r)=false:=by
  unfold Kq
  have:Lib.hasPrefix (c::r) [39]=false:=by simp [Lib.hasPrefix,List.isPrefixOf,Ne.symm hn.2.2.1]
  rw [this]
  simp
 unfold Dy at he ⊢
 rw [n1,n2,n3,hq] at he ⊢
 simp only [B1,if_false,Tl] at he ⊢
 split at he
 ·rename_i h1
  rw [if_pos h1]
  have hb:Gn (c::r)=false:=by
   cases hb:Gn (c::r) with
   | false=>rfl
   | true=>unfold B6 at h1;rw [hb] at h1;simp at h1
  unfold B6 at h1 ⊢
  rw [hb] at h1 ⊢
  simp only [B1,if_false] at h1 ⊢
  have h43:c.toNat≠43:=fun e=>hn.2.1 (F5.1 (by rw [e];rfl))
  have h45:c.toNat≠45:=fun e=>hn.1 (F5.1 (by rw [e];rfl))
  have hp:=Lib.parseIntB_plain 64 c r h43 h45
  cases hv:Lib.parseIntB 64 (c::r) with
  | ok v =>
   have hb:=Lib.parseIntB_bounds hv
   simp only [show ((2 ^ (64-1):Nat):Int)=9223372036854775808 by decide] at hb
   rw [hp] at hv
   have h0:0≤v:=by
    cases hu:Lib.parseUintB 64 (c::r) with
    | ok u =>
     rw [hu] at hv
     have e:Lib.signlessC (2 ^ (64-1)) (.ok u)=if 2 ^ (64-1)≤u then .range else .ok (u:Int):=rfl
     rw [e] at hv
     split at hv
     ·cases hv
     injection hv with hv
     omega
    | _=>rw [hu] at hv;cases hv
   exact ⟨rfl,h0,by show v≤9223372036854775807;omega⟩
  | _=>first|(rw [hv] at h1;simp at h1;done)|(exact ⟨rfl,Int.le_refl 0,by show (0:Int)≤9223372036854775807;decide⟩)
 rename_i h1
 split at he
 ·simp at he
 simp at he
theorem P7 {p:UInt8→Bool}:∀{l:Str} {b:UInt8},b∈l.takeWhile p→p b=true
 | [],_,h=>by cases h
 | a::r,b,h=>by
  rw [O2] at h
  by_cases ha:p a=true
  ·rw [if_pos ha] at h
   rcases C9.1 h with rfl|h
   ·exact ha
   exact P7 h
  rw [if_neg ha] at h
  cases h
theorem AC7 {s:Str} {n:Nat} (h0:s≠[]) (he:(Bi s).2.2.2=0):WordOk ⟨(Bi s).1,(Bi s).2.1,n⟩:=by
 cases s with
 | nil=>exact absurd rfl h0
 | cons c r =>
 unfold Bi at he ⊢
 by_cases h1:decide (0<Lq ((c::r).take 1) letters)=true
 ·rw [if_pos h1] at he
  simp only [if_pos h1]
  unfold Nh at he ⊢
  by_cases r1:Dk (Cp (c::r) tails)=true
  ·simp only [if_pos r1]
   exact un
  rw [if_neg r1] at he
  simp only [if_neg r1]
  by_cases r2:(!Ej (Cp (c::r) tails))=true
  ·rw [if_pos r2] at he;simp at he
  simp only [if_neg r2]
  exact ⟨fun _=>by rw [←Hi];simpa using r2,fun h=>by cases h⟩
 rw [if_neg h1] at he
 simp only [if_neg h1]
 by_cases h2:decide (0<Lq ((c::r).take 1) digs)=true
 ·rw [if_pos h2] at he
  simp only [if_pos h2]
  unfold Py at he ⊢
  refine ⟨(fun h=>by cases h),fun _=>AG8 ?_ (fun b hb=>?_) he⟩
  ·show Cp (c::r) digs≠[]
   rw [L2,O2,AG7 h2]
   simp
  have hb:b∈Cp (c::r) digs:=hb
  rw [L2] at hb
  exact P7 hb
 rw [if_neg h2] at he
 simp only [if_neg h2]
 by_cases h3:((((c::r).getD 0 0).toNat:Int)==39)=true
 ·rw [if_pos h3] at he
  simp only [if_pos h3]
  unfold Jb at he ⊢
  split
  ·exact un
  split
  ·exact un
  exact un
 simp only [if_neg h3]
 unfold Ni
 split
 ·exact un
 split
 ·exact un
 exact un
theorem qj:∀(f q:Nat) (s:Str),∀it∈Gc f q s,it.2=0→WordOk it.1
 | 0,_,_,it,h,_=>by cases h
 | f+1,q,s,it,h,h0=>by
  rw [Gc] at h
  split at h
  ·cases h
  rename_i hs
  have hne:s≠[]:=by rintro rfl;exact hs rfl
  rcases C9.1 h with rfl|h
  ·exact AC7 hne h0
  split at h
  ·exact qj f _ _ it h h0
  cases h
theorem ANc (n:Nat):WordOk ⟨0,[],n⟩:=⟨(fun h=>by cases h),(fun h=>by cases h)⟩
/-! The parse laws where nothing is too deep. -/
/-! The parser from a word on, and of a source. -/
/-! Other trees have other words, and other prints. -/
/-! The laws of printing. -/
/-- show.Print. -/
def J4 (x:Expr):Str×Int:=if !(Da x) then ([],1) else if decide ((4000:Int)<((As x).length:Int)) then ([],3) else (As x,0)
theorem AK7 {x:Expr} (h:(J4 x).2=0):Fb x=true∧(As x).length≤4000∧J4 x=(As x,0):=by
 unfold J4 at h ⊢
 split at h
 ·cases h
 rename_i h1
 split at h
 ·cases h
 rename_i h2
 rw [if_neg h1,if_neg h2]
 refine ⟨by rw [←Kf];simpa using h1,by simp at h2;omega,rfl⟩
theorem Np {x:Expr} (h:Fb x=true):E5 Cl x=true:=by
 unfold Fb at h
 rw [Ah] at h
 exact h.2
set_option maxRecDepth 4000
/-! The words of moves, and what is parsed from them. -/
/-- A tree that may be printed and read. -/
structure PrE (x:Expr):Prop where
 right:Fb x=true
 rng:E5 J0 x=true
 need:C2 x≤30
theorem ql {l:List Tok} {i:Nat} {x:Expr} {rest:List TK} (hx:PrE x) (hs:seg l i=Au x++rest) (hst:stops 0 rest):K0 l i=.ok x (i+(Au x).length):=by
 have hr:=hx.right
 unfold Fb at hr
 simp only [Ah,decide_eq_true_eq] at hr
 obtain ⟨⟨hd,hz⟩,hn⟩:=hr
 have hneed:=hx.need
 have h1:atR l i=(x,adv ⟨i,0,0,0⟩ (Au x).length):=
  (cg l _ x (Ae _) hn hx.rng).1 0 ⟨i,0,0,0⟩ rest (Al _) rfl (by show 0+C2 x≤30;omega) hs hst
 have e:atS l i (x,adv ⟨i,0,0,0⟩ (Au x).length)=adv ⟨i,0,0,0⟩ (Au x).length:=by
  unfold atS
  rw [if_neg (by show ¬(((0:Int) != 0)=true);decide),if_neg (by simp;omega),if_neg (by simp;omega)]
 have e2:atM l i=(x,((i+(Au x).length:Nat):Int),0,0):=by
  unfold atM
  rw [h1,e,if_neg (by show ¬(((0:Int) != 0)=true);decide)]
  rfl
 unfold K0
 rw [e2,if_neg (show ¬(((0:Int) != 0)=true) by decide)]
 show PR.ok x (((i+(Au x).length:Nat):Int)).toNat=_
 rw [Int.toNat_natCast]
theorem Nq {l:List Tok} {i:Nat} {k:Int} {s:Str} {rest:List TK} (hk:((k==5) || (k==2))=true) (hs:seg l i=(k,s)::rest):Cm l s i=.ok () (i+1):=by
 obtain ⟨h1,h2,_,_⟩:=Bt hs
 unfold Cm isP
 rw [h1,h2,hk,if_pos (by simp)]
theorem AG9 {l:List Tok} {i:Nat} {k:Int} {t s:Str} {rest:List TK} (hs:seg l i=(k,t)::rest):isP l s i=(((k==5) || (k==2))&&(t==s)):=by
 obtain ⟨h1,h2,_,_⟩:=Bt hs
 unfold isP
 rw [h1,h2]
theorem P8 {l:List Tok} {i:Nat} {s:Str} {rest:List TK} (hs:seg l i=(1,s)::rest):Fh l i=.ok s (i+1):=by
 obtain ⟨h1,h2,_,_⟩:=Bt hs
 unfold Fh
 rw [h1,h2]
 rfl
theorem AGa {l:List Tok} {i:Nat} {nm:Str} {k:Int} {rest:List TK} (h1:1≤k) (h3:k≤3) (hs:seg l i=(2,Av k)::rest):Tf l nm i=.ok ⟨nm,k⟩ (i+1):=by
 obtain ⟨h4,h5,_,_⟩:=Bt hs
 unfold Tf
 rw [h4,h5,ABt h1 h3,if_neg (by simp;omega)]
def Ki (c:Col) (x:Expr):List TK:=(1,c.name)::(2,Av c.kind)::(5,[61])::Au x
theorem Vm {l:List Tok} {m:Mov} {i:Nat} {c:Col} {x:Expr} {rest:List TK} (h1:1≤c.kind) (h3:c.kind≤3) (hx:PrE x) (hs:seg l i=Ki c x++rest) (hst:stops 0 rest):Eb l m i=.ok (Ml (Ek m c) x) (i+(Ki c x).length):=by
 unfold Ki at hs
 simp only [Ey] at hs
 have s1:=(Bt hs).2.2.1
 have s2:=(Bt s1).2.2.1
 have s3:=(Bt s2).2.2.1
 unfold Eb Jd
 rw [P8 hs]
 show ((Tf l c.name (i+1)).bind _)=_
 rw [AGa h1 h3 s1]
 show ((Cm l [61] (i+1+1)).bind _)=_
 rw [Nq (by decide) s2]
 show ((K0 l (i+1+1+1)).bind _)=_
 rw [ql hx s3 hst]
 show PR.ok _ (i+1+1+1+(Au x).length)=_
 rw [show i+(Ki c x).length=i+1+1+1+(Au x).length by simp [Ki];omega]
/-- Things with commas between. -/
theorem ig {l:List Tok} {α:Type} {one:Mov→Nat→PR Mov} {tk:α→List TK} {ap:Mov→α→Mov} {P:α→Prop} {n:Int} (h1:∀it,P it→∀m i rest,stops 0 rest→seg l i=tk it++rest→one m i=.ok (ap m it) (i+(tk it).length)) (hc:∀r:List TK,stops 0 ((5,[44])::r)) {rest:List TK} (hst:stops 0 rest) (hr:∃k t r,rest=(k,t)::r∧t≠[44]):
  ∀(its:List α) (k f:Nat) (m:Mov) (i:Nat),1≤k→(∀it∈its,P it)→its.length<f→seg l i=(its.flatMap fun it=>(5,[44])::tk it)++rest→(n=k+its.length∨(n=0∧2≤k+its.length))→Ip l n one f k m i=.ok (its.foldl ap m) (i+(its.flatMap fun it=>(5,[44])::tk it).length)
 | [],k,f,m,i,hk1,_,hf,hs,hn=>by
  obtain ⟨f,rfl⟩:∃g,f=g+1:=⟨f-1,by simp at hf;omega⟩
  obtain ⟨k',t,r,hr,ht⟩:=hr
  rw [hr] at hs
  have:Kr l n k i=false:=by
   unfold Kr
   rw [AG9 hs]
   simp only [B9] at hn
   have e:(t==([44]:Str))=false:=by simpa using ht
   rw [e,Zt,Oj]
   rcases hn with hn|⟨hn,h2⟩
   ·rw [hn,show decide ((k:Int)<(k:Int)+((0:Nat):Int))=false from decide_eq_false (by omega)]
    rw [show ((((k:Int)+((0:Nat):Int)))==0)=false by simp;omega]
    rfl
   rw [hn,show decide ((k:Int)<0)=false from decide_eq_false (by omega),show decide ((k:Int)<2)=false from decide_eq_false (by omega)]
   rfl
  rw [Ip,this,if_neg (by simp)]
  rfl
 | it::its,k,f,m,i,hk1,hP,hf,hs,hn=>by
  obtain ⟨f,rfl⟩:∃g,f=g+1:=⟨f-1,by simp at hf;omega⟩
  rw [Ia,C8,Ey] at hs
  have s1:=(Bt hs).2.2.1
  have:Kr l n k i=true:=by
   unfold Kr
   rw [AG9 hs]
   simp only [Aq] at hn
   rcases hn with hn|⟨hn,h2⟩
   ·rw [show decide ((k:Int)<n)=true from decide_eq_true (by omega)]
    rfl
   rw [hn]
   simp
  rw [Ip,this,if_pos rfl,Nq (by decide) hs]
  show ((one m (i+1)).bind _)=_
  have hst2:stops 0 ((its.flatMap fun it=>(5,[44])::tk it)++rest):=by
   cases its with
   | nil=>exact hst
   | cons a b=>rw [Ia];exact hc _
  rw [h1 it (hP it Ev) m (i+1) _ hst2 s1]
  show Ip l n one f (k+1) (ap m it) (i+1+(tk it).length)=_
  rw [ig h1 hc hst hr its (k+1) f (ap m it) _ (by omega) (fun x hx=>hP x (.tail _ hx)) (by simp at hf;omega) (Ex s1) (by simp only [Aq] at hn;omega)]
  simp only [List.foldl_cons,Ia,Ai,Aq]
  congr 1
  omega
/-- Words of some things, with commas between. -/
def Jr:List (List TK)→List TK
 | []=>[]
 | t::r=>t++r.flatMap fun u=>(5,[44])::u
theorem cv (r:List TK):stops 0 ((5,[44])::r):=fun h r' e _=>by
 injection e with e _
 subst e
 exact ⟨by decide,by decide⟩
theorem X0 (r:List TK):stops 0 ((2,backW)::r):=fun h r' e _=>by
 injection e with e _
 subst e
 exact ⟨by decide +kernel,by decide⟩
theorem AC8 (r:List TK):stops 0 ((2,intoW)::r):=fun h r' e _=>by
 injection e with e _
 subst e
 exact ⟨by decide +kernel,by decide⟩
theorem P9 (r:List TK):stops 0 ((5,[59])::r):=fun h r' e _=>by
 injection e with e _
 subst e
 exact ⟨by decide,by decide⟩
theorem AK8 {l:List Tok} {i:Nat} {ts:List TK} (h:seg l i=ts):ts.length≤l.length:=by
 rw [←h]
 unfold seg
 rw [Bh,Dh]
 omega
theorem ii {α:Type} {tk:α→List TK}:∀(its:List α),its.length≤(its.flatMap fun it=>(5,[44])::tk it).length
 | []=>Ae _
 | a::r=>by
  have:=ii (tk:=tk) r
  rw [Ia,Ai,Aq,Aq]
  omega
theorem cw {l:List Tok} {α:Type} {one:Mov→Nat→PR Mov} {tk:α→List TK} {ap:Mov→α→Mov} {P:α→Prop} {n:Int} (h1:∀it,P it→∀m i rest,stops 0 rest→seg l i=tk it++rest→one m i=.ok (ap m it) (i+(tk it).length)) {rest:List TK} (hst:stops 0 rest) (hr:∃k t r,rest=(k,t)::r∧t≠[44])
  {its:List α} {m:Mov} {i:Nat} (h0:its≠[]) (hP:∀it∈its,P it) (hs:seg l i=Jr (its.map tk)++rest) (hn:n=its.length∨(n=0∧2≤its.length)):Gq l n one m i=.ok (its.foldl ap m) (i+(Jr (its.map tk)).length):=by
 cases its with
 | nil=>exact absurd rfl h0
 | cons a r =>
  have e:Jr ((a::r).map tk)=tk a++r.flatMap fun it=>(5,[44])::tk it:=by
   rw [Bs,Jr,List.flatMap_map]
  rw [e,C8] at hs
  have hst2:stops 0 ((r.flatMap fun it=>(5,[44])::tk it)++rest):=by
   cases r with
   | nil=>exact hst
   | cons a b=>rw [Ia];exact cv _
  have s1:=Ex hs
  have hl:=AK8 s1
  rw [Ai] at hl
  have hf:=ii (tk:=tk) r
  unfold Gq
  rw [h1 a (hP a Ev) m i _ hst2 hs]
  show Ip l n one (l.length+1) 1 (ap m a) (i+(tk a).length)=_
  rw [ig h1 cv hst hr r 1 (l.length+1) (ap m a) _ (Ae _) (fun x hx=>hP x (.tail _ hx)) (by omega) s1 (by simp only [Aq] at hn;omega),e,Ai,Is]
  rfl
theorem ij:∀(g:List (Col×Expr)) (m:Mov),g.foldl (fun m p=>Ml (Ek m p.1) p.2) m=⟨m.kind,m.take,m.give++g.map (·.1),m.ahead++g.map (·.2),m.back⟩
 | [],m=>by simp
 | p::g,m=>by rw [List.foldl_cons,ij g];simp [Ml,Ek]
theorem ik:∀(g:List Expr) (m:Mov),g.foldl M0 m=⟨m.kind,m.take,m.give,m.ahead,m.back++g⟩
 | [],m=>by simp
 | p::g,m=>by rw [List.foldl_cons,ik g];simp [M0]
theorem il:∀(g:List Str) (m:Mov),g.foldl Tg m=⟨m.kind,m.take++g,m.give,m.ahead,m.back⟩
 | [],m=>by simp
 | p::g,m=>by rw [List.foldl_cons,il g];simp [Tg]
def Qa (m:Mov):List TK:=Jr ((m.give.zip m.ahead).map fun p=>Ki p.1 p.2)
def U6 (m:Mov):List TK:=Jr (m.take.map fun s=>[(1,s)])
def Qb (m:Mov):List TK:=(2,backW)::Jr (m.back.map Au)
/-- The words of a move. -/
def mvT (m:Mov):List TK:=(2,B3 m.kind)::((if m.kind==1 then Qa m else if m.kind==2 then U6 m++Qb m else if m.kind==3 then U6 m++[(2,toW),(1,(m.give.getD 0 ⟨[],0⟩).name)] else if m.kind==6 then Qa m++Qb m else U6 m++(2,intoW)::(Qa m++Qb m))++[(5,[59])])
theorem Vn {l:List Tok} {m:Mov} {xs:List Expr} {i:Nat} {rest:List TK} (hx:∀x∈xs,PrE x) (hn:xs.length=m.take.length) (h0:xs≠[]) (hst:stops 0 rest) (hr:∃k t r,rest=(k,t)::r∧t≠[44]) (hs:seg l i=(2,backW)::(Jr (xs.map Au)++rest)):Fc l m i=.ok ⟨m.kind,m.take,m.give,m.ahead,m.back++xs⟩ (i+1+(Jr (xs.map Au)).length):=by
 unfold Fc
 rw [Nq (by decide) hs]
 show Gq l m.take.length (Nm l) m (i+1)=_
 rw [cw (ap:=M0) (tk:=Au) (P:=PrE) (fun x hx m i rest hst hs=>by unfold Nm;rw [ql hx hs hst];rfl) hst hr h0 hx (Bt hs).2.2.1 (.inl (by rw [hn])),ik]
theorem AC9 {l:List Tok} {n:Int} {m:Mov} {g:List (Col×Expr)} {i:Nat} {rest:List TK} (hg:∀p∈g,1≤p.1.kind∧p.1.kind≤3∧PrE p.2) (hn:n=g.length∨(n=0∧2≤g.length)) (h0:g≠[]) (hst:stops 0 rest) (hr:∃k t r,rest=(k,t)::r∧t≠[44]) (hs:seg l i=Jr (g.map fun p=>Ki p.1 p.2)++rest):Gq l n (Eb l) m i=.ok ⟨m.kind,m.take,m.give++g.map (·.1),m.ahead++g.map (·.2),m.back⟩ (i+(Jr (g.map fun p=>Ki p.1 p.2)).length):=by
 rw [cw (ap:=fun m p=>Ml (Ek m p.1) p.2) (tk:=fun p=>Ki p.1 p.2) (P:=fun p=>1≤p.1.kind∧p.1.kind≤3∧PrE p.2) (fun p hp m i rest hst hs=>Vm hp.1 hp.2.1 hp.2.2 hs hst) hst hr h0 hg hs hn,ij]
theorem ACa {l:List Tok} {m:Mov} {g:List Str} {i:Nat} {rest:List TK} (hn:2≤g.length) (hst:stops 0 rest) (hr:∃k t r,rest=(k,t)::r∧t≠[44]) (hs:seg l i=Jr (g.map fun s=>[(1,s)])++rest):Gq l 0 (Nn l) m i=.ok ⟨m.kind,m.take++g,m.give,m.ahead,m.back⟩ (i+(Jr (g.map fun s=>[((1:Int),s)])).length):=by
 rw [cw (ap:=Tg) (tk:=fun s=>[(1,s)]) (P:=fun _=>True) (fun s _ m i rest hst hs=>by unfold Nn;rw [P8 hs];rfl) hst hr (fun e=>by rw [e] at hn;simp at hn) (fun _ _=>trivial) hs (.inr ⟨rfl,hn⟩),il]
/-- A move that may be printed and read. -/
structure PrM (m:Mov):Prop where
 one:Ix m=true
 ahead:∀x∈m.ahead,PrE x
 back:∀x∈m.back,PrE x
def Pa (m:Mov):List TK:=if m.kind==1 then Qa m else if m.kind==2 then U6 m++Qb m else if m.kind==3 then U6 m++[(2,toW),(1,(m.give.getD 0 ⟨[],0⟩).name)] else if m.kind==6 then Qa m++Qb m else U6 m++(2,intoW)::(Qa m++Qb m)
theorem AGb (m:Mov):mvT m=(2,B3 m.kind)::(Pa m++[(5,[59])]):=rfl
theorem qm {k:Int} (h:(Av k==([]:Str))=false):1≤k∧k≤3:=by
 unfold Av at h
 split at h
 ·cases h
 rename_i h1;omega
theorem Rt {α:Type} {l:List α} (h:((l.length:Int)==1)=true):∃a,l=[a]:=by
 match l,h with
 | [a],_=>exact ⟨a,rfl⟩
 | [],h=>simp at h
 | _::_::_,h=>simp at h;omega
theorem ze {α:Type} {l:List α} (h:((l.length:Int)==0)=true):l=[]:=by
 match l,h with
 | [],_=>rfl
 | _::_,h=>simp at h;omega
theorem Zl {r:List TK}:∃k t r',((5,[59])::r:List TK)=(k,t)::r'∧t≠[44]:=⟨_,_,_,rfl,by decide⟩
theorem AGc {r:List TK}:∃k t r',((2,backW)::r:List TK)=(k,t)::r'∧t≠[44]:=⟨_,_,_,rfl,by decide⟩
theorem AK9 {r:List TK}:∃k t r',((2,intoW)::r:List TK)=(k,t)::r'∧t≠[44]:=⟨_,_,_,rfl,by decide⟩
theorem Pb (t:List TK):Jr [t]=t:=by simp [Jr]
theorem zf {α β:Type}:∀{a:List α} {b:List β},b.length=a.length→(a.zip b).map (·.1)=a∧(a.zip b).map (·.2)=b
 | [],[],_=>⟨rfl,rfl⟩
 | [],_::_,h=>by simp at h
 | _::_,[],h=>by simp at h
 | x::a,y::b,h=>by
  obtain ⟨h1,h2⟩:=zf (a:=a) (b:=b) (by simpa using h)
  rw [List.zip_cons_cons,Bs,Bs,h1,h2]
  exact ⟨rfl,rfl⟩
/-- What a right move has. -/
theorem cx {m:Mov} (h:PrM m):Ew m=true∧(m.kind≠3→∀c∈m.give,1≤c.kind∧c.kind≤3)∧(m.kind=3→∀c∈m.give,c.kind=0)∧Jp m=true:=by
 have h1:=h.one
 unfold Ix at h1
 simp only [Ah,Ay] at h1
 refine ⟨h1.1.1.1.1.1,fun hk c hc=>?_,fun hk c hc=>?_,h1.2⟩
 ·have:=h1.1.1.1.1.2 c hc
  unfold L5 at this
  simp only [Ah] at this
  have e:(m.kind==3)=false:=by simpa using hk
  rw [e] at this
  exact qm (by simpa using this.2.1)
 have:=h1.1.1.1.1.2 c hc
 unfold L5 at this
 simp only [Ah] at this
 rw [hk] at this
 simpa using this.2.2
theorem AGd {m:Mov} (h:PrM m) (hk:m.kind≠3):∀p∈m.give.zip m.ahead,1≤p.1.kind∧p.1.kind≤3∧PrE p.2:=fun p hp=>by
 have h1:=(cx h).2.1 hk p.1 (Sd hp).1
 exact ⟨h1.1,h1.2,h.ahead p.2 (Sd hp).2⟩
theorem AGe {l:List Tok} {m:Mov} {i:Nat} {rest:List TK} (h:PrM m) (hs:seg l i=Pa m++(5,[59])::rest):I8 l ⟨m.kind,[],[],[],[]⟩ i=.ok m (i+(Pa m).length):=by
 obtain ⟨hc,hg3,hg0,hl⟩:=cx h
 obtain ⟨hal,hbl⟩:=L6 hc
 have hgo:=AGd h
 have hba:=h.back
 have hz:=zf hal
 unfold Ew at hc
 rw [if_neg (by simp [hal,hbl])] at hc
 obtain ⟨k,take,give,ahead,back⟩:=m
 simp only at *
 by_cases k1:(k==1)=true
 ·rw [if_pos k1,Ah] at hc
  have e:k=1:=by simpa using k1
  subst e
  obtain rfl:=ze hc.1
  obtain ⟨c,rfl⟩:=Rt hc.2
  obtain ⟨x,rfl⟩:∃x,ahead=[x]:=Uf.1 (by simpa using hal)
  obtain rfl:back=[]:=Qu (by simpa using hbl)
  have hb:Pa ⟨1,[],[c],[x],[]⟩=Ki c x:=by show Jr [Ki c x]=_;exact Pb _
  rw [hb] at hs ⊢
  have hp:=hgo (by decide) (c,x) (by simp)
  exact Vm (m:=⟨1,[],[],[],[]⟩) hp.1 hp.2.1 hp.2.2 hs (P9 _)
 rw [if_neg k1] at hc
 by_cases k2:(k==2)=true
 ·rw [if_pos k2,Ah] at hc
  have e:k=2:=by simpa using k2
  subst e
  obtain ⟨s,rfl⟩:=Rt hc.1
  obtain rfl:=ze hc.2
  obtain rfl:ahead=[]:=Qu (by simpa using hal)
  have hb:Pa ⟨2,[s],[],[],back⟩=(1,s)::(2,backW)::Jr (back.map Au):=by show Jr [[(1,s)]]++_=_;rw [Pb];rfl
  rw [hb] at hs ⊢
  show ((Fh l i).bind fun s j=>Fc l (takeS ⟨2,[],[],[],[]⟩ s) j)=_
  rw [P8 hs]
  show Fc l ⟨2,[s],[],[],[]⟩ (i+1)=_
  rw [Vn (m:=⟨2,[s],[],[],[]⟩) hba hbl (fun e=>by rw [e] at hbl;simp at hbl) (P9 _) Zl (Bt hs).2.2.1]
  simp only [Fi,Aq]
  congr 1
  omega
 rw [if_neg k2] at hc
 by_cases k3:(k==3)=true
 ·rw [if_pos (show ((k==3) || (k==6))=true by rw [k3];rfl),Ah] at hc
  have e:k=3:=by simpa using k3
  subst e
  obtain ⟨s,rfl⟩:=Rt hc.1
  obtain ⟨c,rfl⟩:=Rt hc.2
  obtain ⟨x,rfl⟩:∃x,ahead=[x]:=Uf.1 (by simpa using hal)
  obtain ⟨y,rfl⟩:∃x,back=[x]:=Uf.1 (by simpa using hbl)
  have hc0:=hg0 rfl c (by simp)
  obtain ⟨t,q⟩:=c
  have e0:q=0:=hc0
  subst e0
  have hl':(eqE x (Bj s)&&eqE y (Bj t))=true:=hl
  rw [Ah] at hl'
  obtain rfl:x=Bj s:=(V5 _ _).1 hl'.1
  obtain rfl:y=Bj t:=(V5 _ _).1 hl'.2
  have hb:Pa ⟨3,[s],[⟨t,0⟩],[Bj s],[Bj t]⟩=[(1,s),(2,toW),(1,t)]:=by show Jr [[(1,s)]]++_=_;rw [Pb];rfl
  rw [hb] at hs ⊢
  show ((Fh l i).bind _)=_
  have s1:=(Bt hs).2.2.1
  have s2:=(Bt s1).2.2.1
  rw [P8 hs]
  show ((Cm l toW (i+1)).bind _)=_
  rw [Nq (by decide) s1]
  show ((Fh l (i+1+1)).bind _)=_
  rw [P8 s2]
  rfl
 by_cases k6:(k==6)=true
 ·rw [if_pos (show ((k==3) || (k==6))=true by rw [k6];simp),Ah] at hc
  have e:k=6:=by simpa using k6
  subst e
  obtain ⟨s,rfl⟩:=Rt hc.1
  obtain ⟨c,rfl⟩:=Rt hc.2
  obtain ⟨x,rfl⟩:∃x,ahead=[x]:=Uf.1 (by simpa using hal)
  have hsn:s=c.name:=by
   have hl':(s==c.name)=true:=hl
   simpa using hl'
  subst hsn
  have hb:Pa ⟨6,[c.name],[c],[x],back⟩=Ki c x++(2,backW)::Jr (back.map Au):=by show Jr [Ki c x]++_=_;rw [Pb];rfl
  rw [hb,C8] at hs
  rw [hb]
  have hp:=hgo (by decide) (c,x) (by simp)
  show ((Eb l ⟨6,[],[],[],[]⟩ i).bind _)=_
  rw [Vm hp.1 hp.2.1 hp.2.2 hs (X0 _)]
  show Fc l ⟨6,[c.name],[c],[x],[]⟩ (i+(Ki c x).length)=_
  rw [Vn (m:=⟨6,[c.name],[c],[x],[]⟩) hba hbl (fun e=>by rw [e] at hbl;simp at hbl) (P9 _) Zl (Ex hs)]
  simp only [Fi,Aq,Ai]
  congr 1
  omega
 rw [if_neg (show ¬((k==3) || (k==6))=true by rw [Cz];rintro (h|h);exact k3 h;exact k6 h)] at hc
 have hz1:∀{n:Nat},give.length=n→(give.zip ahead).length=n:=fun e=>by rw [Ye,hal,e];simp
 by_cases k4:(k==4)=true
 ·rw [if_pos k4,Ah] at hc
  have e:k=4:=by simpa using k4
  subst e
  obtain ⟨s,rfl⟩:=Rt hc.1
  have hg2:2≤give.length:=by have:=hc.2;simp at this;omega
  have hb:Pa ⟨4,[s],give,ahead,back⟩=(1,s)::(2,intoW)::(Jr ((give.zip ahead).map fun p=>Ki p.1 p.2)++(2,backW)::Jr (back.map Au)):=by show Jr [[(1,s)]]++_=_;rw [Pb];rfl
  rw [hb] at hs ⊢
  simp only [Ey,C8] at hs
  have s1:=(Bt hs).2.2.1
  have s2:=(Bt s1).2.2.1
  show ((Fh l i).bind _)=_
  rw [P8 hs]
  show ((Cm l intoW (i+1)).bind _)=_
  rw [Nq (by decide) s1]
  show ((Gq l 0 (Eb l) ⟨4,[s],[],[],[]⟩ (i+1+1)).bind _)=_
  rw [AC9 (hgo (by decide)) (.inr ⟨rfl,by rw [hz1 rfl];exact hg2⟩) (fun e=>by have:=hz1 rfl;rw [e] at this;simp at this;omega) (X0 _) AGc s2]
  show Fc l ⟨4,[s],[]++_,[]++_,[]⟩ _=_
  rw [Vn (m:=⟨4,[s],[]++(give.zip ahead).map (·.1),[]++(give.zip ahead).map (·.2),[]⟩) hba hbl (fun e=>by rw [e] at hbl;simp at hbl) (P9 _) Zl (Ex s2)]
  simp only [Fi,hz.1,hz.2,Aq,Ai]
  congr 1
  omega
 rw [if_neg k4] at hc
 by_cases k5:(k==5)=true
 ·rw [if_pos k5,Ah] at hc
  have e:k=5:=by simpa using k5
  subst e
  obtain ⟨c,rfl⟩:=Rt hc.2
  have ht2:2≤take.length:=by have:=hc.1;simp at this;omega
  obtain ⟨x,rfl⟩:∃x,ahead=[x]:=Uf.1 (by simpa using hal)
  have hb:Pa ⟨5,take,[c],[x],back⟩=Jr (take.map fun s=>[(1,s)])++(2,intoW)::(Ki c x++(2,backW)::Jr (back.map Au)):=by show Jr _++(2,intoW)::(Jr [Ki c x]++_)=_;rw [Pb];rfl
  rw [hb] at hs ⊢
  simp only [Ey,C8] at hs
  have s1:=Ex hs
  have s2:=(Bt s1).2.2.1
  have hp:=hgo (by decide) (c,x) (by simp)
  show ((Gq l 0 (Nn l) ⟨5,[],[],[],[]⟩ i).bind _)=_
  rw [ACa ht2 (AC8 _) AK9 hs]
  show ((Cm l intoW _).bind _)=_
  rw [Nq (by decide) s1]
  show ((Eb l _ _).bind _)=_
  rw [Vm hp.1 hp.2.1 hp.2.2 s2 (X0 _)]
  show Fc l ⟨5,[]++take,[c],[x],[]⟩ _=_
  rw [Vn (m:=⟨5,[]++take,[c],[x],[]⟩) hba hbl (fun e=>by rw [e] at hbl;simp at hbl;omega) (P9 _) Zl (Ex s2)]
  simp only [Fi,Aq,Ai]
  congr 1
  omega
 rw [if_neg k5] at hc
 cases hc
theorem AGf {m:Mov} (h:PrM m):m.kind=1∨m.kind=2∨m.kind=3∨m.kind=4∨m.kind=5∨m.kind=6:=by
 have hc:=(cx h).1
 unfold Ew at hc
 split at hc
 ·cases hc
 split at hc
 ·rename_i h;exact .inl (by simpa using h)
 split at hc
 ·rename_i h;exact .inr (.inl (by simpa using h))
 split at hc
 ·rename_i h
  rw [Cz] at h
  rcases h with h|h
  ·exact .inr (.inr (.inl (by simpa using h)))
  exact .inr (.inr (.inr (.inr (.inr (by simpa using h)))))
 split at hc
 ·rename_i h;exact .inr (.inr (.inr (.inl (by simpa using h))))
 split at hc
 ·rename_i h;exact .inr (.inr (.inr (.inr (.inl (by simpa using h)))))
 cases hc
theorem ACb {k:Int} (h:k=1∨k=2∨k=3∨k=4∨k=5∨k=6):E9 (B3 k)=k∧(k==0)=false:=by
 rcases h with rfl|rfl|rfl|rfl|rfl|rfl<;>exact ⟨by kernel_rfl,rfl⟩
theorem AGg {l:List Tok} {m:Mov} {i:Nat} {rest:List TK} (h:PrM m) (hs:seg l i=mvT m++rest):J3 l i=.ok m (i+(mvT m).length):=by
 rw [AGb] at hs ⊢
 simp only [Ey,C8,Fi] at hs
 obtain ⟨h1,h2,s1,_⟩:=Bt hs
 obtain ⟨w1,w2⟩:=ACb (AGf h)
 unfold J3
 rw [h1,h2,w1,w2,if_neg (by decide),AGe h s1]
 show ((Cm l [59] (i+1+(Pa m).length)).bind _)=_
 rw [Nq (by decide) (Ex s1)]
 show PR.ok m _=_
 rw [Aq,Ai]
 congr 1
 simp
 omega
theorem cy {l:List Tok}:∀(ms:List Mov) (f:Nat) (acc:List Mov) (i:Nat),(∀m∈ms,PrM m)→acc.length+ms.length≤8→acc.length+f=9→seg l i=ms.flatMap mvT++[(0,[])]→F1 l f acc i=.ok (acc++ms) (i+(ms.flatMap mvT).length)
 | [],0,acc,i,_,h8,hf,_=>by simp at h8;omega
 | [],f+1,acc,i,_,h8,hf,hs=>by
  rw [F1,(Bt hs).1,if_neg (by decide),Ep]
  rfl
 | m::ms,0,acc,i,_,h8,hf,_=>by simp at h8;omega
 | m::ms,f+1,acc,i,h,h8,hf,hs=>by
  rw [Ia,C8] at hs
  have hs':=hs
  rw [AGb] at hs'
  simp only [Ey] at hs'
  simp only [Aq] at h8
  rw [F1,(Bt hs').1,if_pos (by decide),if_neg (by simp only [beq_iff_eq];omega),AGg (h m Ev) hs]
  show F1 l f (acc++[m]) (i+(mvT m).length)=_
  rw [cy ms f (acc++[m]) _ (fun x hx=>h x (.tail _ hx)) (by rw [Ai];simp;omega) (by rw [Ai];simp;omega) (Ex hs),C8,Ia,Ai,Is]
  rfl
/-- Moves that may be printed and read are parsed from their words. -/
theorem wj {s:Str} {ms:List Mov} {L:List Tok} {n:Nat} (hl:C4 s=(L++[⟨0,[],n⟩],0,0)) (hL:L.map ktT=ms.flatMap mvT) (h:∀m∈ms,PrM m) (h8:ms.length≤8):M1 s=(ms,0,0):=by
 have hs:seg (L++[⟨0,[],n⟩]) 0=ms.flatMap mvT++[(0,[])]:=by
  unfold seg
  rw [Pf,Cu,hL]
  rfl
 unfold M1
 rw [hl,if_neg (by show ¬(((0:Int) != 0)=true);decide)]
 show (match L7 (L++[⟨0,[],n⟩]) with|.ok l _=>(l,0,0)|.bad e a=>([],e,a))=_
 unfold L7
 rw [cy ms 9 [] 0 h (by simpa using h8) (by decide) hs]
 rfl
/-! Two sources, one behind the other, with a line's end between. -/
end Go.SX.Nb
