/- Texts on the way to this: MigJoins answers true for whatever it is handed: two sources of up to 1500 bytes that are migrations, one behind the other, are both, if there are not too many moves; its chapter's example is parsed and printed. (part 7) -/
import Derived.ReadAgain
import Derived.ChangeSame
import Derived.ChangeArms
import Derived.ChangeOld
import Derived.ChangeFn
import Derived.MapPlaces
import Derived.DataReads
import Derived.OpenShut
import Derived.RowKit
import Derived.Deep.DeepHandedRow
import Derived.Test.YtlafnblklafbkaaGreatDoorCards
import Derived.Test.YtlafnblklafbkaaGreatDoorTie
import Derived.Lay
import Derived.Lib.LaidTab
import Derived.Stop.LaidErr
import Derived.Shelf.Vars
import Derived.ChangeBears
import Derived.Lib.ParseIntBTie
import Derived.Lib.SliceRun
import Derived.Test.YtlafnblklafbkaaGreatDoorMigJoinsCardSaidPart6
set_option linter.all false
namespace Go.SX
variable [GI:GlobInv]
open Classical Go.RowKit Go.ChangeShapes
variable {W:World}
section
variable {P:Program} {H:Type} {enc:TypeId×Value→H}

/-- The first ghost: whatever lies there is read for good. -/
noncomputable def G0 (W:World):Gh:=⟨fun b o=>if (W.cell? ⟨b,o,none⟩).isSome then .fix else .free,fun _=>0,0⟩
theorem mt {b o:Nat} {u:Value} (h:W.cell? ⟨b,o,none⟩=some u):(G0 W).tag b o=.fix:=by simp [G0,h]
theorem L9 {b:Nat} (h:b<W.heap.size):F8 (G0 W) W b:=⟨h,fun o=>by simp only [G0];split<;>simp,fun i hi=>absurd hi (Nat.not_lt_zero _)⟩
theorem jg (W:World):HeapRel (G0 W) [] W:=⟨fun i x h=>by simp at h,rfl,fun i j hi=>absurd hi (Nat.not_lt_zero _)⟩
theorem jh {W:World} (h:Fb W):TagOK (G0 W) W:=by
 refine ⟨fun b o hb=>?_,fun b o i hb=>?_,fun b o L hb=>?_,fun x hx=>?_⟩
 ·simp only [G0] at hb
  split at hb
  ·rename_i hs;exact Option.isSome_iff_exists.1 hs
  exact absurd rfl hb
 ·simp only [G0] at hb;split at hb<;>cases hb
 ·simp only [G0] at hb;split at hb<;>cases hb
 obtain ⟨v,h1,h2⟩:=h x hx
 exact ⟨L9 (Array.getElem?_eq_some_iff.1 h1).1,v,h1,h2⟩

/-- What a datum of a plain type qy as. -/
inductive DRep (P:Program):TypeId→DataW H→AV→Prop
 | int {t:TypeId} {k:IntKind} {n:Int} (hu:P.underlying t=some (.int k)) (wf:(Lit.int k n).wf=true):DRep P t (.lit (.int k n)) (.v (.int k n))
 | bool {t:TypeId} {b:Bool} (hu:P.underlying t=some .bool):DRep P t (.lit (.bool b)) (.v (.bool b))
 | str {t:TypeId} {bs:List UInt8} (hu:P.underlying t=some .string):DRep P t (.lit (.string bs)) (.v (sv bs))
 | nil {t e:TypeId} (hu:P.underlying t=some (.slice e)):DRep P t .nil (.slice false (P.cellsOf e) [])
 | slice {t e:TypeId} {elems spare:List (DataW H)} {ys:List AV} (hu:P.underlying t=some (.slice e)) (hn:ys.length=elems.length)
   (h:∀(i:Nat) (d:DataW H) (y:AV),elems[i]? = some d→ys[i]? = some y→DRep P e d y):DRep P t (.slice elems spare) (.slice false (P.cellsOf e) ys)
 | struct {t:TypeId} {fs:Array Field} {parts:List (DataW H)} {ys:List AV} (hu:P.underlying t=some (.struct fs)) (hn:parts.length=fs.size) (hn':ys.length=fs.size)
   (h:∀(i:Nat) (f:Field) (d:DataW H) (y:AV),fs[i]? = some f→parts[i]? = some d→ys[i]? = some y→DRep P f.type d y):DRep P t (.agg parts) (.agg (ys.flatMap AV.cells))

/-- Types that are made of numbers, texts, bools, slices and structs alone. -/
structure PlainT (P:Program) (T:TypeId→Prop):Prop where
 look:∀t,T t→(P.cellsOf t=1∧((∃k,P.underlying t=some (.int k))∨P.underlying t=some .bool∨P.underlying t=some .string∨(∃e,P.underlying t=some (.slice e)∧T e∧0<P.cellsOf e))) ∨
  (∃fs,P.underlying t=some (.struct fs)∧(∀f∈fs.toList,T f.type)∧P.cellsOf t=(fs.toList.map fun f=>P.cellsOf f.type).sum ∧
   ∀(j:Nat) (f:Field),fs.toList[j]? = some f→f.offset=((fs.toList.take j).map fun f=>P.cellsOf f.type).sum)

/-- The reading of a row of cells. -/
def CRep (W:World) (y:AV) (cs:List Value):Prop:=
 y.cells.length=cs.length∧(∀c∈y.cells,c.one=true)∧∀(j:Nat) (c:AV) (v:Value),y.cells[j]? = some c→cs[j]? = some v→Rep (G0 W) W none c v

theorem CRep.v1 {W:World} {x:Value} (h:x.oneCell'=true):CRep W (.v x) [x]:=
 ⟨rfl,by simp [AV.cells,AV.one,h],fun j c v h1 h2=>by
  match j with
  | 0=>simp [AV.cells] at h1 h2;subst h1;subst h2;exact .v _ _
  | j+1=>simp [AV.cells] at h1⟩

theorem Tf {f:AV→List AV}:∀(ys:List AV) (j:Nat) (c:AV),(ys.flatMap f)[j]? = some c→∃(i:Nat) (y:AV) (q:Nat),ys[i]? = some y∧(f y)[q]? = some c∧j=((ys.take i).map fun y=>(f y).length).sum+q
 | [],j,c,h=>by simp at h
 | y::r,j,c,h=>by
  rw [List.flatMap_cons] at h
  rcases Nat.lt_or_ge j (f y).length with h'|h'
  ·rw [List.getElem?_append_left h'] at h
   exact ⟨0,y,j,rfl,h,by simp⟩
  rw [List.getElem?_append_right h'] at h
  obtain ⟨i,z,q,h1,h2,h3⟩:=Tf r _ c h
  exact ⟨i+1,z,q,h1,h2,by simp only [List.take_succ_cons,List.map_cons,List.sum_cons];omega⟩
theorem Ib {α:Type} {R:Nat→α→Prop}:∀(n:Nat),(∀i,i<n→∃y,R i y)→∃ys:List α,ys.length=n∧∀(i:Nat) (y:α),ys[i]? = some y→R i y
 | 0,_=>⟨[],rfl,fun i y h=>by simp at h⟩
 | n+1,h=>by
  obtain ⟨ys,h1,h2⟩:=Ib n (fun i hi=>h i (by omega))
  obtain ⟨y,hy⟩:=h n (by omega)
  refine ⟨ys++[y],by simp [h1],fun i z hz=>?_⟩
  rcases Nat.lt_or_ge i n with h'|h'
  ·rw [List.getElem?_append_left (by omega)] at hz;exact h2 i z hz
  rw [List.getElem?_append_right (by omega)] at hz
  have:i=n:=by
   have:=(List.getElem?_eq_some_iff.1 hz).1
   simp at this;omega
  subst this
  rw [h1] at hz
  simp at hz
  exact hz ▸ hy
theorem Jn {α β:Type} {f:α→Nat} {g:β→Nat}:∀(l:List α) (m:List β),l.length=m.length→(∀(i:Nat) (a:α) (b:β),l[i]? = some a→m[i]? = some b→f a=g b)→(l.map f).sum=(m.map g).sum
 | [],[],_,_=>rfl
 | [],b::m,h,_=>by simp at h
 | a::l,[],h,_=>by simp at h
 | a::l,b::m,h,hh=>by
  simp only [List.map_cons,List.sum_cons]
  rw [hh 0 a b rfl rfl,Jn l m (by simpa using h) (fun i a b h1 h2=>hh (i+1) a b h1 h2)]

theorem eg {T:TypeId→Prop} (PT:PlainT P T) {W:World}:∀(n:Nat) (t:TypeId) (cs:List Value) (x:DataW H×List MemPlace),T t→DataW.trod enc P W 0 (fun _=>true) true n t cs=some x →
  ∃y,DRep P t x.1 y∧CRep W y cs∧cs.length=P.cellsOf t:=by
 intro n
 induction n with
 | zero=>intro t cs x _ h;simp [DataW.trod] at h
 | succ n ih =>
  intro t cs x hT h
  rcases PT.look t hT with ⟨hc1,⟨k,hu⟩|hu|hu|⟨e,hu,he,hz⟩⟩|⟨fs,hu,hf,hsum,hoff⟩
  ·obtain ⟨m,rfl,rfl,hw⟩:=DataW.trod_int hu h
   exact ⟨_,.int hu hw,.v1 rfl,hc1.symm⟩
  ·obtain ⟨b,rfl,rfl⟩:=DataW.trod_bool hu h
   exact ⟨_,.bool hu,.v1 rfl,hc1.symm⟩
  ·obtain ⟨s,rfl,rfl,_⟩:=DataW.trod_string hu h
   exact ⟨_,.str hu,.v1 rfl,hc1.symm⟩
  ·rcases DataW.trod_slice hu h with ⟨rfl,rfl⟩|⟨a,len,cap,elems,rest,m,hm,rfl,rfl,hb,hlc,hcm,hel,hE,_,_⟩
   ·refine ⟨_,.nil hu,⟨rfl,by simp [AV.cells,AV.one],fun j c v h1 h2=>?_⟩,hc1.symm⟩
    match j with
    | 0=>simp [AV.cells] at h1 h2;subst h1;subst h2;exact .slice0 _ _ _
    | j+1=>simp [AV.cells] at h1
   injection hm with hm
   subst hm
   subst hel
   have hEi:∀i,i<elems.length→∃y,(∀d,elems[i]? = some d→DRep P e d.1 y)∧∃ci,W.cells? 0 (a.add (i*P.cellsOf e)) (P.cellsOf e)=some ci∧CRep W y ci:=fun i hi=>by
    have h1:=hE i hi
    rw [List.getElem?_eq_getElem hi,Option.bind_eq_some_iff] at h1
    obtain ⟨ci,h2,h3⟩:=h1
    obtain ⟨y,h4,h5,_⟩:=ih e ci _ he h3
    exact ⟨y,fun d hd=>by rw [List.getElem?_eq_getElem hi] at hd;injection hd with hd;subst hd;exact h4,ci,h2,h5⟩
   obtain ⟨ys,hyl,hys⟩:=Ib elems.length hEi
   refine ⟨.slice false (P.cellsOf e) ys,.slice hu (by simp [hyl]) (fun i d y hd hy=>?_),⟨rfl,by simp [AV.cells,AV.one],fun j c v h1 h2=>?_⟩,hc1.symm⟩
   ·rw [List.getElem?_map,Option.map_eq_some_iff] at hd
    obtain ⟨d',hd',rfl⟩:=hd
    exact (hys i y hy).1 d' hd'
   match j with
   | j+1=>simp [AV.cells] at h1
   | 0 =>
    simp [AV.cells] at h1 h2
    subst h1;subst h2
    by_cases h0:elems.length=0
    ·have:ys=[]:=List.eq_nil_of_length_eq_zero (by omega)
     subst this
     rw [h0]
     exact .sliceE _ _ _ _
    have hspot:a.spot=none:=by
     obtain ⟨ci,hci,_⟩:=(hys 0 ys[0] (List.getElem?_eq_getElem (by omega))).2
     obtain ⟨_,g1,g2⟩:=World.cells?_some hci
     have g3:=g2 0 hz
     rw [List.getElem?_eq_getElem (by omega)] at g3
     simp only [Nat.zero_mul,Addr.add,if_true] at g3
     unfold World.cell? at g3
     split at g3
     ·split at g3
      ·cases g3
      rename_i hs;simpa using hs
     cases g3
    refine .slice _ false _ ys a _ cap (fun i j=>(W.cell? ⟨a.block,a.off+i*P.cellsOf e+j,none⟩).getD undef) hspot hyl.symm hlc (fun x hx=>?_) (fun x hx=>?_) (fun i x j y hx hy=>?_) (fun i x j y hx hy=>?_) (fun h=>by cases h)
    ·obtain ⟨i,hi⟩:=List.getElem?_of_mem hx
     obtain ⟨ci,hci,hcr⟩:=(hys i x hi).2
     rw [hcr.1]
     exact (World.cells?_some hci).2.1
    ·obtain ⟨i,hi⟩:=List.getElem?_of_mem hx
     obtain ⟨ci,hci,hcr⟩:=(hys i x hi).2
     exact hcr.2.1
    ·obtain ⟨ci,hci,hcr⟩:=(hys i x hx).2
     obtain ⟨_,g1,g2⟩:=World.cells?_some hci
     have hj:j<P.cellsOf e:=by
      have:=(List.getElem?_eq_some_iff.1 hy).1
      rw [hcr.1] at this;omega
     have g3:=g2 j hj
     rw [List.getElem?_eq_getElem (by omega),B8 hspot,B8 rfl] at g3
     exact ⟨mt g3,by rw [g3];rfl⟩
    obtain ⟨ci,hci,hcr⟩:=(hys i x hx).2
    obtain ⟨_,g1,g2⟩:=World.cells?_some hci
    have hj:j<P.cellsOf e:=by
     have:=(List.getElem?_eq_some_iff.1 hy).1
     rw [hcr.1] at this;omega
    have g3:=g2 j hj
    rw [List.getElem?_eq_getElem (by omega),B8 hspot,B8 rfl] at g3
    simp only at g3
    rw [g3]
    exact hcr.2.2 j y _ hy (List.getElem?_eq_getElem (by omega))
  obtain ⟨xs,m,hm,rfl,hcl,hxl,hX⟩:=DataW.trod_struct hu h
  injection hm with hm
  subst hm
  have hXi:∀i,i<fs.size→∃y,∀(f:Field),fs[i]? = some f→(∀d,xs[i]? = some d→DRep P f.type d.1 y)∧CRep W y ((cs.drop f.offset).take (P.cellsOf f.type))∧y.cells.length=P.cellsOf f.type:=fun i hi=>by
   have h1:=hX i fs[i] (Array.getElem?_eq_getElem hi)
   rw [List.getElem?_eq_getElem (by omega)] at h1
   obtain ⟨y,h2,h3,h4⟩:=ih _ _ _ (hf _ (by simp)) h1
   refine ⟨y,fun f hf'=>?_⟩
   rw [Array.getElem?_eq_getElem hi] at hf'
   injection hf' with hf'
   subst hf'
   exact ⟨fun d hd=>by rw [List.getElem?_eq_getElem (by omega)] at hd;injection hd with hd;subst hd;exact h2,h3,by rw [h3.1,h4]⟩
  obtain ⟨ys,hyl,hys⟩:=Ib fs.size hXi
  have hlenI:∀(i:Nat),((ys.take i).map fun y=>y.cells.length).sum=((fs.toList.take i).map fun f=>P.cellsOf f.type).sum:=fun i=>by
   refine Jn _ _ (by simp [hyl]) (fun j y f h1 h2=>?_)
   rw [List.getElem?_take] at h1 h2
   split at h1
   ·rename_i hj
    rw [if_pos hj] at h2
    exact (hys j y h1 f (by simpa using h2)).2.2
   cases h1
  have htot:(ys.flatMap AV.cells).length=cs.length:=by
   rw [List.length_flatMap,hcl,hsum]
   refine Jn _ _ (by simp [hyl]) (fun j y f h1 h2=>(hys j y h1 f (by simpa using h2)).2.2)
  refine ⟨.agg (ys.flatMap AV.cells),.struct hu (by simp [hxl]) hyl (fun i f d y hf' hd hy=>?_),⟨htot,fun c hc=>?_,fun j c v h1 h2=>?_⟩,hcl⟩
  ·rw [List.getElem?_map,Option.map_eq_some_iff] at hd
   obtain ⟨d',hd',rfl⟩:=hd
   exact (hys i y hy f hf').1 d' hd'
  ·obtain ⟨y,hy,hcy⟩:=List.mem_flatMap.1 hc
   obtain ⟨i,hi⟩:=List.getElem?_of_mem hy
   have hlt:i<fs.size:=by rw [←hyl];exact (List.getElem?_eq_some_iff.1 hi).1
   exact ((hys i y hi fs[i] (Array.getElem?_eq_getElem hlt)).2.1).2.1 c hcy
  obtain ⟨i,y,q,g1,g2,rfl⟩:=Tf ys j c h1
  have hlt:i<fs.size:=by rw [←hyl];exact (List.getElem?_eq_some_iff.1 g1).1
  obtain ⟨_,k2,k3⟩:=hys i y g1 fs[i] (Array.getElem?_eq_getElem hlt)
  have hq:q<P.cellsOf (fs[i]).type:=by have:=(List.getElem?_eq_some_iff.1 g2).1;omega
  refine k2.2.2 q c v g2 ?_
  rw [List.getElem?_take,if_pos hq,List.getElem?_drop,hoff i fs[i] (by simp [hlt]),←hlenI i]
  exact h2

theorem DRep.str' {t:TypeId} {d:DataW H} {y:AV} (hu:P.underlying t=some .string) (h:DRep P t d y):∃s,d=.lit (.string s)∧y=.v (sv s):=by
 cases h with
 | str hu'=>exact ⟨_,rfl,rfl⟩
 | _ hu'=>rw [hu] at hu';cases hu'
/-- An argument's reading. -/
theorem ji {T:TypeId→Prop} (PT:PlainT P T) {W:World} {t:TypeId} {v:Value} {d:DataW H} {ps:List MemPlace} {b0:Nat} (hT:T t) (hok:Value.okWide P W .any b0 t v) (h:DataW.Trod enc P W 0 (fun _=>true) true t v d ps):
  ∃y,DRep P t d y∧Rep (G0 W) W none y v:=by
 obtain ⟨n,hn⟩:=h
 obtain ⟨y,h1,h2,h3⟩:=eg PT n t _ _ hT hn
 refine ⟨y,h1,?_⟩
 rcases PT.look t hT with ⟨hc1,hone⟩|⟨fs,hu,_⟩
 ·have hva:∀cs,v≠.agg cs:=fun cs e=>by
   subst e
   rcases hone with ⟨k,hu⟩|hu|hu|⟨e,hu,he,hz⟩<;>simp [Value.okWide,hu,Cell.okWide,Cell.ok] at hok
  have hvc:v.cells=#[v]:=by cases v<;>first|rfl|exact absurd rfl (hva _)
  have hyc:y.cells=[y]:=by
   cases h1 with
   | struct hu=>rcases hone with ⟨k,hu'⟩|hu'|hu'|⟨e,hu',he,hz⟩<;>rw [hu] at hu'<;>cases hu'
   | _=>rfl
  have:=h2.2.2 0 y v (by rw [hyc];rfl) (by rw [hvc];rfl)
  exact this
 obtain ⟨cs,rfl,hsz,_⟩:∃cs,v=.agg cs∧cs.size=P.cellsOf t∧Row.okWide P W .any b0 t cs:=by
  simp only [Value.okWide,hu] at hok
  exact hok
 cases h1 with
 | struct hu' hn1 hn2 hh =>
  refine .agg _ _ _ (by have:=h2.1;simp only [AV.cells,Value.cells,Array.length_toList] at this;exact this.symm) h2.2.1 (fun i c u a b=>h2.2.2 i c u a (by simpa [Value.cells] using b))
 | int hu'=>rw [hu] at hu';cases hu'
 | bool hu'=>rw [hu] at hu';cases hu'
 | str hu'=>rw [hu] at hu';cases hu'
 | nil hu'=>rw [hu] at hu';cases hu'
 | slice hu'=>rw [hu] at hu';cases hu'

def DReps (P:Program):List TypeId→List (DataW H)→List AV→Prop
 | [],[],[]=>True
 | t::ts,d::ds,y::ys=>DRep P t d y∧DReps P ts ds ys
 | _,_,_=>False

theorem DReps.cons' {t:TypeId} {ts:List TypeId} {ds:List (DataW H)} {ys:List AV} (h:DReps P (t::ts) ds ys):∃d ds' y ys',ds=d::ds'∧ys=y::ys'∧DRep P t d y∧DReps P ts ds' ys':=by
 match ds,ys,h with
 | d::ds',y::ys',⟨h1,h2⟩=>exact ⟨d,ds',y,ys',rfl,rfl,h1,h2⟩
 | [],_,h=>simp [DReps] at h
 | _::_,[],h=>simp [DReps] at h
theorem DReps.nil' {ds:List (DataW H)} {ys:List AV} (h:DReps P [] ds ys):ds=[]∧ys=[]:=by
 match ds,ys,h with
 | [],[],_=>exact ⟨rfl,rfl⟩
 | [],_::_,h=>simp [DReps] at h
 | _::_,_,h=>simp [DReps] at h
theorem Py {T:TypeId→Prop} (PT:PlainT P T) {W:World} {b0:Nat}:∀(ts:List TypeId) (vs:List Value) (ds:List (DataW H)) (ps:List MemPlace),(∀t∈ts,T t) →
  (∀(j:Nat) t v,ts[j]? = some t→vs[j]? = some v→Value.okWide P W .any b0 t v)→DataW.TrodAll enc P W 0 (fun _=>true) true ts vs ds ps →
  ∃ys,DReps P ts ds ys∧ys.length=vs.length∧∀(i:Nat) (y:AV) (u:Value),ys[i]? = some y→vs[i]? = some u→Rep (G0 W) W none y u
 | [],[],[],_,_,_,_=>⟨[],trivial,rfl,fun i y u h=>by simp at h⟩
 | t::ts,v::vs,d::ds,ps,hT,hok,⟨p,q,h1,h2,_⟩=>by
  obtain ⟨y,k1,k2⟩:=ji PT (hT t (by simp)) (hok 0 t v rfl rfl) h1
  obtain ⟨ys,k3,k4,k5⟩:=Py PT ts vs ds q (fun t ht=>hT t (by simp [ht])) (fun j t v a b=>hok (j+1) t v a b) h2
  refine ⟨y::ys,⟨k1,k3⟩,by simp [k4],fun i z u a b=>?_⟩
  match i with
  | 0=>simp at a b;subst a;subst b;exact k2
  | i+1=>exact k5 i z u a b
 | [],_::_,_,_,_,_,h=>by simp [DataW.TrodAll] at h
 | [],[],_::_,_,_,_,h=>by simp [DataW.TrodAll] at h
 | _::_,[],_,_,_,_,h=>by simp [DataW.TrodAll] at h
 | _::_,_::_,[],_,_,_,h=>by simp [DataW.TrodAll] at h

theorem M1 {sp:Nat→Bool} {hd:Bool}:∀{ts:List TypeId} {vs:List Value} {ds:List (DataW H)} {ps:List MemPlace},DataW.TrodAll enc P W 0 sp hd ts vs ds ps→ds.length=ts.length
 | [],[],[],_,_=>rfl
 | _::_,_::_,_::_,_,⟨_,_,_,h,_⟩=>by rw [List.length_cons,List.length_cons,M1 h]
 | [],_::_,_,_,h=>by simp [DataW.TrodAll] at h
 | [],[],_::_,_,h=>by simp [DataW.TrodAll] at h
 | _::_,[],_,_,h=>by simp [DataW.TrodAll] at h
 | _::_,_::_,[],_,h=>by simp [DataW.TrodAll] at h
theorem Ic {W':World} {sp:Nat→Bool}:∀{ts:List TypeId} {vs:List Value} {ds:List (DataW H)} {ps:List MemPlace},DataW.TrodAll enc P W 0 sp true ts vs ds ps→(∀p∈ps,W.sameAt W' p)→DataW.TrodAll enc P W' 0 sp true ts vs ds ps
 | [],[],[],_,h,_=>h
 | _::_,_::_,_::_,_,⟨p,q,⟨n,hn⟩,h2,e⟩,hs=>⟨p,q,⟨n,DataW.trod_carry n _ _ _ hn (fun x hx=>hs x (by rw [e];exact List.mem_append_left _ hx))⟩,Ic h2 (fun x hx=>hs x (by rw [e];exact List.mem_append_right _ hx)),e⟩
 | [],_::_,_,_,h,_=>by simp [DataW.TrodAll] at h
 | [],[],_::_,_,h,_=>by simp [DataW.TrodAll] at h
 | _::_,[],_,_,h,_=>by simp [DataW.TrodAll] at h
 | _::_,_::_,[],_,h,_=>by simp [DataW.TrodAll] at h

/-- **A law that answers true, for whatever can be read.** -/
theorem Zq {f:FuncId} {fn:Func} {s:ChangeSpec} {T:TypeId→Prop} {tb:TypeId} {W:World} {base:Nat} {args:Array Value} {ds gs:List (DataW H)} {before:List MemPlace} (K:Kids P (·<P.types.size)) (hz:∀t e,t<P.types.size→P.underlying t=some (.slice e)→0<P.cellsOf e)
  (PT:PlainT P T) (hT:∀t∈fn.params.toList,T t∧t<P.types.size) (hb:P.underlying tb=some .bool) (hres:fn.resultTypes=#[tb]) (hvars:s.vars=[])
  (hspec:∀ds:List (DataW H),ds.length=fn.params.size→s.fn H ds={ results:=[.lit (.bool true)],args:=ds })
  (hval:∀(j:Nat) t v,fn.params[j]? = some t→args[j]? = some v→Value.okWide P W .any base t v) (hW:DataW.Whole enc P fn.params.toList s.vars false W args.toList ds gs before)
  (hglob:Fb W)
  (main:∀ys:List AV,DReps P fn.params.toList ds ys→AFun P f ys [] (.v (.bool true))) (hbd:GI.bd≤0:=by exact Nat.le_refl 0):
  Calls P f args W (fun e W'=>∃v,e=.returned v∧s.post enc P fn false true false false W args v W'):=by
 have hW0:=hW
 obtain ⟨p,q,hA,hV,hpq,hfz,hnd⟩:=hW
 rw [hvars] at hV
 obtain ⟨rfl,rfl⟩:=trodVars_none hV
 rw [List.append_nil] at hpq
 subst hpq
 obtain ⟨ys,h1,h2,h3⟩:=Py PT _ _ _ _ (fun t ht=>(hT t ht).1) (fun j t v a b=>hval j t v (by simpa using a) (by simpa using b)) hA
 have hlen:=M1 hA
 have hc:=main ys h1 0 (G0 W) W args (by simpa using h2.symm) (fun i y u a b=>(h3 i y u a (by simpa using b)).lift) (jg W) (jh hglob)
 refine (callsIn_wide.1 (hc hbd)).mono ?_
 rintro e W' ⟨v,G',r,H',rfl,hr,hH,hTg,hk,hl,rfl,rfl⟩
 have hv:=Gr hr
 subst hv
 refine ⟨_,rfl,ds,[],before,[],before,[],hW0,?_,?_,?_,?_,fun h=>by cases h⟩
 ·rw [hres,List.append_nil,hspec ds (by simpa using hlen)]
  exact trodAll_cons_mk (p:=[]) (shut_bool hb true) trodAll_mk0
 ·rw [List.append_nil,hspec ds (by simpa using hlen)]
  refine Ic (DataW.TrodAll.respare K hz (fun t ht=>(hT t ht).2) hA (fun p hp=>by simpa using hW0.lt p hp)) (fun p hp=>?_)
  have hlt:=hW0.lt p hp
  have hb:=(hk.old _ (L9 hlt)).1
  cases p with
  | cell b o=>exact Ca hb
  | map b=>exact hb
 ·rw [hvars,List.append_nil,hspec ds (by simpa using hlen)]
  rfl
 refine ⟨hk.os,hk.output,fun i hi=>?_⟩
 have hb:=(hk.old i (L9 hi)).1
 rw [hb]
 cases ho:W.heap[i]? with
 | none=>simp
 | some o=>cases o<;>simp
end
end Go.SX
namespace Go.Proofs.YtlafnblklafbkaaGreatDoor
open Go Go.SX Go.SX.Nb Go.ChangeShapes Go.RowKit
set_option maxRecDepth 100000

theorem own:ownKnob Tryz.prog.godebug=none:=by kernel_rfl
theorem kids:Kids Tryz.prog (·<Tryz.prog.types.size):=kids_rows (by kernel_rfl) (by kernel_rfl)
theorem full:∀t e,t<Tryz.prog.types.size→Tryz.prog.underlying t=some (.slice e)→0<Tryz.prog.cellsOf e:=slices_full_of Tryz.prog (by kernel_rfl)
/-- What the rows of this seat list. -/
def eh:List (String×DataW Unit):=Rows.migJoinsUptoRow.laid
theorem Zr:∀u,Tryz.prog.typeName? 3 u=some "*errors.errorString" → u=271:=by
 intro u hu
 exact typeName_ptr_named (nm := "errors.errorString") (by kernel_rfl) (by kernel_rfl) (by decide) u hu
theorem jj {W:World} (h:laidMet Tryz.prog eh W):∃a:Addr,W.var? Tryz.prog "strconv.ErrRange" = some #[.iface 271 (.pointer (some a))]:=by
 have h':=h.tail.tail.tail.tail
 obtain ⟨a,s,h1,_⟩:=laid_sentinel (g:=3) (ti:=77) (tp:=271) (te:=273) (ts:=9) h' (by kernel_rfl) (by kernel_rfl) Tryz.underlying77 Zr Tryz.underlying271 Tryz.underlying273 rfl rfl Tryz.underlying9 (by kernel_rfl) (by kernel_rfl)
 exact ⟨a,h1⟩
theorem jk {W:World} (h:laidMet Tryz.prog eh W):Lib.TabIs Tryz.prog W "internal/strconv.uint64pow10" .u64 Lib.pow10Tab:=
 Lib.tabIs_of_head (g:=5) (t:=268) (e:=126) (n:=20) (by kernel_rfl) (by kernel_rfl) (by kernel_rfl) (by kernel_rfl) (by kernel_rfl) (by kernel_rfl) h.tail.tail
theorem Pz {P:Program} {W:World} {n:String} {g:Nat} {cs:Array Value} (hg:P.globalNamed n=some g) (h:W.var? P n=some cs):∃t f,W.heap[g]? = some (.cells cs t f):=by
 unfold World.var? at h
 rw [hg] at h
 simp only [Option.bind_some] at h
 split at h
 ·rename_i cs' t f e
  injection h with h
  subst h
  exact ⟨t,f,e⟩
 cases h
theorem glob {W:World} [E:ErrAt] (h:W.ShapedOpen Tryz.prog) (hl:laidMet Tryz.prog eh W) (he:W.var? Tryz.prog "strconv.ErrRange" = some #[.iface 271 (.pointer (some E.b))]):Fb W:=by
 intro x hx
 have hx':x∈Pm:=hx
 unfold Pm at hx'
 simp only [List.mem_cons,List.mem_nil_iff,or_false] at hx'
 rcases hx' with rfl|rfl|rfl
 ·obtain ⟨m,hm⟩:=cell_of_shapedOpen_int (g:=0) (t:=3) (zero:=#[.int .i64 0]) (k:=.i64) h (of_decide_eq_true (by kernel_rfl)) (by kernel_rfl) rfl (by kernel_rfl) (by kernel_rfl) Tryz.underlying3
  obtain ⟨cs,hh,hs,_⟩:=h.1 0 #[.int .i64 0] 3 (of_decide_eq_true (by kernel_rfl)) (by kernel_rfl)
  have hs':cs.size=1:=hs
  have h1:0<cs.size:=by omega
  have hc:cs[0]=.int .i64 m:=by
   simp [World.cell?,hh,h1] at hm
   exact hm
  have:cs=#[.int .i64 m]:=by
   apply Array.ext
   ·simpa using hs'
   intro i h1 h2
   have:i=0:=by omega
   subst this
   simpa using hc
  rw [this] at hh
  exact ⟨_,hh,m,3,_,rfl⟩
 ·obtain ⟨t,f,e⟩:=Pz (g:=3) (by kernel_rfl) he
  exact ⟨_,e,t,f,rfl⟩
 obtain ⟨t,f,e⟩:=Pz (g:=5) (by kernel_rfl) (jk hl)
 exact ⟨_,e,t,f,rfl⟩
end Go.Proofs.YtlafnblklafbkaaGreatDoor
namespace Go.SX.Nb
open Go Go.SX Go.Proofs
variable [ErrAt]
set_option maxRecDepth 4000
/-- The lexer from a place between two words on. -/
def Id (f q:Nat) (s:Str):List (Tok×Int):=Ck f (q+gapM s) (s.drop (gapM s))
theorem Kb (s:Str):Ai s=Id (s.length+1) 0 s:=by unfold Ai Id;rw [Nat.zero_add]
theorem Ie {f q:Nat} {s:Str} (h:s≠[]):∃(n:Nat),Ck (f+1) q s=(⟨(Ao s).1,(Ao s).2.1,q⟩,(Ao s).2.2.2)::(if (Ao s).2.2.2=0 then Id f (q+n) (s.drop n) else [])∧((Ao s).2.2.2=0→(Ao s).2.2.1=(n:Int)∧1≤n∧n≤s.length):=by
 refine ⟨(Ao s).2.2.1.toNat,?_,fun he=>?_⟩
 ·rw [Dq h]
  simp only [beq_iff_eq]
  rfl
 obtain ⟨n,h1,h2,h3⟩:=Rj (s:=s) (by cases s with|nil=>exact absurd rfl h|cons c r=>simp) he
 rw [h1]
 exact ⟨rfl,by simpa using h2,by simpa using h3⟩
theorem M2:∀(f f' q:Nat) (s:Str),s.length<f→s.length<f'→Ck f q s=Ck f' q s
 | 0,_,_,_,h,_=>by omega
 | _+1,0,_,_,_,h=>by omega
 | f+1,g+1,q,s,h1,h2=>by
  by_cases hs:s=[]
  ·subst hs;rfl
  rw [Dq hs,Dq hs]
  congr 1
  by_cases he:(Ao s).2.2.2=0
  ·obtain ⟨n,hn,k1,k2⟩:=Rj (s:=s) (by cases s with|nil=>exact absurd rfl hs|cons c r=>simp) he
   rw [he]
   simp only [beq_self_eq_true,if_true]
   rw [hn,Int.toNat_natCast]
   exact M2 f g _ _ (by simp only [List.length_drop];omega) (by simp only [List.length_drop];omega)
  rw [if_neg (by simpa using he),if_neg (by simpa using he)]
def Rm (d:Nat) (it:Tok×Int):Tok×Int:=(⟨it.1.kind,it.1.text,it.1.at_+d⟩,it.2)
theorem Kc (d:Nat):∀(f q:Nat) (s:Str),Ck f (q+d) s=(Ck f q s).map (Rm d)
 | 0,_,_=>rfl
 | f+1,q,s=>by
  by_cases hs:s=[]
  ·subst hs;rfl
  rw [Dq hs,Dq hs,List.map_cons]
  congr 1
  split
  ·have e:∀a b:Nat,q+d+a+b=q+a+b+d:=fun a b=>by omega
   rw [e,Kc d f]
  rfl
/-! ### Gaps -/
theorem M3:∀(s:Str) (b:Bool),s.drop (s.length-(B3 s b).length)=B3 s b
 | [],b=>by cases b<;>rfl
 | c::r,b=>by
  have ih:=M3 r
  have hl:=Hf r
  have key:∀b',(c::r).drop ((c::r).length-(B3 r b').length)=B3 r b':=fun b'=>by
   have:=hl b'
   rw [List.length_cons,show r.length+1-(B3 r b').length=(r.length-(B3 r b').length)+1 by omega,List.drop_succ_cons]
   exact ih b'
  cases b with
  | false =>
   rw [B3]
   split
   ·exact key _
   split
   ·exact key _
   simp
  | true =>
   rw [B3]
   split
   ·exact key _
   exact key _
theorem Tg (s:Str):s.drop (gapM s)=B3 s false:=M3 s false
theorem F3 {B:Str} (Z:Str) {V:Str} (hV:V≠[]):∀(U:Str) (b:Bool),B3 (U++B) b=V++B→B3 (U++Z) b=V++Z
 | [],b,h=>by
  have h1:=Hf B b
  have:=congrArg List.length h
  cases V with
  | nil=>exact absurd rfl hV
  | cons v V=>simp at this;omega
 | c::U,false,h=>by
  rw [List.cons_append,B3] at h ⊢
  split at h
  ·rename_i hc;rw [if_pos hc];exact F3 Z hV U false h
  rename_i hc
  rw [if_neg hc]
  split at h
  ·rename_i hc';rw [if_pos hc'];exact F3 Z hV U true h
  rename_i hc'
  rw [if_neg hc']
  have:c::U=V:=by
   rw [←List.cons_append] at h
   exact List.append_cancel_right h
  rw [←this];rfl
 | c::U,true,h=>by
  rw [List.cons_append,B3] at h ⊢
  split at h
  ·rename_i hc;rw [if_pos hc];exact F3 Z hV U false h
  rename_i hc;rw [if_neg hc];exact F3 Z hV U true h
theorem W7 {U B:Str} (Z:Str) {g:Nat} (hg:gapM (U++B)=g) (hl:g<U.length):gapM (U++Z)=g:=by
 have h1:=Tg (U++B)
 rw [hg,List.drop_append_of_le_length (by omega)] at h1
 have h2:=F3 Z (V:=U.drop g) (by rw [Ne,List.drop_eq_nil_iff];omega) U false h1.symm
 unfold gapM
 rw [h2]
 simp only [List.length_append,List.length_drop]
 omega
/-! ### Words -/
theorem jl {p:UInt8→Bool} {V B:Str} (z:UInt8) (Z:Str) (hz:p z=false) (h:((V++B).takeWhile p).length≤V.length):(V++z::Z).takeWhile p=(V++B).takeWhile p:=by
 rw [List.takeWhile_append,List.takeWhile_append,List.takeWhile_cons,hz]
 rw [List.takeWhile_append] at h
 split
 ·rename_i hv
  rw [if_pos hv] at h
  rw [List.length_append] at h
  have:B.takeWhile p=[]:=List.eq_nil_of_length_eq_zero (by omega)
  rw [this]
  rfl
 rfl
theorem Gx (s of:Str):Aq s of=s.takeWhile (of.contains ·):=T5 s of
theorem Kd {s:Str} (h:(Bv s).2.1=0):s.length≤4000∧(∀it∈Ai s,it.2=0)∧Bv s=((Ai s).map (·.1)++[⟨0,[],s.length⟩],0,0):=by
 unfold Bv at h ⊢
 split at h
 ·exact absurd h (show ¬(3:Int)=0 by decide)
 rename_i hl
 rw [if_neg hl]
 cases hf:(Ai s).find? (fun it=>it.2 != 0) with
 | some it =>
  rw [hf] at h
  have:=List.find?_some hf
  simp at this
  exact absurd h this
 | none =>
  rw [List.find?_eq_none] at hf
  refine ⟨by omega,fun it hit=>by simpa using hf it hit,rfl⟩
theorem jm {s:Str} (hl:s.length≤4000) (h:∀it∈Ai s,it.2=0):Bv s=((Ai s).map (·.1)++[⟨0,[],s.length⟩],0,0):=by
 unfold Bv
 rw [if_neg (by omega),T8 h]
def Ke (d:Nat) (t:Tok):Tok:=⟨t.kind,t.text,t.at_+d⟩
theorem Kf (k:Int):(Ax k).length≤4:=by
 unfold Ax
 split
 ·simp
 rename_i h
 have hk:k=1∨k=2∨k=3:=by omega
 rcases hk with rfl|rfl|rfl<;>decide
theorem s9:Tryz.prog.eqGuardType Tryz.prog.depth 64=false:=by kernel_rfl
theorem jn (k k':Int) (s s':List UInt8) (w:World):(Op.equal 64 (.agg #[.string ⟨s.toArray⟩,.int .i64 k]) (.agg #[.string ⟨s'.toArray⟩,.int .i64 k'])).run Tryz.prog w=.ok (s==s'&&k==k') w:=by
 have h1:Tryz.prog.stoodInHeld 64=false:=by kernel_rfl
 show (Op.equalIn (9999+1) _ _ _).run _ _=_
 rw [Op.equalIn]
 generalize hd:(9999:Nat)=d
 obtain ⟨d,rfl⟩:∃e,d=e+1:=⟨9998,hd.symm⟩
 clear hd
 simp [run_underlying Tryz.underlying64,h1,part,cn _ _ _ _ _ _ Tryz.underlying3,lr _ _ _ _ _ Tryz.underlying9,Tryz.isAgg3,Tryz.isAgg9]
 by_cases e1:k=k'<;>by_cases e3:s=s'<;>simp [e1,e3]
theorem X9 {a b:Col}:(a.name==b.name&&a.kind==b.kind)=decide (a=b):=by
 rw [Bool.eq_iff_iff]
 cases a;cases b
 simp
def Gy (s:Str):Int:=if Ax 1==s then 1 else if Ax 2==s then 2 else if Ax 3==s then 3 else 0
structure KindUpto (s:Str) (x:Nat):Prop where
 le:x≤3
 a:1≤x→(Ax 1==s)=false
 b:2≤x→(Ax 2==s)=false
 c:3≤x→(Ax 3==s)=false
theorem jo {s:Str} {x:Nat} (h:KindUpto s x) (hx:x<3) (e:(Ax ((x:Int)+1)==s)=true):Gy s=(x:Int)+1:=by
 have h3:x=0∨x=1∨x=2:=by omega
 unfold Gy
 rcases h3 with rfl|rfl|rfl
 ·have e:(Ax 1==s)=true:=e
  rw [if_pos e];rfl
 ·have e:(Ax 2==s)=true:=e
  rw [if_neg (by rw [h.a (by omega)];simp),if_pos e];rfl
 have e:(Ax 3==s)=true:=e
 rw [if_neg (by rw [h.a (by omega)];simp),if_neg (by rw [h.b (by omega)];simp),if_pos e];rfl
theorem jp {s:Str} {x:Nat} (h:KindUpto s x) (hx:x<3) (e:(Ax ((x:Int)+1)==s)=false):KindUpto s (x+1):=by
 have h3:x=0∨x=1∨x=2:=by omega
 rcases h3 with rfl|rfl|rfl
 ·exact ⟨by omega,fun _=>e,fun h=>by omega,fun h=>by omega⟩
 ·exact ⟨by omega,fun _=>h.a (by omega),fun _=>e,fun h=>by omega⟩
 exact ⟨by omega,fun _=>h.a (by omega),fun _=>h.b (by omega),fun _=>e⟩
theorem jq {s:Str} {x:Nat} (h:KindUpto s x) (hx:3≤x):Gy s=0:=by
 unfold Gy
 rw [if_neg (by rw [h.a (by omega)];simp),if_neg (by rw [h.b (by omega)];simp),if_neg (by rw [h.c (by omega)];simp)]
theorem sa (s:Str) (Hp:List AObj):AFun Tryz.prog 191 [A8 s] Hp (A5 (Gy s)):=by
 refine ACall.body [.tmp 2] [0] Tryz.func191 Tryz.ntmps191 (fun d=>?_)
 refine Z56 ?_;refine Z42 ?_;refine L1 ?_
 refine AW.loopC (α:=Nat) (fun x=>⟨13,A7 0 (A8 s) (A7 3 (A5 ((x:Nat)+1)) (fun _=>.any)),Hp,[],[],none⟩) (fun x=>KindUpto s x) (fun x=>3-x) (0) ⟨by omega,fun h=>by omega,fun h=>by omega,fun h=>by omega⟩ (StLe.refl _) rfl (fun x hx=>?_)
 refine Z11 ?_;refine R.fin [0,3,5] ?_
 refine W.cond (fun ht5=>?_) (fun ht5=>?_)
 ·have hx3:x<3:=by simp at ht5;omega
  refine Z79 ?_;refine Z2 ?_;refine R.call Tryz.call68 (c68 _ _) ?_;refine Z0 ?_;refine R.fin [0,3,11] ?_
  refine W.cond (fun ht11=>?_) (fun ht11=>?_)
  ·refine Z1 ?_;refine Z3 ?_;refine Z51 ?_;exact K.fin (V.one V.tmp) ⟨by rw [jo hx hx3 (by simpa using ht11)],rfl⟩
  refine Va ?_;refine L1 ?_;exact K.lpN (x+1) (jp hx hx3 (by simpa using ht11)) (by omega) (StCut.of_eq (by simp))
 have hx3:3≤x:=by simp at ht5;omega
 refine Z87 ?_;refine Z40 ?_;exact K.fin (V.one V.tmp) ⟨by rw [jq hx hx3],rfl⟩

def Th (c:UInt8):Str:=if c=39 then [39,39] else [c]
def J9 (t:Str):Str:=t.flatMap Th
theorem Ti:∀t:Str,(J9 t).length≤2*t.length
 | []=>Nat.le_refl _
 | c::r=>by
  have:=Ti r
  unfold J9 at this ⊢
  rw [List.flatMap_cons,List.length_append,List.length_cons]
  have h:(Th c).length≤2:=by unfold Th;split<;>simp
  omega
theorem La (c:UInt8) (r:Str):J9 (c::r)=Th c++J9 r:=by unfold J9;rw [List.flatMap_cons]
theorem Xa:∀s:Str,(Lib.index s [39] = -1∧J9 s=s)∨∃i:Nat,Lib.index s [39]=(i:Int)∧i<s.length∧J9 s=s.take i++[39,39]++J9 (s.drop (i+1))
 | []=>.inl ⟨rfl,rfl⟩
 | b::l=>by
  by_cases hb:b=39
  ·subst hb
   refine .inr ⟨0,by simp [Lib.index,List.isPrefixOf],by simp,?_⟩
   rw [La]
   simp [Th]
  have hp:([39]:Str).isPrefixOf (b::l)=false:=by
   simp [List.isPrefixOf,Ne.symm hb]
  have hd:J9 (b::l)=b::J9 l:=by
   rw [La,Th,if_neg hb]
   rfl
  rcases Xa l with ⟨h1,h2⟩|⟨i,h1,h2,h3⟩
  ·refine .inl ⟨?_,by rw [hd,h2]⟩
   rw [Lib.index,hp,h1];rfl
  refine .inr ⟨i+1,?_,by simp;omega,?_⟩
  ·rw [Lib.index,hp,h1,if_neg (by simp),if_neg (by simp)]
   rfl
  rw [hd,h3]
  simp
theorem Kg:∀(n:Nat) (s:Str),s.length≤n→Lib.replaceK [39] [39,39] (Lib.count s [39]) s=J9 s
 | n,s,hn=>by
  rcases Xa s with ⟨h1,h2⟩|⟨i,h1,h2,h3⟩
  ·rw [Lib.count_miss h1,h2];rfl
  cases n with
  | zero=>omega
  | succ n =>
   rw [Lib.count_hit (by decide) h1,Nat.add_comm,Lib.replaceK_hit _ _ _ _ i h1]
   have e:i+([39]:Str).length=i+1:=rfl
   rw [e,Kg n (s.drop (i+1)) (by rw [List.length_drop];omega),h3]
theorem M4 (s:Str):Lib.replaceAll s [39] [39,39]=J9 s:=by
 unfold Lib.replaceAll Lib.replace
 rw [if_neg (by decide)]
 have e:Lib.replaceNum s [39] (-1)=Lib.count s [39]:=by unfold Lib.replaceNum;rw [if_pos (.inl (by decide))]
 rw [e]
 exact Kg _ s (Nat.le_refl _)
def Xb (t:Tok):Str:=if t.kind=4 then [39]++J9 t.text++[39] else t.text
theorem W8 {q:Str} (h0:q.headD 0=39) (h1:1≤q.length) (h:(Cj q).2=0):[39]++J9 (Cj q).1.s++[39]=q:=by
 cases q with
 | nil=>simp at h1
 | cons c r =>
  have hc:c=39:=h0
  subst hc
  unfold Cj at h ⊢
  have n1:((39::r:Str)==[110,117,108,108])=false:=by rw [beq_eq_false_iff_ne];intro e;injection e with e;exact absurd e (by decide)
  have n2:((39::r:Str)==[116,114,117,101])=false:=by rw [beq_eq_false_iff_ne];intro e;injection e with e;exact absurd e (by decide)
  have n3:((39::r:Str)==[102,97,108,115,101])=false:=by rw [beq_eq_false_iff_ne];intro e;injection e with e;exact absurd e (by decide)
  rw [n1,n2,n3] at h ⊢
  simp only [Bool.false_eq_true,if_false,Bool.or_self] at h ⊢
  by_cases hq:Ly (39::r)=true
  ·rw [if_pos hq] at h ⊢
   unfold T3 at h ⊢
   split at h
   ·exact absurd h (show ¬(7:Int)=0 by decide)
   rename_i hp
   rw [if_neg hp]
   have hp':Dp (Nk (39::r))=39::r:=by simpa using hp
   have hk:(Nk (39::r)).kind=2:=rfl
   show [39]++J9 (Nk (39::r)).s++[39]=39::r
   generalize Nk (39::r)=v at hp' hk
   have hne:Dp v≠[]:=by rw [hp'];simp
   rw [←hp']
   unfold Dp at hne ⊢
   split at hne
   ·exact absurd rfl hne
   rename_i hpl
   rw [if_neg hpl,hk,if_neg (by decide),if_pos (by decide),M4]
  rw [if_neg hq] at h
  have hd:El (39::r)=true:=by
   unfold El
   have e:Lv (39::r)=39::r:=by
    rcases Lw (39::r) with ⟨_,h4⟩|⟨r',h3,_⟩
    ·exact h4
    injection h3 with h3;exact absurd h3 (by decide)
   rw [e]
   have:(Lib.trimS (39::r) digs==[])=false:=by
    rw [beq_eq_false_iff_ne]
    intro e
    rw [Pn] at e
    exact absurd (e 39 (by simp)) (by decide)
   rw [this]
   simp
  have hn:C4 (39::r)=(0,6):=by unfold C4;rw [if_pos hd]
  rw [hn] at h
  simp at h
theorem Pc (s:Str) (m:Nat):s.take (s.take m).length=s.take m:=by
 rw [List.length_take]
 rcases Nat.le_total m s.length with h|h
 ·rw [Nat.min_eq_left h]
 rw [Nat.min_eq_right h,List.take_of_length_le (Nat.le_refl _),List.take_of_length_le h]
theorem If (s of:Str):s.take (Aq s of).length=Aq s of:=by
 unfold Aq
 exact Pc s _
/-- What a word's print spells is what was read. -/
theorem W9 {s:Str} {n p:Nat} (h0:1≤s.length) (he:(Ao s).2.2.2=0) (hn:(Ao s).2.2.1=(n:Int)):Xb ⟨(Ao s).1,(Ao s).2.1,p⟩=s.take n:=by
 cases s with
 | nil=>simp at h0
 | cons c r =>
  unfold Ao at he hn ⊢
  by_cases c1:decide (0<Gu ((c::r).take 1) letters)=true
  ·rw [if_pos c1] at he hn
   simp only [if_pos c1]
   unfold Gf at he hn ⊢
   by_cases r1:D6 (Aq (c::r) tails)=true
   ·rw [if_pos r1] at hn
    simp only [if_pos r1]
    have hn':(((Aq (c::r) tails).length:Nat):Int)=n:=hn
    have e:n=(Aq (c::r) tails).length:=by omega
    rw [e,If]
    rfl
   rw [if_neg r1] at he hn
   simp only [if_neg r1]
   by_cases r2:(!C0 (Aq (c::r) tails))=true
   ·rw [if_pos r2] at he;exact absurd he (show ¬(3:Int)=0 by decide)
   rw [if_neg r2] at hn
   simp only [if_neg r2]
   have hn':(((Aq (c::r) tails).length:Nat):Int)=n:=hn
   have e:n=(Aq (c::r) tails).length:=by omega
   rw [e,If]
   rfl
  rw [if_neg c1] at he hn
  simp only [if_neg c1]
  by_cases c2:decide (0<Gu ((c::r).take 1) digs)=true
  ·rw [if_pos c2] at he hn
   simp only [if_pos c2]
   have hn':(((Aq (c::r) digs).length:Nat):Int)=n:=hn
   have e:n=(Aq (c::r) digs).length:=by omega
   rw [e,If]
   rfl
  rw [if_neg c2] at he hn
  simp only [if_neg c2]
  by_cases c3:(((((c::r)).getD 0 0).toNat:Int)==39)=true
  ·rw [if_pos c3] at he hn
   simp only [if_pos c3]
   have hc:c=39:=by
    have c3':((c.toNat:Int)==39)=true:=c3
    exact UInt8.toNat_inj.1 (by have:(39:UInt8).toNat=39:=rfl;simp at c3';omega)
   unfold Ev at he hn ⊢
   cases hq:Bc ((c::r).drop 1) with
   | none=>rw [hq] at he;exact absurd he (show ¬(7:Int)=0 by decide)
   | some m =>
    rw [hq] at he hn
    simp only at he hn ⊢
    split at he
    ·exact absurd he (show ¬(3:Int)=0 by decide)
    rename_i hr
    rw [if_neg hr] at hn
    simp only [if_neg hr]
    have hm':(((m+1:Nat)):Int)=n:=hn
    have hm:n=m+1:=by omega
    subst hm
    have hr':(Cj ((c::r).take (m+1))).2=0:=by simpa using hr
    have:=W8 (q:=(c::r).take (m+1)) (by rw [hc];rfl) (by simp) hr'
    unfold Xb
    rw [if_pos rfl]
    exact this
  rw [if_neg c3] at he hn
  simp only [if_neg c3]
  unfold K6 at he hn ⊢
  split at hn
  ·rename_i h2
   simp only [if_pos h2]
   have hn':(2:Int)=n:=hn
   have:n=2:=by omega
   subst this
   rfl
  rename_i h2
  rw [if_neg h2] at he
  simp only [if_neg h2]
  split at hn
  ·rename_i h3
   simp only [if_pos h3]
   have hn':(1:Int)=n:=hn
   have:n=1:=by omega
   subst this
   rfl
  rename_i h3
  rw [if_neg h3] at he
  exact absurd he (show ¬(7:Int)=0 by decide)
theorem Nu {s:Str} (h:(Bv s).2.1=0):1≤(Bv s).1.length∧(Bv s).1.length≤s.length+2:=by
 obtain ⟨_,_,hl⟩:=Kd h
 rw [hl]
 have:=Jm s
 simp
 omega
theorem Xc:∀t:Str,t.length≤(J9 t).length
 | []=>Nat.le_refl _
 | c::r=>by
  have:=Xc r
  rw [La,List.length_append,List.length_cons]
  have h:1≤(Th c).length:=by unfold Th;split<;>simp
  omega
theorem jr (t:Tok):t.text.length≤(Xb t).length:=by
 unfold Xb
 split
 ·have:=Xc t.text
  simp only [List.length_append,List.length_cons,List.length_nil]
  omega
 exact Nat.le_refl _
/-- Words with an end. -/
structure TokEnd (l:List Tok):Prop where
 split:∃L z,l=L++[z]∧z.kind=0∧∀t∈L,t.kind≠0
 texts:∀t∈l,t.text.length≤1048576
theorem TokEnd.pos {l:List Tok} (h:TokEnd l):1≤l.length:=by
 obtain ⟨L,z,rfl,_,_⟩:=h.split
 simp
theorem TokEnd.text {l:List Tok} (h:TokEnd l) (i:Nat):(A2 l i).text.length≤1048576:=by
 unfold A2
 rcases Nat.lt_or_ge i l.length with hi|hi
 ·rw [List.getD_eq_getElem?_getD,List.getElem?_eq_getElem hi]
  exact h.texts _ (List.getElem_mem hi)
 rw [List.getD_eq_getElem?_getD,List.getElem?_eq_none hi]
 exact Nat.zero_le _
theorem js (s:Str) (he:(Ao s).2.2.2=0):(Ao s).1≠0:=by
 revert he
 unfold Ao Gf K4 Ev K6
 repeat' split
 all_goals simp
theorem Tj:∀(f q:Nat) (s:Str),(∀it∈Ck f q s,it.2=0)→∀it∈Ck f q s,it.1.kind≠0∧it.1.text.length≤s.length
 | 0,_,_,_,it,hm=>by cases hm
 | f+1,q,s,h,it,hm=>by
  by_cases hs:s=[]
  ·subst hs;cases hm
  obtain ⟨n,h1,h2⟩:=Ie (f:=f) (q:=q) hs
  rw [h1] at hm h
  have h0:(Ao s).2.2.2=0:=h (⟨(Ao s).1,(Ao s).2.1,q⟩,(Ao s).2.2.2) (List.mem_cons_self ..)
  obtain ⟨hn,hn1,hn2⟩:=h2 h0
  rw [if_pos h0] at hm h
  rcases List.mem_cons.1 hm with rfl|hm
  ·refine ⟨js s h0,?_⟩
   have hs1:1≤s.length:=by cases s with|nil=>exact absurd rfl hs|cons c r=>simp
   have:=W9 (p:=q) hs1 h0 hn
   have h3:=jr ⟨(Ao s).1,(Ao s).2.1,q⟩
   rw [this] at h3
   simp only [List.length_take] at h3
   show (Ao s).2.1.length≤s.length
   omega
  have:=Tj f _ _ (fun it hit=>h it (List.mem_cons_of_mem _ hit)) it hm
  simp only [List.length_drop] at this
  exact ⟨this.1,by omega⟩
theorem Mr {s:Str} (h:(Bv s).2.1=0):TokEnd (Bv s).1:=by
 by_cases h4:4000<s.length
 ·unfold Bv at h
  rw [if_pos h4] at h
  exact dc
 have e:Bv s=((Ai s).map (·.1)++[⟨0,[],s.length⟩],0,0)∧∀it∈Ai s,it.2=0:=by
  unfold Bv at h ⊢
  rw [if_neg h4] at h ⊢
  cases hf:(Ai s).find? (fun it=>it.2 != 0) with
  | none =>
   rw [List.find?_eq_none] at hf
   exact ⟨rfl,fun it hit=>by simpa using hf it hit⟩
  | some it =>
   rw [hf] at h
   have:=List.find?_some hf
   simp only [bne_iff_ne] at this
   exact absurd h this
 obtain ⟨e,hz⟩:=e
 have hnz:=Tj _ _ _ hz
 rw [e]
 refine ⟨⟨_,_,rfl,rfl,fun t ht=>?_⟩,fun t ht=>?_⟩
 ·obtain ⟨it,hit,rfl⟩:=List.mem_map.1 ht
  exact (hnz it hit).1
 rcases List.mem_append.1 ht with ht|ht
 ·obtain ⟨it,hit,rfl⟩:=List.mem_map.1 ht
  have:=(hnz it hit).2
  simp only [List.length_drop] at this
  omega
 have e:t=⟨0,[],s.length⟩:=by simpa using ht
 subst e
 exact Nat.zero_le _
/-- Where a parser of expressions stands: its word, its nest, its fault. -/
structure PS where
 i:Nat
 nest:Nat
 code:Int
 at_:Int
def noV:Val:=⟨0,0,[]⟩
def Ae:Expr:=.mk 0 [] noV []
def Bu (e a:Int) (S:PS):PS:=if S.code==0 then ⟨S.i,S.nest,e,a⟩ else S
def isM (l:List Tok) (of:Str) (S:PS):Bool:=(((A2 l S.i).kind==5) || ((A2 l S.i).kind==2))&&Ff (A2 l S.i).text of
def A3 (S:PS):PS:=⟨S.i+1,S.nest,S.code,S.at_⟩
def Ah (S:PS):PS:=⟨S.i,S.nest+1,S.code,S.at_⟩
def Q0 (S:PS):PS:=⟨S.i,S.nest-1,S.code,S.at_⟩
def Bl (l:List Tok) (s:Str) (S:PS):PS:=if S.code != 0 then S else if ((A2 l S.i).kind != 5) || !((A2 l S.i).text==s) then Bu 8 (A2 l S.i).at_ S else A3 S
/-- What stands one nest deeper. -/
structure Fam where
 ei:PS→Expr×PS
 no:PS→Expr×PS
 ne:PS→Expr×PS
def Af (a:Int) (f:PS→Expr×PS) (S:PS):Expr×PS:=if (S.nest:Int)==30 then (Ae,Bu 18 a S) else ((f (Ah S)).1,Q0 (f (Ah S)).2)
def Cp (t:Str) (x y:Expr):Expr:=.mk 5 t noV [x,y]
def Cx (l:List Tok) (of:Str) (f:PS→Expr×PS):Nat→Expr×PS→Expr×PS
 | 0,r=>r
 | n+1,r=>if (r.2.code==0)&&isM l of r.2 then Cx l of f n (Cp (A2 l r.2.i).text r.1 (f (A3 r.2)).1,(f (A3 r.2)).2) else r
def Cq (l:List Tok) (of:Str) (f:PS→Expr×PS) (S:PS):Expr×PS:=Cx l of f l.length (f S)
def Fv:Str:=[32,44,32]
def argsF (l:List Tok) (f:PS→Expr×PS):Nat→List Expr×PS→List Expr×PS
 | 0,r=>r
 | n+1,r=>if (r.2.code==0)&&isM l Fv r.2 then argsF l f n (r.1++[(f (A3 r.2)).1],(f (A3 r.2)).2) else r
def Dw (l:List Tok) (f:PS→Expr×PS) (S:PS):List Expr×PS:=argsF l f l.length ([(f S).1],(f S).2)
def Dx (l:List Tok) (a:Int) (f:PS→Expr×PS) (S:PS):List Expr×PS:=if (S.nest:Int)==30 then ([],Bu 18 a S) else ((Dw l f (Ah S)).1,Q0 (Dw l f (Ah S)).2)
def C7:Str:=[41]
def Ar (l:List Tok) (D:Fam) (S:PS):List Expr×PS:=Dx l (A2 l S.i).at_ D.ei (A3 S)
def D0 (l:List Tok) (D:Fam) (t:Tok) (S:PS):Expr×PS:=
 if Az t.text<0 then (Ae,Bu 9 t.at_ S)
 else if ((Bl l C7 (Ar l D S).2).code==0) && !(((Ar l D S).1.length:Int)==Az t.text) then (Ae,Bu 8 t.at_ (Bl l C7 (Ar l D S).2))
 else (.mk 6 t.text noV (Ar l D S).1,Bl l C7 (Ar l D S).2)
def orT:Str:=[32,111,114,32]
def Zs:Str:=[32,97,110,100,32]
def jt:Str:=[32,110,111,116,32]
def Rn:Str:=[32,61,32,33,61,32,60,32,60,61,32,62,32,62,61,32]
def Zt:Str:=[32,43,32,45,32,38,32]
def Q3:Str:=[32,42,32,47,32,37,32]
def ju:Str:=[32,45,32]
def opT:Str:=[32,40,32]
def Wa:Str:=[32,116,114,117,101,32,102,97,108,115,101,32,110,117,108,108,32]
def F4 (v:Val):Expr:=.mk 1 [] v []
def Cr (l:List Tok) (D:Fam) (S:PS):Expr×PS:=
 if S.code != 0 then (Ae,S)
 else if ((A2 l S.i).kind==3) || isM l Wa S then (F4 (Cj (A2 l S.i).text).1,A3 S)
 else if (A2 l S.i).kind==4 then (F4 ⟨2,0,(A2 l S.i).text.take 200⟩,A3 S)
 else if (A2 l S.i).kind==1 then (if isM l opT (A3 S) then D0 l D (A2 l S.i) (A3 S) else (Bk (A2 l S.i).text,A3 S))
 else if isM l opT S then ((Af (A2 l S.i).at_ D.ei (A3 S)).1,Bl l C7 (Af (A2 l S.i).at_ D.ei (A3 S)).2)
 else (Ae,Bu 8 (A2 l S.i).at_ S)
def Cc (op:Int) (x:Expr):Expr:=.mk op [] noV [x]
def Gj (l:List Tok) (D:Fam) (S:PS):Expr×PS:=if !isM l ju S then Cr l D S else (Cc 3 (Af (A2 l S.i).at_ D.ne (A3 S)).1,(Af (A2 l S.i).at_ D.ne (A3 S)).2)
def Nv (l:List Tok) (D:Fam):PS→Expr×PS:=Cq l Q3 (Gj l D)
def Au (l:List Tok) (D:Fam):PS→Expr×PS:=Cq l Zt (Nv l D)
def Bo (l:List Tok) (D:Fam) (S:PS):Expr×PS:=
 if ((Au l D S).2.code != 0) || !isM l Rn (Au l D S).2 then Au l D S
 else (Cp (A2 l (Au l D S).2.i).text (Au l D S).1 (Au l D (A3 (Au l D S).2)).1,(Au l D (A3 (Au l D S).2)).2)
def Gk (l:List Tok) (D:Fam) (S:PS):Expr×PS:=if !isM l jt S then Bo l D S else (Cc 4 (Af (A2 l S.i).at_ D.no (A3 S)).1,(Af (A2 l S.i).at_ D.no (A3 S)).2)
def Nw (l:List Tok) (D:Fam):PS→Expr×PS:=Cq l Zs (Gk l D)
def Fh (l:List Tok) (D:Fam):PS→Expr×PS:=Cq l orT (Nw l D)
def B4 (l:List Tok):Nat→Fam
 | 0=>⟨fun S=>(Ae,S),fun S=>(Ae,S),fun S=>(Ae,S)⟩
 | d+1=>⟨Fh l (B4 l d),Gk l (B4 l d),Gj l (B4 l d)⟩

/-! What is so of them. -/
theorem Ed:∀{n m:Nat},n≤m→∀{e:Expr},okE n e→okE m e
 | 0,_,_,_,h=>h.elim
 | n+1,0,h,_,_=>by omega
 | n+1,m+1,h,_,ho=>⟨ho.1,ho.2.1,fun y hy=>Ed (by omega) (ho.2.2 y hy)⟩
theorem Nx:sizeE Ae=1:=rfl
theorem Zu (t:Str) (a b:Expr):sizeE (Cp t a b)=1+(sizeE a+(sizeE b+0)):=by rw [Cp,sizeE,Cb,Cb,Cb]
theorem Zv (o:Int) (a:Expr):sizeE (Cc o a)=1+(sizeE a+0):=by rw [Cc,sizeE,Cb,Cb]
theorem Q4:∀a b:List Expr,Cb (a++b)=Cb a+Cb b
 | [],b=>by rw [List.nil_append,Cb,Nat.zero_add]
 | e::r,b=>by rw [List.cons_append,Cb,Cb,Q4 r b,Nat.add_assoc]
theorem Tk {n:Nat} (h:1≤n):okE n Ae:=Ed h ⟨by decide,by decide,fun y hy=>by cases hy⟩
theorem Xd {n:Nat} (h:1≤n) (v:Val):okE n (F4 v):=Ed h ⟨by simp [F4,Expr.text],by simp [F4,Expr.kids],fun y hy=>by cases hy⟩
structure Fact (l:List Tok) (S:PS) (r:Expr×PS):Prop where
 le:S.i≤r.2.i
 lt:r.2.i<l.length
 nest:r.2.nest=S.nest
 ok:okE (2*(r.2.i-S.i)+1) r.1
 sz:sizeE r.1≤2*(r.2.i-S.i)+1
def Bf (l:List Tok) (n:Nat) (f:PS→Expr×PS):Prop:=∀S,S.i<l.length→S.nest=n→Fact l S (f S)
theorem TokEnd.step {l:List Tok} (h:TokEnd l) {i:Nat} (hi:i<l.length) (hk:(A2 l i).kind≠0):i+1<l.length:=by
 obtain ⟨L,z,rfl,hz,_⟩:=h.split
 rcases Nat.lt_or_ge i L.length with h1|h1
 ·simp only [List.length_append,List.length_cons,List.length_nil];omega
 have:i=L.length:=by simp only [List.length_append,List.length_cons,List.length_nil] at hi;omega
 subst this
 exact absurd (by unfold A2;simpa using hz) hk
theorem ej {l:List Tok} {of:Str} {S:PS} (h:isM l of S=true):(A2 l S.i).kind≠0:=by
 unfold isM at h
 simp only [Bool.and_eq_true,Bool.or_eq_true,beq_iff_eq] at h
 omega
theorem TokEnd.stepIs {l:List Tok} (h:TokEnd l) {of:Str} {S:PS} (hi:S.i<l.length) (hk:isM l of S=true):(A3 S).i<l.length:=h.step hi (ej hk)
theorem failM_i {e a:Int} {S:PS}:(Bu e a S).i=S.i∧(Bu e a S).nest=S.nest:=by unfold Bu;split<;>exact ⟨rfl,rfl⟩
theorem Xe {l:List Tok} (hl:TokEnd l) {s:Str} {S:PS} (hi:S.i<l.length):S.i≤(Bl l s S).i∧(Bl l s S).i<l.length∧(Bl l s S).nest=S.nest:=by
 unfold Bl
 split
 ·exact ⟨Nat.le_refl _,hi,rfl⟩
 split
 ·rw [failM_i.1,failM_i.2];exact ⟨Nat.le_refl _,hi,rfl⟩
 rename_i h
 simp only [Bool.or_eq_true,bne_iff_ne,ne_eq,not_or,Classical.not_not] at h
 have:=hl.step hi (by rw [h.1];decide)
 exact ⟨Nat.le_succ _,this,rfl⟩
theorem Kh {l:List Tok} {S S0:PS} (h0:S0.i≤S.i) (h1:S.i<l.length) (h2:S.nest=S0.nest) (e a:Int):Fact l S0 (Ae,Bu e a S):=by
 refine ⟨?_,?_,?_,Tk (by omega),by rw [Nx];omega⟩
 ·show _≤(Bu e a S).i;rw [failM_i.1];exact h0
 ·show (Bu e a S).i<_;rw [failM_i.1];exact h1
 show (Bu e a S).nest=_;rw [failM_i.2];exact h2
/-- A state of a loop of marks. -/
structure LeftAt (l:List Tok) (of:Str) (f:PS→Expr×PS) (S:PS) (r:Expr×PS):Prop where
 fact:Fact l S r
 eq:∃n,l.length≤r.2.i+n∧Cq l of f S=Cx l of f n r
theorem LeftAt.start {l:List Tok} {of:Str} {f:PS→Expr×PS} {S:PS} (h:Fact l S (f S)):LeftAt l of f S (f S):=⟨h,l.length,by omega,rfl⟩
theorem Xf {l:List Tok} {S:PS} {r q:Expr×PS} (h:Fact l S r) (hq:Fact l (A3 r.2) q) (hl:TokEnd l):Fact l S (Cp (A2 l r.2.i).text r.1 q.1,q.2):=by
 have h1:=h.le
 have h2:r.2.i+1≤q.2.i:=hq.le
 refine ⟨by show S.i≤q.2.i;omega,hq.lt,by show q.2.nest=S.nest;rw [hq.nest];exact h.nest,?_,?_⟩
 rotate_left
 ·have s1:=h.sz
  have s2:sizeE q.1≤2*(q.2.i-(r.2.i+1))+1:=hq.sz
  show sizeE (Cp _ r.1 q.1)≤2*(q.2.i-S.i)+1
  rw [Zu]
  omega
 show okE (2*(q.2.i-S.i)+1) _
 refine ⟨hl.text _,by simp [Cp,Expr.kids],fun y hy=>?_⟩
 have hy':y=r.1∨y=q.1:=by simpa [Cp,Expr.kids] using hy
 rcases hy' with rfl|rfl
 ·exact Ed (by omega) h.ok
 exact Ed (by show 2*(q.2.i-(r.2.i+1))+1≤_;omega) hq.ok
theorem LeftAt.on {l:List Tok} {of:Str} {f:PS→Expr×PS} {S:PS} {r:Expr×PS} (hl:TokEnd l) (h:LeftAt l of f S r) (hc:((r.2.code==0)&&isM l of r.2)=true) (hf:Bf l S.nest f):(A3 r.2).i<l.length∧Fact l (A3 r.2) (f (A3 r.2))∧LeftAt l of f S (Cp (A2 l r.2.i).text r.1 (f (A3 r.2)).1,(f (A3 r.2)).2):=by
 have hi:=hl.stepIs h.fact.lt (Bool.and_eq_true_iff.1 hc).2
 have hq:=hf (A3 r.2) hi h.fact.nest
 obtain ⟨n,hn,e⟩:=h.eq
 have h1:=h.fact.lt
 have h2:r.2.i+1≤(f (A3 r.2)).2.i:=hq.le
 obtain ⟨m,rfl⟩:∃m,n=m+1:=⟨n-1,by omega⟩
 refine ⟨hi,hq,Xf h.fact hq hl,m,by show l.length≤(f (A3 r.2)).2.i+m;omega,?_⟩
 rw [e,Cx,if_pos hc]
theorem LeftAt.out {l:List Tok} {of:Str} {f:PS→Expr×PS} {S:PS} {r:Expr×PS} (h:LeftAt l of f S r) (hc:¬((r.2.code==0)&&isM l of r.2)=true):Cq l of f S=r:=by
 obtain ⟨n,hn,e⟩:=h.eq
 have h1:=h.fact.lt
 obtain ⟨m,rfl⟩:∃m,n=m+1:=⟨n-1,by omega⟩
 rw [e,Cx,if_neg hc]
theorem Tl {l:List Tok} {of:Str} {f:PS→Expr×PS} {S:PS} (hl:TokEnd l) (hf:Bf l S.nest f):∀(k:Nat) (r:Expr×PS),l.length-r.2.i≤k→LeftAt l of f S r→Fact l S (Cq l of f S)
 | 0,r,hk,h=>by have:=h.fact.lt;omega
 | k+1,r,hk,h=>by
  by_cases hc:((r.2.code==0)&&isM l of r.2)=true
  ·obtain ⟨h1,h2,h3⟩:=h.on hl hc hf
   have h4:r.2.i+1≤(f (A3 r.2)).2.i:=h2.le
   exact Tl hl hf k _ (by show l.length-(f (A3 r.2)).2.i≤k;have:=h.fact.lt;omega) h3
  rw [h.out hc];exact h.fact
theorem D7 {l:List Tok} {of:Str} {f:PS→Expr×PS} {n:Nat} (hl:TokEnd l) (hf:Bf l n f):Bf l n (Cq l of f):=fun S hi hn=>Tl hl (hn ▸ hf) l.length (f S) (by omega) (.start (hf S hi hn))
theorem Fi {l:List Tok} {f:PS→Expr×PS} {S:PS} (a:Int) (hi:S.i<l.length) (hf:S.nest≠30→Bf l (S.nest+1) f):Fact l S (Af a f S):=by
 unfold Af
 split
 ·exact Kh (Nat.le_refl _) hi rfl _ _
 rename_i h
 have h30:S.nest≠30:=fun e=>h (by rw [e];rfl)
 have:=hf h30 (Ah S) hi rfl
 refine ⟨this.le,this.lt,?_,this.ok,this.sz⟩
 show (f (Ah S)).2.nest-1=S.nest
 rw [this.nest]
 rfl
/-- What is so of some kids. -/
structure KFact (l:List Tok) (S:PS) (r:List Expr×PS):Prop where
 le:S.i≤r.2.i
 lt:r.2.i<l.length
 nest:r.2.nest=S.nest
 len:r.1.length≤r.2.i-S.i+1
 ok:∀y∈r.1,okE (2*(r.2.i-S.i)+1) y
 sz:Cb r.1≤2*(r.2.i-S.i)+1
structure ArgsAt (l:List Tok) (f:PS→Expr×PS) (S:PS) (r:List Expr×PS):Prop where
 fact:KFact l S r
 eq:∃n,l.length≤r.2.i+n∧Dw l f S=argsF l f n r
theorem ArgsAt.start {l:List Tok} {f:PS→Expr×PS} {S:PS} (h:Fact l S (f S)):ArgsAt l f S ([(f S).1],(f S).2):=⟨⟨h.le,h.lt,h.nest,by simp,fun y hy=>by rw [List.mem_singleton.1 hy];exact h.ok,by have:=h.sz;show sizeE (f S).1+0≤_;exact this⟩,l.length,by omega,rfl⟩
theorem ArgsAt.on {l:List Tok} {f:PS→Expr×PS} {S:PS} {r:List Expr×PS} (hl:TokEnd l) (h:ArgsAt l f S r) (hc:((r.2.code==0)&&isM l Fv r.2)=true) (hf:Bf l S.nest f):(A3 r.2).i<l.length∧Fact l (A3 r.2) (f (A3 r.2))∧ArgsAt l f S (r.1++[(f (A3 r.2)).1],(f (A3 r.2)).2):=by
 have hi:=hl.stepIs h.fact.lt (Bool.and_eq_true_iff.1 hc).2
 have hq:=hf (A3 r.2) hi h.fact.nest
 obtain ⟨n,hn,e⟩:=h.eq
 have h1:=h.fact.lt
 have h0:=h.fact.le
 have h2:r.2.i+1≤(f (A3 r.2)).2.i:=hq.le
 obtain ⟨m,rfl⟩:∃m,n=m+1:=⟨n-1,by omega⟩
 refine ⟨hi,hq,⟨by show S.i≤(f (A3 r.2)).2.i;omega,hq.lt,by show (f (A3 r.2)).2.nest=_;rw [hq.nest];exact h.fact.nest,?_,fun y hy=>?_,?_⟩,m,by show l.length≤(f (A3 r.2)).2.i+m;omega,?_⟩
 ·have:=h.fact.len
  show (r.1++_).length≤(f (A3 r.2)).2.i-S.i+1
  simp only [List.length_append,List.length_cons,List.length_nil]
  omega
 ·show okE (2*((f (A3 r.2)).2.i-S.i)+1) y
  rcases List.mem_append.1 hy with hy|hy
  ·exact Ed (by omega) (h.fact.ok y hy)
  rw [List.mem_singleton.1 hy]
  exact Ed (by show 2*((f (A3 r.2)).2.i-(r.2.i+1))+1≤_;omega) hq.ok
 ·have s1:=h.fact.sz
  have s2:sizeE (f (A3 r.2)).1≤2*((f (A3 r.2)).2.i-(r.2.i+1))+1:=hq.sz
  show Cb (r.1++[(f (A3 r.2)).1])≤2*((f (A3 r.2)).2.i-S.i)+1
  rw [Q4,Cb,Cb]
  omega
 rw [e,argsF,if_pos hc]
theorem ArgsAt.out {l:List Tok} {f:PS→Expr×PS} {S:PS} {r:List Expr×PS} (h:ArgsAt l f S r) (hc:¬((r.2.code==0)&&isM l Fv r.2)=true):Dw l f S=r:=by
 obtain ⟨n,hn,e⟩:=h.eq
 have h1:=h.fact.lt
 obtain ⟨m,rfl⟩:∃m,n=m+1:=⟨n-1,by omega⟩
 rw [e,argsF,if_neg hc]
theorem Tm {l:List Tok} {f:PS→Expr×PS} {S:PS} (hl:TokEnd l) (hf:Bf l S.nest f):∀(k:Nat) (r:List Expr×PS),l.length-r.2.i≤k→ArgsAt l f S r→KFact l S (Dw l f S)
 | 0,r,hk,h=>by have:=h.fact.lt;omega
 | k+1,r,hk,h=>by
  by_cases hc:((r.2.code==0)&&isM l Fv r.2)=true
  ·obtain ⟨h1,h2,h3⟩:=h.on hl hc hf
   have h4:r.2.i+1≤(f (A3 r.2)).2.i:=h2.le
   exact Tm hl hf k _ (by show l.length-(f (A3 r.2)).2.i≤k;have:=h.fact.lt;omega) h3
  rw [h.out hc];exact h.fact
theorem Ny {l:List Tok} {f:PS→Expr×PS} {S:PS} (hl:TokEnd l) (hi:S.i<l.length) (hf:Bf l S.nest f):KFact l S (Dw l f S):=Tm hl hf l.length _ (by show l.length-(f S).2.i≤_;omega) (.start (hf S hi rfl))
theorem Nz {l:List Tok} {f:PS→Expr×PS} {S:PS} (hl:TokEnd l) (a:Int) (hi:S.i<l.length) (hf:S.nest≠30→Bf l (S.nest+1) f):KFact l S (Dx l a f S):=by
 unfold Dx
 split
 ·refine ⟨?_,?_,?_,by simp,fun y hy=>(by cases hy),by simp [Cb]⟩
  ·show _≤(Bu _ _ S).i;rw [failM_i.1];exact Nat.le_refl _
  ·show (Bu _ _ S).i<_;rw [failM_i.1];exact hi
  show (Bu _ _ S).nest=_;rw [failM_i.2]
 rename_i h
 have h30:S.nest≠30:=fun e=>h (by rw [e];rfl)
 have:=Ny (S:=Ah S) hl hi (hf h30)
 refine ⟨this.le,this.lt,?_,this.len,this.ok,this.sz⟩
 show (Dw l f (Ah S)).2.nest-1=S.nest
 rw [this.nest]
 rfl
theorem O0 {l:List Tok} {D:Fam} {S:PS} (hl:TokEnd l) (hll:l.length≤1048576) {t:Tok} (ht:t.text.length≤1048576) (hi:(A3 S).i<l.length) (hf:S.nest≠30→Bf l (S.nest+1) D.ei):Fact l S (D0 l D t S):=by
 have hk:KFact l (A3 S) (Ar l D S):=Nz hl _ hi hf
 have h1:S.i+1≤(Ar l D S).2.i:=hk.le
 obtain ⟨w1,w2,w3⟩:=Xe (s:=C7) hl hk.lt
 unfold D0
 split
 ·exact Kh (Nat.le_refl _) (by show S.i<_;have:S.i+1<l.length:=hi;omega) rfl _ _
 split
 ·exact Kh (show S.i≤(Bl l C7 (Ar l D S).2).i by omega) w2 (w3.trans hk.nest) 8 t.at_
 refine ⟨by show S.i≤(Bl l C7 (Ar l D S).2).i;omega,w2,w3.trans hk.nest,?_,?_⟩
 rotate_left
 ·have s1:Cb (Ar l D S).1≤2*((Ar l D S).2.i-(S.i+1))+1:=hk.sz
  show sizeE (.mk 6 t.text noV (Ar l D S).1)≤2*((Bl l C7 (Ar l D S).2).i-S.i)+1
  rw [sizeE]
  omega
 show okE (2*((Bl l C7 (Ar l D S).2).i-S.i)+1) _
 refine ⟨ht,?_,fun y hy=>?_⟩
 ·have h5:(Ar l D S).1.length≤(Ar l D S).2.i-(A3 S).i+1:=hk.len
  have h6:=hk.lt
  show (Ar l D S).1.length≤1048576
  omega
 exact Ed (by show 2*((Ar l D S).2.i-(S.i+1))+1≤_;omega) (hk.ok y hy)
theorem O1 {l:List Tok} {D:Fam} {n:Nat} (hl:TokEnd l) (hll:l.length≤1048576) (hf:n≠30→Bf l (n+1) D.ei):Bf l n (Cr l D):=by
 intro S hi hn
 subst hn
 unfold Cr
 have leaf:∀e:Expr,okE 1 e→sizeE e=1→(A2 l S.i).kind≠0→Fact l S (e,A3 S):=fun e he hs hk=>⟨Nat.le_succ _,hl.step hi hk,rfl,Ed (by omega) he,by show sizeE e≤_;omega⟩
 split
 ·exact ⟨Nat.le_refl _,hi,rfl,Tk (by omega),by show sizeE Ae≤_;rw [Nx];omega⟩
 split
 ·rename_i h
  refine leaf _ (Xd (Nat.le_refl _) _) rfl ?_
  rcases Bool.or_eq_true_iff.1 h with h|h
  ·rw [beq_iff_eq] at h;rw [h];decide
  exact ej h
 split
 ·rename_i h
  rw [beq_iff_eq] at h
  exact leaf _ (Xd (Nat.le_refl _) _) rfl (by rw [h];decide)
 split
 ·rename_i h
  rw [beq_iff_eq] at h
  have hk:(A2 l S.i).kind≠0:=by rw [h];decide
  split
  ·rename_i h2
   have hi1:(A3 S).i<l.length:=hl.step hi hk
   have:=O0 (S:=A3 S) (D:=D) hl hll (hl.text S.i) (hl.stepIs hi1 h2) hf
   have h3:S.i+1≤(D0 l D (A2 l S.i) (A3 S)).2.i:=this.le
   have h4:sizeE (D0 l D (A2 l S.i) (A3 S)).1≤2*((D0 l D (A2 l S.i) (A3 S)).2.i-(S.i+1))+1:=this.sz
   exact ⟨by omega,this.lt,this.nest,Ed (by show 2*((D0 l D (A2 l S.i) (A3 S)).2.i-(S.i+1))+1≤_;omega) this.ok,by omega⟩
  exact leaf _ (ee _ (hl.text _)) rfl hk
 split
 ·rename_i h
  have hi1:(A3 S).i<l.length:=hl.stepIs hi h
  have:=Fi (S:=A3 S) (l:=l) (f:=D.ei) (A2 l S.i).at_ hi1 hf
  obtain ⟨w1,w2,w3⟩:=Xe (s:=C7) hl this.lt
  have h3:S.i+1≤(Af (A2 l S.i).at_ D.ei (A3 S)).2.i:=this.le
  have h4:sizeE (Af (A2 l S.i).at_ D.ei (A3 S)).1≤2*((Af (A2 l S.i).at_ D.ei (A3 S)).2.i-(S.i+1))+1:=this.sz
  refine ⟨by show S.i≤(Bl l C7 _).i;omega,w2,w3.trans this.nest,Ed ?_ this.ok,by show sizeE (Af (A2 l S.i).at_ D.ei (A3 S)).1≤2*((Bl l C7 (Af (A2 l S.i).at_ D.ei (A3 S)).2).i-S.i)+1;omega⟩
  show 2*((Af (A2 l S.i).at_ D.ei (A3 S)).2.i-(S.i+1))+1≤2*((Bl l C7 (Af (A2 l S.i).at_ D.ei (A3 S)).2).i-S.i)+1
  omega
 exact Kh (Nat.le_refl _) hi rfl _ _
theorem Xg {l:List Tok} {S:PS} {r:Expr×PS} (h:Fact l (A3 S) r) (op:Int):Fact l S (Cc op r.1,r.2):=by
 have h1:S.i+1≤r.2.i:=h.le
 refine ⟨by show S.i≤r.2.i;omega,h.lt,h.nest,?_,?_⟩
 rotate_left
 ·have s1:sizeE r.1≤2*(r.2.i-(S.i+1))+1:=h.sz
  show sizeE (Cc op r.1)≤2*(r.2.i-S.i)+1
  rw [Zv]
  omega
 show okE (2*(r.2.i-S.i)+1) _
 refine ⟨by simp [Cc,Expr.text],by simp [Cc,Expr.kids],fun y hy=>?_⟩
 have hy':y=r.1:=by simpa [Cc,Expr.kids] using hy
 subst hy'
 exact Ed (by show 2*(r.2.i-(S.i+1))+1≤_;omega) h.ok
theorem Fl {l:List Tok} {D:Fam} {n:Nat} (hl:TokEnd l) (hll:l.length≤1048576) (hf:n≠30→Bf l (n+1) D.ei) (hg:n≠30→Bf l (n+1) D.ne):Bf l n (Gj l D):=by
 intro S hi hn
 unfold Gj
 split
 ·exact O1 hl hll hf S hi hn
 rename_i h
 subst hn
 exact Xg (Fi (S:=A3 S) _ (hl.stepIs hi (by simpa using h)) hg) 3
theorem Lc {l:List Tok} {D:Fam} {n:Nat} (hl:TokEnd l) (hll:l.length≤1048576) (hf:n≠30→Bf l (n+1) D.ei) (hg:n≠30→Bf l (n+1) D.ne):Bf l n (Au l D):=D7 hl (D7 hl (Fl hl hll hf hg))
theorem Jd {l:List Tok} {D:Fam} {n:Nat} (hl:TokEnd l) (hll:l.length≤1048576) (hf:n≠30→Bf l (n+1) D.ei) (hg:n≠30→Bf l (n+1) D.ne):Bf l n (Bo l D):=by
 intro S hi hn
 have h1:=Lc hl hll hf hg S hi hn
 unfold Bo
 split
 ·exact h1
 rename_i h
 simp only [Bool.or_eq_true,not_or,Bool.not_eq_true,Bool.not_eq_false'] at h
 exact Xf h1 (Lc hl hll hf hg _ (hl.stepIs h1.lt h.2) (h1.nest.trans hn)) hl
theorem Gz {l:List Tok} {D:Fam} {n:Nat} (hl:TokEnd l) (hll:l.length≤1048576) (hf:n≠30→Bf l (n+1) D.ei) (hg:n≠30→Bf l (n+1) D.ne) (hh:n≠30→Bf l (n+1) D.no):Bf l n (Gk l D):=by
 intro S hi hn
 unfold Gk
 split
 ·exact Jd hl hll hf hg S hi hn
 rename_i h
 subst hn
 exact Xg (Fi (S:=A3 S) _ (hl.stepIs hi (by simpa using h)) hh) 4
theorem H0 {l:List Tok} (hl:TokEnd l) (hll:l.length≤1048576):∀(d n:Nat),n+d=31→n≠31→Bf l n (B4 l d).ei∧Bf l n (B4 l d).no∧Bf l n (B4 l d).ne
 | 0,n,h,h2=>by omega
 | d+1,n,h,_=>by
  have ih:n≠30→_:=fun h30=>H0 hl hll d (n+1) (by omega) (by omega)
  have hn:=Gz (D:=B4 l d) (n:=n) hl hll (fun h=>(ih h).1) (fun h=>(ih h).2.2) (fun h=>(ih h).2.1)
  exact ⟨D7 hl (D7 hl hn),hn,Fl hl hll (fun h=>(ih h).1) (fun h=>(ih h).2.2)⟩
mutual
def depthE:Expr→Nat
 | .mk _ _ _ k=>Ig k+1
def Ig:List Expr→Nat
  | []=>0
  | e::r=>max (depthE e) (Ig r)
 end
mutual
def Ci (p:Expr→Bool):Expr→Bool
 | .mk o t v k=>p (.mk o t v k)&&Tn p k
def Tn (p:Expr→Bool):List Expr→Bool
  | []=>true
  | e::r=>Ci p e&&Tn p r
 end
mutual
def O2:Expr→List Expr
 | .mk o t v k=>.mk o t v k::Ld k
def Ld:List Expr→List Expr
  | []=>[]
  | e::r=>O2 e++Ld r
 end
theorem Q5 (e:Expr):depthE e=Ig e.kids+1:=by cases e;rfl
theorem E0 (p:Expr→Bool) (e:Expr):Ci p e=(p e&&Tn p e.kids):=by cases e;rfl
theorem Ee (p:Expr→Bool):∀l:List Expr,Tn p l=true↔∀y∈l,Ci p y=true
 | []=>by simp [Tn]
 | e::r=>by rw [Tn,Bool.and_eq_true,Ee p r];simp
mutual
theorem Dr:∀(d:Int) (e:Expr),(An d e).length=sizeE e
 | d,.mk o t v k=>by rw [An,sizeE,List.length_cons,O3 (d+1) k,Nat.add_comm]
theorem O3:∀(d:Int) (l:List Expr),(Aj d l).length=Cb l
  | d,[]=>rfl
  | d,e::r=>by rw [Aj,Cb,List.length_append,Dr d e,O3 d r]
 end
mutual
theorem O4:∀(d:Int) (e:Expr),(An d e).map (·.2)=O2 e
 | d,.mk o t v k=>by rw [An,O2,List.map_cons,O5 (d+1) k]
theorem O5:∀(d:Int) (l:List Expr),(Aj d l).map (·.2)=Ld l
  | d,[]=>rfl
  | d,e::r=>by rw [Aj,Ld,List.map_append,O4 d e,O5 d r]
 end
mutual
theorem Q6 (p:Expr→Bool):∀e:Expr,(O2 e).all p=Ci p e
 | .mk o t v k=>by rw [O2,Ci,List.all_cons,O6 p k]
theorem O6 (p:Expr→Bool):∀l:List Expr,(Ld l).all p=Tn p l
  | []=>rfl
  | e::r=>by rw [Ld,Tn,List.all_append,Q6 p e,O6 p r]
 end
theorem Zw (p:Expr→Bool) (d:Int) (e:Expr):((An d e).all fun it=>p it.2)=Ci p e:=by
 rw [←Q6 p e,←O4 d e,List.all_map]
 rfl
def D3 (m:Int) (L:List (Int×Expr)):Int:=L.foldl (fun m it=>max m it.1) m
mutual
theorem O7:∀(d m:Int) (e:Expr),D3 m (An d e)=max m (d-1+depthE e)
 | d,m,.mk o t v k=>by
  rw [An,depthE]
  show D3 (max m d) (Aj (d+1) k)=_
  rw [O8 (d+1) (max m d) k (by omega)]
  omega
theorem O8:∀(d m:Int) (l:List Expr),d-1≤m→D3 m (Aj d l)=max m (d-1+Ig l)
  | d,m,[],h=>by
    rw [Aj,Ig]
    show m=_
    omega
  | d,m,e::r,h=>by
    rw [Aj,Ig]
    unfold D3
    rw [List.foldl_append]
    show D3 (D3 m (An d e)) (Aj d r)=_
    rw [O7 d m e,O8 d _ r (by omega)]
    omega
 end
theorem M5 (e:Expr):D3 0 (An 1 e)=depthE e:=by rw [O7];omega
theorem To:∀(L:List (Int×Expr)) (m b:Int),m≤b→(D3 m L≤b↔∀it∈L,it.1≤b)
 | [],m,b,h=>by simp [D3,h]
 | it::r,m,b,h=>by
  show D3 (max m it.1) r≤b↔_
  rcases Decidable.em (it.1≤b) with h1|h1
  ·rw [To r (max m it.1) b (by omega)]
   simp [h1]
  constructor
  ·intro h2
   have:∀(r:List (Int×Expr)) (m:Int),m≤D3 m r:=by
    intro r
    induction r with
    | nil=>intro m;exact Int.le_refl _
    | cons a r ih=>intro m;have:=ih (max m a.1);show m≤D3 (max m a.1) r;omega
   have:=this r (max m it.1)
   omega
  intro h2
  exact absurd (h2 it (by simp)) h1
theorem jv (e:Expr) {b:Nat}:(∀it∈An 1 e,it.1≤(b:Int))↔depthE e≤b:=by
 rw [←To (An 1 e) 0 b (by omega),M5]
 omega
def Cm (e:Expr):Bool:=(decide (depthE e≤30)&&decide (sizeE e≤300))&&Ci Bj e
theorem Hi (e:Expr):B0 e=Cm e:=by
 have hpos:1≤sizeE e:=by rw [K9];omega
 rw [Bool.eq_iff_iff]
 unfold B0 Cm
 rw [List.all_eq_true]
 simp only [Bool.and_eq_true,decide_eq_true_eq,List.mem_range,Dr]
 rw [←jv e,←Zw Bj 1 e,List.all_eq_true]
 constructor
 ·intro h
  have key:∀(k:Nat) (hk:k<(An 1 e).length),Bj (An 1 e)[k].2=true∧(An 1 e)[k].1≤30∧(k:Int)+1≤300:=fun k hk=>by
   have:=h k (by rw [Dr] at hk;exact hk)
   rw [Rk (List.getElem?_eq_getElem hk)] at this
   simp only [Bool.not_eq_true',Bool.or_eq_false_iff,Bool.not_eq_false',decide_eq_false_iff_not] at this
   exact ⟨this.1.1,by have:=this.1.2;omega,by have:=this.2;omega⟩
  refine ⟨⟨fun it hit=>?_,?_⟩,fun it hit=>?_⟩
  ·obtain ⟨k,hk,rfl⟩:=List.getElem_of_mem hit
   exact (key k hk).2.1
  ·have:=(key (sizeE e-1) (by rw [Dr];omega)).2.2
   omega
  obtain ⟨k,hk,rfl⟩:=List.getElem_of_mem hit
  exact (key k hk).1
 rintro ⟨⟨h1,h2⟩,h3⟩ k hk
 have hk':k<(An 1 e).length:=by rw [Dr];exact hk
 rw [Rk (List.getElem?_eq_getElem hk')]
 have a1:=h1 _ (List.getElem_mem hk')
 have a3:=h3 _ (List.getElem_mem hk')
 have a3':Bj (An 1 e)[k].2=true:=a3
 rw [a3']
 simp only [Bool.not_eq_true',Bool.or_eq_false_iff,Bool.not_true,decide_eq_false_iff_not]
 exact ⟨⟨trivial,by have:(An 1 e)[k].1≤(30:Int):=a1;omega⟩,by omega⟩
/-- Its number is one of 64 bits. -/
def Eo (e:Expr):Bool:=decide (-9223372036854775808≤e.val.n)&&decide (e.val.n≤9223372036854775807)
/-! Names. -/
mutual
def mu (s:Str) (y:Expr):Expr→Expr
 | .mk o t v k=>if (o==2)&&(t==s) then y else .mk o t v (jx s y k)
def jx (s:Str) (y:Expr):List Expr→List Expr
  | []=>[]
  | e::r=>mu s y e::jx s y r
 end
mutual
def eqE:Expr→Expr→Bool
 | .mk o t v k,.mk o' t' v' k'=>((((o==o')&&(t==t'))&&((v.kind==v'.kind&&v.n==v'.n)&&v.s==v'.s)))&&eqL k k'
def eqL:List Expr→List Expr→Bool
  | [],[]=>true
  | e::r,e'::r'=>eqE e e'&&eqL r r'
  | _,_=>false
 end
theorem ek (x y:Expr):eqE x y=((((x.op==y.op)&&(x.text==y.text))&&((x.val.kind==y.val.kind&&x.val.n==y.val.n)&&x.val.s==y.val.s))&&eqL x.kids y.kids):=by
 cases x;cases y;rw [eqE];rfl
mutual
theorem Ro:∀x y:Expr,eqE x y=true↔x=y
 | .mk o t v k,.mk o' t' v' k'=>by
  rw [eqE]
  simp only [Bool.and_eq_true,beq_iff_eq,G8 k k',Expr.mk.injEq]
  constructor
  ·rintro ⟨⟨⟨rfl,rfl⟩,⟨h1,h2⟩,h3⟩,rfl⟩
   refine ⟨rfl,rfl,?_,rfl⟩
   cases v;cases v'
   simp_all
  rintro ⟨rfl,rfl,rfl,rfl⟩
  exact ⟨⟨⟨rfl,rfl⟩,⟨rfl,rfl⟩,rfl⟩,rfl⟩
theorem G8:∀x y:List Expr,eqL x y=true↔x=y
  | [],[]=>by simp [eqL]
  | [],e::r=>by simp [eqL]
  | e::r,[]=>by simp [eqL]
  | e::r,e'::r'=>by rw [eqL,Bool.and_eq_true,Ro e e',G8 r r',List.cons.injEq]
 end
theorem jy:∀{x y:List Expr},eqL x y=true→x.length=y.length:=fun h=>by rw [(G8 _ _).1 h]
theorem O9 (x:Expr):eqE x x=true:=(Ro x x).2 rfl
/-! A node by itself, and marks. -/
theorem Hj {of:Str} {ws:List Str} (h:of=Gi ws) (hp:∀w∈ws,(32:UInt8)∉w) (s:Str):Ff s of=(!(s==[])&&ws.contains s):=by
 unfold Ff
 rw [Te]
 cases hb:s.contains 32 with
 | false =>
  have h2:(32:UInt8)∉s:=by simpa using hb
  rw [h,Fu s h2 ws hp,Bool.not_false,Bool.and_true]
  congr 1
  rw [List.contains_eq_any_beq]
  congr 1
  funext w
  rw [Bool.eq_iff_iff,beq_iff_eq,beq_iff_eq]
  exact eq_comm
 | true =>
  have h2:(32:UInt8)∈s:=by simpa using hb
  have h3:ws.contains s=false:=by
   rw [Bool.eq_false_iff]
   intro h4
   exact hp s (by simpa using h4) h2
  rw [h3]
  simp
def levels:List (List Str):=[[[111,114]],[[97,110,100]],[],[[61],[33,61],[60],[60,61],[62],[62,61]],[[43],[45],[38]],[[42],[47],[37]]]
def Ag (s:Str):Int:=match levels.findIdx? (fun l=>l.contains s) with|some i=>i|none => -1
def Lf:List Str:=[[111,114],[],[97,110,100],[],[61],[33,61],[60],[60,61],[62],[62,61],[],[43],[45],[38],[],[42],[47],[37]]
theorem Wb:J2=Gi Lf:=by kernel_rfl
theorem Tp:∀w∈Lf,(32:UInt8)∉w:=by decide
theorem Wc (s:Str):Ff s J2=decide (0≤Ag s):=by
 rw [Hj Wb Tp s]
 have h1:decide (0≤Ag s)=levels.any (fun l=>l.contains s):=by
  unfold Ag
  cases h:levels.findIdx? (fun l=>l.contains s) with
  | some i =>
   have:levels.any (fun l=>l.contains s)=true:=by
    have:=List.findIdx?_eq_some_iff_getElem.1 h
    obtain ⟨hi,hp,_⟩:=this
    exact List.any_eq_true.2 ⟨_,List.getElem_mem hi,hp⟩
   rw [this]
   simp
  | none =>
   have:=List.findIdx?_eq_none_iff.1 h
   have e:levels.any (fun l=>l.contains s)=false:=by
    rw [List.any_eq_false]
    intro l hl
    rw [this l hl]
    simp
   rw [e]
   rfl
 rw [h1]
 by_cases h0:s=[]
 ·subst h0;rfl
 have:(s==[])=false:=by simpa using h0
 rw [this,Bool.not_false,Bool.true_and]
 simp [levels,Lf,h0,Bool.or_assoc]
def Ki (e:Expr):Bool:=
 if e.op==1 then ((Ce e.val&&decide (0≤e.val.n))&&(e.text==[]))&&((e.kids.length:Int)==0)
 else if !(F1 e.val) then false
 else if e.op==2 then Fc e.text&&((e.kids.length:Int)==0)
 else if e.op==3 || e.op==4 then (e.text==[])&&((e.kids.length:Int)==1)
 else if e.op==5 then decide (0≤Ag e.text)&&((e.kids.length:Int)==2)
 else if e.op==6 then Az e.text==(e.kids.length:Int)
 else false
theorem F5 (e:Expr):Bj e=Ki e:=by
 unfold Bj Ki
 rw [Wc,Hh]
 cases F1 e.val<;>simp
/-! What is wide. -/
/-! What is printed of columns, word by word. -/
def ktT (t:Tok):Int×Str:=(t.kind,t.text)
/-! What is printed of a schema is read. -/
/-! What went and came, taken back: the same columns. -/
set_option maxRecDepth 8000
/-! The signs have as many as the nodes have kids. -/
/-! More columns. -/
/-! A tree in a column's place. -/
set_option maxRecDepth 4000
abbrev pr (l:List Tok) (S:PS):AObj:=.cells 223 [.slice false 3 (l.map Fg),A5 (S.i:Int),A5 (S.nest:Int),A5 S.code,A5 S.at_]
theorem Bg {n:Nat} {l:List Tok} {S:PS}:ObjLow n (pr l S):=by
 show ∀y∈[AV.slice false 3 (l.map Fg),A5 (S.i:Int),A5 (S.nest:Int),A5 S.code,A5 S.at_],Low n y
 intro y hy
 simp only [List.mem_cons,List.not_mem_nil,or_false] at hy
 rcases hy with rfl|rfl|rfl|rfl|rfl
 ·simp [or_imp,forall_and]
 all_goals simp
theorem Tq (o:Int) (t:Str) (v:Val):Le (.agg [A5 o,A8 t,A5 v.kind,A5 v.n,A8 v.s,.nil]) (A6 (.mk o t v [])):=by
 rw [A9]
 refine .agg _ _ rfl (by simp [AV.one,Value.oneCell',sv]) fun i y y' h1 h2=>?_
 match i with
 | 0=>simp at h1 h2;subst h1;subst h2;exact .inl rfl
 | 1=>simp at h1 h2;subst h1;subst h2;exact .inl rfl
 | 2=>simp at h1 h2;subst h1;subst h2;exact .inl rfl
 | 3=>simp at h1 h2;subst h1;subst h2;exact .inl rfl
 | 4=>simp at h1 h2;subst h1;subst h2;exact .inl rfl
 | 5=>simp at h1 h2;subst h1;subst h2;exact .inr ⟨rfl,6,rfl⟩
 | i+6=>simp at h1
theorem Oa:Le (.agg [A5 0,A8 [],A5 0,A5 0,A8 [],.nil]) (A6 Ae):=Tq 0 [] noV
theorem qb (l:List Tok) (S:PS) (o:Nat) (Hp:List AObj) (ho:Hp[o]? = some (pr l S)) (hi:S.i<l.length):AFun Tryz.prog 257 [.ptr o 0] Hp (Fg (A2 l S.i)):=by
 refine ACall.body [.cell 2 59] [0] Tryz.func257 Tryz.ntmps257 (fun d=>?_)
 refine oh ?_;refine Z30 ?_
 refine D.go (h:=Q.loadUp ho) (hr:=?_)
 refine Z30 ?_
 refine D.go (h:=Q.loadUp ho) (hr:=?_)
 refine D.tail ?_
 refine R.go (h:=Q.indexAddr (S.i) (Fg (A2 l S.i)) (fun _=>L8 hi)) (hr:=?_)
 refine R.go ?_;exact Z77

theorem Tr (l:List Tok) (S:PS) (of:Str) (o:Nat) (Hp:List AObj) (ho:Hp[o]? = some (pr l S)) (hi:S.i<l.length) (hl:TokEnd l) (hof:of.length≤1048576):AFun Tryz.prog 244 [.ptr o 0,A8 of] Hp (B2 (isM l of S)):=by
 refine ACall.body [.tmp 4] [0,1] Tryz.func244 Tryz.ntmps244 (fun d=>?_)
 refine Z47 ?_;refine Z95 ?_;refine Z10 ?_;refine R.fin [1,5] ?_;refine Z1 ?_;refine Z19 ?_;refine G.go ?_;refine Z19 ?_;refine G.go ?_;refine G.call Tryz.call144 (fun hB=>q8 (A2 l S.i).text of (hl.text _) hof _) ?_;refine Z0 ?_;exact Z91

theorem el (l:List Tok) (S:PS) (o:Nat) (Hp:List AObj) (ho:Hp[o]? = some (pr l S)) (hi:S.i<l.length) (hll:l.length≤1048576):ACall Tryz.prog 245 [.ptr o 0] Hp (fun r H'=>r=Fg (A2 l S.i)∧H'=Hp.set o (pr l (A3 S))):=by
 refine ACall.body [.cell 2 59] [0] Tryz.func245 Tryz.ntmps245 (fun d=>?_)
 refine Z32 ?_;refine Z95 ?_;refine Z66 ?_;refine Z18 ?_
 refine R.go (h:=Q.loadUp ho) (hr:=?_)
 refine Z9 ?_
 refine R.storeUp jS ho ?_ ?_
 ·simp
 refine Hc ?_;refine Z2 ?_;exact Z77

theorem Zx (l:List Tok) (S:PS) (e a:Int) (o:Nat) (Hp:List AObj) (ho:Hp[o]? = some (pr l S)):ACall Tryz.prog 217 [.ptr o 0,A5 e,A5 a] Hp (fun r H'=>r=A6 Ae∧H'=Hp.set o (pr l (Bu e a S))):=by
 refine ACall.body [.cell 6 69] [0,1,2] Tryz.func217 Tryz.ntmps217 (fun d=>?_)
 refine Z15 ?_;refine Vd ?_;refine Z58 ?_
 refine R.go (h:=Q.loadUp ho) (hr:=?_)
 refine R.go ?_;refine R.fin [0,1,2,6,12] ?_
 refine W.cond (fun ht12=>?_) (fun ht12=>?_)
 ·have e:Bu e a S=⟨S.i,S.nest,e,a⟩:=if_pos ht12
  refine Z28 ?_;refine Zb ?_;refine Z0 ?_
  refine R.storeUp jS ho ?_ ?_
  ·simp
  refine R.fin [6] ?_;refine K.thN ?_;refine Z65 ?_;refine R.wk 19 _ Oa ?_;refine cy ?_;exact K.fin (V.one (V.cellN jA jS)) ⟨rfl,by rw [e]⟩ (hlow:=Ad _ Ae)
 have e:Bu e a S=S:=if_neg (by rw [ht12];simp)
 refine Z6 ?_;refine Z65 ?_;refine R.wk 19 _ Oa ?_;refine cy ?_;exact K.fin (V.one (V.cellN jA jS)) ⟨rfl,by rw [e];exact (Dm ho).symm⟩ (hlow:=Ad _ Ae)

theorem qc (v:Val) (Hp:List AObj):AFun Tryz.prog 272 [Rg v] Hp (A6 (F4 v)):=by
 refine ACall.body [.cell 2 69] [0] Tryz.func272 Tryz.ntmps272 (fun d=>?_)
 refine Z2 ?_;refine R.alloc jZ ?_;refine R.fin [1,2] ?_;refine Z2 ?_;refine de ?_;refine R.wk 4 _ (Tq 1 [] v) ?_;refine Z16 ?_;exact K.fin (V.one (V.cellN jA jS)) ⟨rfl,rfl⟩ (hlow:=Ad _ (F4 v))

theorem qd (l:List Tok) (S:PS) (s:Str) (o:Nat) (Hp:List AObj) (ho:Hp[o]? = some (pr l S)) (hi:S.i<l.length) (hll:l.length≤1048576):ACall Tryz.prog 274 [.ptr o 0,A8 s] Hp (fun r H'=>r=.v (.tuple #[])∧H'=Hp.set o (pr l (Bl l s S))):=by
 refine ACall.body [] [0,1] Tryz.func274 Tryz.ntmps274 (fun d=>?_)
 refine Z58 ?_
 refine R.go (h:=Q.loadUp ho) (hr:=?_)
 refine R.go ?_;refine R.fin [0,1,10] ?_
 refine W.cond (fun ht10=>?_) (fun ht10=>?_)
 ·have e:Bl l s S=S:=if_pos ht10
  refine Z98 ?_;exact K.fin .nores (hp:=⟨rfl,by rw [e];exact (Dm ho).symm⟩)
 have e0:¬(S.code != 0)=true:=by rw [ht10];simp
 refine Z6 ?_;refine Z42 ?_;refine R.call Tryz.call257 (qb l S o _ (A4 ho) hi) ?_;refine Z10 ?_;refine R.fin [0,1,4] ?_;refine Z1 ?_;refine Z34 ?_;refine R.go ?_;refine R.fin [0,4,21] ?_
 refine W.cond (fun ht21=>?_) (fun ht21=>?_)
 ·have e:Bl l s S=Bu 8 (A2 l S.i).at_ S:=by unfold Bl;rw [if_neg e0,if_pos ht21]
  refine ob ?_;refine R.fin [] ?_;refine Z98 ?_;exact K.fin .nores (hp:=⟨rfl,by rw [e]⟩)
 have e:Bl l s S=A3 S:=by unfold Bl;rw [if_neg e0,if_neg (by rw [ht21];simp)]
 refine Z6 ?_;refine Z28 ?_
 refine R.go (h:=Q.loadUp ho) (hr:=?_)
 refine Z9 ?_
 refine R.storeUp jS ho ?_ ?_
 ·simp
 refine R.fin [] ?_;exact K.finN .nores (hp:=⟨rfl,by rw [e];rfl⟩)

/-- The contract of one of the parser's functions. -/
def PC (g:FuncId) (l:List Tok) (f:PS→Expr×PS) (n:Nat):Prop:=∀(o:Nat) (Hp:List AObj) (S:PS),Hp[o]? = some (pr l S)→S.i<l.length→S.nest=n→ACall Tryz.prog g [.ptr o 0] Hp (fun r H'=>r=A6 (f S).1∧H'=Hp.set o (pr l (f S).2))
abbrev Gl:AObj:=.cells 69 [A5 0,A8 [],A5 0,A5 0,A8 [],.nil]
theorem Xh {n:Nat}:ObjLow n Gl:=by
 show ∀y∈[A5 0,A8 [],A5 0,A5 0,A8 [],AV.nil],Low n y
 simp
theorem jz {n:Nat} (e:Expr):ObjLow n (.cells 69 (Db e)):=by
 have h:=Ad n e
 rw [A9] at h
 show ∀y∈Db e,Low n y
 intro y hy
 cases h with
 | agg _ h=>exact h y hy
theorem k7 (l:List Tok) (S:PS) (a:Int) (g:FuncId) (first caps:List AV) (x:Expr) (S2:PS) (o:Nat) (Hp Hx:List AObj) (ho:Hp[o]? = some (pr l S)) (hnl:S.nest≤1048576) (hgc:∀args w,(callFunc g args).run Tryz.prog w=.ok (.enter g args) w) (hxl:Hx.length=Hp.length) (hxo:Hx[o]? = some (pr l S2)) (hn2:S2.nest=S.nest+1) (hlow:(∀y∈Hp.set o (pr l (Ah S)),ObjLow Hp.length y)→∀y∈Hx,ObjLow Hp.length y) (hcf:S.nest≠30→∀own,ACall Tryz.prog g (first++caps) (Hp.set o (pr l (Ah S))++own) (fun y H'=>y=A6 x∧H'=Hx++own)):ACall Tryz.prog 259 [.ptr o 0,A5 a,.fn (.func g) first caps] Hp (fun r H'=>(S.nest=30→r=A6 Ae∧H'=Hp.set o (pr l (Bu 18 a S)))∧(S.nest≠30→r=A6 x∧H'=Hx.set o (pr l (Q0 S2)))):=by
 refine ACall.body [.cell 6 69] [0,1,2] Tryz.func259 Tryz.ntmps259 (fun d=>?_)
 refine Z15 ?_;refine Vd ?_;refine Z48 ?_
 refine R.go (h:=Q.loadUp ho) (hr:=?_)
 refine R.go ?_;refine R.fin [0,1,2,6,12] ?_
 refine W.cond (fun ht12=>?_) (fun ht12=>?_)
 ·have hn30:S.nest=30:=by have:=ht12;simp at this;omega
  refine Z1 ?_;refine R.callUp Tryz.call217 ho (by simp) Bg (Zx l S 18 a o _ (A4 ho)) ?_;refine cy ?_;refine K.thR ?_;exact K.fin (V.one (V.cellN jA jS)) ⟨fun _=>⟨by rw [A9],rfl⟩,fun h=>absurd hn30 h⟩ (hlow:=by have:=Ad Hp.length Ae;rw [A9] at this;simpa using this)
 have hn30:S.nest≠30:=by have:=ht12;simp at this;omega
 refine Sv ?_
 refine R.go (h:=Q.loadUp ho) (hr:=?_)
 refine Z9 ?_
 refine R.storeUp jS ho ?_ ?_
 ·simp
 refine R.fin [0,2,6] ?_;refine Z2 ?_
 refine R.callVX (up':=Hx) (own':=[Gl]) hgc (hcf hn30 [Gl]) (by simpa using hxl) (by rw [List.length_set];exact hlow) ?_
 rw [←hxl]
 refine Z10 ?_;refine R.fin [0,6,7] ?_;refine Z18 ?_
 refine R.go (h:=Q.loadUp hxo) (hr:=?_)
 refine Z9 ?_
 refine R.storeUp jS hxo ?_ ?_
 ·simp
 refine R.fin [6,7] ?_;refine Z2 ?_;refine cy ?_;exact K.fin (V.one (V.cellN jA jS)) ⟨fun h=>absurd h hn30,fun _=>⟨by rw [A9],by rw [show ((S2.nest:Int)-1)=((Q0 S2).nest:Int) by show _=((S2.nest-1:Nat):Int);omega];rfl⟩⟩ (hlow:=by have:=Ad Hx.length x;rw [A9] at this;simpa using this)

theorem Zy (t:Str) (a b:Expr):Db (Cp t a b)=[A5 5,.v (sv t),A5 0,A5 0,A8 [],.slice false 6 [A6 a,A6 b]]:=rfl
theorem k8 {n:Nat} (t:Str) (a b:Expr):ObjLow n (.cells 69 [A5 5,.v (sv t),A5 0,A5 0,A8 [],.slice false 6 [A6 a,A6 b]]):=jz (Cp t a b)
theorem k9 {n:Nat} {U:List AObj} {i:Nat} {x:AObj} (h:∀y∈U,ObjLow n y) (hx:ObjLow n x):∀y∈U.set i x,ObjLow n y:=by
 intro y hy
 rcases List.mem_or_eq_of_mem_set hy with h1|h1
 ·exact h y h1
 rw [h1];exact hx
/-- within, with a method's value. -/
theorem en {g:FuncId} (hgc:∀args w,(callFunc g args).run Tryz.prog w=.ok (.enter g args) w) (l:List Tok) (S:PS) (a:Int) (f:PS→Expr×PS) (o:Nat) (Hp:List AObj) (ho:Hp[o]? = some (pr l S)) (hi:S.i<l.length) (hnl:S.nest≤30) (hf:S.nest≠30→Bf l (S.nest+1) f) (hcf:S.nest≠30→PC g l f (S.nest+1)):
  ACall Tryz.prog 259 [.ptr o 0,A5 a,.fn (.func g) [.ptr o 0] []] Hp (fun r H'=>r=A6 (Af a f S).1∧H'=Hp.set o (pr l (Af a f S).2)):=by
 have hlt:=(List.getElem?_eq_some_iff.1 ho).1
 by_cases h30:S.nest=30
 ·refine (k7 l S a g [.ptr o 0] [] Ae (Ah S) o Hp (Hp.set o (pr l (Ah S))) ho (by omega) hgc (by simp) (by simp [hlt]) rfl (fun h=>h) (fun h=>absurd h30 h)).mono fun r H' h=>?_
  have e:Af a f S=(Ae,Bu 18 a S):=if_pos (by rw [h30];rfl)
  rw [e]
  exact h.1 h30
 have hq:=hf h30 (Ah S) hi rfl
 refine (k7 l S a g [.ptr o 0] [] (f (Ah S)).1 (f (Ah S)).2 o Hp (Hp.set o (pr l (f (Ah S)).2)) ho (by omega) hgc (by simp) (by simp [hlt]) hq.nest (fun h y hy=>?_) (fun _ own=>?_)).mono fun r H' h=>?_
 ·rcases List.mem_or_eq_of_mem_set hy with h1|h1
  ·obtain ⟨i,hi',rfl⟩:=List.getElem_of_mem h1
   by_cases hio:i=o
   ·subst hio
    have:Hp[i]=pr l S:=by rw [List.getElem?_eq_getElem hi'] at ho;injection ho
    rw [this];exact Bg
   refine h _ ?_
   rw [List.mem_iff_getElem?]
   exact ⟨i,by rw [List.getElem?_set_ne (Ne.symm hio),List.getElem?_eq_getElem hi']⟩
  rw [h1];exact Bg
 ·have hg:(Hp.set o (pr l (Ah S))++own)[o]? = some (pr l (Ah S)):=A4 (by simp [hlt])
  refine (hcf h30 o (Hp.set o (pr l (Ah S))++own) (Ah S) hg hi rfl).mono fun r H' h=>⟨h.1,h.2.trans ?_⟩
  rw [List.set_append_left _ _ (by simpa using hlt),List.set_set]
 have e:Af a f S=((f (Ah S)).1,Q0 (f (Ah S)).2):=if_neg (by
  show ¬(((S.nest:Int)==30)=true)
  simp
  omega)
 rw [e]
 obtain ⟨h1,h2⟩:=h.2 h30
 exact ⟨h1,by rw [h2,List.set_set]⟩
theorem ka {g:FuncId} (hgc:∀args w,(callFunc g args).run Tryz.prog w=.ok (.enter g args) w) (l:List Tok) (S:PS) (of:Str) (hof:of.length≤1048576) (f:PS→Expr×PS) (o:Nat) (Hp:List AObj) (ho:Hp[o]? = some (pr l S)) (hi:S.i<l.length) (hl:TokEnd l) (hll:l.length≤1048576) (hf:Bf l S.nest f) (hcf:PC g l f S.nest):ACall Tryz.prog 234 [.ptr o 0,A8 of,.fn (.func g) [.ptr o 0] []] Hp (fun r H'=>r=A6 (Cq l of f S).1∧H'=Hp.set o (pr l (Cq l of f S).2)):=by
 have holt:=(List.getElem?_eq_some_iff.1 ho).1
 refine ACall.body [.cell 6 69] [0,1,2] Tryz.func234 Tryz.ntmps234 (fun d=>?_)
 refine Z15 ?_;refine Vd ?_;refine Z2 ?_;refine R.callVUp hgc ho (by simp) Bg (hcf o _ S (A4 ho) hi rfl) ?_;refine Z10 ?_;refine R.fin [0,1,2,6,7] ?_;refine W.seq ?_
 refine AW.loopC (α:=Expr×PS) (fun r=>⟨32,A7 0 (.ptr o 0) (A7 1 (A8 of) (A7 2 (.fn (.func g) [.ptr o 0] []) (A7 6 (.ptr (oid Hp.length 0) 0) (A7 7 (.ptr (oid Hp.length 1) 0) (fun _=>.any))))),Hp.set o (pr l r.2),[.cells 69 [A5 0,A8 [],A5 0,A5 0,A8 [],.nil],.cells 69 (Db r.1)],[],none⟩) (fun r=>LeftAt l of f S r) (fun r=>l.length-r.2.i) (f S) (.start (hf S hi rfl)) (StLe.of_eq (by simp)) rfl (fun r hx=>?_)
 refine Z58 ?_
 refine R.go (h:=Q.loadUp (getset ho)) (hr:=?_)
 refine Z19 ?_;refine G.call Tryz.call244 (fun hB=>Tr l r.2 of o _ (A4 (getset ho)) hx.fact.lt hl hof) ?_;refine R.go ?_;refine R.fin [0,1,2,6,7,21] ?_
 refine W.cond (fun ht21=>?_) (fun ht21=>?_)
 ·have hon:=hx.on hl ht21 hf
  have hle:=hon.2.1.le
  have hlt0:=hx.fact.lt
  have hU1:(Hp.set o (pr l r.2)).set o (pr l (A3 r.2))=Hp.set o (pr l (A3 r.2)):=List.set_set ..
  refine Z6 ?_;refine AW.block ?_;refine Z2 ?_;refine R.callUp Tryz.call245 (getset ho) (by simp) Bg (el l r.2 o _ (A4 (getset ho)) hx.fact.lt hll) ?_;refine Z10 ?_;refine R.fin [0,1,2,6,7,8] ?_;refine W.drawY0 [0,1,0,0,8,28,63,127] [4] [.q 4 [] [],.s [28] (some 0) [] [],.q 1 [0] []] (fun B=>Hp.set o (if B 0=true then pr l (f (A3 r.2)).2 else pr l (A3 r.2))) (fun _=>[.cells 69 [A5 0,A8 [],A5 0,A5 0,A8 [],.nil],.cells 69 (Db r.1),.cells 59 [A5 (A2 l r.2.i).kind,A8 (A2 l r.2.i).text,A5 (A2 l r.2.i).at_]]) Aa (by kernel_rfl) (by simp [List.set_set]) rfl (fun B=>by simp) ?_
  apply Y.q
  case h1 =>
   intro B hT hF
   exact d8
  case hTF=>decide
  refine Y.callVUp (r:=A6 (f (A3 r.2)).1) (o:=o) (x0:=pr l (A3 r.2)) (x:=pr l (f (A3 r.2)).2) hgc (fun B hT hF hB=>⟨by simp only [hB];exact getset ho,by simp [upd],rfl,Bg,?_⟩) ?_
  ·simp only [hB]
   exact hcf o _ (A3 r.2) (A4 (getset ho)) hon.1 hx.fact.nest
  apply Y.q
  case h1 =>
   intro B hT hF
   exact Z21
  case hTF=>decide
  refine Y.tail (tn:=[4]) (U:=Hp.set o (pr l (f (A3 r.2)).2)) ?_;refine oc ?_;refine R.fin [0,1,2,6,7] ?_;refine K.blN ?_
  refine K.lpN (Cp (A2 l r.2.i).text r.1 (f (A3 r.2)).1,(f (A3 r.2)).2) hon.2.2 (by show l.length-(f (A3 r.2)).2.i<l.length-r.2.i;have:r.2.i+1≤(f (A3 r.2)).2.i:=hle;omega) ?_
  simp only [Zy]
  have hlow2:=fun n=>k8 (n:=n) (A2 l r.2.i).text r.1 (f (A3 r.2)).1
  simp only [A9] at hlow2 ⊢
  exact StCut.take (fun _=>.refl _) (by repeat (first|exact Da|refine D9 (by simp [oid]<;>omega) ?_)) (by intro y hy;rcases List.mem_cons.1 hy with rfl|hy;exact Xh;rw [List.mem_singleton.1 hy];exact hlow2 _) (by simp)
 have hout:=hx.out (by rw [ht21];simp)
 refine Z87 ?_;refine Z2 ?_;refine cy ?_;exact K.fin (V.one (V.cellN jA jS)) ⟨by rw [hout,A9],by rw [hout]⟩ (hlow:=by have:=Ad (Hp.set o (pr l r.2)).length r.1;rw [A9] at this;simpa using this)

theorem sb (l:List Tok) (S:PS) (f:PS→Expr×PS) (o:Nat) (Hp:List AObj) (ho:Hp[o]? = some (pr l S)) (hi:S.i<l.length) (hl:TokEnd l) (hll:l.length≤1048576) (hf:Bf l S.nest f) (hcf:PC 235 l f S.nest):ACall Tryz.prog 215 [.ptr o 0] Hp (fun r H'=>r=A6 (Cq l orT f S).1∧H'=Hp.set o (pr l (Cq l orT f S).2)):=by
 refine ACall.body [.cell 2 69] [0] Tryz.func215 Tryz.ntmps215 (fun d=>?_)
 refine Z32 ?_;refine Z1 ?_;refine R.makeFunc ?_;refine R.callUp Tryz.call234 ho (by simp) Bg (ka Tryz.call235 l S orT (by decide) f o _ (A4 ho) hi hl hll hf hcf) ?_;refine Z16 ?_;exact K.fin (V.one (V.cellN jA jS)) ⟨by rw [A9],rfl⟩ (hlow:=by have:=Ad Hp.length (Cq l orT f S).1;rw [A9] at this;simpa using this)

theorem sc (l:List Tok) (S:PS) (f:PS→Expr×PS) (o:Nat) (Hp:List AObj) (ho:Hp[o]? = some (pr l S)) (hi:S.i<l.length) (hl:TokEnd l) (hll:l.length≤1048576) (hf:Bf l S.nest f) (hcf:PC 246 l f S.nest):ACall Tryz.prog 235 [.ptr o 0] Hp (fun r H'=>r=A6 (Cq l Zs f S).1∧H'=Hp.set o (pr l (Cq l Zs f S).2)):=by
 refine ACall.body [.cell 2 69] [0] Tryz.func235 Tryz.ntmps235 (fun d=>?_)
 refine Z32 ?_;refine Z1 ?_;refine R.makeFunc ?_;refine R.callUp Tryz.call234 ho (by simp) Bg (ka Tryz.call246 l S Zs (by decide) f o _ (A4 ho) hi hl hll hf hcf) ?_;refine Z16 ?_;exact K.fin (V.one (V.cellN jA jS)) ⟨by rw [A9],rfl⟩ (hlow:=by have:=Ad Hp.length (Cq l Zs f S).1;rw [A9] at this;simpa using this)

theorem sd (l:List Tok) (S:PS) (f:PS→Expr×PS) (o:Nat) (Hp:List AObj) (ho:Hp[o]? = some (pr l S)) (hi:S.i<l.length) (hl:TokEnd l) (hll:l.length≤1048576) (hf:Bf l S.nest f) (hcf:PC 269 l f S.nest):ACall Tryz.prog 266 [.ptr o 0] Hp (fun r H'=>r=A6 (Cq l Zt f S).1∧H'=Hp.set o (pr l (Cq l Zt f S).2)):=by
 refine ACall.body [.cell 2 69] [0] Tryz.func266 Tryz.ntmps266 (fun d=>?_)
 refine Z32 ?_;refine Z1 ?_;refine R.makeFunc ?_;refine R.callUp Tryz.call234 ho (by simp) Bg (ka Tryz.call269 l S Zt (by decide) f o _ (A4 ho) hi hl hll hf hcf) ?_;refine Z16 ?_;exact K.fin (V.one (V.cellN jA jS)) ⟨by rw [A9],rfl⟩ (hlow:=by have:=Ad Hp.length (Cq l Zt f S).1;rw [A9] at this;simpa using this)

theorem se (l:List Tok) (S:PS) (f:PS→Expr×PS) (o:Nat) (Hp:List AObj) (ho:Hp[o]? = some (pr l S)) (hi:S.i<l.length) (hl:TokEnd l) (hll:l.length≤1048576) (hf:Bf l S.nest f) (hcf:PC 270 l f S.nest):ACall Tryz.prog 269 [.ptr o 0] Hp (fun r H'=>r=A6 (Cq l Q3 f S).1∧H'=Hp.set o (pr l (Cq l Q3 f S).2)):=by
 refine ACall.body [.cell 2 69] [0] Tryz.func269 Tryz.ntmps269 (fun d=>?_)
 refine Z32 ?_;refine Z1 ?_;refine R.makeFunc ?_;refine R.callUp Tryz.call234 ho (by simp) Bg (ka Tryz.call270 l S Q3 (by decide) f o _ (A4 ho) hi hl hll hf hcf) ?_;refine Z16 ?_;exact K.fin (V.one (V.cellN jA jS)) ⟨by rw [A9],rfl⟩ (hlow:=by have:=Ad Hp.length (Cq l Q3 f S).1;rw [A9] at this;simpa using this)

/-- What is so of the functions one nest deeper. -/
structure DeepC (l:List Tok) (Dv:Fam) (n:Nat):Prop where
 ei:n≠30→Bf l (n+1) Dv.ei∧PC 215 l Dv.ei (n+1)
 no:n≠30→Bf l (n+1) Dv.no∧PC 246 l Dv.no (n+1)
 ne:n≠30→Bf l (n+1) Dv.ne∧PC 270 l Dv.ne (n+1)
theorem Ms (op:Int) (x:Expr):A6 (Cc op x)=.agg [A5 op,A8 [],A5 0,A5 0,A8 [],.slice false 6 [A6 x]]:=by rw [A9];rfl
theorem Xi (t:Str) (a b:Expr):A6 (Cp t a b)=.agg [A5 5,.v (sv t),A5 0,A5 0,A8 [],.slice false 6 [A6 a,A6 b]]:=by rw [A9];rfl
theorem low_agg {n:Nat} (e:Expr):Low n (.agg [.v (.int .i64 e.op),.v (sv e.text),.v (.int .i64 e.val.kind),.v (.int .i64 e.val.n),.v (sv e.val.s),.slice false 6 (e.kids.map A6)]):=by
 have:=Ad n e
 rwa [A9] at this
theorem sg (l:List Tok) (S:PS) (Dv:Fam) (o:Nat) (Hp:List AObj) (ho:Hp[o]? = some (pr l S)) (hi:S.i<l.length) (hl:TokEnd l) (hll:l.length≤1048576) (hnl:S.nest≤30) (hd:DeepC l Dv S.nest) (hc:PC 271 l (Cr l Dv) S.nest):ACall Tryz.prog 270 [.ptr o 0] Hp (fun r H'=>r=A6 (Gj l Dv S).1∧H'=Hp.set o (pr l (Gj l Dv S).2)):=by
 refine ACall.body [.cell 2 69] [0] Tryz.func270 Tryz.ntmps270 (fun d=>?_)
 refine Z32 ?_;refine Z42 ?_;refine R.call Tryz.call244 (Tr l S ju o _ (A4 ho) hi hl (by decide)) ?_;refine R.go ?_;refine R.fin [0,2,6] ?_
 refine W.cond (fun ht6=>?_) (fun ht6=>?_)
 ·have e:Gj l Dv S=Cr l Dv S:=if_pos ht6
  refine Z2 ?_;refine R.callUp Tryz.call271 ho (by simp) Bg (hc o _ S (A4 ho) hi rfl) ?_;refine Z16 ?_;exact Z43
 have his:isM l ju S=true:=by simpa using ht6
 have hi1:(A3 S).i<l.length:=hl.stepIs hi his
 have e:Gj l Dv S=(Cc 3 (Af (A2 l S.i).at_ Dv.ne (A3 S)).1,(Af (A2 l S.i).at_ Dv.ne (A3 S)).2):=if_neg (by rw [ht6];simp)
 refine Z6 ?_;refine Z31 ?_;refine Z66 ?_;refine Z27 ?_;refine R.makeFunc ?_;refine R.callUp Tryz.call259 (getset ho) (by simp) Bg (en Tryz.call270 l (A3 S) (A2 l S.i).at_ Dv.ne o _ (A4 (getset ho)) hi1 hnl (fun h=>(hd.ne h).1) (fun h=>(hd.ne h).2)) ?_;refine Re ?_;refine Z71 ?_;exact K.fin (V.one (V.cellN jA jS)) ⟨by rw [e,Ms];simp only [A9],by rw [e,List.set_set]⟩ (hlow:=by have:=Ad Hp.length (Cc 3 (Af (A2 l S.i).at_ Dv.ne (A3 S)).1);rw [Ms] at this;simp only [A9] at this;simpa only [List.length_set] using this)

theorem si (l:List Tok) (S:PS) (Dv:Fam) (o:Nat) (Hp:List AObj) (ho:Hp[o]? = some (pr l S)) (hi:S.i<l.length) (hl:TokEnd l) (hll:l.length≤1048576) (hnl:S.nest≤30) (hd:DeepC l Dv S.nest) (hc:PC 258 l (Bo l Dv) S.nest):ACall Tryz.prog 246 [.ptr o 0] Hp (fun r H'=>r=A6 (Gk l Dv S).1∧H'=Hp.set o (pr l (Gk l Dv S).2)):=by
 refine ACall.body [.cell 2 69] [0] Tryz.func246 Tryz.ntmps246 (fun d=>?_)
 refine Z32 ?_;refine Z42 ?_;refine R.call Tryz.call244 (Tr l S jt o _ (A4 ho) hi hl (by decide)) ?_;refine R.go ?_;refine R.fin [0,2,6] ?_
 refine W.cond (fun ht6=>?_) (fun ht6=>?_)
 ·have e:Gk l Dv S=Bo l Dv S:=if_pos ht6
  refine Z2 ?_;refine R.callUp Tryz.call258 ho (by simp) Bg (hc o _ S (A4 ho) hi rfl) ?_;refine Z16 ?_;exact Z43
 have his:isM l jt S=true:=by simpa using ht6
 have hi1:(A3 S).i<l.length:=hl.stepIs hi his
 have e:Gk l Dv S=(Cc 4 (Af (A2 l S.i).at_ Dv.no (A3 S)).1,(Af (A2 l S.i).at_ Dv.no (A3 S)).2):=if_neg (by rw [ht6];simp)
 refine Z6 ?_;refine Z31 ?_;refine Z66 ?_;refine Z27 ?_;refine R.makeFunc ?_;refine R.callUp Tryz.call259 (getset ho) (by simp) Bg (en Tryz.call246 l (A3 S) (A2 l S.i).at_ Dv.no o _ (A4 (getset ho)) hi1 hnl (fun h=>(hd.no h).1) (fun h=>(hd.no h).2)) ?_;refine Re ?_;refine Z71 ?_;exact K.fin (V.one (V.cellN jA jS)) ⟨by rw [e,Ms];simp only [A9],by rw [e,List.set_set]⟩ (hlow:=by have:=Ad Hp.length (Cc 4 (Af (A2 l S.i).at_ Dv.no (A3 S)).1);rw [Ms] at this;simp only [A9] at this;simpa only [List.length_set] using this)

theorem sj (l:List Tok) (S:PS) (Dv:Fam) (o:Nat) (Hp:List AObj) (ho:Hp[o]? = some (pr l S)) (hi:S.i<l.length) (hl:TokEnd l) (hll:l.length≤1048576) (hnl:S.nest≤30) (hd:DeepC l Dv S.nest) (hg:Bf l S.nest (Au l Dv)) (hc:PC 266 l (Au l Dv) S.nest):ACall Tryz.prog 258 [.ptr o 0] Hp (fun r H'=>r=A6 (Bo l Dv S).1∧H'=Hp.set o (pr l (Bo l Dv S).2)):=by
 have hq:=hg S hi rfl
 refine ACall.body [.cell 2 69] [0] Tryz.func258 Tryz.ntmps258 (fun d=>?_)
 refine Z32 ?_;refine Z2 ?_;refine R.callUp Tryz.call266 ho (by simp) Bg (hc o _ S (A4 ho) hi rfl) ?_;refine Z66 ?_;refine Z58 ?_
 refine R.go (h:=Q.loadUp (getset ho)) (hr:=?_)
 refine Z88 ?_;refine G.call Tryz.call244 (fun hB=>Tr l (Au l Dv S).2 Rn o _ (A4 (getset ho)) hq.lt hl (by decide)) ?_;refine Z59 ?_;refine R.fin [0,2,3,17] ?_
 refine W.cond (fun ht17=>?_) (fun ht17=>?_)
 ·have e:Bo l Dv S=Au l Dv S:=if_pos ht17
  refine Z2 ?_;refine Z16 ?_;exact Z43
 have his:isM l Rn (Au l Dv S).2=true:=by
  have:=ht17
  simp only [Bool.or_eq_false_iff,Bool.not_eq_false'] at this
  exact this.2
 have hi1:(A3 (Au l Dv S).2).i<l.length:=hl.stepIs hq.lt his
 have e:Bo l Dv S=(Cp (A2 l (Au l Dv S).2.i).text (Au l Dv S).1 (Au l Dv (A3 (Au l Dv S).2)).1,(Au l Dv (A3 (Au l Dv S).2)).2):=if_neg (by rw [ht17];simp)
 refine Rd ?_;refine R.callUp Tryz.call245 (getset ho) (by simp) Bg (el l (Au l Dv S).2 o _ (A4 (getset ho)) hq.lt hll) ?_;refine Z10 ?_;refine R.fin [0,2,3,4] ?_;refine W.drawY [0,1,0,0,8,28,63,127] [4] [.q 4 [] [],.s [25] (some 0) [] [],.q 1 [0] []] (fun B=>Hp.set o (if B 0=true then pr l (Au l Dv (A3 (Au l Dv S).2)).2 else pr l (A3 (Au l Dv S).2))) (fun _=>[.cells 69 [A5 0,A8 [],A5 0,A5 0,A8 [],.nil],.cells 69 (Db (Au l Dv S).1),.cells 59 [A5 (A2 l (Au l Dv S).2.i).kind,A8 (A2 l (Au l Dv S).2.i).text,A5 (A2 l (Au l Dv S).2.i).at_]]) Aa (by kernel_rfl) (by simp [List.set_set]) rfl (fun B=>by simp) ?_
 apply Y.q
 case h1 =>
  intro B hT hF
  exact d8
 case hTF=>decide
 refine Y.callUp (r:=A6 (Au l Dv (A3 (Au l Dv S).2)).1) (o:=o) (x0:=pr l (A3 (Au l Dv S).2)) (x:=pr l (Au l Dv (A3 (Au l Dv S).2)).2) Tryz.call266 (fun B hT hF hB=>⟨by simp only [hB];exact getset ho,by simp [upd],rfl,Bg,?_⟩) ?_
 ·simp only [hB]
  exact hc o _ (A3 (Au l Dv S).2) (A4 (getset ho)) hi1 hq.nest
 apply Y.q
 case h1 =>
  intro B hT hF
  exact Z21
 case hTF=>decide
 refine Y.tail (tn:=[4]) (U:=Hp.set o (pr l (Au l Dv (A3 (Au l Dv S).2)).2)) ?_;refine Z71 ?_;exact K.fin (V.one (V.cellN jA jS)) ⟨by rw [e,Xi];simp only [A9],by rw [e]⟩ (hlow:=by have:=Ad Hp.length (Cp (A2 l (Au l Dv S).2.i).text (Au l Dv S).1 (Au l Dv (A3 (Au l Dv S).2)).1);rw [Xi] at this;simp only [A9] at this;simpa only [List.length_set] using this)

/-- The contract of the parser of calls. -/
def Ts (l:List Tok) (Dv:Fam) (n:Nat):Prop:=∀(o:Nat) (Hp:List AObj) (S:PS) (t:Tok),Hp[o]? = some (pr l S)→(A3 S).i<l.length→S.nest=n→t.text.length≤1048576→isM l opT S=true→ACall Tryz.prog 273 [.ptr o 0,Fg t] Hp (fun r H'=>r=A6 (D0 l Dv t S).1∧H'=Hp.set o (pr l (D0 l Dv t S).2))
theorem eo:A6 Ae=.agg [A5 0,A8 [],A5 0,A5 0,A8 [],.slice false 6 []]:=by rw [A9];rfl
theorem sk (l:List Tok) (S:PS) (Dv:Fam) (o:Nat) (Hp:List AObj) (ho:Hp[o]? = some (pr l S)) (hi:S.i<l.length) (hl:TokEnd l) (hll:l.length≤1048576) (hnl:S.nest≤30) (hd:DeepC l Dv S.nest) (hcl:Ts l Dv S.nest):ACall Tryz.prog 271 [.ptr o 0] Hp (fun r H'=>r=A6 (Cr l Dv S).1∧H'=Hp.set o (pr l (Cr l Dv S).2)):=by
 refine ACall.body [.cell 2 69] [0] Tryz.func271 Tryz.ntmps271 (fun d=>?_)
 refine Z32 ?_;refine Z95 ?_;refine Z66 ?_;refine Z58 ?_
 refine R.go (h:=Q.loadUp ho) (hr:=?_)
 refine R.go ?_;refine R.fin [0,2,3,14] ?_
 refine W.cond (fun ht14=>?_) (fun ht14=>?_)
 ·have e:Cr l Dv S=(Ae,S):=if_pos ht14
  refine Z65 ?_;refine R.wk 15 _ Oa ?_;refine Z16 ?_;refine K.thR ?_;exact K.fin (V.one (V.cellN jA jS)) ⟨by rw [e,A9],by rw [e];exact (Dm ho).symm⟩ (hlow:=by have:=Ad Hp.length (Ae);simpa only [A9,List.length_set] using this)
 have e0:¬(S.code != 0)=true:=by rw [ht14];simp
 refine Z79 ?_;refine Z27 ?_;refine G.go ?_;refine G.call Tryz.call244 (fun hB=>Tr l S Wa o _ (A4 ho) hi hl (by decide)) ?_;refine Z0 ?_;refine R.fin [0,2,3,16] ?_
 refine W.cond (fun ht16=>?_) (fun ht16=>?_)
 ·have e:Cr l Dv S=(F4 (Cj (A2 l S.i).text).1,A3 S):=by unfold Cr;rw [if_neg e0,if_pos ht16]
  refine Z31 ?_;refine R.go ?_;refine R.call Tryz.call157 (mn (A2 l S.i).text (hl.text _) _) ?_;refine Z9 ?_;refine Z10 ?_;refine R.go ?_;refine R.fin [2,4] ?_;refine Z2 ?_;refine R.call Tryz.call272 (qc (Cj (A2 l S.i).text).1 _) ?_;refine Z16 ?_;refine Z8 ?_;exact K.fin (V.one (V.cellN jA jS)) ⟨by rw [e,A9],by rw [e]⟩ (hlow:=by have:=Ad Hp.length (F4 (Cj (A2 l S.i).text).1);simpa only [A9,List.length_set] using this)
 have e1:¬(((A2 l S.i).kind==3) || isM l Wa S)=true:=by rw [ht16];simp
 refine Z27 ?_;refine R.fin [0,2,3,33] ?_
 refine W.cond (fun ht33=>?_) (fun ht33=>?_)
 ·have e:Cr l Dv S=(F4 ⟨2,0,(A2 l S.i).text.take 200⟩,A3 S):=by unfold Cr;rw [if_neg e0,if_neg e1,if_pos ht33]
  refine Z31 ?_;refine R.go ?_;refine R.call Tryz.call210 (c210 (A2 l S.i).text _) ?_;refine R.call Tryz.call272 (qc ⟨2,0,(A2 l S.i).text.take 200⟩ _) ?_;refine Z16 ?_;refine Z8 ?_;exact K.fin (V.one (V.cellN jA jS)) ⟨by rw [e,A9],by rw [e]⟩ (hlow:=by have:=Ad Hp.length (F4 ⟨2,0,(A2 l S.i).text.take 200⟩);simpa only [A9,List.length_set] using this)
 have e2:¬((A2 l S.i).kind==4)=true:=by rw [ht33];simp
 refine Z27 ?_;refine R.fin [0,2,3,42] ?_
 refine W.cond (fun ht42=>?_) (fun ht42=>?_)
 ·have hi1:(A3 S).i<l.length:=hl.step hi (by rw [beq_iff_eq] at ht42;rw [ht42];decide)
  refine Z31 ?_;refine R.fin [0,2,3] ?_;refine Z42 ?_;refine R.call Tryz.call244 (Tr l (A3 S) opT o _ (A4 (getset ho)) hi1 hl (by decide)) ?_;refine R.fin [0,2,3,49] ?_
  refine W.cond (fun ht49=>?_) (fun ht49=>?_)
  ·have e:Cr l Dv S=D0 l Dv (A2 l S.i) (A3 S):=by unfold Cr;rw [if_neg e0,if_neg e1,if_neg e2,if_pos ht42,if_pos ht49]
   have hi2:(A3 (A3 S)).i<l.length:=hl.stepIs hi1 ht49
   refine Z1 ?_;refine R.callUp Tryz.call273 (getset ho) (by simp) Bg (hcl o _ (A3 S) (A2 l S.i) (A4 (getset ho)) hi2 rfl (hl.text _) ht49) ?_;refine Z16 ?_;refine K.thR ?_;refine Z8 ?_;exact K.fin (V.one (V.cellN jA jS)) ⟨by rw [e,A9],by rw [e,List.set_set]⟩ (hlow:=by have:=Ad Hp.length ((D0 l Dv (A2 l S.i) (A3 S)).1);simpa only [A9,List.length_set] using this)
  have e:Cr l Dv S=(Bk (A2 l S.i).text,A3 S):=by unfold Cr;rw [if_neg e0,if_neg e1,if_neg e2,if_pos ht42,if_neg (by rw [ht49];simp)]
  refine Z6 ?_;refine ot ?_;refine R.wk 55 _ (ec _) ?_;refine Z16 ?_;refine Z8 ?_;exact K.fin (V.one (V.cellN jA jS)) ⟨by rw [e,A9],by rw [e]⟩ (hlow:=by have:=Ad Hp.length (Bk (A2 l S.i).text);simpa only [A9,List.length_set] using this)
 have e3:¬((A2 l S.i).kind==1)=true:=by rw [ht42];simp
 refine Z2 ?_;refine R.call Tryz.call244 (Tr l S opT o _ (A4 ho) hi hl (by decide)) ?_;refine R.go ?_;refine R.fin [0,2,3,56] ?_
 refine W.cond (fun ht56=>?_) (fun ht56=>?_)
 ·have e:Cr l Dv S=((Af (A2 l S.i).at_ Dv.ei (A3 S)).1,Bl l C7 (Af (A2 l S.i).at_ Dv.ei (A3 S)).2):=by unfold Cr;rw [if_neg e0,if_neg e1,if_neg e2,if_neg e3,if_pos ht56]
  have hi1:(A3 S).i<l.length:=hl.stepIs hi ht56
  have hwf:=Fi (S:=A3 S) (l:=l) (f:=Dv.ei) (A2 l S.i).at_ hi1 (fun h=>(hd.ei h).1)
  refine Z31 ?_;refine R.fin [0,2,3] ?_;refine Z27 ?_;refine R.makeFunc ?_;refine R.callUp Tryz.call259 (getset ho) (by simp) Bg (en Tryz.call215 l (A3 S) (A2 l S.i).at_ Dv.ei o _ (A4 (getset ho)) hi1 hnl (fun h=>(hd.ei h).1) (fun h=>(hd.ei h).2)) ?_;refine Z10 ?_;refine R.fin [0,2,6] ?_;refine Z2 ?_;refine R.callUp Tryz.call274 (getset (getset ho)) (by simp) Bg (qd l (Af (A2 l S.i).at_ Dv.ei (A3 S)).2 C7 o _ (A4 (getset (getset ho))) hwf.lt hll) ?_;refine R.fin [2,6] ?_;refine Z2 ?_;refine Z16 ?_;refine Z8 ?_;exact K.fin (V.one (V.cellN jA jS)) ⟨by rw [e,A9],by rw [e,List.set_set,List.set_set]⟩ (hlow:=by have:=Ad Hp.length ((Af (A2 l S.i).at_ Dv.ei (A3 S)).1);simpa only [A9,List.length_set] using this)
 have e:Cr l Dv S=(Ae,Bu 8 (A2 l S.i).at_ S):=by unfold Cr;rw [if_neg e0,if_neg e1,if_neg e2,if_neg e3,if_neg (by rw [ht56];simp)]
 refine Z25 ?_;refine ob ?_;refine Z16 ?_;exact K.fin (V.one (V.cellN jA jS)) ⟨by rw [e,A9],by rw [e]⟩ (hlow:=by have:=Ad Hp.length (Ae);simpa only [A9,List.length_set] using this)

theorem kb {l:List Tok} (hl:TokEnd l) (hll:l.length≤1048576) {d n:Nat} (h:n+(d+1)=31) (hp:n≠30→PC 215 l (B4 l d).ei (n+1)∧PC 246 l (B4 l d).no (n+1)∧PC 270 l (B4 l d).ne (n+1)):DeepC l (B4 l d) n:=by
 have g:n≠30→_:=fun h30=>H0 hl hll d (n+1) (by omega) (by omega)
 exact ⟨fun h=>⟨(g h).1,(hp h).1⟩,fun h=>⟨(g h).2.1,(hp h).2.1⟩,fun h=>⟨(g h).2.2,(hp h).2.2⟩⟩
/-- All functions of the parser. -/
theorem Tt {l:List Tok} (hl:TokEnd l) (hll:l.length≤1048576) (hcl:∀n Dv,n≤30→DeepC l Dv n→Ts l Dv n):∀(d n:Nat),n+d=31→n≤30→PC 215 l (B4 l d).ei n∧PC 246 l (B4 l d).no n∧PC 270 l (B4 l d).ne n
 | 0,n,h,hn=>by omega
 | d+1,n,h,hn=>by
  have hd:DeepC l (B4 l d) n:=kb hl hll h (fun h30=>Tt hl hll hcl d (n+1) (by omega) (by omega))
  have g1:Bf l n (Gj l (B4 l d)):=Fl hl hll (fun h=>(hd.ei h).1) (fun h=>(hd.ne h).1)
  have g2:Bf l n (Nv l (B4 l d)):=D7 hl g1
  have g3:Bf l n (Au l (B4 l d)):=D7 hl g2
  have g4:Bf l n (Bo l (B4 l d)):=Jd hl hll (fun h=>(hd.ei h).1) (fun h=>(hd.ne h).1)
  have g5:Bf l n (Gk l (B4 l d)):=Gz hl hll (fun h=>(hd.ei h).1) (fun h=>(hd.ne h).1) (fun h=>(hd.no h).1)
  have g6:Bf l n (Nw l (B4 l d)):=D7 hl g5
  have p0:PC 271 l (Cr l (B4 l d)) n:=fun o Hp S ho hi hS=>by
   subst hS
   exact sk l S (B4 l d) o Hp ho hi hl hll hn hd (hcl _ _ hn hd)
  have p1:PC 270 l (Gj l (B4 l d)) n:=fun o Hp S ho hi hS=>by
   subst hS
   exact sg l S (B4 l d) o Hp ho hi hl hll hn hd p0
  have p2:PC 269 l (Nv l (B4 l d)) n:=fun o Hp S ho hi hS=>by
   subst hS
   exact se l S (Gj l (B4 l d)) o Hp ho hi hl hll g1 p1
  have p3:PC 266 l (Au l (B4 l d)) n:=fun o Hp S ho hi hS=>by
   subst hS
   exact sd l S (Nv l (B4 l d)) o Hp ho hi hl hll g2 p2
  have p4:PC 258 l (Bo l (B4 l d)) n:=fun o Hp S ho hi hS=>by
   subst hS
   exact sj l S (B4 l d) o Hp ho hi hl hll hn hd g3 p3
  have p5:PC 246 l (Gk l (B4 l d)) n:=fun o Hp S ho hi hS=>by
   subst hS
   exact si l S (B4 l d) o Hp ho hi hl hll hn hd p4
  have p6:PC 235 l (Nw l (B4 l d)) n:=fun o Hp S ho hi hS=>by
   subst hS
   exact sc l S (Gk l (B4 l d)) o Hp ho hi hl hll g5 p5
  have p7:PC 215 l (Fh l (B4 l d)) n:=fun o Hp S ho hi hS=>by
   subst hS
   exact sb l S (Nw l (B4 l d)) o Hp ho hi hl hll g6 p6
  exact ⟨p7,p5,p1⟩
set_option maxRecDepth 8000
/-! The document's kinds of trees are infer's. -/
set_option maxRecDepth 4000
theorem Xj {n:Nat} {U F:Nat→List AObj} {H':List AObj} (h:Gw (fun _=>true) U F n H'):H'=U n:=by
 rcases h with ⟨_,h⟩|⟨j,_,_,h,_⟩
 ·exact h
 cases h
theorem Zz {α:Type} {l:List α} {k:Nat} {y:α} (h:l[k]? = some y):l.take (k+1)=l.take k++[y]:=by rw [List.take_add_one,h];rfl
theorem ep {L:List (Int×Expr)} {k:Nat} {it:Int×Expr} (h:L[k]? = some it):D3 0 (L.take (k+1))=if D3 0 (L.take k)<it.1 then it.1 else D3 0 (L.take k):=by
 have e:D3 0 (L.take (k+1))=max (D3 0 (L.take k)) it.1:=by
  unfold D3
  rw [Zz h,List.foldl_append]
  rfl
 rw [e]
 split<;>omega
theorem Q7 {n k:Nat} {o:Bool} {l:List Str}:Low n (.slice o k (l.map A8)):=by simp [or_imp,forall_and]
theorem sm (n:Nat) (e:Expr) (hok:okE n e) (hn:n≤1048576) (hs:sizeE e≤1048576) (Hp:List AObj):AFun Tryz.prog 216 [A6 e] Hp (A5 (depthE e:Nat)):=by
 refine ACall.body [.tmp 2] [0,4] Tryz.func216 Tryz.ntmps216 (fun d=>?_)
 refine Z1 ?_;refine R.fin [1,4] ?_;refine Dn ?_;refine Z10 ?_;refine R.fin [1,3,4] ?_;refine Z50 ?_
 refine R.assumeLow (fun hlow=>?_)
 refine mc ?_;refine R.fin [3,4,6] ?_;refine AW.block ?_
 refine W.rangeV (m:=1) Tryz.call141 (fun FR as' bd' hFR has hbd=>?_)
 have hFRl:∀s,Low (Hp.length+3) (FR s):=by
  intro s
  rw [hFR]
  refine Low.strip ?_
  revert s
  repeat (first|exact Da|refine D9 (by simp [oid,Ad]<;>try omega) ?_)
 have hOl:∀{k:Nat},∀x∈[AObj.cells 3 [A5 (D3 0 ((An 1 e).take k))],AObj.defs,AObj.loop LoopState.ready none FR 13 #[7,8] as' bd' (oid Hp.length 1)],ObjLow (Hp.length+3) x:=by
  intro k x hx
  simp only [List.mem_cons,List.mem_nil_iff,or_false] at hx
  rcases hx with rfl|rfl|rfl
  ·intro y hy
   rw [List.mem_singleton.1 hy]
   first|exact Q7|simp
  ·trivial
  exact j6
 refine ⟨fun _ H'=>Gw (fun _=>true) (fun k=>Hp++[AObj.cells 3 [A5 (D3 0 ((An 1 e).take k))],AObj.defs,AObj.loop LoopState.ready none FR 13 #[7,8] as' bd' (oid Hp.length 1)]) (fun k=>Hp++[AObj.cells 3 [A5 (D3 0 ((An 1 e).take k))],AObj.defs,AObj.loop LoopState.ready none FR 13 #[7,8] as' bd' (oid Hp.length 1)]) (An 1 e).length H',mq (l:=oid Hp.length 2) (go:=fun _=>true) (U:=fun k=>Hp++[AObj.cells 3 [A5 (D3 0 ((An 1 e).take k))],AObj.defs,AObj.loop LoopState.ready none FR 13 #[7,8] as' bd' (oid Hp.length 1)]) (F:=fun k=>Hp++[AObj.cells 3 [A5 (D3 0 ((An 1 e).take k))],AObj.defs,AObj.loop LoopState.ready none FR 13 #[7,8] as' bd' (oid Hp.length 1)]) (n0:=Hp.length+3) ⟨fun k=>by simp,fun k=>by simp,fun k x hx=>?_,fun k x hx=>?_,by simp [oid],fun X k it hit hgo=>?_⟩ n hok hn,?_⟩
 ·exact dd
 ·exact dd
 ·have hklt:k<sizeE e:=by rw [←Dr 1 e];exact (List.getElem?_eq_some_iff.1 hit).1
  generalize hV:(Hp++[AObj.cells 3 [A5 (D3 0 ((An 1 e).take k))],AObj.defs,AObj.loop LoopState.ready none FR 13 #[7,8] as' bd' (oid Hp.length 1)]++X)=V
  have hL:V[oid Hp.length 2]? = some (AObj.loop LoopState.ready none FR 13 #[7,8] as' bd' (oid Hp.length 1)):=by rw [←hV,List.append_assoc,B5];rfl
  have hA0:V[oid Hp.length 0]? = some (AObj.cells 3 [A5 (D3 0 ((An 1 e).take k))]):=by rw [←hV,List.append_assoc,B5];rfl
  refine AYield.ofRound (pd:=none) (fr:=FR) (sz:=13) (ps:=#[7,8]) (df:=oid Hp.length 1) (asg:=as') (bd:=bd') hL rfl (by decide) (fun d=>?_)
  subst hFR has hbd
  refine W.keep [3,7,8] ?_;refine Z97 ?_;refine R.fin [3,4] ?_
  refine ⟨rfl,none,hL,?_⟩
  generalize hbz:(AObj.loop LoopState.busy _ _ _ _ _ _ _)=bz
  have hA:(V.set (oid Hp.length 2) bz)[oid Hp.length 0]? = some (AObj.cells 3 [A5 (D3 0 ((An 1 e).take k))]):=by rw [List.getElem?_set_ne (Du (by decide))];exact hA0
  refine AW.block ?_;refine AW.region ?_
  refine R.go (h:=Q.loadUp hA) (hr:=?_)
  refine R.go ?_;refine R.maxI ?_
  refine R.storeUp jS hA ?_ ?_
  ·simp
  refine Z60 ?_
  subst hbz
  refine K.rdN (Sq hL (Du (by decide))) ?_
  refine ⟨rfl,?_⟩
  rw [if_pos rfl]
  subst hV
  simp only [List.append_assoc,G7,List.cons_append,List.nil_append,List.set_cons_succ,List.set_cons_zero]
  rw [ep hit]
 intro r H' hq
 obtain rfl:=Xj hq
 refine ⟨Hp,_,_,_,rfl,rfl,fun h=>h,?_,rfl,by simp,?_⟩
 ·intro o ho
  have:o=oid Hp.length 1:=by simpa using ho
  subst this
  rw [B5]
  rfl
 refine Z13 ?_;refine Z1 ?_;refine Z3 ?_;exact K.fin (V.one V.tmp) ⟨by rw [List.take_length,M5],rfl⟩

theorem so (n:Nat) (e:Expr) (hok:okE n e) (hn:n≤1048576) (hs:sizeE e≤1048576) (Hp:List AObj):AFun Tryz.prog 218 [A6 e] Hp (A5 (sizeE e:Nat)):=by
 refine ACall.body [.tmp 2] [0] Tryz.func218 Tryz.ntmps218 (fun d=>?_)
 refine Z70 ?_;refine Dn ?_;refine Z10 ?_;refine R.fin [1,3] ?_;refine Z50 ?_
 refine R.assumeLow (fun hlow=>?_)
 refine mc ?_;refine R.fin [3,5] ?_;refine AW.block ?_
 refine W.rangeV (m:=1) Tryz.call141 (fun FR as' bd' hFR has hbd=>?_)
 have hFRl:∀s,Low (Hp.length+3) (FR s):=by
  intro s
  rw [hFR]
  refine Low.strip ?_
  revert s
  repeat (first|exact Da|refine D9 (by simp [oid,Ad]<;>try omega) ?_)
 have hOl:∀{k:Nat},∀x∈[AObj.cells 3 [A5 ((k:Nat))],AObj.defs,AObj.loop LoopState.ready none FR 11 #[6,7] as' bd' (oid Hp.length 1)],ObjLow (Hp.length+3) x:=by
  intro k x hx
  simp only [List.mem_cons,List.mem_nil_iff,or_false] at hx
  rcases hx with rfl|rfl|rfl
  ·intro y hy
   rw [List.mem_singleton.1 hy]
   first|exact Q7|simp
  ·trivial
  exact j6
 refine ⟨fun _ H'=>Gw (fun _=>true) (fun k=>Hp++[AObj.cells 3 [A5 ((k:Nat))],AObj.defs,AObj.loop LoopState.ready none FR 11 #[6,7] as' bd' (oid Hp.length 1)]) (fun k=>Hp++[AObj.cells 3 [A5 ((k:Nat))],AObj.defs,AObj.loop LoopState.ready none FR 11 #[6,7] as' bd' (oid Hp.length 1)]) (An 1 e).length H',mq (l:=oid Hp.length 2) (go:=fun _=>true) (U:=fun k=>Hp++[AObj.cells 3 [A5 ((k:Nat))],AObj.defs,AObj.loop LoopState.ready none FR 11 #[6,7] as' bd' (oid Hp.length 1)]) (F:=fun k=>Hp++[AObj.cells 3 [A5 ((k:Nat))],AObj.defs,AObj.loop LoopState.ready none FR 11 #[6,7] as' bd' (oid Hp.length 1)]) (n0:=Hp.length+3) ⟨fun k=>by simp,fun k=>by simp,fun k x hx=>?_,fun k x hx=>?_,by simp [oid],fun X k it hit hgo=>?_⟩ n hok hn,?_⟩
 ·exact dd
 ·exact dd
 ·have hklt:k<sizeE e:=by rw [←Dr 1 e];exact (List.getElem?_eq_some_iff.1 hit).1
  generalize hV:(Hp++[AObj.cells 3 [A5 ((k:Nat))],AObj.defs,AObj.loop LoopState.ready none FR 11 #[6,7] as' bd' (oid Hp.length 1)]++X)=V
  have hL:V[oid Hp.length 2]? = some (AObj.loop LoopState.ready none FR 11 #[6,7] as' bd' (oid Hp.length 1)):=by rw [←hV,List.append_assoc,B5];rfl
  have hA0:V[oid Hp.length 0]? = some (AObj.cells 3 [A5 ((k:Nat))]):=by rw [←hV,List.append_assoc,B5];rfl
  refine AYield.ofRound (pd:=none) (fr:=FR) (sz:=11) (ps:=#[6,7]) (df:=oid Hp.length 1) (asg:=as') (bd:=bd') hL rfl (by decide) (fun d=>?_)
  subst hFR has hbd
  refine W.keep [3,6,7] ?_;refine AW.skip ?_
  refine ⟨rfl,none,hL,?_⟩
  generalize hbz:(AObj.loop LoopState.busy _ _ _ _ _ _ _)=bz
  have hA:(V.set (oid Hp.length 2) bz)[oid Hp.length 0]? = some (AObj.cells 3 [A5 ((k:Nat))]):=by rw [List.getElem?_set_ne (Du (by decide))];exact hA0
  refine AW.block ?_;refine AW.region ?_
  refine R.go (h:=Q.loadUp hA) (hr:=?_)
  refine R.go ?_
  refine R.storeUp jS hA ?_ ?_
  ·simp
  refine Z60 ?_
  subst hbz
  refine K.rdN (Sq hL (Du (by decide))) ?_
  refine ⟨rfl,?_⟩
  rw [if_pos rfl]
  subst hV
  simp only [List.append_assoc,G7,List.cons_append,List.nil_append,List.set_cons_succ,List.set_cons_zero]
  rfl
 intro r H' hq
 obtain rfl:=Xj hq
 refine ⟨Hp,_,_,_,rfl,rfl,fun h=>h,?_,rfl,by simp,?_⟩
 ·intro o ho
  have:o=oid Hp.length 1:=by simpa using ho
  subst this
  rw [B5]
  rfl
 refine Z13 ?_;refine Z1 ?_;refine Z3 ?_;exact K.fin (V.one V.tmp) ⟨by rw [Dr],rfl⟩

set_option maxRecDepth 8000
abbrev TK:=Int×Str
/-- What stands from word i on. -/
def seg (l:List Tok) (i:Nat):List TK:=(l.drop i).map ktT
theorem G9 (s:Str):s∈levels.flatten∨(Ag s = -1∧∀l∈levels,l.contains s=false):=by
 by_cases h:s∈levels.flatten
 ·exact .inl h
 have h2:∀l∈levels,l.contains s=false:=fun l hl=>by
  rw [Bool.eq_false_iff]
  intro h3
  exact h (List.mem_flatten.2 ⟨l,hl,by simpa using h3⟩)
 refine .inr ⟨?_,h2⟩
 unfold Ag
 rw [List.findIdx?_eq_none_iff.2 fun l hl=>h2 l hl]
/-- The texts of levels of marks. -/
def ofL (k:Nat):Str:=if k=0 then orT else if k=1 then Zs else if k=3 then Rn else if k=4 then Zt else Q3
theorem Hl {k:Nat} (hk:k=0∨k=1∨k=3∨k=4∨k=5) (s:Str):Ff s (ofL k)=(Ag s==(k:Int)):=by
 have e:ofL k=Gi (levels.getD k []):=by rcases hk with rfl|rfl|rfl|rfl|rfl<;>kernel_rfl
 have hp:∀w∈levels.getD k [],(32:UInt8)∉w:=by rcases hk with rfl|rfl|rfl|rfl|rfl<;>decide
 have hm:levels.getD k []∈levels:=by rcases hk with rfl|rfl|rfl|rfl|rfl<;>decide
 rw [Hj e hp s]
 rcases G9 s with h|⟨h1,h2⟩
 ·have h3:(levels.flatten.all fun s=>decide ((!(s==[])&&(levels.getD k []).contains s)=(Ag s==(k:Int))))=true:=by rcases hk with rfl|rfl|rfl|rfl|rfl<;>kernel_rfl
  exact of_decide_eq_true (List.all_eq_true.1 h3 s h)
 rw [h2 _ hm,h1,Bool.and_false]
 symm
 rw [beq_eq_false_iff_ne]
 omega
theorem er (s:Str) : -1≤Ag s∧Ag s≤5∧Ag s≠2:=by
 rcases G9 s with h|⟨h,_⟩
 ·have h3:(levels.flatten.all fun s=>decide (-1≤Ag s∧Ag s≤5∧Ag s≠2))=true:=by kernel_rfl
  exact of_decide_eq_true (List.all_eq_true.1 h3 s h)
 omega
/-- A row of words behind which no mark of a level, or of a tighter one, stands. -/
def eu (k:Nat) (rest:List TK):Prop:=∀h r,rest=h::r→((h.1==5) || (h.1==2))=true→Ag h.2<(k:Int)∧h.2≠[40]
def aa:Str:=[110,111,116]
def levE (e:Expr):Nat:=if e.op==4 then 2 else if e.op==3 then 6 else if e.op==5 then (Ag e.text).toNat else 7
def kc (least:Nat) (x:Expr) (T:List TK):List TK:=if least≤levE x then T else (5,[40])::(T++[(5,[41])])
def Ef (least:Nat) (x:Expr) (n:Nat):Nat:=if least≤levE x then n else n+1
def Df (own:Nat):Nat:=if own=3 then 4 else own
def mv (v:Val):TK:=if v.kind==1 then (3,Dp v) else if v.kind==2 then (4,v.s) else (2,Dp v)
def qe (t:Str):TK:=(if Hd (t.headD 0) then 2 else 5,t)
def qf:List (List TK)→List TK
 | []=>[]
 | T::r=>(5,[44])::(T++qf r)
def qg (o:Int) (t:Str) (v:Val) (k:List Expr) (ts:List (List TK)):List TK:=
 if o==1 then [mv v] else if o==2 then [(1,t)]
 else if o==3 then (5,[45])::kc 6 (k.getD 0 Ae) (ts.getD 0 [])
 else if o==4 then (2,aa)::kc 2 (k.getD 0 Ae) (ts.getD 0 [])
 else if o==5 then kc (Df (Ag t).toNat) (k.getD 0 Ae) (ts.getD 0 [])++qe t::kc ((Ag t).toNat+1) (k.getD 1 Ae) (ts.getD 1 [])
 else (1,t)::(5,[40])::((qf ts).drop 1++[(5,[41])])
mutual
def Ob:Expr→List TK
 | .mk o t v k=>qg o t v k (lv k)
def lv:List Expr→List (List TK)
  | []=>[]
  | e::r=>Ob e::lv r
 end
def ew:List Nat→Nat
 | []=>0
 | n::r=>max n (ew r)
def M6 (o:Int) (t:Str) (k:List Expr) (ns:List Nat):Nat:=
 if o==1 then 0 else if o==2 then 0
 else if o==3 then 1+Ef 6 (k.getD 0 Ae) (ns.getD 0 0)
 else if o==4 then 1+Ef 2 (k.getD 0 Ae) (ns.getD 0 0)
 else if o==5 then max (Ef (Df (Ag t).toNat) (k.getD 0 Ae) (ns.getD 0 0)) (Ef ((Ag t).toNat+1) (k.getD 1 Ae) (ns.getD 1 0))
 else 1+ew ns
mutual
def Bh:Expr→Nat
 | .mk o t v k=>M6 o t k (Kj k)
def Kj:List Expr→List Nat
  | []=>[]
  | e::r=>Bh e::Kj r
 end
theorem ke {v:Val} (h:F1 v=true):v=noV:=by
 unfold F1 at h
 simp only [Bool.and_eq_true,beq_iff_eq] at h
 cases v
 simp_all [noV]
/-- What a right node is. -/
inductive NodeC:Expr→Prop
 | val (v:Val) (h:Ce v=true) (h0:0≤v.n):NodeC (F4 v)
 | name (t:Str) (h:Fc t=true):NodeC (Bk t)
 | neg (a:Expr):NodeC (Cc 3 a)
 | no (a:Expr):NodeC (Cc 4 a)
 | bin (t:Str) (a b:Expr) (h:0≤Ag t):NodeC (Cp t a b)
 | call (t:Str) (k:List Expr) (h:Az t=(k.length:Int)):NodeC (.mk 6 t noV k)
theorem E4 (o:Int) (t:Str) (v:Val) (k:List Expr):Ki (.mk o t v k) =
 if o==1 then ((Ce v&&decide (0≤v.n))&&(t==[]))&&((k.length:Int)==0)
 else if !(F1 v) then false
 else if o==2 then Fc t&&((k.length:Int)==0)
 else if o==3 || o==4 then (t==[])&&((k.length:Int)==1)
 else if o==5 then decide (0≤Ag t)&&((k.length:Int)==2)
 else if o==6 then Az t==(k.length:Int)
 else false:=rfl
theorem Jo {e:Expr} (h:Bj e=true):NodeC e:=by
 rw [F5] at h
 cases e with
 | mk o t v k =>
 rw [E4] at h
 by_cases h1:(o==1)=true
 ·rw [if_pos h1] at h
  simp only [Bool.and_eq_true,beq_iff_eq,decide_eq_true_eq] at h h1
  obtain ⟨⟨⟨a1,a2⟩,a3⟩,a4⟩:=h
  subst h1
  subst a3
  have:k=[]:=by cases k with|nil=>rfl|cons x r=>simp at a4;omega
  subst this
  exact .val v a1 a2
 rw [if_neg h1] at h
 by_cases hb:(!(F1 v))=true
 ·rw [if_pos hb] at h;cases h
 rw [if_neg hb] at h
 have hv:v=noV:=ke (by simpa using hb)
 subst hv
 by_cases h2:(o==2)=true
 ·rw [if_pos h2] at h
  simp only [Bool.and_eq_true,beq_iff_eq] at h h2
  subst h2
  have:k=[]:=by cases k with|nil=>rfl|cons x r=>have:=h.2;simp at this;omega
  subst this
  exact .name t h.1
 rw [if_neg h2] at h
 by_cases h3:(o==3 || o==4)=true
 ·rw [if_pos h3] at h
  simp only [Bool.and_eq_true,Bool.or_eq_true,beq_iff_eq] at h h3
  obtain ⟨rfl,h4⟩:=h
  match k,h4 with
  | [a],_ =>
   rcases h3 with rfl|rfl
   ·exact .neg a
   exact .no a
  | [],h4=>simp at h4
  | _::_::_,h4=>simp at h4;omega
 rw [if_neg h3] at h
 by_cases h5:(o==5)=true
 ·rw [if_pos h5] at h
  simp only [Bool.and_eq_true,beq_iff_eq,decide_eq_true_eq] at h h5
  subst h5
  match k,h.2 with
  | [a,b],_=>exact .bin t a b h.1
  | [],h4=>simp at h4
  | [_],h4=>simp at h4
  | _::_::_::_,h4=>simp at h4;omega
 rw [if_neg h5] at h
 by_cases h6:(o==6)=true
 ·rw [if_pos h6] at h
  simp only [beq_iff_eq] at h h6
  subst h6
  exact .call t k h
 rw [if_neg h6] at h;cases h
/-- The functions of the levels. -/
def pf (l:List Tok) (D:Fam):Nat→PS→Expr×PS
 | 0=>Fh l D
 | 1=>Nw l D
 | 2=>Gk l D
 | 3=>Bo l D
 | 4=>Au l D
 | 5=>Nv l D
 | 6=>Gj l D
 | _=>Cr l D
abbrev fam (l:List Tok) (n:Nat):Fam:=B4 l (30-n)
def adv (S:PS) (n:Nat):PS:=⟨S.i+n,S.nest,S.code,S.at_⟩
def T1 (l:List Tok) (x:Expr):Prop:=∀(k:Nat) (S:PS) (rest:List TK),k≤levE x→S.code=0→S.nest+Bh x≤30→seg l S.i=Ob x++rest→eu k rest→pf l (fam l S.nest) k S=(x,adv S (Ob x).length)
def T2 (l:List Tok) (x:Expr):Prop:=∀(k:Nat) (S:PS) (rest:List TK),(k=0∨k=1∨k=4∨k=5)→k≤levE x→S.code=0→S.nest+Bh x≤30→seg l S.i=Ob x++rest→eu (k+1) rest →
 ∃n,l.length≤S.i+(Ob x).length+n∧Cq l (ofL k) (pf l (fam l S.nest) (k+1)) S=Cx l (ofL k) (pf l (fam l S.nest) (k+1)) n (x,adv S (Ob x).length)
def litWords:List Str:=[[116,114,117,101],[102,97,108,115,101],[110,117,108,108]]
theorem mw (s:Str):Ff s Wa=(!(s==[])&&litWords.contains s):=Hj (show Wa=Gi litWords by kernel_rfl) (by decide) s
theorem Tu (v:Val):Bh (F4 v)=0:=by simp [F4,Bh,M6]
theorem ac (t:Str):Bh (Bk t)=0:=by simp [Bk,Bh,M6]
theorem ey (a:Expr):Bh (Cc 3 a)=1+Ef 6 a (Bh a):=by simp [Cc,Bh,Kj,M6]
theorem kg (a:Expr):Bh (Cc 4 a)=1+Ef 2 a (Bh a):=by simp [Cc,Bh,Kj,M6]
theorem Tv (t:Str) (a b:Expr):Bh (Cp t a b)=max (Ef (Df (Ag t).toNat) a (Bh a)) (Ef ((Ag t).toNat+1) b (Bh b)):=by simp [Cp,Bh,Kj,M6]
theorem ae (t:Str) (k:List Expr):Bh (.mk 6 t noV k)=1+ew (Kj k):=by simp [Bh,M6]
theorem Xk (v:Val):levE (F4 v)=7:=by simp [levE,F4,Expr.op]
theorem f5 (t:Str):levE (Bk t)=7:=by simp [levE,Bk,Expr.op]
theorem ki (a:Expr):levE (Cc 3 a)=6:=by simp [levE,Cc,Expr.op]
theorem mx (a:Expr):levE (Cc 4 a)=2:=by simp [levE,Cc,Expr.op]
theorem Xl (t:Str) (a b:Expr):levE (Cp t a b)=(Ag t).toNat:=by simp [levE,Cp,Expr.op,Expr.text]
theorem f6 (t:Str) (k:List Expr):levE (.mk 6 t noV k)=7:=by simp [levE,Expr.op]
theorem Tw {k:Nat} (hk:k=0∨k=1∨k=4∨k=5):k=0∨k=1∨k=3∨k=4∨k=5:=by omega
theorem f7:∀c:UInt8,digs.contains c=true→c≠45∧c≠43∧c≠39∧c≠110∧c≠116∧c≠102:=by
 have h:((List.range 256).all fun n => !digs.contains (UInt8.ofNat n) || decide (UInt8.ofNat n≠45∧UInt8.ofNat n≠43∧UInt8.ofNat n≠39∧UInt8.ofNat n≠110∧UInt8.ofNat n≠116∧UInt8.ofNat n≠102))=true:=by kernel_rfl
 intro c hc
 have:=List.all_eq_true.1 h c.toNat (List.mem_range.2 c.toNat_lt)
 rw [show UInt8.ofNat c.toNat=c by simp,hc] at this
 simpa using this
/-! The parser from a word on, and of a source. -/
def atS (l:List Tok) (i:Nat) (r:Expr×PS):PS:=if r.2.code != 0 then r.2 else if decide ((30:Int)<depthE r.1) then Bu 18 (A2 l i).at_ r.2 else if decide ((300:Int)<sizeE r.1) then Bu 3 (A2 l i).at_ r.2 else r.2
def atR (l:List Tok) (i:Nat):Expr×PS:=Fh l (B4 l 30) ⟨i,0,0,0⟩
/-- The tree, the word behind it, the fault. -/
def atM (l:List Tok) (i:Nat):Expr×Int×Int×Int:=if (atS l i (atR l i)).code != 0 then (Ae,0,(atS l i (atR l i)).code,(atS l i (atR l i)).at_) else ((atR l i).1,((atS l i (atR l i)).i:Int),0,0)
set_option maxRecDepth 4000
theorem Oc {l:List Tok} (hl:TokEnd l) (hll:l.length≤1048576) {i:Nat} (hi:i<l.length):Fact l ⟨i,0,0,0⟩ (atR l i):=(H0 hl hll 31 0 rfl (by decide)).1 ⟨i,0,0,0⟩ hi rfl
theorem my {l:List Tok} {i:Nat} (hi:i<l.length) (hl:TokEnd l) (hll:l.length≤1048576) (hcl:∀n Dv,n≤30→DeepC l Dv n→Ts l Dv n) (o:Nat) (Hp:List AObj) (ho:Hp[o]? = some (pr l ⟨i,0,0,0⟩)):ACall Tryz.prog 215 [.ptr o 0] Hp (fun r H'=>r=A6 (atR l i).1∧H'=Hp.set o (pr l (atR l i).2)):=(Tt hl hll hcl 31 0 rfl (by decide)).1 o Hp ⟨i,0,0,0⟩ ho hi rfl
theorem Tx {l:List Tok} (hl:TokEnd l):(A2 l (l.length-1)).kind=0:=by
 obtain ⟨L,z,rfl,hz,_⟩:=hl.split
 unfold A2
 simp [hz]
theorem sq (l:List Tok) (i:Nat) (hi:i<l.length) (hl:TokEnd l) (hll:l.length≤500000) (hcl:∀n Dv,n≤30→DeepC l Dv n→Ts l Dv n) (Hp:List AObj):AFun Tryz.prog 192 [X6 l,A5 (i:Int)] Hp (.tup [A6 (atM l i).1,A5 (atM l i).2.1,.agg [A5 (atM l i).2.2.1,A5 (atM l i).2.2.2]]):=by
 have hmap:(l.map Fg).length=l.length:=List.length_map ..
 have hll1:l.length≤1048576:=by omega
 have hq:=Oc hl hll1 hi
 have hlast:=Tx hl
 have hpos:=hl.pos
 have hqlt:=hq.lt
 have hqs:=hq.sz
 have hok0:okE 1048576 (atR l i).1:=Ed (by have:=hq.lt;omega) hq.ok
 have hsz0:sizeE (atR l i).1≤1048576:=by have:=hq.sz;have:=hq.lt;omega
 refine ACall.body [.cell 4 69,.tmp 5,.cell 6 26] [0,1] Tryz.func192 Tryz.ntmps192 (fun d=>?_)
 refine Z15 ?_;refine R.go ?_;refine R.alloc jZ ?_;refine R.fin [0,1,4,6] ?_;refine Z48 ?_;refine Z4 ?_;refine Z4 ?_;refine Z34 ?_
 refine G.go (h:=Q.indexAddr ((l.length-1)) (Fg (A2 l (l.length-1))) (fun _=>L8 (by omega))) (hr:=?_)
 refine Z4 ?_;refine Z59 ?_;refine R.fin [0,1,4,6,26] ?_
 refine W.cond (fun ht26=>?_) (fun ht26=>?_)
 ·simp only [Bool.or_eq_true,decide_eq_true_eq,bne_iff_ne,ne_eq] at ht26
  rcases ht26 with (h|h)|h
  ·omega
  ·simp at h;omega
  exact absurd hlast h
 refine Z6 ?_;refine Z1 ?_;refine R.build (places:=#[(0,1),(1,1),(2,1),(3,2)]) jU (fun w=>by simp) jZ ?_;refine R.box ?_;refine R.go ?_;refine R.fin [0,1,4,6,7] ?_;refine Z2 ?_
 refine R.callOwn (n:=2) (x:=pr l (atR l i).2) Tryz.call215 (my hi hl hll1 hcl (oid Hp.length 2) _ (by rw [B5];rfl)) ?_
 refine Z10 ?_;refine R.fin [0,1,4,6,7,8] ?_
 refine W.join ⟨81,A7 4 (.ptr (oid Hp.length 0) 0) (A7 6 (.ptr (oid Hp.length 1) 0) (A7 7 (.ptr (oid Hp.length 2) 0) (A7 8 (.ptr (oid Hp.length 3) 0) (fun _=>.any)))),Hp,[.cells 69 [A5 0,A8 [],A5 0,A5 0,A8 [],.nil],.cells 26 [A5 0,A5 0],pr l (atS l i (atR l i)),.cells 69 (Db (atR l i).1)],[],none⟩ ?_ ?_
 ·refine AW.block ?_;refine Z27 ?_;refine Z9 ?_;refine R.fin [0,1,4,6,7,8,35] ?_
  refine W.cond (fun ht35=>?_) (fun ht35=>?_)
  ·have e:atS l i (atR l i)=(atR l i).2:=if_pos ht35
   refine W.keep [4,6,7,8] ?_;refine AW.skip ?_;exact iz
  have e0:¬((atR l i).2.code != 0)=true:=by rw [ht35];simp
  refine Z2 ?_;refine R.call Tryz.call216 (sm 1048576 _ hok0 (Nat.le_refl _) hsz0 _) ?_;refine Z0 ?_;refine R.fin [0,1,4,6,7,8,42] ?_
  refine W.cond (fun ht42=>?_) (fun ht42=>?_)
  ·have e:atS l i (atR l i)=Bu 18 (A2 l i).at_ (atR l i).2:=by unfold atS;rw [if_neg e0,if_pos ht42]
   refine Z28 ?_
   refine R.go (h:=Q.indexAddr (i) (Fg (A2 l i)) (fun _=>L8 hi)) (hr:=?_)
   refine Z0 ?_
   refine R.callOwn (n:=2) (x:=pr l (Bu 18 (A2 l i).at_ (atR l i).2)) Tryz.call217 (Zx l (atR l i).2 18 (A2 l i).at_ (oid Hp.length 2) _ (by rw [B5];rfl)) ?_
   refine R.fin [4,6,7,8] ?_;exact iz
  have e1:¬decide ((30:Int)<depthE (atR l i).1)=true:=by rw [ht42];simp
  refine Z2 ?_;refine R.call Tryz.call218 (so 1048576 _ hok0 (Nat.le_refl _) hsz0 _) ?_;refine Z0 ?_;refine R.fin [0,1,4,6,7,8,53] ?_
  refine W.cond (fun ht53=>?_) (fun ht53=>?_)
  ·have e:atS l i (atR l i)=Bu 3 (A2 l i).at_ (atR l i).2:=by unfold atS;rw [if_neg e0,if_neg e1,if_pos ht53]
   refine Z28 ?_
   refine R.go (h:=Q.indexAddr (i) (Fg (A2 l i)) (fun _=>L8 hi)) (hr:=?_)
   refine Z0 ?_
   refine R.callOwn (n:=2) (x:=pr l (Bu 3 (A2 l i).at_ (atR l i).2)) Tryz.call217 (Zx l (atR l i).2 3 (A2 l i).at_ (oid Hp.length 2) _ (by rw [B5];rfl)) ?_
   refine R.fin [4,6,7,8] ?_;exact iz
  have e:atS l i (atR l i)=(atR l i).2:=by unfold atS;rw [if_neg e0,if_neg e1,if_neg (by rw [ht53];simp)]
  refine W.keep [4,6,7,8] ?_;refine AW.skip ?_;exact iz
 refine Z11 ?_;refine Z53 ?_;refine R.fin [4,6,7,8,69] ?_
 refine W.cond (fun ht69=>?_) (fun ht69=>?_)
 ·have e:atM l i=(Ae,0,(atS l i (atR l i)).code,(atS l i (atR l i)).at_):=if_pos ht69
  refine W.drawY [0,0,2,6,14,1,33,127] [5] [.q 5 [] [],.s [] (some 0) [] [],.q 1 [0] []] (fun _=>Hp) (fun _=>[.cells 69 [A5 0,A8 [],A5 0,A5 0,A8 [],.nil],.cells 26 [A5 0,A5 0],pr l (atS l i (atR l i)),.cells 69 (Db (atR l i).1)]) Aa (by kernel_rfl) rfl rfl (fun _=>rfl) ?_
  apply Y.q
  case h1 =>
   intro B hT hF
   refine D.build (places:=#[(0,1),(1,1),(2,3),(5,1)]) jU (fun w=>by simp) jZ ?_;exact d8
  case hTF=>decide
  refine Y.storeOwn (u:=Hp.length) (n:=0) (t':=69) (cs:=[A5 0,A8 [],A5 0,A5 0,A8 [],.nil]) (cs':=[A5 0,A8 [],A5 0,A5 0,A8 [],.nil]) Tryz.sizeOf69 (fun B hB=>⟨rfl,rfl,rfl,rfl⟩) ?_
  apply Y.q
  case h1 =>
   intro B hT hF
   exact Z38
  case hTF=>decide
  refine Y.tail (tn:=[5])  ?_;refine R.nilCell 0 5 6 ?_;refine Hs ?_;refine R.fin [4,5,6] ?_;refine Z98 ?_;exact K.fin (V.three (V.cellN jA jS) V.tmp (V.cellN jA jS)) ⟨by rw [e,eo]<;>rfl,rfl⟩
 have e:atM l i=((atR l i).1,((atS l i (atR l i)).i:Int),0,0):=if_neg (by rw [ht69];simp)
 refine Z6 ?_;refine W.drawY [0,0,2,6,14,0,1,95,255] [6] [.q 6 [] [],.s [] (some 0) [] [],.q 1 [0] []] (fun _=>Hp) (fun B=>[.cells 69 (if B 0=true then Db (atR l i).1 else [A5 0,A8 [],A5 0,A5 0,A8 [],.nil]),.cells 26 [A5 0,A5 0],pr l (atS l i (atR l i)),.cells 69 (Db (atR l i).1)]) Aa (by kernel_rfl) rfl rfl (fun _=>rfl) ?_
 apply Y.q
 case h1 =>
  intro B hT hF
  refine Vc ?_;exact Z94
 case hTF=>decide
 refine Y.storeOwn (u:=Hp.length) (n:=0) (t':=69) (cs:=[A5 0,A8 [],A5 0,A5 0,A8 [],.nil]) (cs':=Db (atR l i).1) Tryz.sizeOf69 (fun B hB=>⟨rfl,by simp only [hB];rfl,by simp [upd],rfl⟩) ?_
 apply Y.q
 case h1 =>
  intro B hT hF
  exact Z38
 case hTF=>decide
 refine Y.tail (tn:=[6]) (O:=[.cells 69 (Db (atR l i).1),.cells 26 [A5 0,A5 0],pr l (atS l i (atR l i)),.cells 69 (Db (atR l i).1)]) ?_;refine Hs ?_;refine R.fin [4,5,6] ?_;refine AW.ret ?_;exact K.fin (V.three (V.cellN jA jS) V.tmp (V.cellN jA jS)) ⟨by rw [e,A9]<;>rfl,rfl⟩ (hlow:=by have:=low_agg (n:=Hp.length) (atR l i).1;simp at this ⊢;exact this)

theorem Xm {s:Str} (h:(Bv s).2.1=0):(Bv s).1.length≤4002:=by
 obtain ⟨h1,_,h3⟩:=Kd h
 have h2:=Jm s
 rw [h3]
 simp only [List.length_append,List.length_map,List.length_cons,List.length_nil]
 omega
theorem kj {l:List Tok} (hl:TokEnd l) (hll:l.length≤1048576) {i:Nat} (hi:i<l.length) (h:(atM l i).2.2.1=0):∃k:Nat,(atM l i).2.1=(k:Int)∧k<l.length:=by
 have hq:=Oc hl hll hi
 unfold atM at h ⊢
 split at h
 ·rename_i h1
  have:(atS l i (atR l i)).code=0:=h
  rw [this] at h1
  cases h1
 rename_i h1
 rw [if_neg h1]
 refine ⟨(atS l i (atR l i)).i,rfl,?_⟩
 have e:(atS l i (atR l i)).i=(atR l i).2.i:=by
  unfold atS
  repeat' split
  all_goals first|rfl|exact failM_i.1
 rw [e]
 exact hq.lt
theorem Gm {α:Type} {a b:List α} (hl:a.length=b.length) (h:∀(j:Nat) (y:α),j<a.length→a[j]? = some y→b[j]? = some y):a=b:=by
 apply List.ext_getElem hl
 intro j h1 h2
 have:=h j a[j] h1 (List.getElem?_eq_getElem h1)
 rw [List.getElem?_eq_getElem h2] at this
 injection this with this
 exact this.symm
theorem c27 (a b:List Str) (ha:a.length≤1048576) (Hp:List AObj):AFun Tryz.prog 27 [Ft a,Ft b] Hp (B2 (decide (a=b))):=by
 refine ACall.body [.tmp 4] [0,1] Tryz.func27 Tryz.ntmps27 (fun d=>?_)
 refine Z47 ?_;refine Su ?_;refine R.fin [0,1,10] ?_
 refine W.cond (fun ht10=>?_) (fun ht10=>?_)
 ·have hne:a≠b:=by rintro rfl;simp at ht10
  refine Z55 ?_;refine K.thR ?_;exact pg
 have hlen:a.length=b.length:=by have:=ht10;simp at this;omega
 refine Z6 ?_;refine Z42 ?_;refine R.fin [0,1,5] ?_
 refine AW.loopC (α:=Nat) (fun x=>⟨26,A7 0 (Ft a) (A7 1 (Ft b) (A7 5 (A5 (x:Nat)) (fun _=>.any))),Hp,[],[],none⟩) (fun x=>x≤a.length∧∀(j:Nat) (y:Str),j<x→a[j]? = some y→b[j]? = some y) (fun x=>a.length-x) (0) ⟨Nat.zero_le _,fun j y h=>by omega⟩ (StLe.refl _) rfl (fun x hx=>?_)
 refine Z58 ?_;refine R.fin [0,1,5,14] ?_
 refine W.cond (fun ht14=>?_) (fun ht14=>?_)
 ·have hlt:x<a.length:=by simpa using ht14
  have hlb:x<b.length:=by omega
  refine Z79 ?_;refine W.drawQ [0,0,3,7,0,0,48,112,255] 8 Aa (by kernel_rfl) ?_;refine Z5 ?_
  refine D.go (h:=Q.indexAddr (x) (A8 a[x]) (fun _=>C6 hlt)) (hr:=?_)
  refine Z30 ?_
  refine D.go (h:=Q.indexAddr (x) (A8 b[x]) (fun _=>C6 hlb)) (hr:=?_)
  refine Z93 ?_;refine R.go ?_;refine R.fin [0,1,5,25] ?_
  refine W.cond (fun ht25=>?_) (fun ht25=>?_)
  ·have hne:a≠b:=by rintro rfl;simp at ht25
   refine Z55 ?_;refine Z51 ?_;exact pg
  have heq:a[x]=b[x]:=by simpa using ht25
  refine Va ?_;refine R.fin [0,1,5] ?_
  refine K.lpN (x+1) ⟨hlt,fun j y hj hy=>?_⟩ (by omega) (StCut.of_eq rfl)
  rcases Nat.lt_or_ge j x with h|h
  ·exact hx.2 j y h hy
  have:j=x:=by omega
  subst this
  rw [List.getElem?_eq_getElem hlt] at hy
  rw [List.getElem?_eq_getElem hlb,←hy,heq]
 have hxe:a.length≤x:=by simpa using ht14
 refine Z87 ?_;refine Z55 ?_;exact K.fin (V.one V.tmp) ⟨by rw [decide_eq_true (Gm hlen fun j y hj hy=>hx.2 j y (by omega) hy)],rfl⟩

theorem Cy {n k:Nat} {o:Bool} {l:List Expr}:Low n (.slice o k (l.map A6)):=low_slice.2 fun y hy=>by
 obtain ⟨a,_,rfl⟩:=List.mem_map.1 hy
 exact Ad _ a
theorem Kk {a b:List Expr} (hl:a.length=b.length) (h:∀(j:Nat) (y z:Expr),j<a.length→a[j]? = some y→b[j]? = some z→eqE y z=true):eqL a b=true:=by
 rw [G8]
 refine Gm hl fun j y hj hy=>?_
 have hjb:j<b.length:=by omega
 have:=h j y b[j] hj hy (List.getElem?_eq_getElem hjb)
 rw [List.getElem?_eq_getElem hjb,(Ro _ _).1 this]
theorem mz {a b:List Expr} (h:eqL a b=true) {j:Nat} (hj:j<a.length) (hb:j<b.length):eqE a[j] b[j]=true:=by
 have e:=(G8 _ _).1 h
 subst e
 exact O9 _
theorem Rp {a b:List Expr} {j:Nat} (hj:j<a.length) (hb:j<b.length) (h:eqE a[j] b[j]=false):eqL a b=false:=by
 rw [Bool.eq_false_iff]
 intro h2
 rw [mz h2 hj hb] at h
 cases h
theorem Xn {a b:List Expr} (h:a.length≠b.length):eqL a b=false:=by
 rw [Bool.eq_false_iff]
 exact fun h2=>h (jy h2)
theorem Xo {a b:List Expr} {x:Nat} (hx:x<a.length) (hb:x<b.length) (h:∀(j:Nat) (y z:Expr),j<x→a[j]? = some y→b[j]? = some z→eqE y z=true) (he:eqE a[x] b[x]=true):∀(j:Nat) (y z:Expr),j<x+1→a[j]? = some y→b[j]? = some z→eqE y z=true:=by
 intro j y z hj h1 h2
 rcases Nat.lt_or_ge j x with h3|h3
 ·exact h j y z h3 h1 h2
 have:j=x:=by omega
 subst this
 rw [List.getElem?_eq_getElem hx] at h1
 rw [List.getElem?_eq_getElem hb] at h2
 injection h1 with h1
 injection h2 with h2
 rw [←h1,←h2]
 exact he
def Ty (x y:Expr):Bool:=((x.op==y.op)&&(x.text==y.text))&&((x.val.kind==y.val.kind&&x.val.n==y.val.n)&&x.val.s==y.val.s)
theorem Rq (x y:Expr):eqE x y=(Ty x y&&eqL x.kids y.kids):=ek x y
theorem c28:∀(n:Nat) (x:Expr),okE n x→∀(y:Expr) (Hp:List AObj),AFun Tryz.prog 28 [A6 x,A6 y] Hp (B2 (eqE x y)):=by
 intro n
 induction n with
 | zero=>exact fun x h=>h.elim
 | succ n ih =>
 intro x hok y Hp
 refine ACall.body [.tmp 4] [0,1] Tryz.func28 Tryz.ntmps28 (fun d=>?_)
 refine Z18 ?_;refine Hc ?_;refine Z58 ?_;refine Z34 ?_;refine Z69 ?_
 refine G.go (h:=Q.neqAgg j9 (fun w=>Mm x.val.kind x.val.n y.val.kind y.val.n x.val.s y.val.s w)) (hr:=?_)
 refine Z34 ?_;refine Z4 ?_;refine Z59 ?_;refine R.fin [2,3,33] ?_
 refine W.cond (fun ht33=>?_) (fun ht33=>?_)
 ·have hf:eqE x y=false:=by
   rw [Rq]
   simp only [Bool.or_eq_true,bne_iff_ne,ne_eq,List.length_map,Bool.not_eq_true'] at ht33
   by_cases hh:Ty x y=true
   ·rw [hh,Bool.true_and]
    refine Xn ?_
    unfold Ty at hh
    simp only [Bool.and_eq_true,beq_iff_eq] at hh
    obtain ⟨⟨h1,h2⟩,⟨h3,h4⟩,h5⟩:=hh
    rcases ht33 with ((h|h)|h)|h
    ·exact absurd h1 h
    ·simp [h2] at h
    ·simp [h3,h4,h5] at h
    intro e;exact h (by rw [e])
   rw [Bool.not_eq_true] at hh
   rw [hh,Bool.false_and]
  refine Z55 ?_;exact oi
 have hh:Ty x y=true∧x.kids.length=y.kids.length:=by
  simp only [Bool.or_eq_false_iff,bne_eq_false_iff_eq,List.length_map,Bool.not_eq_false'] at ht33
  obtain ⟨⟨⟨h1,h2⟩,h3⟩,h4⟩:=ht33
  unfold Ty
  refine ⟨?_,by omega⟩
  simp only [beq_iff_eq,Bool.and_eq_true] at h1 h2 h3 ⊢
  exact ⟨⟨h1,h2⟩,h3⟩
 obtain ⟨hh,hlen⟩:=hh
 have hkl:=hok.2.1
 refine Z6 ?_;refine Z42 ?_;refine R.fin [2,3,5] ?_
 refine AW.loopC (α:=Nat) (fun i=>⟨53,A7 2 (.ro (Db x)) (A7 3 (.ro (Db y)) (A7 5 (A5 (i:Nat)) (fun _=>.any))),Hp,[],[],none⟩) (fun i=>i≤x.kids.length∧∀(j:Nat) (a b:Expr),j<i→x.kids[j]? = some a→y.kids[j]? = some b→eqE a b=true) (fun i=>x.kids.length-i) (0) ⟨Nat.zero_le _,fun j a b h=>by omega⟩ (StLe.refl _) rfl (fun i hi=>?_)
 refine Su ?_;refine R.fin [2,3,5,38] ?_
 refine W.cond (fun ht38=>?_) (fun ht38=>?_)
 ·have hlt:i<x.kids.length:=by simpa using ht38
  have hly:i<y.kids.length:=by omega
  refine Z79 ?_;refine W.drawQ [0,1,0,7,15,0,32,0,224,480,1023,2047] 10 Aa (by kernel_rfl) ?_;refine Z30 ?_
  refine D.go (h:=Q.indexAddr (i) (A6 x.kids[i]) (fun _=>C6 hlt)) (hr:=?_)
  refine Z90 ?_
  refine D.go (h:=Q.indexAddr (i) (A6 y.kids[i]) (fun _=>C6 hly)) (hr:=?_)
  refine Z93 ?_;refine R.call Tryz.call28 (ih x.kids[i] (hok.2.2 _ (List.getElem_mem hlt)) y.kids[i] _) ?_;refine R.go ?_;refine R.fin [2,3,5,52] ?_
  refine W.cond (fun ht52=>?_) (fun ht52=>?_)
  ·have hf:eqE x y=false:=by rw [Rq,Rp hlt hly (by simpa using ht52),Bool.and_false]
   refine Z55 ?_;exact ol
  have he:eqE x.kids[i] y.kids[i]=true:=by simpa using ht52
  refine Va ?_;refine R.fin [2,3,5] ?_;exact K.lpN (i+1) ⟨hlt,Xo hlt hly hi.2 he⟩ (by omega) (StCut.of_eq rfl)
 have hxe:x.kids.length≤i:=by simpa using ht38
 refine Z87 ?_;refine Z55 ?_;exact K.fin (V.one V.tmp) ⟨by rw [Rq,hh,Kk hlen (fun j a b hj=>hi.2 j a b (by omega))];rfl,rfl⟩

theorem c81 (n:Nat) (a b:List Expr) (ha:a.length≤1048576) (hok:∀y∈a,okE n y) (ih:∀(x:Expr),okE n x→∀(y:Expr) (Hp:List AObj),AFun Tryz.prog 74 [A6 x,A6 y] Hp (B2 (eqE x y))) (Hp:List AObj):AFun Tryz.prog 81 [.slice false 6 (a.map A6),.slice false 6 (b.map A6),.fn (.func 74) [] []] Hp (B2 (eqL a b)):=by
 refine ACall.body [.tmp 6] [0,1,2] Tryz.func81 Tryz.ntmps81 (fun d=>?_)
 refine Z2 ?_;refine R.fin [0,1,2] ?_;refine Su ?_;refine R.fin [0,1,2,14] ?_
 refine W.cond (fun ht14=>?_) (fun ht14=>?_)
 ·have hf:eqL a b=false:=Xn (by have:=ht14;simp at this;omega)
  refine Z2 ?_;refine Z52 ?_;exact oi
 have hlen:a.length=b.length:=by have:=ht14;simp at this;omega
 refine Z6 ?_;refine Z48 ?_;refine R.fin [1,2,15,16,17] ?_
 refine AW.loopC (α:=Nat) (fun i=>⟨32,A7 1 (.slice false 6 (b.map A6)) (A7 2 (.fn (.func 74) [] []) (A7 15 (.slice false 6 (a.map A6)) (A7 16 (A5 (a.length:Nat)) (A7 17 (A5 (i:Nat)) (fun _=>.any))))),Hp,[],[],none⟩) (fun i=>i≤a.length∧∀(j:Nat) (y z:Expr),j<i→a[j]? = some y→b[j]? = some z→eqE y z=true) (fun i=>a.length-i) (0) ⟨Nat.zero_le _,fun j y z h=>by omega⟩ (StLe.of_eq (by simp)) rfl (fun i hi=>?_)
 refine Z2 ?_;refine R.fin [1,2,15,16,17,18] ?_
 refine W.condX (fun ht18=>?_) (fun ht18=>?_)
 ·have hlt:i<a.length:=by simpa using ht18
  have hlb:i<b.length:=by omega
  refine Z20 ?_;refine Z2 ?_
  refine R.go (h:=Q.indexAddr (i) (A6 a[i]) (fun _=>C6 hlt)) (hr:=?_)
  refine R.go ?_;refine Z89 ?_;refine R.fin [1,2,7,8,15,16,17] ?_;refine Z1 ?_
  refine R.go (h:=Q.indexAddr (i) (A6 b[i]) (fun _=>C6 hlb)) (hr:=?_)
  refine R.go ?_;refine Z10 ?_;refine R.fin [1,2,8,9,15,16,17] ?_;refine Z18 ?_;refine R.callV Tryz.call74 (ih a[i] (hok _ (List.getElem_mem hlt)) b[i] _) ?_;refine R.go ?_;refine R.fin [1,2,15,16,17,30] ?_
  refine W.cond (fun ht30=>?_) (fun ht30=>?_)
  ·have hf:eqL a b=false:=Rp hlt hlb (by simpa using ht30)
   refine Z2 ?_;refine Z52 ?_;exact ol
  have he:eqE a[i] b[i]=true:=by simpa using ht30
  refine Vb ?_;refine R.fin [1,2,15,16,17] ?_;refine K.lpN (i+1) ⟨hlt,Xo hlt hlb hi.2 he⟩ (by omega) ?_
  exact StCut.take (own:=[]) (fun _=>.refl _) (by repeat (first|exact Da|refine D9 (by first|exact Cy|(simp;done)) ?_)) (by simp) (by simp)
 have hxe:a.length≤i:=by simpa using ht18
 refine Z33 ?_;refine Z2 ?_;refine Z52 ?_;exact K.fin (V.one V.tmp) ⟨by rw [Kk hlen (fun j y z hj=>hi.2 j y z (by omega))],rfl⟩

theorem c74:∀(n:Nat) (x:Expr),okE n x→∀(y:Expr) (Hp:List AObj),AFun Tryz.prog 74 [A6 x,A6 y] Hp (B2 (eqE x y)):=by
 intro n
 induction n with
 | zero=>exact fun x h=>h.elim
 | succ n ih =>
 intro x hok y Hp
 refine ACall.body [.tmp 4] [0,1] Tryz.func74 Tryz.ntmps74 (fun d=>?_)
 refine Z18 ?_;refine Hc ?_;refine Z27 ?_;refine Z34 ?_;refine Z69 ?_
 refine G.go (h:=Q.eqlAgg j9 (fun w=>Mm x.val.kind x.val.n y.val.kind y.val.n x.val.s y.val.s w)) (hr:=?_)
 refine Z34 ?_;refine G.call Tryz.call81 (fun hB=>c81 n x.kids y.kids hok.2.1 hok.2.2 ih _) ?_;refine Z0 ?_;refine Z14 ?_;exact K.fin (V.one V.tmp) ⟨by rw [ek],rfl⟩

set_option maxRecDepth 8000
/-! Moves: what mig.Right, sound.* and the document's layers 18, 19 answer. -/
structure Mov where
 kind:Int
 take:List Str
 give:List Col
 ahead:List Expr
 back:List Expr
abbrev Jp (l:List Expr):AV:=.slice false 6 (l.map A6)
abbrev Mi (m:Mov):List AV:=[A5 m.kind,Ft m.take,lu m.give,Jp m.ahead,Jp m.back]
abbrev Eg (m:Mov):AV:=.agg (Mi m)
abbrev E8 (l:List Mov):AV:=.slice false 5 (l.map Eg)
/-- Trees that may be walked. -/
structure OkEs (l:List Expr):Prop where
 len:l.length≤1048576
 ok:∀e∈l,okE 61 e
 size:∀e∈l,sizeE e≤1048576
 rng:∀e∈l,Ci Eo e=true
structure OkMov (m:Mov):Prop where
 takes:m.take.length≤1048576
 names:∀s∈m.take,s.length≤1048576
 gives:OkCols m.give
 gives2:m.give.length≤1000000
 ahead:OkEs m.ahead
 back:OkEs m.back
structure OkMovs (l:List Mov):Prop where
 len:l.length≤1048576
 each:∀m∈l,OkMov m
def Cs (m:Mov):Bool:=
 if ((m.ahead.length:Int) != (m.give.length:Int)) || ((m.back.length:Int) != (m.take.length:Int)) then false
 else if m.kind==1 then ((m.take.length:Int)==0)&&((m.give.length:Int)==1)
 else if m.kind==2 then ((m.take.length:Int)==1)&&((m.give.length:Int)==0)
 else if (m.kind==3) || (m.kind==6) then ((m.take.length:Int)==1)&&((m.give.length:Int)==1)
 else if m.kind==4 then ((m.take.length:Int)==1)&&decide ((1:Int)<(m.give.length:Int))
 else if m.kind==5 then decide ((1:Int)<(m.take.length:Int))&&((m.give.length:Int)==1)
 else false
def Ih (m:Mov) (c:Col):Bool:=C0 c.name&&(((Ax c.kind==[])==(m.kind==3)) && !((m.kind==3)&&(c.kind != 0)))
def Ep (m:Mov):Bool:=
 if m.kind==3 then eqE (m.ahead.getD 0 Ae) (Bk (m.take.getD 0 []))&&eqE (m.back.getD 0 Ae) (Bk (m.give.getD 0 ⟨[],0⟩).name)
 else if m.kind==6 then m.take.getD 0 []==(m.give.getD 0 ⟨[],0⟩).name else true
def Fw (m:Mov):Bool:=(((((Cs m&&m.give.all (Ih m))&&m.take.all C0)&&m.ahead.all B0)&&m.back.all B0)&&Ep m)
def Rr (l:List Mov):Bool:=decide ((l.length:Int)≤8)&&l.all Fw
/-! Columns behind moves. -/
theorem J3 {m:Mov} (h:Fw m=true):Cs m=true:=by
 unfold Fw at h
 simp only [Bool.and_eq_true] at h
 exact h.1.1.1.1.1
theorem Fx {m:Mov} (h:Cs m=true):m.ahead.length=m.give.length∧m.back.length=m.take.length:=by
 unfold Cs at h
 split at h
 ·cases h
 rename_i h1
 simp only [Bool.or_eq_true,bne_iff_ne,ne_eq,not_or,Classical.not_not] at h1
 omega
theorem Od {m:Mov} (h:Cs m=true) (h3:((m.kind==3) || (m.kind==6))=true):m.take.length=1∧m.give.length=1:=by
 unfold Cs at h
 split at h
 ·cases h
 have h1:(m.kind==1)=false:=by simp at h3 ⊢;omega
 have h2:(m.kind==2)=false:=by simp at h3 ⊢;omega
 simp only [h1,h2,h3,if_true,if_false,Bool.false_eq_true,Bool.and_eq_true,beq_iff_eq] at h
 omega
set_option maxRecDepth 4000
/-! mig.Parse: the first fault is E3. -/
inductive PR (α:Type) where
 | ok (r:α) (i:Nat)
 | bad (e a:Int)
def PR.bind {α β:Type} (x:PR α) (f:α→Nat→PR β):PR β:=match x with
 | .ok r i=>f r i
 | .bad e a=>.bad e a
def Oe {α:Type} (L:List Tok) (i:Nat) (e:Int):PR α:=.bad e (A2 L i).at_
def isP (L:List Tok) (s:Str) (i:Nat):Bool:=(((A2 L i).kind==5) || ((A2 L i).kind==2))&&((A2 L i).text==s)
def Ay (L:List Tok) (s:Str) (i:Nat):PR Unit:=if isP L s i then .ok () (i+1) else Oe L i 8
def Cz (L:List Tok) (i:Nat):PR Str:=if (A2 L i).kind != 1 then Oe L i 8 else .ok (A2 L i).text (i+1)
def M7 (L:List Tok) (nm:Str) (j:Nat):PR Col:=if ((A2 L j).kind != 2) || (Gy (A2 L j).text==0) then Oe L j 8 else .ok ⟨nm,Gy (A2 L j).text⟩ (j+1)
def E1 (L:List Tok) (i:Nat):PR Col:=(Cz L i).bind (M7 L)
def E9 (L:List Tok) (i:Nat):PR Expr:=if (atM L i).2.2.1 != 0 then .bad (atM L i).2.2.1 (atM L i).2.2.2 else .ok (atM L i).1 (atM L i).2.1.toNat
def Bd (m:Mov) (c:Col):Mov:={ m with give:=m.give++[c] }
def Q8 (m:Mov) (x:Expr):Mov:={ m with ahead:=m.ahead++[x] }
def C1 (L:List Tok) (m:Mov) (i:Nat):PR Mov:=(E1 L i).bind fun c j=>(Ay L [61] j).bind fun _ j=>(E9 L j).bind fun x j=>.ok (Q8 (Bd m c) x) j
def Ga (L:List Tok) (n:Int) (k:Nat) (i:Nat):Bool:=decide ((k:Int)<n) || ((n==0)&&(decide ((k:Int)<2) || isP L [44] i))
/-- Things with commas between, behind the first k. -/
def Ei (L:List Tok) (n:Int) (one:Mov→Nat→PR Mov):Nat→Nat→Mov→Nat→PR Mov
 | 0,_,m,i=>.ok m i
 | f+1,k,m,i=>if Ga L n k i then (Ay L [44] i).bind fun _ j=>(one m j).bind fun m j=>Ei L n one f (k+1) m j else .ok m i
def Ds (L:List Tok) (n:Int) (one:Mov→Nat→PR Mov) (m:Mov) (i:Nat):PR Mov:=(one m i).bind fun m j=>Ei L n one (L.length+1) 1 m j
def backW:Str:=[98,97,99,107]
def intoW:Str:=[105,110,116,111]
def toW:Str:=[116,111]
def Xp (m:Mov) (x:Expr):Mov:={ m with back:=m.back++[x] }
def Ii (L:List Tok) (m:Mov) (i:Nat):PR Mov:=(E9 L i).bind fun x j=>.ok (Xp m x) j
def Ct (L:List Tok) (m:Mov) (i:Nat):PR Mov:=(Ay L backW i).bind fun _ j=>Ds L m.take.length (Ii L) m j
def Eh (L:List Tok) (m:Mov) (i:Nat):PR Mov:=(Cz L i).bind fun s j=>(Ay L toW j).bind fun _ j=>(Cz L j).bind fun t j=>.ok ⟨m.kind,[s],[⟨t,0⟩],[Bk s],[Bk t]⟩ j
def takeS (m:Mov) (s:Str):Mov:={ m with take:=[s] }
def Xq (m:Mov) (s:Str):Mov:={ m with take:=m.take++[s] }
def Hr (L:List Tok) (m:Mov) (i:Nat):PR Mov:=(Cz L i).bind fun s j=>.ok (Xq m s) j
def Di (L:List Tok) (m:Mov) (i:Nat):PR Mov:=
 if m.kind==1 then C1 L m i
 else if m.kind==2 then (Cz L i).bind fun s j=>Ct L (takeS m s) j
 else if m.kind==3 then Eh L m i
 else if m.kind==4 then (Cz L i).bind fun s j=>(Ay L intoW j).bind fun _ j=>(Ds L 0 (C1 L) (takeS m s) j).bind fun m j=>Ct L m j
 else if m.kind==5 then (Ds L 0 (Hr L) m i).bind fun m j=>(Ay L intoW j).bind fun _ j=>(C1 L m j).bind fun m j=>Ct L m j
 else if m.kind==6 then (C1 L m i).bind fun m j=>Ct L (takeS m (m.give.getD 0 ⟨[],0⟩).name) j
 else .ok m i
def migWords:List Str:=[[],[97,100,100],[100,114,111,112],[114,101,110,97,109,101],[115,112,108,105,116],[109,101,114,103,101],[114,101,116,121,112,101]]
def Ba (k:Int):Str:=if (decide (k<1) || decide (6<k))=true then [] else migWords.getD k.toNat []
def C8 (s:Str):Int:=if Ba 1==s then 1 else if Ba 2==s then 2 else if Ba 3==s then 3 else if Ba 4==s then 4 else if Ba 5==s then 5 else if Ba 6==s then 6 else 0
def Dy (L:List Tok) (i:Nat):PR Mov:=
 if ((A2 L i).kind != 2) || (C8 (A2 L i).text==0) then Oe L i 8
 else (Di L ⟨C8 (A2 L i).text,[],[],[],[]⟩ (i+1)).bind fun m j=>(Ay L [59] j).bind fun _ j=>.ok m j
/-- Moves, behind some. -/
def B9 (L:List Tok):Nat→List Mov→Nat→PR (List Mov)
 | 0,l,i=>.ok l i
 | f+1,l,i=>if (A2 L i).kind != 0 then (if (l.length:Int)==8 then Oe L i 3 else (Dy L i).bind fun m j=>B9 L f (l++[m]) j) else .ok l i
def Dg (L:List Tok):PR (List Mov):=B9 L 9 [] 0
/-- The moves; the fault's code and place. -/
def Cl (s:Str):List Mov×Int×Int:=
 if (Bv s).2.1 != 0 then ([],(Bv s).2.1,(Bv s).2.2)
 else match Dg (Bv s).1 with
  | .ok l _=>(l,0,0)
  | .bad e a=>([],e,a)
/-! Where the parser of moves comes to. -/
def PR.In {α:Type} (x:PR α) (i n:Nat):Prop:=∀r j,x=.ok r j→i<j∧j<n
theorem PR.bind_ok {α β:Type} {x:PR α} {f:α→Nat→PR β} {r:β} {j:Nat} (h:x.bind f=.ok r j):∃a k,x=.ok a k∧f a k=.ok r j:=by
 cases x with
 | ok a k=>exact ⟨a,k,rfl,h⟩
 | bad e a=>cases h
theorem km {L:List Tok} {s:Str} {i:Nat} (h:isP L s i=true):(A2 L i).kind≠0:=by
 unfold isP at h
 simp only [Bool.and_eq_true,Bool.or_eq_true,beq_iff_eq] at h
 rcases h.1 with h|h<;>rw [h]<;>decide
theorem C2 {L:List Tok} (hl:TokEnd L) {s:Str} {i:Nat} (hi:i<L.length):(Ay L s i).In i L.length:=by
 intro r j h
 unfold Ay at h
 split at h
 ·rename_i h1
  injection h with _ h
  subst h
  exact ⟨Nat.lt_succ_self i,hl.step hi (km h1)⟩
 cases h
theorem D8 {L:List Tok} (hl:TokEnd L) {i:Nat} (hi:i<L.length):(Cz L i).In i L.length:=by
 intro r j h
 unfold Cz at h
 split at h
 ·cases h
 rename_i h1
 injection h with _ h
 subst h
 have hk:(A2 L i).kind=1:=by simpa using h1
 exact ph
theorem Xr {L:List Tok} (hl:TokEnd L) {nm:Str} {i:Nat} (hi:i<L.length):(M7 L nm i).In i L.length:=by
 intro r j h
 unfold M7 at h
 split at h
 ·cases h
 rename_i h1
 injection h with _ h
 subst h
 have hk:(A2 L i).kind=2:=by simp only [Bool.not_eq_true,Bool.or_eq_false_iff,bne_eq_false_iff_eq] at h1;exact h1.1
 exact ph
theorem Lg {L:List Tok} (hl:TokEnd L) {i:Nat} (hi:i<L.length):(E1 L i).In i L.length:=by
 intro r j h
 obtain ⟨a,k,h1,h2⟩:=PR.bind_ok h
 obtain ⟨a1,a2⟩:=D8 hl hi _ _ h1
 obtain ⟨b1,b2⟩:=Xr hl a2 _ _ h2
 exact ⟨by omega,b2⟩
theorem Gb {L:List Tok} (hl:TokEnd L) (hll:L.length≤500000) {i:Nat} (hi:i<L.length) {x:Expr} {k:Nat} (h:E9 L i=.ok x k):i≤k∧k<L.length:=by
 unfold E9 at h
 split at h
 ·cases h
 rename_i h0
 injection h with _ h
 subst h
 have h0:(atM L i).2.2.1=0:=by simpa using h0
 have hq:=Oc hl (by omega:L.length≤1048576) hi
 unfold atM at h0 ⊢
 split at h0
 ·rename_i h1
  have:(atS L i (atR L i)).code=0:=h0
  rw [this] at h1
  cases h1
 rename_i h1
 rw [if_neg h1]
 have e:(atS L i (atR L i)).i=(atR L i).2.i:=by
  unfold atS
  repeat' split
  all_goals first|rfl|exact failM_i.1
 show i≤((atS L i (atR L i)).i:Int).toNat∧((atS L i (atR L i)).i:Int).toNat<_
 rw [Int.toNat_natCast,e]
 exact ⟨hq.le,hq.lt⟩
/-- A move has no more parts than so many. -/
structure MvLe (m:Mov) (n:Nat):Prop where
 take:m.take.length≤n
 give:m.give.length≤n
 ahead:m.ahead.length≤n
 back:m.back.length≤n
theorem MvLe.mono {m:Mov} {i j:Nat} (h:MvLe m i) (hij:i≤j):MvLe m j:=⟨Nat.le_trans h.take hij,Nat.le_trans h.give hij,Nat.le_trans h.ahead hij,Nat.le_trans h.back hij⟩
/-- What a part of a move comes to. -/
def n5 (x:PR Mov) (i n:Nat):Prop:=∀m j,x=.ok m j→i≤j∧j<n∧MvLe m (2*j)
/-- A part of a move that goes on from i. -/
def Pd (L:List Tok) (one:Mov→Nat→PR Mov):Prop:=∀m i,MvLe m (2*i-1)→0<i→i<L.length→n5 (one m i) i L.length
theorem Fj {L:List Tok} (hl:TokEnd L) (hll:L.length≤500000):Pd L (C1 L):=by
 intro m i hm _ hi m' k h
 obtain ⟨c,j,h1,h2⟩:=PR.bind_ok h
 obtain ⟨u,j2,h3,h4⟩:=PR.bind_ok h2
 obtain ⟨x,j3,h5,h6⟩:=PR.bind_ok h4
 injection h6 with h6 h7
 subst h6;subst h7
 have a1:=Lg hl hi _ _ h1
 have a2:=C2 hl a1.2 _ _ h3
 have a3:=Gb hl hll a2.2 h5
 obtain ⟨b1,b2,b3,b4⟩:=hm
 exact ⟨by omega,a3.2,by show m.take.length≤_;omega,by show (m.give++[c]).length≤_;rw [List.length_append,List.length_singleton];omega,by show (m.ahead++[x]).length≤_;rw [List.length_append,List.length_singleton];omega,by show m.back.length≤_;omega⟩
theorem Of {L:List Tok} (hl:TokEnd L) (hll:L.length≤500000):Pd L (Ii L):=by
 intro m i hm h0 hi m' k h
 obtain ⟨x,j,h1,h2⟩:=PR.bind_ok h
 injection h2 with h6 h7
 subst h6;subst h7
 have a3:=Gb hl hll hi h1
 obtain ⟨b1,b2,b3,b4⟩:=hm
 exact ⟨by omega,a3.2,by show m.take.length≤_;omega,by show m.give.length≤_;omega,by show m.ahead.length≤_;omega,by show (m.back++[x]).length≤_;rw [List.length_append,List.length_singleton];omega⟩
theorem Kl {L:List Tok} (hl:TokEnd L):Pd L (Hr L):=by
 intro m i hm _ hi m' k h
 obtain ⟨s,j,h1,h2⟩:=PR.bind_ok h
 injection h2 with h6 h7
 subst h6;subst h7
 have a1:=D8 hl hi _ _ h1
 obtain ⟨b1,b2,b3,b4⟩:=hm
 exact ⟨by omega,a1.2,by show (m.take++[s]).length≤_;rw [List.length_append,List.length_singleton];omega,by show m.give.length≤_;omega,by show m.ahead.length≤_;omega,by show m.back.length≤_;omega⟩
theorem Fy {L:List Tok} {s:Str} {i:Nat} {u:Unit} {j:Nat} (h:Ay L s i=.ok u j):j=i+1:=by
 unfold Ay at h
 split at h
 ·injection h with _ h;exact h.symm
 cases h
theorem Tz {L:List Tok} (hl:TokEnd L) {n:Int} {one:Mov→Nat→PR Mov} (hP:Pd L one):∀(f k:Nat) (m:Mov) (i:Nat),MvLe m (2*i)→0<i→i<L.length→n5 (Ei L n one f k m i) i L.length
 | 0,k,m,i,hm,h0,hi=>fun m' j h=>by
  injection h with h1 h2
  subst h1;subst h2
  exact ⟨Nat.le_refl _,hi,hm⟩
 | f+1,k,m,i,hm,h0,hi=>fun m' j h=>by
  rw [Ei] at h
  split at h
  ·obtain ⟨u,j1,h1,h2⟩:=PR.bind_ok h
   obtain ⟨m1,j2,h3,h4⟩:=PR.bind_ok h2
   have e:=Fy h1
   have a1:=C2 hl hi _ _ h1
   obtain ⟨b1,b2,b3⟩:=hP m j1 (hm.mono (by omega)) (by omega) a1.2 _ _ h3
   obtain ⟨c1,c2,c3⟩:=Tz hl hP f (k+1) m1 j2 b3 (by omega) b2 _ _ h4
   exact Ve
  injection h with h1 h2
  subst h1;subst h2
  exact ⟨Nat.le_refl _,hi,hm⟩
theorem Km {L:List Tok} (hl:TokEnd L) {n:Int} {one:Mov→Nat→PR Mov} (hP:Pd L one):Pd L (Ds L n one):=by
 intro m i hm h0 hi m' k h
 obtain ⟨m1,j,h1,h2⟩:=PR.bind_ok h
 obtain ⟨b1,b2,b3⟩:=hP m i hm h0 hi _ _ h1
 obtain ⟨c1,c2,c3⟩:=Tz hl hP _ _ m1 j b3 (by omega) b2 _ _ h2
 exact Ve
theorem Mt {L:List Tok} (hl:TokEnd L) (hll:L.length≤500000) {m:Mov} {i:Nat} (hm:MvLe m (2*i)) (hi:i<L.length):n5 (Ct L m i) i L.length:=by
 intro m' k h
 obtain ⟨u,j,h1,h2⟩:=PR.bind_ok h
 have e:=Fy h1
 have a1:=C2 hl hi _ _ h1
 obtain ⟨c1,c2,c3⟩:=Km hl (Of hl hll) m j (hm.mono (by omega)) (by omega) a1.2 _ _ h2
 exact Ve
theorem af {L:List Tok} (hl:TokEnd L):Pd L (Eh L):=by
 intro m i hm h0 hi m' k h
 obtain ⟨s,j,h1,h2⟩:=PR.bind_ok h
 obtain ⟨u,j2,h3,h4⟩:=PR.bind_ok h2
 obtain ⟨t,j3,h5,h6⟩:=PR.bind_ok h4
 injection h6 with h6 h7
 subst h6;subst h7
 have a1:=D8 hl hi _ _ h1
 have a2:=C2 hl a1.2 _ _ h3
 have a3:=D8 hl a2.2 _ _ h5
 exact ⟨by omega,a3.2,by show 1≤_;omega,by show 1≤_;omega,by show 1≤_;omega,by show 1≤_;omega⟩
theorem MvLe.takeS {m:Mov} {n:Nat} (h:MvLe m n) {s:Str} (h1:1≤n):MvLe (takeS m s) n:=⟨h1,h.give,h.ahead,h.back⟩
theorem Rt {L:List Tok} (hl:TokEnd L) (hll:L.length≤500000):Pd L (Di L):=by
 intro m i hm h0 hi m' k h
 unfold Di at h
 split at h
 ·exact Fj hl hll m i hm h0 hi _ _ h
 split at h
 ·obtain ⟨s,j,h1,h2⟩:=PR.bind_ok h
  have a1:=D8 hl hi _ _ h1
  obtain ⟨c1,c2,c3⟩:=Mt hl hll ((hm.mono (by omega:2*i-1≤2*j)).takeS (by omega)) a1.2 _ _ h2
  exact Ve
 split at h
 ·exact af hl m i hm h0 hi _ _ h
 split at h
 ·obtain ⟨s,j,h1,h2⟩:=PR.bind_ok h
  obtain ⟨u,j2,h3,h4⟩:=PR.bind_ok h2
  obtain ⟨m1,j3,h5,h6⟩:=PR.bind_ok h4
  have a1:=D8 hl hi _ _ h1
  have a2:=C2 hl a1.2 _ _ h3
  obtain ⟨b1,b2,b3⟩:=Km hl (Fj hl hll) (takeS m s) j2 ((hm.mono (by omega:2*i-1≤2*j2-1)).takeS (by omega)) (by omega) a2.2 _ _ h5
  obtain ⟨c1,c2,c3⟩:=Mt hl hll b3 b2 _ _ h6
  exact Ve
 split at h
 ·obtain ⟨m1,j,h1,h2⟩:=PR.bind_ok h
  obtain ⟨u,j2,h3,h4⟩:=PR.bind_ok h2
  obtain ⟨m2,j3,h5,h6⟩:=PR.bind_ok h4
  obtain ⟨b1,b2,b3⟩:=Km hl (Kl hl) m i hm h0 hi _ _ h1
  have e:=Fy h3
  have a2:=C2 hl b2 _ _ h3
  obtain ⟨d1,d2,d3⟩:=Fj hl hll m1 j2 (b3.mono (by omega)) (by omega) a2.2 _ _ h5
  obtain ⟨c1,c2,c3⟩:=Mt hl hll d3 d2 _ _ h6
  exact Ve
 split at h
 ·obtain ⟨m1,j,h1,h2⟩:=PR.bind_ok h
  obtain ⟨d1,d2,d3⟩:=Fj hl hll m i hm h0 hi _ _ h1
  obtain ⟨c1,c2,c3⟩:=Mt hl hll (d3.takeS (by omega)) d2 _ _ h2
  exact Ve
 injection h with h1 h2
 subst h1;subst h2
 exact ⟨Nat.le_refl _,hi,hm.mono (by omega)⟩
set_option maxRecDepth 8000
/-! The words of a print. -/
theorem kn (c:UInt8) (of:Str):Gu [c] of=if of.contains c then 1 else 0:=by
 have e2:=Gx [c] of
 have e3:=Mo [c] of
 have hle:runN [c] of≤1:=Nat.sub_le _ _
 have hlen:(Aq [c] of).length=runN [c] of:=by unfold Aq;rw [List.length_take];simp;omega
 rw [e3,←hlen,e2,List.takeWhile_cons]
 cases of.contains c<;>rfl
/-! What a tree comes to: eval's model. -/
abbrev Rs:=Val×Int
def Og (e:Int):Rs:=(noV,e)
def qh (s:Str):Val:=⟨2,0,s.take 200⟩
def Fz (r:Rs):Rs:=if (r.2==0)&&(r.1.kind != 0)&&(r.1.kind != 3) then Og 10 else r
def f8 (strong:Val) (a b:Rs):Rs:=if ((Fz a).2 != 0) || ((Fz a).1==strong) then Fz a else if (((Fz b).2 != 0) || ((Fz b).1==strong)) || ((Fz a).1.kind != 0) then Fz b else ((Fz a).1,0)
def ifW:Str:=[105,102]
def ko:Str:=[110,118,108]
def Kn:Str:=[105,115,110,117,108,108]
def qi (t:Str) (a b c:Rs):Rs:=
 if t==ifW then (if (Fz a).2 != 0 then Og (Fz a).2 else if (Fz a).1==Sz true then b else c)
 else if a.2 != 0 then Og a.2 else if t==Kn then (Sz (a.1.kind==0),0) else if a.1.kind != 0 then (a.1,0) else b
def sr (strict:List Val→Rs) (l:List Rs):Rs:=match l.find? (fun q=>q.2 != 0) with|some q=>Og q.2|none=>if l.any (fun q=>q.1.kind==0) then (noV,0) else strict (l.map (·.1))
def Oh (c:List Col) (l:List Val) (t:Str):Rs:=if X3 t c<0 then Og 9 else (l.getD (X3 t c).toNat noV,0)
def orW:Str:=[111,114]
def su:Str:=[97,110,100]
/-- A node, of what its kids come to; what a strict node comes to is a parameter. -/
def lw (strict:Int→Str→List Val→Rs) (c:List Col) (l:List Val) (o:Int) (t:Str) (v:Val) (ks:List Rs):Rs:=
 if o==1 then (v,0) else if o==2 then Oh c l t
 else if (o==5)&&(t==orW) then f8 (Sz true) (ks.getD 0 (noV,0)) (ks.getD 1 (noV,0))
 else if (o==5)&&(t==su) then f8 (Sz false) (ks.getD 0 (noV,0)) (ks.getD 1 (noV,0))
 else if (o==6)&&(((t==ifW) || (t==ko)) || (t==Kn)) then qi t (ks.getD 0 (noV,0)) (ks.getD 1 (noV,0)) (ks.getD 2 (noV,0))
 else sr (strict o t) ks
mutual
def M8 (strict:Int→Str→List Val→Rs) (c:List Col) (l:List Val):Expr→Rs
 | .mk o t v k=>lw strict c l o t v (Q9 strict c l k)
def Q9 (strict:Int→Str→List Val→Rs) (c:List Col) (l:List Val):List Expr→List Rs
  | []=>[]
  | e::r=>M8 strict c l e::Q9 strict c l r
 end
/-! A tree in a column's place comes to what its value would there. -/
mutual
theorem eval_put {f:Int→Str→List Val→Rs} {c:List Col} {l m:List Val} {s:Str} {y:Expr} (hs:Oh c m s=M8 f c l y) (ho:∀t,t≠s→Oh c m t=Oh c l t):∀x:Expr,M8 f c l (mu s y x)=M8 f c m x
 | .mk o t v k=>by
  rw [mu]
  split
  ·rename_i h
   rw [Bool.and_eq_true,beq_iff_eq,beq_iff_eq] at h
   obtain ⟨rfl,rfl⟩:=h
   rw [←hs,M8]
   rfl
  rename_i h
  rw [M8,M8,Qa hs ho k]
  unfold lw
  by_cases h2:(o==2)=true
  ·have:t≠s:=fun e=>h (by rw [h2,e];simp)
   rw [ho t this]
  rw [if_neg h2,if_neg h2]
theorem Qa {f:Int→Str→List Val→Rs} {c:List Col} {l m:List Val} {s:Str} {y:Expr} (hs:Oh c m s=M8 f c l y) (ho:∀t,t≠s→Oh c m t=Oh c l t):∀k:List Expr,Q9 f c l (jx s y k)=Q9 f c m k
  | []=>rfl
  | e::r=>by rw [jx,Q9,Q9,eval_put hs ho e,Qa hs ho r]
 end
/-! Who is not named plays no part. -/
/-! What a strict node comes to. -/
/-! Values are plain, and their numbers have 64 bits. -/
structure Fine (v:Val):Prop where
 plain:Ce v=true
 lo : -9223372036854775808≤v.n
 hi:v.n≤9223372036854775807
theorem f9 (s:Str):Fine (qh s):=⟨by
 unfold Ce qh
 simp only [show ((2:Int)==0)=false from rfl,show ((2:Int)==1)=false from rfl,show ((2:Int)==2)=true from rfl,Bool.false_eq_true,if_false,if_true,show ((0:Int)==0)=true from rfl,Bool.true_and,decide_eq_true_eq,List.length_take]
 omega,by show -9223372036854775808≤(0:Int);decide,by show (0:Int)≤9223372036854775807;decide⟩
/-! A text between marks. -/
set_option maxRecDepth 4000
theorem Ru (o:Int) (t:Str) (v:Val) (k:List Expr):A6 (.mk o t v k)=.agg [A5 o,.v (sv t),A5 v.kind,A5 v.n,.v (sv v.s),.slice false 6 (k.map A6)]:=by rw [A9];rfl
set_option maxRecDepth 8000
/-! Who decides decides: the law's sources, columns and truths. -/
/-! Rows. -/
/-! Rows that differ in what is not named. -/
/-! Who has a kind comes to it. -/
theorem Oi {t:Str} {n:Nat} (h:Az t=(n:Int)):(t=[108,101,110]∧n=1)∨(t=[115,116,114]∧n=1)∨(t=[110,117,109]∧n=1)∨(t=Kn∧n=1)∨(t=ko∧n=2)∨(t=[108,101,102,116]∧n=2)∨(t=[114,105,103,104,116]∧n=2)∨(t=ifW∧n=3):=by
 by_cases hm:t∈arityList.map (·.1)
 ·have ha:∀s∈arityList.map (·.1),(s=[108,101,110]∧Az s=1)∨(s=[115,116,114]∧Az s=1)∨(s=[110,117,109]∧Az s=1)∨(s=Kn∧Az s=1)∨(s=ko∧Az s=2)∨(s=[108,101,102,116]∧Az s=2)∨(s=[114,105,103,104,116]∧Az s=2)∨(s=ifW∧Az s=3):=by
   have:((arityList.map (·.1)).all fun s=>decide ((s=[108,101,110]∧Az s=1)∨(s=[115,116,114]∧Az s=1)∨(s=[110,117,109]∧Az s=1)∨(s=Kn∧Az s=1)∨(s=ko∧Az s=2)∨(s=[108,101,102,116]∧Az s=2)∨(s=[114,105,103,104,116]∧Az s=2)∨(s=ifW∧Az s=3)))=true:=by kernel_rfl
   exact fun s hs=>of_decide_eq_true (List.all_eq_true.1 this s hs)
  have:=ha t hm
  rw [h] at this
  rcases this with ⟨e,h2⟩|⟨e,h2⟩|⟨e,h2⟩|⟨e,h2⟩|⟨e,h2⟩|⟨e,h2⟩|⟨e,h2⟩|⟨e,h2⟩
  ·exact .inl ⟨e,by omega⟩
  ·exact .inr (.inl ⟨e,by omega⟩)
  ·exact .inr (.inr (.inl ⟨e,by omega⟩))
  ·exact .inr (.inr (.inr (.inl ⟨e,by omega⟩)))
  ·exact .inr (.inr (.inr (.inr (.inl ⟨e,by omega⟩))))
  ·exact .inr (.inr (.inr (.inr (.inr (.inl ⟨e,by omega⟩)))))
  ·exact .inr (.inr (.inr (.inr (.inr (.inr (.inl ⟨e,by omega⟩))))))
  exact .inr (.inr (.inr (.inr (.inr (.inr (.inr ⟨e,by omega⟩))))))
 have h1:Az t = -1:=by
  unfold Az
  rw [List.find?_eq_none.2 fun p hp=>by
   simp only [beq_iff_eq]
   rintro rfl
   exact hm (List.mem_map.2 ⟨p,hp,rfl⟩)]
 omega
/-! The print of a tree, and its words. -/
def Ht (least:Nat) (x:Expr) (s:Str):Str:=if least≤levE x then s else 40::(s++[41])
def Eb:List Str→Str
 | []=>[]
 | s::r=>44::32::(s++Eb r)
def Ko (o:Int) (t:Str) (v:Val) (k:List Expr) (ss:List Str):Str:=
 if o==1 then Dp v else if o==2 then t
 else if o==3 then 45::Ht 6 (k.getD 0 Ae) (ss.getD 0 [])
 else if o==4 then aa++32::Ht 2 (k.getD 0 Ae) (ss.getD 0 [])
 else if o==5 then Ht (Df (Ag t).toNat) (k.getD 0 Ae) (ss.getD 0 [])++32::(t++32::Ht ((Ag t).toNat+1) (k.getD 1 Ae) (ss.getD 1 []))
 else t++40::((Eb ss).drop 2++[41])
mutual
def Ab:Expr→Str
 | .mk o t v k=>Ko o t v k (Ij k)
def Ij:List Expr→List Str
  | []=>[]
  | e::r=>Ab e::Ij r
 end
theorem Jq:∀l,Ij l=l.map Ab
 | []=>rfl
 | e::r=>by rw [Ij,Jq r];rfl
theorem n6 (v:Val):Ab (F4 v)=Dp v:=by simp [F4,Ab,Ko]
theorem kp (t:Str):Ab (Bk t)=t:=by simp [Bk,Ab,Ko]
theorem n7 (a:Expr):Ab (Cc 3 a)=45::Ht 6 a (Ab a):=by simp [Cc,Ab,Ij,Ko]
theorem qj (a:Expr):Ab (Cc 4 a)=aa++32::Ht 2 a (Ab a):=by simp [Cc,Ab,Ij,Ko]
theorem n8 (t:Str) (a b:Expr):Ab (Cp t a b)=Ht (Df (Ag t).toNat) a (Ab a)++32::(t++32::Ht ((Ag t).toNat+1) b (Ab b)):=by simp [Cp,Ab,Ij,Ko]
theorem kq (t:Str) (k:List Expr):Ab (.mk 6 t noV k)=t++40::((Eb (Ij k)).drop 2++[41]):=by simp [Ab,Ko]
/-! What was parsed nests no deeper than may be. -/
structure NB (N k:Nat) (r:Expr×PS):Prop where
 nest:r.2.nest=N
 need:r.2.code=0→N+Ef k r.1 (Bh r.1)≤30
def NF (N k:Nat) (f:PS→Expr×PS):Prop:=∀S:PS,S.nest=N→NB N k (f S)
theorem ag {k k':Nat} (h:k≤k') (x:Expr) (n:Nat):Ef k x n≤Ef k' x n:=by
 unfold Ef
 split
 ·split<;>omega
 rw [if_neg (by omega)];exact Nat.le_refl _
theorem Kp (k:Nat) (x:Expr) (n:Nat):n≤Ef k x n∧Ef k x n≤n+1:=by unfold Ef;split<;>omega
theorem NB.down {N k k':Nat} {r:Expr×PS} (h:NB N k' r) (hk:k≤k'):NB N k r:=⟨h.nest,fun h0=>by
 have:=h.need h0
 have:=ag hk r.1 (Bh r.1)
 omega⟩
theorem J4 (e a:Int) (S:PS):(Bu e a S).nest=S.nest:=by unfold Bu;split<;>rfl
theorem Fm {e a:Int} (he:e≠0) (S:PS):(Bu e a S).code≠0:=by
 unfold Bu
 split
 ·exact he
 rename_i h;simpa using h
theorem Lh (l:List Tok) (s:Str) (S:PS):(Bl l s S).nest=S.nest:=by
 unfold Bl
 split
 ·rfl
 split
 ·exact J4 _ _ _
 rfl
theorem H1 {l:List Tok} {s:Str} {S:PS} (h:(Bl l s S).code=0):S.code=0:=by
 unfold Bl at h
 split at h
 ·exact h
 rename_i h0;simpa using h0
theorem Li {N k:Nat} {a:Int} {f:PS→Expr×PS} (hN:N≤30) (hf:N<30→NF (N+1) k f) {S:PS} (hS:S.nest=N):(Af a f S).2.nest=N∧((Af a f S).2.code=0→N+1+Ef k (Af a f S).1 (Bh (Af a f S).1)≤30):=by
 unfold Af
 split
 ·exact pi
 rename_i h
 have hlt:N<30:=by simp at h;omega
 have:=hf hlt (Ah S) (by show S.nest+1=N+1;omega)
 refine ⟨?_,fun h0=>this.need h0⟩
 show (f (Ah S)).2.nest-1=N
 rw [this.nest]
 rfl
theorem Xs {N:Nat} {l:List Tok} {f:PS→Expr×PS} (hf:NF N 0 f):∀(n:Nat) (r:List Expr×PS),r.2.nest=N→(r.2.code=0→∀y∈r.1,N+Bh y≤30)→(argsF l f n r).2.nest=N∧((argsF l f n r).2.code=0→∀y∈(argsF l f n r).1,N+Bh y≤30)
 | 0,r,h1,h2=>⟨h1,h2⟩
 | n+1,r,h1,h2=>by
  rw [argsF]
  split
  ·rename_i hc
   simp only [Bool.and_eq_true,beq_iff_eq] at hc
   have hq:=hf (A3 r.2) h1
   refine Xs hf n _ hq.nest (fun h0 y hy=>?_)
   rcases List.mem_append.1 hy with hy|hy
   ·exact h2 hc.1 y hy
   rw [List.mem_singleton.1 hy]
   have:=hq.need h0
   have:=(Kp 0 (f (A3 r.2)).1 (Bh (f (A3 r.2)).1)).1
   omega
  exact ⟨h1,h2⟩
theorem kr {l:List Expr} {m:Nat} (h:∀y∈l,Bh y≤m):ew (Kj l)≤m:=by
 induction l with
 | nil=>exact Nat.zero_le _
 | cons a r ih =>
  rw [Kj,ew]
  have h1:=h a List.mem_cons_self
  have h2:=ih fun y hy=>h y (List.mem_cons_of_mem _ hy)
  omega
theorem kt {N:Nat} {l:List Tok} {a:Int} {f:PS→Expr×PS} (hN:N≤30) (hf:N<30→NF (N+1) 0 f) {S:PS} (hS:S.nest=N):(Dx l a f S).2.nest=N∧((Dx l a f S).2.code=0→∀y∈(Dx l a f S).1,N+1+Bh y≤30):=by
 unfold Dx
 split
 ·exact pi
 rename_i h
 have hlt:N<30:=by simp at h;omega
 have hq:=hf hlt (Ah S) (by show S.nest+1=N+1;omega)
 obtain ⟨h1,h2⟩:=Xs (l:=l) (hf hlt) l.length ([(f (Ah S)).1],(f (Ah S)).2) hq.nest (fun h0 y hy=>by
  rw [List.mem_singleton.1 hy]
  have:=hq.need h0
  have:=(Kp 0 (f (Ah S)).1 (Bh (f (Ah S)).1)).1
  omega)
 refine ⟨?_,h2⟩
 show (Dw l f (Ah S)).2.nest-1=N
 unfold Dw
 rw [h1]
 rfl
theorem ku {N:Nat} {l:List Tok} {D:Fam} (hN:N≤30) (hD:N<30→NF (N+1) 0 D.ei):NF N 7 (Cr l D):=fun S hS=>by
 have leaf:∀(x:Expr) (S':PS),S'.nest=N→Bh x=0→levE x=7→NB N 7 (x,S'):=fun x S' h1 h2 h3=>⟨h1,fun _=>by
  show N+Ef 7 x (Bh x)≤30
  unfold Ef
  rw [h3,h2,if_pos (by decide)]
  omega⟩
 have bad:∀(x:Expr) (S':PS),S'.nest=N→S'.code≠0→NB N 7 (x,S'):=fun x S' h1 h2=>⟨h1,fun h=>absurd h h2⟩
 unfold Cr
 split
 ·rename_i h;exact bad _ _ hS (by simpa using h)
 split
 ·exact leaf _ _ hS (Tu _) (Xk _)
 split
 ·exact leaf _ _ hS (Tu _) (Xk _)
 split
 ·split
  ·unfold D0
   split
   ·exact pj
   have hk:=kt (l:=l) (a:=(A2 l (A3 S).i).at_) hN hD (show (A3 (A3 S)).nest=N from hS)
   split
   ·exact bad _ _ ((J4 _ _ _).trans ((Lh _ _ _).trans hk.1)) (Fm (by decide) _)
   refine ⟨(Lh _ _ _).trans hk.1,fun h0=>?_⟩
   have hkk:=hk.2 (H1 h0)
   show N+Ef 7 (.mk 6 _ noV (Ar l D (A3 S)).1) (Bh (.mk 6 _ noV (Ar l D (A3 S)).1))≤30
   rw [ae]
   unfold Ef
   rw [f6,if_pos (by decide)]
   by_cases hlt:N<30
   ·have:=kr (l:=(Ar l D (A3 S)).1) (m:=30-N-1) (fun y hy=>by have:=hkk y hy;omega)
    omega
   exfalso
   have hc:=H1 h0
   unfold Ar Dx at hc
   rw [if_pos (by show ((S.nest:Int)==30)=true;simp;omega)] at hc
   exact Fm (by decide) _ hc
  exact leaf _ _ hS (ac _) (f5 _)
 split
 ·have hw:=Li (a:=(A2 l S.i).at_) hN hD (show (A3 S).nest=N from hS)
  refine ⟨(Lh _ _ _).trans hw.1,fun h0=>?_⟩
  have h1:=hw.2 (H1 h0)
  have h2:=(Kp 0 (Af (A2 l S.i).at_ D.ei (A3 S)).1 (Bh (Af (A2 l S.i).at_ D.ei (A3 S)).1)).1
  have h3:=(Kp 7 (Af (A2 l S.i).at_ D.ei (A3 S)).1 (Bh (Af (A2 l S.i).at_ D.ei (A3 S)).1)).2
  show N+Ef 7 (Af (A2 l S.i).at_ D.ei (A3 S)).1 (Bh (Af (A2 l S.i).at_ D.ei (A3 S)).1)≤30
  omega
 exact pj
theorem fe {N:Nat} {l:List Tok} {D:Fam} (hN:N≤30) (hD:N<30→NF (N+1) 0 D.ei) (hn:N<30→NF (N+1) 6 D.ne):NF N 6 (Gj l D):=fun S hS=>by
 unfold Gj
 split
 ·exact (ku hN hD S hS).down (by decide)
 have hw:=Li (a:=(A2 l S.i).at_) hN hn (show (A3 S).nest=N from hS)
 refine ⟨hw.1,fun h0=>?_⟩
 have h1:=hw.2 h0
 show N+Ef 6 (Cc 3 (Af (A2 l S.i).at_ D.ne (A3 S)).1) _≤30
 unfold Ef
 rw [ki,if_pos (by decide),ey]
 omega
theorem Hm {N k:Nat} {l:List Tok} {f:PS→Expr×PS} (hk:k=0∨k=1∨k=4∨k=5) (hf:NF N (k+1) f):NF N k (Cq l (ofL k) f):=by
 have hloop:∀(n:Nat) (r:Expr×PS),NB N k r→NB N k (Cx l (ofL k) f n r):=by
  intro n
  induction n with
  | zero=>exact fun r h=>h
  | succ n ih =>
   intro r h
   rw [Cx]
   split
   ·rename_i hc
    simp only [Bool.and_eq_true,beq_iff_eq] at hc
    have hq:=hf (A3 r.2) h.nest
    refine ih _ ⟨hq.nest,fun h0=>?_⟩
    have hlv:Ag (A2 l r.2.i).text=(k:Int):=by
     have hm:=hc.2
     unfold isM at hm
     rw [Bool.and_eq_true] at hm
     have:=hm.2
     rw [Hl (Tw hk)] at this
     simpa using this
    have h1:=h.need hc.1
    have h2:=hq.need h0
    have hfl:Df k=k:=by unfold Df;rw [if_neg (by omega)]
    show N+Ef k (Cp (A2 l r.2.i).text r.1 (f (A3 r.2)).1) (Bh (Cp (A2 l r.2.i).text r.1 (f (A3 r.2)).1))≤30
    rw [Tv,hlv]
    rw [show Ef k (Cp (A2 l r.2.i).text r.1 (f (A3 r.2)).1) _=_ from if_pos (by rw [Xl,hlv];simp)]
    rw [Int.toNat_natCast,hfl]
    omega
   exact h
 exact fun S hS=>hloop _ _ ((hf S hS).down (Nat.le_succ k))
theorem ff {N:Nat} {l:List Tok} {D:Fam} (hf:NF N 4 (Au l D)):NF N 3 (Bo l D):=fun S hS=>by
 unfold Bo
 split
 ·exact (hf S hS).down (by decide)
 rename_i hc
 simp only [Bool.or_eq_true,not_or,bne_iff_ne,ne_eq,Decidable.not_not,Bool.not_eq_true',Bool.not_eq_false] at hc
 have hx:=hf S hS
 have hq:=hf (A3 (Au l D S).2) hx.nest
 refine ⟨hq.nest,fun h0=>?_⟩
 have hlv:Ag (A2 l (Au l D S).2.i).text=((3:Nat):Int):=by
  have hm:=hc.2
  unfold isM at hm
  rw [Bool.and_eq_true] at hm
  have:=hm.2
  rw [show Rn=ofL 3 from rfl,Hl (.inr (.inr (.inl rfl)))] at this
  simpa using this
 have h1:=hx.need hc.1
 have h2:=hq.need h0
 show N+Ef 3 (Cp (A2 l (Au l D S).2.i).text (Au l D S).1 (Au l D (A3 (Au l D S).2)).1) (Bh (Cp (A2 l (Au l D S).2.i).text (Au l D S).1 (Au l D (A3 (Au l D S).2)).1))≤30
 rw [Tv,hlv]
 rw [show Ef 3 (Cp (A2 l (Au l D S).2.i).text (Au l D S).1 (Au l D (A3 (Au l D S).2)).1) _=_ from if_pos (by rw [Xl,hlv];simp)]
 rw [Int.toNat_natCast,show Df 3=4 from rfl,show 3+1=4 from rfl]
 omega
theorem fg {N:Nat} {l:List Tok} {D:Fam} (hN:N≤30) (hf:NF N 3 (Bo l D)) (hn:N<30→NF (N+1) 2 D.no):NF N 2 (Gk l D):=fun S hS=>by
 unfold Gk
 split
 ·exact (hf S hS).down (by decide)
 have hw:=Li (a:=(A2 l S.i).at_) hN hn (show (A3 S).nest=N from hS)
 refine ⟨hw.1,fun h0=>?_⟩
 have h1:=hw.2 h0
 show N+Ef 2 (Cc 4 (Af (A2 l S.i).at_ D.no (A3 S)).1) _≤30
 unfold Ef
 rw [mx,if_pos (by decide),kg]
 omega
theorem Wd (l:List Tok):∀(d N:Nat),N+d=30→NF N 0 (Fh l (B4 l d))∧NF N 2 (Gk l (B4 l d))∧NF N 6 (Gj l (B4 l d))
 | d,N,h=>by
  have ih:N<30→NF (N+1) 0 (B4 l d).ei∧NF (N+1) 2 (B4 l d).no∧NF (N+1) 6 (B4 l d).ne:=fun hlt=>by
   match d,h with
   | 0,h=>omega
   | d+1,h=>exact Wd l d (N+1) (by omega)
  have hneg:=fe (l:=l) (D:=B4 l d) (by omega) (fun h=>(ih h).1) (fun h=>(ih h).2.2)
  have hsum:NF N 4 (Au l (B4 l d)):=Hm (k:=4) (by decide) (Hm (k:=5) (by decide) hneg)
  have hno:=fg (by omega) (ff hsum) (fun h=>(ih h).2.1)
  exact ⟨Hm (k:=0) (by decide) (Hm (k:=1) (by decide) hno),hno,hneg⟩
theorem ah:Bh Ae≤30:=by decide
/-! What nests too deep is told to be too deep. -/
def F2 (l:List Tok) (x:Expr):Prop:=∀(k:Nat) (S:PS) (rest:List TK),(k=0∨k=1∨k=4∨k=5)→k≤levE x→S.code=0→S.nest≤30→30<S.nest+Bh x→seg l S.i=Ob x++rest→eu (k+1) rest→(Cq l (ofL k) (pf l (fam l S.nest) (k+1)) S).2.code=18
/-! What was parsed is right, where the words are the lexer's. -/
/-- What the lexer's words are. -/
structure WordOk (t:Tok):Prop where
 name:t.kind=1→Fc t.text=true
 num:t.kind=3→Ce (Cj t.text).1=true∧0≤(Cj t.text).1.n∧(Cj t.text).1.n≤9223372036854775807
def RB (r:Expr×PS):Prop:=r.2.code=0→Ci Bj r.1=true∧Ci Eo r.1=true
def RF (N:Nat) (f:PS→Expr×PS):Prop:=∀S:PS,S.nest=N→RB (f S)
theorem fh {t:Str} {x y:Expr} (ht:0≤Ag t):Bj (Cp t x y)=true:=by
 rw [F5,Cp,E4]
 simp [ht,show F1 noV=true from rfl]
theorem ai (x:Expr):Bj (Cc 3 x)=true:=by rw [F5,Cc,E4];simp [show F1 noV=true from rfl]
theorem aj (x:Expr):Bj (Cc 4 x)=true:=by rw [F5,Cc,E4];simp [show F1 noV=true from rfl]
theorem ak {v:Val} (h:Ce v=true) (h0:0≤v.n):Bj (F4 v)=true:=by rw [F5,F4,E4];simp [h,h0]
theorem We {t:Str} (h:Fc t=true):Bj (Bk t)=true:=by rw [F5,Bk,E4];simp [h,show F1 ⟨0,0,[]⟩=true from rfl]
theorem al {t:Str} {k:List Expr} (h:Az t=(k.length:Int)):Bj (.mk 6 t noV k)=true:=by rw [F5,E4];simp [h,show F1 noV=true from rfl]
theorem fj {t:Str} {x y:Expr} (ht:0≤Ag t) (hx:Ci Bj x=true∧Ci Eo x=true) (hy:Ci Bj y=true∧Ci Eo y=true):Ci Bj (Cp t x y)=true∧Ci Eo (Cp t x y)=true:=by
 rw [E0,E0]
 refine ⟨?_,?_⟩
 ·rw [fh ht]
  show (true&&(Ci Bj x&&(Ci Bj y&&true)))=true
  rw [hx.1,hy.1];rfl
 show (Eo (Cp t x y)&&(Ci Eo x&&(Ci Eo y&&true)))=true
 rw [hx.2,hy.2];rfl
theorem fk {o:Int} {x:Expr} (ho:Bj (Cc o x)=true) (hx:Ci Bj x=true∧Ci Eo x=true):Ci Bj (Cc o x)=true∧Ci Eo (Cc o x)=true:=by
 rw [E0,E0]
 refine ⟨?_,?_⟩
 ·rw [ho]
  show (true&&(Ci Bj x&&true))=true
  rw [hx.1];rfl
 show (Eo (Cc o x)&&(Ci Eo x&&true))=true
 rw [hx.2];rfl
theorem Xt {x:Expr} (hn:Bj x=true) (hr:Eo x=true) (hk:x.kids=[]):Ci Bj x=true∧Ci Eo x=true:=by
 rw [E0,E0,hk,hn,hr]
 exact ⟨rfl,rfl⟩
theorem Lj {N:Nat} {a:Int} {f:PS→Expr×PS} (hN:N≤30) (hf:N<30→RF (N+1) f) {S:PS} (hS:S.nest=N):RB (Af a f S):=by
 unfold Af
 split
 ·exact j7
 rename_i h
 exact hf (by simp at h;omega) (Ah S) (by show S.nest+1=N+1;omega)
theorem Xu {N:Nat} {l:List Tok} {f:PS→Expr×PS} (hn:NF N 0 f) (hf:RF N f):∀(n:Nat) (r:List Expr×PS),r.2.nest=N→(r.2.code=0→∀y∈r.1,Ci Bj y=true∧Ci Eo y=true)→((argsF l f n r).2.code=0→∀y∈(argsF l f n r).1,Ci Bj y=true∧Ci Eo y=true)
 | 0,r,h1,h2=>h2
 | n+1,r,h1,h2=>by
  rw [argsF]
  split
  ·rename_i hc
   simp only [Bool.and_eq_true,beq_iff_eq] at hc
   refine Xu hn hf n _ (hn (A3 r.2) h1).nest (fun h0 y hy=>?_)
   rcases List.mem_append.1 hy with hy|hy
   ·exact h2 hc.1 y hy
   rw [List.mem_singleton.1 hy]
   exact hf (A3 r.2) h1 h0
  exact h2
theorem kv {t:Str} (h:Ff t Wa=true):Ce (Cj t).1=true∧0≤(Cj t).1.n∧(Cj t).1.n≤9223372036854775807:=by
 rw [mw] at h
 simp only [Bool.and_eq_true,litWords,List.contains_cons,List.contains_nil,Bool.or_false,Bool.or_eq_true,beq_iff_eq] at h
 rcases h.2 with rfl|rfl|rfl
 ·exact md
 ·exact md
 exact md
theorem kw {v:Val} (h0:0≤v.n) (h1:v.n≤9223372036854775807):Eo (F4 v)=true:=by
 show (decide (-9223372036854775808≤v.n)&&decide (v.n≤9223372036854775807))=true
 simp only [Bool.and_eq_true,decide_eq_true_eq]
 omega
theorem kx {N:Nat} {l:List Tok} {D:Fam} (hw:∀i,WordOk (A2 l i)) (hN:N≤30) (hD:N<30→NF (N+1) 0 D.ei) (hR:N<30→RF (N+1) D.ei):RF N (Cr l D):=fun S hS=>by
 have val:∀(v:Val) (S':PS),Ce v=true→0≤v.n→v.n≤9223372036854775807→RB (F4 v,S'):=fun v S' h1 h2 h3 _=>Xt (ak h1 h2) (kw h2 h3) rfl
 unfold Cr
 split
 ·rename_i h;exact fun h0=>absurd h0 (by simpa using h)
 split
 ·rename_i h1 h2
  rw [Bool.or_eq_true] at h2
  rcases h2 with h2|h2
  ·obtain ⟨a,b,c⟩:=(hw S.i).num (by simpa using h2)
   exact val _ _ a b c
  unfold isM at h2
  rw [Bool.and_eq_true] at h2
  obtain ⟨a,b,c⟩:=kv h2.2
  exact val _ _ a b c
 split
 ·refine val _ _ ?_ (by show (0:Int)≤0;decide) (by show (0:Int)≤9223372036854775807;decide)
  exact (f9 _).plain
 split
 ·rename_i h1
  have hnm:=(hw S.i).name (by simpa using h1)
  split
  ·unfold D0
   split
   ·exact j7
   split
   ·exact j7
   rename_i h2 h3
   intro h0
   have h0':(Bl l C7 (Ar l D (A3 S)).2).code=0:=h0
   have hlen:((Ar l D (A3 S)).1.length:Int)=Az (A2 l S.i).text:=by
    rw [h0'] at h3
    simpa using h3
   have hc:=H1 h0'
   have hkids:∀y∈(Ar l D (A3 S)).1,Ci Bj y=true∧Ci Eo y=true:=by
    unfold Ar Dx at hc ⊢
    by_cases h30:((A3 (A3 S)).nest:Int)==30
    ·rw [if_pos h30] at hc
     exact me
    rw [if_neg h30] at hc ⊢
    have hlt:N<30:=by
     have:(A3 (A3 S)).nest=N:=hS
     rw [this] at h30
     simp at h30
     omega
    have hd:(Ah (A3 (A3 S))).nest=N+1:=by show S.nest+1=N+1;omega
    exact Xu (l:=l) (hD hlt) (hR hlt) l.length ([(D.ei (Ah (A3 (A3 S)))).1],(D.ei (Ah (A3 (A3 S)))).2) (hD hlt _ hd).nest (fun h0 y hy=>by rw [List.mem_singleton.1 hy];exact hR hlt _ hd h0) hc
   show Ci Bj (.mk 6 _ noV _)=true∧Ci Eo (.mk 6 _ noV _)=true
   rw [E0,E0,al hlen.symm]
   exact ⟨by rw [Bool.true_and];exact (Ee _ _).2 fun y hy=>(hkids y hy).1,by
    rw [Bool.and_eq_true]
    exact ⟨rfl,(Ee _ _).2 fun y hy=>(hkids y hy).2⟩⟩
  exact fun _=>Xt (We hnm) rfl rfl
 split
 ·intro h0
  exact Lj hN hR (show (A3 S).nest=N from hS) (H1 h0)
 exact j7
theorem Mu {N k:Nat} {l:List Tok} {f:PS→Expr×PS} (hk:k=0∨k=1∨k=4∨k=5) (hn:NF N (k+1) f) (hf:RF N f):RF N (Cq l (ofL k) f):=by
 have hloop:∀(n:Nat) (r:Expr×PS),r.2.nest=N→RB r→RB (Cx l (ofL k) f n r):=by
  intro n
  induction n with
  | zero=>exact fun r _ h=>h
  | succ n ih =>
   intro r hr h
   rw [Cx]
   split
   ·rename_i hc
    simp only [Bool.and_eq_true,beq_iff_eq] at hc
    refine ih _ (hn (A3 r.2) hr).nest (fun h0=>?_)
    have hlv:Ag (A2 l r.2.i).text=(k:Int):=by
     have hm:=hc.2
     unfold isM at hm
     rw [Bool.and_eq_true] at hm
     have:=hm.2
     rw [Hl (Tw hk)] at this
     simpa using this
    exact fj (by omega) (h hc.1) (hf (A3 r.2) hr h0)
   exact h
 exact fun S hS=>hloop _ _ (hn S hS).nest (hf S hS)
theorem n9 {N:Nat} {l:List Tok} {D:Fam} (hn:NF N 4 (Au l D)) (hf:RF N (Au l D)):RF N (Bo l D):=fun S hS=>by
 unfold Bo
 split
 ·exact hf S hS
 rename_i hc
 simp only [Bool.or_eq_true,not_or,bne_iff_ne,ne_eq,Decidable.not_not,Bool.not_eq_true',Bool.not_eq_false] at hc
 intro h0
 have hlv:Ag (A2 l (Au l D S).2.i).text=((3:Nat):Int):=by
  have hm:=hc.2
  unfold isM at hm
  rw [Bool.and_eq_true] at hm
  have:=hm.2
  rw [show Rn=ofL 3 from rfl,Hl (.inr (.inr (.inl rfl)))] at this
  simpa using this
 exact fj (by omega) (hf S hS hc.1) (hf (A3 (Au l D S).2) (hn S hS).nest h0)
theorem fl (l:List Tok) (hw:∀i,WordOk (A2 l i)):∀(d N:Nat),N+d=30→RF N (Fh l (B4 l d))∧RF N (Gk l (B4 l d))∧RF N (Gj l (B4 l d))
 | d,N,h=>by
  have ihn:N<30→NF (N+1) 0 (B4 l d).ei∧NF (N+1) 2 (B4 l d).no∧NF (N+1) 6 (B4 l d).ne:=fun hlt=>by
   match d,h with
   | 0,h=>omega
   | d+1,h=>exact Wd l d (N+1) (by omega)
  have ih:N<30→RF (N+1) (B4 l d).ei∧RF (N+1) (B4 l d).no∧RF (N+1) (B4 l d).ne:=fun hlt=>by
   match d,h with
   | 0,h=>omega
   | d+1,h=>exact fl l hw d (N+1) (by omega)
  have hN:N≤30:=by omega
  have hnegN:=fe (l:=l) (D:=B4 l d) hN (fun h=>(ihn h).1) (fun h=>(ihn h).2.2)
  have hneg:RF N (Gj l (B4 l d)):=fun S hS=>by
   unfold Gj
   split
   ·exact kx hw hN (fun h=>(ihn h).1) (fun h=>(ih h).1) S hS
   exact fun h0=>fk (ai _) (Lj hN (fun h=>(ih h).2.2) (show (A3 S).nest=N from hS) h0)
  have hprodN:NF N 5 (Nv l (B4 l d)):=Hm (k:=5) (by decide) hnegN
  have hprod:RF N (Nv l (B4 l d)):=Mu (k:=5) (by decide) hnegN hneg
  have hsumN:NF N 4 (Au l (B4 l d)):=Hm (k:=4) (by decide) hprodN
  have hsum:RF N (Au l (B4 l d)):=Mu (k:=4) (by decide) hprodN hprod
  have hcmpN:=ff hsumN
  have hcmp:=n9 hsumN hsum
  have hnoN:=fg (l:=l) (D:=B4 l d) hN hcmpN (fun h=>(ihn h).2.1)
  have hno:RF N (Gk l (B4 l d)):=fun S hS=>by
   unfold Gk
   split
   ·exact hcmp S hS
   exact fun h0=>fk (aj _) (Lj hN (fun h=>(ih h).2.1) (show (A3 S).nest=N from hS) h0)
  have hboN:NF N 1 (Nw l (B4 l d)):=Hm (k:=1) (by decide) hnoN
  have hbo:RF N (Nw l (B4 l d)):=Mu (k:=1) (by decide) hnoN hno
  exact ⟨Mu (k:=0) (by decide) hboN hbo,hno,hneg⟩
/-! The lexer's words. -/
theorem fm {c:UInt8} {r of:Str} (h:decide (0<Gu ((c::r).take 1) of)=true):of.contains c=true:=by
 rw [show (c::r).take 1=[c] from rfl,kn] at h
 cases hc:of.contains c with
 | true=>rfl
 | false=>rw [hc] at h;simp at h
theorem fp {q:Str} (h0:q≠[]) (ha:∀c∈q,digs.contains c=true) (he:(Cj q).2=0):Ce (Cj q).1=true∧0≤(Cj q).1.n∧(Cj q).1.n≤9223372036854775807:=by
 cases q with
 | nil=>exact absurd rfl h0
 | cons c r =>
 have hc:=ha c List.mem_cons_self
 have hn:=f7 c hc
 have n1:((c::r:Str)==[110,117,108,108])=false:=by rw [beq_eq_false_iff_ne];intro e;injection e with e;exact hn.2.2.2.1 e
 have n2:((c::r:Str)==[116,114,117,101])=false:=by rw [beq_eq_false_iff_ne];intro e;injection e with e;exact hn.2.2.2.2.1 e
 have n3:((c::r:Str)==[102,97,108,115,101])=false:=by rw [beq_eq_false_iff_ne];intro e;injection e with e;exact hn.2.2.2.2.2 e
 have hq:Ly (c::r)=false:=by
  unfold Ly
  have:Lib.hasPrefix (c::r) [39]=false:=by simp [Lib.hasPrefix,List.isPrefixOf,Ne.symm hn.2.2.1]
  rw [this]
  simp
 unfold Cj at he ⊢
 rw [n1,n2,n3,hq] at he ⊢
 simp only [Bool.false_eq_true,if_false,Bool.or_self] at he ⊢
 split at he
 ·rename_i h1
  rw [if_pos h1]
  have hb:El (c::r)=false:=by
   cases hb:El (c::r) with
   | false=>rfl
   | true=>unfold C4 at h1;rw [hb] at h1;simp at h1
  unfold C4 at h1 ⊢
  rw [hb] at h1 ⊢
  simp only [Bool.false_eq_true,if_false] at h1 ⊢
  have h43:c.toNat≠43:=fun e=>hn.2.1 (UInt8.toNat_inj.1 (by rw [e];rfl))
  have h45:c.toNat≠45:=fun e=>hn.1 (UInt8.toNat_inj.1 (by rw [e];rfl))
  have hp:=Lib.parseIntB_plain 64 c r h43 h45
  cases hv:Lib.parseIntB 64 (c::r) with
  | ok v =>
   have hb:=Lib.parseIntB_bounds hv
   simp only [show ((2 ^ (64-1):Nat):Int)=9223372036854775808 by decide] at hb
   rw [hp] at hv
   have h0:0≤v:=by
    cases hu:Lib.parseUintB 64 (c::r) with
    | ok u =>
     rw [hu] at hv
     have e:Lib.signlessC (2 ^ (64-1)) (.ok u)=if 2 ^ (64-1)≤u then .range else .ok (u:Int):=rfl
     rw [e] at hv
     split at hv
     ·cases hv
     injection hv with hv
     omega
    | _=>rw [hu] at hv;cases hv
   exact ⟨rfl,h0,by show v≤9223372036854775807;omega⟩
  | _=>first|(rw [hv] at h1;simp at h1;done)|(exact ⟨rfl,Int.le_refl 0,by show (0:Int)≤9223372036854775807;decide⟩)
 rename_i h1
 split at he
 ·simp at he
 simp at he
theorem U0 {p:UInt8→Bool}:∀{l:Str} {b:UInt8},b∈l.takeWhile p→p b=true
 | [],_,h=>by cases h
 | a::r,b,h=>by
  rw [List.takeWhile_cons] at h
  by_cases ha:p a=true
  ·rw [if_pos ha] at h
   rcases List.mem_cons.1 h with rfl|h
   ·exact ha
   exact U0 h
  rw [if_neg ha] at h
  cases h
theorem am {s:Str} {n:Nat} (h0:s≠[]) (he:(Ao s).2.2.2=0):WordOk ⟨(Ao s).1,(Ao s).2.1,n⟩:=by
 cases s with
 | nil=>exact absurd rfl h0
 | cons c r =>
 unfold Ao at he ⊢
 by_cases h1:decide (0<Gu ((c::r).take 1) letters)=true
 ·rw [if_pos h1] at he
  simp only [if_pos h1]
  unfold Gf at he ⊢
  by_cases r1:D6 (Aq (c::r) tails)=true
  ·simp only [if_pos r1]
   exact Vf
  rw [if_neg r1] at he
  simp only [if_neg r1]
  by_cases r2:(!C0 (Aq (c::r) tails))=true
  ·rw [if_pos r2] at he;simp at he
  simp only [if_neg r2]
  exact ⟨fun _=>by rw [←Hh];simpa using r2,fun h=>by cases h⟩
 rw [if_neg h1] at he
 simp only [if_neg h1]
 by_cases h2:decide (0<Gu ((c::r).take 1) digs)=true
 ·rw [if_pos h2] at he
  simp only [if_pos h2]
  unfold K4 at he ⊢
  refine ⟨(fun h=>by cases h),fun _=>fp ?_ (fun b hb=>?_) he⟩
  ·show Aq (c::r) digs≠[]
   rw [Gx,List.takeWhile_cons,fm h2]
   simp
  have hb:b∈Aq (c::r) digs:=hb
  rw [Gx] at hb
  exact U0 hb
 rw [if_neg h2] at he
 simp only [if_neg h2]
 by_cases h3:((((c::r).getD 0 0).toNat:Int)==39)=true
 ·rw [if_pos h3] at he
  simp only [if_pos h3]
  unfold Ev at he ⊢
  split
  ·exact Vf
  split
  ·exact Vf
  exact Vf
 simp only [if_neg h3]
 unfold K6
 split
 ·exact Vf
 split
 ·exact Vf
 exact Vf
theorem U1:∀(f q:Nat) (s:Str),∀it∈Ck f q s,it.2=0→WordOk it.1
 | 0,_,_,it,h,_=>by cases h
 | f+1,q,s,it,h,h0=>by
  rw [Ck] at h
  split at h
  ·cases h
  rename_i hs
  have hne:s≠[]:=by rintro rfl;exact hs rfl
  rcases List.mem_cons.1 h with rfl|h
  ·exact am hne h0
  split at h
  ·exact U1 f _ _ it h h0
  cases h
theorem na (n:Nat):WordOk ⟨0,[],n⟩:=⟨(fun h=>by cases h),(fun h=>by cases h)⟩
/-! The parse laws where nothing is too deep. -/
/-! The parser from a word on, and of a source. -/
/-! Other trees have other words, and other prints. -/
/-! The laws of printing. -/
/-- show.Print. -/
def Dz (x:Expr):Str×Int:=if !(B0 x) then ([],1) else if decide ((4000:Int)<((Ab x).length:Int)) then ([],3) else (Ab x,0)
theorem ky {x:Expr} (h:(Dz x).2=0):Cm x=true∧(Ab x).length≤4000∧Dz x=(Ab x,0):=by
 unfold Dz at h ⊢
 split at h
 ·cases h
 rename_i h1
 split at h
 ·cases h
 rename_i h2
 rw [if_neg h1,if_neg h2]
 refine ⟨by rw [←Hi];simpa using h1,by simp at h2;omega,rfl⟩
theorem Jr {x:Expr} (h:Cm x=true):Ci Bj x=true:=by
 unfold Cm at h
 rw [Bool.and_eq_true] at h
 exact h.2
set_option maxRecDepth 4000
/-! The words of moves, and what is parsed from them. -/
/-! Two sources, one behind the other, with a line's end between. -/
theorem M9 {V B of:Str} (Z:Str) (hz:of.contains (10:UInt8)=false) (h:(Aq (V++B) of).length≤V.length):Aq (V++10::Z) of=Aq (V++B) of:=by
 rw [Gx] at h ⊢
 rw [Gx]
 exact jl 10 Z hz h
theorem Oj {B:Str} (Z:Str):∀(V:Str) (m:Nat),Bc (V++B)=some m→m≤V.length→Bc (V++10::Z)=some m
 | [],m,h,hm=>by
  have:=K7 _ m h
  simp at hm;omega
 | c::V,m,h,hm=>by
  by_cases hc:(c==39)=true
  ·have e:c=39:=by simpa using hc
   subst e
   rw [List.cons_append,Jk] at h ⊢
   cases V with
   | nil =>
    simp only [List.nil_append] at h ⊢
    have e1:((10:UInt8)==39)=false:=by decide
    rw [e1]
    cases B with
    | nil=>simpa using h
    | cons d t =>
     simp only at h
     split at h
     ·rw [Option.map_eq_some_iff] at h
      obtain ⟨m',hm',rfl⟩:=h
      simp at hm
     simpa using h
   | cons d V =>
    simp only [List.cons_append] at h ⊢
    split at h
    ·rename_i hd
     rw [if_pos hd]
     rw [Option.map_eq_some_iff] at h ⊢
     obtain ⟨m',hm',rfl⟩:=h
     exact pk
    rename_i hd
    rw [if_neg hd]
    exact h
  rw [List.cons_append,Ia hc] at h ⊢
  rw [Option.map_eq_some_iff] at h ⊢
  obtain ⟨m',hm',rfl⟩:=h
  exact pk
 termination_by V=>V.length
/-- A word is what it is, whatever stands behind its end, where that begins with a blank. -/
theorem an {V B:Str} (Z:Str) {n:Nat} (he:(Ao (V++B)).2.2.2=0) (hn:(Ao (V++B)).2.2.1=(n:Int)) (h1:1≤n) (hV:n≤V.length):Ao (V++10::Z)=Ao (V++B):=by
 cases V with
 | nil=>simp at hV;omega
 | cons c V =>
  have e1:((c::V)++10::Z).take 1=((c::V)++B).take 1:=rfl
  have e2:((c::V)++10::Z).getD 0 0=((c::V)++B).getD 0 0:=rfl
  unfold Ao at he hn ⊢
  rw [e1,e2]
  by_cases c1:decide (0<Gu (((c::V)++B).take 1) letters)=true
  ·rw [if_pos c1] at he hn ⊢
   rw [if_pos c1]
   have hw:Aq ((c::V)++10::Z) tails=Aq ((c::V)++B) tails:=by
    refine M9 Z (by decide) ?_
    unfold Gf at he hn
    split at hn
    ·have:(((Aq ((c::V)++B) tails).length:Nat):Int)=n:=hn
     omega
    rename_i h2
    rw [if_neg h2] at he
    split at hn
    ·rename_i h3;rw [if_pos h3] at he;exact absurd he (show ¬(3:Int)=0 by decide)
    have:(((Aq ((c::V)++B) tails).length:Nat):Int)=n:=hn
    omega
   unfold Gf
   rw [hw]
  rw [if_neg c1] at he hn ⊢
  rw [if_neg c1]
  by_cases c2:decide (0<Gu (((c::V)++B).take 1) digs)=true
  ·rw [if_pos c2] at he hn ⊢
   rw [if_pos c2]
   have hw:Aq ((c::V)++10::Z) digs=Aq ((c::V)++B) digs:=by
    refine M9 Z (by decide) ?_
    have:(((Aq ((c::V)++B) digs).length:Nat):Int)=n:=hn
    omega
   unfold K4
   rw [hw]
  rw [if_neg c2] at he hn ⊢
  rw [if_neg c2]
  by_cases c3:(((((c::V)++B).getD 0 0).toNat:Int)==39)=true
  ·rw [if_pos c3] at he hn ⊢
   rw [if_pos c3]
   unfold Ev at he hn ⊢
   have d1:((c::V)++B).drop 1=V++B:=rfl
   have d2:((c::V)++10::Z).drop 1=V++10::Z:=rfl
   rw [d1] at he hn ⊢
   rw [d2]
   cases hq:Bc (V++B) with
   | none=>rw [hq] at he;exact absurd he (show ¬(7:Int)=0 by decide)
   | some m =>
    rw [hq] at he hn
    simp only at he hn
    split at he
    ·exact absurd he (show ¬(3:Int)=0 by decide)
    rename_i hr
    rw [if_neg hr] at hn
    have hm':(((m+1:Nat)):Int)=n:=hn
    have hm:m+1=n:=by omega
    have hcl:=Oj Z V m hq (by simp at hV;omega)
    rw [hcl]
    have t1:((c::V)++10::Z).take (m+1)=((c::V)++B).take (m+1):=by
     rw [List.take_append_of_le_length (by omega),List.take_append_of_le_length (by omega)]
    simp only [t1]
  rw [if_neg c3] at he hn ⊢
  rw [if_neg c3]
  unfold K6 at he hn ⊢
  cases V with
  | nil =>
   have hn1:n=1:=by simp at hV;omega
   subst hn1
   have x1:¬((decide ((1:Int)<(([c]++B).length:Nat))&&Lib.contains Mp (([c]++B).take 2))&&(((([c]++B).getD 1 0).toNat:Int)==61))=true:=fun h=>by
    rw [if_pos h] at hn
    exact absurd hn (show ¬(2:Int)=((1:Nat):Int) by decide)
   have x2:¬((decide ((1:Int)<(([c]++10::Z).length:Nat))&&Lib.contains Mp (([c]++10::Z).take 2))&&(((([c]++10::Z).getD 1 0).toNat:Int)==61))=true:=fun h=>by
    simp only [Bool.and_eq_true] at h
    have h2:((((10:UInt8)).toNat:Int)==61)=true:=h.2
    exact absurd h2 (by decide)
   rw [if_neg x1,if_neg x2]
   rfl
  | cons d V =>
   have y1:decide ((1:Int)<((((c::d::V)++10::Z)).length:Nat))=decide ((1:Int)<((((c::d::V)++B)).length:Nat)):=by
    rw [decide_eq_decide]
    simp only [List.length_append,List.length_cons]
    omega
   have y2:((c::d::V)++10::Z).take 2=((c::d::V)++B).take 2:=rfl
   have y3:((c::d::V)++10::Z).getD 1 0=((c::d::V)++B).getD 1 0:=rfl
   rw [y1,y2,y3]
   rfl
theorem Kq {b:Str}:∀(U:Str) (f:Bool),B3 U f=[]→B3 (U++10::b) f=B3 b false
 | [],false,_=>by rw [List.nil_append,B3,if_pos (by decide)]
 | [],true,_=>by rw [List.nil_append,B3];rfl
 | c::r,false,h=>by
  rw [B3] at h
  rw [List.cons_append,B3]
  split at h
  ·rename_i h1;rw [if_pos h1];exact Kq r false h
  rename_i h1
  rw [if_neg h1]
  split at h
  ·rename_i h2;rw [if_pos h2];exact Kq r true h
  cases h
 | c::r,true,h=>by
  rw [B3] at h
  rw [List.cons_append,B3]
  split at h
  ·rename_i h1;rw [if_pos h1];exact Kq r false h
  rename_i h1;rw [if_neg h1];exact Kq r true h
theorem U3 (b:Str):∀(f f' q:Nat) (U:Str),U.length<f→(U++10::b).length<f'→(∀i∈Id f q U,i.2=0)→Id f' q (U++10::b)=Id f q U++Id (b.length+1) (q+U.length+1) b
 | 0,f',q,U,h,_,_=>by omega
 | f+1,0,q,U,_,h,_=>by omega
 | f+1,f'+1,q,U,hf,hf',hok=>by
  obtain ⟨g,hg⟩:∃g,gapM U=g:=⟨_,rfl⟩
  by_cases hne:U.drop g=[]
  ·have hs:B3 U false=[]:=by rw [←Tg,hg];exact hne
   have e1:Id (f+1) q U=[]:=by unfold Id;rw [hg,hne,W6]
   have e2:gapM (U++10::b)=U.length+1+gapM b:=by
    have h3:=Hf b false
    unfold gapM
    rw [Kq U false hs,List.length_append,List.length_cons]
    omega
   have e3:(U++10::b).drop (U.length+1+gapM b)=b.drop (gapM b):=by
    rw [Nat.add_assoc,←List.drop_drop,List.drop_left,Nat.add_comm 1,List.drop_succ_cons]
   rw [e1,List.nil_append]
   unfold Id
   rw [e2,e3,show q+(U.length+1+gapM b)=q+U.length+1+gapM b by omega]
   refine M2 _ _ _ _ ?_ ?_
   ·simp only [List.length_append,List.length_cons,List.length_drop] at hf' ⊢;omega
   simp only [List.length_drop];omega
  obtain ⟨n,hst,hw⟩:=Ie (f:=f) (q:=q+g) hne
  have hL:Id (f+1) q U=Ck (f+1) (q+g) (U.drop g):=by unfold Id;rw [hg]
  rw [hst] at hL
  rw [hL] at hok ⊢
  have h0:(Ao (U.drop g)).2.2.2=0:=hok _ List.mem_cons_self
  obtain ⟨hn1,hn2,hn3⟩:=hw h0
  rw [if_pos h0] at hok ⊢
  have hgl:g<U.length:=by
   rcases Nat.lt_or_ge g U.length with h|h
   ·exact h
   exact absurd (List.drop_eq_nil_of_le h) hne
  have hUl:g+n≤U.length:=by rw [List.length_drop] at hn3;omega
  have hg':gapM (U++10::b)=g:=W7 (U:=U) (B:=[]) _ (by rw [List.append_nil];exact hg) hgl
  have d3:(U++10::b).drop g=U.drop g++10::b:=List.drop_append_of_le_length (by omega)
  have d4:((U++10::b).drop g).drop n=U.drop (g+n)++10::b:=by rw [List.drop_drop,List.drop_append_of_le_length hUl]
  have hww:Ao ((U++10::b).drop g)=Ao (U.drop g):=by
   have:=an (V:=U.drop g) (B:=[]) b (n:=n) (by rw [List.append_nil];exact h0) (by rw [List.append_nil];exact hn1) hn2 hn3
   rw [d3,this,List.append_nil]
  have hne':(U++10::b).drop g≠[]:=by rw [d3];simp
  have hL':Id (f'+1) q (U++10::b)=Ck (f'+1) (q+g) ((U++10::b).drop g):=by unfold Id;rw [hg']
  obtain ⟨n',hst',hw'⟩:=Ie (f:=f') (q:=q+g) hne'
  rw [hww] at hst' hw'
  have hnn:n'=n:=by
   have:=(hw' h0).1
   rw [hn1] at this
   omega
  subst hnn
  have d2:(U.drop g).drop n'=U.drop (g+n'):=List.drop_drop
  rw [d2] at hok
  rw [hL',hst',if_pos h0,d4,d2,List.cons_append]
  congr 1
  have hlen:(U.drop (g+n')).length=U.length-(g+n'):=List.length_drop
  rw [U3 b f f' (q+g+n') (U.drop (g+n')) (by rw [hlen];omega) (by simp only [List.length_append,List.length_cons,hlen] at hf' ⊢;omega) (fun i hi=>hok i (List.mem_cons_of_mem _ hi)),hlen,show q+g+n'+(U.length-(g+n'))+1=q+U.length+1 by omega]
theorem Wf (d f:Nat) (s:Str):Id f d s=(Id f 0 s).map (Rm d):=by
 unfold Id
 rw [Nat.zero_add,Nat.add_comm d,Kc]
/-- The words of two sources. -/
theorem ap {a b:Str} (hl:a.length+b.length+1≤4000) (ha:(Bv a).2.1=0) (hb:(Bv b).2.1=0):∃A B:List Tok,Bv a=(A++[⟨0,[],a.length⟩],0,0)∧Bv b=(B++[⟨0,[],b.length⟩],0,0)∧Bv (a++10::b)=(A++(B.map (Ke (a.length+1))++[⟨0,[],a.length+1+b.length⟩]),0,0):=by
 obtain ⟨a1,a2,a3⟩:=Kd ha
 obtain ⟨b1,b2,b3⟩:=Kd hb
 have hj:Ai (a++10::b)=Ai a++(Ai b).map (Rm (a.length+1)):=by
  rw [Kb,Kb a,Kb b,U3 b (a.length+1) _ 0 a (Nat.lt_succ_self _) (Nat.lt_succ_self _) (by rw [←Kb];exact a2),Nat.zero_add,Wf (a.length+1)]
 have hz:∀it∈Ai (a++10::b),it.2=0:=fun it hit=>by
  rw [hj] at hit
  rcases List.mem_append.1 hit with h|h
  ·exact a2 it h
  obtain ⟨x,hx,rfl⟩:=List.mem_map.1 h
  exact b2 x hx
 refine ⟨(Ai a).map (·.1),(Ai b).map (·.1),a3,b3,?_⟩
 rw [jm (by simp only [List.length_append,List.length_cons];omega) hz,hj,List.map_append,List.append_assoc]
 have e1:((Ai b).map (Rm (a.length+1))).map (·.1)=((Ai b).map (·.1)).map (Ke (a.length+1)):=by
  rw [List.map_map,List.map_map]
  rfl
 have e2:(a++10::b).length=a.length+1+b.length:=by simp only [List.length_append,List.length_cons];omega
 rw [e1,e2]
/-! The text of moves, and its words. -/
def Cv:List Str→Str
 | []=>[]
 | s::r=>s++r.flatMap fun u=>[44,32]++u
def lx (c:Col) (x:Expr):Str:=c.name++([32]++(Ax c.kind++([32]++([61]++([32]++Ab x)))))
def Gn (m:Mov):Str:=Cv ((m.give.zip m.ahead).map fun p=>lx p.1 p.2)
def Ik (m:Mov):Str:=Cv m.take
def Js (m:Mov):Str:=[32]++(backW++([32]++Cv (m.back.map Ab)))
def Ok (m:Mov):Str:=if m.kind==1 then Gn m else if m.kind==2 then Ik m++Js m else if m.kind==3 then Ik m++([32]++(toW++([32]++(m.give.getD 0 ⟨[],0⟩).name))) else if m.kind==6 then Gn m++Js m else Ik m++([32]++(intoW++([32]++(Gn m++Js m))))
/-- A move's text. -/
def mvS (m:Mov):Str:=Ba m.kind++([32]++(Ok m++([59]++[10])))
/-! The same where brackets may nest too deep: then 18 is told. -/
theorem Xv {n:Nat} {e:Expr}:Low n (.ro (Db e)):=by have:=Ad n e;rw [A9] at this;simpa using this
theorem aq {n k:Nat} {o:Bool} {l:List Col}:Low n (.slice o k (l.map Bt)):=by simp [or_imp,forall_and]
theorem U4 {α:Type} {p:α→Bool} {l:List α} {x:Nat} (h:l.length≤x) (hp:∀(j:Nat) (v:α),j<x→l[j]? = some v→p v=false):l.any p=false:=by
 rw [List.any_eq_false]
 intro v hv
 obtain ⟨j,hj⟩:=List.getElem?_of_mem hv
 rw [hp j v (by have:=(List.getElem?_eq_some_iff.1 hj).1;omega) hj]
 simp
theorem Rv {n:Nat} {m:Mov}:∀y∈Mi m,Low n y:=by
 intro y hy
 simp only [Mi,List.mem_cons,List.mem_nil_iff,or_false] at hy
 rcases hy with rfl|rfl|rfl|rfl|rfl<;>simp [or_imp,forall_and,Ad]
theorem U5 {n:Nat} {m:Mov}:Low n (Eg m):=Go.SX.low_agg.2 Rv
theorem Ol {n k:Nat} {o:Bool} {l:List Mov}:Low n (.slice o k (l.map Eg)):=low_slice.2 fun y hy=>by
 obtain ⟨m,_,rfl⟩:=List.mem_map.1 hy
 exact U5
theorem Gc {α:Type} {p:α→Bool} (l:List α):(l.any fun s => !(p s)) = !(l.all p):=by
 induction l with
 | nil=>rfl
 | cons a r ih=>rw [List.any_cons,List.all_cons,ih];cases p a<;>simp
theorem nb {α:Type} {l:List α} (h:l.length=1):∃y,l=[y]:=by
 match l,h with
 | [y],_=>exact ⟨y,rfl⟩
end Go.SX.Nb
namespace Go.SX
variable [GI:GlobInv]
open Classical
variable {P:Program} {d:Nat} {ops:Array Oper} {rest:List Oper} {sz:Nat} {fr:Nat→AV} {up own:List AObj} {dfs:List Nat} {rnd:Option Nat} {Q:St→Prop} {s:Nat} {ty:TypeId} {pos:String} {aft:Array Edge}
/-! A guarded slice that may be appended to. -/
theorem G.buildSlice {t e:TypeId} {k len:Nat} {z:Value} {parts:List (Nat×Operand)} {ys:List AV} {oj:Oper} {j g:Nat} {want C:Bool} (hu:P.underlying t=some (.slice e)) (hsz:∀w,(Go.sizeOf e).run P w=.ok k w) (hz:∀w,(zeroValue e).run P w=.ok z w)
  (hr:ARun P d ops rest ⟨sz,A7 s (gAV C (.slice true k ys)) fr,up,own,dfs,rnd⟩ Q) (hj:ops[j]? = some oj:=by rfl) (hdj:oj.dst=some g:=by rfl) (hgs:GIs (fr g) want C:=by exact sL3)
  (hp:parts.toArray=(((parts.map Prod.snd).zipIdx).map fun x=>(x.2,x.1)).toArray:=by rfl) (hev:C=true→(parts.map Prod.snd).map (Ac fr)=ys:=by intro hB;simp only [go_sem,hB,↓reduceIte,Nat.reduceEqDiff,Nat.reduceAdd]<;>rfl)
  (hk:ys.all (fun y=>decide (y.cells.length=k)&&y.cells.all AV.one)=true:=by simp [go_sem]) (hl:len=ys.length:=by rfl) (hlen:ys.length*k≤16777216:=by exact sL1) (hs:Nat.blt s sz=true:=by rfl):
  ARun P d ops (⟨some s,.buildSlice t len parts.toArray,ty,pos,aft,some (j,want)⟩::rest) ⟨sz,fr,up,own,dfs,rnd⟩ Q:=by
 have h2:∀y∈ys,y.cells.length=k∧y.cells.all AV.one=true:=fun y hy=>by simpa using List.all_eq_true.1 hk y hy
 refine ARun.guardA (Q1:=fun s'=>s'=⟨sz,A7 s (.slice true k ys) fr,up,own,dfs,rnd⟩) rfl hj hdj hgs rfl hs (fun hB=>AOp.buildSlice (st:=⟨sz,fr,up,own,dfs,rnd⟩) hu hsz hz (hev hB) (fun y hy=>(h2 y hy).1) (fun y hy c hc=>List.all_eq_true.1 (h2 y hy).2 c hc) hlen (by simpa using hs) hl hp) (fun hB s' e=>?_) (fun hB=>?_)
 ·subst e;rw [hB] at hr;exact hr
 rw [hB] at hr;exact hr
theorem G.append {t e:TypeId} {i:TypeInfo} {z:Value} {k r:Nat} {x:Operand} {o2:Bool} {xs ys zs:List AV} {oj:Oper} {j g:Nat} {want C:Bool} (hu:P.underlying t=some (.slice e)) (hi:P.info? e=some i)
  (hl:C=true→(xs.length+ys.length)*i.bytes≤140737488355328) (hl2:C=true→xs.length+ys.length≤4611686018427387904)
  (hr:ARun P d ops rest ⟨sz,A7 s (gAV C (.slice true k zs)) (A7 r .any fr),up,own,dfs,rnd⟩ Q)
  (hj:ops[j]? = some oj:=by rfl) (hdj:oj.dst=some g:=by rfl) (hgs:GIs (fr g) want C:=by exact sL3)
  (hz:i.zero=some z:=by rfl) (hsz:i.size=k:=by rfl) (hzk:z.cells.size=k:=by rfl) (hk:0<k:=by decide)
  (hb:C=true→Ej (fr r) true k xs:=by intro hB;simp only [go_sem,hB,↓reduceIte,Nat.reduceEqDiff,Nat.reduceAdd]<;>first|exact .inl rfl|exact .inr ⟨rfl,rfl⟩)
  (hx:C=true→Ej (Ac fr x) o2 k ys:=by intro hB;simp only [go_sem,hB,↓reduceIte,Nat.reduceEqDiff,Nat.reduceAdd]<;>first|exact .inl rfl|exact .inr ⟨rfl,rfl⟩)
  (hrs:s≠r:=by decide) (hzs:xs++ys=zs:=by first|rfl|(simp only [go_sem,↓reduceIte,Nat.reduceEqDiff,Nat.reduceAdd]<;>rfl))
  (hs:Nat.blt s sz=true:=by rfl):
  ARun P d ops (⟨some s,.call ⟨.builtin .append,#[.tmp r,x],#[t,t]⟩,ty,pos,aft,some (j,want)⟩::rest) ⟨sz,fr,up,own,dfs,rnd⟩ Q:=by
 subst hzs
 refine ARun.guardA (Q1:=fun s'=>s'=⟨sz,A7 s (.slice true k (xs++ys)) (A7 r (fr r).strip fr),up,own,dfs,rnd⟩) rfl hj hdj hgs rfl hs (fun hB=>AOp.append (st:=⟨sz,fr,up,own,dfs,rnd⟩) hu hi hz hsz rfl hzk hk (hb hB) (hx hB) hrs (by simpa using hs) (hl hB) (hl2 hB)) (fun hB s' e=>?_) (fun hB=>?_)
 ·subst e
  rw [hB] at hr
  refine ARun.le (StLe.frame (s:=⟨sz,A7 s (.slice true k (xs++ys)) (A7 r (fr r).strip fr),up,own,dfs,rnd⟩) fun i=>?_) hr
  show Le (A7 s (.slice true k (xs++ys)) (A7 r (fr r).strip fr) i) (A7 s (.slice true k (xs++ys)) (A7 r .any fr) i)
  unfold A7
  split
  ·exact .refl _
  split
  ·exact .any _
  exact .refl _
 rw [hB] at hr
 refine ARun.le (StLe.frame (s:=⟨sz,A7 s (.v undef) fr,up,own,dfs,rnd⟩) fun i=>?_) hr
 show Le (A7 s (.v undef) fr i) (A7 s (.v undef) (A7 r .any fr) i)
 unfold A7
 split
 ·exact .refl _
 split
 ·exact .any _
 exact .refl _
end Go.SX
namespace Go.SX
variable [GI:GlobInv]
open Classical
section
variable {P:Program} {d:Nat}
end
section
variable {P:Program} {d:Nat} {ops:Array Oper} {rest:List Oper} {sz s:Nat} {fr:Nat→AV} {up own:List AObj} {dfs:List Nat} {rnd:Option Nat} {Q:St→Prop} {ty:TypeId} {pos:String} {aft:Array Edge}
end
end Go.SX
