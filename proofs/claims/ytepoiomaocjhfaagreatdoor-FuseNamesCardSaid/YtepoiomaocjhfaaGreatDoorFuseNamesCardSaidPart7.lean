/- Texts on the way to this: FuseNames answers true for whatever it is handed: over right steps there is a tree for each column, of its kind or of none, or the error says that a tree grew too large. (part 7) -/
import Derived.ReadAgain
import Derived.ChangeSame
import Derived.ChangeArms
import Derived.ChangeOld
import Derived.ChangeFn
import Derived.MapPlaces
import Derived.DataReads
import Derived.OpenShut
import Derived.RowKit
import Derived.Deep.DeepHandedRow
import Derived.Test.YtepoiomaocjhfaaGreatDoorCards
import Derived.Test.YtepoiomaocjhfaaGreatDoorTie
import Derived.Lay
import Derived.Lib.LaidTab
import Derived.Stop.LaidErr
import Derived.Shelf.Vars
import Derived.ChangeBears
import Derived.Test.YtepoiomaocjhfaaGreatDoorFuseNamesCardSaidPart6
set_option linter.all false
namespace Go.SX
variable [GI:GlobInv]
open Classical Go.RowKit Go.ChangeShapes
section
variable {P:Program} {H:Type} {enc:TypeId×Value→H}

/-- The first ghost: whatever lies there is read for good. -/
noncomputable def G0 (W:World):Gh:=⟨fun b o=>if (W.cell? ⟨b,o,none⟩).isSome then .fix else .free,fun _=>0,0⟩
theorem uv {W:World} {b o:Nat} {u:Value} (h:W.cell? ⟨b,o,none⟩=some u):(G0 W).tag b o=.fix:=by simp [G0,h]
theorem Mq {W:World} {b:Nat} (h:b<W.heap.size):Gd (G0 W) W b:=⟨h,fun o=>by simp only [G0];split<;>simp,fun i hi=>absurd hi (Nat.not_lt_zero _)⟩
theorem pm (W:World):HeapRel (G0 W) [] W:=⟨fun i x h=>by simp at h,rfl,fun i j hi=>absurd hi (Nat.not_lt_zero _)⟩
theorem pq {W:World} (h:H0 W):TagOK (G0 W) W:=by
 refine ⟨fun b o hb=>?_,fun b o i hb=>?_,fun b o L hb=>?_,fun x hx=>?_⟩
 ·simp only [G0] at hb
  split at hb
  ·rename_i hs;exact Option.isSome_iff_exists.1 hs
  exact absurd rfl hb
 ·simp only [G0] at hb;split at hb<;>cases hb
 ·simp only [G0] at hb;split at hb<;>cases hb
 obtain ⟨v,h1,h2⟩:=h x hx
 exact ⟨Mq (Array.getElem?_eq_some_iff.1 h1).1,v,h1,h2⟩

/-- What a datum of a AAc type AAd as. -/
inductive DRep (P:Program):TypeId→DataW H→AV→Prop
 | int {t:TypeId} {k:IntKind} {n:Int} (hu:P.underlying t=some (.int k)) (wf:(Lit.int k n).wf=true):DRep P t (.lit (.int k n)) (.v (.int k n))
 | bool {t:TypeId} {b:Bool} (hu:P.underlying t=some .bool):DRep P t (.lit (.bool b)) (.v (.bool b))
 | str {t:TypeId} {bs:List UInt8} (hu:P.underlying t=some .string):DRep P t (.lit (.string bs)) (.v (sv bs))
 | nil {t e:TypeId} (hu:P.underlying t=some (.slice e)):DRep P t .nil (.slice false (P.cellsOf e) [])
 | slice {t e:TypeId} {elems spare:List (DataW H)} {ys:List AV} (hu:P.underlying t=some (.slice e)) (hn:ys.length=elems.length)
   (h:∀(i:Nat) (d:DataW H) (y:AV),elems[i]? = some d→ys[i]? = some y→DRep P e d y):DRep P t (.slice elems spare) (.slice false (P.cellsOf e) ys)
 | struct {t:TypeId} {fs:Array Field} {parts:List (DataW H)} {ys:List AV} (hu:P.underlying t=some (.struct fs)) (hn:parts.length=fs.size) (hn':ys.length=fs.size)
   (h:∀(i:Nat) (f:Field) (d:DataW H) (y:AV),fs[i]? = some f→parts[i]? = some d→ys[i]? = some y→DRep P f.type d y):DRep P t (.agg parts) (.agg (ys.flatMap AV.cells))

/-- Types that are made of numbers, texts, bools, slices and structs alone. -/
structure PlainT (P:Program) (T:TypeId→Prop):Prop where
 look:∀t,T t→(P.cellsOf t=1∧((∃k,P.underlying t=some (.int k))∨P.underlying t=some .bool∨P.underlying t=some .string∨(∃e,P.underlying t=some (.slice e)∧T e∧0<P.cellsOf e))) ∨
  (∃fs,P.underlying t=some (.struct fs)∧(∀f∈fs.toList,T f.type)∧P.cellsOf t=(fs.toList.map fun f=>P.cellsOf f.type).sum ∧
   ∀(j:Nat) (f:Field),fs.toList[j]? = some f→f.offset=((fs.toList.take j).map fun f=>P.cellsOf f.type).sum)

/-- The reading of a row of cells. -/
def CRep (W:World) (y:AV) (cs:List Value):Prop:=
 y.cells.length=cs.length∧(∀c∈y.cells,c.one=true)∧∀(j:Nat) (c:AV) (v:Value),y.cells[j]? = some c→cs[j]? = some v→Rep (G0 W) W none c v

theorem CRep.v1 {W:World} {x:Value} (h:x.oneCell'=true):CRep W (.v x) [x]:=
 ⟨rfl,by simp [AV.cells,AV.one,h],fun j c v h1 h2=>by
  match j with
  | 0=>simp [AV.cells] at h1 h2;subst h1;subst h2;exact .v _ _
  | j+1=>simp [AV.cells] at h1⟩

theorem Vw {f:AV→List AV}:∀(ys:List AV) (j:Nat) (c:AV),(ys.flatMap f)[j]? = some c→∃(i:Nat) (y:AV) (q:Nat),ys[i]? = some y∧(f y)[q]? = some c∧j=((ys.take i).map fun y=>(f y).length).sum+q
 | [],j,c,h=>by simp at h
 | y::r,j,c,h=>by
  rw [List.flatMap_cons] at h
  rcases Nat.lt_or_ge j (f y).length with h'|h'
  ·rw [List.getElem?_append_left h'] at h
   exact ⟨0,y,j,rfl,h,by simp⟩
  rw [List.getElem?_append_right h'] at h
  obtain ⟨i,z,q,h1,h2,h3⟩:=Vw r _ c h
  exact ⟨i+1,z,q,h1,h2,by simp only [List.take_succ_cons,List.map_cons,List.sum_cons];omega⟩
theorem Jj {α:Type} {R:Nat→α→Prop}:∀(n:Nat),(∀i,i<n→∃y,R i y)→∃ys:List α,ys.length=n∧∀(i:Nat) (y:α),ys[i]? = some y→R i y
 | 0,_=>⟨[],rfl,fun i y h=>by simp at h⟩
 | n+1,h=>by
  obtain ⟨ys,h1,h2⟩:=Jj n (fun i hi=>h i (by omega))
  obtain ⟨y,hy⟩:=h n (by omega)
  refine ⟨ys++[y],by simp [h1],fun i z hz=>?_⟩
  rcases Nat.lt_or_ge i n with h'|h'
  ·rw [List.getElem?_append_left (by omega)] at hz;exact h2 i z hz
  rw [List.getElem?_append_right (by omega)] at hz
  have:i=n:=by
   have:=(List.getElem?_eq_some_iff.1 hz).1
   simp at this;omega
  subst this
  rw [h1] at hz
  simp at hz
  exact hz ▸ hy
theorem L1 {α β:Type} {f:α→Nat} {g:β→Nat}:∀(l:List α) (m:List β),l.length=m.length→(∀(i:Nat) (a:α) (b:β),l[i]? = some a→m[i]? = some b→f a=g b)→(l.map f).sum=(m.map g).sum
 | [],[],_,_=>rfl
 | [],b::m,h,_=>by simp at h
 | a::l,[],h,_=>by simp at h
 | a::l,b::m,h,hh=>by
  simp only [List.map_cons,List.sum_cons]
  rw [hh 0 a b rfl rfl,L1 l m (by simpa using h) (fun i a b h1 h2=>hh (i+1) a b h1 h2)]

theorem l3 {T:TypeId→Prop} (PT:PlainT P T) {W:World}:∀(n:Nat) (t:TypeId) (cs:List Value) (x:DataW H×List MemPlace),T t→DataW.trod enc P W 0 (fun _=>true) true n t cs=some x →
  ∃y,DRep P t x.1 y∧CRep W y cs∧cs.length=P.cellsOf t:=by
 intro n
 induction n with
 | zero=>intro t cs x _ h;simp [DataW.trod] at h
 | succ n ih =>
  intro t cs x hT h
  rcases PT.look t hT with ⟨hc1,⟨k,hu⟩|hu|hu|⟨e,hu,he,hz⟩⟩|⟨fs,hu,hf,hsum,hoff⟩
  ·obtain ⟨m,rfl,rfl,hw⟩:=DataW.trod_int hu h
   exact ⟨_,.int hu hw,.v1 rfl,hc1.symm⟩
  ·obtain ⟨b,rfl,rfl⟩:=DataW.trod_bool hu h
   exact ⟨_,.bool hu,.v1 rfl,hc1.symm⟩
  ·obtain ⟨s,rfl,rfl,_⟩:=DataW.trod_string hu h
   exact ⟨_,.str hu,.v1 rfl,hc1.symm⟩
  ·rcases DataW.trod_slice hu h with ⟨rfl,rfl⟩|⟨a,len,cap,elems,rest,m,hm,rfl,rfl,hb,hlc,hcm,hel,hE,_,_⟩
   ·refine ⟨_,.nil hu,⟨rfl,by simp [AV.cells,AV.one],fun j c v h1 h2=>?_⟩,hc1.symm⟩
    match j with
    | 0=>simp [AV.cells] at h1 h2;subst h1;subst h2;exact .slice0 _ _ _
    | j+1=>simp [AV.cells] at h1
   injection hm with hm
   subst hm
   subst hel
   have hEi:∀i,i<elems.length→∃y,(∀d,elems[i]? = some d→DRep P e d.1 y)∧∃ci,W.cells? 0 (a.add (i*P.cellsOf e)) (P.cellsOf e)=some ci∧CRep W y ci:=fun i hi=>by
    have h1:=hE i hi
    rw [List.getElem?_eq_getElem hi,Option.bind_eq_some_iff] at h1
    obtain ⟨ci,h2,h3⟩:=h1
    obtain ⟨y,h4,h5,_⟩:=ih e ci _ he h3
    exact ⟨y,fun d hd=>by rw [List.getElem?_eq_getElem hi] at hd;injection hd with hd;subst hd;exact h4,ci,h2,h5⟩
   obtain ⟨ys,hyl,hys⟩:=Jj elems.length hEi
   refine ⟨.slice false (P.cellsOf e) ys,.slice hu (by simp [hyl]) (fun i d y hd hy=>?_),⟨rfl,by simp [AV.cells,AV.one],fun j c v h1 h2=>?_⟩,hc1.symm⟩
   ·rw [List.getElem?_map,Option.map_eq_some_iff] at hd
    obtain ⟨d',hd',rfl⟩:=hd
    exact (hys i y hy).1 d' hd'
   match j with
   | j+1=>simp [AV.cells] at h1
   | 0 =>
    simp [AV.cells] at h1 h2
    subst h1;subst h2
    by_cases h0:elems.length=0
    ·have:ys=[]:=List.eq_nil_of_length_eq_zero (by omega)
     subst this
     rw [h0]
     exact .sliceE _ _ _ _
    have hspot:a.spot=none:=by
     obtain ⟨ci,hci,_⟩:=(hys 0 ys[0] (List.getElem?_eq_getElem (by omega))).2
     obtain ⟨_,g1,g2⟩:=World.cells?_some hci
     have g3:=g2 0 hz
     rw [List.getElem?_eq_getElem (by omega)] at g3
     simp only [Nat.zero_mul,Addr.add,if_true] at g3
     unfold World.cell? at g3
     split at g3
     ·split at g3
      ·cases g3
      rename_i hs;simpa using hs
     cases g3
    refine .slice _ false _ ys a _ cap (fun i j=>(W.cell? ⟨a.block,a.off+i*P.cellsOf e+j,none⟩).getD undef) hspot hyl.symm hlc (fun x hx=>?_) (fun x hx=>?_) (fun i x j y hx hy=>?_) (fun i x j y hx hy=>?_) (fun h=>by cases h)
    ·obtain ⟨i,hi⟩:=List.getElem?_of_mem hx
     obtain ⟨ci,hci,hcr⟩:=(hys i x hi).2
     rw [hcr.1]
     exact (World.cells?_some hci).2.1
    ·obtain ⟨i,hi⟩:=List.getElem?_of_mem hx
     obtain ⟨ci,hci,hcr⟩:=(hys i x hi).2
     exact hcr.2.1
    ·obtain ⟨ci,hci,hcr⟩:=(hys i x hx).2
     obtain ⟨_,g1,g2⟩:=World.cells?_some hci
     have hj:j<P.cellsOf e:=by
      have:=(List.getElem?_eq_some_iff.1 hy).1
      rw [hcr.1] at this;omega
     have g3:=g2 j hj
     rw [List.getElem?_eq_getElem (by omega),Ba hspot,Ba rfl] at g3
     exact ⟨uv g3,by rw [g3];rfl⟩
    obtain ⟨ci,hci,hcr⟩:=(hys i x hx).2
    obtain ⟨_,g1,g2⟩:=World.cells?_some hci
    have hj:j<P.cellsOf e:=by
     have:=(List.getElem?_eq_some_iff.1 hy).1
     rw [hcr.1] at this;omega
    have g3:=g2 j hj
    rw [List.getElem?_eq_getElem (by omega),Ba hspot,Ba rfl] at g3
    simp only at g3
    rw [g3]
    exact hcr.2.2 j y _ hy (List.getElem?_eq_getElem (by omega))
  obtain ⟨xs,m,hm,rfl,hcl,hxl,hX⟩:=DataW.trod_struct hu h
  injection hm with hm
  subst hm
  have hXi:∀i,i<fs.size→∃y,∀(f:Field),fs[i]? = some f→(∀d,xs[i]? = some d→DRep P f.type d.1 y)∧CRep W y ((cs.drop f.offset).take (P.cellsOf f.type))∧y.cells.length=P.cellsOf f.type:=fun i hi=>by
   have h1:=hX i fs[i] (Array.getElem?_eq_getElem hi)
   rw [List.getElem?_eq_getElem (by omega)] at h1
   obtain ⟨y,h2,h3,h4⟩:=ih _ _ _ (hf _ (by simp)) h1
   refine ⟨y,fun f hf'=>?_⟩
   rw [Array.getElem?_eq_getElem hi] at hf'
   injection hf' with hf'
   subst hf'
   exact ⟨fun d hd=>by rw [List.getElem?_eq_getElem (by omega)] at hd;injection hd with hd;subst hd;exact h2,h3,by rw [h3.1,h4]⟩
  obtain ⟨ys,hyl,hys⟩:=Jj fs.size hXi
  have hlenI:∀(i:Nat),((ys.take i).map fun y=>y.cells.length).sum=((fs.toList.take i).map fun f=>P.cellsOf f.type).sum:=fun i=>by
   refine L1 _ _ (by simp [hyl]) (fun j y f h1 h2=>?_)
   rw [List.getElem?_take] at h1 h2
   split at h1
   ·rename_i hj
    rw [if_pos hj] at h2
    exact (hys j y h1 f (by simpa using h2)).2.2
   cases h1
  have htot:(ys.flatMap AV.cells).length=cs.length:=by
   rw [List.length_flatMap,hcl,hsum]
   refine L1 _ _ (by simp [hyl]) (fun j y f h1 h2=>(hys j y h1 f (by simpa using h2)).2.2)
  refine ⟨.agg (ys.flatMap AV.cells),.struct hu (by simp [hxl]) hyl (fun i f d y hf' hd hy=>?_),⟨htot,fun c hc=>?_,fun j c v h1 h2=>?_⟩,hcl⟩
  ·rw [List.getElem?_map,Option.map_eq_some_iff] at hd
   obtain ⟨d',hd',rfl⟩:=hd
   exact (hys i y hy f hf').1 d' hd'
  ·obtain ⟨y,hy,hcy⟩:=List.mem_flatMap.1 hc
   obtain ⟨i,hi⟩:=List.getElem?_of_mem hy
   have hlt:i<fs.size:=by rw [←hyl];exact (List.getElem?_eq_some_iff.1 hi).1
   exact ((hys i y hi fs[i] (Array.getElem?_eq_getElem hlt)).2.1).2.1 c hcy
  obtain ⟨i,y,q,g1,g2,rfl⟩:=Vw ys j c h1
  have hlt:i<fs.size:=by rw [←hyl];exact (List.getElem?_eq_some_iff.1 g1).1
  obtain ⟨_,k2,k3⟩:=hys i y g1 fs[i] (Array.getElem?_eq_getElem hlt)
  have hq:q<P.cellsOf (fs[i]).type:=by have:=(List.getElem?_eq_some_iff.1 g2).1;omega
  refine k2.2.2 q c v g2 ?_
  rw [List.getElem?_take,if_pos hq,List.getElem?_drop,hoff i fs[i] (by simp [hlt]),←hlenI i]
  exact h2

/-- A measure of data. -/
structure Bulk (B:DataW H→Nat):Prop where
 str:∀bs,bs.length≤B (.lit (.string bs))
 slice:∀elems spare,elems.length≤B (.slice elems spare)∧∀d∈elems,B d≤B (.slice elems spare)
 agg:∀parts,∀d∈parts,B d≤B (.agg parts)
theorem DRep.int' {t:TypeId} {k:IntKind} {d:DataW H} {y:AV} (hu:P.underlying t=some (.int k)) (h:DRep P t d y):∃n,d=.lit (.int k n)∧y=.v (.int k n)∧k.min≤n∧n≤k.max:=by
 cases h with
 | int hu' wf=>rw [hu] at hu';injection hu' with e;injection e with e;subst e;exact ⟨_,rfl,rfl,by simpa [Lit.wf] using wf⟩
 | _ hu'=>rw [hu] at hu';cases hu'
theorem DRep.str' {t:TypeId} {d:DataW H} {y:AV} (hu:P.underlying t=some .string) (h:DRep P t d y):∃s,d=.lit (.string s)∧y=.v (sv s):=by
 cases h with
 | str hu'=>exact ⟨_,rfl,rfl⟩
 | _ hu'=>rw [hu] at hu';cases hu'
theorem DRep.slice' {t e:TypeId} {d:DataW H} {y:AV} {B:DataW H→Nat} (hB:Bulk B) {α:Type} (A:α→AV) (R:α→Prop) {b:Nat} (hu:P.underlying t=some (.slice e)) (h:DRep P t d y) (hb:B d≤b)
  (hE:∀d y,B d≤b→DRep P e d y→∃x,y=A x∧R x):∃l:List α,y=.slice false (P.cellsOf e) (l.map A)∧l.length≤b∧∀x∈l,R x:=by
 cases h with
 | nil hu'=>rw [hu] at hu';injection hu' with e';injection e' with e';subst e';exact ⟨[],rfl,Nat.zero_le _,fun x hx=>by cases hx⟩
 | slice hu' hn hh =>
  rw [hu] at hu';injection hu' with e';injection e' with e';subst e'
  rename_i elems spare ys
  obtain ⟨h1,h2⟩:=hB.slice elems spare
  have key:∀(ys:List AV) (es:List (DataW H)),ys.length=es.length→(∀d∈es,B d≤b)→(∀(i:Nat) (d:DataW H) (y:AV),es[i]? = some d→ys[i]? = some y→DRep P e d y)→∃l:List α,ys=l.map A∧∀x∈l,R x:=by
   intro ys
   induction ys with
   | nil=>exact fun es _ _ _=>⟨[],rfl,fun x hx=>by cases hx⟩
   | cons y ys ih =>
    intro es hl hb2 hr
    cases es with
    | nil=>simp at hl
    | cons d es =>
     obtain ⟨x,rfl,hx⟩:=hE d y (hb2 d (by simp)) (hr 0 d y rfl rfl)
     obtain ⟨l,rfl,hR⟩:=ih es (by simpa using hl) (fun d hd=>hb2 d (by simp [hd])) (fun i d y a c=>hr (i+1) d y a c)
     exact ⟨x::l,rfl,fun z hz=>by
      rcases List.mem_cons.1 hz with rfl|hz
      ·exact hx
      exact hR z hz⟩
  obtain ⟨l,rfl,hR⟩:=key ys elems hn (fun d hd=>Nat.le_trans (h2 d hd) hb) hh
  exact ⟨l,rfl,by simp at hn;omega,hR⟩
 | _ hu'=>rw [hu] at hu';cases hu'
theorem DRep.struct' {t:TypeId} {fs:Array Field} {d:DataW H} {y:AV} {B:DataW H→Nat} (hB:Bulk B) (hu:P.underlying t=some (.struct fs)) (h:DRep P t d y):
  ∃ys:List AV,ys.length=fs.size∧y=.agg (ys.flatMap AV.cells)∧∀(i:Nat) (f:Field) (z:AV),fs[i]? = some f→ys[i]? = some z→∃d',B d'≤B d∧DRep P f.type d' z:=by
 cases h with
 | struct hu' hn hn' hh =>
  rw [hu] at hu';injection hu' with e';injection e' with e';subst e'
  rename_i parts ys
  refine ⟨ys,hn',rfl,fun i f z h1 h2=>?_⟩
  have hlt:i<parts.length:=by rw [hn];exact (Array.getElem?_eq_some_iff.1 h1).1
  exact ⟨parts[i],hB.agg parts _ (List.getElem_mem hlt),hh i f parts[i] z h1 (List.getElem?_eq_getElem hlt) h2⟩
 | _ hu'=>rw [hu] at hu';cases hu'

/-- An argument's reading. -/
theorem pt {T:TypeId→Prop} (PT:PlainT P T) {W:World} {t:TypeId} {v:Value} {d:DataW H} {ps:List MemPlace} {b0:Nat} (hT:T t) (hok:Value.okWide P W .any b0 t v) (h:DataW.Trod enc P W 0 (fun _=>true) true t v d ps):
  ∃y,DRep P t d y∧Rep (G0 W) W none y v:=by
 obtain ⟨n,hn⟩:=h
 obtain ⟨y,h1,h2,h3⟩:=l3 PT n t _ _ hT hn
 refine ⟨y,h1,?_⟩
 rcases PT.look t hT with ⟨hc1,hone⟩|⟨fs,hu,_⟩
 ·have hva:∀cs,v≠.agg cs:=fun cs e=>by
   subst e
   rcases hone with ⟨k,hu⟩|hu|hu|⟨e,hu,he,hz⟩<;>simp [Value.okWide,hu,Cell.okWide,Cell.ok] at hok
  have hvc:v.cells=#[v]:=by cases v<;>first|rfl|exact absurd rfl (hva _)
  have hyc:y.cells=[y]:=by
   cases h1 with
   | struct hu=>rcases hone with ⟨k,hu'⟩|hu'|hu'|⟨e,hu',he,hz⟩<;>rw [hu] at hu'<;>cases hu'
   | _=>rfl
  have:=h2.2.2 0 y v (by rw [hyc];rfl) (by rw [hvc];rfl)
  exact this
 obtain ⟨cs,rfl,hsz,_⟩:∃cs,v=.agg cs∧cs.size=P.cellsOf t∧Row.okWide P W .any b0 t cs:=by
  simp only [Value.okWide,hu] at hok
  exact hok
 cases h1 with
 | struct hu' hn1 hn2 hh =>
  refine .agg _ _ _ (by have:=h2.1;simp only [AV.cells,Value.cells,Array.length_toList] at this;exact this.symm) h2.2.1 (fun i c u a b=>h2.2.2 i c u a (by simpa [Value.cells] using b))
 | int hu'=>rw [hu] at hu';cases hu'
 | bool hu'=>rw [hu] at hu';cases hu'
 | str hu'=>rw [hu] at hu';cases hu'
 | nil hu'=>rw [hu] at hu';cases hu'
 | slice hu'=>rw [hu] at hu';cases hu'

def DReps (P:Program):List TypeId→List (DataW H)→List AV→Prop
 | [],[],[]=>True
 | t::ts,d::ds,y::ys=>DRep P t d y∧DReps P ts ds ys
 | _,_,_=>False

theorem DReps.cons' {t:TypeId} {ts:List TypeId} {ds:List (DataW H)} {ys:List AV} (h:DReps P (t::ts) ds ys):∃d ds' y ys',ds=d::ds'∧ys=y::ys'∧DRep P t d y∧DReps P ts ds' ys':=by
 match ds,ys,h with
 | d::ds',y::ys',⟨h1,h2⟩=>exact ⟨d,ds',y,ys',rfl,rfl,h1,h2⟩
 | [],_,h=>simp [DReps] at h
 | _::_,[],h=>simp [DReps] at h
theorem DReps.nil' {ds:List (DataW H)} {ys:List AV} (h:DReps P [] ds ys):ds=[]∧ys=[]:=by
 match ds,ys,h with
 | [],[],_=>exact ⟨rfl,rfl⟩
 | [],_::_,h=>simp [DReps] at h
 | _::_,_,h=>simp [DReps] at h
theorem Rv {T:TypeId→Prop} (PT:PlainT P T) {W:World} {b0:Nat}:∀(ts:List TypeId) (vs:List Value) (ds:List (DataW H)) (ps:List MemPlace),(∀t∈ts,T t) →
  (∀(j:Nat) t v,ts[j]? = some t→vs[j]? = some v→Value.okWide P W .any b0 t v)→DataW.TrodAll enc P W 0 (fun _=>true) true ts vs ds ps →
  ∃ys,DReps P ts ds ys∧ys.length=vs.length∧∀(i:Nat) (y:AV) (u:Value),ys[i]? = some y→vs[i]? = some u→Rep (G0 W) W none y u
 | [],[],[],_,_,_,_=>⟨[],trivial,rfl,fun i y u h=>by simp at h⟩
 | t::ts,v::vs,d::ds,ps,hT,hok,⟨p,q,h1,h2,_⟩=>by
  obtain ⟨y,k1,k2⟩:=pt PT (hT t (by simp)) (hok 0 t v rfl rfl) h1
  obtain ⟨ys,k3,k4,k5⟩:=Rv PT ts vs ds q (fun t ht=>hT t (by simp [ht])) (fun j t v a b=>hok (j+1) t v a b) h2
  refine ⟨y::ys,⟨k1,k3⟩,by simp [k4],fun i z u a b=>?_⟩
  match i with
  | 0=>simp at a b;subst a;subst b;exact k2
  | i+1=>exact k5 i z u a b
 | [],_::_,_,_,_,_,h=>by simp [DataW.TrodAll] at h
 | [],[],_::_,_,_,_,h=>by simp [DataW.TrodAll] at h
 | _::_,[],_,_,_,_,h=>by simp [DataW.TrodAll] at h
 | _::_,_::_,[],_,_,_,h=>by simp [DataW.TrodAll] at h

theorem Ni {W:World} {sp:Nat→Bool} {hd:Bool}:∀{ts:List TypeId} {vs:List Value} {ds:List (DataW H)} {ps:List MemPlace},DataW.TrodAll enc P W 0 sp hd ts vs ds ps→ds.length=ts.length
 | [],[],[],_,_=>rfl
 | _::_,_::_,_::_,_,⟨_,_,_,h,_⟩=>by rw [List.length_cons,List.length_cons,Ni h]
 | [],_::_,_,_,h=>by simp [DataW.TrodAll] at h
 | [],[],_::_,_,h=>by simp [DataW.TrodAll] at h
 | _::_,[],_,_,h=>by simp [DataW.TrodAll] at h
 | _::_,_::_,[],_,h=>by simp [DataW.TrodAll] at h
theorem Jk {W W':World} {sp:Nat→Bool}:∀{ts:List TypeId} {vs:List Value} {ds:List (DataW H)} {ps:List MemPlace},DataW.TrodAll enc P W 0 sp true ts vs ds ps→(∀p∈ps,W.sameAt W' p)→DataW.TrodAll enc P W' 0 sp true ts vs ds ps
 | [],[],[],_,h,_=>h
 | _::_,_::_,_::_,_,⟨p,q,⟨n,hn⟩,h2,e⟩,hs=>⟨p,q,⟨n,DataW.trod_carry n _ _ _ hn (fun x hx=>hs x (by rw [e];exact List.mem_append_left _ hx))⟩,Jk h2 (fun x hx=>hs x (by rw [e];exact List.mem_append_right _ hx)),e⟩
 | [],_::_,_,_,h,_=>by simp [DataW.TrodAll] at h
 | [],[],_::_,_,h,_=>by simp [DataW.TrodAll] at h
 | _::_,[],_,_,h,_=>by simp [DataW.TrodAll] at h
 | _::_,_::_,[],_,h,_=>by simp [DataW.TrodAll] at h

/-- **A law that answers true, for whatever can be read.** -/
theorem f5 {f:FuncId} {fn:Func} {s:ChangeSpec} {T:TypeId→Prop} {tb:TypeId} {W:World} {base:Nat} {args:Array Value} {ds gs:List (DataW H)} {before:List MemPlace} (K:Kids P (·<P.types.size)) (hz:∀t e,t<P.types.size→P.underlying t=some (.slice e)→0<P.cellsOf e)
  (PT:PlainT P T) (hT:∀t∈fn.params.toList,T t∧t<P.types.size) (hb:P.underlying tb=some .bool) (hres:fn.resultTypes=#[tb]) (hvars:s.vars=[])
  (hspec:∀ds:List (DataW H),ds.length=fn.params.size→s.fn H ds={ results:=[.lit (.bool true)],args:=ds })
  (hval:∀(j:Nat) t v,fn.params[j]? = some t→args[j]? = some v→Value.okWide P W .any base t v) (hW:DataW.Whole enc P fn.params.toList s.vars false W args.toList ds gs before)
  (hglob:H0 W)
  (main:∀ys:List AV,DReps P fn.params.toList ds ys→AFun P f ys [] (.v (.bool true))) (hbd:GI.bd≤0:=by exact Nat.le_refl 0):
  Calls P f args W (fun e W'=>∃v,e=.returned v∧s.post enc P fn false true false false W args v W'):=by
 have hW0:=hW
 obtain ⟨p,q,hA,hV,hpq,hfz,hnd⟩:=hW
 rw [hvars] at hV
 obtain ⟨rfl,rfl⟩:=trodVars_none hV
 rw [List.append_nil] at hpq
 subst hpq
 obtain ⟨ys,h1,h2,h3⟩:=Rv PT _ _ _ _ (fun t ht=>(hT t ht).1) (fun j t v a b=>hval j t v (by simpa using a) (by simpa using b)) hA
 have hlen:=Ni hA
 have hc:=main ys h1 0 (G0 W) W args (by simpa using h2.symm) (fun i y u a b=>(h3 i y u a (by simpa using b)).lift) (pm W) (pq hglob)
 refine (callsIn_wide.1 (hc hbd)).mono ?_
 rintro e W' ⟨v,G',r,H',rfl,hr,hH,hTg,hk,hl,rfl,rfl⟩
 have hv:=Iz hr
 subst hv
 refine ⟨_,rfl,ds,[],before,[],before,[],hW0,?_,?_,?_,?_,fun h=>by cases h⟩
 ·rw [hres,List.append_nil,hspec ds (by simpa using hlen)]
  exact trodAll_cons_mk (p:=[]) (shut_bool hb true) trodAll_mk0
 ·rw [List.append_nil,hspec ds (by simpa using hlen)]
  refine Jk (DataW.TrodAll.respare K hz (fun t ht=>(hT t ht).2) hA (fun p hp=>by simpa using hW0.lt p hp)) (fun p hp=>?_)
  have hlt:=hW0.lt p hp
  have hb:=(hk.old _ (Mq hlt)).1
  cases p with
  | cell b o=>exact Ck hb
  | map b=>exact hb
 ·rw [hvars,List.append_nil,hspec ds (by simpa using hlen)]
  rfl
 refine ⟨hk.os,hk.output,fun i hi=>?_⟩
 have hb:=(hk.old i (Mq hi)).1
 rw [hb]
 cases ho:W.heap[i]? with
 | none=>simp
 | some o=>cases o<;>simp
end
end Go.SX
namespace Go.Proofs.YtepoiomaocjhfaaGreatDoor
open Go Go.SX Go.SX.Nb Go.ChangeShapes Go.RowKit
set_option maxRecDepth 100000

theorem own:ownKnob Tryz.prog.godebug=none:=by kernel_rfl
theorem kids:Kids Tryz.prog (·<Tryz.prog.types.size):=kids_rows (by kernel_rfl) (by kernel_rfl)
theorem full:∀t e,t<Tryz.prog.types.size→Tryz.prog.underlying t=some (.slice e)→0<Tryz.prog.cellsOf e:=slices_full_of Tryz.prog (by kernel_rfl)
theorem l4 {H:Type}:∀d:DataW H,1≤Rows.uptoBulk d
 | .lit (.string b)=>by rw [Rows.uptoBulk];omega
 | .lit (.bool _)=>by simp [Rows.uptoBulk]
 | .lit (.int _ _)=>by simp [Rows.uptoBulk]
 | .lit (.float _ _)=>by simp [Rows.uptoBulk]
 | .lit .nil=>by simp [Rows.uptoBulk]
 | .nil=>by simp [Rows.uptoBulk]
 | .ptr d=>by rw [Rows.uptoBulk];omega
 | .slice a b=>by rw [Rows.uptoBulk];omega
 | .agg a=>by rw [Rows.uptoBulk];omega
 | .iface _ d=>by rw [Rows.uptoBulk];omega
 | .map a=>by rw [Rows.uptoBulk];omega
 | .held _=>by simp [Rows.uptoBulk]
theorem Po {H:Type}:∀l:List (DataW H),l.length≤Rows.uptoBulkAll l∧∀d∈l,Rows.uptoBulk d≤Rows.uptoBulkAll l
 | []=>⟨Nat.zero_le _,fun d h=>by cases h⟩
 | d::r=>by
  obtain ⟨h1,h2⟩:=Po r
  have:=l4 d
  rw [Rows.uptoBulkAll,List.length_cons]
  refine ⟨by omega,fun x hx=>?_⟩
  rcases List.mem_cons.1 hx with rfl|hx
  ·omega
  have:=h2 x hx;omega
theorem f6 {H:Type}:Bulk (Rows.uptoBulk (H:=H)) where
 str:=fun bs=>by rw [Rows.uptoBulk];omega
 slice:=fun elems spare=>by
  obtain ⟨h1,h2⟩:=Po elems
  rw [Rows.uptoBulk]
  exact ⟨by omega,fun d hd=>by have:=h2 d hd;omega⟩
 agg:=fun parts d hd=>by
  have:=(Po parts).2 d hd
  rw [Rows.uptoBulk]
  omega

/-- What the rows of this seat list. -/
def l5:List (String×DataW Unit):=Rows.soundJoinsUptoRow.laid
theorem f8:∀u,Tryz.prog.typeName? 3 u=some "*errors.errorString" → u=271:=by
 intro u hu
 exact typeName_ptr_named (nm := "errors.errorString") (by kernel_rfl) (by kernel_rfl) (by decide) u hu
theorem pu {W:World} (h:laidMet Tryz.prog l5 W):∃a:Addr,W.var? Tryz.prog "strconv.ErrRange" = some #[.iface 271 (.pointer (some a))]:=by
 have h':=h.tail.tail.tail.tail
 obtain ⟨a,s,h1,_⟩:=laid_sentinel (g:=1) (ti:=133) (tp:=271) (te:=273) (ts:=9) h' (by kernel_rfl) (by kernel_rfl) Tryz.underlying133 f8 Tryz.underlying271 Tryz.underlying273 rfl rfl Tryz.underlying9 (by kernel_rfl) (by kernel_rfl)
 exact ⟨a,h1⟩
theorem pv {W:World} (h:laidMet Tryz.prog l5 W):Lib.TabIs Tryz.prog W "internal/strconv.uint64pow10" .u64 Lib.pow10Tab:=
 Lib.tabIs_of_head (g:=4) (t:=232) (e:=210) (n:=20) (by kernel_rfl) (by kernel_rfl) (by kernel_rfl) (by kernel_rfl) (by kernel_rfl) (by kernel_rfl) h.tail.tail
theorem Rw {P:Program} {W:World} {n:String} {g:Nat} {cs:Array Value} (hg:P.globalNamed n=some g) (h:W.var? P n=some cs):∃t f,W.heap[g]? = some (.cells cs t f):=by
 unfold World.var? at h
 rw [hg] at h
 simp only [Option.bind_some] at h
 split at h
 ·rename_i cs' t f e
  injection h with h
  subst h
  exact ⟨t,f,e⟩
 cases h
theorem glob {W:World} [E:ErrAt] (h:W.ShapedOpen Tryz.prog) (hl:laidMet Tryz.prog l5 W) (he:W.var? Tryz.prog "strconv.ErrRange" = some #[.iface 271 (.pointer (some E.b))]):H0 W:=by
 intro x hx
 have hx':x∈Rg:=hx
 unfold Rg at hx'
 simp only [List.mem_cons,List.mem_nil_iff,or_false] at hx'
 rcases hx' with rfl|rfl|rfl
 ·obtain ⟨m,hm⟩:=cell_of_shapedOpen_int (g:=0) (t:=3) (zero:=#[.int .i64 0]) (k:=.i64) h (of_decide_eq_true (by kernel_rfl)) (by kernel_rfl) rfl (by kernel_rfl) (by kernel_rfl) Tryz.underlying3
  obtain ⟨cs,hh,hs,_⟩:=h.1 0 #[.int .i64 0] 3 (of_decide_eq_true (by kernel_rfl)) (by kernel_rfl)
  have hs':cs.size=1:=hs
  have h1:0<cs.size:=by omega
  have hc:cs[0]=.int .i64 m:=by
   simp [World.cell?,hh,h1] at hm
   exact hm
  have:cs=#[.int .i64 m]:=by
   apply Array.ext
   ·simpa using hs'
   intro i h1 h2
   have:i=0:=by omega
   subst this
   simpa using hc
  rw [this] at hh
  exact ⟨_,hh,m,3,_,rfl⟩
 ·obtain ⟨t,f,e⟩:=Rw (g:=1) (by kernel_rfl) he
  exact ⟨_,e,t,f,rfl⟩
 obtain ⟨t,f,e⟩:=Rw (g:=4) (by kernel_rfl) (pv hl)
 exact ⟨_,e,t,f,rfl⟩
end Go.Proofs.YtepoiomaocjhfaaGreatDoor
namespace Go.SX.Nb
open Go Go.SX Go.Proofs
variable [ErrAt]
set_option maxRecDepth 4000
mutual
def depthE:Expr→Nat
 | .mk _ _ _ k=>Cf k+1
def Cf:List Expr→Nat
  | []=>0
  | e::r=>max (depthE e) (Cf r)
 end
mutual
def Cs (p:Expr→Bool):Expr→Bool
 | .mk o t v k=>p (.mk o t v k)&&I2 p k
def I2 (p:Expr→Bool):List Expr→Bool
  | []=>true
  | e::r=>Cs p e&&I2 p r
 end
mutual
def Pp:Expr→List Expr
 | .mk o t v k=>.mk o t v k::Mr k
def Mr:List Expr→List Expr
  | []=>[]
  | e::r=>Pp e++Mr r
 end
theorem Ka (e:Expr):depthE e=Cf e.kids+1:=by cases e;rfl
theorem Ef (p:Expr→Bool) (e:Expr):Cs p e=(p e&&I2 p e.kids):=by cases e;rfl
theorem Kl:∀a b,Cf (a++b)=max (Cf a) (Cf b)
 | [],b=>by rw [List.nil_append,Cf,Nat.zero_max]
 | e::r,b=>by rw [List.cons_append,Cf,Cf,Kl r b,Nat.max_assoc]
theorem If:∀a b,B1 (a++b)=B1 a+B1 b
 | [],b=>by rw [List.nil_append,B1,Nat.zero_add]
 | e::r,b=>by rw [List.cons_append,B1,B1,If r b,Nat.add_assoc]
theorem Nj (p:Expr→Bool):∀a b,I2 p (a++b)=(I2 p a&&I2 p b)
 | [],b=>by rw [List.nil_append,I2,Bool.true_and]
 | e::r,b=>by rw [List.cons_append,I2,I2,Nj p r b,Bool.and_assoc]
theorem Nk (l:List Expr) {x:Nat} (h:x<l.length):Cf (l.take (x+1))=max (Cf (l.take x)) (depthE l[x]):=by
 rw [List.take_succ_eq_append_getElem h,Kl,Cf,Cf,Nat.max_zero]
theorem Yt (l:List Expr) {x:Nat} (h:x<l.length):B1 (l.take (x+1))=B1 (l.take x)+sizeE l[x]:=by
 rw [List.take_succ_eq_append_getElem h,If,B1,B1,Nat.add_zero]
theorem Co (p:Expr→Bool):∀l:List Expr,I2 p l=true↔∀y∈l,Cs p y=true
 | []=>by simp [I2]
 | e::r=>by rw [I2,Bool.and_eq_true,Co p r];simp
mutual
theorem E9:∀(d:Int) (e:Expr),(Au d e).length=sizeE e
 | d,.mk o t v k=>by rw [Au,sizeE,List.length_cons,Pq (d+1) k,Nat.add_comm]
theorem Pq:∀(d:Int) (l:List Expr),(As d l).length=B1 l
  | d,[]=>rfl
  | d,e::r=>by rw [As,B1,List.length_append,E9 d e,Pq d r]
 end
mutual
theorem Pr:∀(d:Int) (e:Expr),(Au d e).map (·.2)=Pp e
 | d,.mk o t v k=>by rw [Au,Pp,List.map_cons,Ps (d+1) k]
theorem Ps:∀(d:Int) (l:List Expr),(As d l).map (·.2)=Mr l
  | d,[]=>rfl
  | d,e::r=>by rw [As,Mr,List.map_append,Pr d e,Ps d r]
 end
mutual
theorem Rx (p:Expr→Bool):∀e:Expr,(Pp e).all p=Cs p e
 | .mk o t v k=>by rw [Pp,Cs,List.all_cons,Pt p k]
theorem Pt (p:Expr→Bool):∀l:List Expr,(Mr l).all p=I2 p l
  | []=>rfl
  | e::r=>by rw [Mr,I2,List.all_append,Rx p e,Pt p r]
 end
theorem f9 (p:Expr→Bool) (d:Int) (e:Expr):((Au d e).all fun it=>p it.2)=Cs p e:=by
 rw [←Rx p e,←Pr d e,List.all_map]
 rfl
def Dd (m:Int) (L:List (Int×Expr)):Int:=L.foldl (fun m it=>max m it.1) m
mutual
theorem Pu:∀(d m:Int) (e:Expr),Dd m (Au d e)=max m (d-1+depthE e)
 | d,m,.mk o t v k=>by
  rw [Au,depthE]
  show Dd (max m d) (As (d+1) k)=_
  rw [Pv (d+1) (max m d) k (by omega)]
  omega
theorem Pv:∀(d m:Int) (l:List Expr),d-1≤m→Dd m (As d l)=max m (d-1+Cf l)
  | d,m,[],h=>by
    rw [As,Cf]
    show m=_
    omega
  | d,m,e::r,h=>by
    rw [As,Cf]
    unfold Dd
    rw [List.foldl_append]
    show Dd (Dd m (Au d e)) (As d r)=_
    rw [Pu d m e,Pv d _ r (by omega)]
    omega
 end
theorem Nl (e:Expr):Dd 0 (Au 1 e)=depthE e:=by rw [Pu];omega
theorem Vx:∀(L:List (Int×Expr)) (m b:Int),m≤b→(Dd m L≤b↔∀it∈L,it.1≤b)
 | [],m,b,h=>by simp [Dd,h]
 | it::r,m,b,h=>by
  show Dd (max m it.1) r≤b↔_
  rcases Decidable.em (it.1≤b) with h1|h1
  ·rw [Vx r (max m it.1) b (by omega)]
   simp [h1]
  constructor
  ·intro h2
   have:∀(r:List (Int×Expr)) (m:Int),m≤Dd m r:=by
    intro r
    induction r with
    | nil=>intro m;exact Int.le_refl _
    | cons a r ih=>intro m;have:=ih (max m a.1);show m≤Dd (max m a.1) r;omega
   have:=this r (max m it.1)
   omega
  intro h2
  exact absurd (h2 it (by simp)) h1
theorem pw (e:Expr) {b:Nat}:(∀it∈Au 1 e,it.1≤(b:Int))↔depthE e≤b:=by
 rw [←Vx (Au 1 e) 0 b (by omega),Nl]
 omega
def B7 (e:Expr):Bool:=(decide (depthE e≤30)&&decide (sizeE e≤300))&&Cs C8 e
theorem Ci (e:Expr):Af e=B7 e:=by
 have hpos:1≤sizeE e:=by rw [H6];omega
 rw [Bool.eq_iff_iff]
 unfold Af B7
 rw [List.all_eq_true]
 simp only [Bool.and_eq_true,decide_eq_true_eq,List.mem_range,E9]
 rw [←pw e,←f9 C8 1 e,List.all_eq_true]
 constructor
 ·intro h
  have key:∀(k:Nat) (hk:k<(Au 1 e).length),C8 (Au 1 e)[k].2=true∧(Au 1 e)[k].1≤30∧(k:Int)+1≤300:=fun k hk=>by
   have:=h k (by rw [E9] at hk;exact hk)
   rw [Tx (List.getElem?_eq_getElem hk)] at this
   simp only [Bool.not_eq_true',Bool.or_eq_false_iff,Bool.not_eq_false',decide_eq_false_iff_not] at this
   exact ⟨this.1.1,by have:=this.1.2;omega,by have:=this.2;omega⟩
  refine ⟨⟨fun it hit=>?_,?_⟩,fun it hit=>?_⟩
  ·obtain ⟨k,hk,rfl⟩:=List.getElem_of_mem hit
   exact (key k hk).2.1
  ·have:=(key (sizeE e-1) (by rw [E9];omega)).2.2
   omega
  obtain ⟨k,hk,rfl⟩:=List.getElem_of_mem hit
  exact (key k hk).1
 rintro ⟨⟨h1,h2⟩,h3⟩ k hk
 have hk':k<(Au 1 e).length:=by rw [E9];exact hk
 rw [Tx (List.getElem?_eq_getElem hk')]
 have a1:=h1 _ (List.getElem_mem hk')
 have a3:=h3 _ (List.getElem_mem hk')
 have a3':C8 (Au 1 e)[k].2=true:=a3
 rw [a3']
 simp only [Bool.not_eq_true',Bool.or_eq_false_iff,Bool.not_true,decide_eq_false_iff_not]
 exact ⟨⟨trivial,by have:(Au 1 e)[k].1≤(30:Int):=a1;omega⟩,by omega⟩
/-- Its number is one of 64 bits. -/
def Gg (e:Expr):Bool:=decide (-9223372036854775808≤e.val.n)&&decide (e.val.n≤9223372036854775807)
/-! Names. -/
mutual
def uw (s:Str) (y:Expr):Expr→Expr
 | .mk o t v k=>if (o==2)&&(t==s) then y else .mk o t v (px s y k)
def px (s:Str) (y:Expr):List Expr→List Expr
  | []=>[]
  | e::r=>uw s y e::px s y r
 end
mutual
def eqE:Expr→Expr→Bool
 | .mk o t v k,.mk o' t' v' k'=>((((o==o')&&(t==t'))&&((v.kind==v'.kind&&v.n==v'.n)&&v.s==v'.s)))&&eqL k k'
def eqL:List Expr→List Expr→Bool
  | [],[]=>true
  | e::r,e'::r'=>eqE e e'&&eqL r r'
  | _,_=>false
 end
theorem l6 (x y:Expr):eqE x y=((((x.op==y.op)&&(x.text==y.text))&&((x.val.kind==y.val.kind&&x.val.n==y.val.n)&&x.val.s==y.val.s))&&eqL x.kids y.kids):=by
 cases x;cases y;rw [eqE];rfl
mutual
theorem U1:∀x y:Expr,eqE x y=true↔x=y
 | .mk o t v k,.mk o' t' v' k'=>by
  rw [eqE]
  simp only [Bool.and_eq_true,beq_iff_eq,Lv k k',Expr.mk.injEq]
  constructor
  ·rintro ⟨⟨⟨rfl,rfl⟩,⟨h1,h2⟩,h3⟩,rfl⟩
   refine ⟨rfl,rfl,?_,rfl⟩
   cases v;cases v'
   simp_all
  rintro ⟨rfl,rfl,rfl,rfl⟩
  exact ⟨⟨⟨rfl,rfl⟩,⟨rfl,rfl⟩,rfl⟩,rfl⟩
theorem Lv:∀x y:List Expr,eqL x y=true↔x=y
  | [],[]=>by simp [eqL]
  | [],e::r=>by simp [eqL]
  | e::r,[]=>by simp [eqL]
  | e::r,e'::r'=>by rw [eqL,Bool.and_eq_true,U1 e e',Lv r r',List.cons.injEq]
 end
theorem py:∀{x y:List Expr},eqL x y=true→x.length=y.length:=fun h=>by rw [(Lv _ _).1 h]
theorem l7 (x:Expr):eqE x x=true:=(U1 x x).2 rfl
/-! A node by itself, and marks. -/
theorem U3 {of:Str} {ws:List Str} (h:of=Ji ws) (hp:∀w∈ws,(32:UInt8)∉w) (s:Str):K8 s of=(!(s==[])&&ws.contains s):=by
 unfold K8
 rw [Vu]
 cases hb:s.contains 32 with
 | false =>
  have h2:(32:UInt8)∉s:=by simpa using hb
  rw [h,H7 s h2 ws hp,Bool.not_false,Bool.and_true]
  congr 1
  rw [List.contains_eq_any_beq]
  congr 1
  funext w
  rw [Bool.eq_iff_iff,beq_iff_eq,beq_iff_eq]
  exact eq_comm
 | true =>
  have h2:(32:UInt8)∈s:=by simpa using hb
  have h3:ws.contains s=false:=by
   rw [Bool.eq_false_iff]
   intro h4
   exact hp s (by simpa using h4) h2
  rw [h3]
  simp
def levels:List (List Str):=[[[111,114]],[[97,110,100]],[],[[61],[33,61],[60],[60,61],[62],[62,61]],[[43],[45],[38]],[[42],[47],[37]]]
def An (s:Str):Int:=match levels.findIdx? (fun l=>l.contains s) with|some i=>i|none => -1
def Ms:List Str:=[[111,114],[],[97,110,100],[],[61],[33,61],[60],[60,61],[62],[62,61],[],[43],[45],[38],[],[42],[47],[37]]
theorem Yu:K9=Ji Ms:=by kernel_rfl
theorem Vy:∀w∈Ms,(32:UInt8)∉w:=by decide
theorem Yv (s:Str):K8 s K9=decide (0≤An s):=by
 rw [U3 Yu Vy s]
 have h1:decide (0≤An s)=levels.any (fun l=>l.contains s):=by
  unfold An
  cases h:levels.findIdx? (fun l=>l.contains s) with
  | some i =>
   have:levels.any (fun l=>l.contains s)=true:=by
    have:=List.findIdx?_eq_some_iff_getElem.1 h
    obtain ⟨hi,hp,_⟩:=this
    exact List.any_eq_true.2 ⟨_,List.getElem_mem hi,hp⟩
   rw [this]
   simp
  | none =>
   have:=List.findIdx?_eq_none_iff.1 h
   have e:levels.any (fun l=>l.contains s)=false:=by
    rw [List.any_eq_false]
    intro l hl
    rw [this l hl]
    simp
   rw [e]
   rfl
 rw [h1]
 by_cases h0:s=[]
 ·subst h0;rfl
 have:(s==[])=false:=by simpa using h0
 rw [this,Bool.not_false,Bool.true_and]
 simp [levels,Ms,h0,Bool.or_assoc]
def Ea (e:Expr):Bool:=
 if e.op==1 then ((Dk e.val&&decide (0≤e.val.n))&&(e.text==[]))&&((e.kids.length:Int)==0)
 else if !(I0 e.val) then false
 else if e.op==2 then H4 e.text&&((e.kids.length:Int)==0)
 else if e.op==3 || e.op==4 then (e.text==[])&&((e.kids.length:Int)==1)
 else if e.op==5 then decide (0≤An e.text)&&((e.kids.length:Int)==2)
 else if e.op==6 then B2 e.text==(e.kids.length:Int)
 else false
theorem Pw (e:Expr):C8 e=Ea e:=by
 unfold C8 Ea
 rw [Yv,D4]
 cases I0 e.val<;>simp
/-! What is wide. -/
def Mt (e:Expr):Bool:=((decide ((100:Int)<e.text.length) || decide ((400:Int)<e.val.s.length)) || decide ((100:Int)<e.kids.length))
/-- Among trees, when n have been seen: is one too much? -/
def Km (l:List Expr) (n:Nat):Bool:=decide (500<n+l.length) || l.any Mt
def El:Nat→List Expr→Nat→Bool
 | 0,l,n => !l.isEmpty
 | f+1,l,n=>if l.isEmpty then false else if Km l n then true else if decide ((500:Int)<(l.flatMap Expr.kids).length) then true else El f (l.flatMap Expr.kids) (n+l.length)
theorem Px:∀l:List Expr,B1 l=l.length+B1 (l.flatMap Expr.kids)
 | []=>rfl
 | e::r=>by
  rw [B1,H6,List.flatMap_cons,If,Px r,List.length_cons]
  omega
theorem Py {l:List Expr} {n:Nat} (h:Km l n=false):n+l.length≤500∧∀e∈l,Mt e=false:=by
 unfold Km at h
 simp only [Bool.or_eq_false_iff,decide_eq_false_iff_not,List.any_eq_false,Bool.not_eq_true] at h
 exact ⟨by omega,h.2⟩
theorem U4 {e:Expr} (h:Mt e=false):e.text.length≤100∧e.val.s.length≤400∧e.kids.length≤100:=by
 unfold Mt at h
 simp only [Bool.or_eq_false_iff,decide_eq_false_iff_not] at h
 omega
theorem Ry {f:Nat} {l:List Expr} {n:Nat} (h:El (f+1) l n=false) (hl:l.isEmpty=false):Km l n=false∧(l.flatMap Expr.kids).length≤500∧El f (l.flatMap Expr.kids) (n+l.length)=false:=by
 rw [El,if_neg (by rw [hl];simp)] at h
 split at h
 ·cases h
 rename_i h1
 split at h
 ·cases h
 rename_i h2
 simp only [decide_eq_true_eq] at h2
 exact ⟨by simpa using h1,by omega,h⟩
theorem ax:∀(f:Nat) (l:List Expr) (n:Nat),El f l n=false→∀e∈l,okE f e∧Cs (fun y => !Mt y) e=true
 | 0,l,n,h,e,he=>by
  have:l=[]:=by simpa [El] using h
  subst this
  cases he
 | f+1,l,n,h,e,he=>by
  have hl:l.isEmpty=false:=by cases l<;>simp_all
  obtain ⟨h1,h2,h3⟩:=Ry h hl
  have h4:=U4 ((Py h1).2 e he)
  have ih:=ax f _ _ h3
  have hk:∀y∈e.kids,okE f y∧Cs (fun y => !Mt y) y=true:=fun y hy=>ih y (List.mem_flatMap.2 ⟨e,he,hy⟩)
  refine ⟨⟨by omega,by omega,fun y hy=>(hk y hy).1⟩,?_⟩
  rw [Ef,(Py h1).2 e he,(Co _ _).2 fun y hy=>(hk y hy).2]
  rfl
theorem Rz:∀(f:Nat) (l:List Expr) (n:Nat),n≤500→El f l n=false→n+B1 l≤500
 | 0,l,n,hn,h=>by
  have:l=[]:=by simpa [El] using h
  subst this
  simpa [B1] using hn
 | f+1,l,n,hn,h=>by
  by_cases hl:l.isEmpty=true
  ·have:l=[]:=by simpa using hl
   subst this
   simpa [B1] using hn
  have hl':l.isEmpty=false:=by simpa using hl
  obtain ⟨h1,h2,h3⟩:=Ry h hl'
  have:=Rz f _ _ (Py h1).1 h3
  rw [Px l]
  omega
def Nm (e:Expr):Bool:=El 61 [e] 0
/-- A tree that is gone through. -/
structure Slim (e:Expr):Prop where
 ok:okE 61 e
 size:sizeE e≤500
 slim:Cs (fun y => !Mt y) e=true
theorem ay {e:Expr} (h:Nm e=false):Slim e:=by
 obtain ⟨h1,h2⟩:=ax _ _ _ h e (by simp)
 have:=Rz _ _ _ (by decide) h
 exact ⟨h1,by simpa [B1] using this,h2⟩
end Go.SX.Nb
namespace Go.Proofs.YtepoiomaocjhfaaGreatDoor
open Go Go.SX Go.SX.Nb Go.ChangeShapes Go.RowKit
set_option maxRecDepth 100000
theorem Yw {ys:List AV} (h:∀(i:Nat) (y:AV),ys[i]? = some y→∃e:Nb.Expr,y=A4 e∧Cs Gg e=true):∃l:List Nb.Expr,ys=l.map A4∧I2 Gg l=true:=by
 induction ys with
 | nil=>exact ⟨[],rfl,rfl⟩
 | cons y ys ih =>
  obtain ⟨e,rfl,he⟩:=h 0 y rfl
  obtain ⟨l,rfl,hl⟩:=ih (fun i z hz=>h (i+1) z hz)
  exact ⟨e::l,rfl,by rw [I2,he,hl];rfl⟩
theorem pz {H:Type} [ErrAt] (d:DataW H) (y:AV) (h:DRep Tryz.prog 42 d y):∃v:Val,y=P3 v ∧ -9223372036854775808≤v.n∧v.n≤9223372036854775807:=by
 obtain ⟨ys,hn,rfl,hh⟩:=h.struct' f6 Tryz.underlying42
 match ys,hn with
 | [y0,y1,y2],_ =>
  obtain ⟨d0,b0,h0⟩:=hh 0 _ y0 rfl rfl
  obtain ⟨d1,b1,h1⟩:=hh 1 _ y1 rfl rfl
  obtain ⟨d2,b2,h2⟩:=hh 2 _ y2 rfl rfl
  obtain ⟨k,rfl,rfl,_⟩:=h0.int' Tryz.underlying3
  obtain ⟨n,rfl,rfl,hn1,hn2⟩:=h1.int' Tryz.underlying2
  obtain ⟨s,rfl,rfl⟩:=h2.str' Tryz.underlying9
  exact ⟨⟨k,n,s⟩,rfl,hn1,hn2⟩
theorem l8 {H:Type} [ErrAt] {t:TypeId} {d:DataW H} {y:AV} (h:DRep Tryz.prog t d y):(t=45→∃e:Nb.Expr,y=A4 e∧Cs Gg e=true)∧(t=43→∃l:List Nb.Expr,y=.slice false 6 (l.map A4)∧I2 Gg l=true):=by
 induction h with
 | int hu _=>exact ⟨fun e=>(by subst e;rw [Tryz.underlying45] at hu;cases hu),fun e=>by subst e;rw [Tryz.underlying43] at hu;cases hu⟩
 | bool hu=>exact ⟨fun e=>(by subst e;rw [Tryz.underlying45] at hu;cases hu),fun e=>by subst e;rw [Tryz.underlying43] at hu;cases hu⟩
 | str hu=>exact ⟨fun e=>(by subst e;rw [Tryz.underlying45] at hu;cases hu),fun e=>by subst e;rw [Tryz.underlying43] at hu;cases hu⟩
 | nil hu =>
  refine ⟨fun e=>(by subst e;rw [Tryz.underlying45] at hu;cases hu),fun e=>?_⟩
  subst e
  rw [Tryz.underlying43] at hu
  injection hu with hu
  injection hu with hu
  subst hu
  exact ⟨[],by rw [show Tryz.prog.cellsOf 45=6 by kernel_rfl];rfl,rfl⟩
 | slice hu hn hh ih =>
  refine ⟨fun e=>(by subst e;rw [Tryz.underlying45] at hu;cases hu),fun e=>?_⟩
  subst e
  rw [Tryz.underlying43] at hu
  injection hu with hu
  injection hu with hu
  subst hu
  rename_i elems spare ys
  obtain ⟨l,rfl,hl⟩:=Yw (ys:=ys) (fun i y hy=>by
   have hlt:i<elems.length:=by rw [←hn];exact (List.getElem?_eq_some_iff.1 hy).1
   exact (ih i elems[i] y (List.getElem?_eq_getElem hlt) hy).1 rfl)
  exact ⟨l,by rw [show Tryz.prog.cellsOf 45=6 by kernel_rfl],hl⟩
 | struct hu hn hn' hh ih =>
  refine ⟨fun e=>?_,fun e=>by subst e;rw [Tryz.underlying43] at hu;cases hu⟩
  subst e
  rw [Tryz.underlying45] at hu
  injection hu with hu
  injection hu with hu
  subst hu
  rename_i parts ys
  match parts,hn,ys,hn' with
  | [p0,p1,p2,p3],_,[y0,y1,y2,y3],_ =>
   obtain ⟨o,rfl,rfl,_⟩:=(hh 0 _ p0 y0 rfl rfl rfl).int' Tryz.underlying3
   obtain ⟨s,rfl,rfl⟩:=(hh 1 _ p1 y1 rfl rfl rfl).str' Tryz.underlying9
   obtain ⟨v,rfl,hv1,hv2⟩:=pz p2 y2 (hh 2 _ p2 y2 rfl rfl rfl)
   obtain ⟨l,rfl,hl⟩:=(ih 3 _ p3 y3 rfl rfl rfl).2 rfl
   refine ⟨.mk o s v l,?_,?_⟩
   ·rw [A8];rfl
   rw [Cs,hl,Bool.and_true]
   show (decide (-9223372036854775808≤v.n)&&decide (v.n≤9223372036854775807))=true
   simp [hv1,hv2]
end Go.Proofs.YtepoiomaocjhfaaGreatDoor
namespace Go.SX.Nb
open Go Go.SX Go.Proofs
variable [ErrAt]
set_option maxRecDepth 4000
/-- The lexer from a place between two words on. -/
def AB8 (f q:Nat) (s:Str):List (Tok×Int):=Fv f (q+gapM s) (s.drop (gapM s))
theorem Vz {f q:Nat} {s:Str} (h:s≠[]):∃(n:Nat),Fv (f+1) q s=(⟨(B6 s).1,(B6 s).2.1,q⟩,(B6 s).2.2.2)::(if (B6 s).2.2.2=0 then AB8 f (q+n) (s.drop n) else [])∧((B6 s).2.2.2=0→(B6 s).2.2.1=(n:Int)∧1≤n∧n≤s.length):=by
 refine ⟨(B6 s).2.2.1.toNat,?_,fun he=>?_⟩
 ·rw [Jg h]
  simp only [beq_iff_eq]
  rfl
 obtain ⟨n,h1,h2,h3⟩:=av (s:=s) (by cases s with|nil=>exact absurd rfl h|cons c r=>simp) he
 rw [h1]
 exact ⟨rfl,by simpa using h2,by simpa using h3⟩
/-! ### Gaps -/
/-! ### Words -/
theorem q8 {s:Str} (h:(Ee s).2.1=0):s.length≤4000∧(∀it∈B3 s,it.2=0)∧Ee s=((B3 s).map (·.1)++[⟨0,[],s.length⟩],0,0):=by
 unfold Ee at h ⊢
 split at h
 ·exact absurd h (show ¬(3:Int)=0 by decide)
 rename_i hl
 rw [if_neg hl]
 cases hf:(B3 s).find? (fun it=>it.2 != 0) with
 | some it =>
  rw [hf] at h
  have:=List.find?_some hf
  simp at this
  exact absurd h this
 | none =>
  rw [List.find?_eq_none] at hf
  refine ⟨by omega,fun it hit=>by simpa using hf it hit,rfl⟩
def W0 (c:UInt8):Str:=if c=39 then [39,39] else [c]
def Kh (t:Str):Str:=t.flatMap W0
theorem W3:∀t:Str,(Kh t).length≤2*t.length
 | []=>Nat.le_refl _
 | c::r=>by
  have:=W3 r
  unfold Kh at this ⊢
  rw [List.flatMap_cons,List.length_append,List.length_cons]
  have h:(W0 c).length≤2:=by unfold W0;split<;>simp
  omega
theorem Mu (c:UInt8) (r:Str):Kh (c::r)=W0 c++Kh r:=by unfold Kh;rw [List.flatMap_cons]
theorem az:∀s:Str,(Lib.index s [39] = -1∧Kh s=s)∨∃i:Nat,Lib.index s [39]=(i:Int)∧i<s.length∧Kh s=s.take i++[39,39]++Kh (s.drop (i+1))
 | []=>.inl ⟨rfl,rfl⟩
 | b::l=>by
  by_cases hb:b=39
  ·subst hb
   refine .inr ⟨0,by simp [Lib.index,List.isPrefixOf],by simp,?_⟩
   rw [Mu]
   simp [W0]
  have hp:([39]:Str).isPrefixOf (b::l)=false:=by
   simp [List.isPrefixOf,Ne.symm hb]
  have hd:Kh (b::l)=b::Kh l:=by
   rw [Mu,W0,if_neg hb]
   rfl
  rcases az l with ⟨h1,h2⟩|⟨i,h1,h2,h3⟩
  ·refine .inl ⟨?_,by rw [hd,h2]⟩
   rw [Lib.index,hp,h1];rfl
  refine .inr ⟨i+1,?_,by simp;omega,?_⟩
  ·rw [Lib.index,hp,h1,if_neg (by simp),if_neg (by simp)]
   rfl
  rw [hd,h3]
  simp
theorem Lw:∀(n:Nat) (s:Str),s.length≤n→Lib.replaceK [39] [39,39] (Lib.count s [39]) s=Kh s
 | n,s,hn=>by
  rcases az s with ⟨h1,h2⟩|⟨i,h1,h2,h3⟩
  ·rw [Lib.count_miss h1,h2];rfl
  cases n with
  | zero=>omega
  | succ n =>
   rw [Lib.count_hit (by decide) h1,Nat.add_comm,Lib.replaceK_hit _ _ _ _ i h1]
   have e:i+([39]:Str).length=i+1:=rfl
   rw [e,Lw n (s.drop (i+1)) (by rw [List.length_drop];omega),h3]
theorem Nn (s:Str):Lib.replaceAll s [39] [39,39]=Kh s:=by
 unfold Lib.replaceAll Lib.replace
 rw [if_neg (by decide)]
 have e:Lib.replaceNum s [39] (-1)=Lib.count s [39]:=by unfold Lib.replaceNum;rw [if_pos (.inl (by decide))]
 rw [e]
 exact Lw _ s (Nat.le_refl _)
def b6 (t:Tok):Str:=if t.kind=4 then [39]++Kh t.text++[39] else t.text
theorem Yx {q:Str} (h0:q.headD 0=39) (h1:1≤q.length) (h:(F9 q).2=0):[39]++Kh (F9 q).1.s++[39]=q:=by
 cases q with
 | nil=>simp at h1
 | cons c r =>
  have hc:c=39:=h0
  subst hc
  unfold F9 at h ⊢
  have n1:((39::r:Str)==[110,117,108,108])=false:=by rw [beq_eq_false_iff_ne];intro e;injection e with e;exact absurd e (by decide)
  have n2:((39::r:Str)==[116,114,117,101])=false:=by rw [beq_eq_false_iff_ne];intro e;injection e with e;exact absurd e (by decide)
  have n3:((39::r:Str)==[102,97,108,115,101])=false:=by rw [beq_eq_false_iff_ne];intro e;injection e with e;exact absurd e (by decide)
  rw [n1,n2,n3] at h ⊢
  simp only [Bool.false_eq_true,if_false,Bool.or_self] at h ⊢
  by_cases hq:Rm (39::r)=true
  ·rw [if_pos hq] at h ⊢
   unfold Vj at h ⊢
   split at h
   ·exact absurd h (show ¬(7:Int)=0 by decide)
   rename_i hp
   rw [if_neg hp]
   have hp':E8 (P7 (39::r))=39::r:=by simpa using hp
   have hk:(P7 (39::r)).kind=2:=rfl
   show [39]++Kh (P7 (39::r)).s++[39]=39::r
   generalize P7 (39::r)=v at hp' hk
   have hne:E8 v≠[]:=by rw [hp'];simp
   rw [←hp']
   unfold E8 at hne ⊢
   split at hne
   ·exact absurd rfl hne
   rename_i hpl
   rw [if_neg hpl,hk,if_neg (by decide),if_pos (by decide),Nn]
  rw [if_neg hq] at h
  have hd:H1 (39::r)=true:=by
   unfold H1
   have e:Na (39::r)=39::r:=by
    rcases Nc (39::r) with ⟨_,h4⟩|⟨r',h3,_⟩
    ·exact h4
    injection h3 with h3;exact absurd h3 (by decide)
   rw [e]
   have:(Lib.trimS (39::r) digs==[])=false:=by
    rw [beq_eq_false_iff_ne]
    intro e
    rw [Rh] at e
    exact absurd (e 39 (by simp)) (by decide)
   rw [this]
   simp
  have hn:Cx (39::r)=(0,6):=by unfold Cx;rw [if_pos hd]
  rw [hn] at h
  simp at h
theorem R7 (s:Str) (m:Nat):s.take (s.take m).length=s.take m:=by
 rw [List.length_take]
 rcases Nat.le_total m s.length with h|h
 ·rw [Nat.min_eq_left h]
 rw [Nat.min_eq_right h,List.take_of_length_le (Nat.le_refl _),List.take_of_length_le h]
theorem Jl (s of:Str):s.take (C6 s of).length=C6 s of:=by
 unfold C6
 exact R7 s _
/-- What a word's print spells is what was read. -/
theorem Yy {s:Str} {n p:Nat} (h0:1≤s.length) (he:(B6 s).2.2.2=0) (hn:(B6 s).2.2.1=(n:Int)):b6 ⟨(B6 s).1,(B6 s).2.1,p⟩=s.take n:=by
 cases s with
 | nil=>simp at h0
 | cons c r =>
  unfold B6 at he hn ⊢
  by_cases c1:decide (0<Lr ((c::r).take 1) letters)=true
  ·rw [if_pos c1] at he hn
   simp only [if_pos c1]
   unfold Ky at he hn ⊢
   by_cases r1:Ed (C6 (c::r) tails)=true
   ·rw [if_pos r1] at hn
    simp only [if_pos r1]
    have hn':(((C6 (c::r) tails).length:Nat):Int)=n:=hn
    have e:n=(C6 (c::r) tails).length:=by omega
    rw [e,Jl]
    rfl
   rw [if_neg r1] at he hn
   simp only [if_neg r1]
   by_cases r2:(!Bg (C6 (c::r) tails))=true
   ·rw [if_pos r2] at he;exact absurd he (show ¬(3:Int)=0 by decide)
   rw [if_neg r2] at hn
   simp only [if_neg r2]
   have hn':(((C6 (c::r) tails).length:Nat):Int)=n:=hn
   have e:n=(C6 (c::r) tails).length:=by omega
   rw [e,Jl]
   rfl
  rw [if_neg c1] at he hn
  simp only [if_neg c1]
  by_cases c2:decide (0<Lr ((c::r).take 1) digs)=true
  ·rw [if_pos c2] at he hn
   simp only [if_pos c2]
   have hn':(((C6 (c::r) digs).length:Nat):Int)=n:=hn
   have e:n=(C6 (c::r) digs).length:=by omega
   rw [e,Jl]
   rfl
  rw [if_neg c2] at he hn
  simp only [if_neg c2]
  by_cases c3:(((((c::r)).getD 0 0).toNat:Int)==39)=true
  ·rw [if_pos c3] at he hn
   simp only [if_pos c3]
   have hc:c=39:=by
    have c3':((c.toNat:Int)==39)=true:=c3
    exact UInt8.toNat_inj.1 (by have:(39:UInt8).toNat=39:=rfl;simp at c3';omega)
   unfold Hm at he hn ⊢
   cases hq:Bs ((c::r).drop 1) with
   | none=>rw [hq] at he;exact absurd he (show ¬(7:Int)=0 by decide)
   | some m =>
    rw [hq] at he hn
    simp only at he hn ⊢
    split at he
    ·exact absurd he (show ¬(3:Int)=0 by decide)
    rename_i hr
    rw [if_neg hr] at hn
    simp only [if_neg hr]
    have hm':(((m+1:Nat)):Int)=n:=hn
    have hm:n=m+1:=by omega
    subst hm
    have hr':(F9 ((c::r).take (m+1))).2=0:=by simpa using hr
    have:=Yx (q:=(c::r).take (m+1)) (by rw [hc];rfl) (by simp) hr'
    unfold b6
    rw [if_pos rfl]
    exact this
  rw [if_neg c3] at he hn
  simp only [if_neg c3]
  unfold Pb at he hn ⊢
  split at hn
  ·rename_i h2
   simp only [if_pos h2]
   have hn':(2:Int)=n:=hn
   have:n=2:=by omega
   subst this
   rfl
  rename_i h2
  rw [if_neg h2] at he
  simp only [if_neg h2]
  split at hn
  ·rename_i h3
   simp only [if_pos h3]
   have hn':(1:Int)=n:=hn
   have:n=1:=by omega
   subst this
   rfl
  rename_i h3
  rw [if_neg h3] at he
  exact absurd he (show ¬(7:Int)=0 by decide)
/-! What is printed of columns, word by word. -/
structure ColOk (x:Col):Prop where
 name:Bg x.name=true
 lo:1≤x.kind
 hi:x.kind≤3
def ktT (t:Tok):Int×Str:=(t.kind,t.text)
def No (s:Str):Int:=if Ax 1==s then 1 else if Ax 2==s then 2 else if Ax 3==s then 3 else 0
structure KindUpto (s:Str) (x:Nat):Prop where
 le:x≤3
 a:1≤x→(Ax 1==s)=false
 b:2≤x→(Ax 2==s)=false
 c:3≤x→(Ax 3==s)=false
theorem q9 {s:Str} {x:Nat} (h:KindUpto s x) (hx:x<3) (e:(Ax ((x:Int)+1)==s)=true):No s=(x:Int)+1:=by
 have h3:x=0∨x=1∨x=2:=by omega
 unfold No
 rcases h3 with rfl|rfl|rfl
 ·have e:(Ax 1==s)=true:=e
  rw [if_pos e];rfl
 ·have e:(Ax 2==s)=true:=e
  rw [if_neg (by rw [h.a (by omega)];simp),if_pos e];rfl
 have e:(Ax 3==s)=true:=e
 rw [if_neg (by rw [h.a (by omega)];simp),if_neg (by rw [h.b (by omega)];simp),if_pos e];rfl
theorem qb {s:Str} {x:Nat} (h:KindUpto s x) (hx:x<3) (e:(Ax ((x:Int)+1)==s)=false):KindUpto s (x+1):=by
 have h3:x=0∨x=1∨x=2:=by omega
 rcases h3 with rfl|rfl|rfl
 ·exact ⟨by omega,fun _=>e,fun h=>by omega,fun h=>by omega⟩
 ·exact ⟨by omega,fun _=>h.a (by omega),fun _=>e,fun h=>by omega⟩
 exact ⟨by omega,fun _=>h.a (by omega),fun _=>h.b (by omega),fun _=>e⟩
theorem qc {s:Str} {x:Nat} (h:KindUpto s x) (hx:3≤x):No s=0:=by
 unfold No
 rw [if_neg (by rw [h.a (by omega)];simp),if_neg (by rw [h.b (by omega)];simp),if_neg (by rw [h.c (by omega)];simp)]
theorem AB9 (s:Str) (Hp:List AObj):AFun Tryz.prog 198 [A6 s] Hp (A2 (No s)):=by
 refine ACall.body [.tmp 2] [0] Tryz.func198 Tryz.ntmps198 (fun d=>?_)
 refine Z40 ?_;refine Tk ?_
 refine AW.loopC (α:=Nat) (fun x=>⟨13,A3 0 (A6 s) (A3 3 (A2 ((x:Nat)+1)) (fun _=>.any)),Hp,[],[],none⟩) (fun x=>KindUpto s x) (fun x=>3-x) (0) ⟨by omega,fun h=>by omega,fun h=>by omega,fun h=>by omega⟩ (StLe.refl _) rfl (fun x hx=>?_)
 refine Z8 ?_;refine R.fin [0,3,5] ?_
 refine W.cond (fun ht5=>?_) (fun ht5=>?_)
 ·have hx3:x<3:=by simp at ht5;omega
  refine Z43 ?_;refine Z2 ?_;refine R.call Tryz.call70 (c70 _ _) ?_;refine Z0 ?_;refine R.fin [0,3,11] ?_
  refine W.cond (fun ht11=>?_) (fun ht11=>?_)
  ·refine Y1 ?_;refine Z34 ?_;exact K.fin (V.one V.tmp) ⟨by rw [q9 hx hx3 (by simpa using ht11)],rfl⟩
  refine Xu ?_;exact K.lpN (x+1) (qb hx hx3 (by simpa using ht11)) (by omega) (StCut.of_eq (by simp))
 have hx3:3≤x:=by simp at ht5;omega
 refine Vb ?_;exact K.fin (V.one V.tmp) ⟨by rw [qc hx hx3],rfl⟩

theorem b7:∀t:Str,t.length≤(Kh t).length
 | []=>Nat.le_refl _
 | c::r=>by
  have:=b7 r
  rw [Mu,List.length_append,List.length_cons]
  have h:1≤(W0 c).length:=by unfold W0;split<;>simp
  omega
theorem qd (t:Tok):t.text.length≤(b6 t).length:=by
 unfold b6
 split
 ·have:=b7 t.text
  simp only [List.length_append,List.length_cons,List.length_nil]
  omega
 exact Nat.le_refl _
/-- Words with an end. -/
structure TokEnd (l:List Tok):Prop where
 split:∃L z,l=L++[z]∧z.kind=0∧∀t∈L,t.kind≠0
 texts:∀t∈l,t.text.length≤1048576
theorem TokEnd.pos {l:List Tok} (h:TokEnd l):1≤l.length:=by
 obtain ⟨L,z,rfl,_,_⟩:=h.split
 simp
theorem TokEnd.text {l:List Tok} (h:TokEnd l) (i:Nat):(A7 l i).text.length≤1048576:=by
 unfold A7
 rcases Nat.lt_or_ge i l.length with hi|hi
 ·rw [List.getD_eq_getElem?_getD,List.getElem?_eq_getElem hi]
  exact h.texts _ (List.getElem_mem hi)
 rw [List.getD_eq_getElem?_getD,List.getElem?_eq_none hi]
 exact Nat.zero_le _
theorem qe (s:Str) (he:(B6 s).2.2.2=0):(B6 s).1≠0:=by
 revert he
 unfold B6 Ky Tw Hm Pb
 repeat' split
 all_goals simp
theorem W4:∀(f q:Nat) (s:Str),(∀it∈Fv f q s,it.2=0)→∀it∈Fv f q s,it.1.kind≠0∧it.1.text.length≤s.length
 | 0,_,_,_,it,hm=>by cases hm
 | f+1,q,s,h,it,hm=>by
  by_cases hs:s=[]
  ·subst hs;cases hm
  obtain ⟨n,h1,h2⟩:=Vz (f:=f) (q:=q) hs
  rw [h1] at hm h
  have h0:(B6 s).2.2.2=0:=h (⟨(B6 s).1,(B6 s).2.1,q⟩,(B6 s).2.2.2) (List.mem_cons_self ..)
  obtain ⟨hn,hn1,hn2⟩:=h2 h0
  rw [if_pos h0] at hm h
  rcases List.mem_cons.1 hm with rfl|hm
  ·refine ⟨qe s h0,?_⟩
   have hs1:1≤s.length:=by cases s with|nil=>exact absurd rfl hs|cons c r=>simp
   have:=Yy (p:=q) hs1 h0 hn
   have h3:=qd ⟨(B6 s).1,(B6 s).2.1,q⟩
   rw [this] at h3
   simp only [List.length_take] at h3
   show (B6 s).2.1.length≤s.length
   omega
  have:=W4 f _ _ (fun it hit=>h it (List.mem_cons_of_mem _ hit)) it hm
  simp only [List.length_drop] at this
  exact ⟨this.1,by omega⟩
theorem qf {s:Str} (h:(Ee s).2.1=0):TokEnd (Ee s).1:=by
 by_cases h4:4000<s.length
 ·unfold Ee at h
  rw [if_pos h4] at h
  exact js
 have e:Ee s=((B3 s).map (·.1)++[⟨0,[],s.length⟩],0,0)∧∀it∈B3 s,it.2=0:=by
  unfold Ee at h ⊢
  rw [if_neg h4] at h ⊢
  cases hf:(B3 s).find? (fun it=>it.2 != 0) with
  | none =>
   rw [List.find?_eq_none] at hf
   exact ⟨rfl,fun it hit=>by simpa using hf it hit⟩
  | some it =>
   rw [hf] at h
   have:=List.find?_some hf
   simp only [bne_iff_ne] at this
   exact absurd h this
 obtain ⟨e,hz⟩:=e
 have hnz:=W4 _ _ _ hz
 rw [e]
 refine ⟨⟨_,_,rfl,rfl,fun t ht=>?_⟩,fun t ht=>?_⟩
 ·obtain ⟨it,hit,rfl⟩:=List.mem_map.1 ht
  exact (hnz it hit).1
 rcases List.mem_append.1 ht with ht|ht
 ·obtain ⟨it,hit,rfl⟩:=List.mem_map.1 ht
  have:=(hnz it hit).2
  simp only [List.length_drop] at this
  omega
 have e:t=⟨0,[],s.length⟩:=by simpa using ht
 subst e
 exact Nat.zero_le _
/-! What is printed of a schema is read. -/
/-- What goes together: names of their own. -/
theorem l9 {c:List Col} (h:Dz c=true):(∀y∈c,ColOk y)∧(c.map (·.name)).Nodup:=by
 rw [colsM_true] at h
 have hat:∀(j:Nat) (y:Col),c[j]? = some y→H4 y.name=true∧1≤y.kind∧y.kind≤3∧Aj y.name c=(j:Int):=by
  intro j y hj
  have:=h j y hj
  unfold Lq at this
  simp only [Bool.not_eq_true',Bool.or_eq_false_iff,Bool.not_eq_false',decide_eq_false_iff_not,bne_eq_false_iff_eq] at this
  obtain ⟨⟨⟨h1,h2⟩,h3⟩,h4⟩:=this
  exact ⟨h1,by omega,by omega,h4⟩
 refine ⟨fun y hy=>?_,?_⟩
 ·obtain ⟨j,hj⟩:=List.getElem?_of_mem hy
  obtain ⟨h1,h2,h3,_⟩:=hat j y hj
  exact ⟨by rw [D4];exact h1,h2,h3⟩
 show List.Pairwise _ _
 rw [List.pairwise_iff_getElem]
 intro i j hi hj hij e
 simp only [List.length_map] at hi hj
 simp only [List.getElem_map] at e
 have e1:=(hat i c[i] (List.getElem?_eq_getElem hi)).2.2.2
 have e2:=(hat j c[j] (List.getElem?_eq_getElem hj)).2.2.2
 rw [e] at e1
 omega
theorem Jm {c:List Col} (h:Pk c=true):c.length≤12∧(∀y∈c,ColOk y)∧(c.map (·.name)).Nodup:=by
 rw [Fa] at h
 unfold Az at h
 rw [Bool.and_eq_true] at h
 obtain ⟨h1,h2⟩:=h
 have:=of_decide_eq_true h1
 exact ⟨by omega,l9 h2⟩
theorem ABa (c:List Col) (Hp:List AObj):AFun Tryz.prog 9 [A9 c] Hp (Al (Ez c)):=by
 refine ACall.body [.tmp 2] [0] Tryz.func9 Tryz.ntmps9 (fun d=>?_)
 refine Vc ?_;refine R.fin [0,6] ?_
 refine W.cond (fun ht6=>?_) (fun ht6=>?_)
 ·refine Z21 ?_;refine K.thR ?_;exact K.fin (V.one V.tmp) ⟨by simp [Ez] at ht6 ⊢;omega,rfl⟩
 refine Z5 ?_;refine Tk ?_
 refine AW.loopC (α:=Nat) (fun x=>⟨20,A3 0 (A9 c) (A3 3 (A2 (x:Nat)) (fun _=>.any)),Hp,[],[],none⟩) (fun x=>x≤c.length∧∀(j:Nat) (y:Col),j<x→c[j]? = some y→decide ((100:Int)<y.name.length)=false) (fun x=>c.length-x) (0) (by simp) (StLe.refl _) rfl (fun x hx=>?_)
 refine Z57 ?_;refine R.fin [0,3,10] ?_
 refine W.cond (fun ht10=>?_) (fun ht10=>?_)
 ·have hlt:x<c.length:=by simpa using ht10
  have hcl:c.length≤50:=by simp at ht6;omega
  refine Me ?_
  refine R.go (h:=Q.indexAddr (x) (Ak c[x]) (fun _=>Ae hlt)) (hr:=?_)
  refine Z76 ?_;refine R.fin [0,3,19] ?_
  refine W.cond (fun ht19=>?_) (fun ht19=>?_)
  ·refine R0 ?_;exact K.fin (V.one V.tmp) ⟨by rw [show Ez c=true from by unfold Ez;rw [kc (p:=fun y:Col=>decide ((100:Int)<y.name.length)) hlt ht19,Bool.or_true]],rfl⟩
  refine Xu ?_;exact K.lpN (x+1) ⟨hlt,Av hlt hx.2 ht19⟩ (by omega) (StCut.of_eq rfl)
 refine Vb ?_;exact K.fin (V.one V.tmp) ⟨by rw [show Ez c=false from by unfold Ez;rw [Vf (H3 (by simp at ht10;omega) hx.2)];simpa using ht6],rfl⟩
theorem b8 {c:List Col} (h:Ez c=false):OkCols c:=by
 unfold Ez at h
 simp only [Bool.or_eq_false_iff,decide_eq_false_iff_not,List.any_eq_false,decide_eq_true_eq] at h
 refine ⟨by omega,fun y hy=>?_⟩
 have:=h.2 y hy
 omega
def Ig {α:Type} [BEq α] (v:α) (l:List α):Int:=match l.findIdx? (·==v) with|some i=>i|none => -1
theorem la {α:Type} [BEq α] [LawfulBEq α] {v:α} {l:List α} {x:Nat} (h:x<l.length) (h1:l[x]=v) (h2:∀(j:Nat) (y:α),j<x→l[j]? = some y→¬(y=v)):Ig v l=x:=by
 have:l.findIdx? (·==v)=some x:=by
  rw [List.findIdx?_eq_some_iff_getElem]
  exact ⟨h,by simpa using h1,fun j hj=>by simpa using h2 j l[j] hj (List.getElem?_eq_getElem _)⟩
 simp [Ig,this]
theorem lb {α:Type} [BEq α] [LawfulBEq α] {v:α} {l:List α} (h:∀(j:Nat) (y:α),l[j]? = some y→¬(y=v)):Ig v l = -1:=by
 have:l.findIdx? (·==v)=none:=by
  rw [List.findIdx?_eq_none_iff]
  intro y hy
  obtain ⟨j,hj⟩:=List.getElem?_of_mem hy
  simpa using h j y hj
 simp [Ig,this]
theorem U5 {α:Type} [BEq α] [LawfulBEq α] (v:α) (l:List α):decide (0≤Ig v l)=l.contains v:=by
 unfold Ig
 cases h:l.findIdx? (·==v) with
 | none =>
  rw [List.findIdx?_eq_none_iff] at h
  have:l.contains v=false:=by
   rw [Bool.eq_false_iff]
   intro hc
   have:=h v (by simpa using hc)
   simp at this
  rw [this];rfl
 | some i =>
  rw [List.findIdx?_eq_some_iff_getElem] at h
  obtain ⟨hi,e,_⟩:=h
  have:l.contains v=true:=by
   have:l[i]=v:=by simpa using e
   rw [←this]
   simp
  rw [this]
  simp only [decide_eq_true_eq]
  omega
theorem c58 (l:List Str) (v:Str) (hl:l.length≤1048576) (Hp:List AObj):AFun Tryz.prog 58 [D6 l,A6 v] Hp (A2 (Ig v l)):=by
 refine ACall.body [.tmp 4] [0,1] Tryz.func58 Tryz.ntmps58 (fun d=>?_)
 refine dy ?_
 refine AW.loopC (α:=Nat) (fun x=>⟨19,A3 0 (D6 l) (A3 1 (A6 v) (A3 7 (A2 l.length) (A3 8 (A2 (x:Nat)) (fun _=>.any)))),Hp,[],[],none⟩) (fun x=>x≤l.length∧∀(j:Nat) (y:Str),j<x→l[j]? = some y→¬(y=v)) (fun x=>l.length-x) (0) (by simp) (StLe.of_eq (by simp)) rfl (fun x hx=>?_)
 refine dm ?_
 refine W.condX (fun ht9=>?_) (fun ht9=>?_)
 ·have hlt:x<l.length:=by simpa using ht9
  refine dx ?_
  refine R.go (h:=Q.indexAddr (x) (A6 l[x]) (fun _=>Ae hlt)) (hr:=?_)
  refine Z0 ?_;refine eb ?_
  refine W.cond (fun ht16=>?_) (fun ht16=>?_)
  ·refine je ?_;refine Z34 ?_;exact K.fin (V.one V.tmp) ⟨by rw [la hlt (by simpa using (Eq.symm (by simpa using ht16):l[x]=v)) hx.2],rfl⟩
  refine Mc ?_;refine R.fin [0,1,7,8] ?_;exact K.lpN (x+1) ⟨hlt,Av hlt hx.2 (fun e=>by rw [e] at ht16;simp at ht16)⟩ (by omega) (StCut.of_eq rfl)
 refine Z26 ?_;refine V6 ?_;exact K.fin (V.one V.tmp) ⟨by rw [lb (H3 (by simp at ht9;omega) hx.2)],rfl⟩

theorem c40 (l:List Str) (v:Str) (hl:l.length≤1048576) (Hp:List AObj):AFun Tryz.prog 40 [D6 l,A6 v] Hp (Al (l.contains v)):=by
 refine ACall.body [.tmp 4] [0,1] Tryz.func40 Tryz.ntmps40 (fun d=>?_)
 refine Z62 ?_;refine Z1 ?_;refine R.call Tryz.call58 (c58 l v hl _) ?_;refine Z0 ?_;refine Z22 ?_;exact K.fin (V.one V.tmp) ⟨by rw [U5],rfl⟩

theorem fe {n k:Nat} {o:Bool} {l:List Col} {z:Col}:Low n (.slice o k (l.map Ak++[Ak z])):=by
 refine .slice _ _ _ (fun y hy=>?_)
 have key:∀c:Col,∀w∈(Ak c).cells,Low n w:=by
  intro c w hw
  have hw':w∈[AV.v (sv c.name),AV.v (.int .i64 c.kind)]:=hw
  simp only [List.mem_cons,List.not_mem_nil,or_false] at hw'
  rcases hw' with rfl|rfl
  ·exact .v _
  exact .v _
 rcases List.mem_append.1 hy with hy|hy
 ·obtain ⟨a,_,rfl⟩:=List.mem_map.1 hy
  exact key a
 rw [List.mem_singleton.1 hy]
 exact key z
def Er (c:List Col) (take:List Str) (j:Nat) (nm:Str):Bool := !(decide (Aj nm c<0) || (Ig nm take != (j:Int)))
def Dy (c:List Col) (take:List Str):Bool:=take.zipIdx.all fun x=>Er c take x.2 x.1
theorem takenM_true {c:List Col} {take:List Str}:Dy c take=true↔∀(j:Nat) (y:Str),take[j]? = some y→Er c take j y=true:=Kw
def Fb (c:List Col) (x:Nat) (y:Col):Bool := !((!H4 y.name) || (Aj y.name c != (x:Int)))
def Eu (c:List Col):Bool:=c.zipIdx.all fun x=>Fb c x.2 x.1
theorem namedC_true {c:List Col}:Eu c=true↔∀(j:Nat) (y:Col),c[j]? = some y→Fb c j y=true:=Kw
def Bi (c:List Col) (take:List Str):List Col:=c.filter fun y => !take.contains y.name
theorem b9 {c:List Col} {take:List Str} {k:Nat} {y:Col} (h:c[k]? = some y) (hn:take.contains y.name=false):Bi (c.take (k+1)) take=Bi (c.take k) take++[y]:=by
 unfold Bi
 have e:c.take (k+1)=c.take k++[y]:=by rw [List.take_succ,h];rfl
 have hm:¬y.name∈take:=by simpa using hn
 rw [e,List.filter_append]
 simp [List.filter_cons,hm]
theorem S1 {c:List Col} {take:List Str} {k:Nat} {y:Col} (h:c[k]? = some y) (hn:take.contains y.name=true):Bi (c.take (k+1)) take=Bi (c.take k) take:=by
 unfold Bi
 have e:c.take (k+1)=c.take k++[y]:=by rw [List.take_succ,h];rfl
 have hm:y.name∈take:=by simpa using hn
 rw [e,List.filter_append]
 simp [List.filter_cons,hm]
theorem Dq (c:List Col) (take:List Str):(Bi c take).length≤c.length:=List.length_filter_le _ _
def Bn (c:List Col) (take:List Str) (give:List Col):List Col×Int:=
 if Az c=false then ([],1) else if Dy c take=false then ([],9) else if Eu (Bi c take++give)=false then ([],9)
 else if Dz (Bi c take++give)=false then ([],10) else if 12<(Bi c take++give).length then ([],3) else (Bi c take++give,0)
theorem lc {c:List Col} {take:List Str} {give:List Col} (h:Az c=false):Bn c take give=([],1):=by unfold Bn;rw [if_pos h]
theorem Yz {c:List Col} {take:List Str} {give:List Col} (h:Az c=true) (h2:Dy c take=false):Bn c take give=([],9):=by unfold Bn;rw [if_neg (by rw [h];simp),if_pos h2]
theorem Z4 {c:List Col} {take:List Str} {give out:List Col} (h:Az c=true) (h2:Dy c take=true) (ho:Bi c take++give=out) (h3:Eu out=false):Bn c take give=([],9):=by
 unfold Bn;rw [ho,if_neg (by rw [h];simp),if_neg (by rw [h2];simp),if_pos h3]
theorem Za {c:List Col} {take:List Str} {give out:List Col} (h:Az c=true) (h2:Dy c take=true) (ho:Bi c take++give=out) (h3:Eu out=true) (h4:Dz out=false):Bn c take give=([],10):=by
 unfold Bn;rw [ho,if_neg (by rw [h];simp),if_neg (by rw [h2];simp),if_neg (by rw [h3];simp),if_pos h4]
theorem Zb {c:List Col} {take:List Str} {give out:List Col} (h:Az c=true) (h2:Dy c take=true) (ho:Bi c take++give=out) (h3:Eu out=true) (h4:Dz out=true) (h5:12<out.length):Bn c take give=([],3):=by
 unfold Bn;rw [ho,if_neg (by rw [h];simp),if_neg (by rw [h2];simp),if_neg (by rw [h3];simp),if_neg (by rw [h4];simp),if_pos h5]
theorem Zc {c:List Col} {take:List Str} {give out:List Col} (h:Az c=true) (h2:Dy c take=true) (ho:Bi c take++give=out) (h3:Eu out=true) (h4:Dz out=true) (h5:¬12<out.length):Bn c take give=(out,0):=by
 unfold Bn;rw [ho,if_neg (by rw [h];simp),if_neg (by rw [h2];simp),if_neg (by rw [h3];simp),if_neg (by rw [h4];simp),if_neg h5]
theorem I3 {c:List Col} (h:Az c=true):c.length≤12:=by
 unfold Az at h
 simp at h
 omega
theorem Zd {c give:List Col} {take:List Str} {out:List Col} (hc:OkCols c) (h:Az c=true) (hg:OkCols give) (hg2:give.length≤1000000) (ho:Bi c take++give=out):OkCols out:=by
 subst ho
 have h1:=Dq c take
 have h2:=I3 h
 refine ⟨by simp only [List.length_append];omega,fun y hy=>?_⟩
 rcases List.mem_append.1 hy with hy|hy
 ·exact hc.2 y ((List.mem_filter.1 hy).1)
 exact hg.2 y hy
theorem ABb (c:List Col) (hc:OkCols c) (take:List Str) (ht:take.length≤1048576) (Hp:List AObj):AFun Tryz.prog 131 [A9 c,D6 take] Hp (Al (Dy c take)):=by
 refine ACall.body [.tmp 4] [0,1] Tryz.func131 Tryz.ntmps131 (fun d=>?_)
 refine Z62 ?_;refine Z35 ?_;refine R.fin [0,1,7,8,9] ?_
 refine AW.loopC (α:=Nat) (fun x=>⟨26,A3 0 (A9 c) (A3 1 (D6 take) (A3 7 (D6 take) (A3 8 (A2 take.length) (A3 9 (A2 (x:Nat)) (fun _=>.any))))),Hp,[],[],none⟩) (fun x=>x≤take.length∧∀(j:Nat) (y:Str),j<x→take[j]? = some y→Er c take j y=true) (fun x=>take.length-x) (0) (by simp) (StLe.of_eq (by simp)) rfl (fun x hx=>?_)
 refine Z2 ?_;refine R.fin [0,1,7,8,9,10] ?_
 refine W.condX (fun ht10=>?_) (fun ht10=>?_)
 ·have hlt:x<take.length:=by simpa using ht10
  refine O7 ?_
  refine R.go (h:=Q.indexAddr (x) (A6 take[x]) (fun _=>Ae hlt)) (hr:=?_)
  refine Z23 ?_;refine R.fin [0,1,5,6,7,8,9] ?_;refine Z1 ?_;refine R.call Tryz.call59 (c59 c hc _ _) ?_;refine Z27 ?_;refine G.call Tryz.call58 (fun hB=>c58 take _ ht _) ?_;refine Tm ?_;refine R.fin [0,1,7,8,9,24] ?_
  refine W.cond (fun ht24=>?_) (fun ht24=>?_)
  ·refine V6 ?_;refine Z34 ?_
   exact K.fin (V.one V.tmp) ⟨by rw [show Dy c take=false from Bool.eq_false_iff.2 fun h=>by have:=takenM_true.1 h x take[x] (List.getElem?_eq_getElem hlt);unfold Er at this;rw [ht24] at this;cases this],rfl⟩
  refine Mc ?_;refine R.fin [0,1,7,8,9] ?_;exact K.lpN (x+1) ⟨hlt,Ft hlt hx.2 (by unfold Er;rw [ht24];rfl)⟩ (by omega) (StCut.of_eq rfl)
 refine Z26 ?_;refine V6 ?_;exact K.fin (V.one V.tmp) ⟨by rw [takenM_true.2 (Gt (by simp at ht10;omega) hx.2)],rfl⟩

theorem ABc (c:List Col) (hc:OkCols c) (Hp:List AObj):AFun Tryz.prog 133 [A9 c] Hp (Al (Eu c)):=by
 refine ACall.body [.tmp 2] [0] Tryz.func133 Tryz.ntmps133 (fun d=>?_)
 refine Vc ?_;refine R.fin [0,5,6,7] ?_
 refine AW.loopC (α:=Nat) (fun x=>⟨25,A3 0 (A9 c) (A3 5 (A9 c) (A3 6 (A2 c.length) (A3 7 (A2 (x:Nat)) (fun _=>.any)))),Hp,[],[],none⟩) (fun x=>x≤c.length∧∀(j:Nat) (y:Col),j<x→c[j]? = some y→Fb c j y=true) (fun x=>c.length-x) (0) (by simp) (StLe.of_eq (by simp)) rfl (fun x hx=>?_)
 refine Z2 ?_;refine R.fin [0,5,6,7,8] ?_
 refine W.condX (fun ht8=>?_) (fun ht8=>?_)
 ·have hlt:x<c.length:=by simpa using ht8
  have hcl:=hc.len
  refine O7 ?_
  refine R.go (h:=Q.indexAddr (x) (Ak c[x]) (fun _=>Ae hlt)) (hr:=?_)
  refine dt ?_;refine R.fin [0,3,4,5,6,7] ?_;refine Z1 ?_;refine R.call Tryz.call108 (kg _ (hc.names _ (List.getElem_mem hlt)) _) ?_;refine Z83 ?_;refine G.call Tryz.call59 (fun hB=>c59 c hc _ _) ?_;refine Tm ?_;refine R.fin [0,5,6,7,23] ?_
  refine W.cond (fun ht23=>?_) (fun ht23=>?_)
  ·rw [D4] at ht23
   refine R0 ?_
   exact K.fin (V.one V.tmp) ⟨by rw [show Eu c=false from Bool.eq_false_iff.2 fun h=>by have:=namedC_true.1 h x c[x] (List.getElem?_eq_getElem hlt);unfold Fb at this;rw [ht23] at this;cases this],rfl⟩
  rw [D4] at ht23
  refine Mc ?_;refine R.fin [0,5,6,7] ?_
  refine K.lpN (x+1) ⟨hlt,Ft hlt hx.2 (by unfold Fb;rw [ht23];rfl)⟩ (by omega) ?_
  exact StCut.take (own:=[]) (fun _=>.refl _) (by repeat (first|exact Ar|refine Aq (by simp [or_imp,forall_and]) ?_)) (by simp) (by simp)
 refine Z26 ?_;refine Z21 ?_;exact K.fin (V.one V.tmp) ⟨by rw [namedC_true.2 (Gt (by simp at ht8;omega) hx.2)],rfl⟩

theorem ABd (c:List Col) (take:List Str) (Hp:List AObj):AFun Tryz.prog 132 [A9 c,D6 take] Hp (.fn (.func 165) [] [.ro [A9 c],.ro [D6 take]]):=by
 refine ACall.body [.tmp 4] [0,1] Tryz.func132 Tryz.ntmps132 (fun d=>?_)
 refine Z17 ?_;refine F8 ?_;refine jh ?_;refine R.go ?_;exact tc

theorem ABe (l:Nat) (c:List Col) (take:List Str) (hc:c.length≤1048576) (ht:take.length≤1048576) (U:Nat→List AObj) (hlen:∀k,(U k).length=(U 0).length) (hll:l<(U 0).length)
  (hlw:∀k,∀x∈U k,ObjLow (U 0).length x) (hn:∀k y,c[k]? = some y→take.contains y.name=true→U (k+1)=U k)
  (hy:∀k y X,c[k]? = some y→take.contains y.name=false→AYield Tryz.prog l [Ak y] (U k++X) (fun b H'=>b=true∧H'=U (k+1)++X)):ACall Tryz.prog 165 [.yield l,.ro [A9 c],.ro [D6 take]] (U 0) (fun _ H'=>H'=U c.length):=by
 refine ACall.body [] [0,1,2] Tryz.func165 Tryz.ntmps165 (fun d=>?_)
 refine Z17 ?_;refine R.fin [0,2,6,7,8] ?_
 refine AW.loopC (α:=Nat) (fun x=>⟨24,A3 0 (.yield l) (A3 2 (.ro [D6 take]) (A3 6 (A9 c) (A3 7 (A2 c.length) (A3 8 (A2 (x:Nat)) (fun _=>.any))))),U x,[],[],none⟩) (fun x=>x≤c.length) (fun x=>c.length-x) (0) (Nat.zero_le _) (StLe.of_eq (by simp)) rfl (fun x hx=>?_)
 refine Z2 ?_;refine R.fin [0,2,6,7,8,9] ?_
 refine W.condX (fun ht9=>?_) (fun ht9=>?_)
 ·have hlt:x<c.length:=by simpa using ht9
  refine O2 ?_
  refine R.go (h:=Q.indexAddr (x) (Ak c[x]) (fun _=>Ae hlt)) (hr:=?_)
  refine O5 ?_;refine R.fin [0,2,5,6,7,8] ?_;refine Z17 ?_;refine R.call Tryz.call40 (c40 take _ ht _) ?_;refine Z27 ?_
  refine G.yield (l:=l) (C:=((!take.contains c[x].name)==true)) (args:=[Ak c[x]]) (fun hC=>hy x c[x] _ (List.getElem?_eq_getElem hlt) (by simpa using hC)) ?_
  intro b V O hV hb hb0
  have hVO:V=U (x+1)∧O=[AObj.cells 58 [A6 c[x].name,A2 c[x].kind]]∧(take.contains c[x].name=false→b=true):=by
   cases hcn:take.contains c[x].name with
   | true =>
    obtain ⟨h1,h2⟩:=hb0 (by rw [hcn];rfl)
    exact ⟨h1.trans (hn x c[x] (List.getElem?_eq_getElem hlt) hcn).symm,h2,fun e=>by cases e⟩
   | false =>
    obtain ⟨h1,h2⟩:=hb (by rw [hcn];rfl)
    have h3:=List.append_inj h2 (by rw [hV,hlen x,hlen (x+1)])
    exact ⟨h3.1,h3.2,fun _=>h1⟩
  obtain ⟨rfl,rfl,hbt⟩:=hVO
  refine ⟨fun _=>by rw [hlen (x+1)];exact hlw (x+1),fun o ho=>(by cases ho),?_⟩
  refine Z66 ?_;refine R.fin [0,2,6,7,8,22] ?_
  refine W.cond (fun ht22=>?_) (fun ht22=>?_)
  ·exfalso
   have hcf:take.contains c[x].name=false:=by simp at ht22 ⊢;exact ht22.1
   rw [hbt hcf] at ht22
   simp at ht22
  refine Mc ?_;refine R.fin [0,2,6,7,8] ?_;refine jv ?_
  exact StCut.take (own:=[]) (fun _=>.refl _) (by repeat (first|exact Ar|refine Aq (by first|(simp [or_imp,forall_and];done)|(have:=hlen (x+1);simp;omega)) ?_)) (by simp) (by simp)
 have hxe:x=c.length:=by simp at ht9;omega
 exact ye

theorem W5 {c:List Col} {take:List Str} {x:Nat} (hlt:x<take.length) (h:Er c take x take[x]=false):Dy c take=false:=
 Bool.eq_false_iff.2 fun h'=>by rw [takenM_true.1 h' x take[x] (List.getElem?_eq_getElem hlt)] at h;cases h
theorem Ze {α:Type} [BEq α] [LawfulBEq α] {v:α} {l:List α} {k x:Nat} (hlk:k<l.length) (hkx:k<x) (h:l[k]=v):(Ig v l != (x:Int))=true:=by
 rw [bne_iff_ne]
 intro e
 unfold Ig at e
 cases hf:l.findIdx? (·==v) with
 | none=>rw [hf] at e;exact absurd (show (-1:Int)=(x:Int) from e) (by omega)
 | some i =>
  rw [hf] at e
  have hix:i=x:=by simp at e;omega
  subst hix
  rw [List.findIdx?_eq_some_iff_getElem] at hf
  obtain ⟨_,_,h3⟩:=hf
  have:=h3 k hkx
  rw [h] at this
  simp at this
theorem lf {α:Type} {p:α→Bool} {l:List α} {x:Nat} (h:x<l.length):(l.take (x+1)).all p=((l.take x).all p&&p l[x]):=by
 have e:l.take (x+1)=l.take x++[l[x]]:=by rw [List.take_succ,List.getElem?_eq_getElem h];rfl
 rw [e,List.all_append]
 simp
theorem ux (l:List Str) (n:Str):(l.all fun t => !(t==n)) = !l.contains n:=by
 induction l with
 | nil=>rfl
 | cons x r ih =>
  rw [List.all_cons,ih,List.contains_cons,Bool.not_or]
  congr 2
  exact Bool.beq_comm ..
def L2 (y:Col):Bool := !(decide (y.kind<1) || decide ((3:Int)<y.kind))
theorem W6 (c:List Col) (j:Nat) (y:Col):Lq c j y=(Fb c j y&&L2 y):=by
 unfold Lq Fb L2
 cases H4 y.name<;>cases decide (y.kind<1)<;>cases decide ((3:Int)<y.kind)<;>cases (Aj y.name c != (j:Int))<;>rfl
theorem Zf {c:List Col} (h:Eu c=true) (hk:∀(j:Nat) (y:Col),c[j]? = some y→L2 y=true):Dz c=true:=
 colsM_true.2 fun j y hj=>by rw [W6,namedC_true.1 h j y hj,hk j y hj];rfl
theorem U6 {c:List Col} {x:Nat} (hlt:x<c.length) (hk:L2 c[x]=false):Dz c=false:=
 Bool.eq_false_iff.2 fun h=>by have:=colsM_true.1 h x c[x] (List.getElem?_eq_getElem hlt);rw [W6,hk,Bool.and_false] at this;cases this
theorem lg {c:List Col} {x:Nat} (hlt:x<c.length) (hk:Fb c x c[x]=false):Eu c=false:=
 Bool.eq_false_iff.2 fun h=>by rw [namedC_true.1 h x c[x] (List.getElem?_eq_getElem hlt)] at hk;cases hk
theorem c68 (c:List Col) (hc:OkCols c) (take:List Str) (ht:take.length≤1048576) (give:List Col) (hg:OkCols give) (hg2:give.length≤1000000) (Hp:List AObj):AFun Tryz.prog 68 [A9 c,D6 take,A9 give] Hp (.tup [A9 (Bn c take give).1,A2 (Bn c take give).2]):=by
 refine ACall.body [.tmp 6,.tmp 7] [0,1,2] Tryz.func68 Tryz.ntmps68 (fun d=>?_)
 refine Z1 ?_;refine Tp ?_;refine Z31 ?_;refine R.call Tryz.call37 (c37 c hc _) ?_;refine R.go ?_;refine R.fin [0,1,2,18] ?_
 refine W.cond (fun ht18=>?_) (fun ht18=>?_)
 ·have hr:Az c=false:=by simpa using ht18
  refine Oy ?_;exact x9
 have hr:Az c=true:=by simpa using ht18
 refine Tn ?_;refine R.fin [0,1,2,8] ?_
 refine AW.loopC (α:=Nat) (fun x=>⟨131,A3 0 (A9 c) (A3 1 (D6 take) (A3 2 (A9 give) (A3 8 (A2 (x:Nat)) (fun _=>.any)))),Hp,[],[],none⟩) (fun x=>x≤take.length∧∀(j:Nat) (y:Str),j<x→take[j]? = some y→Er c take j y=true) (fun x=>take.length-x) (0) (by simp) (StLe.refl _) rfl (fun x hx=>?_)
 refine Z57 ?_;refine R.fin [0,1,2,8,22] ?_
 refine W.cond (fun ht22=>?_) (fun ht22=>?_)
 ·have hlt:x<take.length:=by simpa using ht22
  refine Z43 ?_;refine Z35 ?_
  refine R.go (h:=Q.indexAddr (x) (A6 take[x]) (fun _=>Ae hlt)) (hr:=?_)
  refine R.go ?_;refine R.call Tryz.call50 (c50 c hc _ _) ?_;refine R.go ?_;refine R.fin [0,1,2,8,31] ?_
  refine W.cond (fun ht31=>?_) (fun ht31=>?_)
  ·have hkn:Dy c take=false:=W5 hlt (by unfold Er;rw [ht31];rfl)
   refine Oy ?_;refine Z37 ?_;exact x8
  refine Kf ?_;refine R.fin [0,1,2,8,9] ?_
  refine AW.loopC (α:=Nat) (fun k=>⟨131,A3 0 (A9 c) (A3 1 (D6 take) (A3 2 (A9 give) (A3 8 (A2 (x:Nat)) (A3 9 (A2 (k:Nat)) (fun _=>.any))))),Hp,[],[],none⟩) (fun k=>k≤x∧∀(j:Nat) (y:Str),j<k→take[j]? = some y→¬(y=take[x])) (fun k=>x-k) (0) (by simp) (StLe.refl _) rfl (fun k hk=>?_)
  refine Z35 ?_;refine R.fin [0,1,2,8,9,34] ?_
  refine W.cond (fun ht34=>?_) (fun ht34=>?_)
  ·have hkx:k<x:=by simpa using ht34
   have hlk:k<take.length:=by omega
   refine Z43 ?_;refine W.drawQ [0,0,3,7,0,0,48,112,255] 8 Ad (by kernel_rfl) ?_;refine Z14 ?_
   refine D.go (h:=Q.indexAddr (k) (A6 take[k]) (fun _=>Ae hlk)) (hr:=?_)
   refine Z53 ?_
   refine D.go (h:=Q.indexAddr (x) (A6 take[x]) (fun _=>Ae hlt)) (hr:=?_)
   refine D.go ?_;refine V7 ?_;refine R.fin [0,1,2,8,9,45] ?_
   refine W.cond (fun ht45=>?_) (fun ht45=>?_)
   ·have hkn:Dy c take=false:=W5 hlt (by unfold Er;rw [Ze hlk hkx (by simpa using ht45)];simp)
    refine Oy ?_;refine Z72 ?_;refine K.lpR ?_;exact x8
   refine Z64 ?_;refine R.fin [0,1,2,8,9] ?_;exact K.lpN (k+1) ⟨hkx,Av (l:=take) hlk hk.2 (by simpa using ht45)⟩ (by omega) (StCut.of_eq rfl)
  have hkx:k=x:=by simp at ht34;omega
  have htk:Er c take x take[x]=true:=by
   unfold Er
   rw [ht31,la hlt rfl (fun j y hj=>hk.2 j y (by omega))]
   simp
  refine dw ?_;refine P0 ?_;refine R.fin [0,1,2,8] ?_;exact K.lpN (x+1) ⟨hlt,Ft hlt hx.2 htk⟩ (by omega) (StCut.of_eq rfl)
 have hk0:Dy c take=true:=takenM_true.2 (Gt (by simp at ht22;omega) hx.2)
 refine Z47 ?_;refine Xs ?_;refine Ic ?_;refine R.fin [0,1,2,10] ?_;refine Z31 ?_;refine R.fin [0,1,2,10,11] ?_
 refine AW.loopC (α:=Nat) (fun i=>⟨131,A3 0 (A9 c) (A3 1 (D6 take) (A3 2 (A9 give) (A3 10 (.slice true 2 ((Bi (c.take i) take).map Ak)) (A3 11 (A2 (i:Nat)) (fun _=>.any))))),Hp,[],[],none⟩) (fun i=>i≤c.length) (fun i=>c.length-i) (0) (Nat.zero_le _) (StLe.of_eq (by simp [Bi])) rfl (fun i hi=>?_)
 refine Z57 ?_;refine R.fin [0,1,2,10,11,50] ?_
 refine W.cond (fun ht50=>?_) (fun ht50=>?_)
 ·have hli:i<c.length:=by simpa using ht50
  have hcl:=hc.len
  refine Z43 ?_;refine Z2 ?_;refine R.fin [0,1,2,10,11,12] ?_;refine Z31 ?_;refine R.fin [0,1,2,10,11,12,13] ?_
  refine AW.loopC (α:=Nat) (fun m=>⟨131,A3 0 (A9 c) (A3 1 (D6 take) (A3 2 (A9 give) (A3 10 (.slice true 2 ((Bi (c.take i) take).map Ak)) (A3 11 (A2 (i:Nat)) (A3 12 (Al ((take.take m).all fun t => !(t==c[i].name))) (A3 13 (A2 (m:Nat)) (fun _=>.any))))))),Hp,[],[],none⟩) (fun m=>m≤take.length) (fun m=>take.length-m) (0) (Nat.zero_le _) (StLe.refl _) rfl (fun m hm=>?_)
  refine Z57 ?_;refine R.fin [0,1,2,10,11,12,13,56] ?_
  refine W.cond (fun ht56=>?_) (fun ht56=>?_)
  ·have hlm:m<take.length:=by simpa using ht56
   refine Z43 ?_;refine W.drawQ0 [0,1,3,3,15,31,3,3,195,451,963,2047,4095,8191] 11 Ad (by kernel_rfl) ?_;refine dq ?_
   refine H.go (h:=Q.indexAddr (m) (A6 take[m]) (fun _=>Ae hlm)) (hr:=?_)
   refine Xy ?_
   refine H.go (h:=Q.indexAddr (i) (Ak c[i]) (fun _=>Ae hli)) (hr:=?_)
   refine Z45 ?_;refine D.tail ?_;refine G.go ?_;refine Z0 ?_;refine R.fin [0,1,2,10,11,12,13] ?_;refine P0 ?_;refine R.fin [0,1,2,10,11,12,13] ?_;exact K.lpN (m+1) hlm (by omega) (StCut.of_eq (by rw [lf hlm];rfl))
  have hme:take.take m=take:=List.take_of_length_le (by simp at ht56;omega)
  rw [hme,ux]
  refine Z47 ?_;refine Z2 ?_;refine R.fin [0,1,2,10,11,72] ?_
  refine W.cond (fun ht72=>?_) (fun ht72=>?_)
  ·have hst:=b9 (take:=take) (List.getElem?_eq_getElem hli) (by simpa using ht72)
   refine V5 ?_;refine Z0 ?_
   refine R.go (h:=Q.indexAddr (i) (Ak c[i]) (fun _=>Ae hli)) (hr:=?_)
   refine Z75 ?_
   refine R.append jU Tryz.type58 ?_ ?_ ?_
   ·have h1:=Dq (c.take i) take;have h2:=hc.len;simp only [List.length_take] at h1;simp [Tryz.t58];omega
   ·have h1:=Dq (c.take i) take;have h2:=hc.len;simp only [List.length_take] at h1;simp [Tryz.t58];omega
   refine Ic ?_;refine R.fin [0,1,2,10,11] ?_;refine P0 ?_;exact wr
  have hst:=S1 (take:=take) (List.getElem?_eq_getElem hli) (by simpa using ht72)
  refine Z64 ?_;exact wr
 have hie:c.take i=c:=List.take_of_length_le (by simp at ht50;omega)
 rw [hie]
 refine Z47 ?_;refine D3 ?_;refine R.moveT ?_;refine R.go ?_
 refine R.append jU Tryz.type58 ?_ ?_ ?_
 ·have h1:=Dq c take;have h2:=I3 hr;simp [Tryz.t58];omega
 ·have h1:=Dq c take;have h2:=I3 hr;simp [Tryz.t58];omega
 refine Ic ?_;refine R.fin [10] ?_;refine Z68 ?_
 have e10:(Bi c take).map Ak++give.map Ak=(Bi c take++give).map Ak:=(List.map_append ..).symm
 rw [e10]
 generalize hout:Bi c take++give=out
 have ho:OkCols out:=Zd hc hr hg hg2 hout
 have hol:=ho.len
 refine R.go ?_;refine R.fin [10,14] ?_
 refine AW.loopC (α:=Nat) (fun a=>⟨131,A3 10 (.slice true 2 (out.map Ak)) (A3 14 (A2 (a:Nat)) (fun _=>.any)),Hp,[],[],none⟩) (fun a=>a≤out.length∧∀(j:Nat) (y:Col),j<a→out[j]? = some y→Fb out j y=true) (fun a=>out.length-a) (0) (by simp) (StLe.refl _) rfl (fun a ha=>?_)
 refine Z57 ?_;refine R.fin [10,14,86] ?_
 refine W.cond (fun ht86=>?_) (fun ht86=>?_)
 ·have hla:a<out.length:=by simpa using ht86
  refine Me ?_
  refine R.go (h:=Q.indexAddr (a) (Ak out[a]) (fun _=>Ae hla)) (hr:=?_)
  refine Z0 ?_;refine R.call Tryz.call80 (c80 _ (ho.names _ (List.getElem_mem hla)) _) ?_;refine Z83 ?_
  refine G.go (h:=Q.indexAddr (a) (Ak out[a]) (fun _=>Ae hla)) (hr:=?_)
  refine Z7 ?_;refine G.call Tryz.call50 (fun hB=>c50 out ho _ _) ?_;refine Tm ?_;refine R.fin [10,14,106] ?_
  refine W.cond (fun ht106=>?_) (fun ht106=>?_)
  ·have hn:Eu out=false:=lg hla (by unfold Fb;rw [ht106];rfl)
   refine Oy ?_;refine AW.ret ?_;refine Z34 ?_;exact K.fin (V.two V.tmp V.tmp) ⟨by rw [Z4 hr hk0 hout hn];try rfl,rfl⟩
  refine Z64 ?_;refine R.fin [10,14] ?_;exact K.lpN (a+1) ⟨hla,Ft hla ha.2 (by unfold Fb;rw [ht106];rfl)⟩ (by omega) (StCut.of_eq rfl)
 have hn:Eu out=true:=namedC_true.2 (Gt (by simp at ht86;omega) ha.2)
 refine Z47 ?_;refine Z31 ?_;refine R.fin [10,15] ?_
 refine AW.loopC (α:=Nat) (fun b=>⟨131,A3 10 (.slice true 2 (out.map Ak)) (A3 15 (A2 (b:Nat)) (fun _=>.any)),Hp,[],[],none⟩) (fun b=>b≤out.length∧∀(j:Nat) (y:Col),j<b→out[j]? = some y→L2 y=true) (fun b=>out.length-b) (0) (by simp) (StLe.refl _) rfl (fun b hb=>?_)
 refine Z57 ?_;refine R.fin [10,15,110] ?_
 refine W.cond (fun ht110=>?_) (fun ht110=>?_)
 ·have hlb:b<out.length:=by simpa using ht110
  refine Me ?_
  refine R.go (h:=Q.indexAddr (b) (Ak out[b]) (fun _=>Ae hlb)) (hr:=?_)
  refine Z0 ?_;refine Z27 ?_
  refine G.go (h:=Q.indexAddr (b) (Ak out[b]) (fun _=>Ae hlb)) (hr:=?_)
  refine Z7 ?_;refine Z66 ?_;refine R.fin [10,15,126] ?_
  refine W.cond (fun ht126=>?_) (fun ht126=>?_)
  ·have hq:Dz out=false:=U6 hlb (by unfold L2;rw [ht126];rfl)
   refine Oy ?_;refine AW.ret ?_;refine Z34 ?_;exact K.fin (V.two V.tmp V.tmp) ⟨by rw [Za hr hk0 hout hn hq];try rfl,rfl⟩
  refine Z64 ?_;refine R.fin [10,15] ?_;exact K.lpN (b+1) ⟨hlb,Av hlb hb.2 (by unfold L2;rw [ht126];rfl)⟩ (by omega) (StCut.of_eq rfl)
 have hq:Dz out=true:=Zf hn (H3 (by simp at ht110;omega) hb.2)
 refine Z47 ?_;refine Z35 ?_;refine R.fin [10,129] ?_
 refine W.cond (fun ht129=>?_) (fun ht129=>?_)
 ·have h12:12<out.length:=by simp at ht129;omega
  refine Oy ?_;refine Z37 ?_;exact K.fin (V.two V.tmp V.tmp) ⟨by rw [Zb hr hk0 hout hn hq h12];try rfl,rfl⟩
 have h12:¬12<out.length:=by simp at ht129;omega
 refine Z70 ?_;refine R.fin [6,7] ?_;refine AW.ret ?_;exact K.fin (V.two V.tmp V.tmp) ⟨by rw [Zc hr hk0 hout hn hq h12];try rfl,rfl⟩

/-! What went and came, taken back: the same columns. -/
theorem lh {α β:Type} {f:α→β} {c:List α} (h:(c.map f).Nodup) {i j:Nat} {y z:α} (hi:c[i]? = some y) (hj:c[j]? = some z) (e:f y=f z):i=j:=by
 obtain ⟨hi',ei⟩:=List.getElem?_eq_some_iff.1 hi
 obtain ⟨hj',ej⟩:=List.getElem?_eq_some_iff.1 hj
 have h':List.Pairwise (·≠·) (c.map f):=h
 rw [List.pairwise_iff_getElem] at h'
 rcases Nat.lt_trichotomy i j with hlt|rfl|hlt
 ·have h2:=h' i j (by simpa using hi') (by simpa using hj') hlt
  rw [List.getElem_map,List.getElem_map,ei,ej] at h2
  exact absurd e h2
 ·rfl
 have h2:=h' j i (by simpa using hj') (by simpa using hi') hlt
 rw [List.getElem_map,List.getElem_map,ei,ej] at h2
 exact absurd e.symm h2
theorem L3 {c:List Col} (h:(c.map (·.name)).Nodup) {j:Nat} {y:Col} (hj:c[j]? = some y):Aj y.name c=(j:Int):=by
 obtain ⟨hj',ej⟩:=List.getElem?_eq_some_iff.1 hj
 exact P5 hj' (by rw [ej]) (fun k z hk hz e=>by have:=lh h hz hj e;omega)
theorem find_mem {nm:Str} {c:List Col}:¬(Aj nm c<0)↔∃(j:Nat) (y:Col),c[j]? = some y∧y.name=nm∧Aj nm c=(j:Int):=by
 unfold Aj
 cases h:c.findIdx? (fun y=>y.name==nm) with
 | none =>
  constructor
  ·intro h';exact absurd (by decide) h'
  rintro ⟨j,y,_,_,e⟩
  exact absurd (show (-1:Int)=(j:Int) from e) (by omega)
 | some i =>
  rw [List.findIdx?_eq_some_iff_getElem] at h
  obtain ⟨hi,e,_⟩:=h
  constructor
  ·intro _;exact ⟨i,c[i],List.getElem?_eq_getElem hi,by simpa using e,rfl⟩
  intro _ h'
  have:(i:Int)<0:=h'
  omega
theorem qg {c:List Col} {take:List Str} {give:List Col} (h:(Bn c take give).2=0):Az c=true∧Dy c take=true∧Dz (Bi c take++give)=true∧(Bi c take++give).length≤12∧Bn c take give=(Bi c take++give,0):=by
 cases h1:Az c with
 | false=>rw [lc h1] at h;exact absurd (show (1:Int)=0 from h) (by decide)
 | true =>
  cases h2:Dy c take with
  | false=>rw [Yz h1 h2] at h;exact absurd (show (9:Int)=0 from h) (by decide)
  | true =>
   cases h3:Eu (Bi c take++give) with
   | false=>rw [Z4 h1 h2 rfl h3] at h;exact absurd (show (9:Int)=0 from h) (by decide)
   | true =>
    cases h4:Dz (Bi c take++give) with
    | false=>rw [Za h1 h2 rfl h3 h4] at h;exact absurd (show (10:Int)=0 from h) (by decide)
    | true =>
     by_cases h5:12<(Bi c take++give).length
     ·rw [Zb h1 h2 rfl h3 h4 h5] at h;exact absurd (show (3:Int)=0 from h) (by decide)
     exact ⟨rfl,rfl,rfl,by omega,Zc h1 h2 rfl h3 h4 h5⟩
set_option maxRecDepth 8000
/-- What a node asks of its kids, and what it is. -/
structure Sign where
 kids:List Int
 own:Int
def Dl (s:Str):Sign:=if (s==[111,114]) || (s==[97,110,100]) then ⟨[3,3],3⟩ else if (((((s==[61]) || (s==[33,61])) || (s==[60])) || (s==[60,61])) || (s==[62])) || (s==[62,61]) then ⟨[-1, -1],3⟩ else if s==[38] then ⟨[2,2],2⟩ else ⟨[1,1],1⟩
def Ca (s:Str):Sign:=if (s==[108,101,110]) || (s==[110,117,109]) then ⟨[2],1⟩ else if s==[115,116,114] then ⟨[1],2⟩ else if (s==[108,101,102,116]) || (s==[114,105,103,104,116]) then ⟨[2,1],2⟩ else if s==[105,115,110,117,108,108] then ⟨[-2],3⟩ else if s==[110,118,108] then ⟨[-1, -1], -1⟩ else ⟨[3, -1, -1], -1⟩
def Bq (o:Int) (t:Str):Sign:=if o==3 then ⟨[1],1⟩ else if o==4 then ⟨[3],3⟩ else if o==5 then Dl t else Ca t
def Be (a b:Int):Int×Bool:=if a==0 then (b,true) else if (b==0) || (a==b) then (a,true) else (0,false)
def Hs:List Int→List Int→Int→Option Int
 | _,[],c=>some c
 | [],_::_,_=>none
 | w::ws,k::ks,c=>if w == -2 then Hs ws ks c else if w == -1 then (if (Be c k).2 then Hs ws ks (Be c k).1 else none) else if (Be w k).2 then Hs ws ks c else none
def Fx (s:Sign) (ks:List Int):Int×Int:=match Hs s.kids ks 0 with|none=>(0,10)|some c=>if s.own == -1 then (c,0) else (s.own,0)
def F0 (c:List Col) (t:Str):Int×Int:=if Aj t c<0 then (0,9) else ((c.getD (Aj t c).toNat ⟨[],0⟩).kind,0)
def Jn (c:List Col) (o:Int) (t:Str) (v:Val) (ks:List (Int×Int)):Int×Int:=
 if o==1 then (v.kind,0) else if o==2 then F0 c t else match ks.find? (fun q=>q.2 != 0) with|some q=>(0,q.2)|none=>Fx (Bq o t) (ks.map (·.1))
mutual
def B9 (c:List Col):Expr→Int×Int
 | .mk o t v k=>Jn c o t v (I4 c k)
def I4 (c:List Col):List Expr→List (Int×Int)
  | []=>[]
  | e::r=>B9 c e::I4 c r
 end
theorem S3 (c:List Col):∀l,I4 c l=l.map (B9 c)
 | []=>rfl
 | e::r=>by rw [I4,S3 c r];rfl
theorem Jo (c:List Col) (e:Expr):B9 c e=Jn c e.op e.text e.val (e.kids.map (B9 c)):=by cases e;rw [B9,S3];rfl
/-- infer.Kind. -/
def Cb (e:Expr) (c:List Col):Int×Int:=if (!(Af e)) || !(Jh c) then (0,1) else B9 c e
/-! The signs have as many as the nodes have kids. -/
theorem L4 (s:Str):(Dl s).kids.length=2:=by
 unfold Dl;repeat' split
 all_goals rfl
theorem Zg {t:Str} {n:Nat} (h:B2 t=(n:Int)):(Ca t).kids.length=n:=by
 rw [show B2 t=B2 t from rfl] at h
 by_cases hm:t∈arityList.map (·.1)
 ·have:((arityList.map (·.1)).all fun s=>decide (((Ca s).kids.length:Int)=B2 s))=true:=by kernel_rfl
  have:=of_decide_eq_true (List.all_eq_true.1 this t hm)
  omega
 have h1:B2 t = -1:=by
  unfold B2
  rw [List.find?_eq_none.2 fun p hp=>by
   simp only [beq_iff_eq]
   rintro rfl
   exact hm (List.mem_map.2 ⟨p,hp,rfl⟩)]
 omega
theorem I5 {e:Expr} (h:C8 e=true) (h1:(e.op==1)=false) (h2:(e.op==2)=false):(Bq e.op e.text).kids.length=e.kids.length:=by
 unfold C8 at h
 rw [h1,h2] at h
 simp only [Bool.false_eq_true,if_false] at h
 unfold Bq
 by_cases h3:(e.op==3)=true
 ·rw [h3] at h
  simp only [Bool.true_or,if_true,Bool.and_eq_true,beq_iff_eq] at h
  rw [if_pos h3]
  show 1=_
  omega
 have h3':(e.op==3)=false:=by simpa using h3
 rw [if_neg h3]
 rw [h3'] at h
 by_cases h4:(e.op==4)=true
 ·rw [h4] at h
  simp only [Bool.false_or,if_true,Bool.and_eq_true,beq_iff_eq] at h
  rw [if_pos h4]
  show 1=_
  omega
 have h4':(e.op==4)=false:=by simpa using h4
 rw [if_neg h4]
 rw [h4'] at h
 simp only [Bool.or_false,Bool.false_eq_true,if_false] at h
 by_cases h5:(e.op==5)=true
 ·rw [h5] at h
  simp only [if_true,Bool.and_eq_true,beq_iff_eq] at h
  rw [if_pos h5,L4]
  omega
 have h5':(e.op==5)=false:=by simpa using h5
 rw [if_neg h5]
 rw [h5'] at h
 simp only [Bool.false_eq_true,if_false] at h
 by_cases h6:(e.op==6)=true
 ·rw [h6] at h
  simp only [if_true,Bool.and_eq_true,beq_iff_eq] at h
  exact Zg h.2
 have h6':(e.op==6)=false:=by simpa using h6
 rw [h6'] at h
 cases h
/-! More columns. -/
theorem li {c:List Col} {o:Int} {t:Str} {v:Val} {ks:List (Int×Int)} (h:(Jn c o t v ks).2=0) (h1:(o==1)=false) (h2:(o==2)=false):∀q∈ks,q.2=0:=by
 unfold Jn at h
 rw [h1,h2] at h
 simp only [Bool.false_eq_true,if_false] at h
 cases hf:ks.find? (fun q=>q.2 != 0) with
 | some q =>
  rw [hf] at h
  have:=List.find?_some hf
  simp only [bne_iff_ne] at this
  exact absurd h this
 | none =>
  intro q hq
  have:=List.find?_eq_none.1 hf q hq
  simpa using this
/-- What a name's kind is. -/
theorem Zh {c:List Col} {t:Str} (hn:(c.map (·.name)).Nodup) {y:Col} (hy:y∈c) (h:y.name=t):F0 c t=(y.kind,0):=by
 obtain ⟨j,hj⟩:=List.getElem?_of_mem hy
 have hf:=L3 hn hj
 rw [h] at hf
 unfold F0
 rw [hf,if_neg (by omega)]
 have:(c.getD ((j:Int)).toNat ⟨[],0⟩)=y:=by
  rw [Int.toNat_natCast,List.getD_eq_getElem?_getD,hj]
  rfl
 rw [this]
/-! A tree in a column's place. -/
set_option maxRecDepth 4000
/-- Where a parser of expressions stands: its word, its nest, its fault. -/
structure PS where
 i:Nat
 nest:Nat
 code:Int
 at_:Int
def noV:Val:=⟨0,0,[]⟩
def Ab:Expr:=.mk 0 [] noV []
def Cl (e a:Int) (S:PS):PS:=if S.code==0 then ⟨S.i,S.nest,e,a⟩ else S
def isM (l:List Tok) (of:Str) (S:PS):Bool:=(((A7 l S.i).kind==5) || ((A7 l S.i).kind==2))&&K8 (A7 l S.i).text of
def Aa (S:PS):PS:=⟨S.i+1,S.nest,S.code,S.at_⟩
def Bu (S:PS):PS:=⟨S.i,S.nest+1,S.code,S.at_⟩
def S4 (S:PS):PS:=⟨S.i,S.nest-1,S.code,S.at_⟩
def Dr (l:List Tok) (s:Str) (S:PS):PS:=if S.code != 0 then S else if ((A7 l S.i).kind != 5) || !((A7 l S.i).text==s) then Cl 8 (A7 l S.i).at_ S else Aa S
/-- What stands one nest deeper. -/
structure Fam where
 ei:PS→Expr×PS
 no:PS→Expr×PS
 ne:PS→Expr×PS
def Bb (a:Int) (f:PS→Expr×PS) (S:PS):Expr×PS:=if (S.nest:Int)==30 then (Ab,Cl 18 a S) else ((f (Bu S)).1,S4 (f (Bu S)).2)
def H8 (t:Str) (x y:Expr):Expr:=.mk 5 t noV [x,y]
def S5 (l:List Tok) (of:Str) (f:PS→Expr×PS):Nat→Expr×PS→Expr×PS
 | 0,r=>r
 | n+1,r=>if (r.2.code==0)&&isM l of r.2 then S5 l of f n (H8 (A7 l r.2.i).text r.1 (f (Aa r.2)).1,(f (Aa r.2)).2) else r
def E0 (l:List Tok) (of:Str) (f:PS→Expr×PS) (S:PS):Expr×PS:=S5 l of f l.length (f S)
def Pz:Str:=[32,44,32]
def argsF (l:List Tok) (f:PS→Expr×PS):Nat→List Expr×PS→List Expr×PS
 | 0,r=>r
 | n+1,r=>if (r.2.code==0)&&isM l Pz r.2 then argsF l f n (r.1++[(f (Aa r.2)).1],(f (Aa r.2)).2) else r
def Fl (l:List Tok) (f:PS→Expr×PS) (S:PS):List Expr×PS:=argsF l f l.length ([(f S).1],(f S).2)
def Np (l:List Tok) (a:Int) (f:PS→Expr×PS) (S:PS):List Expr×PS:=if (S.nest:Int)==30 then ([],Cl 18 a S) else ((Fl l f (Bu S)).1,S4 (Fl l f (Bu S)).2)
def Dm:Str:=[41]
def C7 (l:List Tok) (D:Fam) (S:PS):List Expr×PS:=Np l (A7 l S.i).at_ D.ei (Aa S)
def Fm (l:List Tok) (D:Fam) (t:Tok) (S:PS):Expr×PS:=
 if B2 t.text<0 then (Ab,Cl 9 t.at_ S)
 else if ((Dr l Dm (C7 l D S).2).code==0) && !(((C7 l D S).1.length:Int)==B2 t.text) then (Ab,Cl 8 t.at_ (Dr l Dm (C7 l D S).2))
 else (.mk 6 t.text noV (C7 l D S).1,Dr l Dm (C7 l D S).2)
def orT:Str:=[32,111,114,32]
def ff:Str:=[32,97,110,100,32]
def uz:Str:=[32,110,111,116,32]
def qh:Str:=[32,61,32,33,61,32,60,32,60,61,32,62,32,62,61,32]
def fg:Str:=[32,43,32,45,32,38,32]
def S6:Str:=[32,42,32,47,32,37,32]
def v6:Str:=[32,45,32]
def opT:Str:=[32,40,32]
def v7:Str:=[32,116,114,117,101,32,102,97,108,115,101,32,110,117,108,108,32]
def Iu (v:Val):Expr:=.mk 1 [] v []
def Ei (l:List Tok) (D:Fam) (S:PS):Expr×PS:=
 if S.code != 0 then (Ab,S)
 else if ((A7 l S.i).kind==3) || isM l v7 S then (Iu (F9 (A7 l S.i).text).1,Aa S)
 else if (A7 l S.i).kind==4 then (Iu ⟨2,0,(A7 l S.i).text.take 200⟩,Aa S)
 else if (A7 l S.i).kind==1 then (if isM l opT (Aa S) then Fm l D (A7 l S.i) (Aa S) else (Bd (A7 l S.i).text,Aa S))
 else if isM l opT S then ((Bb (A7 l S.i).at_ D.ei (Aa S)).1,Dr l Dm (Bb (A7 l S.i).at_ D.ei (Aa S)).2)
 else (Ab,Cl 8 (A7 l S.i).at_ S)
def F3 (op:Int) (x:Expr):Expr:=.mk op [] noV [x]
def O9 (l:List Tok) (D:Fam) (S:PS):Expr×PS:=if !isM l v6 S then Ei l D S else (F3 3 (Bb (A7 l S.i).at_ D.ne (Aa S)).1,(Bb (A7 l S.i).at_ D.ne (Aa S)).2)
def W7 (l:List Tok) (D:Fam):PS→Expr×PS:=E0 l S6 (O9 l D)
def Ct (l:List Tok) (D:Fam):PS→Expr×PS:=E0 l fg (W7 l D)
def Ds (l:List Tok) (D:Fam) (S:PS):Expr×PS:=
 if ((Ct l D S).2.code != 0) || !isM l qh (Ct l D S).2 then Ct l D S
 else (H8 (A7 l (Ct l D S).2.i).text (Ct l D S).1 (Ct l D (Aa (Ct l D S).2)).1,(Ct l D (Aa (Ct l D S).2)).2)
def Oa (l:List Tok) (D:Fam) (S:PS):Expr×PS:=if !isM l uz S then Ds l D S else (F3 4 (Bb (A7 l S.i).at_ D.no (Aa S)).1,(Bb (A7 l S.i).at_ D.no (Aa S)).2)
def W8 (l:List Tok) (D:Fam):PS→Expr×PS:=E0 l ff (Oa l D)
def Od (l:List Tok) (D:Fam):PS→Expr×PS:=E0 l orT (W8 l D)
def Dn (l:List Tok):Nat→Fam
 | 0=>⟨fun S=>(Ab,S),fun S=>(Ab,S),fun S=>(Ab,S)⟩
 | d+1=>⟨Od l (Dn l d),Oa l (Dn l d),O9 l (Dn l d)⟩

/-! What is so of them. -/
theorem Ev:∀{n m:Nat},n≤m→∀{e:Expr},okE n e→okE m e
 | 0,_,_,_,h=>h.elim
 | n+1,0,h,_,_=>by omega
 | n+1,m+1,h,_,ho=>⟨ho.1,ho.2.1,fun y hy=>Ev (by omega) (ho.2.2 y hy)⟩
theorem Q0:sizeE Ab=1:=rfl
theorem fh (t:Str) (a b:Expr):sizeE (H8 t a b)=1+(sizeE a+(sizeE b+0)):=by rw [H8,sizeE,B1,B1,B1]
theorem fj (o:Int) (a:Expr):sizeE (F3 o a)=1+(sizeE a+0):=by rw [F3,sizeE,B1,B1]
theorem S7:∀a b:List Expr,B1 (a++b)=B1 a+B1 b
 | [],b=>by rw [List.nil_append,B1,Nat.zero_add]
 | e::r,b=>by rw [List.cons_append,B1,B1,S7 r b,Nat.add_assoc]
theorem W9 {n:Nat} (h:1≤n):okE n Ab:=Ev h ⟨by decide,by decide,fun y hy=>by cases hy⟩
theorem ba {n:Nat} (h:1≤n) (v:Val):okE n (Iu v):=Ev h ⟨by simp [Iu,Expr.text],by simp [Iu,Expr.kids],fun y hy=>by cases hy⟩
structure Fact (l:List Tok) (S:PS) (r:Expr×PS):Prop where
 le:S.i≤r.2.i
 lt:r.2.i<l.length
 nest:r.2.nest=S.nest
 ok:okE (2*(r.2.i-S.i)+1) r.1
 sz:sizeE r.1≤2*(r.2.i-S.i)+1
def Cu (l:List Tok) (n:Nat) (f:PS→Expr×PS):Prop:=∀S,S.i<l.length→S.nest=n→Fact l S (f S)
theorem TokEnd.step {l:List Tok} (h:TokEnd l) {i:Nat} (hi:i<l.length) (hk:(A7 l i).kind≠0):i+1<l.length:=by
 obtain ⟨L,z,rfl,hz,_⟩:=h.split
 rcases Nat.lt_or_ge i L.length with h1|h1
 ·simp only [List.length_append,List.length_cons,List.length_nil];omega
 have:i=L.length:=by simp only [List.length_append,List.length_cons,List.length_nil] at hi;omega
 subst this
 exact absurd (by unfold A7;simpa using hz) hk
theorem lj {l:List Tok} {of:Str} {S:PS} (h:isM l of S=true):(A7 l S.i).kind≠0:=by
 unfold isM at h
 simp only [Bool.and_eq_true,Bool.or_eq_true,beq_iff_eq] at h
 omega
theorem TokEnd.stepIs {l:List Tok} (h:TokEnd l) {of:Str} {S:PS} (hi:S.i<l.length) (hk:isM l of S=true):(Aa S).i<l.length:=h.step hi (lj hk)
theorem failM_i {e a:Int} {S:PS}:(Cl e a S).i=S.i∧(Cl e a S).nest=S.nest:=by unfold Cl;split<;>exact ⟨rfl,rfl⟩
theorem bb {l:List Tok} (hl:TokEnd l) {s:Str} {S:PS} (hi:S.i<l.length):S.i≤(Dr l s S).i∧(Dr l s S).i<l.length∧(Dr l s S).nest=S.nest:=by
 unfold Dr
 split
 ·exact ⟨Nat.le_refl _,hi,rfl⟩
 split
 ·rw [failM_i.1,failM_i.2];exact ⟨Nat.le_refl _,hi,rfl⟩
 rename_i h
 simp only [Bool.or_eq_true,bne_iff_ne,ne_eq,not_or,Classical.not_not] at h
 have:=hl.step hi (by rw [h.1];decide)
 exact ⟨Nat.le_succ _,this,rfl⟩
theorem Lx {l:List Tok} {S S0:PS} (h0:S0.i≤S.i) (h1:S.i<l.length) (h2:S.nest=S0.nest) (e a:Int):Fact l S0 (Ab,Cl e a S):=by
 refine ⟨?_,?_,?_,W9 (by omega),by rw [Q0];omega⟩
 ·show _≤(Cl e a S).i;rw [failM_i.1];exact h0
 ·show (Cl e a S).i<_;rw [failM_i.1];exact h1
 show (Cl e a S).nest=_;rw [failM_i.2];exact h2
/-- A state of a loop of marks. -/
structure LeftAt (l:List Tok) (of:Str) (f:PS→Expr×PS) (S:PS) (r:Expr×PS):Prop where
 fact:Fact l S r
 eq:∃n,l.length≤r.2.i+n∧E0 l of f S=S5 l of f n r
theorem LeftAt.start {l:List Tok} {of:Str} {f:PS→Expr×PS} {S:PS} (h:Fact l S (f S)):LeftAt l of f S (f S):=⟨h,l.length,by omega,rfl⟩
theorem bc {l:List Tok} {S:PS} {r q:Expr×PS} (h:Fact l S r) (hq:Fact l (Aa r.2) q) (hl:TokEnd l):Fact l S (H8 (A7 l r.2.i).text r.1 q.1,q.2):=by
 have h1:=h.le
 have h2:r.2.i+1≤q.2.i:=hq.le
 refine ⟨by show S.i≤q.2.i;omega,hq.lt,by show q.2.nest=S.nest;rw [hq.nest];exact h.nest,?_,?_⟩
 rotate_left
 ·have s1:=h.sz
  have s2:sizeE q.1≤2*(q.2.i-(r.2.i+1))+1:=hq.sz
  show sizeE (H8 _ r.1 q.1)≤2*(q.2.i-S.i)+1
  rw [fh]
  omega
 show okE (2*(q.2.i-S.i)+1) _
 refine ⟨hl.text _,by simp [H8,Expr.kids],fun y hy=>?_⟩
 have hy':y=r.1∨y=q.1:=by simpa [H8,Expr.kids] using hy
 rcases hy' with rfl|rfl
 ·exact Ev (by omega) h.ok
 exact Ev (by show 2*(q.2.i-(r.2.i+1))+1≤_;omega) hq.ok
theorem LeftAt.on {l:List Tok} {of:Str} {f:PS→Expr×PS} {S:PS} {r:Expr×PS} (hl:TokEnd l) (h:LeftAt l of f S r) (hc:((r.2.code==0)&&isM l of r.2)=true) (hf:Cu l S.nest f):(Aa r.2).i<l.length∧Fact l (Aa r.2) (f (Aa r.2))∧LeftAt l of f S (H8 (A7 l r.2.i).text r.1 (f (Aa r.2)).1,(f (Aa r.2)).2):=by
 have hi:=hl.stepIs h.fact.lt (Bool.and_eq_true_iff.1 hc).2
 have hq:=hf (Aa r.2) hi h.fact.nest
 obtain ⟨n,hn,e⟩:=h.eq
 have h1:=h.fact.lt
 have h2:r.2.i+1≤(f (Aa r.2)).2.i:=hq.le
 obtain ⟨m,rfl⟩:∃m,n=m+1:=⟨n-1,by omega⟩
 refine ⟨hi,hq,bc h.fact hq hl,m,by show l.length≤(f (Aa r.2)).2.i+m;omega,?_⟩
 rw [e,S5,if_pos hc]
theorem LeftAt.out {l:List Tok} {of:Str} {f:PS→Expr×PS} {S:PS} {r:Expr×PS} (h:LeftAt l of f S r) (hc:¬((r.2.code==0)&&isM l of r.2)=true):E0 l of f S=r:=by
 obtain ⟨n,hn,e⟩:=h.eq
 have h1:=h.fact.lt
 obtain ⟨m,rfl⟩:∃m,n=m+1:=⟨n-1,by omega⟩
 rw [e,S5,if_neg hc]
theorem Wa {l:List Tok} {of:Str} {f:PS→Expr×PS} {S:PS} (hl:TokEnd l) (hf:Cu l S.nest f):∀(k:Nat) (r:Expr×PS),l.length-r.2.i≤k→LeftAt l of f S r→Fact l S (E0 l of f S)
 | 0,r,hk,h=>by have:=h.fact.lt;omega
 | k+1,r,hk,h=>by
  by_cases hc:((r.2.code==0)&&isM l of r.2)=true
  ·obtain ⟨h1,h2,h3⟩:=h.on hl hc hf
   have h4:r.2.i+1≤(f (Aa r.2)).2.i:=h2.le
   exact Wa hl hf k _ (by show l.length-(f (Aa r.2)).2.i≤k;have:=h.fact.lt;omega) h3
  rw [h.out hc];exact h.fact
theorem Ew {l:List Tok} {of:Str} {f:PS→Expr×PS} {n:Nat} (hl:TokEnd l) (hf:Cu l n f):Cu l n (E0 l of f):=fun S hi hn=>Wa hl (hn ▸ hf) l.length (f S) (by omega) (.start (hf S hi hn))
theorem Gq {l:List Tok} {f:PS→Expr×PS} {S:PS} (a:Int) (hi:S.i<l.length) (hf:S.nest≠30→Cu l (S.nest+1) f):Fact l S (Bb a f S):=by
 unfold Bb
 split
 ·exact Lx (Nat.le_refl _) hi rfl _ _
 rename_i h
 have h30:S.nest≠30:=fun e=>h (by rw [e];rfl)
 have:=hf h30 (Bu S) hi rfl
 refine ⟨this.le,this.lt,?_,this.ok,this.sz⟩
 show (f (Bu S)).2.nest-1=S.nest
 rw [this.nest]
 rfl
/-- What is so of some kids. -/
structure KFact (l:List Tok) (S:PS) (r:List Expr×PS):Prop where
 le:S.i≤r.2.i
 lt:r.2.i<l.length
 nest:r.2.nest=S.nest
 len:r.1.length≤r.2.i-S.i+1
 ok:∀y∈r.1,okE (2*(r.2.i-S.i)+1) y
 sz:B1 r.1≤2*(r.2.i-S.i)+1
structure ArgsAt (l:List Tok) (f:PS→Expr×PS) (S:PS) (r:List Expr×PS):Prop where
 fact:KFact l S r
 eq:∃n,l.length≤r.2.i+n∧Fl l f S=argsF l f n r
theorem ArgsAt.start {l:List Tok} {f:PS→Expr×PS} {S:PS} (h:Fact l S (f S)):ArgsAt l f S ([(f S).1],(f S).2):=⟨⟨h.le,h.lt,h.nest,by simp,fun y hy=>by rw [List.mem_singleton.1 hy];exact h.ok,by have:=h.sz;show sizeE (f S).1+0≤_;exact this⟩,l.length,by omega,rfl⟩
theorem ArgsAt.on {l:List Tok} {f:PS→Expr×PS} {S:PS} {r:List Expr×PS} (hl:TokEnd l) (h:ArgsAt l f S r) (hc:((r.2.code==0)&&isM l Pz r.2)=true) (hf:Cu l S.nest f):(Aa r.2).i<l.length∧Fact l (Aa r.2) (f (Aa r.2))∧ArgsAt l f S (r.1++[(f (Aa r.2)).1],(f (Aa r.2)).2):=by
 have hi:=hl.stepIs h.fact.lt (Bool.and_eq_true_iff.1 hc).2
 have hq:=hf (Aa r.2) hi h.fact.nest
 obtain ⟨n,hn,e⟩:=h.eq
 have h1:=h.fact.lt
 have h0:=h.fact.le
 have h2:r.2.i+1≤(f (Aa r.2)).2.i:=hq.le
 obtain ⟨m,rfl⟩:∃m,n=m+1:=⟨n-1,by omega⟩
 refine ⟨hi,hq,⟨by show S.i≤(f (Aa r.2)).2.i;omega,hq.lt,by show (f (Aa r.2)).2.nest=_;rw [hq.nest];exact h.fact.nest,?_,fun y hy=>?_,?_⟩,m,by show l.length≤(f (Aa r.2)).2.i+m;omega,?_⟩
 ·have:=h.fact.len
  show (r.1++_).length≤(f (Aa r.2)).2.i-S.i+1
  simp only [List.length_append,List.length_cons,List.length_nil]
  omega
 ·show okE (2*((f (Aa r.2)).2.i-S.i)+1) y
  rcases List.mem_append.1 hy with hy|hy
  ·exact Ev (by omega) (h.fact.ok y hy)
  rw [List.mem_singleton.1 hy]
  exact Ev (by show 2*((f (Aa r.2)).2.i-(r.2.i+1))+1≤_;omega) hq.ok
 ·have s1:=h.fact.sz
  have s2:sizeE (f (Aa r.2)).1≤2*((f (Aa r.2)).2.i-(r.2.i+1))+1:=hq.sz
  show B1 (r.1++[(f (Aa r.2)).1])≤2*((f (Aa r.2)).2.i-S.i)+1
  rw [S7,B1,B1]
  omega
 rw [e,argsF,if_pos hc]
theorem ArgsAt.out {l:List Tok} {f:PS→Expr×PS} {S:PS} {r:List Expr×PS} (h:ArgsAt l f S r) (hc:¬((r.2.code==0)&&isM l Pz r.2)=true):Fl l f S=r:=by
 obtain ⟨n,hn,e⟩:=h.eq
 have h1:=h.fact.lt
 obtain ⟨m,rfl⟩:∃m,n=m+1:=⟨n-1,by omega⟩
 rw [e,argsF,if_neg hc]
theorem Wb {l:List Tok} {f:PS→Expr×PS} {S:PS} (hl:TokEnd l) (hf:Cu l S.nest f):∀(k:Nat) (r:List Expr×PS),l.length-r.2.i≤k→ArgsAt l f S r→KFact l S (Fl l f S)
 | 0,r,hk,h=>by have:=h.fact.lt;omega
 | k+1,r,hk,h=>by
  by_cases hc:((r.2.code==0)&&isM l Pz r.2)=true
  ·obtain ⟨h1,h2,h3⟩:=h.on hl hc hf
   have h4:r.2.i+1≤(f (Aa r.2)).2.i:=h2.le
   exact Wb hl hf k _ (by show l.length-(f (Aa r.2)).2.i≤k;have:=h.fact.lt;omega) h3
  rw [h.out hc];exact h.fact
theorem Q3 {l:List Tok} {f:PS→Expr×PS} {S:PS} (hl:TokEnd l) (hi:S.i<l.length) (hf:Cu l S.nest f):KFact l S (Fl l f S):=Wb hl hf l.length _ (by show l.length-(f S).2.i≤_;omega) (.start (hf S hi rfl))
theorem Q4 {l:List Tok} {f:PS→Expr×PS} {S:PS} (hl:TokEnd l) (a:Int) (hi:S.i<l.length) (hf:S.nest≠30→Cu l (S.nest+1) f):KFact l S (Np l a f S):=by
 unfold Np
 split
 ·refine ⟨?_,?_,?_,by simp,fun y hy=>(by cases hy),by simp [B1]⟩
  ·show _≤(Cl _ _ S).i;rw [failM_i.1];exact Nat.le_refl _
  ·show (Cl _ _ S).i<_;rw [failM_i.1];exact hi
  show (Cl _ _ S).nest=_;rw [failM_i.2]
 rename_i h
 have h30:S.nest≠30:=fun e=>h (by rw [e];rfl)
 have:=Q3 (S:=Bu S) hl hi (hf h30)
 refine ⟨this.le,this.lt,?_,this.len,this.ok,this.sz⟩
 show (Fl l f (Bu S)).2.nest-1=S.nest
 rw [this.nest]
 rfl
theorem Zi {l:List Tok} {D:Fam} {S:PS} (hl:TokEnd l) (hll:l.length≤1048576) {t:Tok} (ht:t.text.length≤1048576) (hi:(Aa S).i<l.length) (hf:S.nest≠30→Cu l (S.nest+1) D.ei):Fact l S (Fm l D t S):=by
 have hk:KFact l (Aa S) (C7 l D S):=Q4 hl _ hi hf
 have h1:S.i+1≤(C7 l D S).2.i:=hk.le
 obtain ⟨w1,w2,w3⟩:=bb (s:=Dm) hl hk.lt
 unfold Fm
 split
 ·exact Lx (Nat.le_refl _) (by show S.i<_;have:S.i+1<l.length:=hi;omega) rfl _ _
 split
 ·exact Lx (show S.i≤(Dr l Dm (C7 l D S).2).i by omega) w2 (w3.trans hk.nest) 8 t.at_
 refine ⟨by show S.i≤(Dr l Dm (C7 l D S).2).i;omega,w2,w3.trans hk.nest,?_,?_⟩
 rotate_left
 ·have s1:B1 (C7 l D S).1≤2*((C7 l D S).2.i-(S.i+1))+1:=hk.sz
  show sizeE (.mk 6 t.text noV (C7 l D S).1)≤2*((Dr l Dm (C7 l D S).2).i-S.i)+1
  rw [sizeE]
  omega
 show okE (2*((Dr l Dm (C7 l D S).2).i-S.i)+1) _
 refine ⟨ht,?_,fun y hy=>?_⟩
 ·have h5:(C7 l D S).1.length≤(C7 l D S).2.i-(Aa S).i+1:=hk.len
  have h6:=hk.lt
  show (C7 l D S).1.length≤1048576
  omega
 exact Ev (by show 2*((C7 l D S).2.i-(S.i+1))+1≤_;omega) (hk.ok y hy)
theorem Zj {l:List Tok} {D:Fam} {n:Nat} (hl:TokEnd l) (hll:l.length≤1048576) (hf:n≠30→Cu l (n+1) D.ei):Cu l n (Ei l D):=by
 intro S hi hn
 subst hn
 unfold Ei
 have leaf:∀e:Expr,okE 1 e→sizeE e=1→(A7 l S.i).kind≠0→Fact l S (e,Aa S):=fun e he hs hk=>⟨Nat.le_succ _,hl.step hi hk,rfl,Ev (by omega) he,by show sizeE e≤_;omega⟩
 split
 ·exact ⟨Nat.le_refl _,hi,rfl,W9 (by omega),by show sizeE Ab≤_;rw [Q0];omega⟩
 split
 ·rename_i h
  refine leaf _ (ba (Nat.le_refl _) _) rfl ?_
  rcases Bool.or_eq_true_iff.1 h with h|h
  ·rw [beq_iff_eq] at h;rw [h];decide
  exact lj h
 split
 ·rename_i h
  rw [beq_iff_eq] at h
  exact leaf _ (ba (Nat.le_refl _) _) rfl (by rw [h];decide)
 split
 ·rename_i h
  rw [beq_iff_eq] at h
  have hk:(A7 l S.i).kind≠0:=by rw [h];decide
  split
  ·rename_i h2
   have hi1:(Aa S).i<l.length:=hl.step hi hk
   have:=Zi (S:=Aa S) (D:=D) hl hll (hl.text S.i) (hl.stepIs hi1 h2) hf
   have h3:S.i+1≤(Fm l D (A7 l S.i) (Aa S)).2.i:=this.le
   have h4:sizeE (Fm l D (A7 l S.i) (Aa S)).1≤2*((Fm l D (A7 l S.i) (Aa S)).2.i-(S.i+1))+1:=this.sz
   exact ⟨by omega,this.lt,this.nest,Ev (by show 2*((Fm l D (A7 l S.i) (Aa S)).2.i-(S.i+1))+1≤_;omega) this.ok,by omega⟩
  exact leaf _ (Vr _ (hl.text _)) rfl hk
 split
 ·rename_i h
  have hi1:(Aa S).i<l.length:=hl.stepIs hi h
  have:=Gq (S:=Aa S) (l:=l) (f:=D.ei) (A7 l S.i).at_ hi1 hf
  obtain ⟨w1,w2,w3⟩:=bb (s:=Dm) hl this.lt
  have h3:S.i+1≤(Bb (A7 l S.i).at_ D.ei (Aa S)).2.i:=this.le
  have h4:sizeE (Bb (A7 l S.i).at_ D.ei (Aa S)).1≤2*((Bb (A7 l S.i).at_ D.ei (Aa S)).2.i-(S.i+1))+1:=this.sz
  refine ⟨by show S.i≤(Dr l Dm _).i;omega,w2,w3.trans this.nest,Ev ?_ this.ok,by show sizeE (Bb (A7 l S.i).at_ D.ei (Aa S)).1≤2*((Dr l Dm (Bb (A7 l S.i).at_ D.ei (Aa S)).2).i-S.i)+1;omega⟩
  show 2*((Bb (A7 l S.i).at_ D.ei (Aa S)).2.i-(S.i+1))+1≤2*((Dr l Dm (Bb (A7 l S.i).at_ D.ei (Aa S)).2).i-S.i)+1
  omega
 exact Lx (Nat.le_refl _) hi rfl _ _
theorem be {l:List Tok} {S:PS} {r:Expr×PS} (h:Fact l (Aa S) r) (op:Int):Fact l S (F3 op r.1,r.2):=by
 have h1:S.i+1≤r.2.i:=h.le
 refine ⟨by show S.i≤r.2.i;omega,h.lt,h.nest,?_,?_⟩
 rotate_left
 ·have s1:sizeE r.1≤2*(r.2.i-(S.i+1))+1:=h.sz
  show sizeE (F3 op r.1)≤2*(r.2.i-S.i)+1
  rw [fj]
  omega
 show okE (2*(r.2.i-S.i)+1) _
 refine ⟨by simp [F3,Expr.text],by simp [F3,Expr.kids],fun y hy=>?_⟩
 have hy':y=r.1:=by simpa [F3,Expr.kids] using hy
 subst hy'
 exact Ev (by show 2*(r.2.i-(S.i+1))+1≤_;omega) h.ok
theorem Mv {l:List Tok} {D:Fam} {n:Nat} (hl:TokEnd l) (hll:l.length≤1048576) (hf:n≠30→Cu l (n+1) D.ei) (hg:n≠30→Cu l (n+1) D.ne):Cu l n (O9 l D):=by
 intro S hi hn
 unfold O9
 split
 ·exact Zj hl hll hf S hi hn
 rename_i h
 subst hn
 exact be (Gq (S:=Aa S) _ (hl.stepIs hi (by simpa using h)) hg) 3
theorem S8 {l:List Tok} {D:Fam} {n:Nat} (hl:TokEnd l) (hll:l.length≤1048576) (hf:n≠30→Cu l (n+1) D.ei) (hg:n≠30→Cu l (n+1) D.ne):Cu l n (Ct l D):=Ew hl (Ew hl (Mv hl hll hf hg))
theorem Kn {l:List Tok} {D:Fam} {n:Nat} (hl:TokEnd l) (hll:l.length≤1048576) (hf:n≠30→Cu l (n+1) D.ei) (hg:n≠30→Cu l (n+1) D.ne):Cu l n (Ds l D):=by
 intro S hi hn
 have h1:=S8 hl hll hf hg S hi hn
 unfold Ds
 split
 ·exact h1
 rename_i h
 simp only [Bool.or_eq_true,not_or,Bool.not_eq_true,Bool.not_eq_false'] at h
 exact bc h1 (S8 hl hll hf hg _ (hl.stepIs h1.lt h.2) (h1.nest.trans hn)) hl
theorem S9 {l:List Tok} {D:Fam} {n:Nat} (hl:TokEnd l) (hll:l.length≤1048576) (hf:n≠30→Cu l (n+1) D.ei) (hg:n≠30→Cu l (n+1) D.ne) (hh:n≠30→Cu l (n+1) D.no):Cu l n (Oa l D):=by
 intro S hi hn
 unfold Oa
 split
 ·exact Kn hl hll hf hg S hi hn
 rename_i h
 subst hn
 exact be (Gq (S:=Aa S) _ (hl.stepIs hi (by simpa using h)) hh) 4
theorem Mw {l:List Tok} (hl:TokEnd l) (hll:l.length≤1048576):∀(d n:Nat),n+d=31→n≠31→Cu l n (Dn l d).ei∧Cu l n (Dn l d).no∧Cu l n (Dn l d).ne
 | 0,n,h,h2=>by omega
 | d+1,n,h,_=>by
  have ih:n≠30→_:=fun h30=>Mw hl hll d (n+1) (by omega) (by omega)
  have hn:=S9 (D:=Dn l d) (n:=n) hl hll (fun h=>(ih h).1) (fun h=>(ih h).2.2) (fun h=>(ih h).2.1)
  exact ⟨Ew hl (Ew hl hn),hn,Mv hl hll (fun h=>(ih h).1) (fun h=>(ih h).2.2)⟩
abbrev pr (l:List Tok) (S:PS):AObj:=.cells 222 [.slice false 3 (l.map H5),A2 (S.i:Int),A2 (S.nest:Int),A2 S.code,A2 S.at_]
theorem Bp {n:Nat} {l:List Tok} {S:PS}:ObjLow n (pr l S):=by
 show ∀y∈[AV.slice false 3 (l.map H5),A2 (S.i:Int),A2 (S.nest:Int),A2 S.code,A2 S.at_],Low n y
 intro y hy
 simp only [List.mem_cons,List.not_mem_nil,or_false] at hy
 rcases hy with rfl|rfl|rfl|rfl|rfl
 ·simp [or_imp,forall_and]
 all_goals simp
theorem Wc (o:Int) (t:Str) (v:Val):Le (.agg [A2 o,A6 t,A2 v.kind,A2 v.n,A6 v.s,.nil]) (A4 (.mk o t v [])):=by
 rw [A8]
 refine .agg _ _ rfl (by simp [AV.one,Value.oneCell',sv]) fun i y y' h1 h2=>?_
 match i with
 | 0=>simp at h1 h2;subst h1;subst h2;exact .inl rfl
 | 1=>simp at h1 h2;subst h1;subst h2;exact .inl rfl
 | 2=>simp at h1 h2;subst h1;subst h2;exact .inl rfl
 | 3=>simp at h1 h2;subst h1;subst h2;exact .inl rfl
 | 4=>simp at h1 h2;subst h1;subst h2;exact .inl rfl
 | 5=>simp at h1 h2;subst h1;subst h2;exact .inr ⟨rfl,6,rfl⟩
 | i+6=>simp at h1
theorem Q5:Le (.agg [A2 0,A6 [],A2 0,A2 0,A6 [],.nil]) (A4 Ab):=Wc 0 [] noV
theorem zf (l:List Tok) (S:PS) (o:Nat) (Hp:List AObj) (ho:Hp[o]? = some (pr l S)) (hi:S.i<l.length):AFun Tryz.prog 258 [.ptr o 0] Hp (H5 (A7 l S.i)):=by
 refine ACall.body [.cell 2 125] [0] Tryz.func258 Tryz.ntmps258 (fun d=>?_)
 refine xw ?_;refine Z53 ?_
 refine D.go (h:=Q.loadUp ho) (hr:=?_)
 refine Z53 ?_
 refine D.go (h:=Q.loadUp ho) (hr:=?_)
 refine D.tail ?_
 refine R.go (h:=Q.indexAddr (S.i) (H5 (A7 l S.i)) (fun _=>Pn hi)) (hr:=?_)
 refine R.go ?_;exact o6

theorem Wd (l:List Tok) (S:PS) (of:Str) (o:Nat) (Hp:List AObj) (ho:Hp[o]? = some (pr l S)) (hi:S.i<l.length) (hl:TokEnd l) (hof:of.length≤1048576):AFun Tryz.prog 249 [.ptr o 0,A6 of] Hp (Al (isM l of S)):=by
 refine ACall.body [.tmp 4] [0,1] Tryz.func249 Tryz.ntmps249 (fun d=>?_)
 refine Z62 ?_;refine tw ?_;refine Z20 ?_;refine R.fin [1,5] ?_;refine Z1 ?_;refine Z83 ?_;refine Z83 ?_;refine G.call Tryz.call109 (fun hB=>zc (A7 l S.i).text of (hl.text _) hof _) ?_;exact jn

theorem ll (l:List Tok) (S:PS) (o:Nat) (Hp:List AObj) (ho:Hp[o]? = some (pr l S)) (hi:S.i<l.length) (hll:l.length≤1048576):ACall Tryz.prog 250 [.ptr o 0] Hp (fun r H'=>r=H5 (A7 l S.i)∧H'=Hp.set o (pr l (Aa S))):=by
 refine ACall.body [.cell 2 125] [0] Tryz.func250 Tryz.ntmps250 (fun d=>?_)
 refine Z63 ?_;refine tw ?_;refine V4 ?_;refine Z17 ?_
 refine R.go (h:=Q.loadUp ho) (hr:=?_)
 refine Z23 ?_
 refine R.storeUp jS ho ?_ ?_
 ·simp
 refine F8 ?_;refine Z2 ?_;exact o6

theorem fk (l:List Tok) (S:PS) (e a:Int) (o:Nat) (Hp:List AObj) (ho:Hp[o]? = some (pr l S)):ACall Tryz.prog 221 [.ptr o 0,A2 e,A2 a] Hp (fun r H'=>r=A4 Ab∧H'=Hp.set o (pr l (Cl e a S))):=by
 refine ACall.body [.cell 6 45] [0,1,2] Tryz.func221 Tryz.ntmps221 (fun d=>?_)
 refine Z32 ?_;refine Y4 ?_;refine Z57 ?_
 refine R.go (h:=Q.loadUp ho) (hr:=?_)
 refine R.go ?_;refine R.fin [0,1,2,6,12] ?_
 refine W.cond (fun ht12=>?_) (fun ht12=>?_)
 ·have e:Cl e a S=⟨S.i,S.nest,e,a⟩:=if_pos ht12
  refine Z29 ?_;refine Vd ?_;refine Z0 ?_
  refine R.storeUp jS ho ?_ ?_
  ·simp
  refine R.fin [6] ?_;refine K.thN ?_;refine Z38 ?_;refine R.wk 19 _ Q5 ?_;refine Fk ?_;refine Z86 ?_;exact K.fin (V.one (V.cellN jA jS)) ⟨rfl,by rw [e]⟩ (hlow:=Ac _ Ab)
 have e:Cl e a S=S:=if_neg (by rw [ht12];simp)
 refine Z5 ?_;refine Z38 ?_;refine R.wk 19 _ Q5 ?_;refine Fk ?_;refine Z86 ?_;exact K.fin (V.one (V.cellN jA jS)) ⟨rfl,by rw [e];exact (Ek ho).symm⟩ (hlow:=Ac _ Ab)

theorem zg (v:Val) (Hp:List AObj):AFun Tryz.prog 266 [P3 v] Hp (A4 (Iu v)):=by
 refine ACall.body [.cell 2 45] [0] Tryz.func266 Tryz.ntmps266 (fun d=>?_)
 refine jq ?_;refine R.fin [1,2] ?_;refine y7 ?_;refine R.wk 4 _ (Wc 1 [] v) ?_;refine Z13 ?_;exact K.fin (V.one (V.cellN jA jS)) ⟨rfl,rfl⟩ (hlow:=Ac _ (Iu v))

theorem zh (l:List Tok) (S:PS) (s:Str) (o:Nat) (Hp:List AObj) (ho:Hp[o]? = some (pr l S)) (hi:S.i<l.length) (hll:l.length≤1048576):ACall Tryz.prog 268 [.ptr o 0,A6 s] Hp (fun r H'=>r=.v (.tuple #[])∧H'=Hp.set o (pr l (Dr l s S))):=by
 refine ACall.body [] [0,1] Tryz.func268 Tryz.ntmps268 (fun d=>?_)
 refine Z57 ?_
 refine R.go (h:=Q.loadUp ho) (hr:=?_)
 refine R.go ?_;refine R.fin [0,1,10] ?_
 refine W.cond (fun ht10=>?_) (fun ht10=>?_)
 ·have e:Dr l s S=S:=if_pos ht10
  refine Z37 ?_;exact K.fin .nores (hp:=⟨rfl,by rw [e];exact (Ek ho).symm⟩)
 have e0:¬(S.code != 0)=true:=by rw [ht10];simp
 refine Tn ?_;refine R.call Tryz.call258 (zf l S o _ (A5 ho) hi) ?_;refine Z20 ?_;refine R.fin [0,1,4] ?_;refine Z1 ?_;refine Z56 ?_;refine R.go ?_;refine R.fin [0,4,21] ?_
 refine W.cond (fun ht21=>?_) (fun ht21=>?_)
 ·have e:Dr l s S=Cl 8 (A7 l S.i).at_ S:=by unfold Dr;rw [if_neg e0,if_pos ht21]
  refine xg ?_;refine jo ?_;exact K.fin .nores (hp:=⟨rfl,by rw [e]⟩)
 have e:Dr l s S=Aa S:=by unfold Dr;rw [if_neg e0,if_neg (by rw [ht21];simp)]
 refine Z5 ?_;refine Z29 ?_
 refine R.go (h:=Q.loadUp ho) (hr:=?_)
 refine Z23 ?_
 refine R.storeUp jS ho ?_ ?_
 ·simp
 refine R.fin [] ?_;exact K.finN .nores (hp:=⟨rfl,by rw [e];rfl⟩)

/-- The contract of one of the parser's functions. -/
def PC (g:FuncId) (l:List Tok) (f:PS→Expr×PS) (n:Nat):Prop:=∀(o:Nat) (Hp:List AObj) (S:PS),Hp[o]? = some (pr l S)→S.i<l.length→S.nest=n→ACall Tryz.prog g [.ptr o 0] Hp (fun r H'=>r=A4 (f S).1∧H'=Hp.set o (pr l (f S).2))
abbrev Ht:AObj:=.cells 45 [A2 0,A6 [],A2 0,A2 0,A6 [],.nil]
theorem U7 {n:Nat}:ObjLow n Ht:=by
 show ∀y∈[A2 0,A6 [],A2 0,A2 0,A6 [],AV.nil],Low n y
 simp
theorem qi {n:Nat} (e:Expr):ObjLow n (.cells 45 (Bt e)):=by
 have h:=Ac n e
 rw [A8] at h
 show ∀y∈Bt e,Low n y
 intro y hy
 cases h with
 | agg _ h=>exact h y hy
theorem qj (l:List Tok) (S:PS) (a:Int) (g:FuncId) (first caps:List AV) (x:Expr) (S2:PS) (o:Nat) (Hp Hx:List AObj) (ho:Hp[o]? = some (pr l S)) (hnl:S.nest≤1048576) (hgc:∀args w,(callFunc g args).run Tryz.prog w=.ok (.enter g args) w) (hxl:Hx.length=Hp.length) (hxo:Hx[o]? = some (pr l S2)) (hn2:S2.nest=S.nest+1) (hlow:(∀y∈Hp.set o (pr l (Bu S)),ObjLow Hp.length y)→∀y∈Hx,ObjLow Hp.length y) (hcf:S.nest≠30→∀own,ACall Tryz.prog g (first++caps) (Hp.set o (pr l (Bu S))++own) (fun y H'=>y=A4 x∧H'=Hx++own)):ACall Tryz.prog 260 [.ptr o 0,A2 a,.fn (.func g) first caps] Hp (fun r H'=>(S.nest=30→r=A4 Ab∧H'=Hp.set o (pr l (Cl 18 a S)))∧(S.nest≠30→r=A4 x∧H'=Hx.set o (pr l (S4 S2)))):=by
 refine ACall.body [.cell 6 45] [0,1,2] Tryz.func260 Tryz.ntmps260 (fun d=>?_)
 refine Z32 ?_;refine Y4 ?_;refine Z35 ?_
 refine R.go (h:=Q.loadUp ho) (hr:=?_)
 refine R.go ?_;refine R.fin [0,1,2,6,12] ?_
 refine W.cond (fun ht12=>?_) (fun ht12=>?_)
 ·have hn30:S.nest=30:=by have:=ht12;simp at this;omega
  refine Z1 ?_;refine R.callUp Tryz.call221 ho (by simp) Bp (fk l S 18 a o _ (A5 ho)) ?_;refine Fk ?_;refine jf ?_;exact K.fin (V.one (V.cellN jA jS)) ⟨fun _=>⟨by rw [A8],rfl⟩,fun h=>absurd hn30 h⟩ (hlow:=by have:=Ac Hp.length Ab;rw [A8] at this;simpa using this)
 have hn30:S.nest≠30:=by have:=ht12;simp at this;omega
 refine Z70 ?_
 refine R.go (h:=Q.loadUp ho) (hr:=?_)
 refine Z23 ?_
 refine R.storeUp jS ho ?_ ?_
 ·simp
 refine R.fin [0,2,6] ?_;refine Z2 ?_
 refine R.callVX (up':=Hx) (own':=[Ht]) hgc (hcf hn30 [Ht]) (by simpa using hxl) (by rw [List.length_set];exact hlow) ?_
 rw [←hxl]
 refine Z20 ?_;refine R.fin [0,6,7] ?_;refine Z17 ?_
 refine R.go (h:=Q.loadUp hxo) (hr:=?_)
 refine Z23 ?_
 refine R.storeUp jS hxo ?_ ?_
 ·simp
 refine R.fin [6,7] ?_;refine Xv ?_;refine Z86 ?_;exact K.fin (V.one (V.cellN jA jS)) ⟨fun h=>absurd h hn30,fun _=>⟨by rw [A8],by rw [show ((S2.nest:Int)-1)=((S4 S2).nest:Int) by show _=((S2.nest-1:Nat):Int);omega];rfl⟩⟩ (hlow:=by have:=Ac Hx.length x;rw [A8] at this;simpa using this)

theorem fl (t:Str) (a b:Expr):Bt (H8 t a b)=[A2 5,.v (sv t),A2 0,A2 0,A6 [],.slice false 6 [A4 a,A4 b]]:=rfl
theorem ql {n:Nat} (t:Str) (a b:Expr):ObjLow n (.cells 45 [A2 5,.v (sv t),A2 0,A2 0,A6 [],.slice false 6 [A4 a,A4 b]]):=qi (H8 t a b)
theorem qm {n:Nat} {U:List AObj} {i:Nat} {x:AObj} (h:∀y∈U,ObjLow n y) (hx:ObjLow n x):∀y∈U.set i x,ObjLow n y:=by
 intro y hy
 rcases List.mem_or_eq_of_mem_set hy with h1|h1
 ·exact h y h1
 rw [h1];exact hx
/-- within, with a method's value. -/
theorem lm {g:FuncId} (hgc:∀args w,(callFunc g args).run Tryz.prog w=.ok (.enter g args) w) (l:List Tok) (S:PS) (a:Int) (f:PS→Expr×PS) (o:Nat) (Hp:List AObj) (ho:Hp[o]? = some (pr l S)) (hi:S.i<l.length) (hnl:S.nest≤30) (hf:S.nest≠30→Cu l (S.nest+1) f) (hcf:S.nest≠30→PC g l f (S.nest+1)):
  ACall Tryz.prog 260 [.ptr o 0,A2 a,.fn (.func g) [.ptr o 0] []] Hp (fun r H'=>r=A4 (Bb a f S).1∧H'=Hp.set o (pr l (Bb a f S).2)):=by
 have hlt:=(List.getElem?_eq_some_iff.1 ho).1
 by_cases h30:S.nest=30
 ·refine (qj l S a g [.ptr o 0] [] Ab (Bu S) o Hp (Hp.set o (pr l (Bu S))) ho (by omega) hgc (by simp) (by simp [hlt]) rfl (fun h=>h) (fun h=>absurd h30 h)).mono fun r H' h=>?_
  have e:Bb a f S=(Ab,Cl 18 a S):=if_pos (by rw [h30];rfl)
  rw [e]
  exact h.1 h30
 have hq:=hf h30 (Bu S) hi rfl
 refine (qj l S a g [.ptr o 0] [] (f (Bu S)).1 (f (Bu S)).2 o Hp (Hp.set o (pr l (f (Bu S)).2)) ho (by omega) hgc (by simp) (by simp [hlt]) hq.nest (fun h y hy=>?_) (fun _ own=>?_)).mono fun r H' h=>?_
 ·rcases List.mem_or_eq_of_mem_set hy with h1|h1
  ·obtain ⟨i,hi',rfl⟩:=List.getElem_of_mem h1
   by_cases hio:i=o
   ·subst hio
    have:Hp[i]=pr l S:=by rw [List.getElem?_eq_getElem hi'] at ho;injection ho
    rw [this];exact Bp
   refine h _ ?_
   rw [List.mem_iff_getElem?]
   exact ⟨i,by rw [List.getElem?_set_ne (Ne.symm hio),List.getElem?_eq_getElem hi']⟩
  rw [h1];exact Bp
 ·have hg:(Hp.set o (pr l (Bu S))++own)[o]? = some (pr l (Bu S)):=A5 (by simp [hlt])
  refine (hcf h30 o (Hp.set o (pr l (Bu S))++own) (Bu S) hg hi rfl).mono fun r H' h=>⟨h.1,h.2.trans ?_⟩
  rw [List.set_append_left _ _ (by simpa using hlt),List.set_set]
 have e:Bb a f S=((f (Bu S)).1,S4 (f (Bu S)).2):=if_neg (by
  show ¬(((S.nest:Int)==30)=true)
  simp
  omega)
 rw [e]
 obtain ⟨h1,h2⟩:=h.2 h30
 exact ⟨h1,by rw [h2,List.set_set]⟩
theorem qn {g:FuncId} (hgc:∀args w,(callFunc g args).run Tryz.prog w=.ok (.enter g args) w) (l:List Tok) (S:PS) (of:Str) (hof:of.length≤1048576) (f:PS→Expr×PS) (o:Nat) (Hp:List AObj) (ho:Hp[o]? = some (pr l S)) (hi:S.i<l.length) (hl:TokEnd l) (hll:l.length≤1048576) (hf:Cu l S.nest f) (hcf:PC g l f S.nest):ACall Tryz.prog 238 [.ptr o 0,A6 of,.fn (.func g) [.ptr o 0] []] Hp (fun r H'=>r=A4 (E0 l of f S).1∧H'=Hp.set o (pr l (E0 l of f S).2)):=by
 have holt:=(List.getElem?_eq_some_iff.1 ho).1
 refine ACall.body [.cell 6 45] [0,1,2] Tryz.func238 Tryz.ntmps238 (fun d=>?_)
 refine Z32 ?_;refine Y4 ?_;refine Z2 ?_;refine R.callVUp hgc ho (by simp) Bp (hcf o _ S (A5 ho) hi rfl) ?_;refine Z20 ?_;refine R.fin [0,1,2,6,7] ?_;refine W.seq ?_
 refine AW.loopC (α:=Expr×PS) (fun r=>⟨32,A3 0 (.ptr o 0) (A3 1 (A6 of) (A3 2 (.fn (.func g) [.ptr o 0] []) (A3 6 (.ptr (oid Hp.length 0) 0) (A3 7 (.ptr (oid Hp.length 1) 0) (fun _=>.any))))),Hp.set o (pr l r.2),[.cells 45 [A2 0,A6 [],A2 0,A2 0,A6 [],.nil],.cells 45 (Bt r.1)],[],none⟩) (fun r=>LeftAt l of f S r) (fun r=>l.length-r.2.i) (f S) (.start (hf S hi rfl)) (StLe.of_eq (by simp)) rfl (fun r hx=>?_)
 refine Z57 ?_
 refine R.go (h:=Q.loadUp (getset ho)) (hr:=?_)
 refine Z27 ?_;refine G.call Tryz.call249 (fun hB=>Wd l r.2 of o _ (A5 (getset ho)) hx.fact.lt hl hof) ?_;refine R.go ?_;refine R.fin [0,1,2,6,7,21] ?_
 refine W.cond (fun ht21=>?_) (fun ht21=>?_)
 ·have hon:=hx.on hl ht21 hf
  have hle:=hon.2.1.le
  have hlt0:=hx.fact.lt
  have hU1:(Hp.set o (pr l r.2)).set o (pr l (Aa r.2))=Hp.set o (pr l (Aa r.2)):=List.set_set ..
  refine Z5 ?_;refine Fq ?_;refine Z2 ?_;refine R.callUp Tryz.call250 (getset ho) (by simp) Bp (ll l r.2 o _ (A5 (getset ho)) hx.fact.lt hll) ?_;refine Z20 ?_;refine R.fin [0,1,2,6,7,8] ?_;refine W.drawY0 [0,1,0,0,8,28,63,127] [4] [.q 4 [] [],.s [28] (some 0) [] [],.q 1 [0] []] (fun B=>Hp.set o (if B 0=true then pr l (f (Aa r.2)).2 else pr l (Aa r.2))) (fun _=>[.cells 45 [A2 0,A6 [],A2 0,A2 0,A6 [],.nil],.cells 45 (Bt r.1),.cells 125 [A2 (A7 l r.2.i).kind,A6 (A7 l r.2.i).text,A2 (A7 l r.2.i).at_]]) Ad (by kernel_rfl) (by simp [List.set_set]) rfl (fun B=>by simp) ?_
  apply Y.q
  case h1 =>
   intro B hT hF
   exact j9
  case hTF=>decide
  refine Y.callVUp (r:=A4 (f (Aa r.2)).1) (o:=o) (x0:=pr l (Aa r.2)) (x:=pr l (f (Aa r.2)).2) hgc (fun B hT hF hB=>⟨by simp only [hB];exact getset ho,by simp [upd],rfl,Bp,?_⟩) ?_
  ·simp only [hB]
   exact hcf o _ (Aa r.2) (A5 (getset ho)) hon.1 hx.fact.nest
  apply Y.q
  case h1 =>
   intro B hT hF
   exact Z50
  case hTF=>decide
  refine Y.tail (tn:=[4]) (U:=Hp.set o (pr l (f (Aa r.2)).2)) ?_;refine ec ?_;refine Fk ?_;refine R.fin [0,1,2,6,7] ?_;refine K.blN ?_
  refine K.lpN (H8 (A7 l r.2.i).text r.1 (f (Aa r.2)).1,(f (Aa r.2)).2) hon.2.2 (by show l.length-(f (Aa r.2)).2.i<l.length-r.2.i;have:r.2.i+1≤(f (Aa r.2)).2.i:=hle;omega) ?_
  simp only [fl]
  have hlow2:=fun n=>ql (n:=n) (A7 l r.2.i).text r.1 (f (Aa r.2)).1
  simp only [A8] at hlow2 ⊢
  exact StCut.take (fun _=>.refl _) (by repeat (first|exact Ar|refine Aq (by simp [oid]<;>omega) ?_)) (by intro y hy;rcases List.mem_cons.1 hy with rfl|hy;exact U7;rw [List.mem_singleton.1 hy];exact hlow2 _) (by simp)
 have hout:=hx.out (by rw [ht21];simp)
 refine Z47 ?_;refine Xv ?_;refine Z86 ?_;exact K.fin (V.one (V.cellN jA jS)) ⟨by rw [hout,A8],by rw [hout]⟩ (hlow:=by have:=Ac (Hp.set o (pr l r.2)).length r.1;rw [A8] at this;simpa using this)

theorem ABf (l:List Tok) (S:PS) (f:PS→Expr×PS) (o:Nat) (Hp:List AObj) (ho:Hp[o]? = some (pr l S)) (hi:S.i<l.length) (hl:TokEnd l) (hll:l.length≤1048576) (hf:Cu l S.nest f) (hcf:PC 239 l f S.nest):ACall Tryz.prog 219 [.ptr o 0] Hp (fun r H'=>r=A4 (E0 l orT f S).1∧H'=Hp.set o (pr l (E0 l orT f S).2)):=by
 refine ACall.body [.cell 2 45] [0] Tryz.func219 Tryz.ntmps219 (fun d=>?_)
 refine Z63 ?_;refine Z1 ?_;refine R.makeFunc ?_;refine R.callUp Tryz.call238 ho (by simp) Bp (qn Tryz.call239 l S orT (by decide) f o _ (A5 ho) hi hl hll hf hcf) ?_;refine Z13 ?_;exact K.fin (V.one (V.cellN jA jS)) ⟨by rw [A8],rfl⟩ (hlow:=by have:=Ac Hp.length (E0 l orT f S).1;rw [A8] at this;simpa using this)

theorem ABg (l:List Tok) (S:PS) (f:PS→Expr×PS) (o:Nat) (Hp:List AObj) (ho:Hp[o]? = some (pr l S)) (hi:S.i<l.length) (hl:TokEnd l) (hll:l.length≤1048576) (hf:Cu l S.nest f) (hcf:PC 251 l f S.nest):ACall Tryz.prog 239 [.ptr o 0] Hp (fun r H'=>r=A4 (E0 l ff f S).1∧H'=Hp.set o (pr l (E0 l ff f S).2)):=by
 refine ACall.body [.cell 2 45] [0] Tryz.func239 Tryz.ntmps239 (fun d=>?_)
 refine Z63 ?_;refine Z1 ?_;refine R.makeFunc ?_;refine R.callUp Tryz.call238 ho (by simp) Bp (qn Tryz.call251 l S ff (by decide) f o _ (A5 ho) hi hl hll hf hcf) ?_;refine Z13 ?_;exact K.fin (V.one (V.cellN jA jS)) ⟨by rw [A8],rfl⟩ (hlow:=by have:=Ac Hp.length (E0 l ff f S).1;rw [A8] at this;simpa using this)

theorem ABh (l:List Tok) (S:PS) (f:PS→Expr×PS) (o:Nat) (Hp:List AObj) (ho:Hp[o]? = some (pr l S)) (hi:S.i<l.length) (hl:TokEnd l) (hll:l.length≤1048576) (hf:Cu l S.nest f) (hcf:PC 263 l f S.nest):ACall Tryz.prog 262 [.ptr o 0] Hp (fun r H'=>r=A4 (E0 l fg f S).1∧H'=Hp.set o (pr l (E0 l fg f S).2)):=by
 refine ACall.body [.cell 2 45] [0] Tryz.func262 Tryz.ntmps262 (fun d=>?_)
 refine Z63 ?_;refine Z1 ?_;refine R.makeFunc ?_;refine R.callUp Tryz.call238 ho (by simp) Bp (qn Tryz.call263 l S fg (by decide) f o _ (A5 ho) hi hl hll hf hcf) ?_;refine Z13 ?_;exact K.fin (V.one (V.cellN jA jS)) ⟨by rw [A8],rfl⟩ (hlow:=by have:=Ac Hp.length (E0 l fg f S).1;rw [A8] at this;simpa using this)

theorem ABi (l:List Tok) (S:PS) (f:PS→Expr×PS) (o:Nat) (Hp:List AObj) (ho:Hp[o]? = some (pr l S)) (hi:S.i<l.length) (hl:TokEnd l) (hll:l.length≤1048576) (hf:Cu l S.nest f) (hcf:PC 264 l f S.nest):ACall Tryz.prog 263 [.ptr o 0] Hp (fun r H'=>r=A4 (E0 l S6 f S).1∧H'=Hp.set o (pr l (E0 l S6 f S).2)):=by
 refine ACall.body [.cell 2 45] [0] Tryz.func263 Tryz.ntmps263 (fun d=>?_)
 refine Z63 ?_;refine Z1 ?_;refine R.makeFunc ?_;refine R.callUp Tryz.call238 ho (by simp) Bp (qn Tryz.call264 l S S6 (by decide) f o _ (A5 ho) hi hl hll hf hcf) ?_;refine Z13 ?_;exact K.fin (V.one (V.cellN jA jS)) ⟨by rw [A8],rfl⟩ (hlow:=by have:=Ac Hp.length (E0 l S6 f S).1;rw [A8] at this;simpa using this)

/-- What is so of the functions one nest deeper. -/
structure DeepC (l:List Tok) (Dv:Fam) (n:Nat):Prop where
 ei:n≠30→Cu l (n+1) Dv.ei∧PC 219 l Dv.ei (n+1)
 no:n≠30→Cu l (n+1) Dv.no∧PC 251 l Dv.no (n+1)
 ne:n≠30→Cu l (n+1) Dv.ne∧PC 264 l Dv.ne (n+1)
theorem Oe (op:Int) (x:Expr):A4 (F3 op x)=.agg [A2 op,A6 [],A2 0,A2 0,A6 [],.slice false 6 [A4 x]]:=by rw [A8];rfl
theorem bf (t:Str) (a b:Expr):A4 (H8 t a b)=.agg [A2 5,.v (sv t),A2 0,A2 0,A6 [],.slice false 6 [A4 a,A4 b]]:=by rw [A8];rfl
theorem low_agg {n:Nat} (e:Expr):Low n (.agg [.v (.int .i64 e.op),.v (sv e.text),.v (.int .i64 e.val.kind),.v (.int .i64 e.val.n),.v (sv e.val.s),.slice false 6 (e.kids.map A4)]):=by
 have:=Ac n e
 rwa [A8] at this
theorem ABj (l:List Tok) (S:PS) (Dv:Fam) (o:Nat) (Hp:List AObj) (ho:Hp[o]? = some (pr l S)) (hi:S.i<l.length) (hl:TokEnd l) (hll:l.length≤1048576) (hnl:S.nest≤30) (hd:DeepC l Dv S.nest) (hc:PC 265 l (Ei l Dv) S.nest):ACall Tryz.prog 264 [.ptr o 0] Hp (fun r H'=>r=A4 (O9 l Dv S).1∧H'=Hp.set o (pr l (O9 l Dv S).2)):=by
 refine ACall.body [.cell 2 45] [0] Tryz.func264 Tryz.ntmps264 (fun d=>?_)
 refine Z63 ?_;refine Z31 ?_;refine R.call Tryz.call249 (Wd l S v6 o _ (A5 ho) hi hl (by decide)) ?_;refine R.go ?_;refine R.fin [0,2,6] ?_
 refine W.cond (fun ht6=>?_) (fun ht6=>?_)
 ·have e:O9 l Dv S=Ei l Dv S:=if_pos ht6
  refine Z2 ?_;refine R.callUp Tryz.call265 ho (by simp) Bp (hc o _ S (A5 ho) hi rfl) ?_;refine Z13 ?_;exact Z80
 have his:isM l v6 S=true:=by simpa using ht6
 have hi1:(Aa S).i<l.length:=hl.stepIs hi his
 have e:O9 l Dv S=(F3 3 (Bb (A7 l S.i).at_ Dv.ne (Aa S)).1,(Bb (A7 l S.i).at_ Dv.ne (Aa S)).2):=if_neg (by rw [ht6];simp)
 refine Z5 ?_;refine Z67 ?_;refine V4 ?_;refine Z41 ?_;refine R.makeFunc ?_;refine R.callUp Tryz.call260 (getset ho) (by simp) Bp (lm Tryz.call264 l (Aa S) (A7 l S.i).at_ Dv.ne o _ (A5 (getset ho)) hi1 hnl (fun h=>(hd.ne h).1) (fun h=>(hd.ne h).2)) ?_;refine Kg ?_;refine tg ?_;exact K.fin (V.one (V.cellN jA jS)) ⟨by rw [e,Oe];simp only [A8],by rw [e,List.set_set]⟩ (hlow:=by have:=Ac Hp.length (F3 3 (Bb (A7 l S.i).at_ Dv.ne (Aa S)).1);rw [Oe] at this;simp only [A8] at this;simpa only [List.length_set] using this)

theorem ABk (l:List Tok) (S:PS) (Dv:Fam) (o:Nat) (Hp:List AObj) (ho:Hp[o]? = some (pr l S)) (hi:S.i<l.length) (hl:TokEnd l) (hll:l.length≤1048576) (hnl:S.nest≤30) (hd:DeepC l Dv S.nest) (hc:PC 259 l (Ds l Dv) S.nest):ACall Tryz.prog 251 [.ptr o 0] Hp (fun r H'=>r=A4 (Oa l Dv S).1∧H'=Hp.set o (pr l (Oa l Dv S).2)):=by
 refine ACall.body [.cell 2 45] [0] Tryz.func251 Tryz.ntmps251 (fun d=>?_)
 refine Z63 ?_;refine Z31 ?_;refine R.call Tryz.call249 (Wd l S uz o _ (A5 ho) hi hl (by decide)) ?_;refine R.go ?_;refine R.fin [0,2,6] ?_
 refine W.cond (fun ht6=>?_) (fun ht6=>?_)
 ·have e:Oa l Dv S=Ds l Dv S:=if_pos ht6
  refine Z2 ?_;refine R.callUp Tryz.call259 ho (by simp) Bp (hc o _ S (A5 ho) hi rfl) ?_;refine Z13 ?_;exact Z80
 have his:isM l uz S=true:=by simpa using ht6
 have hi1:(Aa S).i<l.length:=hl.stepIs hi his
 have e:Oa l Dv S=(F3 4 (Bb (A7 l S.i).at_ Dv.no (Aa S)).1,(Bb (A7 l S.i).at_ Dv.no (Aa S)).2):=if_neg (by rw [ht6];simp)
 refine Z5 ?_;refine Z67 ?_;refine V4 ?_;refine Z41 ?_;refine R.makeFunc ?_;refine R.callUp Tryz.call260 (getset ho) (by simp) Bp (lm Tryz.call251 l (Aa S) (A7 l S.i).at_ Dv.no o _ (A5 (getset ho)) hi1 hnl (fun h=>(hd.no h).1) (fun h=>(hd.no h).2)) ?_;refine Kg ?_;refine tg ?_;exact K.fin (V.one (V.cellN jA jS)) ⟨by rw [e,Oe];simp only [A8],by rw [e,List.set_set]⟩ (hlow:=by have:=Ac Hp.length (F3 4 (Bb (A7 l S.i).at_ Dv.no (Aa S)).1);rw [Oe] at this;simp only [A8] at this;simpa only [List.length_set] using this)

theorem ABl (l:List Tok) (S:PS) (Dv:Fam) (o:Nat) (Hp:List AObj) (ho:Hp[o]? = some (pr l S)) (hi:S.i<l.length) (hl:TokEnd l) (hll:l.length≤1048576) (hnl:S.nest≤30) (hd:DeepC l Dv S.nest) (hg:Cu l S.nest (Ct l Dv)) (hc:PC 262 l (Ct l Dv) S.nest):ACall Tryz.prog 259 [.ptr o 0] Hp (fun r H'=>r=A4 (Ds l Dv S).1∧H'=Hp.set o (pr l (Ds l Dv S).2)):=by
 have hq:=hg S hi rfl
 refine ACall.body [.cell 2 45] [0] Tryz.func259 Tryz.ntmps259 (fun d=>?_)
 refine Z63 ?_;refine Z2 ?_;refine R.callUp Tryz.call262 ho (by simp) Bp (hc o _ S (A5 ho) hi rfl) ?_;refine V4 ?_;refine Z57 ?_
 refine R.go (h:=Q.loadUp (getset ho)) (hr:=?_)
 refine Jc ?_;refine G.call Tryz.call249 (fun hB=>Wd l (Ct l Dv S).2 qh o _ (A5 (getset ho)) hq.lt hl (by decide)) ?_;refine Z66 ?_;refine R.fin [0,2,3,17] ?_
 refine W.cond (fun ht17=>?_) (fun ht17=>?_)
 ·have e:Ds l Dv S=Ct l Dv S:=if_pos ht17
  refine Z2 ?_;refine Z13 ?_;exact Z80
 have his:isM l qh (Ct l Dv S).2=true:=by
  have:=ht17
  simp only [Bool.or_eq_false_iff,Bool.not_eq_false'] at this
  exact this.2
 have hi1:(Aa (Ct l Dv S).2).i<l.length:=hl.stepIs hq.lt his
 have e:Ds l Dv S=(H8 (A7 l (Ct l Dv S).2.i).text (Ct l Dv S).1 (Ct l Dv (Aa (Ct l Dv S).2)).1,(Ct l Dv (Aa (Ct l Dv S).2)).2):=if_neg (by rw [ht17];simp)
 refine Kf ?_;refine R.callUp Tryz.call250 (getset ho) (by simp) Bp (ll l (Ct l Dv S).2 o _ (A5 (getset ho)) hq.lt hll) ?_;refine Z20 ?_;refine R.fin [0,2,3,4] ?_;refine W.drawY [0,1,0,0,8,28,63,127] [4] [.q 4 [] [],.s [25] (some 0) [] [],.q 1 [0] []] (fun B=>Hp.set o (if B 0=true then pr l (Ct l Dv (Aa (Ct l Dv S).2)).2 else pr l (Aa (Ct l Dv S).2))) (fun _=>[.cells 45 [A2 0,A6 [],A2 0,A2 0,A6 [],.nil],.cells 45 (Bt (Ct l Dv S).1),.cells 125 [A2 (A7 l (Ct l Dv S).2.i).kind,A6 (A7 l (Ct l Dv S).2.i).text,A2 (A7 l (Ct l Dv S).2.i).at_]]) Ad (by kernel_rfl) (by simp [List.set_set]) rfl (fun B=>by simp) ?_
 apply Y.q
 case h1 =>
  intro B hT hF
  exact j9
 case hTF=>decide
 refine Y.callUp (r:=A4 (Ct l Dv (Aa (Ct l Dv S).2)).1) (o:=o) (x0:=pr l (Aa (Ct l Dv S).2)) (x:=pr l (Ct l Dv (Aa (Ct l Dv S).2)).2) Tryz.call262 (fun B hT hF hB=>⟨by simp only [hB];exact getset ho,by simp [upd],rfl,Bp,?_⟩) ?_
 ·simp only [hB]
  exact hc o _ (Aa (Ct l Dv S).2) (A5 (getset ho)) hi1 hq.nest
 apply Y.q
 case h1 =>
  intro B hT hF
  exact Z50
 case hTF=>decide
 refine Y.tail (tn:=[4]) (U:=Hp.set o (pr l (Ct l Dv (Aa (Ct l Dv S).2)).2)) ?_;refine tg ?_;exact K.fin (V.one (V.cellN jA jS)) ⟨by rw [e,bf];simp only [A8],by rw [e]⟩ (hlow:=by have:=Ac Hp.length (H8 (A7 l (Ct l Dv S).2.i).text (Ct l Dv S).1 (Ct l Dv (Aa (Ct l Dv S).2)).1);rw [bf] at this;simp only [A8] at this;simpa only [List.length_set] using this)

/-- The contract of the parser of calls. -/
def We (l:List Tok) (Dv:Fam) (n:Nat):Prop:=∀(o:Nat) (Hp:List AObj) (S:PS) (t:Tok),Hp[o]? = some (pr l S)→(Aa S).i<l.length→S.nest=n→t.text.length≤1048576→isM l opT S=true→ACall Tryz.prog 267 [.ptr o 0,H5 t] Hp (fun r H'=>r=A4 (Fm l Dv t S).1∧H'=Hp.set o (pr l (Fm l Dv t S).2))
theorem ln:A4 Ab=.agg [A2 0,A6 [],A2 0,A2 0,A6 [],.slice false 6 []]:=by rw [A8];rfl
theorem ABm (l:List Tok) (S:PS) (Dv:Fam) (o:Nat) (Hp:List AObj) (ho:Hp[o]? = some (pr l S)) (hi:S.i<l.length) (hl:TokEnd l) (hll:l.length≤1048576) (hnl:S.nest≤30) (hd:DeepC l Dv S.nest) (hcl:We l Dv S.nest):ACall Tryz.prog 265 [.ptr o 0] Hp (fun r H'=>r=A4 (Ei l Dv S).1∧H'=Hp.set o (pr l (Ei l Dv S).2)):=by
 refine ACall.body [.cell 2 45] [0] Tryz.func265 Tryz.ntmps265 (fun d=>?_)
 refine Z63 ?_;refine tw ?_;refine V4 ?_;refine Z57 ?_
 refine R.go (h:=Q.loadUp ho) (hr:=?_)
 refine R.go ?_;refine R.fin [0,2,3,14] ?_
 refine W.cond (fun ht14=>?_) (fun ht14=>?_)
 ·have e:Ei l Dv S=(Ab,S):=if_pos ht14
  refine Z38 ?_;refine R.wk 15 _ Q5 ?_;refine Z13 ?_;refine K.thR ?_;exact K.fin (V.one (V.cellN jA jS)) ⟨by rw [e,A8],by rw [e];exact (Ek ho).symm⟩ (hlow:=by have:=Ac Hp.length (Ab);simpa only [A8,List.length_set] using this)
 have e0:¬(S.code != 0)=true:=by rw [ht14];simp
 refine Z43 ?_;refine Z41 ?_;refine G.go ?_;refine G.call Tryz.call249 (fun hB=>Wd l S v7 o _ (A5 ho) hi hl (by decide)) ?_;refine Z0 ?_;refine R.fin [0,2,3,16] ?_
 refine W.cond (fun ht16=>?_) (fun ht16=>?_)
 ·have e:Ei l Dv S=(Iu (F9 (A7 l S.i).text).1,Aa S):=by unfold Ei;rw [if_neg e0,if_pos ht16]
  refine Z67 ?_;refine R.go ?_;refine R.call Tryz.call175 (c175 (A7 l S.i).text (hl.text _) _) ?_;refine Xz ?_;refine R.fin [2,4] ?_;refine Z2 ?_;refine R.call Tryz.call266 (zg (F9 (A7 l S.i).text).1 _) ?_;refine Z13 ?_;refine Z6 ?_;exact K.fin (V.one (V.cellN jA jS)) ⟨by rw [e,A8],by rw [e]⟩ (hlow:=by have:=Ac Hp.length (Iu (F9 (A7 l S.i).text).1);simpa only [A8,List.length_set] using this)
 have e1:¬(((A7 l S.i).kind==3) || isM l v7 S)=true:=by rw [ht16];simp
 refine Z41 ?_;refine R.fin [0,2,3,33] ?_
 refine W.cond (fun ht33=>?_) (fun ht33=>?_)
 ·have e:Ei l Dv S=(Iu ⟨2,0,(A7 l S.i).text.take 200⟩,Aa S):=by unfold Ei;rw [if_neg e0,if_neg e1,if_pos ht33]
  refine Z67 ?_;refine R.go ?_;refine R.call Tryz.call213 (c213 (A7 l S.i).text _) ?_;refine R.call Tryz.call266 (zg ⟨2,0,(A7 l S.i).text.take 200⟩ _) ?_;refine Z13 ?_;refine Z6 ?_;exact K.fin (V.one (V.cellN jA jS)) ⟨by rw [e,A8],by rw [e]⟩ (hlow:=by have:=Ac Hp.length (Iu ⟨2,0,(A7 l S.i).text.take 200⟩);simpa only [A8,List.length_set] using this)
 have e2:¬((A7 l S.i).kind==4)=true:=by rw [ht33];simp
 refine Z41 ?_;refine R.fin [0,2,3,42] ?_
 refine W.cond (fun ht42=>?_) (fun ht42=>?_)
 ·have hi1:(Aa S).i<l.length:=hl.step hi (by rw [beq_iff_eq] at ht42;rw [ht42];decide)
  refine Z67 ?_;refine R.fin [0,2,3] ?_;refine Z31 ?_;refine R.call Tryz.call249 (Wd l (Aa S) opT o _ (A5 (getset ho)) hi1 hl (by decide)) ?_;refine R.fin [0,2,3,49] ?_
  refine W.cond (fun ht49=>?_) (fun ht49=>?_)
  ·have e:Ei l Dv S=Fm l Dv (A7 l S.i) (Aa S):=by unfold Ei;rw [if_neg e0,if_neg e1,if_neg e2,if_pos ht42,if_pos ht49]
   have hi2:(Aa (Aa S)).i<l.length:=hl.stepIs hi1 ht49
   refine Z1 ?_;refine R.callUp Tryz.call267 (getset ho) (by simp) Bp (hcl o _ (Aa S) (A7 l S.i) (A5 (getset ho)) hi2 rfl (hl.text _) ht49) ?_;refine Z13 ?_;refine K.thR ?_;refine Z6 ?_;exact K.fin (V.one (V.cellN jA jS)) ⟨by rw [e,A8],by rw [e,List.set_set]⟩ (hlow:=by have:=Ac Hp.length ((Fm l Dv (A7 l S.i) (Aa S)).1);simpa only [A8,List.length_set] using this)
  have e:Ei l Dv S=(Bd (A7 l S.i).text,Aa S):=by unfold Ei;rw [if_neg e0,if_neg e1,if_neg e2,if_pos ht42,if_neg (by rw [ht49];simp)]
  refine Z5 ?_;refine td ?_;refine R.wk 55 _ (Vq _) ?_;refine Z13 ?_;refine Z6 ?_;exact K.fin (V.one (V.cellN jA jS)) ⟨by rw [e,A8],by rw [e]⟩ (hlow:=by have:=Ac Hp.length (Bd (A7 l S.i).text);simpa only [A8,List.length_set] using this)
 have e3:¬((A7 l S.i).kind==1)=true:=by rw [ht42];simp
 refine Z2 ?_;refine R.call Tryz.call249 (Wd l S opT o _ (A5 ho) hi hl (by decide)) ?_;refine R.go ?_;refine R.fin [0,2,3,56] ?_
 refine W.cond (fun ht56=>?_) (fun ht56=>?_)
 ·have e:Ei l Dv S=((Bb (A7 l S.i).at_ Dv.ei (Aa S)).1,Dr l Dm (Bb (A7 l S.i).at_ Dv.ei (Aa S)).2):=by unfold Ei;rw [if_neg e0,if_neg e1,if_neg e2,if_neg e3,if_pos ht56]
  have hi1:(Aa S).i<l.length:=hl.stepIs hi ht56
  have hwf:=Gq (S:=Aa S) (l:=l) (f:=Dv.ei) (A7 l S.i).at_ hi1 (fun h=>(hd.ei h).1)
  refine Z67 ?_;refine R.fin [0,2,3] ?_;refine Z41 ?_;refine R.makeFunc ?_;refine R.callUp Tryz.call260 (getset ho) (by simp) Bp (lm Tryz.call219 l (Aa S) (A7 l S.i).at_ Dv.ei o _ (A5 (getset ho)) hi1 hnl (fun h=>(hd.ei h).1) (fun h=>(hd.ei h).2)) ?_;refine Z20 ?_;refine R.fin [0,2,6] ?_;refine Z2 ?_;refine R.callUp Tryz.call268 (getset (getset ho)) (by simp) Bp (zh l (Bb (A7 l S.i).at_ Dv.ei (Aa S)).2 Dm o _ (A5 (getset (getset ho))) hwf.lt hll) ?_;refine R.fin [2,6] ?_;refine Z2 ?_;refine Z13 ?_;refine Z6 ?_;exact K.fin (V.one (V.cellN jA jS)) ⟨by rw [e,A8],by rw [e,List.set_set,List.set_set]⟩ (hlow:=by have:=Ac Hp.length ((Bb (A7 l S.i).at_ Dv.ei (Aa S)).1);simpa only [A8,List.length_set] using this)
 have e:Ei l Dv S=(Ab,Cl 8 (A7 l S.i).at_ S):=by unfold Ei;rw [if_neg e0,if_neg e1,if_neg e2,if_neg e3,if_neg (by rw [ht56];simp)]
 refine Z16 ?_;refine xg ?_;refine Z13 ?_;exact K.fin (V.one (V.cellN jA jS)) ⟨by rw [e,A8],by rw [e]⟩ (hlow:=by have:=Ac Hp.length (Ab);simpa only [A8,List.length_set] using this)

theorem qo {l:List Tok} (hl:TokEnd l) (hll:l.length≤1048576) {d n:Nat} (h:n+(d+1)=31) (hp:n≠30→PC 219 l (Dn l d).ei (n+1)∧PC 251 l (Dn l d).no (n+1)∧PC 264 l (Dn l d).ne (n+1)):DeepC l (Dn l d) n:=by
 have g:n≠30→_:=fun h30=>Mw hl hll d (n+1) (by omega) (by omega)
 exact ⟨fun h=>⟨(g h).1,(hp h).1⟩,fun h=>⟨(g h).2.1,(hp h).2.1⟩,fun h=>⟨(g h).2.2,(hp h).2.2⟩⟩
/-- All functions of the parser. -/
theorem Wf {l:List Tok} (hl:TokEnd l) (hll:l.length≤1048576) (hcl:∀n Dv,n≤30→DeepC l Dv n→We l Dv n):∀(d n:Nat),n+d=31→n≤30→PC 219 l (Dn l d).ei n∧PC 251 l (Dn l d).no n∧PC 264 l (Dn l d).ne n
 | 0,n,h,hn=>by omega
 | d+1,n,h,hn=>by
  have hd:DeepC l (Dn l d) n:=qo hl hll h (fun h30=>Wf hl hll hcl d (n+1) (by omega) (by omega))
  have g1:Cu l n (O9 l (Dn l d)):=Mv hl hll (fun h=>(hd.ei h).1) (fun h=>(hd.ne h).1)
  have g2:Cu l n (W7 l (Dn l d)):=Ew hl g1
  have g3:Cu l n (Ct l (Dn l d)):=Ew hl g2
  have g4:Cu l n (Ds l (Dn l d)):=Kn hl hll (fun h=>(hd.ei h).1) (fun h=>(hd.ne h).1)
  have g5:Cu l n (Oa l (Dn l d)):=S9 hl hll (fun h=>(hd.ei h).1) (fun h=>(hd.ne h).1) (fun h=>(hd.no h).1)
  have g6:Cu l n (W8 l (Dn l d)):=Ew hl g5
  have p0:PC 265 l (Ei l (Dn l d)) n:=fun o Hp S ho hi hS=>by
   subst hS
   exact ABm l S (Dn l d) o Hp ho hi hl hll hn hd (hcl _ _ hn hd)
  have p1:PC 264 l (O9 l (Dn l d)) n:=fun o Hp S ho hi hS=>by
   subst hS
   exact ABj l S (Dn l d) o Hp ho hi hl hll hn hd p0
  have p2:PC 263 l (W7 l (Dn l d)) n:=fun o Hp S ho hi hS=>by
   subst hS
   exact ABi l S (O9 l (Dn l d)) o Hp ho hi hl hll g1 p1
  have p3:PC 262 l (Ct l (Dn l d)) n:=fun o Hp S ho hi hS=>by
   subst hS
   exact ABh l S (W7 l (Dn l d)) o Hp ho hi hl hll g2 p2
  have p4:PC 259 l (Ds l (Dn l d)) n:=fun o Hp S ho hi hS=>by
   subst hS
   exact ABl l S (Dn l d) o Hp ho hi hl hll hn hd g3 p3
  have p5:PC 251 l (Oa l (Dn l d)) n:=fun o Hp S ho hi hS=>by
   subst hS
   exact ABk l S (Dn l d) o Hp ho hi hl hll hn hd p4
  have p6:PC 239 l (W8 l (Dn l d)) n:=fun o Hp S ho hi hS=>by
   subst hS
   exact ABg l S (Oa l (Dn l d)) o Hp ho hi hl hll g5 p5
  have p7:PC 219 l (Od l (Dn l d)) n:=fun o Hp S ho hi hS=>by
   subst hS
   exact ABf l S (W8 l (Dn l d)) o Hp ho hi hl hll g6 p6
  exact ⟨p7,p5,p1⟩
theorem Sa:∀(n:Nat) (e:Expr),okE n e→depthE e≤n
 | 0,_,h=>h.elim
 | n+1,e,h=>by
  rw [Ka]
  have:∀l:List Expr,(∀y∈l,okE n y)→Cf l≤n:=by
   intro l
   induction l with
   | nil=>intro _;exact Nat.zero_le _
   | cons y r ih =>
    intro hl
    rw [Cf]
    have h1:=Sa n y (hl y (by simp))
    have h2:=ih (fun z hz=>hl z (by simp [hz]))
    omega
  have:=this e.kids h.2.2
  omega
theorem lq (e:Expr) (x:Nat):B1 (e.kids.take x)+1≤sizeE e:=by
 rw [H6]
 have:∀(l:List Expr) (x:Nat),B1 (l.take x)≤B1 l:=by
  intro l
  induction l with
  | nil=>intro x;simp
  | cons y r ih =>
   intro x
   cases x with
   | zero=>simp [B1]
   | succ x =>
    have:=ih x
    rw [List.take_succ_cons,B1,B1]
    omega
 have:=this e.kids x
 omega
theorem c78:∀(n:Nat) (e:Expr),okE n e→n≤1048576→∀Hp:List AObj,AFun Tryz.prog 78 [A4 e] Hp (A2 (depthE e:Nat)):=by
 intro n
 induction n with
 | zero=>exact fun e h=>h.elim
 | succ n ih =>
 intro e hok hn Hp
 refine ACall.body [.tmp 2] [0] Tryz.func78 Tryz.ntmps78 (fun d=>?_)
 refine Y2 ?_;refine R.fin [1,3] ?_;refine Z31 ?_;refine Tq ?_
 refine AW.loopC (α:=Nat) (fun x=>⟨25,A3 1 (.ro (Bt e)) (A3 3 (A2 (Cf (e.kids.take x):Nat)) (A3 4 (A2 (x:Nat)) (fun _=>.any))),Hp,[],[],none⟩) (fun x=>x≤e.kids.length) (fun x=>e.kids.length-x) (0) (Nat.zero_le _) (StLe.of_eq (by simp [Cf])) rfl (fun x hx=>?_)
 refine P1 ?_;refine R.fin [1,3,4,10] ?_
 refine W.cond (fun ht10=>?_) (fun ht10=>?_)
 ·have hlt:x<e.kids.length:=by simpa using ht10
  have hkl:=hok.2.1
  refine Tl ?_
  refine R.go (h:=Q.indexAddr (x) (A4 e.kids[x]) (fun _=>Ae hlt)) (hr:=?_)
  refine R.go ?_;refine R.call Tryz.call78 (ih e.kids[x] (hok.2.2 _ (List.getElem_mem hlt)) (by omega) _) ?_;refine R.go ?_;refine R.fin [1,3,4,5] ?_;refine Z17 ?_;refine R.fin [1,3,4,5,21] ?_
  refine W.cond (fun ht21=>?_) (fun ht21=>?_)
  ·have em:Cf (e.kids.take (x+1))=depthE e.kids[x]:=by rw [Nk _ hlt];have:=of_decide_eq_true ht21;omega
   refine Z11 ?_;refine Tq ?_;refine P0 ?_;exact wx
  have em:Cf (e.kids.take (x+1))=Cf (e.kids.take x):=by rw [Nk _ hlt];have:=of_decide_eq_false ht21;omega
  refine Z64 ?_;exact wx
 have hd1:=Sa _ e hok
 have hxe:e.kids.take x=e.kids:=List.take_of_length_le (by simp at ht10;omega)
 have hdd:=Ka e
 refine Z47 ?_;refine Z2 ?_
 rw [hxe]
 refine Z39 ?_;exact K.fin (V.one V.tmp) ⟨by rw [hdd];rfl,rfl⟩

theorem c22:∀(n:Nat) (e:Expr),okE n e→sizeE e≤1048576→∀Hp:List AObj,AFun Tryz.prog 22 [A4 e] Hp (A2 (sizeE e:Nat)):=by
 intro n
 induction n with
 | zero=>exact fun e h=>h.elim
 | succ n ih =>
 intro e hok hn Hp
 refine ACall.body [.tmp 2] [0] Tryz.func22 Tryz.ntmps22 (fun d=>?_)
 refine Y2 ?_;refine R.fin [1,3] ?_;refine Z31 ?_;refine Tq ?_
 refine AW.loopC (α:=Nat) (fun x=>⟨21,A3 1 (.ro (Bt e)) (A3 3 (A2 ((B1 (e.kids.take x):Nat)+1)) (A3 4 (A2 (x:Nat)) (fun _=>.any))),Hp,[],[],none⟩) (fun x=>x≤e.kids.length) (fun x=>e.kids.length-x) (0) (Nat.zero_le _) (StLe.of_eq (by simp [B1])) rfl (fun x hx=>?_)
 refine P1 ?_;refine R.fin [1,3,4,9] ?_
 refine W.cond (fun ht9=>?_) (fun ht9=>?_)
 ·have hlt:x<e.kids.length:=by simpa using ht9
  have hkl:=hok.2.1
  have hs1:=Yt e.kids hlt
  have hs2:=lq e (x+1)
  refine Z43 ?_;refine Z11 ?_;refine Z0 ?_
  refine R.go (h:=Q.indexAddr (x) (A4 e.kids[x]) (fun _=>Ae hlt)) (hr:=?_)
  refine R.go ?_
  refine R.call Tryz.call22 (ih e.kids[x] (hok.2.2 _ (List.getElem_mem hlt)) (by have:=Vn e hlt;omega) _) ?_
  refine Z0 ?_;refine Tq ?_;refine P0 ?_;refine Tq ?_;exact K.lpN (x+1) hlt (by omega) (StCut.of_eq (by simp only [hs1];congr 4;simp only [AV.v.injEq,Value.int.injEq,true_and];omega))
 have hxe:e.kids.take x=e.kids:=List.take_of_length_le (by simp at ht9;omega)
 have hdd:=H6 e
 refine Z47 ?_;refine Y1 ?_;exact K.fin (V.one V.tmp) ⟨by rw [hxe,hdd];simp;omega,rfl⟩

def Mx (s:Str):Int:=if (((s==[108,101,110]) || (s==[115,116,114])) || (s==[110,117,109])) || (s==[105,115,110,117,108,108]) then 1 else if ((s==[110,118,108]) || (s==[108,101,102,116])) || (s==[114,105,103,104,116]) then 2 else if s==[105,102] then 3 else -1
theorem fm (s:Str):B2 s=Mx s:=by
 by_cases h:s∈arityList.map (·.1)
 ·have:((arityList.map (·.1)).all fun s=>decide (B2 s=Mx s))=true:=by kernel_rfl
  exact of_decide_eq_true (List.all_eq_true.1 this s h)
 have h1:B2 s = -1:=by
  unfold B2
  rw [List.find?_eq_none.2 fun p hp=>by
   simp only [beq_iff_eq]
   rintro rfl
   exact h (List.mem_map.2 ⟨p,hp,rfl⟩)]
 rw [h1]
 simp only [arityList,List.map_cons,List.map_nil,List.mem_cons,List.not_mem_nil,or_false,not_or] at h
 obtain ⟨a1,a2,a3,a4,a5,a6,a7,a8⟩:=h
 simp [Mx,a1,a2,a3,a4,a5,a6,a7,a8]
theorem zi (s:Str) (Hp:List AObj):AFun Tryz.prog 146 [A6 s] Hp (A2 (Mx s)):=by
 refine ACall.body [.tmp 2] [0] Tryz.func146 Tryz.ntmps146 (fun d=>?_)
 refine Z40 ?_;refine Z31 ?_;refine R.fin [3] ?_;refine Fq ?_;refine Z8 ?_;refine R.fin [3,4] ?_
 refine W.cond (fun ht4=>?_) (fun ht4=>?_)
 ·refine Z5 ?_
  refine W.cond (fun ht4=>?_) (fun ht4=>?_)
  ·exact Z54
  refine Z8 ?_;refine R.fin [3,9] ?_
  refine W.cond (fun ht9=>?_) (fun ht9=>?_)
  ·refine Z5 ?_
   refine W.cond (fun ht9=>?_) (fun ht9=>?_)
   ·exact Z54
   refine O1 ?_
   refine W.cond (fun ht13=>?_) (fun ht13=>?_)
   ·exact Z54
   exact O3
  refine Z1 ?_;refine R.fin [3,9] ?_
  refine W.cond (fun ht9=>?_) (fun ht9=>?_)
  ·refine Z5 ?_
   refine W.cond (fun ht9=>?_) (fun ht9=>?_)
   ·exact Z54
   refine O1 ?_
   refine W.cond (fun ht13=>?_) (fun ht13=>?_)
   ·exact Z54
   exact O3
  refine Z11 ?_;refine ov ?_
  refine W.cond (fun ht9=>?_) (fun ht9=>?_)
  ·exact Z54
  refine O1 ?_
  refine W.cond (fun ht13=>?_) (fun ht13=>?_)
  ·exact Z54
  exact O3
 refine Z1 ?_;refine R.fin [3,4] ?_
 refine W.cond (fun ht4=>?_) (fun ht4=>?_)
 ·refine Z5 ?_
  refine W.cond (fun ht4=>?_) (fun ht4=>?_)
  ·exact Z54
  refine Z8 ?_;refine R.fin [3,9] ?_
  refine W.cond (fun ht9=>?_) (fun ht9=>?_)
  ·refine Z5 ?_
   refine W.cond (fun ht9=>?_) (fun ht9=>?_)
   ·exact Z54
   refine O1 ?_
   refine W.cond (fun ht13=>?_) (fun ht13=>?_)
   ·exact Z54
   exact O3
  refine Z1 ?_;refine R.fin [3,9] ?_
  refine W.cond (fun ht9=>?_) (fun ht9=>?_)
  ·refine Z5 ?_
   refine W.cond (fun ht9=>?_) (fun ht9=>?_)
   ·exact Z54
   refine O1 ?_
   refine W.cond (fun ht13=>?_) (fun ht13=>?_)
   ·exact Z54
   exact O3
  refine Z11 ?_;refine ov ?_
  refine W.cond (fun ht9=>?_) (fun ht9=>?_)
  ·exact Z54
  refine O1 ?_
  refine W.cond (fun ht13=>?_) (fun ht13=>?_)
  ·exact Z54
  exact O3
 refine Z1 ?_;refine R.fin [3,4] ?_
 refine W.cond (fun ht4=>?_) (fun ht4=>?_)
 ·refine Z5 ?_
  refine W.cond (fun ht4=>?_) (fun ht4=>?_)
  ·exact Z54
  refine Z8 ?_;refine R.fin [3,9] ?_
  refine W.cond (fun ht9=>?_) (fun ht9=>?_)
  ·refine Z5 ?_
   refine W.cond (fun ht9=>?_) (fun ht9=>?_)
   ·exact Z54
   refine O1 ?_
   refine W.cond (fun ht13=>?_) (fun ht13=>?_)
   ·exact Z54
   exact O3
  refine Z1 ?_;refine R.fin [3,9] ?_
  refine W.cond (fun ht9=>?_) (fun ht9=>?_)
  ·refine Z5 ?_
   refine W.cond (fun ht9=>?_) (fun ht9=>?_)
   ·exact Z54
   refine O1 ?_
   refine W.cond (fun ht13=>?_) (fun ht13=>?_)
   ·exact Z54
   exact O3
  refine Z11 ?_;refine ov ?_
  refine W.cond (fun ht9=>?_) (fun ht9=>?_)
  ·exact Z54
  refine O1 ?_
  refine W.cond (fun ht13=>?_) (fun ht13=>?_)
  ·exact Z54
  exact O3
 refine Z11 ?_;refine R.fin [3,4] ?_;refine K.thN ?_
 refine W.cond (fun ht4=>?_) (fun ht4=>?_)
 ·exact Z54
 refine Z8 ?_;refine R.fin [3,9] ?_
 refine W.cond (fun ht9=>?_) (fun ht9=>?_)
 ·refine Z5 ?_
  refine W.cond (fun ht9=>?_) (fun ht9=>?_)
  ·exact Z54
  refine O1 ?_
  refine W.cond (fun ht13=>?_) (fun ht13=>?_)
  ·exact Z54
  exact O3
 refine Z1 ?_;refine R.fin [3,9] ?_
 refine W.cond (fun ht9=>?_) (fun ht9=>?_)
 ·refine Z5 ?_
  refine W.cond (fun ht9=>?_) (fun ht9=>?_)
  ·exact Z54
  refine O1 ?_
  refine W.cond (fun ht13=>?_) (fun ht13=>?_)
  ·exact Z54
  exact O3
 refine Z11 ?_;refine ov ?_
 refine W.cond (fun ht9=>?_) (fun ht9=>?_)
 ·exact Z54
 refine O1 ?_
 refine W.cond (fun ht13=>?_) (fun ht13=>?_)
 ·exact Z54
 exact O3

theorem lr {s:Str} {x:Nat} (hx:x<levels.length) (h:levels[x].contains s=true) (h0:∀(j:Nat) (l:List Str),j<x→levels[j]? = some l→l.contains s=false):An s=(x:Int):=by
 unfold An
 rw [List.findIdx?_eq_some_iff_getElem.2 ⟨hx,h,fun j hj=>by
  have e:=h0 j levels[j] hj (List.getElem?_eq_getElem _)
  show ¬(levels[j].contains s=true)
  rw [e]
  simp⟩]
theorem ls {s:Str} (h0:∀(j:Nat) (l:List Str),j<levels.length→levels[j]? = some l→l.contains s=false):An s = -1:=by
 unfold An
 rw [List.findIdx?_eq_none_iff.2 fun l hl=>by
  obtain ⟨j,hj⟩:=List.getElem?_of_mem hl
  exact h0 j l (List.getElem?_eq_some_iff.1 hj).1 hj]
theorem Zk:levels.length=6:=rfl
theorem U8 {x:Nat} (hx:x<levels.length):levels[x].length≤6:=by
 have:(levels.all fun l=>decide (l.length≤6))=true:=by kernel_rfl
 exact of_decide_eq_true (List.all_eq_true.1 this _ (List.getElem_mem hx))
theorem R8 {l:List Str} {s:Str} (h:∀(j:Nat) (w:Str),j<l.length→l[j]? = some w→(w==s)=false):l.contains s=false:=by
 rw [Bool.eq_false_iff]
 intro hc
 have hm:s∈l:=by simpa using hc
 obtain ⟨j,hj⟩:=List.getElem?_of_mem hm
 have:=h j s (List.getElem?_eq_some_iff.1 hj).1 hj
 simp at this
theorem c145 (s:Str) (Hp:List AObj):AFun Tryz.prog 145 [A6 s] Hp (A2 (An s)):=by
 refine ACall.body [.tmp 2] [0] Tryz.func145 Tryz.ntmps145 (fun d=>?_)
 refine Z40 ?_;refine Xs ?_;refine ua ?_;refine ua ?_;refine ua ?_;refine Ic ?_;refine It ?_;refine Z31 ?_;refine To ?_
 refine AW.loopC (α:=Nat) (fun x=>⟨38,A3 0 (A6 s) (A3 3 (.slice true 1 (levels.map D6)) (A3 4 (A2 (x:Nat)) (fun _=>.any))),Hp,[],[],none⟩) (fun x=>x≤levels.length∧∀(j:Nat) (l:List Str),j<x→levels[j]? = some l→l.contains s=false) (fun x=>levels.length-x) (0) ⟨Nat.zero_le _,fun j l h=>by omega⟩ (StLe.refl _) rfl (fun x hx=>?_)
 refine Z57 ?_;refine R.fin [0,3,4,16] ?_
 refine W.cond (fun ht16=>?_) (fun ht16=>?_)
 ·have hlt:x<levels.length:=by simpa using ht16
  have h6:=Zk
  have hls:=U8 hlt
  refine Z43 ?_;refine Z2 ?_;refine R.fin [0,3,4,5] ?_
  refine AW.loopC (α:=Nat) (fun y=>⟨38,A3 0 (A6 s) (A3 3 (.slice true 1 (levels.map D6)) (A3 4 (A2 (x:Nat)) (A3 5 (A2 (y:Nat)) (fun _=>.any)))),Hp,[],[],none⟩) (fun y=>y≤levels[x].length∧∀(j:Nat) (w:Str),j<y→levels[x][j]? = some w→(w==s)=false) (fun y=>levels[x].length-y) (0) ⟨Nat.zero_le _,fun j l h=>by omega⟩ (StLe.refl _) rfl (fun y hy=>?_)
  refine Z35 ?_
  refine R.go (h:=Q.indexAddr (x) (D6 levels[x]) (fun _=>Ae hlt)) (hr:=?_)
  refine Z23 ?_;refine R.fin [0,3,4,5,25] ?_
  refine W.cond (fun ht25=>?_) (fun ht25=>?_)
  ·have hly:y<levels[x].length:=by simpa using ht25
   refine Me ?_
   refine R.go (h:=Q.indexAddr (x) (D6 levels[x]) (fun _=>Ae hlt)) (hr:=?_)
   refine Z0 ?_
   refine R.go (h:=Q.indexAddr (y) (A6 (levels[x])[y]) (fun _=>Ae hly)) (hr:=?_)
   refine Z23 ?_;refine R.fin [0,3,4,5,36] ?_
   refine W.cond (fun ht36=>?_) (fun ht36=>?_)
   ·refine Y1 ?_;refine Z6 ?_;refine K.lpR ?_;refine Z34 ?_;exact K.fin (V.one V.tmp) ⟨by rw [lr hlt (by simp only [List.contains_iff_mem];have:=ht36;simp only [beq_iff_eq] at this;rw [←this];exact List.getElem_mem hly) hx.2],rfl⟩
   refine Z64 ?_;refine R.fin [0,3,4,5] ?_;exact K.lpN (y+1) ⟨hly,Av hly hy.2 ht36⟩ (by omega) (StCut.of_eq rfl)
  have hny:levels[x].length≤y:=by simpa using ht25
  refine dw ?_;refine P0 ?_;refine To ?_;exact K.lpN (x+1) ⟨hlt,Av hlt hx.2 (R8 fun j w hj hw=>hy.2 j w (by omega) hw)⟩ (by omega) (StCut.of_eq rfl)
 have hnx:levels.length≤x:=by simpa using ht16
 refine Vb ?_;exact K.fin (V.one V.tmp) ⟨by rw [ls (fun j l hj h=>hx.2 j l (by omega) h)],rfl⟩

theorem ABn (e:Expr) (hs:e.text.length≤1048576) (Hp:List AObj):AFun Tryz.prog 112 [A4 e] Hp (Al (Ea e)):=by
 refine ACall.body [.tmp 2] [0] Tryz.func112 Tryz.ntmps112 (fun d=>?_)
 refine Z71 ?_;refine Z41 ?_;refine R.fin [1,3] ?_;refine Z35 ?_;refine R.fin [1,3,9] ?_
 refine W.cond (fun ht9=>?_) (fun ht9=>?_)
 ·refine Z1 ?_;refine R.call Tryz.call144 (AAp e.val _) ?_;refine R.go ?_;refine Mf ?_;refine Z83 ?_;refine Z27 ?_;refine Z39 ?_;exact wz
 refine Z5 ?_;refine Z8 ?_;refine Y3 ?_
 refine R.go (h:=Q.neqAgg k8 (Lp e.val.kind e.val.n 0 0 e.val.s [])) (hr:=?_)
 refine R.fin [1,3,31] ?_
 refine W.cond (fun ht31=>?_) (fun ht31=>?_)
 ·refine Z21 ?_;exact wz
 refine Z5 ?_;refine Z8 ?_;refine R.fin [1,3,33] ?_;refine Lo ?_;refine R.fin [1,3,33,34] ?_
 refine W.cond (fun ht34=>?_) (fun ht34=>?_)
 ·refine Z1 ?_;refine R.call Tryz.call80 (c80 e.text hs _) ?_;refine R.go ?_;refine Z7 ?_;exact xh
 refine Z8 ?_;refine R.fin [1,3,33,43] ?_
 refine W.cond (fun ht43=>?_) (fun ht43=>?_)
 ·refine Z5 ?_
  refine W.cond (fun ht43=>?_) (fun ht43=>?_)
  ·refine Z1 ?_;exact ub
  refine Z1 ?_;refine R.fin [1,3,33,53] ?_
  refine W.cond (fun ht53=>?_) (fun ht53=>?_)
  ·refine Z1 ?_;exact yb
  refine Z1 ?_;refine R.fin [1,3,63] ?_
  refine W.cond (fun ht63=>?_) (fun ht63=>?_)
  ·refine Z1 ?_;refine R.call Tryz.call146 (zi e.text _) ?_;refine Z23 ?_;refine Z3 ?_;exact Z48
  exact x7
 refine Z11 ?_;refine R.fin [1,3,33,43] ?_;refine K.thN ?_
 refine W.cond (fun ht43=>?_) (fun ht43=>?_)
 ·refine Z1 ?_;exact ub
 refine Z1 ?_;refine R.fin [1,3,33,53] ?_
 refine W.cond (fun ht53=>?_) (fun ht53=>?_)
 ·refine Z1 ?_;exact yb
 refine Z1 ?_;refine R.fin [1,3,63] ?_
 refine W.cond (fun ht63=>?_) (fun ht63=>?_)
 ·refine Z1 ?_;refine R.call Tryz.call146 (zi e.text _) ?_;refine Z23 ?_;refine Z3 ?_;exact Z48
 exact x7

theorem c79:∀(n:Nat) (e:Expr),okE n e→∀Hp:List AObj,AFun Tryz.prog 79 [A4 e] Hp (Al (Cs Ea e)):=by
 intro n
 induction n with
 | zero=>exact fun e h=>h.elim
 | succ n ih =>
 intro e hok Hp
 refine ACall.body [.tmp 2] [0] Tryz.func79 Tryz.ntmps79 (fun d=>?_)
 refine Z71 ?_;refine Z31 ?_;refine R.call Tryz.call112 (ABn e hok.1 _) ?_;refine R.go ?_;refine R.fin [1,6] ?_
 refine W.cond (fun ht6=>?_) (fun ht6=>?_)
 ·refine Z21 ?_;refine K.thR ?_;exact K.fin (V.one V.tmp) ⟨by rw [Ef];simp at ht6;rw [ht6];rfl,rfl⟩
 refine Tn ?_;refine R.fin [1,3] ?_
 refine AW.loopC (α:=Nat) (fun x=>⟨21,A3 1 (.ro (Bt e)) (A3 3 (A2 (x:Nat)) (fun _=>.any)),Hp,[],[],none⟩) (fun x=>x≤e.kids.length∧I2 Ea (e.kids.take x)=true) (fun x=>e.kids.length-x) (0) ⟨Nat.zero_le _,rfl⟩ (StLe.refl _) rfl (fun x hx=>?_)
 refine P1 ?_;refine R.fin [1,3,11] ?_
 refine W.cond (fun ht11=>?_) (fun ht11=>?_)
 ·have hlt:x<e.kids.length:=by simpa using ht11
  have hkl:=hok.2.1
  refine Tl ?_
  refine R.go (h:=Q.indexAddr (x) (A4 e.kids[x]) (fun _=>Ae hlt)) (hr:=?_)
  refine R.go ?_;refine R.call Tryz.call79 (ih e.kids[x] (hok.2.2 _ (List.getElem_mem hlt)) _) ?_;refine R.go ?_;refine R.fin [1,3,20] ?_
  refine W.cond (fun ht20=>?_) (fun ht20=>?_)
  ·refine R0 ?_;exact K.fin (V.one V.tmp) ⟨by rw [show Cs Ea e=false from by rw [Bool.eq_false_iff];intro h;rw [Ef,Bool.and_eq_true] at h;have:=(Co _ _).1 h.2 _ (List.getElem_mem hlt);rw [this] at ht20;cases ht20],rfl⟩
  refine Z64 ?_;refine R.fin [1,3] ?_;exact K.lpN (x+1) ⟨hlt,by rw [List.take_succ_eq_append_getElem hlt,Nj,hx.2,I2,I2,Bool.and_true,Bool.true_and];simpa using ht20⟩ (by omega) (StCut.of_eq rfl)
 have hxe:e.kids.take x=e.kids:=List.take_of_length_le (by simp at ht11;omega)
 refine Vb ?_;exact K.fin (V.one V.tmp) ⟨by have:=hx.2;rw [hxe] at this;rw [Ef,this];simp at ht6;rw [ht6];rfl,rfl⟩

theorem lu (e:Expr):Cs Ea e=Cs C8 e:=by rw [show C8=Ea from funext Pw]
theorem c47 (n:Nat) (e:Expr) (hok:okE n e) (hn:n≤1048576) (hs:sizeE e≤1048576) (Hp:List AObj):AFun Tryz.prog 47 [A4 e] Hp (Al (B7 e)):=by
 refine ACall.body [.tmp 2] [0] Tryz.func47 Tryz.ntmps47 (fun d=>?_)
 refine Y2 ?_;refine R.call Tryz.call78 (c78 n e hok hn _) ?_;refine Jc ?_;refine G.call Tryz.call22 (fun hB=>c22 n e hok hs _) ?_;refine G.go ?_;refine Jc ?_;refine G.call Tryz.call79 (fun hB=>c79 n e hok _) ?_;refine Z39 ?_;exact K.fin (V.one V.tmp) ⟨by rw [B7,lu,show decide ((depthE e:Int)≤30)=decide (depthE e≤30) by rw [decide_eq_decide];omega,show decide ((sizeE e:Int)≤300)=decide (sizeE e≤300) by rw [decide_eq_decide];omega],rfl⟩

set_option maxRecDepth 8000
/-! The document's kinds of trees are infer's. -/
def Cr (k w:Int):Bool:=(k==0) || (k==w)
def C3 (o:Int) (t:Str) (ks:List Int):Int×Bool:=
 if o==3 then (1,Cr (ks.getD 0 0) 1) else if o==4 then (3,Cr (ks.getD 0 0) 3)
 else if (o==5)&&((t==[111,114]) || (t==[97,110,100])) then (3,Cr (ks.getD 0 0) 3&&Cr (ks.getD 1 0) 3)
 else if (o==5)&&(An t==3) then (3,(ks.getD 0 0==0) || Cr (ks.getD 1 0) (ks.getD 0 0))
 else if (o==5)&&(t==[38]) then (2,Cr (ks.getD 0 0) 2&&Cr (ks.getD 1 0) 2)
 else if o==5 then (1,Cr (ks.getD 0 0) 1&&Cr (ks.getD 1 0) 1)
 else if (t==[108,101,110]) || (t==[110,117,109]) then (1,Cr (ks.getD 0 0) 2)
 else if t==[115,116,114] then (2,Cr (ks.getD 0 0) 1)
 else if (t==[108,101,102,116]) || (t==[114,105,103,104,116]) then (2,Cr (ks.getD 0 0) 2&&Cr (ks.getD 1 0) 1)
 else if t==[105,115,110,117,108,108] then (3,true)
 else (if ks.getD (ks.length-2) 0==0 then ks.getD (ks.length-1) 0 else ks.getD (ks.length-2) 0,
  ((ks.getD (ks.length-2) 0==0) || Cr (ks.getD (ks.length-1) 0) (ks.getD (ks.length-2) 0))&&((t==[110,118,108]) || Cr (ks.getD 0 0) 3))
def Bz (o:Int) (t:Str) (ks:List Int):Int×Int:=if (C3 o t ks).2 then ((C3 o t ks).1,0) else (0,10)
theorem Kb (w k:Int) (hw:(w==0)=false):(Be w k).2=Cr k w:=by
 unfold Be Cr
 rw [hw]
 simp only [Bool.false_eq_true,if_false]
 by_cases h:(k==0)=true
 ·simp [h]
 have h':(k==0)=false:=by simpa using h
 rw [h']
 by_cases h2:w=k
 ·subst h2;simp
 have:¬k=w:=fun e=>h2 e.symm
 simp [h2,this]
theorem qq (t:Str):(An t==3)=((((((t==[61]) || (t==[33,61])) || (t==[60])) || (t==[60,61])) || (t==[62])) || (t==[62,61])):=by
 by_cases h:t∈[[61],[33,61],[60],[60,61],[62],[62,61]]
 ·simp only [List.mem_cons,List.mem_nil_iff,or_false] at h
  rcases h with rfl|rfl|rfl|rfl|rfl|rfl<;>rfl
 have e:((((((t==[61]) || (t==[33,61])) || (t==[60])) || (t==[60,61])) || (t==[62])) || (t==[62,61]))=false:=by
  simp only [List.mem_cons,List.mem_nil_iff,or_false,not_or] at h
  simp [h]
 rw [e]
 unfold An
 split
 ·rename_i i hi
  rw [List.findIdx?_eq_some_iff_getElem] at hi
  obtain ⟨hl,hc,_⟩:=hi
  by_cases h3:i=3
  ·subst h3
   exact (h (by simp [levels] at hc;simpa using hc)).elim
  have:¬((i:Int)=3):=by omega
  simp [this]
 rfl
theorem bg {s:Sign} {a w:Int} (hk:s.kids=[w]) (hw:(w==0)=false) (h1:(w == -1)=false) (h2:(w == -2)=false) (ho:(s.own == -1)=false):Fx s [a]=if Cr a w then (s.own,0) else (0,10):=by
 unfold Fx
 rw [hk]
 simp only [Hs,h1,h2,Bool.false_eq_true,if_false,Kb w a hw]
 cases Cr a w<;>simp [ho]
theorem bh {s:Sign} {a b v w:Int} (hk:s.kids=[v,w]) (hv:(v==0)=false) (hv1:(v == -1)=false) (hv2:(v == -2)=false) (hw:(w==0)=false) (h1:(w == -1)=false) (h2:(w == -2)=false) (ho:(s.own == -1)=false):Fx s [a,b]=if Cr a v&&Cr b w then (s.own,0) else (0,10):=by
 unfold Fx
 rw [hk]
 simp only [Hs,hv1,hv2,h1,h2,Bool.false_eq_true,if_false,Kb w b hw,Kb v a hv]
 cases Cr a v<;>cases Cr b w<;>simp [ho]
theorem sm {s:Sign} {a b:Int} (hk:s.kids=[-1, -1]):Fx s [a,b]=if (a==0) || Cr b a then (if s.own == -1 then (if a==0 then b else a,0) else (s.own,0)) else (0,10):=by
 unfold Fx Cr
 rw [hk]
 simp only [Hs,Be]
 by_cases ha:a=0
 ·subst ha;simp
 by_cases hb:b=0
 ·subst hb;simp [ha]
 by_cases he:a=b
 ·subst he;simp [ha]
 have:¬b=a:=fun e=>he e.symm
 simp [ha,hb,he,this]
theorem v8 {s:Sign} {x a b:Int} (hk:s.kids=[3, -1, -1]):Fx s [x,a,b]=if ((a==0) || Cr b a)&&Cr x 3 then (if s.own == -1 then (if a==0 then b else a,0) else (s.own,0)) else (0,10):=by
 unfold Fx Cr
 rw [hk]
 simp only [Hs,Kb 3 x rfl,Cr]
 simp only [Be]
 by_cases hx:((x==0) || (x==3))=true
 ·by_cases ha:a=0
  ·subst ha;simp [hx]
  by_cases hb:b=0
  ·subst hb;simp [ha,hx]
  by_cases he:a=b
  ·subst he;simp [ha,hx]
  have:¬b=a:=fun e=>he e.symm
  simp [ha,hb,he,this,hx]
 simp [hx]
theorem zj {s:Sign} {x:Int} (hk:s.kids=[-2]) (ho:(s.own == -1)=false):Fx s [x]=(s.own,0):=by
 unfold Fx
 rw [hk]
 simp [Hs,ho]
theorem Wg {ks:List Int} (h:ks.length=1):∃a,ks=[a]:=by
 match ks,h with
 | [a],_=>exact ⟨a,rfl⟩
theorem lv {ks:List Int} (h:ks.length=2):∃a b,ks=[a,b]:=by
 match ks,h with
 | [a,b],_=>exact ⟨a,b,rfl⟩
theorem zk {ks:List Int} (h:ks.length=3):∃a b c,ks=[a,b,c]:=by
 match ks,h with
 | [a,b,c],_=>exact ⟨a,b,c,rfl⟩
theorem Zl (t:Str) (a b:Int):Bz 5 t [a,b]=Fx (Dl t) [a,b]:=by
 unfold Bz C3 Dl
 simp only [qq,show ((5:Int)==3)=false from rfl,show ((5:Int)==4)=false from rfl,show ((5:Int)==5)=true from rfl,Bool.true_and,Bool.false_eq_true,if_false]
 by_cases h1:((t==[111,114]) || (t==[97,110,100]))=true
 ·simp only [h1,if_true]
  rw [bh (v:=3) (w:=3) rfl rfl rfl rfl rfl rfl rfl rfl]
  rfl
 simp only [h1,if_false,Bool.false_eq_true]
 by_cases h2:((((((t==[61]) || (t==[33,61])) || (t==[60])) || (t==[60,61])) || (t==[62])) || (t==[62,61]))=true
 ·simp only [h2,if_true]
  rw [sm rfl]
  rfl
 simp only [h2,if_false,Bool.false_eq_true]
 by_cases h3:(t==[38])=true
 ·simp only [h3,if_true]
  rw [bh (v:=2) (w:=2) rfl rfl rfl rfl rfl rfl rfl rfl]
  rfl
 simp only [h3,if_false,Bool.false_eq_true,if_true]
 rw [bh (v:=1) (w:=1) rfl rfl rfl rfl rfl rfl rfl rfl]
 rfl
theorem Zm {t:Str} {ks:List Int} (h:(Ca t).kids.length=ks.length):Bz 6 t ks=Fx (Ca t) ks:=by
 unfold Bz C3
 simp only [show ((6:Int)==3)=false from rfl,show ((6:Int)==4)=false from rfl,show ((6:Int)==5)=false from rfl,Bool.false_and,Bool.false_eq_true,if_false]
 unfold Ca at h ⊢
 by_cases h1:((t==[108,101,110]) || (t==[110,117,109]))=true
 ·simp only [h1,if_true] at h ⊢
  obtain ⟨a,rfl⟩:=Wg h.symm
  rw [bg (w:=2) rfl rfl rfl rfl rfl]
  rfl
 simp only [h1,if_false,Bool.false_eq_true] at h ⊢
 by_cases h2:(t==[115,116,114])=true
 ·simp only [h2,if_true] at h ⊢
  obtain ⟨a,rfl⟩:=Wg h.symm
  rw [bg (w:=1) rfl rfl rfl rfl rfl]
  rfl
 simp only [h2,if_false,Bool.false_eq_true] at h ⊢
 by_cases h3:((t==[108,101,102,116]) || (t==[114,105,103,104,116]))=true
 ·simp only [h3,if_true] at h ⊢
  obtain ⟨a,b,rfl⟩:=lv h.symm
  rw [bh (v:=2) (w:=1) rfl rfl rfl rfl rfl rfl rfl rfl]
  rfl
 simp only [h3,if_false,Bool.false_eq_true] at h ⊢
 by_cases h4:(t==[105,115,110,117,108,108])=true
 ·simp only [h4,if_true] at h ⊢
  obtain ⟨a,rfl⟩:=Wg h.symm
  rw [zj rfl rfl]
 simp only [h4,if_false,Bool.false_eq_true] at h ⊢
 by_cases h5:(t==[110,118,108])=true
 ·simp only [h5,if_true] at h ⊢
  obtain ⟨a,b,rfl⟩:=lv h.symm
  rw [sm rfl]
  simp
 simp only [h5,if_false,Bool.false_eq_true] at h ⊢
 obtain ⟨a,b,c,rfl⟩:=zk h.symm
 rw [v8 rfl]
 simp
theorem qr {e:Expr} (h:C8 e=true) (h1:(e.op==1)=false) (h2:(e.op==2)=false) {ks:List Int} (hl:ks.length=e.kids.length):Bz e.op e.text ks=Fx (Bq e.op e.text) ks:=by
 have hs:=I5 h h1 h2
 unfold Bq at hs ⊢
 unfold C8 at h
 rw [h1,h2] at h
 simp only [Bool.false_eq_true,if_false] at h
 by_cases h3:e.op=3
 ·rw [h3] at hs ⊢
  simp only [beq_self_eq_true,if_true] at hs ⊢
  obtain ⟨a,rfl⟩:=Wg (by rw [hl,←hs];rfl)
  rw [bg (w:=1) rfl rfl rfl rfl rfl]
  rfl
 by_cases h4:e.op=4
 ·rw [h4] at hs ⊢
  obtain ⟨a,rfl⟩:=Wg (by rw [hl,←hs];rfl)
  rw [show (if ((4:Int)==3)=true then (⟨[1],1⟩:Sign) else if ((4:Int)==4)=true then ⟨[3],3⟩ else if ((4:Int)==5)=true then Dl e.text else Ca e.text)=⟨[3],3⟩ from rfl,bg (w:=3) rfl rfl rfl rfl rfl]
  rfl
 by_cases h5:e.op=5
 ·rw [h5] at hs ⊢
  rw [show (if ((5:Int)==3)=true then (⟨[1],1⟩:Sign) else if ((5:Int)==4)=true then ⟨[3],3⟩ else if ((5:Int)==5)=true then Dl e.text else Ca e.text)=Dl e.text from rfl] at hs ⊢
  obtain ⟨a,b,rfl⟩:=lv (by rw [hl,←hs,L4])
  exact Zl _ _ _
 have h6:e.op=6:=by
  simp [h3,h4,h5] at h
  exact h.1
 rw [h6] at hs ⊢
 rw [show (if ((6:Int)==3)=true then (⟨[1],1⟩:Sign) else if ((6:Int)==4)=true then ⟨[3],3⟩ else if ((6:Int)==5)=true then Dl e.text else Ca e.text)=Ca e.text from rfl] at hs ⊢
 exact Zm (by rw [hs,hl])
set_option maxRecDepth 4000
theorem bi {n:Nat} {U F:Nat→List AObj} {H':List AObj} (h:I1 (fun _=>true) U F n H'):H'=U n:=by
 rcases h with ⟨_,h⟩|⟨j,_,_,h,_⟩
 ·exact h
 cases h
theorem fp {α:Type} {l:List α} {k:Nat} {y:α} (h:l[k]? = some y):l.take (k+1)=l.take k++[y]:=by rw [List.take_add_one,h];rfl
theorem lw {L:List (Int×Expr)} {k:Nat} {it:Int×Expr} (h:L[k]? = some it):Dd 0 (L.take (k+1))=if Dd 0 (L.take k)<it.1 then it.1 else Dd 0 (L.take k):=by
 have e:Dd 0 (L.take (k+1))=max (Dd 0 (L.take k)) it.1:=by
  unfold Dd
  rw [fp h,List.foldl_append]
  rfl
 rw [e]
 split<;>omega
theorem Sb {n k:Nat} {o:Bool} {l:List Str}:Low n (.slice o k (l.map A6)):=by simp [or_imp,forall_and]
theorem ABo (n:Nat) (e:Expr) (hok:okE n e) (hn:n≤1048576) (hs:sizeE e≤1048576) (Hp:List AObj):AFun Tryz.prog 220 [A4 e] Hp (A2 (depthE e:Nat)):=by
 refine ACall.body [.tmp 2] [0,4] Tryz.func220 Tryz.ntmps220 (fun d=>?_)
 refine Z1 ?_;refine R.fin [1,4] ?_;refine D3 ?_;refine Z20 ?_;refine Tq ?_;refine Z68 ?_
 refine R.assumeLow (fun hlow=>?_)
 refine uc ?_;refine R.fin [3,4,6] ?_;refine Fq ?_
 refine W.rangeV (m:=1) Tryz.call105 (fun FR as' bd' hFR has hbd=>?_)
 have hFRl:∀s,Low (Hp.length+3) (FR s):=by
  intro s
  rw [hFR]
  refine Low.strip ?_
  revert s
  repeat (first|exact Ar|refine Aq (by simp [oid,Ac]<;>try omega) ?_)
 have hOl:∀{k:Nat},∀x∈[AObj.cells 3 [A2 (Dd 0 ((Au 1 e).take k))],AObj.defs,AObj.loop LoopState.ready none FR 13 #[7,8] as' bd' (oid Hp.length 1)],ObjLow (Hp.length+3) x:=by
  intro k x hx
  simp only [List.mem_cons,List.mem_nil_iff,or_false] at hx
  rcases hx with rfl|rfl|rfl
  ·intro y hy
   rw [List.mem_singleton.1 hy]
   first|exact Sb|simp
  ·trivial
  exact jt
 refine ⟨fun _ H'=>I1 (fun _=>true) (fun k=>Hp++[AObj.cells 3 [A2 (Dd 0 ((Au 1 e).take k))],AObj.defs,AObj.loop LoopState.ready none FR 13 #[7,8] as' bd' (oid Hp.length 1)]) (fun k=>Hp++[AObj.cells 3 [A2 (Dd 0 ((Au 1 e).take k))],AObj.defs,AObj.loop LoopState.ready none FR 13 #[7,8] as' bd' (oid Hp.length 1)]) (Au 1 e).length H',ut (l:=oid Hp.length 2) (go:=fun _=>true) (U:=fun k=>Hp++[AObj.cells 3 [A2 (Dd 0 ((Au 1 e).take k))],AObj.defs,AObj.loop LoopState.ready none FR 13 #[7,8] as' bd' (oid Hp.length 1)]) (F:=fun k=>Hp++[AObj.cells 3 [A2 (Dd 0 ((Au 1 e).take k))],AObj.defs,AObj.loop LoopState.ready none FR 13 #[7,8] as' bd' (oid Hp.length 1)]) (n0:=Hp.length+3) ⟨fun k=>by simp,fun k=>by simp,fun k x hx=>?_,fun k x hx=>?_,by simp [oid],fun X k it hit hgo=>?_⟩ n hok hn,?_⟩
 ·exact ju
 ·exact ju
 ·have hklt:k<sizeE e:=by rw [←E9 1 e];exact (List.getElem?_eq_some_iff.1 hit).1
  generalize hV:(Hp++[AObj.cells 3 [A2 (Dd 0 ((Au 1 e).take k))],AObj.defs,AObj.loop LoopState.ready none FR 13 #[7,8] as' bd' (oid Hp.length 1)]++X)=V
  have hL:V[oid Hp.length 2]? = some (AObj.loop LoopState.ready none FR 13 #[7,8] as' bd' (oid Hp.length 1)):=by rw [←hV,List.append_assoc,Ao];rfl
  have hA0:V[oid Hp.length 0]? = some (AObj.cells 3 [A2 (Dd 0 ((Au 1 e).take k))]):=by rw [←hV,List.append_assoc,Ao];rfl
  refine AYield.ofRound (pd:=none) (fr:=FR) (sz:=13) (ps:=#[7,8]) (df:=oid Hp.length 1) (asg:=as') (bd:=bd') hL rfl (by decide) (fun d=>?_)
  subst hFR has hbd
  refine W.keep [3,7,8] ?_;refine Z61 ?_;refine R.fin [3,4] ?_
  refine ⟨rfl,none,hL,?_⟩
  generalize hbz:(AObj.loop LoopState.busy _ _ _ _ _ _ _)=bz
  have hA:(V.set (oid Hp.length 2) bz)[oid Hp.length 0]? = some (AObj.cells 3 [A2 (Dd 0 ((Au 1 e).take k))]):=by rw [List.getElem?_set_ne (C5 (by decide))];exact hA0
  refine Fq ?_;refine AW.region ?_
  refine R.go (h:=Q.loadUp hA) (hr:=?_)
  refine R.go ?_;refine R.maxI ?_
  refine R.storeUp jS hA ?_ ?_
  ·simp
  refine Z65 ?_
  subst hbz
  refine oy ?_
  refine ⟨rfl,?_⟩
  rw [if_pos rfl]
  subst hV
  simp only [List.append_assoc,Dj,List.cons_append,List.nil_append,List.set_cons_succ,List.set_cons_zero]
  rw [lw hit]
 intro r H' hq
 obtain rfl:=bi hq
 refine ⟨Hp,_,_,_,rfl,rfl,fun h=>h,?_,rfl,by simp,?_⟩
 ·intro o ho
  have:o=oid Hp.length 1:=by simpa using ho
  subst this
  rw [Ao]
  rfl
 refine Z9 ?_;refine Y1 ?_;exact K.fin (V.one V.tmp) ⟨by rw [List.take_length,Nl],rfl⟩

theorem c53 (n:Nat) (e:Expr) (hok:okE n e) (hn:n≤1048576) (hs:sizeE e≤1048576) (Hp:List AObj):AFun Tryz.prog 53 [A4 e] Hp (A2 (sizeE e:Nat)):=by
 refine ACall.body [.tmp 2] [0] Tryz.func53 Tryz.ntmps53 (fun d=>?_)
 refine Z71 ?_;refine D3 ?_;refine Z20 ?_;refine R.fin [1,3] ?_;refine Z68 ?_
 refine R.assumeLow (fun hlow=>?_)
 refine uc ?_;refine R.fin [3,5] ?_;refine Fq ?_
 refine W.rangeV (m:=1) Tryz.call105 (fun FR as' bd' hFR has hbd=>?_)
 have hFRl:∀s,Low (Hp.length+3) (FR s):=by
  intro s
  rw [hFR]
  refine Low.strip ?_
  revert s
  repeat (first|exact Ar|refine Aq (by simp [oid,Ac]<;>try omega) ?_)
 have hOl:∀{k:Nat},∀x∈[AObj.cells 3 [A2 ((k:Nat))],AObj.defs,AObj.loop LoopState.ready none FR 11 #[6,7] as' bd' (oid Hp.length 1)],ObjLow (Hp.length+3) x:=by
  intro k x hx
  simp only [List.mem_cons,List.mem_nil_iff,or_false] at hx
  rcases hx with rfl|rfl|rfl
  ·intro y hy
   rw [List.mem_singleton.1 hy]
   first|exact Sb|simp
  ·trivial
  exact jt
 refine ⟨fun _ H'=>I1 (fun _=>true) (fun k=>Hp++[AObj.cells 3 [A2 ((k:Nat))],AObj.defs,AObj.loop LoopState.ready none FR 11 #[6,7] as' bd' (oid Hp.length 1)]) (fun k=>Hp++[AObj.cells 3 [A2 ((k:Nat))],AObj.defs,AObj.loop LoopState.ready none FR 11 #[6,7] as' bd' (oid Hp.length 1)]) (Au 1 e).length H',ut (l:=oid Hp.length 2) (go:=fun _=>true) (U:=fun k=>Hp++[AObj.cells 3 [A2 ((k:Nat))],AObj.defs,AObj.loop LoopState.ready none FR 11 #[6,7] as' bd' (oid Hp.length 1)]) (F:=fun k=>Hp++[AObj.cells 3 [A2 ((k:Nat))],AObj.defs,AObj.loop LoopState.ready none FR 11 #[6,7] as' bd' (oid Hp.length 1)]) (n0:=Hp.length+3) ⟨fun k=>by simp,fun k=>by simp,fun k x hx=>?_,fun k x hx=>?_,by simp [oid],fun X k it hit hgo=>?_⟩ n hok hn,?_⟩
 ·exact ju
 ·exact ju
 ·have hklt:k<sizeE e:=by rw [←E9 1 e];exact (List.getElem?_eq_some_iff.1 hit).1
  generalize hV:(Hp++[AObj.cells 3 [A2 ((k:Nat))],AObj.defs,AObj.loop LoopState.ready none FR 11 #[6,7] as' bd' (oid Hp.length 1)]++X)=V
  have hL:V[oid Hp.length 2]? = some (AObj.loop LoopState.ready none FR 11 #[6,7] as' bd' (oid Hp.length 1)):=by rw [←hV,List.append_assoc,Ao];rfl
  have hA0:V[oid Hp.length 0]? = some (AObj.cells 3 [A2 ((k:Nat))]):=by rw [←hV,List.append_assoc,Ao];rfl
  refine AYield.ofRound (pd:=none) (fr:=FR) (sz:=11) (ps:=#[6,7]) (df:=oid Hp.length 1) (asg:=as') (bd:=bd') hL rfl (by decide) (fun d=>?_)
  subst hFR has hbd
  refine W.keep [3,6,7] ?_;refine AW.skip ?_
  refine ⟨rfl,none,hL,?_⟩
  generalize hbz:(AObj.loop LoopState.busy _ _ _ _ _ _ _)=bz
  have hA:(V.set (oid Hp.length 2) bz)[oid Hp.length 0]? = some (AObj.cells 3 [A2 ((k:Nat))]):=by rw [List.getElem?_set_ne (C5 (by decide))];exact hA0
  refine Fq ?_;refine AW.region ?_
  refine R.go (h:=Q.loadUp hA) (hr:=?_)
  refine R.go ?_
  refine R.storeUp jS hA ?_ ?_
  ·simp
  refine Z65 ?_
  subst hbz
  refine oy ?_
  refine ⟨rfl,?_⟩
  rw [if_pos rfl]
  subst hV
  simp only [List.append_assoc,Dj,List.cons_append,List.nil_append,List.set_cons_succ,List.set_cons_zero]
  rfl
 intro r H' hq
 obtain rfl:=bi hq
 refine ⟨Hp,_,_,_,rfl,rfl,fun h=>h,?_,rfl,by simp,?_⟩
 ·intro o ho
  have:o=oid Hp.length 1:=by simpa using ho
  subst this
  rw [Ao]
  rfl
 refine Z9 ?_;refine Y1 ?_;exact K.fin (V.one V.tmp) ⟨by rw [E9],rfl⟩

set_option maxRecDepth 8000
abbrev TK:=Int×Str
/-- What stands from word i on. -/
def seg (l:List Tok) (i:Nat):List TK:=(l.drop i).map ktT
theorem Jp (s:Str):s∈levels.flatten∨(An s = -1∧∀l∈levels,l.contains s=false):=by
 by_cases h:s∈levels.flatten
 ·exact .inl h
 have h2:∀l∈levels,l.contains s=false:=fun l hl=>by
  rw [Bool.eq_false_iff]
  intro h3
  exact h (List.mem_flatten.2 ⟨l,hl,by simpa using h3⟩)
 refine .inr ⟨?_,h2⟩
 unfold An
 rw [List.findIdx?_eq_none_iff.2 fun l hl=>h2 l hl]
/-- The texts of levels of marks. -/
def ofL (k:Nat):Str:=if k=0 then orT else if k=1 then ff else if k=3 then qh else if k=4 then fg else S6
theorem lx (s:Str) : -1≤An s∧An s≤5∧An s≠2:=by
 rcases Jp s with h|⟨h,_⟩
 ·have h3:(levels.flatten.all fun s=>decide (-1≤An s∧An s≤5∧An s≠2))=true:=by kernel_rfl
  exact of_decide_eq_true (List.all_eq_true.1 h3 s h)
 omega
/-- A row of words behind which no mark of a level, or of a tighter one, stands. -/
def ly (k:Nat) (rest:List TK):Prop:=∀h r,rest=h::r→((h.1==5) || (h.1==2))=true→An h.2<(k:Int)∧h.2≠[40]
def fq:Str:=[110,111,116]
def levE (e:Expr):Nat:=if e.op==4 then 2 else if e.op==3 then 6 else if e.op==5 then (An e.text).toNat else 7
def qt (least:Nat) (x:Expr) (T:List TK):List TK:=if least≤levE x then T else (5,[40])::(T++[(5,[41])])
def qu (least:Nat) (x:Expr) (n:Nat):Nat:=if least≤levE x then n else n+1
def Fc (own:Nat):Nat:=if own=3 then 4 else own
def vd (v:Val):TK:=if v.kind==1 then (3,E8 v) else if v.kind==2 then (4,v.s) else (2,E8 v)
def zl (t:Str):TK:=(if Ec (t.headD 0) then 2 else 5,t)
def zm:List (List TK)→List TK
 | []=>[]
 | T::r=>(5,[44])::(T++zm r)
def zn (o:Int) (t:Str) (v:Val) (k:List Expr) (ts:List (List TK)):List TK:=
 if o==1 then [vd v] else if o==2 then [(1,t)]
 else if o==3 then (5,[45])::qt 6 (k.getD 0 Ab) (ts.getD 0 [])
 else if o==4 then (2,fq)::qt 2 (k.getD 0 Ab) (ts.getD 0 [])
 else if o==5 then qt (Fc (An t).toNat) (k.getD 0 Ab) (ts.getD 0 [])++zl t::qt ((An t).toNat+1) (k.getD 1 Ab) (ts.getD 1 [])
 else (1,t)::(5,[40])::((zm ts).drop 1++[(5,[41])])
mutual
def Q6:Expr→List TK
 | .mk o t v k=>zn o t v k (so k)
def so:List Expr→List (List TK)
  | []=>[]
  | e::r=>Q6 e::so r
 end
def zo:List Nat→Nat
 | []=>0
 | n::r=>max n (zo r)
def zp (o:Int) (t:Str) (k:List Expr) (ns:List Nat):Nat:=
 if o==1 then 0 else if o==2 then 0
 else if o==3 then 1+qu 6 (k.getD 0 Ab) (ns.getD 0 0)
 else if o==4 then 1+qu 2 (k.getD 0 Ab) (ns.getD 0 0)
 else if o==5 then max (qu (Fc (An t).toNat) (k.getD 0 Ab) (ns.getD 0 0)) (qu ((An t).toNat+1) (k.getD 1 Ab) (ns.getD 1 0))
 else 1+zo ns
mutual
def bj:Expr→Nat
 | .mk o t v k=>zp o t k (sq k)
def sq:List Expr→List Nat
  | []=>[]
  | e::r=>bj e::sq r
 end
theorem qv {v:Val} (h:I0 v=true):v=noV:=by
 unfold I0 at h
 simp only [Bool.and_eq_true,beq_iff_eq] at h
 cases v
 simp_all [noV]
/-- What a right node is. -/
inductive NodeC:Expr→Prop
 | val (v:Val) (h:Dk v=true) (h0:0≤v.n):NodeC (Iu v)
 | name (t:Str) (h:H4 t=true):NodeC (Bd t)
 | neg (a:Expr):NodeC (F3 3 a)
 | no (a:Expr):NodeC (F3 4 a)
 | bin (t:Str) (a b:Expr) (h:0≤An t):NodeC (H8 t a b)
 | call (t:Str) (k:List Expr) (h:B2 t=(k.length:Int)):NodeC (.mk 6 t noV k)
theorem Zn (o:Int) (t:Str) (v:Val) (k:List Expr):Ea (.mk o t v k) =
 if o==1 then ((Dk v&&decide (0≤v.n))&&(t==[]))&&((k.length:Int)==0)
 else if !(I0 v) then false
 else if o==2 then H4 t&&((k.length:Int)==0)
 else if o==3 || o==4 then (t==[])&&((k.length:Int)==1)
 else if o==5 then decide (0≤An t)&&((k.length:Int)==2)
 else if o==6 then B2 t==(k.length:Int)
 else false:=rfl
theorem L5 {e:Expr} (h:C8 e=true):NodeC e:=by
 rw [Pw] at h
 cases e with
 | mk o t v k =>
 rw [Zn] at h
 by_cases h1:(o==1)=true
 ·rw [if_pos h1] at h
  simp only [Bool.and_eq_true,beq_iff_eq,decide_eq_true_eq] at h h1
  obtain ⟨⟨⟨a1,a2⟩,a3⟩,a4⟩:=h
  subst h1
  subst a3
  have:k=[]:=by cases k with|nil=>rfl|cons x r=>simp at a4;omega
  subst this
  exact .val v a1 a2
 rw [if_neg h1] at h
 by_cases hb:(!(I0 v))=true
 ·rw [if_pos hb] at h;cases h
 rw [if_neg hb] at h
 have hv:v=noV:=qv (by simpa using hb)
 subst hv
 by_cases h2:(o==2)=true
 ·rw [if_pos h2] at h
  simp only [Bool.and_eq_true,beq_iff_eq] at h h2
  subst h2
  have:k=[]:=by cases k with|nil=>rfl|cons x r=>have:=h.2;simp at this;omega
  subst this
  exact .name t h.1
 rw [if_neg h2] at h
 by_cases h3:(o==3 || o==4)=true
 ·rw [if_pos h3] at h
  simp only [Bool.and_eq_true,Bool.or_eq_true,beq_iff_eq] at h h3
  obtain ⟨rfl,h4⟩:=h
  match k,h4 with
  | [a],_ =>
   rcases h3 with rfl|rfl
   ·exact .neg a
   exact .no a
  | [],h4=>simp at h4
  | _::_::_,h4=>simp at h4;omega
 rw [if_neg h3] at h
 by_cases h5:(o==5)=true
 ·rw [if_pos h5] at h
  simp only [Bool.and_eq_true,beq_iff_eq,decide_eq_true_eq] at h h5
  subst h5
  match k,h.2 with
  | [a,b],_=>exact .bin t a b h.1
  | [],h4=>simp at h4
  | [_],h4=>simp at h4
  | _::_::_::_,h4=>simp at h4;omega
 rw [if_neg h5] at h
 by_cases h6:(o==6)=true
 ·rw [if_pos h6] at h
  simp only [beq_iff_eq] at h h6
  subst h6
  exact .call t k h
 rw [if_neg h6] at h;cases h
/-- The functions of the levels. -/
def pf (l:List Tok) (D:Fam):Nat→PS→Expr×PS
 | 0=>Od l D
 | 1=>W8 l D
 | 2=>Oa l D
 | 3=>Ds l D
 | 4=>Ct l D
 | 5=>W7 l D
 | 6=>O9 l D
 | _=>Ei l D
abbrev fam (l:List Tok) (n:Nat):Fam:=Dn l (30-n)
def adv (S:PS) (n:Nat):PS:=⟨S.i+n,S.nest,S.code,S.at_⟩
def T1 (l:List Tok) (x:Expr):Prop:=∀(k:Nat) (S:PS) (rest:List TK),k≤levE x→S.code=0→S.nest+bj x≤30→seg l S.i=Q6 x++rest→ly k rest→pf l (fam l S.nest) k S=(x,adv S (Q6 x).length)
def T2 (l:List Tok) (x:Expr):Prop:=∀(k:Nat) (S:PS) (rest:List TK),(k=0∨k=1∨k=4∨k=5)→k≤levE x→S.code=0→S.nest+bj x≤30→seg l S.i=Q6 x++rest→ly (k+1) rest →
 ∃n,l.length≤S.i+(Q6 x).length+n∧E0 l (ofL k) (pf l (fam l S.nest) (k+1)) S=S5 l (ofL k) (pf l (fam l S.nest) (k+1)) n (x,adv S (Q6 x).length)
/-! The parser from a word on, and of a source. -/
def atS (l:List Tok) (i:Nat) (r:Expr×PS):PS:=if r.2.code != 0 then r.2 else if decide ((30:Int)<depthE r.1) then Cl 18 (A7 l i).at_ r.2 else if decide ((300:Int)<sizeE r.1) then Cl 3 (A7 l i).at_ r.2 else r.2
def atR (l:List Tok) (i:Nat):Expr×PS:=Od l (Dn l 30) ⟨i,0,0,0⟩
/-- The tree, the word behind it, the fault. -/
def atM (l:List Tok) (i:Nat):Expr×Int×Int×Int:=if (atS l i (atR l i)).code != 0 then (Ab,0,(atS l i (atR l i)).code,(atS l i (atR l i)).at_) else ((atR l i).1,((atS l i (atR l i)).i:Int),0,0)
set_option maxRecDepth 4000
theorem Q7 {l:List Tok} (hl:TokEnd l) (hll:l.length≤1048576) {i:Nat} (hi:i<l.length):Fact l ⟨i,0,0,0⟩ (atR l i):=(Mw hl hll 31 0 rfl (by decide)).1 ⟨i,0,0,0⟩ hi rfl
theorem ve {l:List Tok} {i:Nat} (hi:i<l.length) (hl:TokEnd l) (hll:l.length≤1048576) (hcl:∀n Dv,n≤30→DeepC l Dv n→We l Dv n) (o:Nat) (Hp:List AObj) (ho:Hp[o]? = some (pr l ⟨i,0,0,0⟩)):ACall Tryz.prog 219 [.ptr o 0] Hp (fun r H'=>r=A4 (atR l i).1∧H'=Hp.set o (pr l (atR l i).2)):=(Wf hl hll hcl 31 0 rfl (by decide)).1 o Hp ⟨i,0,0,0⟩ ho hi rfl
theorem Wh {l:List Tok} (hl:TokEnd l):(A7 l (l.length-1)).kind=0:=by
 obtain ⟨L,z,rfl,hz,_⟩:=hl.split
 unfold A7
 simp [hz]
theorem ABp (l:List Tok) (i:Nat) (hi:i<l.length) (hl:TokEnd l) (hll:l.length≤500000) (hcl:∀n Dv,n≤30→DeepC l Dv n→We l Dv n) (Hp:List AObj):AFun Tryz.prog 199 [ar l,A2 (i:Int)] Hp (.tup [A4 (atM l i).1,A2 (atM l i).2.1,.agg [A2 (atM l i).2.2.1,A2 (atM l i).2.2.2]]):=by
 have hmap:(l.map H5).length=l.length:=List.length_map ..
 have hll1:l.length≤1048576:=by omega
 have hq:=Q7 hl hll1 hi
 have hlast:=Wh hl
 have hpos:=hl.pos
 have hqlt:=hq.lt
 have hqs:=hq.sz
 have hok0:okE 1048576 (atR l i).1:=Ev (by have:=hq.lt;omega) hq.ok
 have hsz0:sizeE (atR l i).1≤1048576:=by have:=hq.sz;have:=hq.lt;omega
 refine ACall.body [.cell 4 45,.tmp 5,.cell 6 60] [0,1] Tryz.func199 Tryz.ntmps199 (fun d=>?_)
 refine Z32 ?_;refine R.go ?_;refine R.alloc jZ ?_;refine R.fin [0,1,4,6] ?_;refine Z35 ?_;refine Mf ?_;refine Z56 ?_
 refine G.go (h:=Q.indexAddr ((l.length-1)) (H5 (A7 l (l.length-1))) (fun _=>Pn (by omega))) (hr:=?_)
 refine Z7 ?_;refine Z66 ?_;refine R.fin [0,1,4,6,26] ?_
 refine W.cond (fun ht26=>?_) (fun ht26=>?_)
 ·simp only [Bool.or_eq_true,decide_eq_true_eq,bne_iff_ne,ne_eq] at ht26
  rcases ht26 with (h|h)|h
  ·omega
  ·simp at h;omega
  exact absurd hlast h
 refine O8 ?_;refine R.build (places:=#[(0,1),(1,1),(2,1),(3,2)]) jU (fun w=>by simp) jZ ?_;refine R.box ?_;refine R.go ?_;refine R.fin [0,1,4,6,7] ?_;refine Z2 ?_
 refine R.callOwn (n:=2) (x:=pr l (atR l i).2) Tryz.call219 (ve hi hl hll1 hcl (oid Hp.length 2) _ (by rw [Ao];rfl)) ?_
 refine Z20 ?_;refine R.fin [0,1,4,6,7,8] ?_
 refine W.join ⟨81,A3 4 (.ptr (oid Hp.length 0) 0) (A3 6 (.ptr (oid Hp.length 1) 0) (A3 7 (.ptr (oid Hp.length 2) 0) (A3 8 (.ptr (oid Hp.length 3) 0) (fun _=>.any)))),Hp,[.cells 45 [A2 0,A6 [],A2 0,A2 0,A6 [],.nil],.cells 60 [A2 0,A2 0],pr l (atS l i (atR l i)),.cells 45 (Bt (atR l i).1)],[],none⟩ ?_ ?_
 ·refine Fq ?_;refine Z41 ?_;refine Z23 ?_;refine R.fin [0,1,4,6,7,8,35] ?_
  refine W.cond (fun ht35=>?_) (fun ht35=>?_)
  ·have e:atS l i (atR l i)=(atR l i).2:=if_pos ht35
   refine W.keep [4,6,7,8] ?_;refine AW.skip ?_;exact o9
  have e0:¬((atR l i).2.code != 0)=true:=by rw [ht35];simp
  refine Z2 ?_;refine R.call Tryz.call220 (ABo 1048576 _ hok0 (Nat.le_refl _) hsz0 _) ?_;refine Z0 ?_;refine R.fin [0,1,4,6,7,8,42] ?_
  refine W.cond (fun ht42=>?_) (fun ht42=>?_)
  ·have e:atS l i (atR l i)=Cl 18 (A7 l i).at_ (atR l i).2:=by unfold atS;rw [if_neg e0,if_pos ht42]
   refine Z29 ?_
   refine R.go (h:=Q.indexAddr (i) (H5 (A7 l i)) (fun _=>Pn hi)) (hr:=?_)
   refine Z0 ?_
   refine R.callOwn (n:=2) (x:=pr l (Cl 18 (A7 l i).at_ (atR l i).2)) Tryz.call221 (fk l (atR l i).2 18 (A7 l i).at_ (oid Hp.length 2) _ (by rw [Ao];rfl)) ?_
   refine R.fin [4,6,7,8] ?_;exact o9
  have e1:¬decide ((30:Int)<depthE (atR l i).1)=true:=by rw [ht42];simp
  refine Z2 ?_;refine R.call Tryz.call53 (c53 1048576 _ hok0 (Nat.le_refl _) hsz0 _) ?_;refine Z0 ?_;refine R.fin [0,1,4,6,7,8,53] ?_
  refine W.cond (fun ht53=>?_) (fun ht53=>?_)
  ·have e:atS l i (atR l i)=Cl 3 (A7 l i).at_ (atR l i).2:=by unfold atS;rw [if_neg e0,if_neg e1,if_pos ht53]
   refine Z29 ?_
   refine R.go (h:=Q.indexAddr (i) (H5 (A7 l i)) (fun _=>Pn hi)) (hr:=?_)
   refine Z0 ?_
   refine R.callOwn (n:=2) (x:=pr l (Cl 3 (A7 l i).at_ (atR l i).2)) Tryz.call221 (fk l (atR l i).2 3 (A7 l i).at_ (oid Hp.length 2) _ (by rw [Ao];rfl)) ?_
   refine R.fin [4,6,7,8] ?_;exact o9
  have e:atS l i (atR l i)=(atR l i).2:=by unfold atS;rw [if_neg e0,if_neg e1,if_neg (by rw [ht53];simp)]
  refine W.keep [4,6,7,8] ?_;refine AW.skip ?_;exact o9
 refine Z57 ?_;refine Z0 ?_;refine R.fin [4,6,7,8,69] ?_
 refine W.cond (fun ht69=>?_) (fun ht69=>?_)
 ·have e:atM l i=(Ab,0,(atS l i (atR l i)).code,(atS l i (atR l i)).at_):=if_pos ht69
  refine W.drawY [0,0,2,6,14,1,33,127] [5] [.q 5 [] [],.s [] (some 0) [] [],.q 1 [0] []] (fun _=>Hp) (fun _=>[.cells 45 [A2 0,A6 [],A2 0,A2 0,A6 [],.nil],.cells 60 [A2 0,A2 0],pr l (atS l i (atR l i)),.cells 45 (Bt (atR l i).1)]) Ad (by kernel_rfl) rfl rfl (fun _=>rfl) ?_
  apply Y.q
  case h1 =>
   intro B hT hF
   refine D.build (places:=#[(0,1),(1,1),(2,3),(5,1)]) jU (fun w=>by simp) jZ ?_;exact j9
  case hTF=>decide
  refine Y.storeOwn (u:=Hp.length) (n:=0) (t':=45) (cs:=[A2 0,A6 [],A2 0,A2 0,A6 [],.nil]) (cs':=[A2 0,A6 [],A2 0,A2 0,A6 [],.nil]) Tryz.sizeOf45 (fun B hB=>⟨rfl,rfl,rfl,rfl⟩) ?_
  apply Y.q
  case h1 =>
   intro B hT hF
   exact Z91
  case hTF=>decide
  refine Y.tail (tn:=[5])  ?_;refine R.nilCell 0 5 6 ?_;refine Fk ?_;refine R.fin [4,5,6] ?_;refine Z37 ?_;exact K.fin (V.three (V.cellN jA jS) V.tmp (V.cellN jA jS)) ⟨by rw [e,ln]<;>rfl,rfl⟩
 have e:atM l i=((atR l i).1,((atS l i (atR l i)).i:Int),0,0):=if_neg (by rw [ht69];simp)
 refine Z5 ?_;refine W.drawY [0,0,2,6,14,0,1,95,255] [6] [.q 6 [] [],.s [] (some 0) [] [],.q 1 [0] []] (fun _=>Hp) (fun B=>[.cells 45 (if B 0=true then Bt (atR l i).1 else [A2 0,A6 [],A2 0,A2 0,A6 [],.nil]),.cells 60 [A2 0,A2 0],pr l (atS l i (atR l i)),.cells 45 (Bt (atR l i).1)]) Ad (by kernel_rfl) rfl rfl (fun _=>rfl) ?_
 apply Y.q
 case h1 =>
  intro B hT hF
  refine Y0 ?_;exact wy
 case hTF=>decide
 refine Y.storeOwn (u:=Hp.length) (n:=0) (t':=45) (cs:=[A2 0,A6 [],A2 0,A2 0,A6 [],.nil]) (cs':=Bt (atR l i).1) Tryz.sizeOf45 (fun B hB=>⟨rfl,by simp only [hB];rfl,by simp [upd],rfl⟩) ?_
 apply Y.q
 case h1 =>
  intro B hT hF
  exact Z91
 case hTF=>decide
 refine Y.tail (tn:=[6]) (O:=[.cells 45 (Bt (atR l i).1),.cells 60 [A2 0,A2 0],pr l (atS l i (atR l i)),.cells 45 (Bt (atR l i).1)]) ?_;refine Fk ?_;refine R.fin [4,5,6] ?_;refine AW.ret ?_;exact K.fin (V.three (V.cellN jA jS) V.tmp (V.cellN jA jS)) ⟨by rw [e,A8]<;>rfl,rfl⟩ (hlow:=by have:=low_agg (n:=Hp.length) (atR l i).1;simp at this ⊢;exact this)

theorem qw {s:Str} (h:(Ee s).2.1=0):(Ee s).1.length≤4002:=by
 obtain ⟨h1,_,h3⟩:=q8 h
 have h2:=Ph s
 rw [h3]
 simp only [List.length_append,List.length_map,List.length_cons,List.length_nil]
 omega
theorem qx {l:List Tok} (hl:TokEnd l) (hll:l.length≤1048576) {i:Nat} (hi:i<l.length) (h:(atM l i).2.2.1=0):∃k:Nat,(atM l i).2.1=(k:Int)∧k<l.length:=by
 have hq:=Q7 hl hll hi
 unfold atM at h ⊢
 split at h
 ·rename_i h1
  have:(atS l i (atR l i)).code=0:=h
  rw [this] at h1
  cases h1
 rename_i h1
 rw [if_neg h1]
 refine ⟨(atS l i (atR l i)).i,rfl,?_⟩
 have e:(atS l i (atR l i)).i=(atR l i).2.i:=by
  unfold atS
  repeat' split
  all_goals first|rfl|exact failM_i.1
 rw [e]
 exact hq.lt
theorem R9 {α:Type} {a b:List α} (hl:a.length=b.length) (h:∀(j:Nat) (y:α),j<a.length→a[j]? = some y→b[j]? = some y):a=b:=by
 apply List.ext_getElem hl
 intro j h1 h2
 have:=h j a[j] h1 (List.getElem?_eq_getElem h1)
 rw [List.getElem?_eq_getElem h2] at this
 injection this with this
 exact this.symm
theorem Cc {n k:Nat} {o:Bool} {l:List Expr}:Low n (.slice o k (l.map A4)):=low_slice.2 fun y hy=>by
 obtain ⟨a,_,rfl⟩:=List.mem_map.1 hy
 exact Ac _ a
theorem fu {l:List Expr} {n f:Nat} (h0:l.isEmpty=false) (h:Km l n=true):El f l n=true:=by
 cases f with
 | zero=>rw [El,h0];rfl
 | succ f=>rw [El,if_neg (by rw [h0];simp),if_pos h]
theorem qy {l:List Expr} {n y:Nat} (hy:y<l.length) (h:500<n+y+1∨Mt l[y]=true):Km l n=true:=by
 unfold Km
 rcases h with h|h
 ·rw [decide_eq_true (by omega)];rfl
 rw [List.any_eq_true.2 ⟨_,List.getElem_mem hy,h⟩,Bool.or_true]
theorem Q8 {l:List Expr}:∀(y:Nat),y≤l.length→(∀(j:Nat) (e:Expr),j<y→l[j]? = some e→Mt e=false)→((l.take y).flatMap Expr.kids).length≤100*y
 | 0,_,_=>by simp
 | y+1,hy,h=>by
  rw [List.take_succ_eq_append_getElem hy,List.flatMap_append,List.length_append]
  have h1:=Q8 y (by omega) (fun j e hj he=>h j e (by omega) he)
  have h2:=U4 (h y l[y] (by omega) (List.getElem?_eq_getElem _))
  simp only [List.flatMap_cons,List.flatMap_nil,List.append_nil]
  omega
structure WideAt (l0:List Expr) (x:List Expr×Nat×Nat):Prop where
 eq:El 61 l0 0=El x.2.2 x.1 x.2.1
 f:x.2.2≤61
 n:x.2.1≤500
theorem c43 (l0:List Expr) (Hp:List AObj):AFun Tryz.prog 43 [.slice false 6 (l0.map A4),A2 0] Hp (Al (El 61 l0 0)):=by
 refine ACall.body [.tmp 4] [0,1] Tryz.func43 Tryz.ntmps43 (fun d=>?_)
 refine Z62 ?_;refine Z2 ?_;refine R.fin [0,1,5] ?_;refine W.seq ?_
 refine AW.loopC (α:=List Expr×Nat×Nat) (fun x=>⟨67,A3 0 (.slice false 6 (x.1.map A4)) (A3 1 (A2 (61-(x.2.2:Int))) (A3 5 (A2 (x.2.1:Nat)) (fun _=>.any))),Hp,[],[],none⟩) (fun x=>WideAt l0 x) (fun x=>x.2.2) ((l0,0,61)) ⟨rfl,Nat.le_refl _,Nat.zero_le _⟩ (StLe.of_eq (by simp)) rfl (fun x hx=>?_)
 refine Z35 ?_;refine R.fin [0,1,5,10] ?_
 refine W.cond (fun ht10=>?_) (fun ht10=>?_)
 ·have hpos:0<x.1.length:=by simpa using ht10
  have hne:x.1.isEmpty=false:=by cases hxx:x.1 with
   | nil=>rw [hxx] at hpos;simp at hpos
   | cons a r=>rfl
  have hxf:=hx.f
  refine Z5 ?_;refine Fq ?_;refine Xs ?_;refine Ic ?_;refine R.fin [0,1,5,6] ?_;refine Z31 ?_;refine R.fin [0,1,5,6,7] ?_
  refine AW.loopC (α:=Nat) (fun y=>⟨67,A3 0 (.slice false 6 (x.1.map A4)) (A3 1 (A2 (61-(x.2.2:Int))) (A3 5 (A2 ((x.2.1+y:Nat):Int)) (A3 6 (.slice true 6 (((x.1.take y).flatMap Expr.kids).map A4)) (A3 7 (A2 (y:Nat)) (fun _=>.any))))),Hp,[],[],none⟩) (fun y=>y≤x.1.length∧x.2.1+y≤500∧∀(j:Nat) (e:Expr),j<y→x.1[j]? = some e→Mt e=false) (fun y=>x.1.length-y) (0) ⟨Nat.zero_le _,hx.n,fun j e h=>by omega⟩ (StLe.of_eq (by simp)) rfl (fun y hy=>?_)
  refine Z57 ?_;refine R.fin [0,1,5,6,7,15] ?_
  refine W.cond (fun ht15=>?_) (fun ht15=>?_)
  ·have hlt:y<x.1.length:=by simpa using ht15
   have hyn:=hy.2.1
   refine Tl ?_;refine R.fin [0,1,5,6,7] ?_;refine Z35 ?_;refine Z7 ?_
   refine G.go (h:=Q.indexAddr (y) (A4 x.1[y]) (fun _=>Ae hlt)) (hr:=?_)
   refine Mf ?_;refine Z27 ?_
   refine G.go (h:=Q.indexAddr (y) (A4 x.1[y]) (fun _=>Ae hlt)) (hr:=?_)
   refine Mf ?_;refine G.go ?_;refine Z27 ?_
   refine G.go (h:=Q.indexAddr (y) (A4 x.1[y]) (fun _=>Ae hlt)) (hr:=?_)
   refine Mf ?_;refine R.go ?_;refine R.fin [0,1,5,6,7,49] ?_
   refine W.cond (fun ht49=>?_) (fun ht49=>?_)
   ·have hm:Km x.1 x.2.1=true:=qy hlt (by
     simp only [Bool.or_eq_true,decide_eq_true_eq,List.length_map] at ht49
     unfold Mt
     simp only [Bool.or_eq_true,decide_eq_true_eq]
     omega)
    have hw:=fu (f:=x.2.2) hne hm
    refine jr ?_;refine Z34 ?_;refine K.blR ?_;exact xk
   have hfat:Mt x.1[y]=false∧x.2.1+y+1≤500:=by
    simp only [Bool.or_eq_false_iff,decide_eq_false_iff_not,List.length_map] at ht49
    unfold Mt
    simp only [Bool.or_eq_false_iff,decide_eq_false_iff_not]
    omega
   have hkl:=(U4 hfat.1).2.2
   have hfm:(x.1.take (y+1)).flatMap Expr.kids=(x.1.take y).flatMap Expr.kids++x.1[y].kids:=by rw [List.take_succ_eq_append_getElem hlt,List.flatMap_append];simp
   refine Z5 ?_;refine V5 ?_;refine Z0 ?_
   refine R.go (h:=Q.indexAddr (y) (A4 x.1[y]) (fun _=>Ae hlt)) (hr:=?_)
   refine Z0 ?_
   refine R.append jU Tryz.type45 ?_ ?_ ?_
   ·have h1:=Q8 y hy.1 hy.2.2;have h2:=hkl;have h3:=hy.2.1;simp only [List.length_map,Tryz.t45];omega
   ·have h1:=Q8 y hy.1 hy.2.2;have h2:=hkl;have h3:=hy.2.1;simp only [List.length_map,Tryz.t45];omega
   refine Ic ?_;refine R.fin [0,1,5,6,7] ?_;refine P0 ?_;refine R.fin [0,1,5,6,7] ?_
   refine K.lpN (y+1) ⟨hlt,by omega,Av hlt hy.2.2 hfat.1⟩ (by omega) (StCut.of_eq ?_)
   rw [hfm,List.map_append]
   rfl
  have hye:x.1.take y=x.1:=List.take_of_length_le (by simp at ht15;omega)
  have hyl:y=x.1.length:=by have:=hy.1;simp at ht15;omega
  have hmany:Km x.1 x.2.1=false:=by
   unfold Km
   rw [decide_eq_false (by have:=hy.2.1;omega),Bool.false_or,List.any_eq_false]
   intro e he
   obtain ⟨j,hj⟩:=List.getElem?_of_mem he
   rw [hy.2.2 j e (by have:=(List.getElem?_eq_some_iff.1 hj).1;omega) hj]
   simp
  refine Z47 ?_;refine Z8 ?_;refine Z27 ?_;refine R.go ?_;refine R.fin [1,5,6,63] ?_
  refine W.cond (fun ht63=>?_) (fun ht63=>?_)
  ·have hw:El x.2.2 x.1 x.2.1=true:=by
    have h9:=ht63
    rw [hye] at h9
    simp only [Bool.or_eq_true,decide_eq_true_eq,List.length_map] at h9
    cases hf:x.2.2 with
    | zero=>rw [El,hne];rfl
    | succ f =>
     rw [El,if_neg (by rw [hne];simp),if_neg (by rw [hmany];simp),if_pos (by rw [decide_eq_true_eq];omega)]
   refine jr ?_;refine K.blR ?_;exact xk
  have h9:=ht63
  rw [hye] at h9
  simp only [Bool.or_eq_false_iff,decide_eq_false_iff_not,List.length_map] at h9
  obtain ⟨f,hf⟩:∃f,x.2.2=f+1:=⟨x.2.2-1,by omega⟩
  have hw:El x.2.2 x.1 x.2.1=El f (x.1.flatMap Expr.kids) (x.2.1+x.1.length):=by
   rw [hf,El,if_neg (by rw [hne];simp),if_neg (by rw [hmany];simp),if_neg (by rw [decide_eq_true_eq];omega)]
  refine O8 ?_;refine R.fin [0,1,5] ?_;refine Z29 ?_;refine R.fin [0,1,5] ?_;refine K.blN ?_
  refine K.lpN (x.1.flatMap Expr.kids,x.2.1+x.1.length,f) ⟨hx.eq.trans hw,by show f≤61;omega,by show x.2.1+x.1.length≤500;have:=hy.2.1;omega⟩ (by show f<x.2.2;omega) (StCut.of_eq ?_)
  rw [hye,hyl]
  congr 4
  simp only [AV.v.injEq,Value.int.injEq,true_and]
  omega
 have hnil:x.1=[]:=by have:=ht10;simp at this;exact this
 refine Z47 ?_;refine V6 ?_;exact K.fin (V.one V.tmp) ⟨by rw [hx.eq,hnil];cases x.2.2<;>rfl,rfl⟩

theorem c21 (e:Expr) (Hp:List AObj):AFun Tryz.prog 21 [A4 e] Hp (Al (Nm e)):=by
 refine ACall.body [.tmp 2] [0] Tryz.func21 Tryz.ntmps21 (fun d=>?_)
 refine Y2 ?_;refine Kg ?_;refine R.call Tryz.call43 (c43 [e] _) ?_;exact o7

theorem Wi {a b:List Expr} (hl:a.length=b.length) (h:∀(j:Nat) (y z:Expr),j<a.length→a[j]? = some y→b[j]? = some z→eqE y z=true):eqL a b=true:=by
 rw [Lv]
 refine R9 hl fun j y hj hy=>?_
 have hjb:j<b.length:=by omega
 have:=h j y b[j] hj hy (List.getElem?_eq_getElem hjb)
 rw [List.getElem?_eq_getElem hjb,(U1 _ _).1 this]
theorem vf {a b:List Expr} (h:eqL a b=true) {j:Nat} (hj:j<a.length) (hb:j<b.length):eqE a[j] b[j]=true:=by
 have e:=(Lv _ _).1 h
 subst e
 exact l7 _
theorem lz {a b:List Expr} {j:Nat} (hj:j<a.length) (hb:j<b.length) (h:eqE a[j] b[j]=false):eqL a b=false:=by
 rw [Bool.eq_false_iff]
 intro h2
 rw [vf h2 hj hb] at h
 cases h
theorem bn {a b:List Expr} (h:a.length≠b.length):eqL a b=false:=by
 rw [Bool.eq_false_iff]
 exact fun h2=>h (py h2)
theorem sr {a b:List Expr} {x:Nat} (hx:x<a.length) (hb:x<b.length) (h:∀(j:Nat) (y z:Expr),j<x→a[j]? = some y→b[j]? = some z→eqE y z=true) (he:eqE a[x] b[x]=true):∀(j:Nat) (y z:Expr),j<x+1→a[j]? = some y→b[j]? = some z→eqE y z=true:=by
 intro j y z hj h1 h2
 rcases Nat.lt_or_ge j x with h3|h3
 ·exact h j y z h3 h1 h2
 have:j=x:=by omega
 subst this
 rw [List.getElem?_eq_getElem hx] at h1
 rw [List.getElem?_eq_getElem hb] at h2
 injection h1 with h1
 injection h2 with h2
 rw [←h1,←h2]
 exact he
def Wj (x y:Expr):Bool:=((x.op==y.op)&&(x.text==y.text))&&((x.val.kind==y.val.kind&&x.val.n==y.val.n)&&x.val.s==y.val.s)
theorem U9 (x y:Expr):eqE x y=(Wj x y&&eqL x.kids y.kids):=l6 x y
theorem c25:∀(n:Nat) (x:Expr),okE n x→∀(y:Expr) (Hp:List AObj),AFun Tryz.prog 25 [A4 x,A4 y] Hp (Al (eqE x y)):=by
 intro n
 induction n with
 | zero=>exact fun x h=>h.elim
 | succ n ih =>
 intro x hok y Hp
 refine ACall.body [.tmp 4] [0,1] Tryz.func25 Tryz.ntmps25 (fun d=>?_)
 refine Z17 ?_;refine F8 ?_;refine Z57 ?_;refine Z56 ?_;refine G.go ?_;refine Z56 ?_
 refine G.go (h:=Q.neqAgg k8 (fun w=>Lp x.val.kind x.val.n y.val.kind y.val.n x.val.s y.val.s w)) (hr:=?_)
 refine Z56 ?_;refine Z7 ?_;refine Z66 ?_;refine R.fin [2,3,33] ?_
 refine W.cond (fun ht33=>?_) (fun ht33=>?_)
 ·have hf:eqE x y=false:=by
   rw [U9]
   simp only [Bool.or_eq_true,bne_iff_ne,ne_eq,List.length_map,Bool.not_eq_true'] at ht33
   by_cases hh:Wj x y=true
   ·rw [hh,Bool.true_and]
    refine bn ?_
    unfold Wj at hh
    simp only [Bool.and_eq_true,beq_iff_eq] at hh
    obtain ⟨⟨h1,h2⟩,⟨h3,h4⟩,h5⟩:=hh
    rcases ht33 with ((h|h)|h)|h
    ·exact absurd h1 h
    ·simp [h2] at h
    ·simp [h3,h4,h5] at h
    intro e;exact h (by rw [e])
   rw [Bool.not_eq_true] at hh
   rw [hh,Bool.false_and]
  refine jr ?_;exact uf
 have hh:Wj x y=true∧x.kids.length=y.kids.length:=by
  simp only [Bool.or_eq_false_iff,bne_eq_false_iff_eq,List.length_map,Bool.not_eq_false'] at ht33
  obtain ⟨⟨⟨h1,h2⟩,h3⟩,h4⟩:=ht33
  unfold Wj
  refine ⟨?_,by omega⟩
  simp only [beq_iff_eq,Bool.and_eq_true] at h1 h2 h3 ⊢
  exact ⟨⟨h1,h2⟩,h3⟩
 obtain ⟨hh,hlen⟩:=hh
 have hkl:=hok.2.1
 refine Tn ?_;refine R.fin [2,3,5] ?_
 refine AW.loopC (α:=Nat) (fun i=>⟨53,A3 2 (.ro (Bt x)) (A3 3 (.ro (Bt y)) (A3 5 (A2 (i:Nat)) (fun _=>.any))),Hp,[],[],none⟩) (fun i=>i≤x.kids.length∧∀(j:Nat) (a b:Expr),j<i→x.kids[j]? = some a→y.kids[j]? = some b→eqE a b=true) (fun i=>x.kids.length-i) (0) ⟨Nat.zero_le _,fun j a b h=>by omega⟩ (StLe.refl _) rfl (fun i hi=>?_)
 refine P1 ?_;refine R.fin [2,3,5,38] ?_
 refine W.cond (fun ht38=>?_) (fun ht38=>?_)
 ·have hlt:i<x.kids.length:=by simpa using ht38
  have hly:i<y.kids.length:=by omega
  refine Z43 ?_;refine W.drawQ [0,1,0,7,15,0,32,0,224,480,1023,2047] 10 Ad (by kernel_rfl) ?_;refine Z53 ?_
  refine D.go (h:=Q.indexAddr (i) (A4 x.kids[i]) (fun _=>Ae hlt)) (hr:=?_)
  refine Z81 ?_
  refine D.go (h:=Q.indexAddr (i) (A4 y.kids[i]) (fun _=>Ae hly)) (hr:=?_)
  refine D.go ?_;refine D.tail ?_;refine R.call Tryz.call25 (ih x.kids[i] (hok.2.2 _ (List.getElem_mem hlt)) y.kids[i] _) ?_;refine R.go ?_;refine R.fin [2,3,5,52] ?_
  refine W.cond (fun ht52=>?_) (fun ht52=>?_)
  ·have hf:eqE x y=false:=by rw [U9,lz hlt hly (by simpa using ht52),Bool.and_false]
   refine V6 ?_;exact xy
  have he:eqE x.kids[i] y.kids[i]=true:=by simpa using ht52
  refine Z64 ?_;refine R.fin [2,3,5] ?_;exact K.lpN (i+1) ⟨hlt,sr hlt hly hi.2 he⟩ (by omega) (StCut.of_eq rfl)
 have hxe:x.kids.length≤i:=by simpa using ht38
 refine Z47 ?_;refine V6 ?_;exact K.fin (V.one V.tmp) ⟨by rw [U9,hh,Wi hlen (fun j a b hj=>hi.2 j a b (by omega))];rfl,rfl⟩

theorem ABq (n:Nat) (a b:List Expr) (ha:a.length≤1048576) (hok:∀y∈a,okE n y) (ih:∀(x:Expr),okE n x→∀(y:Expr) (Hp:List AObj),AFun Tryz.prog 129 [A4 x,A4 y] Hp (Al (eqE x y))) (Hp:List AObj):AFun Tryz.prog 164 [.slice false 6 (a.map A4),.slice false 6 (b.map A4),.fn (.func 129) [] []] Hp (Al (eqL a b)):=by
 refine ACall.body [.tmp 6] [0,1,2] Tryz.func164 Tryz.ntmps164 (fun d=>?_)
 refine Z2 ?_;refine Tp ?_;refine P1 ?_;refine R.fin [0,1,2,14] ?_
 refine W.cond (fun ht14=>?_) (fun ht14=>?_)
 ·have hf:eqL a b=false:=bn (by have:=ht14;simp at this;omega)
  refine Z2 ?_;refine jf ?_;exact uf
 have hlen:a.length=b.length:=by have:=ht14;simp at this;omega
 refine Z5 ?_;refine Z35 ?_;refine R.fin [1,2,15,16,17] ?_
 refine AW.loopC (α:=Nat) (fun i=>⟨32,A3 1 (.slice false 6 (b.map A4)) (A3 2 (.fn (.func 129) [] []) (A3 15 (.slice false 6 (a.map A4)) (A3 16 (A2 (a.length:Nat)) (A3 17 (A2 (i:Nat)) (fun _=>.any))))),Hp,[],[],none⟩) (fun i=>i≤a.length∧∀(j:Nat) (y z:Expr),j<i→a[j]? = some y→b[j]? = some z→eqE y z=true) (fun i=>a.length-i) (0) ⟨Nat.zero_le _,fun j y z h=>by omega⟩ (StLe.of_eq (by simp)) rfl (fun i hi=>?_)
 refine Z2 ?_;refine R.fin [1,2,15,16,17,18] ?_
 refine W.condX (fun ht18=>?_) (fun ht18=>?_)
 ·have hlt:i<a.length:=by simpa using ht18
  have hlb:i<b.length:=by omega
  refine O7 ?_
  refine R.go (h:=Q.indexAddr (i) (A4 a[i]) (fun _=>Ae hlt)) (hr:=?_)
  refine dt ?_;refine R.fin [1,2,7,8,15,16,17] ?_;refine Z1 ?_
  refine R.go (h:=Q.indexAddr (i) (A4 b[i]) (fun _=>Ae hlb)) (hr:=?_)
  refine O5 ?_;refine R.fin [1,2,8,9,15,16,17] ?_;refine Z17 ?_;refine R.callV Tryz.call129 (ih a[i] (hok _ (List.getElem_mem hlt)) b[i] _) ?_;refine R.go ?_;refine R.fin [1,2,15,16,17,30] ?_
  refine W.cond (fun ht30=>?_) (fun ht30=>?_)
  ·have hf:eqL a b=false:=lz hlt hlb (by simpa using ht30)
   refine Z2 ?_;refine Z86 ?_;exact xy
  have he:eqE a[i] b[i]=true:=by simpa using ht30
  refine Mc ?_;refine R.fin [1,2,15,16,17] ?_;refine K.lpN (i+1) ⟨hlt,sr hlt hlb hi.2 he⟩ (by omega) ?_
  exact StCut.take (own:=[]) (fun _=>.refl _) (by repeat (first|exact Ar|refine Aq (by first|exact Cc|(simp;done)) ?_)) (by simp) (by simp)
 have hxe:a.length≤i:=by simpa using ht18
 refine dn ?_;refine Z86 ?_;exact K.fin (V.one V.tmp) ⟨by rw [Wi hlen (fun j y z hj=>hi.2 j y z (by omega))],rfl⟩

theorem zq:∀(n:Nat) (x:Expr),okE n x→∀(y:Expr) (Hp:List AObj),AFun Tryz.prog 129 [A4 x,A4 y] Hp (Al (eqE x y)):=by
 intro n
 induction n with
 | zero=>exact fun x h=>h.elim
 | succ n ih =>
 intro x hok y Hp
 refine ACall.body [.tmp 4] [0,1] Tryz.func129 Tryz.ntmps129 (fun d=>?_)
 refine Z17 ?_;refine F8 ?_;refine Z41 ?_;refine Z56 ?_;refine G.go ?_;refine Z56 ?_
 refine G.go (h:=Q.eqlAgg k8 (fun w=>Lp x.val.kind x.val.n y.val.kind y.val.n x.val.s y.val.s w)) (hr:=?_)
 refine Z56 ?_;refine G.call Tryz.call164 (fun hB=>ABq n x.kids y.kids hok.2.1 hok.2.2 ih _) ?_;refine Z0 ?_;refine Z22 ?_;exact K.fin (V.one V.tmp) ⟨by rw [l6],rfl⟩

set_option maxRecDepth 8000
/-! Moves: what mig.Right, sound.* and the document's layers 18, 19 answer. -/
structure Mov where
 kind:Int
 take:List Str
 give:List Col
 ahead:List Expr
 back:List Expr
abbrev Ay (l:List Expr):AV:=.slice false 6 (l.map A4)
abbrev Fy (m:Mov):List AV:=[A2 m.kind,D6 m.take,A9 m.give,Ay m.ahead,Ay m.back]
abbrev E3 (m:Mov):AV:=.agg (Fy m)
abbrev Cp (l:List Mov):AV:=.slice false 5 (l.map E3)
/-- Trees that may be walked. -/
structure OkEs (l:List Expr):Prop where
 len:l.length≤1048576
 ok:∀e∈l,okE 61 e
 size:∀e∈l,sizeE e≤1048576
 rng:∀e∈l,Cs Gg e=true
structure OkMov (m:Mov):Prop where
 takes:m.take.length≤1048576
 names:∀s∈m.take,s.length≤1048576
 gives:OkCols m.give
 gives2:m.give.length≤1000000
 ahead:OkEs m.ahead
 back:OkEs m.back
structure OkMovs (l:List Mov):Prop where
 len:l.length≤1048576
 each:∀m∈l,OkMov m
def Cy (m:Mov):Bool:=
 if ((m.ahead.length:Int) != (m.give.length:Int)) || ((m.back.length:Int) != (m.take.length:Int)) then false
 else if m.kind==1 then ((m.take.length:Int)==0)&&((m.give.length:Int)==1)
 else if m.kind==2 then ((m.take.length:Int)==1)&&((m.give.length:Int)==0)
 else if (m.kind==3) || (m.kind==6) then ((m.take.length:Int)==1)&&((m.give.length:Int)==1)
 else if m.kind==4 then ((m.take.length:Int)==1)&&decide ((1:Int)<(m.give.length:Int))
 else if m.kind==5 then decide ((1:Int)<(m.take.length:Int))&&((m.give.length:Int)==1)
 else false
def Fz (m:Mov) (c:Col):Bool:=Bg c.name&&(((Ax c.kind==[])==(m.kind==3)) && !((m.kind==3)&&(c.kind != 0)))
def H9 (m:Mov):Bool:=
 if m.kind==3 then eqE (m.ahead.getD 0 Ab) (Bd (m.take.getD 0 []))&&eqE (m.back.getD 0 Ab) (Bd (m.give.getD 0 ⟨[],0⟩).name)
 else if m.kind==6 then m.take.getD 0 []==(m.give.getD 0 ⟨[],0⟩).name else true
def D7 (m:Mov):Bool:=(((((Cy m&&m.give.all (Fz m))&&m.take.all Bg)&&m.ahead.all Af)&&m.back.all Af)&&H9 m)
def Jq (l:List Mov):Bool:=decide ((l.length:Int)≤8)&&l.all D7
/-! Columns behind moves. -/
def Ko (e:Expr) (c:List Col) (w:Int):Bool:=((Cb e c).2==0)&&(((Cb e c).1==w) || ((Cb e c).1==0))
def Ah (c:List Col) (m:Mov):List Col:=
 if m.kind==3 then (if Aj (m.take.getD 0 []) c<0 then m.give else match m.give with
  | []=>[]
  | y::r=>⟨y.name,(c.getD (Aj (m.take.getD 0 []) c).toNat ⟨[],0⟩).kind⟩::r)
 else m.give
def Ih (e:Expr) (c:List Col) (w:Int):Int:=if (Cb e c).2 != 0 then (Cb e c).2 else if !Ko e c w then 10 else 0
def Bh (over:List Col):List Expr→List Col→Int
 | x::r,w::ws=>if Ih x over w.kind != 0 then Ih x over w.kind else Bh over r ws
 | _,_=>0
def D5 (c:List Col) (m:Mov):List Col:=m.take.map fun s=>c.getD (Aj s c).toNat ⟨[],0⟩
def Ap (c:List Col) (m:Mov):List Col×Int:=
 if (Bn c m.take (Ah c m)).2 != 0 then ([],(Bn c m.take (Ah c m)).2)
 else if Bh c m.ahead (Ah c m) != 0 then ([],Bh c m.ahead (Ah c m))
 else if Bh (Bn c m.take (Ah c m)).1 m.back (D5 c m) != 0 then ([],Bh (Bn c m.take (Ah c m)).1 m.back (D5 c m))
 else ((Bn c m.take (Ah c m)).1,0)
/-- The columns ahead of each move and behind the last one, till one is wrong; the error. -/
def Bj (c:List Col):List Mov→List (List Col)×Int
 | []=>([c],0)
 | m::r=>if (Ap c m).2 != 0 then ([c],(Ap c m).2) else (c::(Bj (Ap c m).1 r).1,(Bj (Ap c m).1 r).2)
def Jr (c:List Col) (l:List Mov):Bool:=Az c&&Jq l
/-- ref19.Steps. -/
def Fd (c:List Col) (l:List Mov):List (List Col)×Int:=if Jr c l then Bj c l else ([],1)
/-- sound.Steps. -/
def D9 (c:List Col) (l:List Mov):List (List Col)×Int:=if (Fd c l).2 != 0 then ([],(Fd c l).2) else Fd c l
theorem I6 {m:Mov} (h:D7 m=true):Cy m=true:=by
 unfold D7 at h
 simp only [Bool.and_eq_true] at h
 exact h.1.1.1.1.1
theorem Do {m:Mov} (h:Cy m=true):m.ahead.length=m.give.length∧m.back.length=m.take.length:=by
 unfold Cy at h
 split at h
 ·cases h
 rename_i h1
 simp only [Bool.or_eq_true,bne_iff_ne,ne_eq,not_or,Classical.not_not] at h1
 omega
theorem Js {m:Mov} (h:Cy m=true) (h3:((m.kind==3) || (m.kind==6))=true):m.take.length=1∧m.give.length=1:=by
 unfold Cy at h
 split at h
 ·cases h
 have h1:(m.kind==1)=false:=by simp at h3 ⊢;omega
 have h2:(m.kind==2)=false:=by simp at h3 ⊢;omega
 simp only [h1,h2,h3,if_true,if_false,Bool.false_eq_true,Bool.and_eq_true,beq_iff_eq] at h
 omega
theorem F1 (c:List Col) (m:Mov):(Ah c m).length=m.give.length:=by
 unfold Ah
 split
 ·split
  ·rfl
  split<;>simp_all
 rfl
set_option maxRecDepth 4000
abbrev Nq (s:Sign):AV:=.agg [.slice false 1 (s.kids.map A2),A2 s.own]
theorem Ga {n:Nat} (s:Sign):Low n (Nq s):=by simp [or_imp,forall_and]
theorem vg {m:Sign} {a o:Int} (h:m=⟨[a],o⟩):AV.agg [.slice false 1 [A2 a],A2 o]=Nq m:=by rw [h];rfl
theorem m0 {m:Sign} {a b o:Int} (h:m=⟨[a,b],o⟩):AV.agg [.slice false 1 [A2 a,A2 b],A2 o]=Nq m:=by rw [h];rfl
theorem vh {m:Sign} {a b c o:Int} (h:m=⟨[a,b,c],o⟩):AV.agg [.slice false 1 [A2 a,A2 b,A2 c],A2 o]=Nq m:=by rw [h];rfl
theorem ABr (s:Str) (Hp:List AObj):AFun Tryz.prog 147 [A6 s] Hp (Nq (Dl s)):=by
 refine ACall.body [.cell 2 148] [0] Tryz.func147 Tryz.ntmps147 (fun d=>?_)
 refine Z63 ?_;refine Z31 ?_;refine F8 ?_;refine Fq ?_;refine Z8 ?_;refine R.fin [2,3,4] ?_
 refine W.cond (fun ht4=>?_) (fun ht4=>?_)
 ·refine Z5 ?_
  refine W.cond (fun ht4=>?_) (fun ht4=>?_)
  ·exact Z60
  refine Z8 ?_;refine R.fin [2,3,9] ?_
  refine W.cond (fun ht9=>?_) (fun ht9=>?_)
  ·refine Z5 ?_
   refine W.cond (fun ht9=>?_) (fun ht9=>?_)
   ·exact Z60
   refine Z92 ?_
   refine W.cond (fun ht18=>?_) (fun ht18=>?_)
   ·exact Z60
   exact O4
  refine Qz ?_
  refine W.cond (fun ht9=>?_) (fun ht9=>?_)
  ·refine Z5 ?_
   refine W.cond (fun ht9=>?_) (fun ht9=>?_)
   ·exact Z60
   refine Z92 ?_
   refine W.cond (fun ht18=>?_) (fun ht18=>?_)
   ·exact Z60
   exact O4
  refine Qz ?_
  refine W.cond (fun ht9=>?_) (fun ht9=>?_)
  ·refine Z5 ?_
   refine W.cond (fun ht9=>?_) (fun ht9=>?_)
   ·exact Z60
   refine Z92 ?_
   refine W.cond (fun ht18=>?_) (fun ht18=>?_)
   ·exact Z60
   exact O4
  refine Qz ?_
  refine W.cond (fun ht9=>?_) (fun ht9=>?_)
  ·refine Z5 ?_
   refine W.cond (fun ht9=>?_) (fun ht9=>?_)
   ·exact Z60
   refine Z92 ?_
   refine W.cond (fun ht18=>?_) (fun ht18=>?_)
   ·exact Z60
   exact O4
  refine Qz ?_
  refine W.cond (fun ht9=>?_) (fun ht9=>?_)
  ·refine Z5 ?_
   refine W.cond (fun ht9=>?_) (fun ht9=>?_)
   ·exact Z60
   refine Z92 ?_
   refine W.cond (fun ht18=>?_) (fun ht18=>?_)
   ·exact Z60
   exact O4
  refine Z11 ?_;refine R.fin [2,3,9] ?_;refine K.thN ?_
  refine W.cond (fun ht9=>?_) (fun ht9=>?_)
  ·exact Z60
  refine Z92 ?_
  refine W.cond (fun ht18=>?_) (fun ht18=>?_)
  ·exact Z60
  exact O4
 refine Z11 ?_;refine R.fin [2,3,4] ?_;refine K.thN ?_
 refine W.cond (fun ht4=>?_) (fun ht4=>?_)
 ·exact Z60
 refine Z8 ?_;refine R.fin [2,3,9] ?_
 refine W.cond (fun ht9=>?_) (fun ht9=>?_)
 ·refine Z5 ?_
  refine W.cond (fun ht9=>?_) (fun ht9=>?_)
  ·exact Z60
  refine Z92 ?_
  refine W.cond (fun ht18=>?_) (fun ht18=>?_)
  ·exact Z60
  exact O4
 refine Qz ?_
 refine W.cond (fun ht9=>?_) (fun ht9=>?_)
 ·refine Z5 ?_
  refine W.cond (fun ht9=>?_) (fun ht9=>?_)
  ·exact Z60
  refine Z92 ?_
  refine W.cond (fun ht18=>?_) (fun ht18=>?_)
  ·exact Z60
  exact O4
 refine Qz ?_
 refine W.cond (fun ht9=>?_) (fun ht9=>?_)
 ·refine Z5 ?_
  refine W.cond (fun ht9=>?_) (fun ht9=>?_)
  ·exact Z60
  refine Z92 ?_
  refine W.cond (fun ht18=>?_) (fun ht18=>?_)
  ·exact Z60
  exact O4
 refine Qz ?_
 refine W.cond (fun ht9=>?_) (fun ht9=>?_)
 ·refine Z5 ?_
  refine W.cond (fun ht9=>?_) (fun ht9=>?_)
  ·exact Z60
  refine Z92 ?_
  refine W.cond (fun ht18=>?_) (fun ht18=>?_)
  ·exact Z60
  exact O4
 refine Qz ?_
 refine W.cond (fun ht9=>?_) (fun ht9=>?_)
 ·refine Z5 ?_
  refine W.cond (fun ht9=>?_) (fun ht9=>?_)
  ·exact Z60
  refine Z92 ?_
  refine W.cond (fun ht18=>?_) (fun ht18=>?_)
  ·exact Z60
  exact O4
 refine Z11 ?_;refine R.fin [2,3,9] ?_;refine K.thN ?_
 refine W.cond (fun ht9=>?_) (fun ht9=>?_)
 ·exact Z60
 refine Z92 ?_
 refine W.cond (fun ht18=>?_) (fun ht18=>?_)
 ·exact Z60
 exact O4

theorem ABs (s:Str) (Hp:List AObj):AFun Tryz.prog 148 [A6 s] Hp (Nq (Ca s)):=by
 refine ACall.body [.cell 2 148] [0] Tryz.func148 Tryz.ntmps148 (fun d=>?_)
 refine Z63 ?_;refine Z31 ?_;refine F8 ?_;refine Fq ?_;refine Z8 ?_;refine R.fin [2,3,4] ?_
 refine W.cond (fun ht4=>?_) (fun ht4=>?_)
 ·refine Z5 ?_
  refine W.cond (fun ht4=>?_) (fun ht4=>?_)
  ·exact Z88
  refine Qz ?_
  refine W.cond (fun ht9=>?_) (fun ht9=>?_)
  ·exact Z88
  refine Z8 ?_;refine R.fin [2,3,13] ?_
  refine W.cond (fun ht13=>?_) (fun ht13=>?_)
  ·refine Z5 ?_
   refine W.cond (fun ht13=>?_) (fun ht13=>?_)
   ·exact Z88
   refine oh ?_
   refine W.cond (fun ht18=>?_) (fun ht18=>?_)
   ·exact Z88
   refine Z1 ?_;refine R.fin [2,22] ?_
   refine W.cond (fun ht22=>?_) (fun ht22=>?_)
   ·exact Z88
   exact oi
  refine Z11 ?_;refine R.fin [2,3,13] ?_;refine K.thN ?_
  refine W.cond (fun ht13=>?_) (fun ht13=>?_)
  ·exact Z88
  refine oh ?_
  refine W.cond (fun ht18=>?_) (fun ht18=>?_)
  ·exact Z88
  refine Z1 ?_;refine R.fin [2,22] ?_
  refine W.cond (fun ht22=>?_) (fun ht22=>?_)
  ·exact Z88
  exact oi
 refine Z11 ?_;refine R.fin [2,3,4] ?_;refine K.thN ?_
 refine W.cond (fun ht4=>?_) (fun ht4=>?_)
 ·exact Z88
 refine Qz ?_
 refine W.cond (fun ht9=>?_) (fun ht9=>?_)
 ·exact Z88
 refine Z8 ?_;refine R.fin [2,3,13] ?_
 refine W.cond (fun ht13=>?_) (fun ht13=>?_)
 ·refine Z5 ?_
  refine W.cond (fun ht13=>?_) (fun ht13=>?_)
  ·exact Z88
  refine oh ?_
  refine W.cond (fun ht18=>?_) (fun ht18=>?_)
  ·exact Z88
  refine Z1 ?_;refine R.fin [2,22] ?_
  refine W.cond (fun ht22=>?_) (fun ht22=>?_)
  ·exact Z88
  exact oi
 refine Z11 ?_;refine R.fin [2,3,13] ?_;refine K.thN ?_
 refine W.cond (fun ht13=>?_) (fun ht13=>?_)
 ·exact Z88
 refine oh ?_
 refine W.cond (fun ht18=>?_) (fun ht18=>?_)
 ·exact Z88
 refine Z1 ?_;refine R.fin [2,22] ?_
 refine W.cond (fun ht22=>?_) (fun ht22=>?_)
 ·exact Z88
 exact oi

theorem ABt (e:Expr) (Hp:List AObj):AFun Tryz.prog 116 [A4 e] Hp (Nq (Bq e.op e.text)):=by
 refine ACall.body [.cell 2 148] [0] Tryz.func116 Tryz.ntmps116 (fun d=>?_)
 refine jq ?_;refine R.fin [1,2] ?_;refine Z8 ?_;refine R.fin [1,2,4] ?_;refine Lo ?_;refine R.fin [1,2,4,5] ?_
 refine W.cond (fun ht5=>?_) (fun ht5=>?_)
 ·refine Z33 ?_;refine Z6 ?_
  first|(by_cases e0:Bq e.op e.text=⟨[1],1⟩;exact K.fin (V.one (V.cellN Tryz.isAgg148 Tryz.sizeOf148)) ⟨by rw [e0];rfl,rfl⟩;exfalso;apply e0;simp_all [Bq];done)|(by_cases e0:Bq e.op e.text=⟨[3],3⟩;exact K.fin (V.one (V.cellN Tryz.isAgg148 Tryz.sizeOf148)) ⟨by rw [e0];rfl,rfl⟩;exfalso;apply e0;simp_all [Bq];done)|(by_cases e0:Bq e.op e.text=Dl e.text;exact K.fin (V.one (V.cellN Tryz.isAgg148 Tryz.sizeOf148)) ⟨by rw [e0],rfl⟩ (hlow:=Ga _);exfalso;apply e0;simp_all [Bq];done)|(by_cases e0:Bq e.op e.text=Ca e.text;exact K.fin (V.one (V.cellN Tryz.isAgg148 Tryz.sizeOf148)) ⟨by rw [e0],rfl⟩ (hlow:=Ga _);exfalso;apply e0;simp_all [Bq];done)
 refine Z1 ?_;refine R.fin [1,2,4,9] ?_
 refine W.cond (fun ht9=>?_) (fun ht9=>?_)
 ·refine Z33 ?_;refine Z6 ?_
  first|(by_cases e0:Bq e.op e.text=⟨[1],1⟩;exact K.fin (V.one (V.cellN Tryz.isAgg148 Tryz.sizeOf148)) ⟨by rw [e0];rfl,rfl⟩;exfalso;apply e0;simp_all [Bq];done)|(by_cases e0:Bq e.op e.text=⟨[3],3⟩;exact K.fin (V.one (V.cellN Tryz.isAgg148 Tryz.sizeOf148)) ⟨by rw [e0];rfl,rfl⟩;exfalso;apply e0;simp_all [Bq];done)|(by_cases e0:Bq e.op e.text=Dl e.text;exact K.fin (V.one (V.cellN Tryz.isAgg148 Tryz.sizeOf148)) ⟨by rw [e0],rfl⟩ (hlow:=Ga _);exfalso;apply e0;simp_all [Bq];done)|(by_cases e0:Bq e.op e.text=Ca e.text;exact K.fin (V.one (V.cellN Tryz.isAgg148 Tryz.sizeOf148)) ⟨by rw [e0],rfl⟩ (hlow:=Ga _);exfalso;apply e0;simp_all [Bq];done)
 refine Z1 ?_;refine R.fin [1,2,13] ?_
 refine W.cond (fun ht13=>?_) (fun ht13=>?_)
 ·refine Z1 ?_;refine R.call Tryz.call147 (ABr e.text _) ?_;refine Z13 ?_;refine Z6 ?_
  first|(by_cases e0:Bq e.op e.text=⟨[1],1⟩;exact K.fin (V.one (V.cellN Tryz.isAgg148 Tryz.sizeOf148)) ⟨by rw [e0];rfl,rfl⟩;exfalso;apply e0;simp_all [Bq];done)|(by_cases e0:Bq e.op e.text=⟨[3],3⟩;exact K.fin (V.one (V.cellN Tryz.isAgg148 Tryz.sizeOf148)) ⟨by rw [e0];rfl,rfl⟩;exfalso;apply e0;simp_all [Bq];done)|(by_cases e0:Bq e.op e.text=Dl e.text;exact K.fin (V.one (V.cellN Tryz.isAgg148 Tryz.sizeOf148)) ⟨by rw [e0],rfl⟩ (hlow:=Ga _);exfalso;apply e0;simp_all [Bq];done)|(by_cases e0:Bq e.op e.text=Ca e.text;exact K.fin (V.one (V.cellN Tryz.isAgg148 Tryz.sizeOf148)) ⟨by rw [e0],rfl⟩ (hlow:=Ga _);exfalso;apply e0;simp_all [Bq];done)
 refine Z16 ?_;refine Z1 ?_;refine R.call Tryz.call148 (ABs e.text _) ?_;refine Z13 ?_
 first|(by_cases e0:Bq e.op e.text=⟨[1],1⟩;exact K.fin (V.one (V.cellN Tryz.isAgg148 Tryz.sizeOf148)) ⟨by rw [e0];rfl,rfl⟩;exfalso;apply e0;simp_all [Bq];done)|(by_cases e0:Bq e.op e.text=⟨[3],3⟩;exact K.fin (V.one (V.cellN Tryz.isAgg148 Tryz.sizeOf148)) ⟨by rw [e0];rfl,rfl⟩;exfalso;apply e0;simp_all [Bq];done)|(by_cases e0:Bq e.op e.text=Dl e.text;exact K.fin (V.one (V.cellN Tryz.isAgg148 Tryz.sizeOf148)) ⟨by rw [e0],rfl⟩ (hlow:=Ga _);exfalso;apply e0;simp_all [Bq];done)|(by_cases e0:Bq e.op e.text=Ca e.text;exact K.fin (V.one (V.cellN Tryz.isAgg148 Tryz.sizeOf148)) ⟨by rw [e0],rfl⟩ (hlow:=Ga _);exfalso;apply e0;simp_all [Bq];done)

theorem zr (a b:Int) (Hp:List AObj):AFun Tryz.prog 149 [A2 a,A2 b] Hp (.tup [A2 (Be a b).1,Al (Be a b).2]):=by
 refine ACall.body [.tmp 4,.tmp 5] [0,1] Tryz.func149 Tryz.ntmps149 (fun d=>?_)
 refine Z1 ?_;refine R.fin [0,1] ?_;refine Z19 ?_;refine Z17 ?_;refine R.fin [0,1,6] ?_
 refine W.cond (fun ht6=>?_) (fun ht6=>?_)
 ·refine Z17 ?_;refine Z18 ?_;refine Z6 ?_
  first|(by_cases e0:Be a b=(b,true);exact K.fin (V.two V.tmp V.tmp) ⟨by rw [e0],rfl⟩;exfalso;apply e0;simp_all [Be];done)|(by_cases e0:Be a b=(a,true);exact K.fin (V.two V.tmp V.tmp) ⟨by rw [e0],rfl⟩;exfalso;apply e0;simp_all [Be];done)|(by_cases e0:Be a b=(0,false);exact K.fin (V.two V.tmp V.tmp) ⟨by rw [e0],rfl⟩;exfalso;apply e0;simp_all [Be];done)
 refine Jd ?_;refine G.go ?_;refine Z0 ?_;refine R.fin [0,10] ?_
 refine W.cond (fun ht10=>?_) (fun ht10=>?_)
 ·refine Z17 ?_;refine Z18 ?_;refine Z6 ?_
  first|(by_cases e0:Be a b=(b,true);exact K.fin (V.two V.tmp V.tmp) ⟨by rw [e0],rfl⟩;exfalso;apply e0;simp_all [Be];done)|(by_cases e0:Be a b=(a,true);exact K.fin (V.two V.tmp V.tmp) ⟨by rw [e0],rfl⟩;exfalso;apply e0;simp_all [Be];done)|(by_cases e0:Be a b=(0,false);exact K.fin (V.two V.tmp V.tmp) ⟨by rw [e0],rfl⟩;exfalso;apply e0;simp_all [Be];done)
 refine Z16 ?_;refine Z1 ?_;refine Z18 ?_
 first|(by_cases e0:Be a b=(b,true);exact K.fin (V.two V.tmp V.tmp) ⟨by rw [e0],rfl⟩;exfalso;apply e0;simp_all [Be];done)|(by_cases e0:Be a b=(a,true);exact K.fin (V.two V.tmp V.tmp) ⟨by rw [e0],rfl⟩;exfalso;apply e0;simp_all [Be];done)|(by_cases e0:Be a b=(0,false);exact K.fin (V.two V.tmp V.tmp) ⟨by rw [e0],rfl⟩;exfalso;apply e0;simp_all [Be];done)

structure FitAt (s:Sign) (ks:List Int) (x:Nat×Int):Prop where
 le:x.1≤ks.length
 eq:Hs s.kids ks 0=Hs (s.kids.drop x.1) (ks.drop x.1) x.2
theorem FitAt.step {s:Sign} {ks:List Int} {x:Nat×Int} (h:FitAt s ks x) (hk:x.1<ks.length) (hs:x.1<s.kids.length):Hs s.kids ks 0=(if s.kids[x.1] == -2 then Hs (s.kids.drop (x.1+1)) (ks.drop (x.1+1)) x.2 else if s.kids[x.1] == -1 then (if (Be x.2 ks[x.1]).2 then Hs (s.kids.drop (x.1+1)) (ks.drop (x.1+1)) (Be x.2 ks[x.1]).1 else none) else if (Be s.kids[x.1] ks[x.1]).2 then Hs (s.kids.drop (x.1+1)) (ks.drop (x.1+1)) x.2 else none):=by
 rw [h.eq,List.drop_eq_getElem_cons hk,List.drop_eq_getElem_cons hs,Hs]
theorem FitAt.skip {s:Sign} {ks:List Int} {x:Nat×Int} (h:FitAt s ks x) (hk:x.1<ks.length) (hs:x.1<s.kids.length) (h2:(s.kids[x.1] == -2)=true):FitAt s ks (x.1+1,x.2):=⟨hk,by rw [h.step hk hs,if_pos h2]⟩
theorem FitAt.same {s:Sign} {ks:List Int} {x:Nat×Int} (h:FitAt s ks x) (hk:x.1<ks.length) (hs:x.1<s.kids.length) (h2:(s.kids[x.1] == -2)=false) (h1:(s.kids[x.1] == -1)=true) (hm:(Be x.2 ks[x.1]).2=true):FitAt s ks (x.1+1,(Be x.2 ks[x.1]).1):=⟨hk,by rw [h.step hk hs,if_neg (by rw [h2];simp),if_pos h1,if_pos hm]⟩
theorem FitAt.want {s:Sign} {ks:List Int} {x:Nat×Int} (h:FitAt s ks x) (hk:x.1<ks.length) (hs:x.1<s.kids.length) (h2:(s.kids[x.1] == -2)=false) (h1:(s.kids[x.1] == -1)=false) (hm:(Be s.kids[x.1] ks[x.1]).2=true):FitAt s ks (x.1+1,x.2):=⟨hk,by rw [h.step hk hs,if_neg (by rw [h2];simp),if_neg (by rw [h1];simp),if_pos hm]⟩
theorem FitAt.bad {s:Sign} {ks:List Int} {x:Nat×Int} (h:FitAt s ks x) (hk:x.1<ks.length) (hs:x.1<s.kids.length) (h2:(s.kids[x.1] == -2)=false) (hm:(if s.kids[x.1] == -1 then (Be x.2 ks[x.1]).2 else (Be s.kids[x.1] ks[x.1]).2)=false):Fx s ks=(0,10):=by
 unfold Fx
 rw [h.step hk hs,if_neg (by rw [h2];simp)]
 split at hm
 ·rename_i h1
  rw [if_pos h1,if_neg (by rw [hm];simp)]
 rename_i h1
 rw [if_neg h1,if_neg (by rw [hm];simp)]
theorem FitAt.out {s:Sign} {ks:List Int} {x:Nat×Int} (h:FitAt s ks x) (hk:ks.length≤x.1):Fx s ks=if s.own == -1 then (x.2,0) else (s.own,0):=by
 unfold Fx
 rw [h.eq,List.drop_of_length_le hk]
 cases s.kids.drop x.1<;>rfl
theorem ABu (s:Sign) (ks:List Int) (hks:ks.length≤s.kids.length) (hk2:ks.length≤1048576) (Hp:List AObj):AFun Tryz.prog 117 [Nq s,.slice false 1 (ks.map A2)] Hp (.tup [A2 (Fx s ks).1,A2 (Fx s ks).2]):=by
 refine ACall.body [.tmp 4,.tmp 5] [0,1] Tryz.func117 Tryz.ntmps117 (fun d=>?_)
 refine jm ?_;refine D3 ?_;refine Z20 ?_;refine R.fin [1,2,6] ?_;refine Z35 ?_;refine ee ?_
 refine AW.loopC (α:=Nat×Int) (fun x=>⟨49,A3 2 (.ro [.slice false 1 (s.kids.map A2),A2 s.own]) (A3 6 (.ptr (oid Hp.length 0) 0) (A3 13 (.slice false 1 (ks.map A2)) (A3 14 (A2 (ks.length:Nat)) (A3 15 (A2 (x.1:Nat)) (fun _=>.any))))),Hp,[.cells 3 [A2 x.2]],[],none⟩) (fun x=>FitAt s ks x) (fun x=>ks.length-x.1) ((0,0)) ⟨Nat.zero_le _,rfl⟩ (StLe.of_eq (by simp)) rfl (fun x hx=>?_)
 refine Z2 ?_;refine R.fin [2,6,13,14,15,16] ?_
 refine W.condX (fun ht16=>?_) (fun ht16=>?_)
 ·have hlt:x.1<ks.length:=by simpa using ht16
  have hls:x.1<s.kids.length:=by omega
  refine O7 ?_
  refine R.go (h:=Q.indexAddr (x.1) (A2 ks[x.1]) (fun _=>Ae hlt)) (hr:=?_)
  refine Z23 ?_;refine R.fin [2,6,7,8,13,14,15] ?_;refine Z17 ?_
  refine R.go (h:=Q.indexAddr (x.1) (A2 s.kids[x.1]) (fun _=>Ae hls)) (hr:=?_)
  refine O5 ?_;refine R.fin [2,6,8,9,13,14,15] ?_;refine Z8 ?_;refine R.fin [2,6,8,9,13,14,15,26] ?_
  refine W.cond (fun ht26=>?_) (fun ht26=>?_)
  ·refine W.keep [2,6,13,14,15] ?_;refine Z30 ?_;refine K.blE ?_;refine K.thN ?_;refine Z11 ?_;refine ee ?_
   first|(refine K.lpN (x.1+1,x.2) (hx.skip hlt hls ht26) (by show ks.length-(x.1+1)<ks.length-x.1;omega) ?_;exact StCut.take (own:=[.cells 3 [A2 x.2]]) (fun _=>.refl _) (by repeat (first|exact Ar|refine Aq (by first|(simp [or_imp,forall_and];done)|(simp [oid]<;>omega)) ?_)) (by intro y hy;rw [List.mem_singleton.1 hy];intro z hz;rw [List.mem_singleton.1 hz];simp) (by simp))|(refine K.lpN (x.1+1,(Be x.2 ks[x.1]).1) (hx.same hlt hls ht26 ht28 (by simpa using ht38)) (by show ks.length-(x.1+1)<ks.length-x.1;omega) ?_;exact StCut.take (own:=[.cells 3 [A2 (Be x.2 ks[x.1]).1]]) (fun _=>.refl _) (by repeat (first|exact Ar|refine Aq (by first|(simp [or_imp,forall_and];done)|(simp [oid]<;>omega)) ?_)) (by intro y hy;rw [List.mem_singleton.1 hy];intro z hz;rw [List.mem_singleton.1 hz];simp) (by simp))|(refine K.lpN (x.1+1,x.2) (hx.want hlt hls ht26 ht28 (by simpa using ht38)) (by show ks.length-(x.1+1)<ks.length-x.1;omega) ?_;exact StCut.take (own:=[.cells 3 [A2 x.2]]) (fun _=>.refl _) (by repeat (first|exact Ar|refine Aq (by first|(simp [or_imp,forall_and];done)|(simp [oid]<;>omega)) ?_)) (by intro y hy;rw [List.mem_singleton.1 hy];intro z hz;rw [List.mem_singleton.1 hz];simp) (by simp))
  refine Kf ?_;refine R.fin [2,6,8,9,10,13,14,15] ?_;refine Z8 ?_;refine R.fin [2,6,8,10,13,14,15,28] ?_
  refine W.cond (fun ht28=>?_) (fun ht28=>?_)
  ·refine Z61 ?_;refine R.fin [2,6,8,10,13,14,15] ?_;refine K.thN ?_;refine Z41 ?_;refine R.call Tryz.call149 (zr _ _ _) ?_;refine Z89 ?_;refine R.fin [2,6,10,11,12,13,14,15] ?_;refine Z8 ?_;refine R.fin [2,6,10,11,13,14,15,38] ?_
   refine W.cond (fun ht38=>?_) (fun ht38=>?_)
   ·have hbad:=hx.bad hlt hls ht26 (by first|(rw [if_pos ht28];simpa using ht38)|(rw [if_neg (by rw [ht28];simp)];simpa using ht38))
    refine Z94 ?_;exact xi
   refine Z5 ?_;refine Z29 ?_;refine Fk ?_;refine ee ?_;refine O6 ?_;refine ee ?_
   first|(refine K.lpN (x.1+1,x.2) (hx.skip hlt hls ht26) (by show ks.length-(x.1+1)<ks.length-x.1;omega) ?_;exact StCut.take (own:=[.cells 3 [A2 x.2]]) (fun _=>.refl _) (by repeat (first|exact Ar|refine Aq (by first|(simp [or_imp,forall_and];done)|(simp [oid]<;>omega)) ?_)) (by intro y hy;rw [List.mem_singleton.1 hy];intro z hz;rw [List.mem_singleton.1 hz];simp) (by simp))|(refine K.lpN (x.1+1,(Be x.2 ks[x.1]).1) (hx.same hlt hls ht26 ht28 (by simpa using ht38)) (by show ks.length-(x.1+1)<ks.length-x.1;omega) ?_;exact StCut.take (own:=[.cells 3 [A2 (Be x.2 ks[x.1]).1]]) (fun _=>.refl _) (by repeat (first|exact Ar|refine Aq (by first|(simp [or_imp,forall_and];done)|(simp [oid]<;>omega)) ?_)) (by intro y hy;rw [List.mem_singleton.1 hy];intro z hz;rw [List.mem_singleton.1 hz];simp) (by simp))|(refine K.lpN (x.1+1,x.2) (hx.want hlt hls ht26 ht28 (by simpa using ht38)) (by show ks.length-(x.1+1)<ks.length-x.1;omega) ?_;exact StCut.take (own:=[.cells 3 [A2 x.2]]) (fun _=>.refl _) (by repeat (first|exact Ar|refine Aq (by first|(simp [or_imp,forall_and];done)|(simp [oid]<;>omega)) ?_)) (by intro y hy;rw [List.mem_singleton.1 hy];intro z hz;rw [List.mem_singleton.1 hz];simp) (by simp))
  refine Z5 ?_;refine Z41 ?_;refine R.call Tryz.call149 (zr _ _ _) ?_;refine Z89 ?_;refine R.fin [2,6,10,11,12,13,14,15] ?_;refine Z8 ?_;refine R.fin [2,6,10,11,13,14,15,38] ?_
  refine W.cond (fun ht38=>?_) (fun ht38=>?_)
  ·have hbad:=hx.bad hlt hls ht26 (by first|(rw [if_pos ht28];simpa using ht38)|(rw [if_neg (by rw [ht28];simp)];simpa using ht38))
   refine Z94 ?_;exact xi
  refine Z5 ?_;refine Z29 ?_;refine Fk ?_;refine ee ?_;refine O6 ?_;refine ee ?_
  first|(refine K.lpN (x.1+1,x.2) (hx.skip hlt hls ht26) (by show ks.length-(x.1+1)<ks.length-x.1;omega) ?_;exact StCut.take (own:=[.cells 3 [A2 x.2]]) (fun _=>.refl _) (by repeat (first|exact Ar|refine Aq (by first|(simp [or_imp,forall_and];done)|(simp [oid]<;>omega)) ?_)) (by intro y hy;rw [List.mem_singleton.1 hy];intro z hz;rw [List.mem_singleton.1 hz];simp) (by simp))|(refine K.lpN (x.1+1,(Be x.2 ks[x.1]).1) (hx.same hlt hls ht26 ht28 (by simpa using ht38)) (by show ks.length-(x.1+1)<ks.length-x.1;omega) ?_;exact StCut.take (own:=[.cells 3 [A2 (Be x.2 ks[x.1]).1]]) (fun _=>.refl _) (by repeat (first|exact Ar|refine Aq (by first|(simp [or_imp,forall_and];done)|(simp [oid]<;>omega)) ?_)) (by intro y hy;rw [List.mem_singleton.1 hy];intro z hz;rw [List.mem_singleton.1 hz];simp) (by simp))|(refine K.lpN (x.1+1,x.2) (hx.want hlt hls ht26 ht28 (by simpa using ht38)) (by show ks.length-(x.1+1)<ks.length-x.1;omega) ?_;exact StCut.take (own:=[.cells 3 [A2 x.2]]) (fun _=>.refl _) (by repeat (first|exact Ar|refine Aq (by first|(simp [or_imp,forall_and];done)|(simp [oid]<;>omega)) ?_)) (by intro y hy;rw [List.mem_singleton.1 hy];intro z hz;rw [List.mem_singleton.1 hz];simp) (by simp))
 have hxe:ks.length≤x.1:=by simpa using ht16
 have hout:=hx.out hxe
 refine Z26 ?_;refine Z35 ?_;refine R.fin [2,6,45] ?_
 refine W.cond (fun ht45=>?_) (fun ht45=>?_)
 ·refine Z17 ?_;refine Z42 ?_;exact K.fin (V.two V.tmp V.tmp) ⟨by rw [hout,if_pos ht45],rfl⟩
 refine Z5 ?_;refine Z41 ?_;refine Z18 ?_;exact K.fin (V.two V.tmp V.tmp) ⟨by rw [hout,if_neg (by rw [ht45];simp)],rfl⟩

theorem m8 {n k:Nat} {own:Bool} {l:List Int}:Low n (.slice own k (l.map A2)):=low_slice.2 fun y hy=>by
 obtain ⟨z,_,rfl⟩:=List.mem_map.1 hy
 simp
theorem Ua {n:Nat} {e:Expr}:Low n (.ro (Bt e)):=by have:=Ac n e;rw [A8] at this;simpa using this
theorem Em {c:List Col} {t:Str} (h:¬(Aj t c<0)):∃(j:Nat),Aj t c=(j:Int)∧j<c.length:=by
 obtain ⟨j,y,h2,_,h3⟩:=find_mem.1 h
 exact ⟨j,h3,(List.getElem?_eq_some_iff.1 h2).1⟩
theorem Wk {c:List Col} {e:Expr} (h:(e.op==1)=true):B9 c e=(e.val.kind,0):=by rw [Jo];unfold Jn;rw [if_pos h]
theorem Sc {c:List Col} {e:Expr} (h1:(e.op==1)=false) (h:(e.op==2)=true):B9 c e=F0 c e.text:=by rw [Jo];unfold Jn;rw [h1,if_pos h];rfl
theorem Wl {c:List Col} {e:Expr} (h1:(e.op==1)=false) (h2:(e.op==2)=false) {x:Nat} (hx:x<e.kids.length) (h0:∀(j:Nat) (y:Expr),j<x→e.kids[j]? = some y→((B9 c y).2 != 0)=false) (hb:((B9 c e.kids[x]).2 != 0)=true):B9 c e=(0,(B9 c e.kids[x]).2):=by
 rw [Jo]
 unfold Jn
 rw [h1,h2]
 have:(e.kids.map (B9 c)).find? (fun q=>q.2 != 0)=some ((e.kids.map (B9 c))[x]'(by simpa using hx)):=am (by simpa using hx) (by simpa using hb) (fun j y hj hy=>by
  rw [List.getElem?_map,Option.map_eq_some_iff] at hy
  obtain ⟨z,hz,rfl⟩:=hy
  exact h0 j z hj hz)
 rw [this]
 simp
theorem Wm {c:List Col} {e:Expr} (h1:(e.op==1)=false) (h2:(e.op==2)=false) (h0:∀(j:Nat) (y:Expr),j<e.kids.length→e.kids[j]? = some y→((B9 c y).2 != 0)=false):B9 c e=Fx (Bq e.op e.text) (e.kids.map fun y=>(B9 c y).1):=by
 rw [Jo]
 unfold Jn
 rw [h1,h2]
 have:(e.kids.map (B9 c)).find? (fun q=>q.2 != 0)=none:=Rl (fun j y hy=>by
  rw [List.getElem?_map,Option.map_eq_some_iff] at hy
  obtain ⟨z,hz,rfl⟩:=hy
  exact h0 j z (List.getElem?_eq_some_iff.1 hz).1 hz)
 rw [this]
 simp only [List.map_map]
 rfl
theorem Sd (f:Expr→Int) (l:List Expr) {x:Nat} (h:x<l.length):((l.take x).map f).map A2++[A2 (f l[x])]=((l.take (x+1)).map f).map A2:=by rw [List.take_succ_eq_append_getElem h,List.map_append,List.map_append];rfl
theorem c85 (c:List Col) (hc:OkCols c):∀(n:Nat) (e:Expr),okE n e→Cs C8 e=true→∀Hp:List AObj,AFun Tryz.prog 85 [A4 e,A9 c] Hp (.tup [A2 (B9 c e).1,A2 (B9 c e).2]):=by
 intro n
 induction n with
 | zero=>exact fun e h=>h.elim
 | succ n ih =>
 intro e hok hnd Hp
 have hnd0:=hnd
 rw [Ef,Bool.and_eq_true] at hnd0
 refine ACall.body [.tmp 4,.tmp 5] [0,1] Tryz.func85 Tryz.ntmps85 (fun d=>?_)
 refine jm ?_;refine Z8 ?_;refine R.fin [1,2,13] ?_;refine Lo ?_;refine R.fin [1,2,13,14] ?_
 refine W.cond (fun ht14=>?_) (fun ht14=>?_)
 ·have hk:=Wk (c:=c) ht14
  refine Z1 ?_;refine Z23 ?_;refine Z18 ?_;refine Z6 ?_;exact oz
 refine Z1 ?_;refine R.fin [1,2,19] ?_
 refine W.cond (fun ht19=>?_) (fun ht19=>?_)
 ·have hk:=Sc (c:=c) ht14 ht19
  refine Z17 ?_;refine R.call Tryz.call59 (c59 c hc e.text _) ?_;refine R.go ?_;refine R.fin [1,6] ?_;refine Z8 ?_;refine R.fin [1,6,26] ?_
  refine W.cond (fun ht26=>?_) (fun ht26=>?_)
  ·have hk2:F0 c e.text=(0,9):=if_pos (by simpa using ht26)
   refine Z94 ?_;exact xj
  have hneg:¬(Aj e.text c<0):=by simpa using ht26
  obtain ⟨j,hj,hjl⟩:=Em hneg
  have hk2:F0 c e.text=(c[j].kind,0):=by
   unfold F0
   rw [if_neg hneg,hj,Int.toNat_natCast,List.getD_eq_getElem?_getD,List.getElem?_eq_getElem hjl]
   rfl
  rw [hj]
  refine O8 ?_
  refine R.go (h:=Q.indexAddr (j) (Ak c[j]) (fun _=>Ae hjl)) (hr:=?_)
  refine Z76 ?_;refine Z18 ?_;exact xj
 refine Z16 ?_;refine Z2 ?_;refine R.fin [1,2,7] ?_;refine Z68 ?_;refine R.nilSl 7 1 ?_;refine Z76 ?_;refine R.fin [1,2,7,33,34,35] ?_
 refine AW.loopC (α:=Nat) (fun x=>⟨59,A3 1 (A9 c) (A3 2 (.ro (Bt e)) (A3 7 (.slice true 1 (((e.kids.take x).map fun y=>(B9 c y).1).map A2)) (A3 33 (.slice false 6 (e.kids.map A4)) (A3 34 (A2 (e.kids.length:Nat)) (A3 35 (A2 (x:Nat)) (fun _=>.any)))))),Hp,[],[],none⟩) (fun x=>x≤e.kids.length∧∀(j:Nat) (y:Expr),j<x→e.kids[j]? = some y→((B9 c y).2 != 0)=false) (fun x=>e.kids.length-x) (0) ⟨Nat.zero_le _,fun j y h=>by omega⟩ (StLe.of_eq (by simp)) rfl (fun x hx=>?_)
 refine Z2 ?_;refine R.fin [1,2,7,33,34,35,36] ?_
 refine W.condX (fun ht36=>?_) (fun ht36=>?_)
 ·have hlt:x<e.kids.length:=by simpa using ht36
  have hkl:=hok.2.1
  refine O2 ?_
  refine R.go (h:=Q.indexAddr (x) (A4 e.kids[x]) (fun _=>Ae hlt)) (hr:=?_)
  refine O5 ?_;refine R.fin [1,2,7,9,33,34,35] ?_;refine Z1 ?_;refine R.call Tryz.call85 (ih e.kids[x] (hok.2.2 _ (List.getElem_mem hlt)) ((Co _ _).1 hnd0.2 _ (List.getElem_mem hlt)) _) ?_;refine Z89 ?_;refine R.fin [1,2,7,10,11,33,34,35] ?_;refine Z8 ?_;refine R.fin [1,2,7,10,11,33,34,35,46] ?_
  refine W.cond (fun ht46=>?_) (fun ht46=>?_)
  ·have hkb:=Wl (c:=c) ht14 ht19 hlt hx.2 ht46
   refine Z17 ?_;refine Z42 ?_;exact xl
  refine Z5 ?_;refine V5 ?_;refine Z75 ?_
  refine R.append jU Tryz.type3 ?_ ?_ ?_
  ·simp only [List.length_map,List.length_take,List.length_cons,List.length_nil,Tryz.t3];omega
  ·simp only [List.length_map,List.length_take,List.length_cons,List.length_nil,Tryz.t3];omega
  refine Ic ?_;refine R.fin [1,2,7,33,34,35] ?_;refine O6 ?_;refine R.fin [1,2,7,33,34,35] ?_;refine K.lpN (x+1) ⟨hlt,Av hlt hx.2 ht46⟩ (by omega) ?_
  simp only [show Tryz.t3.size=1 from rfl,Sd]
  exact StCut.take (own:=[]) (fun _=>.refl _) (by repeat (first|exact Ar|refine Aq (by first|exact m8|exact Ua|exact Cc|(simp [or_imp,forall_and];done)) ?_)) (by simp) (by simp)
 have hxe:e.kids.take x=e.kids:=List.take_of_length_le (by simp at ht36;omega)
 have hxl:e.kids.length≤x:=by simp at ht36;omega
 have hka:=Wm (c:=c) ht14 ht19 (fun j y hj hy=>hx.2 j y (by omega) hy)
 rw [hxe]
 refine dn ?_;refine R.call Tryz.call116 (ABt e _) ?_;refine R.go ?_
 refine R.call Tryz.call117 (ABu (Bq e.op e.text) (e.kids.map fun y=>(B9 c y).1) (by rw [I5 hnd0.1 ht14 ht19];simp) (by simpa using hok.2.1) _) ?_
 refine Z76 ?_;refine Z18 ?_;exact K.fin (V.two V.tmp V.tmp) ⟨by rw [hka],rfl⟩

theorem Nr {e:Expr} (h:Af e=true):Cs C8 e=true:=by
 rw [Ci] at h
 unfold B7 at h
 rw [Bool.and_eq_true] at h
 exact h.2
theorem c60 (n:Nat) (e:Expr) (hok:okE n e) (hn:n≤1048576) (c:List Col) (hc:OkCols c) (Hp:List AObj):AFun Tryz.prog 60 [A4 e,A9 c] Hp (.tup [A2 (Cb e c).1,A2 (Cb e c).2]):=by
 refine ACall.body [.tmp 4,.tmp 5] [0,1] Tryz.func60 Tryz.ntmps60 (fun d=>?_)
 refine jm ?_;refine Z31 ?_;refine R.call Tryz.call44 (c44 n e hok hn _) ?_;refine Jc ?_;refine G.call Tryz.call41 (fun hB=>c41 c hc _) ?_;refine Z66 ?_;refine R.fin [1,2,13] ?_
 refine W.cond (fun ht13=>?_) (fun ht13=>?_)
 ·have hk:Cb e c=(0,1):=if_pos ht13
  exact xp
 have hk:Cb e c=B9 c e:=if_neg (by rw [ht13];simp)
 have hr:Af e=true:=by simp only [Bool.or_eq_false_iff,Bool.not_eq_false'] at ht13;exact ht13.1
 refine O8 ?_;refine R.call Tryz.call85 (c85 c hc n e hok (Nr hr) _) ?_;refine Z76 ?_;exact xu

theorem Cm {n k:Nat} {o:Bool} {l:List Col}:Low n (.slice o k (l.map Ak)):=by simp [or_imp,forall_and]
theorem Zo {α β:Type} {f:α→β} {l:List α} {k:Nat} {y:α} (h:l[k]? = some y):(l.map f)[k]? = some (f y):=by rw [List.getElem?_map,h];rfl
theorem c95 (c:List Col) (hc:OkCols c) (take:List Str) (ht:take.length≤1048576) (give:List Col) (hg:OkCols give) (hg2:give.length≤1000000) (Hp:List AObj):AFun Tryz.prog 95 [A9 c,D6 take,A9 give] Hp (.tup [A9 (Bn c take give).1,A2 (Bn c take give).2]):=by
 refine ACall.body [.tmp 6,.tmp 7] [0,1,2,9] Tryz.func95 Tryz.ntmps95 (fun d=>?_)
 refine Z1 ?_;refine R.fin [0,1,2,9] ?_;refine Z31 ?_;refine R.call Tryz.call19 (c19 c hc _) ?_;refine R.go ?_;refine R.fin [0,1,2,9,12] ?_
 refine W.cond (fun ht12=>?_) (fun ht12=>?_)
 ·have hr:Az c=false:=by rw [Fa] at ht12;simpa using ht12
  refine Oy ?_;exact x9
 have hr:Az c=true:=by rw [Fa] at ht12;simpa using ht12
 refine Z5 ?_;refine Z8 ?_;refine R.call Tryz.call131 (ABb c hc take ht _) ?_;refine R.go ?_;refine R.fin [0,1,2,9,16] ?_
 refine W.cond (fun ht16=>?_) (fun ht16=>?_)
 ·have hk:Dy c take=false:=by simpa using ht16
  refine Oy ?_;refine Z37 ?_;exact K.fin (V.two V.tmp V.tmp) ⟨by rw [Yz hr hk];try rfl,rfl⟩
 have hk:Dy c take=true:=by simpa using ht16
 refine Z5 ?_;refine Z32 ?_;refine R.fin [0,1,2,8,9] ?_;refine Z68 ?_;refine R.nilOwn 0 2 ?_
 refine R.assumeLow (fun hlow=>?_)
 refine Z0 ?_;refine R.call Tryz.call132 (ABd c take _) ?_;refine R.fin [2,8,9,19] ?_;refine Fq ?_
 refine W.rangeV (m:=1) Tryz.call165 (fun FR as' bd' hFR has hbd=>?_)
 have hFRl:∀s,Low (Hp.length+3) (FR s):=by
  intro s
  rw [hFR]
  refine Low.strip ?_
  revert s
  repeat (first|exact Ar|refine Aq (by simp [oid,or_imp,forall_and]<;>try omega) ?_)
 have hOl:∀{k:Nat},∀x∈[AObj.cells 22 [.slice true 2 ((Bi (c.take k) take).map Ak)],AObj.defs,AObj.loop LoopState.ready none FR 41 #[20] as' bd' (oid Hp.length 1)],ObjLow (Hp.length+3) x:=by
  intro k x hx
  simp only [List.mem_cons,List.mem_nil_iff,or_false] at hx
  rcases hx with rfl|rfl|rfl
  ·intro y hy
   rw [List.mem_singleton.1 hy]
   exact Cm
  ·trivial
  exact jt
 refine ⟨_,ABe (oid Hp.length 2) c take hc.len ht (fun k=>Hp++[AObj.cells 22 [.slice true 2 ((Bi (c.take k) take).map Ak)],AObj.defs,AObj.loop LoopState.ready none FR 41 #[20] as' bd' (oid Hp.length 1)]) (fun k=>by simp) (by simp [oid]) (fun k x hx=>?_) (fun k y hk hcn=>by simp only [S1 hk hcn]) (fun k y X hk hcn=>?_),?_⟩
 ·have:=Hn (fun x hx=>ObjLow.le (by omega) (hlow x hx)) hOl x hx
  simpa using this
 ·generalize hV:Hp++[AObj.cells 22 [.slice true 2 ((Bi (c.take k) take).map Ak)],AObj.defs,AObj.loop LoopState.ready none FR 41 #[20] as' bd' (oid Hp.length 1)]++X=V
  have hL:V[oid Hp.length 2]? = some (AObj.loop LoopState.ready none FR 41 #[20] as' bd' (oid Hp.length 1)):=by rw [←hV,List.append_assoc,Ao];rfl
  have hA0:V[oid Hp.length 0]? = some (AObj.cells 22 [.slice true 2 ((Bi (c.take k) take).map Ak)]):=by rw [←hV,List.append_assoc,Ao];rfl
  refine AYield.ofRound (pd:=none) (fr:=FR) (sz:=41) (ps:=#[20]) (df:=oid Hp.length 1) (asg:=as') (bd:=bd') hL rfl (by decide) (fun d=>?_)
  subst hFR has hbd
  refine W.keep [8,20] ?_;refine AW.region ?_;refine Z20 ?_;refine R.fin [8,9] ?_
  refine ⟨rfl,none,hL,?_⟩
  generalize hbz:(AObj.loop LoopState.busy _ _ _ _ _ _ _)=bz
  have hA:(V.set (oid Hp.length 2) bz)[oid Hp.length 0]? = some (AObj.cells 22 [.slice true 2 ((Bi (c.take k) take).map Ak)]):=by rw [List.getElem?_set_ne (C5 (by decide))];exact hA0
  refine Fq ?_;refine AW.region ?_;refine R.loadUpT jA hA ?_;refine Z75 ?_
  refine R.append jU Tryz.type58 ?_ ?_ ?_
  ·have h1:=Dq (c.take k) take;have h2:=hc.len;simp only [List.length_take] at h1;simp [Tryz.t58];omega
  ·have h1:=Dq (c.take k) take;have h2:=hc.len;simp only [List.length_take] at h1;simp [Tryz.t58];omega
  refine R.storeUpT jS (getset hA) ?_ ?_
  ·exact fe
  refine Z65 ?_
  subst hbz
  refine ud ?_
  refine ⟨rfl,?_⟩
  subst hV
  simp only [List.append_assoc,Dj,List.cons_append,List.nil_append,List.set_cons_succ,List.set_cons_zero]
  rw [b9 hk hcn,List.map_append]
  rfl
 rintro r H' rfl
 simp only [List.take_length]
 refine ⟨Hp,_,_,_,rfl,rfl,fun h=>h,?_,rfl,by simp,?_⟩
 ·intro o ho
  have:o=oid Hp.length 1:=by simpa using ho
  subst this
  rw [Ao]
  rfl
 refine Z9 ?_;refine D3 ?_;refine R.loadOwnT jA ?_;refine R.go ?_
 refine R.append jU Tryz.type58 ?_ ?_ ?_
 ·have h1:=Dq c take;have h2:=I3 hr;simp [Tryz.t58];omega
 ·have h1:=Dq c take;have h2:=I3 hr;simp [Tryz.t58];omega
 refine R.storeOwnT jS ?_;refine R.fin [8] ?_;refine O2 ?_
 have e10:(Bi c take).map Ak++give.map Ak=(Bi c take++give).map Ak:=(List.map_append ..).symm
 rw [e10]
 generalize hout:Bi c take++give=out
 have ho:OkCols out:=Zd hc hr hg hg2 hout
 refine R.go ?_;refine R.call Tryz.call133 (ABc out ho _) ?_;refine Z0 ?_;refine R.fin [8,28] ?_
 refine W.cond (fun ht28=>?_) (fun ht28=>?_)
 ·have hn:Eu out=false:=by simpa using ht28
  refine Oy ?_;refine Z72 ?_;exact K.fin (V.two V.tmp V.tmp) ⟨by rw [Z4 hr hk hout hn];try rfl,rfl⟩
 have hn:Eu out=true:=by simpa using ht28
 refine Z2 ?_;refine R.call Tryz.call41 (c41 out ho _) ?_;refine Z0 ?_;refine R.fin [8,32] ?_
 refine W.cond (fun ht32=>?_) (fun ht32=>?_)
 ·have hq:Dz out=false:=by rw [Ho] at ht32;simpa using ht32
  refine Oy ?_;refine Z72 ?_;exact K.fin (V.two V.tmp V.tmp) ⟨by rw [Za hr hk hout hn hq];try rfl,rfl⟩
 have hq:Dz out=true:=by rw [Ho] at ht32;simpa using ht32
 refine Z41 ?_;refine R.fin [8,36] ?_
 refine W.cond (fun ht36=>?_) (fun ht36=>?_)
 ·have h12:12<out.length:=by simp at ht36;omega
  refine Oy ?_;refine Z72 ?_;exact K.fin (V.two V.tmp V.tmp) ⟨by rw [Zb hr hk hout hn hq h12];try rfl,rfl⟩
 have h12:¬12<out.length:=by simp at ht36;omega
 refine Z16 ?_;refine Z17 ?_;refine R.fin [6,7] ?_;refine AW.ret ?_;exact K.fin (V.two V.tmp V.tmp) ⟨by rw [Zc hr hk hout hn hq h12];try rfl,rfl⟩

theorem c6u (c:List Col) (Hp:List AObj):AFun Tryz.prog 9 [A9 c] Hp (Al (Ez c)):=by
 refine ACall.body [.tmp 2] [0] Tryz.func9 Tryz.ntmps9 (fun d=>?_)
 refine Vc ?_;refine R.fin [0,6] ?_
 refine W.cond (fun ht6=>?_) (fun ht6=>?_)
 ·rw [List.length_map] at ht6
  have hm:Ez c=true:=by unfold Ez;rw [ht6];rfl
  exact od
 rw [List.length_map] at ht6
 have hl50:c.length≤50:=by simp at ht6;omega
 refine Z5 ?_;refine Tk ?_
 refine AW.loopC (α:=Nat) (fun x=>⟨20,A3 0 (A9 c) (A3 3 (A2 (x:Nat)) (fun _=>.any)),Hp,[],[],none⟩) (fun x=>x≤c.length∧∀(j:Nat) (v:Col),j<x→c[j]? = some v→decide ((100:Int)<(v.name.length:Int))=false) (fun x=>c.length-x) (0) ⟨Nat.zero_le _,fun j v h=>by omega⟩ (StLe.of_eq (by simp)) rfl (fun x hx=>?_)
 refine Z57 ?_;refine R.fin [0,3,10] ?_
 refine W.cond (fun ht10=>?_) (fun ht10=>?_)
 ·have hlt:x<c.length:=by simpa using ht10
  refine Me ?_
  refine R.go (h:=Q.indexAddr (x) (Ak c[x]) (fun _=>Ae hlt)) (hr:=?_)
  refine Z76 ?_;refine R.fin [0,3,19] ?_
  refine W.cond (fun ht19=>?_) (fun ht19=>?_)
  ·have hm:Ez c=true:=by unfold Ez;rw [Bool.or_eq_true];exact .inr (List.any_eq_true.2 ⟨c[x],List.getElem_mem hlt,ht19⟩)
   refine Z21 ?_;exact Z58
  refine Z16 ?_;refine Z61 ?_
  refine R.go (h:=Q.add64 (h1:=fun _=>by omega) (h2:=fun _=>by omega)) (hr:=?_)
  refine R.go ?_;refine It ?_;refine K.lpN (x+1) ⟨hlt,Av hlt hx.2 ht19⟩ (by omega) ?_;exact StCut.of_eq (by simp)
 have hxe:c.length≤x:=by simpa using ht10
 have hm:Ez c=false:=by
  unfold Ez
  rw [ht6,Bool.false_or,List.any_eq_false]
  intro v hv
  obtain ⟨j,hj⟩:=List.getElem?_of_mem hv
  have:=hx.2 j v (by have:=(List.getElem?_eq_some_iff.1 hj).1;omega) hj
  rw [this]
  simp
 exact oo

/-- law18.Wide. -/
def Ha (m:Mov):Bool:=(((((Ez m.give || decide ((20:Int)<(m.take.length:Int))) || decide ((20:Int)<(m.ahead.length:Int))) || decide ((20:Int)<(m.back.length:Int))) || m.take.any fun s=>decide ((100:Int)<(s.length:Int))) || m.ahead.any Nm) || m.back.any Nm
def Fe (l:List Mov):Bool:=decide ((12:Int)<(l.length:Int)) || l.any Ha
theorem En {α:Type} {p:α→Bool} {l:List α} {x:Nat} (h:l.length≤x) (hp:∀(j:Nat) (v:α),j<x→l[j]? = some v→p v=false):l.any p=false:=by
 rw [List.any_eq_false]
 intro v hv
 obtain ⟨j,hj⟩:=List.getElem?_of_mem hv
 rw [hp j v (by have:=(List.getElem?_eq_some_iff.1 hj).1;omega) hj]
 simp
theorem Ly {n:Nat} {m:Mov}:∀y∈Fy m,Low n y:=by
 intro y hy
 simp only [Fy,List.mem_cons,List.mem_nil_iff,or_false] at hy
 rcases hy with rfl|rfl|rfl|rfl|rfl<;>simp [or_imp,forall_and,Ac]
theorem Wn {n:Nat} {m:Mov}:Low n (E3 m):=Go.SX.low_agg.2 Ly
theorem Jt {n k:Nat} {o:Bool} {l:List Mov}:Low n (.slice o k (l.map E3)):=low_slice.2 fun y hy=>by
 obtain ⟨m,_,rfl⟩:=List.mem_map.1 hy
 exact Wn
theorem Es {α:Type} {p:α→Bool} (l:List α):(l.any fun s => !(p s)) = !(l.all p):=by
 induction l with
 | nil=>rfl
 | cons a r ih=>rw [List.any_cons,List.all_cons,ih];cases p a<;>simp
theorem c10 (l:List Mov) (Hp:List AObj):AFun Tryz.prog 10 [Cp l] Hp (Al (Fe l)):=by
 refine ACall.body [.tmp 2] [0] Tryz.func10 Tryz.ntmps10 (fun d=>?_)
 refine Vc ?_;refine R.fin [0,10] ?_
 refine W.cond (fun ht10=>?_) (fun ht10=>?_)
 ·rw [List.length_map] at ht10
  have hm:Fe l=true:=by unfold Fe;rw [ht10];rfl
  exact od
 rw [List.length_map] at ht10
 have hl12:l.length≤12:=by simp at ht10;omega
 refine Z5 ?_;refine Tk ?_
 refine AW.loopC (α:=Nat) (fun x=>⟨82,A3 0 (Cp l) (A3 3 (A2 (x:Nat)) (fun _=>.any)),Hp,[],[],none⟩) (fun x=>x≤l.length∧∀(j:Nat) (v:Mov),j<x→l[j]? = some v→Ha v=false) (fun x=>l.length-x) (0) ⟨Nat.zero_le _,fun j v h=>by omega⟩ (StLe.of_eq (by simp)) rfl (fun x hx=>?_)
 refine Z57 ?_;refine R.fin [0,3,14] ?_
 refine W.cond (fun ht14=>?_) (fun ht14=>?_)
 ·have hlt:x<l.length:=by simpa using ht14
  have hbad:Ha l[x]=true→Fe l=true:=fun h=>by unfold Fe;rw [Bool.or_eq_true];exact .inr (List.any_eq_true.2 ⟨l[x],List.getElem_mem hlt,h⟩)
  refine Me ?_
  refine R.go (h:=Q.indexAddr (x) (E3 l[x]) (fun _=>Ae hlt)) (hr:=?_)
  refine O5 ?_;refine To ?_;refine Z8 ?_;refine R.call Tryz.call9 (c6u l[x].give _) ?_;refine R.go ?_;refine Mf ?_;refine Z56 ?_;refine Z56 ?_;refine R.go ?_;refine R.fin [0,3,4,41] ?_
  refine W.cond (fun ht41=>?_) (fun ht41=>?_)
  ·simp only [List.length_map] at ht41
   have hm:Fe l=true:=hbad (by unfold Ha;rw [ht41];rfl)
   refine Z21 ?_;refine K.thR ?_;exact Z58
  simp only [List.length_map] at ht41
  have hk:l[x].take.length≤20∧l[x].ahead.length≤20∧l[x].back.length≤20:=by simp only [Bool.or_eq_false_iff,decide_eq_false_iff_not] at ht41;omega
  refine Tn ?_;refine R.fin [0,3,4,5] ?_
  refine AW.loopC (α:=Nat) (fun a=>⟨82,A3 0 (Cp l) (A3 3 (A2 (x:Nat)) (A3 4 (.ptr (oid Hp.length 0) 0) (A3 5 (A2 (a:Nat)) (fun _=>.any)))),Hp,[.cells 64 (Fy l[x])],[],none⟩) (fun a=>a≤l[x].take.length∧∀(j:Nat) v,j<a→l[x].take[j]? = some v→(fun s:Str=>decide ((100:Int)<(s.length:Int))) v=false) (fun a=>l[x].take.length-a) (0) ⟨Nat.zero_le _,fun j v h=>by omega⟩ (StLe.of_eq (by simp)) rfl (fun a ha=>?_)
  refine P1 ?_;refine R.fin [0,3,4,5,46] ?_
  refine W.cond (fun ht46=>?_) (fun ht46=>?_)
  ·have ha1:a<l[x].take.length:=by simpa using ht46
   refine Tl ?_
   refine R.go (h:=Q.indexAddr (a) (A6 l[x].take[a]) (fun _=>Ae ha1)) (hr:=?_)
   refine Z23 ?_;refine R.fin [0,3,4,5,55] ?_
   refine W.cond (fun ht55=>?_) (fun ht55=>?_)
   ·have hm:Fe l=true:=hbad (by unfold Ha;rw [ht41,List.any_eq_true.2 ⟨_,List.getElem_mem ha1,ht55⟩];rfl)
    refine R0 ?_;exact Z58
   refine Z64 ?_;refine R.fin [0,3,4,5] ?_;exact K.lpN (a+1) ⟨ha1,Av ha1 ha.2 ht55⟩ (by omega) (StCut.of_eq rfl)
  have hae:l[x].take.length≤a:=by simpa using ht46
  have e1:=En hae ha.2
  refine Z47 ?_;refine Z31 ?_;refine R.fin [0,3,4,6] ?_
  refine AW.loopC (α:=Nat) (fun b=>⟨82,A3 0 (Cp l) (A3 3 (A2 (x:Nat)) (A3 4 (.ptr (oid Hp.length 0) 0) (A3 6 (A2 (b:Nat)) (fun _=>.any)))),Hp,[.cells 64 (Fy l[x])],[],none⟩) (fun b=>b≤l[x].ahead.length∧∀(j:Nat) v,j<b→l[x].ahead[j]? = some v→Nm v=false) (fun b=>l[x].ahead.length-b) (0) ⟨Nat.zero_le _,fun j v h=>by omega⟩ (StLe.of_eq (by simp)) rfl (fun b hb=>?_)
  refine P1 ?_;refine R.fin [0,3,4,6,60] ?_
  refine W.cond (fun ht60=>?_) (fun ht60=>?_)
  ·have hb1:b<l[x].ahead.length:=by simpa using ht60
   refine Tl ?_
   refine R.go (h:=Q.indexAddr (b) (A4 l[x].ahead[b]) (fun _=>Ae hb1)) (hr:=?_)
   refine R.go ?_;refine R.call Tryz.call21 (c21 l[x].ahead[b] _) ?_;refine R.fin [0,3,4,6,68] ?_
   refine W.cond (fun ht68=>?_) (fun ht68=>?_)
   ·have hm:Fe l=true:=hbad (by unfold Ha;rw [List.any_eq_true.2 ⟨_,List.getElem_mem hb1,ht68⟩];simp)
    refine R0 ?_;exact Z58
   refine Z64 ?_;refine R.fin [0,3,4,6] ?_;exact K.lpN (b+1) ⟨hb1,Av hb1 hb.2 ht68⟩ (by omega) (StCut.of_eq rfl)
  have hbe:l[x].ahead.length≤b:=by simpa using ht60
  have e2:=En hbe hb.2
  refine Z47 ?_;refine Z2 ?_;refine R.fin [0,3,4,7] ?_
  refine AW.loopC (α:=Nat) (fun e=>⟨82,A3 0 (Cp l) (A3 3 (A2 (x:Nat)) (A3 4 (.ptr (oid Hp.length 0) 0) (A3 7 (A2 (e:Nat)) (fun _=>.any)))),Hp,[.cells 64 (Fy l[x])],[],none⟩) (fun e=>e≤l[x].back.length∧∀(j:Nat) v,j<e→l[x].back[j]? = some v→Nm v=false) (fun e=>l[x].back.length-e) (0) ⟨Nat.zero_le _,fun j v h=>by omega⟩ (StLe.of_eq (by simp)) rfl (fun e he=>?_)
  refine P1 ?_;refine R.fin [0,3,4,7,73] ?_
  refine W.cond (fun ht73=>?_) (fun ht73=>?_)
  ·have he1:e<l[x].back.length:=by simpa using ht73
   refine Tl ?_
   refine R.go (h:=Q.indexAddr (e) (A4 l[x].back[e]) (fun _=>Ae he1)) (hr:=?_)
   refine R.go ?_;refine R.call Tryz.call21 (c21 l[x].back[e] _) ?_;refine R.fin [0,3,4,7,81] ?_
   refine W.cond (fun ht81=>?_) (fun ht81=>?_)
   ·have hm:Fe l=true:=hbad (by unfold Ha;rw [List.any_eq_true.2 ⟨_,List.getElem_mem he1,ht81⟩];simp)
    refine Z21 ?_;refine Z6 ?_;refine K.lpR ?_;exact Z58
   refine Z64 ?_;refine R.fin [0,3,4,7] ?_;exact K.lpN (e+1) ⟨he1,Av he1 he.2 ht81⟩ (by omega) (StCut.of_eq rfl)
  have hee:l[x].back.length≤e:=by simpa using ht73
  have e3:=En hee he.2
  have e4:Ha l[x]=false:=by unfold Ha;rw [ht41,e1,e2,e3];rfl
  refine dw ?_;refine P0 ?_;refine It ?_;refine K.lpN (x+1) ⟨hlt,Av hlt hx.2 e4⟩ (by omega) ?_
  exact StCut.take (own:=[]) (fun _=>.refl _) (by repeat (first|exact Ar|refine Aq (by first|(simp [or_imp,forall_and];done)|exact Jt|(simp [oid]<;>omega)) ?_)) (by simp) (by simp)
 have hxe:l.length≤x:=by simpa using ht14
 have hm:Fe l=false:=by unfold Fe;rw [ht10,En hxe hx.2];rfl
 exact oo

theorem c98 (l:List Expr) (h:OkEs l) (Hp:List AObj):AFun Tryz.prog 98 [Ay l] Hp (Al (l.all B7)):=by
 refine ACall.body [.tmp 2] [0] Tryz.func98 Tryz.ntmps98 (fun d=>?_)
 refine Z40 ?_;refine Tk ?_
 refine AW.loopC (α:=Nat) (fun x=>⟨16,A3 0 (Ay l) (A3 3 (A2 (x:Nat)) (fun _=>.any)),Hp,[],[],none⟩) (fun x=>x≤l.length∧∀(j:Nat) (v:Expr),j<x→l[j]? = some v→(!B7 v)=false) (fun x=>l.length-x) (0) ⟨Nat.zero_le _,fun j v h=>by omega⟩ (StLe.of_eq (by simp)) rfl (fun x hx=>?_)
 refine Z57 ?_;refine R.fin [0,3,7] ?_
 refine W.cond (fun ht7=>?_) (fun ht7=>?_)
 ·have hlt:x<l.length:=by simpa using ht7
  have hlen:=h.len
  refine Me ?_
  refine R.go (h:=Q.indexAddr (x) (A4 l[x]) (fun _=>Ae hlt)) (hr:=?_)
  refine R.go ?_;refine R.call Tryz.call47 (c47 61 l[x] (h.ok _ (List.getElem_mem hlt)) (by decide) (h.size _ (List.getElem_mem hlt)) _) ?_;refine R.go ?_;refine R.fin [0,3,15] ?_
  refine W.cond (fun ht15=>?_) (fun ht15=>?_)
  ·have hm:l.all B7=false:=by rw [List.all_eq_false];exact ⟨_,List.getElem_mem hlt,by simpa using ht15⟩
   refine Z21 ?_;exact Z58
  refine Xu ?_;exact K.lpN (x+1) ⟨hlt,Av hlt hx.2 ht15⟩ (by omega) (StCut.of_eq rfl)
 have hxe:l.length≤x:=by simpa using ht7
 have hm:l.all B7=true:=by have:=En hxe hx.2;rw [Es] at this;simpa using this
 exact oo

theorem Q9 (k w:Int) (Hp:List AObj):AFun Tryz.prog 166 [A2 k,A2 w] Hp (Al (Cr k w)):=by
 refine ACall.body [.tmp 4] [0,1] Tryz.func166 Tryz.ntmps166 (fun d=>?_)
 refine Z62 ?_;refine Jd ?_;refine G.go ?_;exact jn

theorem c32 (n:Nat) (e:Expr) (hok:okE n e) (hn:n≤1048576) (c:List Col) (hc:OkCols c) (w:Int) (Hp:List AObj):AFun Tryz.prog 32 [A4 e,A9 c,A2 w] Hp (Al (Ko e c w)):=by
 refine ACall.body [.tmp 6] [0,1,2] Tryz.func32 Tryz.ntmps32 (fun d=>?_)
 refine Z1 ?_;refine R.fin [1,2,3] ?_;refine Z1 ?_;refine R.call Tryz.call60 (c60 n e hok hn c hc _) ?_;refine Z89 ?_;refine R.fin [2,7,8] ?_;refine Jd ?_;refine Mf ?_;refine G.go ?_;refine Z0 ?_;refine Z86 ?_;exact K.fin (V.one V.tmp) ⟨by unfold Ko;rfl,rfl⟩

end Go.SX.Nb
