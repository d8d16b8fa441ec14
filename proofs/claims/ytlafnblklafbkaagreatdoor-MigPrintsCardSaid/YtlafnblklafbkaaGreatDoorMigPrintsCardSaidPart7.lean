/- Texts on the way to this: MigPrints answers true for whatever it is handed: any migration that is right has the text that the chapter says, and is parsed from it as it was, unless brackets nest too deep; any other one has none (up to 12 moves, trees of up to 500 nodes). (part 7) -/
import Derived.ReadAgain
import Derived.ChangeSame
import Derived.ChangeArms
import Derived.ChangeOld
import Derived.ChangeFn
import Derived.MapPlaces
import Derived.DataReads
import Derived.OpenShut
import Derived.RowKit
import Derived.Deep.DeepHandedRow
import Derived.Test.YtlafnblklafbkaaGreatDoorCards
import Derived.Test.YtlafnblklafbkaaGreatDoorTie
import Derived.Lay
import Derived.Lib.LaidTab
import Derived.Stop.LaidErr
import Derived.Shelf.Vars
import Derived.ChangeBears
import Derived.Lib.ParseIntBTie
import Derived.Test.YtlafnblklafbkaaGreatDoorMigPrintsCardSaidPart6
set_option linter.all false
namespace Go.SX
variable [GI:GlobInv]
open Classical Go.RowKit Go.ChangeShapes
section
variable {P:Program} {H:Type} {enc:TypeId×Value→H}

/-- The first ghost: whatever lies there is read for good. -/
noncomputable def G0 (W:World):Gh:=⟨fun b o=>if (W.cell? ⟨b,o,none⟩).isSome then .fix else .free,fun _=>0,0⟩
theorem yj {W:World} {b o:Nat} {u:Value} (h:W.cell? ⟨b,o,none⟩=some u):(G0 W).tag b o=.fix:=by simp [G0,h]
theorem Nu {W:World} {b:Nat} (h:b<W.heap.size):Gw (G0 W) W b:=⟨h,fun o=>by simp only [G0];split<;>simp,fun i hi=>absurd hi (Nat.not_lt_zero _)⟩
theorem u7 (W:World):HeapRel (G0 W) [] W:=⟨fun i x h=>by simp at h,rfl,fun i j hi=>absurd hi (Nat.not_lt_zero _)⟩
theorem ua {W:World} (h:H0 W):TagOK (G0 W) W:=by
 refine ⟨fun b o hb=>?_,fun b o i hb=>?_,fun b o L hb=>?_,fun x hx=>?_⟩
 ·simp only [G0] at hb
  split at hb
  ·rename_i hs;exact Option.isSome_iff_exists.1 hs
  exact absurd rfl hb
 ·simp only [G0] at hb;split at hb<;>cases hb
 ·simp only [G0] at hb;split at hb<;>cases hb
 obtain ⟨v,h1,h2⟩:=h x hx
 exact ⟨Nu (Array.getElem?_eq_some_iff.1 h1).1,v,h1,h2⟩

/-- What a datum of a plain type ACg as. -/
inductive DRep (P:Program):TypeId→DataW H→AV→Prop
 | int {t:TypeId} {k:IntKind} {n:Int} (hu:P.underlying t=some (.int k)) (wf:(Lit.int k n).wf=true):DRep P t (.lit (.int k n)) (.v (.int k n))
 | bool {t:TypeId} {b:Bool} (hu:P.underlying t=some .bool):DRep P t (.lit (.bool b)) (.v (.bool b))
 | str {t:TypeId} {bs:List UInt8} (hu:P.underlying t=some .string):DRep P t (.lit (.string bs)) (.v (sv bs))
 | nil {t e:TypeId} (hu:P.underlying t=some (.slice e)):DRep P t .nil (.slice false (P.cellsOf e) [])
 | slice {t e:TypeId} {elems spare:List (DataW H)} {ys:List AV} (hu:P.underlying t=some (.slice e)) (hn:ys.length=elems.length)
   (h:∀(i:Nat) (d:DataW H) (y:AV),elems[i]? = some d→ys[i]? = some y→DRep P e d y):DRep P t (.slice elems spare) (.slice false (P.cellsOf e) ys)
 | struct {t:TypeId} {fs:Array Field} {parts:List (DataW H)} {ys:List AV} (hu:P.underlying t=some (.struct fs)) (hn:parts.length=fs.size) (hn':ys.length=fs.size)
   (h:∀(i:Nat) (f:Field) (d:DataW H) (y:AV),fs[i]? = some f→parts[i]? = some d→ys[i]? = some y→DRep P f.type d y):DRep P t (.agg parts) (.agg (ys.flatMap AV.cells))

/-- Types that are made of numbers, texts, bools, slices and structs alone. -/
structure PlainT (P:Program) (T:TypeId→Prop):Prop where
 look:∀t,T t→(P.cellsOf t=1∧((∃k,P.underlying t=some (.int k))∨P.underlying t=some .bool∨P.underlying t=some .string∨(∃e,P.underlying t=some (.slice e)∧T e∧0<P.cellsOf e))) ∨
  (∃fs,P.underlying t=some (.struct fs)∧(∀f∈fs.toList,T f.type)∧P.cellsOf t=(fs.toList.map fun f=>P.cellsOf f.type).sum ∧
   ∀(j:Nat) (f:Field),fs.toList[j]? = some f→f.offset=((fs.toList.take j).map fun f=>P.cellsOf f.type).sum)

/-- The reading of a row of cells. -/
def CRep (W:World) (y:AV) (cs:List Value):Prop:=
 y.cells.length=cs.length∧(∀c∈y.cells,c.one=true)∧∀(j:Nat) (c:AV) (v:Value),y.cells[j]? = some c→cs[j]? = some v→Rep (G0 W) W none c v

theorem CRep.v1 {W:World} {x:Value} (h:x.oneCell'=true):CRep W (.v x) [x]:=
 ⟨rfl,by simp [AV.cells,AV.one,h],fun j c v h1 h2=>by
  match j with
  | 0=>simp [AV.cells] at h1 h2;subst h1;subst h2;exact .v _ _
  | j+1=>simp [AV.cells] at h1⟩

theorem Y2 {f:AV→List AV}:∀(ys:List AV) (j:Nat) (c:AV),(ys.flatMap f)[j]? = some c→∃(i:Nat) (y:AV) (q:Nat),ys[i]? = some y∧(f y)[q]? = some c∧j=((ys.take i).map fun y=>(f y).length).sum+q
 | [],j,c,h=>by simp at h
 | y::r,j,c,h=>by
  rw [List.flatMap_cons] at h
  rcases Nat.lt_or_ge j (f y).length with h'|h'
  ·rw [List.getElem?_append_left h'] at h
   exact ⟨0,y,j,rfl,h,by simp⟩
  rw [List.getElem?_append_right h'] at h
  obtain ⟨i,z,q,h1,h2,h3⟩:=Y2 r _ c h
  exact ⟨i+1,z,q,h1,h2,by simp only [List.take_succ_cons,List.map_cons,List.sum_cons];omega⟩
theorem Kf {α:Type} {R:Nat→α→Prop}:∀(n:Nat),(∀i,i<n→∃y,R i y)→∃ys:List α,ys.length=n∧∀(i:Nat) (y:α),ys[i]? = some y→R i y
 | 0,_=>⟨[],rfl,fun i y h=>by simp at h⟩
 | n+1,h=>by
  obtain ⟨ys,h1,h2⟩:=Kf n (fun i hi=>h i (by omega))
  obtain ⟨y,hy⟩:=h n (by omega)
  refine ⟨ys++[y],by simp [h1],fun i z hz=>?_⟩
  rcases Nat.lt_or_ge i n with h'|h'
  ·rw [List.getElem?_append_left (by omega)] at hz;exact h2 i z hz
  rw [List.getElem?_append_right (by omega)] at hz
  have:i=n:=by
   have:=(List.getElem?_eq_some_iff.1 hz).1
   simp at this;omega
  subst this
  rw [h1] at hz
  simp at hz
  exact hz ▸ hy
theorem M1 {α β:Type} {f:α→Nat} {g:β→Nat}:∀(l:List α) (m:List β),l.length=m.length→(∀(i:Nat) (a:α) (b:β),l[i]? = some a→m[i]? = some b→f a=g b)→(l.map f).sum=(m.map g).sum
 | [],[],_,_=>rfl
 | [],b::m,h,_=>by simp at h
 | a::l,[],h,_=>by simp at h
 | a::l,b::m,h,hh=>by
  simp only [List.map_cons,List.sum_cons]
  rw [hh 0 a b rfl rfl,M1 l m (by simpa using h) (fun i a b h1 h2=>hh (i+1) a b h1 h2)]

theorem oi {T:TypeId→Prop} (PT:PlainT P T) {W:World}:∀(n:Nat) (t:TypeId) (cs:List Value) (x:DataW H×List MemPlace),T t→DataW.trod enc P W 0 (fun _=>true) true n t cs=some x →
  ∃y,DRep P t x.1 y∧CRep W y cs∧cs.length=P.cellsOf t:=by
 intro n
 induction n with
 | zero=>intro t cs x _ h;simp [DataW.trod] at h
 | succ n ih =>
  intro t cs x hT h
  rcases PT.look t hT with ⟨hc1,⟨k,hu⟩|hu|hu|⟨e,hu,he,hz⟩⟩|⟨fs,hu,hf,hsum,hoff⟩
  ·obtain ⟨m,rfl,rfl,hw⟩:=DataW.trod_int hu h
   exact ⟨_,.int hu hw,.v1 rfl,hc1.symm⟩
  ·obtain ⟨b,rfl,rfl⟩:=DataW.trod_bool hu h
   exact ⟨_,.bool hu,.v1 rfl,hc1.symm⟩
  ·obtain ⟨s,rfl,rfl,_⟩:=DataW.trod_string hu h
   exact ⟨_,.str hu,.v1 rfl,hc1.symm⟩
  ·rcases DataW.trod_slice hu h with ⟨rfl,rfl⟩|⟨a,len,cap,elems,rest,m,hm,rfl,rfl,hb,hlc,hcm,hel,hE,_,_⟩
   ·refine ⟨_,.nil hu,⟨rfl,by simp [AV.cells,AV.one],fun j c v h1 h2=>?_⟩,hc1.symm⟩
    match j with
    | 0=>simp [AV.cells] at h1 h2;subst h1;subst h2;exact .slice0 _ _ _
    | j+1=>simp [AV.cells] at h1
   injection hm with hm
   subst hm
   subst hel
   have hEi:∀i,i<elems.length→∃y,(∀d,elems[i]? = some d→DRep P e d.1 y)∧∃ci,W.cells? 0 (a.add (i*P.cellsOf e)) (P.cellsOf e)=some ci∧CRep W y ci:=fun i hi=>by
    have h1:=hE i hi
    rw [List.getElem?_eq_getElem hi,Option.bind_eq_some_iff] at h1
    obtain ⟨ci,h2,h3⟩:=h1
    obtain ⟨y,h4,h5,_⟩:=ih e ci _ he h3
    exact ⟨y,fun d hd=>by rw [List.getElem?_eq_getElem hi] at hd;injection hd with hd;subst hd;exact h4,ci,h2,h5⟩
   obtain ⟨ys,hyl,hys⟩:=Kf elems.length hEi
   refine ⟨.slice false (P.cellsOf e) ys,.slice hu (by simp [hyl]) (fun i d y hd hy=>?_),⟨rfl,by simp [AV.cells,AV.one],fun j c v h1 h2=>?_⟩,hc1.symm⟩
   ·rw [List.getElem?_map,Option.map_eq_some_iff] at hd
    obtain ⟨d',hd',rfl⟩:=hd
    exact (hys i y hy).1 d' hd'
   match j with
   | j+1=>simp [AV.cells] at h1
   | 0 =>
    simp [AV.cells] at h1 h2
    subst h1;subst h2
    by_cases h0:elems.length=0
    ·have:ys=[]:=List.eq_nil_of_length_eq_zero (by omega)
     subst this
     rw [h0]
     exact .sliceE _ _ _ _
    have hspot:a.spot=none:=by
     obtain ⟨ci,hci,_⟩:=(hys 0 ys[0] (List.getElem?_eq_getElem (by omega))).2
     obtain ⟨_,g1,g2⟩:=World.cells?_some hci
     have g3:=g2 0 hz
     rw [List.getElem?_eq_getElem (by omega)] at g3
     simp only [Nat.zero_mul,Addr.add,if_true] at g3
     unfold World.cell? at g3
     split at g3
     ·split at g3
      ·cases g3
      rename_i hs;simpa using hs
     cases g3
    refine .slice _ false _ ys a _ cap (fun i j=>(W.cell? ⟨a.block,a.off+i*P.cellsOf e+j,none⟩).getD undef) hspot hyl.symm hlc (fun x hx=>?_) (fun x hx=>?_) (fun i x j y hx hy=>?_) (fun i x j y hx hy=>?_) (fun h=>by cases h)
    ·obtain ⟨i,hi⟩:=List.getElem?_of_mem hx
     obtain ⟨ci,hci,hcr⟩:=(hys i x hi).2
     rw [hcr.1]
     exact (World.cells?_some hci).2.1
    ·obtain ⟨i,hi⟩:=List.getElem?_of_mem hx
     obtain ⟨ci,hci,hcr⟩:=(hys i x hi).2
     exact hcr.2.1
    ·obtain ⟨ci,hci,hcr⟩:=(hys i x hx).2
     obtain ⟨_,g1,g2⟩:=World.cells?_some hci
     have hj:j<P.cellsOf e:=by
      have:=(List.getElem?_eq_some_iff.1 hy).1
      rw [hcr.1] at this;omega
     have g3:=g2 j hj
     rw [List.getElem?_eq_getElem (by omega),Bj hspot,Bj rfl] at g3
     exact ⟨yj g3,by rw [g3];rfl⟩
    obtain ⟨ci,hci,hcr⟩:=(hys i x hx).2
    obtain ⟨_,g1,g2⟩:=World.cells?_some hci
    have hj:j<P.cellsOf e:=by
     have:=(List.getElem?_eq_some_iff.1 hy).1
     rw [hcr.1] at this;omega
    have g3:=g2 j hj
    rw [List.getElem?_eq_getElem (by omega),Bj hspot,Bj rfl] at g3
    simp only at g3
    rw [g3]
    exact hcr.2.2 j y _ hy (List.getElem?_eq_getElem (by omega))
  obtain ⟨xs,m,hm,rfl,hcl,hxl,hX⟩:=DataW.trod_struct hu h
  injection hm with hm
  subst hm
  have hXi:∀i,i<fs.size→∃y,∀(f:Field),fs[i]? = some f→(∀d,xs[i]? = some d→DRep P f.type d.1 y)∧CRep W y ((cs.drop f.offset).take (P.cellsOf f.type))∧y.cells.length=P.cellsOf f.type:=fun i hi=>by
   have h1:=hX i fs[i] (Array.getElem?_eq_getElem hi)
   rw [List.getElem?_eq_getElem (by omega)] at h1
   obtain ⟨y,h2,h3,h4⟩:=ih _ _ _ (hf _ (by simp)) h1
   refine ⟨y,fun f hf'=>?_⟩
   rw [Array.getElem?_eq_getElem hi] at hf'
   injection hf' with hf'
   subst hf'
   exact ⟨fun d hd=>by rw [List.getElem?_eq_getElem (by omega)] at hd;injection hd with hd;subst hd;exact h2,h3,by rw [h3.1,h4]⟩
  obtain ⟨ys,hyl,hys⟩:=Kf fs.size hXi
  have hlenI:∀(i:Nat),((ys.take i).map fun y=>y.cells.length).sum=((fs.toList.take i).map fun f=>P.cellsOf f.type).sum:=fun i=>by
   refine M1 _ _ (by simp [hyl]) (fun j y f h1 h2=>?_)
   rw [List.getElem?_take] at h1 h2
   split at h1
   ·rename_i hj
    rw [if_pos hj] at h2
    exact (hys j y h1 f (by simpa using h2)).2.2
   cases h1
  have htot:(ys.flatMap AV.cells).length=cs.length:=by
   rw [List.length_flatMap,hcl,hsum]
   refine M1 _ _ (by simp [hyl]) (fun j y f h1 h2=>(hys j y h1 f (by simpa using h2)).2.2)
  refine ⟨.agg (ys.flatMap AV.cells),.struct hu (by simp [hxl]) hyl (fun i f d y hf' hd hy=>?_),⟨htot,fun c hc=>?_,fun j c v h1 h2=>?_⟩,hcl⟩
  ·rw [List.getElem?_map,Option.map_eq_some_iff] at hd
   obtain ⟨d',hd',rfl⟩:=hd
   exact (hys i y hy f hf').1 d' hd'
  ·obtain ⟨y,hy,hcy⟩:=List.mem_flatMap.1 hc
   obtain ⟨i,hi⟩:=List.getElem?_of_mem hy
   have hlt:i<fs.size:=by rw [←hyl];exact (List.getElem?_eq_some_iff.1 hi).1
   exact ((hys i y hi fs[i] (Array.getElem?_eq_getElem hlt)).2.1).2.1 c hcy
  obtain ⟨i,y,q,g1,g2,rfl⟩:=Y2 ys j c h1
  have hlt:i<fs.size:=by rw [←hyl];exact (List.getElem?_eq_some_iff.1 g1).1
  obtain ⟨_,k2,k3⟩:=hys i y g1 fs[i] (Array.getElem?_eq_getElem hlt)
  have hq:q<P.cellsOf (fs[i]).type:=by have:=(List.getElem?_eq_some_iff.1 g2).1;omega
  refine k2.2.2 q c v g2 ?_
  rw [List.getElem?_take,if_pos hq,List.getElem?_drop,hoff i fs[i] (by simp [hlt]),←hlenI i]
  exact h2

/-- A measure of data. -/
structure Bulk (B:DataW H→Nat):Prop where
 str:∀bs,bs.length≤B (.lit (.string bs))
 slice:∀elems spare,elems.length≤B (.slice elems spare)∧∀d∈elems,B d≤B (.slice elems spare)
 agg:∀parts,∀d∈parts,B d≤B (.agg parts)
theorem DRep.int' {t:TypeId} {k:IntKind} {d:DataW H} {y:AV} (hu:P.underlying t=some (.int k)) (h:DRep P t d y):∃n,d=.lit (.int k n)∧y=.v (.int k n)∧k.min≤n∧n≤k.max:=by
 cases h with
 | int hu' wf=>rw [hu] at hu';injection hu' with e;injection e with e;subst e;exact ⟨_,rfl,rfl,by simpa [Lit.wf] using wf⟩
 | _ hu'=>rw [hu] at hu';cases hu'
theorem DRep.str' {t:TypeId} {d:DataW H} {y:AV} (hu:P.underlying t=some .string) (h:DRep P t d y):∃s,d=.lit (.string s)∧y=.v (sv s):=by
 cases h with
 | str hu'=>exact ⟨_,rfl,rfl⟩
 | _ hu'=>rw [hu] at hu';cases hu'
theorem DRep.slice' {t e:TypeId} {d:DataW H} {y:AV} {B:DataW H→Nat} (hB:Bulk B) {α:Type} (A:α→AV) (R:α→Prop) {b:Nat} (hu:P.underlying t=some (.slice e)) (h:DRep P t d y) (hb:B d≤b)
  (hE:∀d y,B d≤b→DRep P e d y→∃x,y=A x∧R x):∃l:List α,y=.slice false (P.cellsOf e) (l.map A)∧l.length≤b∧∀x∈l,R x:=by
 cases h with
 | nil hu'=>rw [hu] at hu';injection hu' with e';injection e' with e';subst e';exact ⟨[],rfl,Nat.zero_le _,fun x hx=>by cases hx⟩
 | slice hu' hn hh =>
  rw [hu] at hu';injection hu' with e';injection e' with e';subst e'
  rename_i elems spare ys
  obtain ⟨h1,h2⟩:=hB.slice elems spare
  have key:∀(ys:List AV) (es:List (DataW H)),ys.length=es.length→(∀d∈es,B d≤b)→(∀(i:Nat) (d:DataW H) (y:AV),es[i]? = some d→ys[i]? = some y→DRep P e d y)→∃l:List α,ys=l.map A∧∀x∈l,R x:=by
   intro ys
   induction ys with
   | nil=>exact fun es _ _ _=>⟨[],rfl,fun x hx=>by cases hx⟩
   | cons y ys ih =>
    intro es hl hb2 hr
    cases es with
    | nil=>simp at hl
    | cons d es =>
     obtain ⟨x,rfl,hx⟩:=hE d y (hb2 d (by simp)) (hr 0 d y rfl rfl)
     obtain ⟨l,rfl,hR⟩:=ih es (by simpa using hl) (fun d hd=>hb2 d (by simp [hd])) (fun i d y a c=>hr (i+1) d y a c)
     exact ⟨x::l,rfl,fun z hz=>by
      rcases List.mem_cons.1 hz with rfl|hz
      ·exact hx
      exact hR z hz⟩
  obtain ⟨l,rfl,hR⟩:=key ys elems hn (fun d hd=>Nat.le_trans (h2 d hd) hb) hh
  exact ⟨l,rfl,by simp at hn;omega,hR⟩
 | _ hu'=>rw [hu] at hu';cases hu'
theorem DRep.struct' {t:TypeId} {fs:Array Field} {d:DataW H} {y:AV} {B:DataW H→Nat} (hB:Bulk B) (hu:P.underlying t=some (.struct fs)) (h:DRep P t d y):
  ∃ys:List AV,ys.length=fs.size∧y=.agg (ys.flatMap AV.cells)∧∀(i:Nat) (f:Field) (z:AV),fs[i]? = some f→ys[i]? = some z→∃d',B d'≤B d∧DRep P f.type d' z:=by
 cases h with
 | struct hu' hn hn' hh =>
  rw [hu] at hu';injection hu' with e';injection e' with e';subst e'
  rename_i parts ys
  refine ⟨ys,hn',rfl,fun i f z h1 h2=>?_⟩
  have hlt:i<parts.length:=by rw [hn];exact (Array.getElem?_eq_some_iff.1 h1).1
  exact ⟨parts[i],hB.agg parts _ (List.getElem_mem hlt),hh i f parts[i] z h1 (List.getElem?_eq_getElem hlt) h2⟩
 | _ hu'=>rw [hu] at hu';cases hu'

/-- An argument's reading. -/
theorem ub {T:TypeId→Prop} (PT:PlainT P T) {W:World} {t:TypeId} {v:Value} {d:DataW H} {ps:List MemPlace} {b0:Nat} (hT:T t) (hok:Value.okWide P W .any b0 t v) (h:DataW.Trod enc P W 0 (fun _=>true) true t v d ps):
  ∃y,DRep P t d y∧Rep (G0 W) W none y v:=by
 obtain ⟨n,hn⟩:=h
 obtain ⟨y,h1,h2,h3⟩:=oi PT n t _ _ hT hn
 refine ⟨y,h1,?_⟩
 rcases PT.look t hT with ⟨hc1,hone⟩|⟨fs,hu,_⟩
 ·have hva:∀cs,v≠.agg cs:=fun cs e=>by
   subst e
   rcases hone with ⟨k,hu⟩|hu|hu|⟨e,hu,he,hz⟩<;>simp [Value.okWide,hu,Cell.okWide,Cell.ok] at hok
  have hvc:v.cells=#[v]:=by cases v<;>first|rfl|exact absurd rfl (hva _)
  have hyc:y.cells=[y]:=by
   cases h1 with
   | struct hu=>rcases hone with ⟨k,hu'⟩|hu'|hu'|⟨e,hu',he,hz⟩<;>rw [hu] at hu'<;>cases hu'
   | _=>rfl
  have:=h2.2.2 0 y v (by rw [hyc];rfl) (by rw [hvc];rfl)
  exact this
 obtain ⟨cs,rfl,hsz,_⟩:∃cs,v=.agg cs∧cs.size=P.cellsOf t∧Row.okWide P W .any b0 t cs:=by
  simp only [Value.okWide,hu] at hok
  exact hok
 cases h1 with
 | struct hu' hn1 hn2 hh =>
  refine .agg _ _ _ (by have:=h2.1;simp only [AV.cells,Value.cells,Array.length_toList] at this;exact this.symm) h2.2.1 (fun i c u a b=>h2.2.2 i c u a (by simpa [Value.cells] using b))
 | int hu'=>rw [hu] at hu';cases hu'
 | bool hu'=>rw [hu] at hu';cases hu'
 | str hu'=>rw [hu] at hu';cases hu'
 | nil hu'=>rw [hu] at hu';cases hu'
 | slice hu'=>rw [hu] at hu';cases hu'

def DReps (P:Program):List TypeId→List (DataW H)→List AV→Prop
 | [],[],[]=>True
 | t::ts,d::ds,y::ys=>DRep P t d y∧DReps P ts ds ys
 | _,_,_=>False

theorem DReps.cons' {t:TypeId} {ts:List TypeId} {ds:List (DataW H)} {ys:List AV} (h:DReps P (t::ts) ds ys):∃d ds' y ys',ds=d::ds'∧ys=y::ys'∧DRep P t d y∧DReps P ts ds' ys':=by
 match ds,ys,h with
 | d::ds',y::ys',⟨h1,h2⟩=>exact ⟨d,ds',y,ys',rfl,rfl,h1,h2⟩
 | [],_,h=>simp [DReps] at h
 | _::_,[],h=>simp [DReps] at h
theorem DReps.nil' {ds:List (DataW H)} {ys:List AV} (h:DReps P [] ds ys):ds=[]∧ys=[]:=by
 match ds,ys,h with
 | [],[],_=>exact ⟨rfl,rfl⟩
 | [],_::_,h=>simp [DReps] at h
 | _::_,_,h=>simp [DReps] at h
theorem U1 {T:TypeId→Prop} (PT:PlainT P T) {W:World} {b0:Nat}:∀(ts:List TypeId) (vs:List Value) (ds:List (DataW H)) (ps:List MemPlace),(∀t∈ts,T t) →
  (∀(j:Nat) t v,ts[j]? = some t→vs[j]? = some v→Value.okWide P W .any b0 t v)→DataW.TrodAll enc P W 0 (fun _=>true) true ts vs ds ps →
  ∃ys,DReps P ts ds ys∧ys.length=vs.length∧∀(i:Nat) (y:AV) (u:Value),ys[i]? = some y→vs[i]? = some u→Rep (G0 W) W none y u
 | [],[],[],_,_,_,_=>⟨[],trivial,rfl,fun i y u h=>by simp at h⟩
 | t::ts,v::vs,d::ds,ps,hT,hok,⟨p,q,h1,h2,_⟩=>by
  obtain ⟨y,k1,k2⟩:=ub PT (hT t (by simp)) (hok 0 t v rfl rfl) h1
  obtain ⟨ys,k3,k4,k5⟩:=U1 PT ts vs ds q (fun t ht=>hT t (by simp [ht])) (fun j t v a b=>hok (j+1) t v a b) h2
  refine ⟨y::ys,⟨k1,k3⟩,by simp [k4],fun i z u a b=>?_⟩
  match i with
  | 0=>simp at a b;subst a;subst b;exact k2
  | i+1=>exact k5 i z u a b
 | [],_::_,_,_,_,_,h=>by simp [DataW.TrodAll] at h
 | [],[],_::_,_,_,_,h=>by simp [DataW.TrodAll] at h
 | _::_,[],_,_,_,_,h=>by simp [DataW.TrodAll] at h
 | _::_,_::_,[],_,_,_,h=>by simp [DataW.TrodAll] at h

theorem P3 {W:World} {sp:Nat→Bool} {hd:Bool}:∀{ts:List TypeId} {vs:List Value} {ds:List (DataW H)} {ps:List MemPlace},DataW.TrodAll enc P W 0 sp hd ts vs ds ps→ds.length=ts.length
 | [],[],[],_,_=>rfl
 | _::_,_::_,_::_,_,⟨_,_,_,h,_⟩=>by rw [List.length_cons,List.length_cons,P3 h]
 | [],_::_,_,_,h=>by simp [DataW.TrodAll] at h
 | [],[],_::_,_,h=>by simp [DataW.TrodAll] at h
 | _::_,[],_,_,h=>by simp [DataW.TrodAll] at h
 | _::_,_::_,[],_,h=>by simp [DataW.TrodAll] at h
theorem Kg {W W':World} {sp:Nat→Bool}:∀{ts:List TypeId} {vs:List Value} {ds:List (DataW H)} {ps:List MemPlace},DataW.TrodAll enc P W 0 sp true ts vs ds ps→(∀p∈ps,W.sameAt W' p)→DataW.TrodAll enc P W' 0 sp true ts vs ds ps
 | [],[],[],_,h,_=>h
 | _::_,_::_,_::_,_,⟨p,q,⟨n,hn⟩,h2,e⟩,hs=>⟨p,q,⟨n,DataW.trod_carry n _ _ _ hn (fun x hx=>hs x (by rw [e];exact List.mem_append_left _ hx))⟩,Kg h2 (fun x hx=>hs x (by rw [e];exact List.mem_append_right _ hx)),e⟩
 | [],_::_,_,_,h,_=>by simp [DataW.TrodAll] at h
 | [],[],_::_,_,h,_=>by simp [DataW.TrodAll] at h
 | _::_,[],_,_,h,_=>by simp [DataW.TrodAll] at h
 | _::_,_::_,[],_,h,_=>by simp [DataW.TrodAll] at h

/-- **A law that answers true, for whatever can be read.** -/
theorem k9 {f:FuncId} {fn:Func} {s:ChangeSpec} {T:TypeId→Prop} {tb:TypeId} {W:World} {base:Nat} {args:Array Value} {ds gs:List (DataW H)} {before:List MemPlace} (K:Kids P (·<P.types.size)) (hz:∀t e,t<P.types.size→P.underlying t=some (.slice e)→0<P.cellsOf e)
  (PT:PlainT P T) (hT:∀t∈fn.params.toList,T t∧t<P.types.size) (hb:P.underlying tb=some .bool) (hres:fn.resultTypes=#[tb]) (hvars:s.vars=[])
  (hspec:∀ds:List (DataW H),ds.length=fn.params.size→s.fn H ds={ results:=[.lit (.bool true)],args:=ds })
  (hval:∀(j:Nat) t v,fn.params[j]? = some t→args[j]? = some v→Value.okWide P W .any base t v) (hW:DataW.Whole enc P fn.params.toList s.vars false W args.toList ds gs before)
  (hglob:H0 W)
  (main:∀ys:List AV,DReps P fn.params.toList ds ys→AFun P f ys [] (.v (.bool true))) (hbd:GI.bd≤0:=by exact Nat.le_refl 0):
  Calls P f args W (fun e W'=>∃v,e=.returned v∧s.post enc P fn false true false false W args v W'):=by
 have hW0:=hW
 obtain ⟨p,q,hA,hV,hpq,hfz,hnd⟩:=hW
 rw [hvars] at hV
 obtain ⟨rfl,rfl⟩:=trodVars_none hV
 rw [List.append_nil] at hpq
 subst hpq
 obtain ⟨ys,h1,h2,h3⟩:=U1 PT _ _ _ _ (fun t ht=>(hT t ht).1) (fun j t v a b=>hval j t v (by simpa using a) (by simpa using b)) hA
 have hlen:=P3 hA
 have hc:=main ys h1 0 (G0 W) W args (by simpa using h2.symm) (fun i y u a b=>(h3 i y u a (by simpa using b)).lift) (u7 W) (ua hglob)
 refine (callsIn_wide.1 (hc hbd)).mono ?_
 rintro e W' ⟨v,G',r,H',rfl,hr,hH,hTg,hk,hl,rfl,rfl⟩
 have hv:=Ib hr
 subst hv
 refine ⟨_,rfl,ds,[],before,[],before,[],hW0,?_,?_,?_,?_,fun h=>by cases h⟩
 ·rw [hres,List.append_nil,hspec ds (by simpa using hlen)]
  exact trodAll_cons_mk (p:=[]) (shut_bool hb true) trodAll_mk0
 ·rw [List.append_nil,hspec ds (by simpa using hlen)]
  refine Kg (DataW.TrodAll.respare K hz (fun t ht=>(hT t ht).2) hA (fun p hp=>by simpa using hW0.lt p hp)) (fun p hp=>?_)
  have hlt:=hW0.lt p hp
  have hb:=(hk.old _ (Nu hlt)).1
  cases p with
  | cell b o=>exact Da hb
  | map b=>exact hb
 ·rw [hvars,List.append_nil,hspec ds (by simpa using hlen)]
  rfl
 refine ⟨hk.os,hk.output,fun i hi=>?_⟩
 have hb:=(hk.old i (Nu hi)).1
 rw [hb]
 cases ho:W.heap[i]? with
 | none=>simp
 | some o=>cases o<;>simp
end
end Go.SX
namespace Go.Proofs.YtlafnblklafbkaaGreatDoor
open Go Go.SX Go.SX.Nb Go.ChangeShapes Go.RowKit
set_option maxRecDepth 100000

theorem own:ownKnob Tryz.prog.godebug=none:=by kernel_rfl
theorem kids:Kids Tryz.prog (·<Tryz.prog.types.size):=kids_rows (by kernel_rfl) (by kernel_rfl)
theorem full:∀t e,t<Tryz.prog.types.size→Tryz.prog.underlying t=some (.slice e)→0<Tryz.prog.cellsOf e:=slices_full_of Tryz.prog (by kernel_rfl)
theorem ol {H:Type}:∀d:DataW H,1≤Rows.uptoBulk d
 | .lit (.string b)=>by rw [Rows.uptoBulk];omega
 | .lit (.bool _)=>by simp [Rows.uptoBulk]
 | .lit (.int _ _)=>by simp [Rows.uptoBulk]
 | .lit (.float _ _)=>by simp [Rows.uptoBulk]
 | .lit .nil=>by simp [Rows.uptoBulk]
 | .nil=>by simp [Rows.uptoBulk]
 | .ptr d=>by rw [Rows.uptoBulk];omega
 | .slice a b=>by rw [Rows.uptoBulk];omega
 | .agg a=>by rw [Rows.uptoBulk];omega
 | .iface _ d=>by rw [Rows.uptoBulk];omega
 | .map a=>by rw [Rows.uptoBulk];omega
 | .held _=>by simp [Rows.uptoBulk]
theorem R6 {H:Type}:∀l:List (DataW H),l.length≤Rows.uptoBulkAll l∧∀d∈l,Rows.uptoBulk d≤Rows.uptoBulkAll l
 | []=>⟨Nat.zero_le _,fun d h=>by cases h⟩
 | d::r=>by
  obtain ⟨h1,h2⟩:=R6 r
  have:=ol d
  rw [Rows.uptoBulkAll,List.length_cons]
  refine ⟨by omega,fun x hx=>?_⟩
  rcases List.mem_cons.1 hx with rfl|hx
  ·omega
  have:=h2 x hx;omega
theorem kb {H:Type}:Bulk (Rows.uptoBulk (H:=H)) where
 str:=fun bs=>by rw [Rows.uptoBulk];omega
 slice:=fun elems spare=>by
  obtain ⟨h1,h2⟩:=R6 elems
  rw [Rows.uptoBulk]
  exact ⟨by omega,fun d hd=>by have:=h2 d hd;omega⟩
 agg:=fun parts d hd=>by
  have:=(R6 parts).2 d hd
  rw [Rows.uptoBulk]
  omega

/-- What the rows of this seat list. -/
def oo:List (String×DataW Unit):=Rows.migJoinsUptoRow.laid
theorem kc:∀u,Tryz.prog.typeName? 3 u=some "*errors.errorString" → u=271:=by
 intro u hu
 exact typeName_ptr_named (nm := "errors.errorString") (by kernel_rfl) (by kernel_rfl) (by decide) u hu
theorem uc {W:World} (h:laidMet Tryz.prog oo W):∃a:Addr,W.var? Tryz.prog "strconv.ErrRange" = some #[.iface 271 (.pointer (some a))]:=by
 have h':=h.tail.tail.tail.tail
 obtain ⟨a,s,h1,_⟩:=laid_sentinel (g:=3) (ti:=77) (tp:=271) (te:=273) (ts:=9) h' (by kernel_rfl) (by kernel_rfl) Tryz.underlying77 kc Tryz.underlying271 Tryz.underlying273 rfl rfl Tryz.underlying9 (by kernel_rfl) (by kernel_rfl)
 exact ⟨a,h1⟩
theorem ud {W:World} (h:laidMet Tryz.prog oo W):Lib.TabIs Tryz.prog W "internal/strconv.uint64pow10" .u64 Lib.pow10Tab:=
 Lib.tabIs_of_head (g:=5) (t:=268) (e:=126) (n:=20) (by kernel_rfl) (by kernel_rfl) (by kernel_rfl) (by kernel_rfl) (by kernel_rfl) (by kernel_rfl) h.tail.tail
theorem U3 {P:Program} {W:World} {n:String} {g:Nat} {cs:Array Value} (hg:P.globalNamed n=some g) (h:W.var? P n=some cs):∃t f,W.heap[g]? = some (.cells cs t f):=by
 unfold World.var? at h
 rw [hg] at h
 simp only [Option.bind_some] at h
 split at h
 ·rename_i cs' t f e
  injection h with h
  subst h
  exact ⟨t,f,e⟩
 cases h
theorem glob {W:World} [E:ErrAt] (h:W.ShapedOpen Tryz.prog) (hl:laidMet Tryz.prog oo W) (he:W.var? Tryz.prog "strconv.ErrRange" = some #[.iface 271 (.pointer (some E.b))]):H0 W:=by
 intro x hx
 have hx':x∈Tp:=hx
 unfold Tp at hx'
 simp only [List.mem_cons,List.mem_nil_iff,or_false] at hx'
 rcases hx' with rfl|rfl|rfl
 ·obtain ⟨m,hm⟩:=cell_of_shapedOpen_int (g:=0) (t:=3) (zero:=#[.int .i64 0]) (k:=.i64) h (of_decide_eq_true (by kernel_rfl)) (by kernel_rfl) rfl (by kernel_rfl) (by kernel_rfl) Tryz.underlying3
  obtain ⟨cs,hh,hs,_⟩:=h.1 0 #[.int .i64 0] 3 (of_decide_eq_true (by kernel_rfl)) (by kernel_rfl)
  have hs':cs.size=1:=hs
  have h1:0<cs.size:=by omega
  have hc:cs[0]=.int .i64 m:=by
   simp [World.cell?,hh,h1] at hm
   exact hm
  have:cs=#[.int .i64 m]:=by
   apply Array.ext
   ·simpa using hs'
   intro i h1 h2
   have:i=0:=by omega
   subst this
   simpa using hc
  rw [this] at hh
  exact ⟨_,hh,m,3,_,rfl⟩
 ·obtain ⟨t,f,e⟩:=U3 (g:=3) (by kernel_rfl) he
  exact ⟨_,e,t,f,rfl⟩
 obtain ⟨t,f,e⟩:=U3 (g:=5) (by kernel_rfl) (ud hl)
 exact ⟨_,e,t,f,rfl⟩
end Go.Proofs.YtlafnblklafbkaaGreatDoor
namespace Go.SX.Nb
open Go Go.SX Go.Proofs
variable [ErrAt]
set_option maxRecDepth 4000
mutual
def depthE:Expr→Nat
 | .mk _ _ _ k=>Cz k+1
def Cz:List Expr→Nat
  | []=>0
  | e::r=>max (depthE e) (Cz r)
 end
mutual
def B0 (p:Expr→Bool):Expr→Bool
 | .mk o t v k=>p (.mk o t v k)&&Iw p k
def Iw (p:Expr→Bool):List Expr→Bool
  | []=>true
  | e::r=>B0 p e&&Iw p r
 end
mutual
def R7:Expr→List Expr
 | .mk o t v k=>.mk o t v k::Nv k
def Nv:List Expr→List Expr
  | []=>[]
  | e::r=>R7 e++Nv r
 end
theorem L3 (e:Expr):depthE e=Cz e.kids+1:=by cases e;rfl
theorem Co (p:Expr→Bool) (e:Expr):B0 p e=(p e&&Iw p e.kids):=by cases e;rfl
theorem Lk:∀a b,Cz (a++b)=max (Cz a) (Cz b)
 | [],b=>by rw [List.nil_append,Cz,Nat.zero_max]
 | e::r,b=>by rw [List.cons_append,Cz,Cz,Lk r b,Nat.max_assoc]
theorem Jg:∀a b,B6 (a++b)=B6 a+B6 b
 | [],b=>by rw [List.nil_append,B6,Nat.zero_add]
 | e::r,b=>by rw [List.cons_append,B6,B6,Jg r b,Nat.add_assoc]
theorem P4 (p:Expr→Bool):∀a b,Iw p (a++b)=(Iw p a&&Iw p b)
 | [],b=>by rw [List.nil_append,Iw,Bool.true_and]
 | e::r,b=>by rw [List.cons_append,Iw,Iw,P4 p r b,Bool.and_assoc]
theorem P5 (l:List Expr) {x:Nat} (h:x<l.length):Cz (l.take (x+1))=max (Cz (l.take x)) (depthE l[x]):=by
 rw [List.take_succ_eq_append_getElem h,Lk,Cz,Cz,Nat.max_zero]
theorem cb (l:List Expr) {x:Nat} (h:x<l.length):B6 (l.take (x+1))=B6 (l.take x)+sizeE l[x]:=by
 rw [List.take_succ_eq_append_getElem h,Jg,B6,B6,Nat.add_zero]
theorem Bv (p:Expr→Bool):∀l:List Expr,Iw p l=true↔∀y∈l,B0 p y=true
 | []=>by simp [Iw]
 | e::r=>by rw [Iw,Bool.and_eq_true,Bv p r];simp
mutual
theorem Es:∀(d:Int) (e:Expr),(Au d e).length=sizeE e
 | d,.mk o t v k=>by rw [Au,sizeE,List.length_cons,R8 (d+1) k,Nat.add_comm]
theorem R8:∀(d:Int) (l:List Expr),(Ar d l).length=B6 l
  | d,[]=>rfl
  | d,e::r=>by rw [Ar,B6,List.length_append,Es d e,R8 d r]
 end
mutual
theorem R9:∀(d:Int) (e:Expr),(Au d e).map (·.2)=R7 e
 | d,.mk o t v k=>by rw [Au,R7,List.map_cons,Ra (d+1) k]
theorem Ra:∀(d:Int) (l:List Expr),(Ar d l).map (·.2)=Nv l
  | d,[]=>rfl
  | d,e::r=>by rw [Ar,Nv,List.map_append,R9 d e,Ra d r]
 end
mutual
theorem U4 (p:Expr→Bool):∀e:Expr,(R7 e).all p=B0 p e
 | .mk o t v k=>by rw [R7,B0,List.all_cons,Rb p k]
theorem Rb (p:Expr→Bool):∀l:List Expr,(Nv l).all p=Iw p l
  | []=>rfl
  | e::r=>by rw [Nv,Iw,List.all_append,U4 p e,Rb p r]
 end
theorem ke (p:Expr→Bool) (d:Int) (e:Expr):((Au d e).all fun it=>p it.2)=B0 p e:=by
 rw [←U4 p e,←R9 d e,List.all_map]
 rfl
def E1 (m:Int) (L:List (Int×Expr)):Int:=L.foldl (fun m it=>max m it.1) m
mutual
theorem Rc:∀(d m:Int) (e:Expr),E1 m (Au d e)=max m (d-1+depthE e)
 | d,m,.mk o t v k=>by
  rw [Au,depthE]
  show E1 (max m d) (Ar (d+1) k)=_
  rw [Rd (d+1) (max m d) k (by omega)]
  omega
theorem Rd:∀(d m:Int) (l:List Expr),d-1≤m→E1 m (Ar d l)=max m (d-1+Cz l)
  | d,m,[],h=>by
    rw [Ar,Cz]
    show m=_
    omega
  | d,m,e::r,h=>by
    rw [Ar,Cz]
    unfold E1
    rw [List.foldl_append]
    show E1 (E1 m (Au d e)) (Ar d r)=_
    rw [Rc d m e,Rd d _ r (by omega)]
    omega
 end
theorem P6 (e:Expr):E1 0 (Au 1 e)=depthE e:=by rw [Rc];omega
theorem Y3:∀(L:List (Int×Expr)) (m b:Int),m≤b→(E1 m L≤b↔∀it∈L,it.1≤b)
 | [],m,b,h=>by simp [E1,h]
 | it::r,m,b,h=>by
  show E1 (max m it.1) r≤b↔_
  rcases Decidable.em (it.1≤b) with h1|h1
  ·rw [Y3 r (max m it.1) b (by omega)]
   simp [h1]
  constructor
  ·intro h2
   have:∀(r:List (Int×Expr)) (m:Int),m≤E1 m r:=by
    intro r
    induction r with
    | nil=>intro m;exact Int.le_refl _
    | cons a r ih=>intro m;have:=ih (max m a.1);show m≤E1 (max m a.1) r;omega
   have:=this r (max m it.1)
   omega
  intro h2
  exact absurd (h2 it (by simp)) h1
theorem ue (e:Expr) {b:Nat}:(∀it∈Au 1 e,it.1≤(b:Int))↔depthE e≤b:=by
 rw [←Y3 (Au 1 e) 0 b (by omega),P6]
 omega
def Ax (e:Expr):Bool:=(decide (depthE e≤30)&&decide (sizeE e≤300))&&B0 At e
theorem Cu (e:Expr):B4 e=Ax e:=by
 have hpos:1≤sizeE e:=by rw [Dw];omega
 rw [Bool.eq_iff_iff]
 unfold B4 Ax
 rw [List.all_eq_true]
 simp only [Bool.and_eq_true,decide_eq_true_eq,List.mem_range,Es]
 rw [←ue e,←ke At 1 e,List.all_eq_true]
 constructor
 ·intro h
  have key:∀(k:Nat) (hk:k<(Au 1 e).length),At (Au 1 e)[k].2=true∧(Au 1 e)[k].1≤30∧(k:Int)+1≤300:=fun k hk=>by
   have:=h k (by rw [Es] at hk;exact hk)
   rw [W5 (List.getElem?_eq_getElem hk)] at this
   simp only [Bool.not_eq_true',Bool.or_eq_false_iff,Bool.not_eq_false',decide_eq_false_iff_not] at this
   exact ⟨this.1.1,by have:=this.1.2;omega,by have:=this.2;omega⟩
  refine ⟨⟨fun it hit=>?_,?_⟩,fun it hit=>?_⟩
  ·obtain ⟨k,hk,rfl⟩:=List.getElem_of_mem hit
   exact (key k hk).2.1
  ·have:=(key (sizeE e-1) (by rw [Es];omega)).2.2
   omega
  obtain ⟨k,hk,rfl⟩:=List.getElem_of_mem hit
  exact (key k hk).1
 rintro ⟨⟨h1,h2⟩,h3⟩ k hk
 have hk':k<(Au 1 e).length:=by rw [Es];exact hk
 rw [W5 (List.getElem?_eq_getElem hk')]
 have a1:=h1 _ (List.getElem_mem hk')
 have a3:=h3 _ (List.getElem_mem hk')
 have a3':At (Au 1 e)[k].2=true:=a3
 rw [a3']
 simp only [Bool.not_eq_true',Bool.or_eq_false_iff,Bool.not_true,decide_eq_false_iff_not]
 exact ⟨⟨trivial,by have:(Au 1 e)[k].1≤(30:Int):=a1;omega⟩,by omega⟩
/-- Its number is one of 64 bits. -/
def D6 (e:Expr):Bool:=decide (-9223372036854775808≤e.val.n)&&decide (e.val.n≤9223372036854775807)
/-! Names. -/
mutual
def yk (s:Str) (y:Expr):Expr→Expr
 | .mk o t v k=>if (o==2)&&(t==s) then y else .mk o t v (uf s y k)
def uf (s:Str) (y:Expr):List Expr→List Expr
  | []=>[]
  | e::r=>yk s y e::uf s y r
 end
mutual
def eqE:Expr→Expr→Bool
 | .mk o t v k,.mk o' t' v' k'=>((((o==o')&&(t==t'))&&((v.kind==v'.kind&&v.n==v'.n)&&v.s==v'.s)))&&eqL k k'
def eqL:List Expr→List Expr→Bool
  | [],[]=>true
  | e::r,e'::r'=>eqE e e'&&eqL r r'
  | _,_=>false
 end
theorem ot (x y:Expr):eqE x y=((((x.op==y.op)&&(x.text==y.text))&&((x.val.kind==y.val.kind&&x.val.n==y.val.n)&&x.val.s==y.val.s))&&eqL x.kids y.kids):=by
 cases x;cases y;rw [eqE];rfl
mutual
theorem Jh:∀x y:Expr,eqE x y=true↔x=y
 | .mk o t v k,.mk o' t' v' k'=>by
  rw [eqE]
  simp only [Bool.and_eq_true,beq_iff_eq,If k k',Expr.mk.injEq]
  constructor
  ·rintro ⟨⟨⟨rfl,rfl⟩,⟨h1,h2⟩,h3⟩,rfl⟩
   refine ⟨rfl,rfl,?_,rfl⟩
   cases v;cases v'
   simp_all
  rintro ⟨rfl,rfl,rfl,rfl⟩
  exact ⟨⟨⟨rfl,rfl⟩,⟨rfl,rfl⟩,rfl⟩,rfl⟩
theorem If:∀x y:List Expr,eqL x y=true↔x=y
  | [],[]=>by simp [eqL]
  | [],e::r=>by simp [eqL]
  | e::r,[]=>by simp [eqL]
  | e::r,e'::r'=>by rw [eqL,Bool.and_eq_true,Jh e e',If r r',List.cons.injEq]
 end
theorem ug:∀{x y:List Expr},eqL x y=true→x.length=y.length:=fun h=>by rw [(If _ _).1 h]
theorem Re (x:Expr):eqE x x=true:=(Jh x x).2 rfl
/-! A node by itself, and marks. -/
theorem Hc {of:Str} {ws:List Str} (h:of=Hw ws) (hp:∀w∈ws,(32:UInt8)∉w) (s:Str):Dh s of=(!(s==[])&&ws.contains s):=by
 unfold Dh
 rw [Y1]
 cases hb:s.contains 32 with
 | false =>
  have h2:(32:UInt8)∉s:=by simpa using hb
  rw [h,Hy s h2 ws hp,Bool.not_false,Bool.and_true]
  congr 1
  rw [List.contains_eq_any_beq]
  congr 1
  funext w
  rw [Bool.eq_iff_iff,beq_iff_eq,beq_iff_eq]
  exact eq_comm
 | true =>
  have h2:(32:UInt8)∈s:=by simpa using hb
  have h3:ws.contains s=false:=by
   rw [Bool.eq_false_iff]
   intro h4
   exact hp s (by simpa using h4) h2
  rw [h3]
  simp
def levels:List (List Str):=[[[111,114]],[[97,110,100]],[],[[61],[33,61],[60],[60,61],[62],[62,61]],[[43],[45],[38]],[[42],[47],[37]]]
def Ae (s:Str):Int:=match levels.findIdx? (fun l=>l.contains s) with|some i=>i|none => -1
def Nw:List Str:=[[111,114],[],[97,110,100],[],[61],[33,61],[60],[60,61],[62],[62,61],[],[43],[45],[38],[],[42],[47],[37]]
theorem cd:L2=Hw Nw:=by kernel_rfl
theorem Y4:∀w∈Nw,(32:UInt8)∉w:=by decide
theorem ce (s:Str):Dh s L2=decide (0≤Ae s):=by
 rw [Hc cd Y4 s]
 have h1:decide (0≤Ae s)=levels.any (fun l=>l.contains s):=by
  unfold Ae
  cases h:levels.findIdx? (fun l=>l.contains s) with
  | some i =>
   have:levels.any (fun l=>l.contains s)=true:=by
    have:=List.findIdx?_eq_some_iff_getElem.1 h
    obtain ⟨hi,hp,_⟩:=this
    exact List.any_eq_true.2 ⟨_,List.getElem_mem hi,hp⟩
   rw [this]
   simp
  | none =>
   have:=List.findIdx?_eq_none_iff.1 h
   have e:levels.any (fun l=>l.contains s)=false:=by
    rw [List.any_eq_false]
    intro l hl
    rw [this l hl]
    simp
   rw [e]
   rfl
 rw [h1]
 by_cases h0:s=[]
 ·subst h0;rfl
 have:(s==[])=false:=by simpa using h0
 rw [this,Bool.not_false,Bool.true_and]
 simp [levels,Nw,h0,Bool.or_assoc]
def Dx (e:Expr):Bool:=
 if e.op==1 then ((Bd e.val&&decide (0≤e.val.n))&&(e.text==[]))&&((e.kids.length:Int)==0)
 else if !(Fy e.val) then false
 else if e.op==2 then E0 e.text&&((e.kids.length:Int)==0)
 else if e.op==3 || e.op==4 then (e.text==[])&&((e.kids.length:Int)==1)
 else if e.op==5 then decide (0≤Ae e.text)&&((e.kids.length:Int)==2)
 else if e.op==6 then B5 e.text==(e.kids.length:Int)
 else false
theorem Et (e:Expr):At e=Dx e:=by
 unfold At Dx
 rw [ce,Cy]
 cases Fy e.val<;>simp
/-! What is wide. -/
def Nx (e:Expr):Bool:=((decide ((100:Int)<e.text.length) || decide ((400:Int)<e.val.s.length)) || decide ((100:Int)<e.kids.length))
/-- Among trees, when n have been seen: is one too much? -/
def Ll (l:List Expr) (n:Nat):Bool:=decide (500<n+l.length) || l.any Nx
def F6:Nat→List Expr→Nat→Bool
 | 0,l,n => !l.isEmpty
 | f+1,l,n=>if l.isEmpty then false else if Ll l n then true else if decide ((500:Int)<(l.flatMap Expr.kids).length) then true else F6 f (l.flatMap Expr.kids) (n+l.length)
theorem Rf:∀l:List Expr,B6 l=l.length+B6 (l.flatMap Expr.kids)
 | []=>rfl
 | e::r=>by
  rw [B6,Dw,List.flatMap_cons,Jg,Rf r,List.length_cons]
  omega
theorem Rg {l:List Expr} {n:Nat} (h:Ll l n=false):n+l.length≤500∧∀e∈l,Nx e=false:=by
 unfold Ll at h
 simp only [Bool.or_eq_false_iff,decide_eq_false_iff_not,List.any_eq_false,Bool.not_eq_true] at h
 exact ⟨by omega,h.2⟩
theorem W6 {e:Expr} (h:Nx e=false):e.text.length≤100∧e.val.s.length≤400∧e.kids.length≤100:=by
 unfold Nx at h
 simp only [Bool.or_eq_false_iff,decide_eq_false_iff_not] at h
 omega
theorem U5 {f:Nat} {l:List Expr} {n:Nat} (h:F6 (f+1) l n=false) (hl:l.isEmpty=false):Ll l n=false∧(l.flatMap Expr.kids).length≤500∧F6 f (l.flatMap Expr.kids) (n+l.length)=false:=by
 rw [F6,if_neg (by rw [hl];simp)] at h
 split at h
 ·cases h
 rename_i h1
 split at h
 ·cases h
 rename_i h2
 simp only [decide_eq_true_eq] at h2
 exact ⟨by simpa using h1,by omega,h⟩
theorem ek:∀(f:Nat) (l:List Expr) (n:Nat),F6 f l n=false→∀e∈l,okE f e∧B0 (fun y => !Nx y) e=true
 | 0,l,n,h,e,he=>by
  have:l=[]:=by simpa [F6] using h
  subst this
  cases he
 | f+1,l,n,h,e,he=>by
  have hl:l.isEmpty=false:=by cases l<;>simp_all
  obtain ⟨h1,h2,h3⟩:=U5 h hl
  have h4:=W6 ((Rg h1).2 e he)
  have ih:=ek f _ _ h3
  have hk:∀y∈e.kids,okE f y∧B0 (fun y => !Nx y) y=true:=fun y hy=>ih y (List.mem_flatMap.2 ⟨e,he,hy⟩)
  refine ⟨⟨by omega,by omega,fun y hy=>(hk y hy).1⟩,?_⟩
  rw [Co,(Rg h1).2 e he,(Bv _ _).2 fun y hy=>(hk y hy).2]
  rfl
theorem U6:∀(f:Nat) (l:List Expr) (n:Nat),n≤500→F6 f l n=false→n+B6 l≤500
 | 0,l,n,hn,h=>by
  have:l=[]:=by simpa [F6] using h
  subst this
  simpa [B6] using hn
 | f+1,l,n,hn,h=>by
  by_cases hl:l.isEmpty=true
  ·have:l=[]:=by simpa using hl
   subst this
   simpa [B6] using hn
  have hl':l.isEmpty=false:=by simpa using hl
  obtain ⟨h1,h2,h3⟩:=U5 h hl'
  have:=U6 f _ _ (Rg h1).1 h3
  rw [Rf l]
  omega
def Rh (e:Expr):Bool:=F6 61 [e] 0
/-- A tree that is gone through. -/
structure Slim (e:Expr):Prop where
 ok:okE 61 e
 size:sizeE e≤500
 slim:B0 (fun y => !Nx y) e=true
theorem uh {e:Expr} (h:Rh e=false):Slim e:=by
 obtain ⟨h1,h2⟩:=ek _ _ _ h e (by simp)
 have:=U6 _ _ _ (by decide) h
 exact ⟨h1,by simpa [B6] using this,h2⟩
end Go.SX.Nb
namespace Go.Proofs.YtlafnblklafbkaaGreatDoor
open Go Go.SX Go.SX.Nb Go.ChangeShapes Go.RowKit
set_option maxRecDepth 100000
theorem cf {ys:List AV} (h:∀(i:Nat) (y:AV),ys[i]? = some y→∃e:Nb.Expr,y=A5 e∧B0 D6 e=true):∃l:List Nb.Expr,ys=l.map A5∧Iw D6 l=true:=by
 induction ys with
 | nil=>exact ⟨[],rfl,rfl⟩
 | cons y ys ih =>
  obtain ⟨e,rfl,he⟩:=h 0 y rfl
  obtain ⟨l,rfl,hl⟩:=ih (fun i z hz=>h (i+1) z hz)
  exact ⟨e::l,rfl,by rw [Iw,he,hl];rfl⟩
theorem ui {H:Type} [ErrAt] (d:DataW H) (y:AV) (h:DRep Tryz.prog 67 d y):∃v:Val,y=Nk v ∧ -9223372036854775808≤v.n∧v.n≤9223372036854775807:=by
 obtain ⟨ys,hn,rfl,hh⟩:=h.struct' kb Tryz.underlying67
 match ys,hn with
 | [y0,y1,y2],_ =>
  obtain ⟨d0,b0,h0⟩:=hh 0 _ y0 rfl rfl
  obtain ⟨d1,b1,h1⟩:=hh 1 _ y1 rfl rfl
  obtain ⟨d2,b2,h2⟩:=hh 2 _ y2 rfl rfl
  obtain ⟨k,rfl,rfl,_⟩:=h0.int' Tryz.underlying3
  obtain ⟨n,rfl,rfl,hn1,hn2⟩:=h1.int' Tryz.underlying2
  obtain ⟨s,rfl,rfl⟩:=h2.str' Tryz.underlying9
  exact ⟨⟨k,n,s⟩,rfl,hn1,hn2⟩
theorem ou {H:Type} [ErrAt] {t:TypeId} {d:DataW H} {y:AV} (h:DRep Tryz.prog t d y):(t=69→∃e:Nb.Expr,y=A5 e∧B0 D6 e=true)∧(t=45→∃l:List Nb.Expr,y=.slice false 6 (l.map A5)∧Iw D6 l=true):=by
 induction h with
 | int hu _=>exact ⟨fun e=>(by subst e;rw [Tryz.underlying69] at hu;cases hu),fun e=>by subst e;rw [Tryz.underlying45] at hu;cases hu⟩
 | bool hu=>exact ⟨fun e=>(by subst e;rw [Tryz.underlying69] at hu;cases hu),fun e=>by subst e;rw [Tryz.underlying45] at hu;cases hu⟩
 | str hu=>exact ⟨fun e=>(by subst e;rw [Tryz.underlying69] at hu;cases hu),fun e=>by subst e;rw [Tryz.underlying45] at hu;cases hu⟩
 | nil hu =>
  refine ⟨fun e=>(by subst e;rw [Tryz.underlying69] at hu;cases hu),fun e=>?_⟩
  subst e
  rw [Tryz.underlying45] at hu
  injection hu with hu
  injection hu with hu
  subst hu
  exact ⟨[],by rw [show Tryz.prog.cellsOf 69=6 by kernel_rfl];rfl,rfl⟩
 | slice hu hn hh ih =>
  refine ⟨fun e=>(by subst e;rw [Tryz.underlying69] at hu;cases hu),fun e=>?_⟩
  subst e
  rw [Tryz.underlying45] at hu
  injection hu with hu
  injection hu with hu
  subst hu
  rename_i elems spare ys
  obtain ⟨l,rfl,hl⟩:=cf (ys:=ys) (fun i y hy=>by
   have hlt:i<elems.length:=by rw [←hn];exact (List.getElem?_eq_some_iff.1 hy).1
   exact (ih i elems[i] y (List.getElem?_eq_getElem hlt) hy).1 rfl)
  exact ⟨l,by rw [show Tryz.prog.cellsOf 69=6 by kernel_rfl],hl⟩
 | struct hu hn hn' hh ih =>
  refine ⟨fun e=>?_,fun e=>by subst e;rw [Tryz.underlying45] at hu;cases hu⟩
  subst e
  rw [Tryz.underlying69] at hu
  injection hu with hu
  injection hu with hu
  subst hu
  rename_i parts ys
  match parts,hn,ys,hn' with
  | [p0,p1,p2,p3],_,[y0,y1,y2,y3],_ =>
   obtain ⟨o,rfl,rfl,_⟩:=(hh 0 _ p0 y0 rfl rfl rfl).int' Tryz.underlying3
   obtain ⟨s,rfl,rfl⟩:=(hh 1 _ p1 y1 rfl rfl rfl).str' Tryz.underlying9
   obtain ⟨v,rfl,hv1,hv2⟩:=ui p2 y2 (hh 2 _ p2 y2 rfl rfl rfl)
   obtain ⟨l,rfl,hl⟩:=(ih 3 _ p3 y3 rfl rfl rfl).2 rfl
   refine ⟨.mk o s v l,?_,?_⟩
   ·rw [Ac];rfl
   rw [B0,hl,Bool.and_true]
   show (decide (-9223372036854775808≤v.n)&&decide (v.n≤9223372036854775807))=true
   simp [hv1,hv2]
end Go.Proofs.YtlafnblklafbkaaGreatDoor
namespace Go.SX.Nb
open Go Go.SX Go.Proofs
variable [ErrAt]
set_option maxRecDepth 4000
/-- The lexer from a place between two words on. -/
def Jw (f q:Nat) (s:Str):List (Tok×Int):=E6 f (q+gapM s) (s.drop (gapM s))
theorem ov (s:Str):B3 s=Jw (s.length+1) 0 s:=by unfold B3 Jw;rw [Nat.zero_add]
theorem Y5 {f q:Nat} {s:Str} (h:s≠[]):∃(n:Nat),E6 (f+1) q s=(⟨(Aw s).1,(Aw s).2.1,q⟩,(Aw s).2.2.2)::(if (Aw s).2.2.2=0 then Jw f (q+n) (s.drop n) else [])∧((Aw s).2.2.2=0→(Aw s).2.2.1=(n:Int)∧1≤n∧n≤s.length):=by
 refine ⟨(Aw s).2.2.1.toNat,?_,fun he=>?_⟩
 ·rw [Gm h]
  simp only [beq_iff_eq]
  rfl
 obtain ⟨n,h1,h2,h3⟩:=W3 (s:=s) (by cases s with|nil=>exact absurd rfl h|cons c r=>simp) he
 rw [h1]
 exact ⟨rfl,by simpa using h2,by simpa using h3⟩
theorem P7:∀(f f' q:Nat) (s:Str),s.length<f→s.length<f'→E6 f q s=E6 f' q s
 | 0,_,_,_,h,_=>by omega
 | _+1,0,_,_,_,h=>by omega
 | f+1,g+1,q,s,h1,h2=>by
  by_cases hs:s=[]
  ·subst hs;rfl
  rw [Gm hs,Gm hs]
  congr 1
  by_cases he:(Aw s).2.2.2=0
  ·obtain ⟨n,hn,k1,k2⟩:=W3 (s:=s) (by cases s with|nil=>exact absurd rfl hs|cons c r=>simp) he
   rw [he]
   simp only [beq_self_eq_true,if_true]
   rw [hn,Int.toNat_natCast]
   exact P7 f g _ _ (by simp only [List.length_drop];omega) (by simp only [List.length_drop];omega)
  rw [if_neg (by simpa using he),if_neg (by simpa using he)]
/-! ### Gaps -/
/-! ### Words -/
theorem Hj (s of:Str):Bh s of=s.takeWhile (of.contains ·):=Xs s of
theorem W7 {s:Str} (h:(Db s).2.1=0):s.length≤4000∧(∀it∈B3 s,it.2=0)∧Db s=((B3 s).map (·.1)++[⟨0,[],s.length⟩],0,0):=by
 unfold Db at h ⊢
 split at h
 ·exact absurd h (show ¬(3:Int)=0 by decide)
 rename_i hl
 rw [if_neg hl]
 cases hf:(B3 s).find? (fun it=>it.2 != 0) with
 | some it =>
  rw [hf] at h
  have:=List.find?_some hf
  simp at this
  exact absurd h this
 | none =>
  rw [List.find?_eq_none] at hf
  refine ⟨by omega,fun it hit=>by simpa using hf it hit,rfl⟩
theorem uj {s:Str} (hl:s.length≤4000) (h:∀it∈B3 s,it.2=0):Db s=((B3 s).map (·.1)++[⟨0,[],s.length⟩],0,0):=by
 unfold Db
 rw [if_neg (by omega),Xv h]
theorem He (k:Int):(Ah k).length≤4:=by
 unfold Ah
 split
 ·simp
 rename_i h
 have hk:k=1∨k=2∨k=3:=by omega
 rcases hk with rfl|rfl|rfl<;>decide
theorem ABn:Tryz.prog.eqGuardType Tryz.prog.depth 64=false:=by kernel_rfl
theorem el (k k':Int) (s s':List UInt8) (w:World):(Op.equal 64 (.agg #[.string ⟨s.toArray⟩,.int .i64 k]) (.agg #[.string ⟨s'.toArray⟩,.int .i64 k'])).run Tryz.prog w=.ok (s==s'&&k==k') w:=by
 have h1:Tryz.prog.stoodInHeld 64=false:=by kernel_rfl
 show (Op.equalIn (9999+1) _ _ _).run _ _=_
 rw [Op.equalIn]
 generalize hd:(9999:Nat)=d
 obtain ⟨d,rfl⟩:∃e,d=e+1:=⟨9998,hd.symm⟩
 clear hd
 simp [run_underlying Tryz.underlying64,h1,part,mm _ _ _ _ _ _ Tryz.underlying3,ww _ _ _ _ _ Tryz.underlying9,Tryz.isAgg3,Tryz.isAgg9]
 by_cases e1:k=k'<;>by_cases e3:s=s'<;>simp [e1,e3]
theorem Pq {a b:Col}:(a.name==b.name&&a.kind==b.kind)=decide (a=b):=by
 rw [Bool.eq_iff_iff]
 cases a;cases b
 simp
def Ig (s:Str):Int:=if Ah 1==s then 1 else if Ah 2==s then 2 else if Ah 3==s then 3 else 0
structure KindUpto (s:Str) (x:Nat):Prop where
 le:x≤3
 a:1≤x→(Ah 1==s)=false
 b:2≤x→(Ah 2==s)=false
 c:3≤x→(Ah 3==s)=false
theorem uk {s:Str} {x:Nat} (h:KindUpto s x) (hx:x<3) (e:(Ah ((x:Int)+1)==s)=true):Ig s=(x:Int)+1:=by
 have h3:x=0∨x=1∨x=2:=by omega
 unfold Ig
 rcases h3 with rfl|rfl|rfl
 ·have e:(Ah 1==s)=true:=e
  rw [if_pos e];rfl
 ·have e:(Ah 2==s)=true:=e
  rw [if_neg (by rw [h.a (by omega)];simp),if_pos e];rfl
 have e:(Ah 3==s)=true:=e
 rw [if_neg (by rw [h.a (by omega)];simp),if_neg (by rw [h.b (by omega)];simp),if_pos e];rfl
theorem ul {s:Str} {x:Nat} (h:KindUpto s x) (hx:x<3) (e:(Ah ((x:Int)+1)==s)=false):KindUpto s (x+1):=by
 have h3:x=0∨x=1∨x=2:=by omega
 rcases h3 with rfl|rfl|rfl
 ·exact ⟨by omega,fun _=>e,fun h=>by omega,fun h=>by omega⟩
 ·exact ⟨by omega,fun _=>h.a (by omega),fun _=>e,fun h=>by omega⟩
 exact ⟨by omega,fun _=>h.a (by omega),fun _=>h.b (by omega),fun _=>e⟩
theorem um {s:Str} {x:Nat} (h:KindUpto s x) (hx:3≤x):Ig s=0:=by
 unfold Ig
 rw [if_neg (by rw [h.a (by omega)];simp),if_neg (by rw [h.b (by omega)];simp),if_neg (by rw [h.c (by omega)];simp)]
theorem ADa (s:Str) (Hp:List AObj):AFun Tryz.prog 191 [Aa s] Hp (A3 (Ig s)):=by
 refine ACall.body [.tmp 2] [0] Tryz.func191 Tryz.ntmps191 (fun d=>?_)
 refine Z46 ?_;refine Z8 ?_;refine Hu ?_
 refine AW.loopC (α:=Nat) (fun x=>⟨13,A6 0 (Aa s) (A6 3 (A3 ((x:Nat)+1)) (fun _=>.any)),Hp,[],[],none⟩) (fun x=>KindUpto s x) (fun x=>3-x) (0) ⟨by omega,fun h=>by omega,fun h=>by omega,fun h=>by omega⟩ (StLe.refl _) rfl (fun x hx=>?_)
 refine Z31 ?_;refine R.fin [0,3,5] ?_
 refine W.cond (fun ht5=>?_) (fun ht5=>?_)
 ·have hx3:x<3:=by simp at ht5;omega
  refine Z44 ?_;refine Z0 ?_;refine R.call Tryz.call68 (c68 _ _) ?_;refine Z1 ?_;refine R.fin [0,3,11] ?_
  refine W.cond (fun ht11=>?_) (fun ht11=>?_)
  ·refine Xk ?_;refine Z32 ?_;exact K.fin (V.one V.tmp) ⟨by rw [uk hx hx3 (by simpa using ht11)],rfl⟩
  refine n6 ?_;exact K.lpN (x+1) (ul hx hx3 (by simpa using ht11)) (by omega) (StCut.of_eq (by simp))
 have hx3:3≤x:=by simp at ht5;omega
 refine Z47 ?_;refine Z12 ?_;exact K.fin (V.one V.tmp) ⟨by rw [um hx hx3],rfl⟩

def Mr (c:UInt8):Str:=if c=39 then [39,39] else [c]
def Bn (t:Str):Str:=t.flatMap Mr
theorem Ri:∀t:Str,(Bn t).length≤2*t.length
 | []=>Nat.le_refl _
 | c::r=>by
  have:=Ri r
  unfold Bn at this ⊢
  rw [List.flatMap_cons,List.length_append,List.length_cons]
  have h:(Mr c).length≤2:=by unfold Mr;split<;>simp
  omega
theorem U7 {t:Str} {x:Nat} (h:x<t.length):Bn (t.take (x+1))=Bn (t.take x)++Mr t[x]:=by
 unfold Bn
 rw [List.take_succ,List.getElem?_eq_getElem h,List.flatMap_append]
 simp
abbrev cg (l:Str):AV:=.slice true 1 (l.map u8A)
theorem hlb {t:Str} (ht:t.length≤1048576) (x:Nat):(Bn (t.take x)).length≤2097152:=by
 have:=Ri (t.take x)
 have h2:(t.take x).length≤t.length:=by rw [List.length_take];omega
 omega
theorem G8 (c:UInt8) (r:Str):Bn (c::r)=Mr c++Bn r:=by unfold Bn;rw [List.flatMap_cons]
theorem en:∀s:Str,(Lib.index s [39] = -1∧Bn s=s)∨∃i:Nat,Lib.index s [39]=(i:Int)∧i<s.length∧Bn s=s.take i++[39,39]++Bn (s.drop (i+1))
 | []=>.inl ⟨rfl,rfl⟩
 | b::l=>by
  by_cases hb:b=39
  ·subst hb
   refine .inr ⟨0,by simp [Lib.index,List.isPrefixOf],by simp,?_⟩
   rw [G8]
   simp [Mr]
  have hp:([39]:Str).isPrefixOf (b::l)=false:=by
   simp [List.isPrefixOf,Ne.symm hb]
  have hd:Bn (b::l)=b::Bn l:=by
   rw [G8,Mr,if_neg hb]
   rfl
  rcases en l with ⟨h1,h2⟩|⟨i,h1,h2,h3⟩
  ·refine .inl ⟨?_,by rw [hd,h2]⟩
   rw [Lib.index,hp,h1];rfl
  refine .inr ⟨i+1,?_,by simp;omega,?_⟩
  ·rw [Lib.index,hp,h1,if_neg (by simp),if_neg (by simp)]
   rfl
  rw [hd,h3]
  simp
theorem Ms:∀(n:Nat) (s:Str),s.length≤n→Lib.replaceK [39] [39,39] (Lib.count s [39]) s=Bn s
 | n,s,hn=>by
  rcases en s with ⟨h1,h2⟩|⟨i,h1,h2,h3⟩
  ·rw [Lib.count_miss h1,h2];rfl
  cases n with
  | zero=>omega
  | succ n =>
   rw [Lib.count_hit (by decide) h1,Nat.add_comm,Lib.replaceK_hit _ _ _ _ i h1]
   have e:i+([39]:Str).length=i+1:=rfl
   rw [e,Ms n (s.drop (i+1)) (by rw [List.length_drop];omega),h3]
theorem Gn (s:Str):Lib.replaceAll s [39] [39,39]=Bn s:=by
 unfold Lib.replaceAll Lib.replace
 rw [if_neg (by decide)]
 have e:Lib.replaceNum s [39] (-1)=Lib.count s [39]:=by unfold Lib.replaceNum;rw [if_pos (.inl (by decide))]
 rw [e]
 exact Ms _ s (Nat.le_refl _)
def eo (t:Tok):Str:=if t.kind=4 then [39]++Bn t.text++[39] else t.text
theorem cj {q:Str} (h0:q.headD 0=39) (h1:1≤q.length) (h:(Cv q).2=0):[39]++Bn (Cv q).1.s++[39]=q:=by
 cases q with
 | nil=>simp at h1
 | cons c r =>
  have hc:c=39:=h0
  subst hc
  unfold Cv at h ⊢
  have n1:((39::r:Str)==[110,117,108,108])=false:=by rw [beq_eq_false_iff_ne];intro e;injection e with e;exact absurd e (by decide)
  have n2:((39::r:Str)==[116,114,117,101])=false:=by rw [beq_eq_false_iff_ne];intro e;injection e with e;exact absurd e (by decide)
  have n3:((39::r:Str)==[102,97,108,115,101])=false:=by rw [beq_eq_false_iff_ne];intro e;injection e with e;exact absurd e (by decide)
  rw [n1,n2,n3] at h ⊢
  simp only [Bool.false_eq_true,if_false,Bool.or_self] at h ⊢
  by_cases hq:Jt (39::r)=true
  ·rw [if_pos hq] at h ⊢
   unfold Tu at h ⊢
   split at h
   ·exact absurd h (show ¬(7:Int)=0 by decide)
   rename_i hp
   rw [if_neg hp]
   have hp':Bk (Mk (39::r))=39::r:=by simpa using hp
   have hk:(Mk (39::r)).kind=2:=rfl
   show [39]++Bn (Mk (39::r)).s++[39]=39::r
   generalize Mk (39::r)=v at hp' hk
   have hne:Bk v≠[]:=by rw [hp'];simp
   rw [←hp']
   unfold Bk at hne ⊢
   split at hne
   ·exact absurd rfl hne
   rename_i hpl
   rw [if_neg hpl,hk,if_neg (by decide),if_pos (by decide),Gn]
  rw [if_neg hq] at h
  have hd:Fe (39::r)=true:=by
   unfold Fe
   have e:Li (39::r)=39::r:=by
    rcases Oz (39::r) with ⟨_,h4⟩|⟨r',h3,_⟩
    ·exact h4
    injection h3 with h3;exact absurd h3 (by decide)
   rw [e]
   have:(Lib.trimS (39::r) digs==[])=false:=by
    rw [beq_eq_false_iff_ne]
    intro e
    rw [Tq] at e
    exact absurd (e 39 (by simp)) (by decide)
   rw [this]
   simp
  have hn:Cp (39::r)=(0,6):=by unfold Cp;rw [if_pos hd]
  rw [hn] at h
  simp at h
theorem Td (s:Str) (m:Nat):s.take (s.take m).length=s.take m:=by
 rw [List.length_take]
 rcases Nat.le_total m s.length with h|h
 ·rw [Nat.min_eq_left h]
 rw [Nat.min_eq_right h,List.take_of_length_le (Nat.le_refl _),List.take_of_length_le h]
theorem Kh (s of:Str):s.take (Bh s of).length=Bh s of:=by
 unfold Bh
 exact Td s _
/-- What a word's print spells is what was read. -/
theorem ck {s:Str} {n p:Nat} (h0:1≤s.length) (he:(Aw s).2.2.2=0) (hn:(Aw s).2.2.1=(n:Int)):eo ⟨(Aw s).1,(Aw s).2.1,p⟩=s.take n:=by
 cases s with
 | nil=>simp at h0
 | cons c r =>
  unfold Aw at he hn ⊢
  by_cases c1:decide (0<H1 ((c::r).take 1) letters)=true
  ·rw [if_pos c1] at he hn
   simp only [if_pos c1]
   unfold Je at he hn ⊢
   by_cases r1:Ct (Bh (c::r) tails)=true
   ·rw [if_pos r1] at hn
    simp only [if_pos r1]
    have hn':(((Bh (c::r) tails).length:Nat):Int)=n:=hn
    have e:n=(Bh (c::r) tails).length:=by omega
    rw [e,Kh]
    rfl
   rw [if_neg r1] at he hn
   simp only [if_neg r1]
   by_cases r2:(!Bf (Bh (c::r) tails))=true
   ·rw [if_pos r2] at he;exact absurd he (show ¬(3:Int)=0 by decide)
   rw [if_neg r2] at hn
   simp only [if_neg r2]
   have hn':(((Bh (c::r) tails).length:Nat):Int)=n:=hn
   have e:n=(Bh (c::r) tails).length:=by omega
   rw [e,Kh]
   rfl
  rw [if_neg c1] at he hn
  simp only [if_neg c1]
  by_cases c2:decide (0<H1 ((c::r).take 1) digs)=true
  ·rw [if_pos c2] at he hn
   simp only [if_pos c2]
   have hn':(((Bh (c::r) digs).length:Nat):Int)=n:=hn
   have e:n=(Bh (c::r) digs).length:=by omega
   rw [e,Kh]
   rfl
  rw [if_neg c2] at he hn
  simp only [if_neg c2]
  by_cases c3:(((((c::r)).getD 0 0).toNat:Int)==39)=true
  ·rw [if_pos c3] at he hn
   simp only [if_pos c3]
   have hc:c=39:=by
    have c3':((c.toNat:Int)==39)=true:=c3
    exact UInt8.toNat_inj.1 (by have:(39:UInt8).toNat=39:=rfl;simp at c3';omega)
   unfold Ge at he hn ⊢
   cases hq:Bm ((c::r).drop 1) with
   | none=>rw [hq] at he;exact absurd he (show ¬(7:Int)=0 by decide)
   | some m =>
    rw [hq] at he hn
    simp only at he hn ⊢
    split at he
    ·exact absurd he (show ¬(3:Int)=0 by decide)
    rename_i hr
    rw [if_neg hr] at hn
    simp only [if_neg hr]
    have hm':(((m+1:Nat)):Int)=n:=hn
    have hm:n=m+1:=by omega
    subst hm
    have hr':(Cv ((c::r).take (m+1))).2=0:=by simpa using hr
    have:=cj (q:=(c::r).take (m+1)) (by rw [hc];rfl) (by simp) hr'
    unfold eo
    rw [if_pos rfl]
    exact this
  rw [if_neg c3] at he hn
  simp only [if_neg c3]
  unfold Ke at he hn ⊢
  split at hn
  ·rename_i h2
   simp only [if_pos h2]
   have hn':(2:Int)=n:=hn
   have:n=2:=by omega
   subst this
   rfl
  rename_i h2
  rw [if_neg h2] at he
  simp only [if_neg h2]
  split at hn
  ·rename_i h3
   simp only [if_pos h3]
   have hn':(1:Int)=n:=hn
   have:n=1:=by omega
   subst this
   rfl
  rename_i h3
  rw [if_neg h3] at he
  exact absurd he (show ¬(7:Int)=0 by decide)
theorem cl (f q:Nat) (J:Str):Jw f q (32::J)=Jw f (q+1) J:=by
 have h:gapM (32::J)=gapM J+1:=by
  have:=L1 J false
  unfold gapM
  rw [Dm,if_pos (by decide),List.length_cons]
  omega
 unfold Jw
 rw [h,List.drop_succ_cons,show q+(gapM J+1)=q+1+gapM J by omega]
theorem wrap_u64 {n:Int} (h1:0≤n) (h2:n<18446744073709551616):IntKind.u64.wrap n=n:=by
 have e1:(2 ^ IntKind.u64.bits:Int)=18446744073709551616:=rfl
 have e3:IntKind.u64.signed=false:=rfl
 unfold IntKind.wrap
 simp only [e1,e3,Bool.false_and]
 simp
 omega
theorem ow {s:Str} (h:(Db s).2.1=0):1≤(Db s).1.length∧(Db s).1.length≤s.length+2:=by
 obtain ⟨_,_,hl⟩:=W7 h
 rw [hl]
 have:=M0 s
 simp
 omega
theorem ep:∀t:Str,t.length≤(Bn t).length
 | []=>Nat.le_refl _
 | c::r=>by
  have:=ep r
  rw [G8,List.length_append,List.length_cons]
  have h:1≤(Mr c).length:=by unfold Mr;split<;>simp
  omega
theorem un (t:Tok):t.text.length≤(eo t).length:=by
 unfold eo
 split
 ·have:=ep t.text
  simp only [List.length_append,List.length_cons,List.length_nil]
  omega
 exact Nat.le_refl _
/-- Words with an end. -/
structure TokEnd (l:List Tok):Prop where
 split:∃L z,l=L++[z]∧z.kind=0∧∀t∈L,t.kind≠0
 texts:∀t∈l,t.text.length≤1048576
theorem TokEnd.pos {l:List Tok} (h:TokEnd l):1≤l.length:=by
 obtain ⟨L,z,rfl,_,_⟩:=h.split
 simp
theorem TokEnd.text {l:List Tok} (h:TokEnd l) (i:Nat):(A7 l i).text.length≤1048576:=by
 unfold A7
 rcases Nat.lt_or_ge i l.length with hi|hi
 ·rw [List.getD_eq_getElem?_getD,List.getElem?_eq_getElem hi]
  exact h.texts _ (List.getElem_mem hi)
 rw [List.getD_eq_getElem?_getD,List.getElem?_eq_none hi]
 exact Nat.zero_le _
theorem uo (s:Str) (he:(Aw s).2.2.2=0):(Aw s).1≠0:=by
 revert he
 unfold Aw Je Mm Ge Ke
 repeat' split
 all_goals simp
theorem Y6:∀(f q:Nat) (s:Str),(∀it∈E6 f q s,it.2=0)→∀it∈E6 f q s,it.1.kind≠0∧it.1.text.length≤s.length
 | 0,_,_,_,it,hm=>by cases hm
 | f+1,q,s,h,it,hm=>by
  by_cases hs:s=[]
  ·subst hs;cases hm
  obtain ⟨n,h1,h2⟩:=Y5 (f:=f) (q:=q) hs
  rw [h1] at hm h
  have h0:(Aw s).2.2.2=0:=h (⟨(Aw s).1,(Aw s).2.1,q⟩,(Aw s).2.2.2) (List.mem_cons_self ..)
  obtain ⟨hn,hn1,hn2⟩:=h2 h0
  rw [if_pos h0] at hm h
  rcases List.mem_cons.1 hm with rfl|hm
  ·refine ⟨uo s h0,?_⟩
   have hs1:1≤s.length:=by cases s with|nil=>exact absurd rfl hs|cons c r=>simp
   have:=ck (p:=q) hs1 h0 hn
   have h3:=un ⟨(Aw s).1,(Aw s).2.1,q⟩
   rw [this] at h3
   simp only [List.length_take] at h3
   show (Aw s).2.1.length≤s.length
   omega
  have:=Y6 f _ _ (fun it hit=>h it (List.mem_cons_of_mem _ hit)) it hm
  simp only [List.length_drop] at this
  exact ⟨this.1,by omega⟩
theorem er {s:Str} (h:(Db s).2.1=0):TokEnd (Db s).1:=by
 by_cases h4:4000<s.length
 ·unfold Db at h
  rw [if_pos h4] at h
  exact ni
 have e:Db s=((B3 s).map (·.1)++[⟨0,[],s.length⟩],0,0)∧∀it∈B3 s,it.2=0:=by
  unfold Db at h ⊢
  rw [if_neg h4] at h ⊢
  cases hf:(B3 s).find? (fun it=>it.2 != 0) with
  | none =>
   rw [List.find?_eq_none] at hf
   exact ⟨rfl,fun it hit=>by simpa using hf it hit⟩
  | some it =>
   rw [hf] at h
   have:=List.find?_some hf
   simp only [bne_iff_ne] at this
   exact absurd h this
 obtain ⟨e,hz⟩:=e
 have hnz:=Y6 _ _ _ hz
 rw [e]
 refine ⟨⟨_,_,rfl,rfl,fun t ht=>?_⟩,fun t ht=>?_⟩
 ·obtain ⟨it,hit,rfl⟩:=List.mem_map.1 ht
  exact (hnz it hit).1
 rcases List.mem_append.1 ht with ht|ht
 ·obtain ⟨it,hit,rfl⟩:=List.mem_map.1 ht
  have:=(hnz it hit).2
  simp only [List.length_drop] at this
  omega
 have e:t=⟨0,[],s.length⟩:=by simpa using ht
 subst e
 exact Nat.zero_le _
/-- Where a parser of expressions stands: its word, its nest, its fault. -/
structure PS where
 i:Nat
 nest:Nat
 code:Int
 at_:Int
def noV:Val:=⟨0,0,[]⟩
def Ad:Expr:=.mk 0 [] noV []
def Ch (e a:Int) (S:PS):PS:=if S.code==0 then ⟨S.i,S.nest,e,a⟩ else S
def isM (l:List Tok) (of:Str) (S:PS):Bool:=(((A7 l S.i).kind==5) || ((A7 l S.i).kind==2))&&Dh (A7 l S.i).text of
def A2 (S:PS):PS:=⟨S.i+1,S.nest,S.code,S.at_⟩
def Al (S:PS):PS:=⟨S.i,S.nest+1,S.code,S.at_⟩
def Lm (S:PS):PS:=⟨S.i,S.nest-1,S.code,S.at_⟩
def Ce (l:List Tok) (s:Str) (S:PS):PS:=if S.code != 0 then S else if ((A7 l S.i).kind != 5) || !((A7 l S.i).text==s) then Ch 8 (A7 l S.i).at_ S else A2 S
/-- What stands one nest deeper. -/
structure Fam where
 ei:PS→Expr×PS
 no:PS→Expr×PS
 ne:PS→Expr×PS
def Ak (a:Int) (f:PS→Expr×PS) (S:PS):Expr×PS:=if (S.nest:Int)==30 then (Ad,Ch 18 a S) else ((f (Al S)).1,Lm (f (Al S)).2)
def C6 (t:Str) (x y:Expr):Expr:=.mk 5 t noV [x,y]
def Eu (l:List Tok) (of:Str) (f:PS→Expr×PS):Nat→Expr×PS→Expr×PS
 | 0,r=>r
 | n+1,r=>if (r.2.code==0)&&isM l of r.2 then Eu l of f n (C6 (A7 l r.2.i).text r.1 (f (A2 r.2)).1,(f (A2 r.2)).2) else r
def Ci (l:List Tok) (of:Str) (f:PS→Expr×PS) (S:PS):Expr×PS:=Eu l of f l.length (f S)
def Ji:Str:=[32,44,32]
def argsF (l:List Tok) (f:PS→Expr×PS):Nat→List Expr×PS→List Expr×PS
 | 0,r=>r
 | n+1,r=>if (r.2.code==0)&&isM l Ji r.2 then argsF l f n (r.1++[(f (A2 r.2)).1],(f (A2 r.2)).2) else r
def F7 (l:List Tok) (f:PS→Expr×PS) (S:PS):List Expr×PS:=argsF l f l.length ([(f S).1],(f S).2)
def H5 (l:List Tok) (a:Int) (f:PS→Expr×PS) (S:PS):List Expr×PS:=if (S.nest:Int)==30 then ([],Ch 18 a S) else ((F7 l f (Al S)).1,Lm (F7 l f (Al S)).2)
def D0:Str:=[41]
def Bb (l:List Tok) (D:Fam) (S:PS):List Expr×PS:=H5 l (A7 l S.i).at_ D.ei (A2 S)
def F3 (l:List Tok) (D:Fam) (t:Tok) (S:PS):Expr×PS:=
 if B5 t.text<0 then (Ad,Ch 9 t.at_ S)
 else if ((Ce l D0 (Bb l D S).2).code==0) && !(((Bb l D S).1.length:Int)==B5 t.text) then (Ad,Ch 8 t.at_ (Ce l D0 (Bb l D S).2))
 else (.mk 6 t.text noV (Bb l D S).1,Ce l D0 (Bb l D S).2)
def orT:Str:=[32,111,114,32]
def cm:Str:=[32,97,110,100,32]
def W8:Str:=[32,110,111,116,32]
def Rj:Str:=[32,61,32,33,61,32,60,32,60,61,32,62,32,62,61,32]
def cn:Str:=[32,43,32,45,32,38,32]
def Rk:Str:=[32,42,32,47,32,37,32]
def W9:Str:=[32,45,32]
def opT:Str:=[32,40,32]
def Mt:Str:=[32,116,114,117,101,32,102,97,108,115,101,32,110,117,108,108,32]
def Ff (v:Val):Expr:=.mk 1 [] v []
def Cj (l:List Tok) (D:Fam) (S:PS):Expr×PS:=
 if S.code != 0 then (Ad,S)
 else if ((A7 l S.i).kind==3) || isM l Mt S then (Ff (Cv (A7 l S.i).text).1,A2 S)
 else if (A7 l S.i).kind==4 then (Ff ⟨2,0,(A7 l S.i).text.take 200⟩,A2 S)
 else if (A7 l S.i).kind==1 then (if isM l opT (A2 S) then F3 l D (A7 l S.i) (A2 S) else (Aq (A7 l S.i).text,A2 S))
 else if isM l opT S then ((Ak (A7 l S.i).at_ D.ei (A2 S)).1,Ce l D0 (Ak (A7 l S.i).at_ D.ei (A2 S)).2)
 else (Ad,Ch 8 (A7 l S.i).at_ S)
def Bq (op:Int) (x:Expr):Expr:=.mk op [] noV [x]
def Gp (l:List Tok) (D:Fam) (S:PS):Expr×PS:=if !isM l W9 S then Cj l D S else (Bq 3 (Ak (A7 l S.i).at_ D.ne (A2 S)).1,(Ak (A7 l S.i).at_ D.ne (A2 S)).2)
def Rl (l:List Tok) (D:Fam):PS→Expr×PS:=Ci l Rk (Gp l D)
def Bo (l:List Tok) (D:Fam):PS→Expr×PS:=Ci l cn (Rl l D)
def Bg (l:List Tok) (D:Fam) (S:PS):Expr×PS:=
 if ((Bo l D S).2.code != 0) || !isM l Rj (Bo l D S).2 then Bo l D S
 else (C6 (A7 l (Bo l D S).2.i).text (Bo l D S).1 (Bo l D (A2 (Bo l D S).2)).1,(Bo l D (A2 (Bo l D S).2)).2)
def Gq (l:List Tok) (D:Fam) (S:PS):Expr×PS:=if !isM l W8 S then Bg l D S else (Bq 4 (Ak (A7 l S.i).at_ D.no (A2 S)).1,(Ak (A7 l S.i).at_ D.no (A2 S)).2)
def Rm (l:List Tok) (D:Fam):PS→Expr×PS:=Ci l cm (Gq l D)
def L4 (l:List Tok) (D:Fam):PS→Expr×PS:=Ci l orT (Rm l D)
def C1 (l:List Tok):Nat→Fam
 | 0=>⟨fun S=>(Ad,S),fun S=>(Ad,S),fun S=>(Ad,S)⟩
 | d+1=>⟨L4 l (C1 l d),Gq l (C1 l d),Gp l (C1 l d)⟩

/-! What is so of them. -/
theorem Fv:∀{n m:Nat},n≤m→∀{e:Expr},okE n e→okE m e
 | 0,_,_,_,h=>h.elim
 | n+1,0,h,_,_=>by omega
 | n+1,m+1,h,_,ho=>⟨ho.1,ho.2.1,fun y hy=>Fv (by omega) (ho.2.2 y hy)⟩
theorem Rn:sizeE Ad=1:=rfl
theorem kg (t:Str) (a b:Expr):sizeE (C6 t a b)=1+(sizeE a+(sizeE b+0)):=by rw [C6,sizeE,B6,B6,B6]
theorem ki (o:Int) (a:Expr):sizeE (Bq o a)=1+(sizeE a+0):=by rw [Bq,sizeE,B6,B6]
theorem U8:∀a b:List Expr,B6 (a++b)=B6 a+B6 b
 | [],b=>by rw [List.nil_append,B6,Nat.zero_add]
 | e::r,b=>by rw [List.cons_append,B6,B6,U8 r b,Nat.add_assoc]
theorem Y7 {n:Nat} (h:1≤n):okE n Ad:=Fv h ⟨by decide,by decide,fun y hy=>by cases hy⟩
theorem eu {n:Nat} (h:1≤n) (v:Val):okE n (Ff v):=Fv h ⟨by simp [Ff,Expr.text],by simp [Ff,Expr.kids],fun y hy=>by cases hy⟩
structure Fact (l:List Tok) (S:PS) (r:Expr×PS):Prop where
 le:S.i≤r.2.i
 lt:r.2.i<l.length
 nest:r.2.nest=S.nest
 ok:okE (2*(r.2.i-S.i)+1) r.1
 sz:sizeE r.1≤2*(r.2.i-S.i)+1
def Dj (l:List Tok) (n:Nat) (f:PS→Expr×PS):Prop:=∀S,S.i<l.length→S.nest=n→Fact l S (f S)
theorem TokEnd.step {l:List Tok} (h:TokEnd l) {i:Nat} (hi:i<l.length) (hk:(A7 l i).kind≠0):i+1<l.length:=by
 obtain ⟨L,z,rfl,hz,_⟩:=h.split
 rcases Nat.lt_or_ge i L.length with h1|h1
 ·simp only [List.length_append,List.length_cons,List.length_nil];omega
 have:i=L.length:=by simp only [List.length_append,List.length_cons,List.length_nil] at hi;omega
 subst this
 exact absurd (by unfold A7;simpa using hz) hk
theorem oy {l:List Tok} {of:Str} {S:PS} (h:isM l of S=true):(A7 l S.i).kind≠0:=by
 unfold isM at h
 simp only [Bool.and_eq_true,Bool.or_eq_true,beq_iff_eq] at h
 omega
theorem TokEnd.stepIs {l:List Tok} (h:TokEnd l) {of:Str} {S:PS} (hi:S.i<l.length) (hk:isM l of S=true):(A2 S).i<l.length:=h.step hi (oy hk)
theorem failM_i {e a:Int} {S:PS}:(Ch e a S).i=S.i∧(Ch e a S).nest=S.nest:=by unfold Ch;split<;>exact ⟨rfl,rfl⟩
theorem ew {l:List Tok} (hl:TokEnd l) {s:Str} {S:PS} (hi:S.i<l.length):S.i≤(Ce l s S).i∧(Ce l s S).i<l.length∧(Ce l s S).nest=S.nest:=by
 unfold Ce
 split
 ·exact ⟨Nat.le_refl _,hi,rfl⟩
 split
 ·rw [failM_i.1,failM_i.2];exact ⟨Nat.le_refl _,hi,rfl⟩
 rename_i h
 simp only [Bool.or_eq_true,bne_iff_ne,ne_eq,not_or,Classical.not_not] at h
 have:=hl.step hi (by rw [h.1];decide)
 exact ⟨Nat.le_succ _,this,rfl⟩
theorem Mu {l:List Tok} {S S0:PS} (h0:S0.i≤S.i) (h1:S.i<l.length) (h2:S.nest=S0.nest) (e a:Int):Fact l S0 (Ad,Ch e a S):=by
 refine ⟨?_,?_,?_,Y7 (by omega),by rw [Rn];omega⟩
 ·show _≤(Ch e a S).i;rw [failM_i.1];exact h0
 ·show (Ch e a S).i<_;rw [failM_i.1];exact h1
 show (Ch e a S).nest=_;rw [failM_i.2];exact h2
/-- A state of a loop of marks. -/
structure LeftAt (l:List Tok) (of:Str) (f:PS→Expr×PS) (S:PS) (r:Expr×PS):Prop where
 fact:Fact l S r
 eq:∃n,l.length≤r.2.i+n∧Ci l of f S=Eu l of f n r
theorem LeftAt.start {l:List Tok} {of:Str} {f:PS→Expr×PS} {S:PS} (h:Fact l S (f S)):LeftAt l of f S (f S):=⟨h,l.length,by omega,rfl⟩
theorem ey {l:List Tok} {S:PS} {r q:Expr×PS} (h:Fact l S r) (hq:Fact l (A2 r.2) q) (hl:TokEnd l):Fact l S (C6 (A7 l r.2.i).text r.1 q.1,q.2):=by
 have h1:=h.le
 have h2:r.2.i+1≤q.2.i:=hq.le
 refine ⟨by show S.i≤q.2.i;omega,hq.lt,by show q.2.nest=S.nest;rw [hq.nest];exact h.nest,?_,?_⟩
 rotate_left
 ·have s1:=h.sz
  have s2:sizeE q.1≤2*(q.2.i-(r.2.i+1))+1:=hq.sz
  show sizeE (C6 _ r.1 q.1)≤2*(q.2.i-S.i)+1
  rw [kg]
  omega
 show okE (2*(q.2.i-S.i)+1) _
 refine ⟨hl.text _,by simp [C6,Expr.kids],fun y hy=>?_⟩
 have hy':y=r.1∨y=q.1:=by simpa [C6,Expr.kids] using hy
 rcases hy' with rfl|rfl
 ·exact Fv (by omega) h.ok
 exact Fv (by show 2*(q.2.i-(r.2.i+1))+1≤_;omega) hq.ok
theorem LeftAt.on {l:List Tok} {of:Str} {f:PS→Expr×PS} {S:PS} {r:Expr×PS} (hl:TokEnd l) (h:LeftAt l of f S r) (hc:((r.2.code==0)&&isM l of r.2)=true) (hf:Dj l S.nest f):(A2 r.2).i<l.length∧Fact l (A2 r.2) (f (A2 r.2))∧LeftAt l of f S (C6 (A7 l r.2.i).text r.1 (f (A2 r.2)).1,(f (A2 r.2)).2):=by
 have hi:=hl.stepIs h.fact.lt (Bool.and_eq_true_iff.1 hc).2
 have hq:=hf (A2 r.2) hi h.fact.nest
 obtain ⟨n,hn,e⟩:=h.eq
 have h1:=h.fact.lt
 have h2:r.2.i+1≤(f (A2 r.2)).2.i:=hq.le
 obtain ⟨m,rfl⟩:∃m,n=m+1:=⟨n-1,by omega⟩
 refine ⟨hi,hq,ey h.fact hq hl,m,by show l.length≤(f (A2 r.2)).2.i+m;omega,?_⟩
 rw [e,Eu,if_pos hc]
theorem LeftAt.out {l:List Tok} {of:Str} {f:PS→Expr×PS} {S:PS} {r:Expr×PS} (h:LeftAt l of f S r) (hc:¬((r.2.code==0)&&isM l of r.2)=true):Ci l of f S=r:=by
 obtain ⟨n,hn,e⟩:=h.eq
 have h1:=h.fact.lt
 obtain ⟨m,rfl⟩:∃m,n=m+1:=⟨n-1,by omega⟩
 rw [e,Eu,if_neg hc]
theorem Y8 {l:List Tok} {of:Str} {f:PS→Expr×PS} {S:PS} (hl:TokEnd l) (hf:Dj l S.nest f):∀(k:Nat) (r:Expr×PS),l.length-r.2.i≤k→LeftAt l of f S r→Fact l S (Ci l of f S)
 | 0,r,hk,h=>by have:=h.fact.lt;omega
 | k+1,r,hk,h=>by
  by_cases hc:((r.2.code==0)&&isM l of r.2)=true
  ·obtain ⟨h1,h2,h3⟩:=h.on hl hc hf
   have h4:r.2.i+1≤(f (A2 r.2)).2.i:=h2.le
   exact Y8 hl hf k _ (by show l.length-(f (A2 r.2)).2.i≤k;have:=h.fact.lt;omega) h3
  rw [h.out hc];exact h.fact
theorem Fg {l:List Tok} {of:Str} {f:PS→Expr×PS} {n:Nat} (hl:TokEnd l) (hf:Dj l n f):Dj l n (Ci l of f):=fun S hi hn=>Y8 hl (hn ▸ hf) l.length (f S) (by omega) (.start (hf S hi hn))
theorem Hf {l:List Tok} {f:PS→Expr×PS} {S:PS} (a:Int) (hi:S.i<l.length) (hf:S.nest≠30→Dj l (S.nest+1) f):Fact l S (Ak a f S):=by
 unfold Ak
 split
 ·exact Mu (Nat.le_refl _) hi rfl _ _
 rename_i h
 have h30:S.nest≠30:=fun e=>h (by rw [e];rfl)
 have:=hf h30 (Al S) hi rfl
 refine ⟨this.le,this.lt,?_,this.ok,this.sz⟩
 show (f (Al S)).2.nest-1=S.nest
 rw [this.nest]
 rfl
/-- What is so of some kids. -/
structure KFact (l:List Tok) (S:PS) (r:List Expr×PS):Prop where
 le:S.i≤r.2.i
 lt:r.2.i<l.length
 nest:r.2.nest=S.nest
 len:r.1.length≤r.2.i-S.i+1
 ok:∀y∈r.1,okE (2*(r.2.i-S.i)+1) y
 sz:B6 r.1≤2*(r.2.i-S.i)+1
structure ArgsAt (l:List Tok) (f:PS→Expr×PS) (S:PS) (r:List Expr×PS):Prop where
 fact:KFact l S r
 eq:∃n,l.length≤r.2.i+n∧F7 l f S=argsF l f n r
theorem ArgsAt.start {l:List Tok} {f:PS→Expr×PS} {S:PS} (h:Fact l S (f S)):ArgsAt l f S ([(f S).1],(f S).2):=⟨⟨h.le,h.lt,h.nest,by simp,fun y hy=>by rw [List.mem_singleton.1 hy];exact h.ok,by have:=h.sz;show sizeE (f S).1+0≤_;exact this⟩,l.length,by omega,rfl⟩
theorem ArgsAt.on {l:List Tok} {f:PS→Expr×PS} {S:PS} {r:List Expr×PS} (hl:TokEnd l) (h:ArgsAt l f S r) (hc:((r.2.code==0)&&isM l Ji r.2)=true) (hf:Dj l S.nest f):(A2 r.2).i<l.length∧Fact l (A2 r.2) (f (A2 r.2))∧ArgsAt l f S (r.1++[(f (A2 r.2)).1],(f (A2 r.2)).2):=by
 have hi:=hl.stepIs h.fact.lt (Bool.and_eq_true_iff.1 hc).2
 have hq:=hf (A2 r.2) hi h.fact.nest
 obtain ⟨n,hn,e⟩:=h.eq
 have h1:=h.fact.lt
 have h0:=h.fact.le
 have h2:r.2.i+1≤(f (A2 r.2)).2.i:=hq.le
 obtain ⟨m,rfl⟩:∃m,n=m+1:=⟨n-1,by omega⟩
 refine ⟨hi,hq,⟨by show S.i≤(f (A2 r.2)).2.i;omega,hq.lt,by show (f (A2 r.2)).2.nest=_;rw [hq.nest];exact h.fact.nest,?_,fun y hy=>?_,?_⟩,m,by show l.length≤(f (A2 r.2)).2.i+m;omega,?_⟩
 ·have:=h.fact.len
  show (r.1++_).length≤(f (A2 r.2)).2.i-S.i+1
  simp only [List.length_append,List.length_cons,List.length_nil]
  omega
 ·show okE (2*((f (A2 r.2)).2.i-S.i)+1) y
  rcases List.mem_append.1 hy with hy|hy
  ·exact Fv (by omega) (h.fact.ok y hy)
  rw [List.mem_singleton.1 hy]
  exact Fv (by show 2*((f (A2 r.2)).2.i-(r.2.i+1))+1≤_;omega) hq.ok
 ·have s1:=h.fact.sz
  have s2:sizeE (f (A2 r.2)).1≤2*((f (A2 r.2)).2.i-(r.2.i+1))+1:=hq.sz
  show B6 (r.1++[(f (A2 r.2)).1])≤2*((f (A2 r.2)).2.i-S.i)+1
  rw [U8,B6,B6]
  omega
 rw [e,argsF,if_pos hc]
theorem ArgsAt.out {l:List Tok} {f:PS→Expr×PS} {S:PS} {r:List Expr×PS} (h:ArgsAt l f S r) (hc:¬((r.2.code==0)&&isM l Ji r.2)=true):F7 l f S=r:=by
 obtain ⟨n,hn,e⟩:=h.eq
 have h1:=h.fact.lt
 obtain ⟨m,rfl⟩:∃m,n=m+1:=⟨n-1,by omega⟩
 rw [e,argsF,if_neg hc]
theorem Y9 {l:List Tok} {f:PS→Expr×PS} {S:PS} (hl:TokEnd l) (hf:Dj l S.nest f):∀(k:Nat) (r:List Expr×PS),l.length-r.2.i≤k→ArgsAt l f S r→KFact l S (F7 l f S)
 | 0,r,hk,h=>by have:=h.fact.lt;omega
 | k+1,r,hk,h=>by
  by_cases hc:((r.2.code==0)&&isM l Ji r.2)=true
  ·obtain ⟨h1,h2,h3⟩:=h.on hl hc hf
   have h4:r.2.i+1≤(f (A2 r.2)).2.i:=h2.le
   exact Y9 hl hf k _ (by show l.length-(f (A2 r.2)).2.i≤k;have:=h.fact.lt;omega) h3
  rw [h.out hc];exact h.fact
theorem Ro {l:List Tok} {f:PS→Expr×PS} {S:PS} (hl:TokEnd l) (hi:S.i<l.length) (hf:Dj l S.nest f):KFact l S (F7 l f S):=Y9 hl hf l.length _ (by show l.length-(f S).2.i≤_;omega) (.start (hf S hi rfl))
theorem Rp {l:List Tok} {f:PS→Expr×PS} {S:PS} (hl:TokEnd l) (a:Int) (hi:S.i<l.length) (hf:S.nest≠30→Dj l (S.nest+1) f):KFact l S (H5 l a f S):=by
 unfold H5
 split
 ·refine ⟨?_,?_,?_,by simp,fun y hy=>(by cases hy),by simp [B6]⟩
  ·show _≤(Ch _ _ S).i;rw [failM_i.1];exact Nat.le_refl _
  ·show (Ch _ _ S).i<_;rw [failM_i.1];exact hi
  show (Ch _ _ S).nest=_;rw [failM_i.2]
 rename_i h
 have h30:S.nest≠30:=fun e=>h (by rw [e];rfl)
 have:=Ro (S:=Al S) hl hi (hf h30)
 refine ⟨this.le,this.lt,?_,this.len,this.ok,this.sz⟩
 show (F7 l f (Al S)).2.nest-1=S.nest
 rw [this.nest]
 rfl
theorem co {l:List Tok} {D:Fam} {S:PS} (hl:TokEnd l) (hll:l.length≤1048576) {t:Tok} (ht:t.text.length≤1048576) (hi:(A2 S).i<l.length) (hf:S.nest≠30→Dj l (S.nest+1) D.ei):Fact l S (F3 l D t S):=by
 have hk:KFact l (A2 S) (Bb l D S):=Rp hl _ hi hf
 have h1:S.i+1≤(Bb l D S).2.i:=hk.le
 obtain ⟨w1,w2,w3⟩:=ew (s:=D0) hl hk.lt
 unfold F3
 split
 ·exact Mu (Nat.le_refl _) (by show S.i<_;have:S.i+1<l.length:=hi;omega) rfl _ _
 split
 ·exact Mu (show S.i≤(Ce l D0 (Bb l D S).2).i by omega) w2 (w3.trans hk.nest) 8 t.at_
 refine ⟨by show S.i≤(Ce l D0 (Bb l D S).2).i;omega,w2,w3.trans hk.nest,?_,?_⟩
 rotate_left
 ·have s1:B6 (Bb l D S).1≤2*((Bb l D S).2.i-(S.i+1))+1:=hk.sz
  show sizeE (.mk 6 t.text noV (Bb l D S).1)≤2*((Ce l D0 (Bb l D S).2).i-S.i)+1
  rw [sizeE]
  omega
 show okE (2*((Ce l D0 (Bb l D S).2).i-S.i)+1) _
 refine ⟨ht,?_,fun y hy=>?_⟩
 ·have h5:(Bb l D S).1.length≤(Bb l D S).2.i-(A2 S).i+1:=hk.len
  have h6:=hk.lt
  show (Bb l D S).1.length≤1048576
  omega
 exact Fv (by show 2*((Bb l D S).2.i-(S.i+1))+1≤_;omega) (hk.ok y hy)
theorem cp {l:List Tok} {D:Fam} {n:Nat} (hl:TokEnd l) (hll:l.length≤1048576) (hf:n≠30→Dj l (n+1) D.ei):Dj l n (Cj l D):=by
 intro S hi hn
 subst hn
 unfold Cj
 have leaf:∀e:Expr,okE 1 e→sizeE e=1→(A7 l S.i).kind≠0→Fact l S (e,A2 S):=fun e he hs hk=>⟨Nat.le_succ _,hl.step hi hk,rfl,Fv (by omega) he,by show sizeE e≤_;omega⟩
 split
 ·exact ⟨Nat.le_refl _,hi,rfl,Y7 (by omega),by show sizeE Ad≤_;rw [Rn];omega⟩
 split
 ·rename_i h
  refine leaf _ (eu (Nat.le_refl _) _) rfl ?_
  rcases Bool.or_eq_true_iff.1 h with h|h
  ·rw [beq_iff_eq] at h;rw [h];decide
  exact oy h
 split
 ·rename_i h
  rw [beq_iff_eq] at h
  exact leaf _ (eu (Nat.le_refl _) _) rfl (by rw [h];decide)
 split
 ·rename_i h
  rw [beq_iff_eq] at h
  have hk:(A7 l S.i).kind≠0:=by rw [h];decide
  split
  ·rename_i h2
   have hi1:(A2 S).i<l.length:=hl.step hi hk
   have:=co (S:=A2 S) (D:=D) hl hll (hl.text S.i) (hl.stepIs hi1 h2) hf
   have h3:S.i+1≤(F3 l D (A7 l S.i) (A2 S)).2.i:=this.le
   have h4:sizeE (F3 l D (A7 l S.i) (A2 S)).1≤2*((F3 l D (A7 l S.i) (A2 S)).2.i-(S.i+1))+1:=this.sz
   exact ⟨by omega,this.lt,this.nest,Fv (by show 2*((F3 l D (A7 l S.i) (A2 S)).2.i-(S.i+1))+1≤_;omega) this.ok,by omega⟩
  exact leaf _ (og _ (hl.text _)) rfl hk
 split
 ·rename_i h
  have hi1:(A2 S).i<l.length:=hl.stepIs hi h
  have:=Hf (S:=A2 S) (l:=l) (f:=D.ei) (A7 l S.i).at_ hi1 hf
  obtain ⟨w1,w2,w3⟩:=ew (s:=D0) hl this.lt
  have h3:S.i+1≤(Ak (A7 l S.i).at_ D.ei (A2 S)).2.i:=this.le
  have h4:sizeE (Ak (A7 l S.i).at_ D.ei (A2 S)).1≤2*((Ak (A7 l S.i).at_ D.ei (A2 S)).2.i-(S.i+1))+1:=this.sz
  refine ⟨by show S.i≤(Ce l D0 _).i;omega,w2,w3.trans this.nest,Fv ?_ this.ok,by show sizeE (Ak (A7 l S.i).at_ D.ei (A2 S)).1≤2*((Ce l D0 (Ak (A7 l S.i).at_ D.ei (A2 S)).2).i-S.i)+1;omega⟩
  show 2*((Ak (A7 l S.i).at_ D.ei (A2 S)).2.i-(S.i+1))+1≤2*((Ce l D0 (Ak (A7 l S.i).at_ D.ei (A2 S)).2).i-S.i)+1
  omega
 exact Mu (Nat.le_refl _) hi rfl _ _
theorem f6 {l:List Tok} {S:PS} {r:Expr×PS} (h:Fact l (A2 S) r) (op:Int):Fact l S (Bq op r.1,r.2):=by
 have h1:S.i+1≤r.2.i:=h.le
 refine ⟨by show S.i≤r.2.i;omega,h.lt,h.nest,?_,?_⟩
 rotate_left
 ·have s1:sizeE r.1≤2*(r.2.i-(S.i+1))+1:=h.sz
  show sizeE (Bq op r.1)≤2*(r.2.i-S.i)+1
  rw [ki]
  omega
 show okE (2*(r.2.i-S.i)+1) _
 refine ⟨by simp [Bq,Expr.text],by simp [Bq,Expr.kids],fun y hy=>?_⟩
 have hy':y=r.1:=by simpa [Bq,Expr.kids] using hy
 subst hy'
 exact Fv (by show 2*(r.2.i-(S.i+1))+1≤_;omega) h.ok
theorem Ny {l:List Tok} {D:Fam} {n:Nat} (hl:TokEnd l) (hll:l.length≤1048576) (hf:n≠30→Dj l (n+1) D.ei) (hg:n≠30→Dj l (n+1) D.ne):Dj l n (Gp l D):=by
 intro S hi hn
 unfold Gp
 split
 ·exact cp hl hll hf S hi hn
 rename_i h
 subst hn
 exact f6 (Hf (S:=A2 S) _ (hl.stepIs hi (by simpa using h)) hg) 3
theorem U9 {l:List Tok} {D:Fam} {n:Nat} (hl:TokEnd l) (hll:l.length≤1048576) (hf:n≠30→Dj l (n+1) D.ei) (hg:n≠30→Dj l (n+1) D.ne):Dj l n (Bo l D):=Fg hl (Fg hl (Ny hl hll hf hg))
theorem Ln {l:List Tok} {D:Fam} {n:Nat} (hl:TokEnd l) (hll:l.length≤1048576) (hf:n≠30→Dj l (n+1) D.ei) (hg:n≠30→Dj l (n+1) D.ne):Dj l n (Bg l D):=by
 intro S hi hn
 have h1:=U9 hl hll hf hg S hi hn
 unfold Bg
 split
 ·exact h1
 rename_i h
 simp only [Bool.or_eq_true,not_or,Bool.not_eq_true,Bool.not_eq_false'] at h
 exact ey h1 (U9 hl hll hf hg _ (hl.stepIs h1.lt h.2) (h1.nest.trans hn)) hl
theorem Ua {l:List Tok} {D:Fam} {n:Nat} (hl:TokEnd l) (hll:l.length≤1048576) (hf:n≠30→Dj l (n+1) D.ei) (hg:n≠30→Dj l (n+1) D.ne) (hh:n≠30→Dj l (n+1) D.no):Dj l n (Gq l D):=by
 intro S hi hn
 unfold Gq
 split
 ·exact Ln hl hll hf hg S hi hn
 rename_i h
 subst hn
 exact f6 (Hf (S:=A2 S) _ (hl.stepIs hi (by simpa using h)) hh) 4
theorem Nz {l:List Tok} (hl:TokEnd l) (hll:l.length≤1048576):∀(d n:Nat),n+d=31→n≠31→Dj l n (C1 l d).ei∧Dj l n (C1 l d).no∧Dj l n (C1 l d).ne
 | 0,n,h,h2=>by omega
 | d+1,n,h,_=>by
  have ih:n≠30→_:=fun h30=>Nz hl hll d (n+1) (by omega) (by omega)
  have hn:=Ua (D:=C1 l d) (n:=n) hl hll (fun h=>(ih h).1) (fun h=>(ih h).2.2) (fun h=>(ih h).2.1)
  exact ⟨Fg hl (Fg hl hn),hn,Ny hl hll (fun h=>(ih h).1) (fun h=>(ih h).2.2)⟩
/-! What is printed of columns, word by word. -/
theorem cq {k:Int} (h1:1≤k) (h3:k≤3):k=1∨k=2∨k=3:=by omega
def ktT (t:Tok):Int×Str:=(t.kind,t.text)
/-! What is printed of a schema is read. -/
theorem kj {k:Int} (h1:1≤k) (h3:k≤3):Ig (Ah k)=k:=by
 rcases cq h1 h3 with rfl|rfl|rfl<;>kernel_rfl
theorem uq {c:List Col} (h:Kc c=false):OkCols c:=by
 unfold Kc at h
 simp only [Bool.or_eq_false_iff,decide_eq_false_iff_not,List.any_eq_false,decide_eq_true_eq] at h
 refine ⟨by omega,fun y hy=>?_⟩
 have:=h.2 y hy
 omega
/-! What went and came, taken back: the same columns. -/
set_option maxRecDepth 8000
/-! The signs have as many as the nodes have kids. -/
/-! More columns. -/
/-! A tree in a column's place. -/
set_option maxRecDepth 4000
abbrev pr (l:List Tok) (S:PS):AObj:=.cells 223 [.slice false 3 (l.map Hb),A3 (S.i:Int),A3 (S.nest:Int),A3 S.code,A3 S.at_]
theorem C7 {n:Nat} {l:List Tok} {S:PS}:ObjLow n (pr l S):=by
 show ∀y∈[AV.slice false 3 (l.map Hb),A3 (S.i:Int),A3 (S.nest:Int),A3 S.code,A3 S.at_],Low n y
 intro y hy
 simp only [List.mem_cons,List.not_mem_nil,or_false] at hy
 rcases hy with rfl|rfl|rfl|rfl|rfl
 ·simp [or_imp,forall_and]
 all_goals simp
theorem Ya (o:Int) (t:Str) (v:Val):Le (.agg [A3 o,Aa t,A3 v.kind,A3 v.n,Aa v.s,.nil]) (A5 (.mk o t v [])):=by
 rw [Ac]
 refine .agg _ _ rfl (by simp [AV.one,Value.oneCell',sv]) fun i y y' h1 h2=>?_
 match i with
 | 0=>simp at h1 h2;subst h1;subst h2;exact .inl rfl
 | 1=>simp at h1 h2;subst h1;subst h2;exact .inl rfl
 | 2=>simp at h1 h2;subst h1;subst h2;exact .inl rfl
 | 3=>simp at h1 h2;subst h1;subst h2;exact .inl rfl
 | 4=>simp at h1 h2;subst h1;subst h2;exact .inl rfl
 | 5=>simp at h1 h2;subst h1;subst h2;exact .inr ⟨rfl,6,rfl⟩
 | i+6=>simp at h1
theorem Rq:Le (.agg [A3 0,Aa [],A3 0,A3 0,Aa [],.nil]) (A5 Ad):=Ya 0 [] noV
theorem ABo (l:List Tok) (S:PS) (o:Nat) (Hp:List AObj) (ho:Hp[o]? = some (pr l S)) (hi:S.i<l.length):AFun Tryz.prog 257 [.ptr o 0] Hp (Hb (A7 l S.i)):=by
 refine ACall.body [.cell 2 59] [0] Tryz.func257 Tryz.ntmps257 (fun d=>?_)
 refine AAm ?_;refine Z37 ?_
 refine D.go (h:=Q.loadUp ho) (hr:=?_)
 refine Z37 ?_
 refine D.go (h:=Q.loadUp ho) (hr:=?_)
 refine D.tail ?_
 refine R.go (h:=Q.indexAddr (S.i) (Hb (A7 l S.i)) (fun _=>Nt hi)) (hr:=?_)
 refine R.go ?_;exact sr

theorem Yb (l:List Tok) (S:PS) (of:Str) (o:Nat) (Hp:List AObj) (ho:Hp[o]? = some (pr l S)) (hi:S.i<l.length) (hl:TokEnd l) (hof:of.length≤1048576):AFun Tryz.prog 244 [.ptr o 0,Aa of] Hp (Ap (isM l of S)):=by
 refine ACall.body [.tmp 4] [0,1] Tryz.func244 Tryz.ntmps244 (fun d=>?_)
 refine Z59 ?_;refine xk ?_;refine Z15 ?_;refine R.fin [1,5] ?_;refine Z34 ?_;refine Z4 ?_;refine Z63 ?_;refine G.go ?_;refine G.call Tryz.call144 (fun hB=>ABl (A7 l S.i).text of (hl.text _) hof _) ?_;refine Z1 ?_;exact Z97

theorem oz (l:List Tok) (S:PS) (o:Nat) (Hp:List AObj) (ho:Hp[o]? = some (pr l S)) (hi:S.i<l.length) (hll:l.length≤1048576):ACall Tryz.prog 245 [.ptr o 0] Hp (fun r H'=>r=Hb (A7 l S.i)∧H'=Hp.set o (pr l (A2 S))):=by
 refine ACall.body [.cell 2 59] [0] Tryz.func245 Tryz.ntmps245 (fun d=>?_)
 refine Z52 ?_;refine xk ?_;refine Z86 ?_;refine Z19 ?_
 refine R.go (h:=Q.loadUp ho) (hr:=?_)
 refine Z6 ?_
 refine R.storeUp jS ho ?_ ?_
 ·simp
 refine nd ?_;exact sr

theorem km (l:List Tok) (S:PS) (e a:Int) (o:Nat) (Hp:List AObj) (ho:Hp[o]? = some (pr l S)):ACall Tryz.prog 217 [.ptr o 0,A3 e,A3 a] Hp (fun r H'=>r=A5 Ad∧H'=Hp.set o (pr l (Ch e a S))):=by
 refine ACall.body [.cell 6 69] [0,1,2] Tryz.func217 Tryz.ntmps217 (fun d=>?_)
 refine Z27 ?_;refine b6 ?_;refine Z55 ?_
 refine R.go (h:=Q.loadUp ho) (hr:=?_)
 refine R.go ?_;refine R.fin [0,1,2,6,12] ?_
 refine W.cond (fun ht12=>?_) (fun ht12=>?_)
 ·have e:Ch e a S=⟨S.i,S.nest,e,a⟩:=if_pos ht12
  refine Z48 ?_;refine jh ?_;refine Z1 ?_
  refine R.storeUp jS ho ?_ ?_
  ·simp
  refine R.fin [6] ?_;refine K.thN ?_;refine Z96 ?_;refine R.wk 19 _ Rq ?_;refine n5 ?_;exact K.fin (V.one (V.cellN jA jS)) ⟨rfl,by rw [e]⟩ (hlow:=Aj _ Ad)
 have e:Ch e a S=S:=if_neg (by rw [ht12];simp)
 refine Z5 ?_;refine Z96 ?_;refine R.wk 19 _ Rq ?_;refine n5 ?_;exact K.fin (V.one (V.cellN jA jS)) ⟨rfl,by rw [e];exact (Ep ho).symm⟩ (hlow:=Aj _ Ad)

theorem ABp (v:Val) (Hp:List AObj):AFun Tryz.prog 272 [Nk v] Hp (A5 (Ff v)):=by
 refine ACall.body [.cell 2 69] [0] Tryz.func272 Tryz.ntmps272 (fun d=>?_)
 refine Z0 ?_;refine R.alloc jZ ?_;refine R.fin [1,2] ?_;refine Z0 ?_;refine nk ?_;refine R.wk 4 _ (Ya 1 [] v) ?_;refine Z26 ?_;exact K.fin (V.one (V.cellN jA jS)) ⟨rfl,rfl⟩ (hlow:=Aj _ (Ff v))

theorem ABq (l:List Tok) (S:PS) (s:Str) (o:Nat) (Hp:List AObj) (ho:Hp[o]? = some (pr l S)) (hi:S.i<l.length) (hll:l.length≤1048576):ACall Tryz.prog 274 [.ptr o 0,Aa s] Hp (fun r H'=>r=.v (.tuple #[])∧H'=Hp.set o (pr l (Ce l s S))):=by
 refine ACall.body [] [0,1] Tryz.func274 Tryz.ntmps274 (fun d=>?_)
 refine Z55 ?_
 refine R.go (h:=Q.loadUp ho) (hr:=?_)
 refine R.go ?_;refine R.fin [0,1,10] ?_
 refine W.cond (fun ht10=>?_) (fun ht10=>?_)
 ·have e:Ce l s S=S:=if_pos ht10
  refine jc ?_;exact K.fin .nores (hp:=⟨rfl,by rw [e];exact (Ep ho).symm⟩)
 have e0:¬(S.code != 0)=true:=by rw [ht10];simp
 refine Mg ?_;refine R.call Tryz.call257 (ABo l S o _ (A4 ho) hi) ?_;refine Z15 ?_;refine R.fin [0,1,4] ?_;refine Z34 ?_;refine Z53 ?_;refine R.go ?_;refine R.fin [0,4,21] ?_
 refine W.cond (fun ht21=>?_) (fun ht21=>?_)
 ·have e:Ce l s S=Ch 8 (A7 l S.i).at_ S:=by unfold Ce;rw [if_neg e0,if_pos ht21]
  refine AA9 ?_;refine R.fin [] ?_;refine jc ?_;exact K.fin .nores (hp:=⟨rfl,by rw [e]⟩)
 have e:Ce l s S=A2 S:=by unfold Ce;rw [if_neg e0,if_neg (by rw [ht21];simp)]
 refine Z5 ?_;refine Z48 ?_
 refine R.go (h:=Q.loadUp ho) (hr:=?_)
 refine Z6 ?_
 refine R.storeUp jS ho ?_ ?_
 ·simp
 refine R.fin [] ?_;exact K.finN .nores (hp:=⟨rfl,by rw [e];rfl⟩)

/-- The contract of one of the parser's functions. -/
def PC (g:FuncId) (l:List Tok) (f:PS→Expr×PS) (n:Nat):Prop:=∀(o:Nat) (Hp:List AObj) (S:PS),Hp[o]? = some (pr l S)→S.i<l.length→S.nest=n→ACall Tryz.prog g [.ptr o 0] Hp (fun r H'=>r=A5 (f S).1∧H'=Hp.set o (pr l (f S).2))
abbrev Im:AObj:=.cells 69 [A3 0,Aa [],A3 0,A3 0,Aa [],.nil]
theorem f7 {n:Nat}:ObjLow n Im:=by
 show ∀y∈[A3 0,Aa [],A3 0,A3 0,Aa [],AV.nil],Low n y
 simp
theorem ur {n:Nat} (e:Expr):ObjLow n (.cells 69 (Cs e)):=by
 have h:=Aj n e
 rw [Ac] at h
 show ∀y∈Cs e,Low n y
 intro y hy
 cases h with
 | agg _ h=>exact h y hy
theorem ut (l:List Tok) (S:PS) (a:Int) (g:FuncId) (first caps:List AV) (x:Expr) (S2:PS) (o:Nat) (Hp Hx:List AObj) (ho:Hp[o]? = some (pr l S)) (hnl:S.nest≤1048576) (hgc:∀args w,(callFunc g args).run Tryz.prog w=.ok (.enter g args) w) (hxl:Hx.length=Hp.length) (hxo:Hx[o]? = some (pr l S2)) (hn2:S2.nest=S.nest+1) (hlow:(∀y∈Hp.set o (pr l (Al S)),ObjLow Hp.length y)→∀y∈Hx,ObjLow Hp.length y) (hcf:S.nest≠30→∀own,ACall Tryz.prog g (first++caps) (Hp.set o (pr l (Al S))++own) (fun y H'=>y=A5 x∧H'=Hx++own)):ACall Tryz.prog 259 [.ptr o 0,A3 a,.fn (.func g) first caps] Hp (fun r H'=>(S.nest=30→r=A5 Ad∧H'=Hp.set o (pr l (Ch 18 a S)))∧(S.nest≠30→r=A5 x∧H'=Hx.set o (pr l (Lm S2)))):=by
 refine ACall.body [.cell 6 69] [0,1,2] Tryz.func259 Tryz.ntmps259 (fun d=>?_)
 refine Z27 ?_;refine b6 ?_;refine Z22 ?_
 refine R.go (h:=Q.loadUp ho) (hr:=?_)
 refine R.go ?_;refine R.fin [0,1,2,6,12] ?_
 refine W.cond (fun ht12=>?_) (fun ht12=>?_)
 ·have hn30:S.nest=30:=by have:=ht12;simp at this;omega
  refine Z3 ?_;refine R.callUp Tryz.call217 ho (by simp) C7 (km l S 18 a o _ (A4 ho)) ?_;refine n5 ?_;refine K.thR ?_;exact K.fin (V.one (V.cellN jA jS)) ⟨fun _=>⟨by rw [Ac],rfl⟩,fun h=>absurd hn30 h⟩ (hlow:=by have:=Aj Hp.length Ad;rw [Ac] at this;simpa using this)
 have hn30:S.nest≠30:=by have:=ht12;simp at this;omega
 refine Vr ?_
 refine R.go (h:=Q.loadUp ho) (hr:=?_)
 refine Z6 ?_
 refine R.storeUp jS ho ?_ ?_
 ·simp
 refine R.fin [0,2,6] ?_;refine Z0 ?_
 refine R.callVX (up':=Hx) (own':=[Im]) hgc (hcf hn30 [Im]) (by simpa using hxl) (by rw [List.length_set];exact hlow) ?_
 rw [←hxl]
 refine Z15 ?_;refine R.fin [0,6,7] ?_;refine Z19 ?_
 refine R.go (h:=Q.loadUp hxo) (hr:=?_)
 refine Z6 ?_
 refine R.storeUp jS hxo ?_ ?_
 ·simp
 refine R.fin [6,7] ?_;refine Z0 ?_;refine n5 ?_;exact K.fin (V.one (V.cellN jA jS)) ⟨fun h=>absurd h hn30,fun _=>⟨by rw [Ac],by rw [show ((S2.nest:Int)-1)=((Lm S2).nest:Int) by show _=((S2.nest-1:Nat):Int);omega];rfl⟩⟩ (hlow:=by have:=Aj Hx.length x;rw [Ac] at this;simpa using this)

theorem kn (t:Str) (a b:Expr):Cs (C6 t a b)=[A3 5,.v (sv t),A3 0,A3 0,Aa [],.slice false 6 [A5 a,A5 b]]:=rfl
theorem uu {n:Nat} (t:Str) (a b:Expr):ObjLow n (.cells 69 [A3 5,.v (sv t),A3 0,A3 0,Aa [],.slice false 6 [A5 a,A5 b]]):=ur (C6 t a b)
theorem uv {n:Nat} {U:List AObj} {i:Nat} {x:AObj} (h:∀y∈U,ObjLow n y) (hx:ObjLow n x):∀y∈U.set i x,ObjLow n y:=by
 intro y hy
 rcases List.mem_or_eq_of_mem_set hy with h1|h1
 ·exact h y h1
 rw [h1];exact hx
/-- within, with a method's value. -/
theorem p8 {g:FuncId} (hgc:∀args w,(callFunc g args).run Tryz.prog w=.ok (.enter g args) w) (l:List Tok) (S:PS) (a:Int) (f:PS→Expr×PS) (o:Nat) (Hp:List AObj) (ho:Hp[o]? = some (pr l S)) (hi:S.i<l.length) (hnl:S.nest≤30) (hf:S.nest≠30→Dj l (S.nest+1) f) (hcf:S.nest≠30→PC g l f (S.nest+1)):
  ACall Tryz.prog 259 [.ptr o 0,A3 a,.fn (.func g) [.ptr o 0] []] Hp (fun r H'=>r=A5 (Ak a f S).1∧H'=Hp.set o (pr l (Ak a f S).2)):=by
 have hlt:=(List.getElem?_eq_some_iff.1 ho).1
 by_cases h30:S.nest=30
 ·refine (ut l S a g [.ptr o 0] [] Ad (Al S) o Hp (Hp.set o (pr l (Al S))) ho (by omega) hgc (by simp) (by simp [hlt]) rfl (fun h=>h) (fun h=>absurd h30 h)).mono fun r H' h=>?_
  have e:Ak a f S=(Ad,Ch 18 a S):=if_pos (by rw [h30];rfl)
  rw [e]
  exact h.1 h30
 have hq:=hf h30 (Al S) hi rfl
 refine (ut l S a g [.ptr o 0] [] (f (Al S)).1 (f (Al S)).2 o Hp (Hp.set o (pr l (f (Al S)).2)) ho (by omega) hgc (by simp) (by simp [hlt]) hq.nest (fun h y hy=>?_) (fun _ own=>?_)).mono fun r H' h=>?_
 ·rcases List.mem_or_eq_of_mem_set hy with h1|h1
  ·obtain ⟨i,hi',rfl⟩:=List.getElem_of_mem h1
   by_cases hio:i=o
   ·subst hio
    have:Hp[i]=pr l S:=by rw [List.getElem?_eq_getElem hi'] at ho;injection ho
    rw [this];exact C7
   refine h _ ?_
   rw [List.mem_iff_getElem?]
   exact ⟨i,by rw [List.getElem?_set_ne (Ne.symm hio),List.getElem?_eq_getElem hi']⟩
  rw [h1];exact C7
 ·have hg:(Hp.set o (pr l (Al S))++own)[o]? = some (pr l (Al S)):=A4 (by simp [hlt])
  refine (hcf h30 o (Hp.set o (pr l (Al S))++own) (Al S) hg hi rfl).mono fun r H' h=>⟨h.1,h.2.trans ?_⟩
  rw [List.set_append_left _ _ (by simpa using hlt),List.set_set]
 have e:Ak a f S=((f (Al S)).1,Lm (f (Al S)).2):=if_neg (by
  show ¬(((S.nest:Int)==30)=true)
  simp
  omega)
 rw [e]
 obtain ⟨h1,h2⟩:=h.2 h30
 exact ⟨h1,by rw [h2,List.set_set]⟩
theorem uw {g:FuncId} (hgc:∀args w,(callFunc g args).run Tryz.prog w=.ok (.enter g args) w) (l:List Tok) (S:PS) (of:Str) (hof:of.length≤1048576) (f:PS→Expr×PS) (o:Nat) (Hp:List AObj) (ho:Hp[o]? = some (pr l S)) (hi:S.i<l.length) (hl:TokEnd l) (hll:l.length≤1048576) (hf:Dj l S.nest f) (hcf:PC g l f S.nest):ACall Tryz.prog 234 [.ptr o 0,Aa of,.fn (.func g) [.ptr o 0] []] Hp (fun r H'=>r=A5 (Ci l of f S).1∧H'=Hp.set o (pr l (Ci l of f S).2)):=by
 have holt:=(List.getElem?_eq_some_iff.1 ho).1
 refine ACall.body [.cell 6 69] [0,1,2] Tryz.func234 Tryz.ntmps234 (fun d=>?_)
 refine Z27 ?_;refine b6 ?_;refine Z0 ?_;refine R.callVUp hgc ho (by simp) C7 (hcf o _ S (A4 ho) hi rfl) ?_;refine Z15 ?_;refine R.fin [0,1,2,6,7] ?_;refine W.seq ?_
 refine AW.loopC (α:=Expr×PS) (fun r=>⟨32,A6 0 (.ptr o 0) (A6 1 (Aa of) (A6 2 (.fn (.func g) [.ptr o 0] []) (A6 6 (.ptr (oid Hp.length 0) 0) (A6 7 (.ptr (oid Hp.length 1) 0) (fun _=>.any))))),Hp.set o (pr l r.2),[.cells 69 [A3 0,Aa [],A3 0,A3 0,Aa [],.nil],.cells 69 (Cs r.1)],[],none⟩) (fun r=>LeftAt l of f S r) (fun r=>l.length-r.2.i) (f S) (.start (hf S hi rfl)) (StLe.of_eq (by simp)) rfl (fun r hx=>?_)
 refine Z55 ?_
 refine R.go (h:=Q.loadUp (getset ho)) (hr:=?_)
 refine Z29 ?_;refine G.call Tryz.call244 (fun hB=>Yb l r.2 of o _ (A4 (getset ho)) hx.fact.lt hl hof) ?_;refine R.go ?_;refine R.fin [0,1,2,6,7,21] ?_
 refine W.cond (fun ht21=>?_) (fun ht21=>?_)
 ·have hon:=hx.on hl ht21 hf
  have hle:=hon.2.1.le
  have hlt0:=hx.fact.lt
  have hU1:(Hp.set o (pr l r.2)).set o (pr l (A2 r.2))=Hp.set o (pr l (A2 r.2)):=List.set_set ..
  refine nh ?_;refine Z0 ?_;refine R.callUp Tryz.call245 (getset ho) (by simp) C7 (oz l r.2 o _ (A4 (getset ho)) hx.fact.lt hll) ?_;refine Z15 ?_;refine R.fin [0,1,2,6,7,8] ?_;refine W.drawY0 [0,1,0,0,8,28,63,127] [4] [.q 4 [] [],.s [28] (some 0) [] [],.q 1 [0] []] (fun B=>Hp.set o (if B 0=true then pr l (f (A2 r.2)).2 else pr l (A2 r.2))) (fun _=>[.cells 69 [A3 0,Aa [],A3 0,A3 0,Aa [],.nil],.cells 69 (Cs r.1),.cells 59 [A3 (A7 l r.2.i).kind,Aa (A7 l r.2.i).text,A3 (A7 l r.2.i).at_]]) Ab (by kernel_rfl) (by simp [List.set_set]) rfl (fun B=>by simp) ?_
  apply Y.q
  case h1 =>
   intro B hT hF
   exact na
  case hTF=>decide
  refine Y.callVUp (r:=A5 (f (A2 r.2)).1) (o:=o) (x0:=pr l (A2 r.2)) (x:=pr l (f (A2 r.2)).2) hgc (fun B hT hF hB=>⟨by simp only [hB];exact getset ho,by simp [upd],rfl,C7,?_⟩) ?_
  ·simp only [hB]
   exact hcf o _ (A2 r.2) (A4 (getset ho)) hon.1 hx.fact.nest
  apply Y.q
  case h1 =>
   intro B hT hF
   exact Z33
  case hTF=>decide
  refine Y.tail (tn:=[4]) (U:=Hp.set o (pr l (f (A2 r.2)).2)) ?_;refine AAa ?_;refine R.fin [0,1,2,6,7] ?_;refine K.blN ?_
  refine K.lpN (C6 (A7 l r.2.i).text r.1 (f (A2 r.2)).1,(f (A2 r.2)).2) hon.2.2 (by show l.length-(f (A2 r.2)).2.i<l.length-r.2.i;have:r.2.i+1≤(f (A2 r.2)).2.i:=hle;omega) ?_
  simp only [kn]
  have hlow2:=fun n=>uu (n:=n) (A7 l r.2.i).text r.1 (f (A2 r.2)).1
  simp only [Ac] at hlow2 ⊢
  exact StCut.take (fun _=>.refl _) (by repeat (first|exact C5|refine C4 (by simp [oid]<;>omega) ?_)) (by intro y hy;rcases List.mem_cons.1 hy with rfl|hy;exact f7;rw [List.mem_singleton.1 hy];exact hlow2 _) (by simp)
 have hout:=hx.out (by rw [ht21];simp)
 refine Z47 ?_;refine Z0 ?_;refine n5 ?_;exact K.fin (V.one (V.cellN jA jS)) ⟨by rw [hout,Ac],by rw [hout]⟩ (hlow:=by have:=Aj (Hp.set o (pr l r.2)).length r.1;rw [Ac] at this;simpa using this)

theorem ADb (l:List Tok) (S:PS) (f:PS→Expr×PS) (o:Nat) (Hp:List AObj) (ho:Hp[o]? = some (pr l S)) (hi:S.i<l.length) (hl:TokEnd l) (hll:l.length≤1048576) (hf:Dj l S.nest f) (hcf:PC 235 l f S.nest):ACall Tryz.prog 215 [.ptr o 0] Hp (fun r H'=>r=A5 (Ci l orT f S).1∧H'=Hp.set o (pr l (Ci l orT f S).2)):=by
 refine ACall.body [.cell 2 69] [0] Tryz.func215 Tryz.ntmps215 (fun d=>?_)
 refine Z52 ?_;refine Z3 ?_;refine R.makeFunc ?_;refine R.callUp Tryz.call234 ho (by simp) C7 (uw Tryz.call235 l S orT (by decide) f o _ (A4 ho) hi hl hll hf hcf) ?_;refine Z26 ?_;exact K.fin (V.one (V.cellN jA jS)) ⟨by rw [Ac],rfl⟩ (hlow:=by have:=Aj Hp.length (Ci l orT f S).1;rw [Ac] at this;simpa using this)

theorem ADc (l:List Tok) (S:PS) (f:PS→Expr×PS) (o:Nat) (Hp:List AObj) (ho:Hp[o]? = some (pr l S)) (hi:S.i<l.length) (hl:TokEnd l) (hll:l.length≤1048576) (hf:Dj l S.nest f) (hcf:PC 246 l f S.nest):ACall Tryz.prog 235 [.ptr o 0] Hp (fun r H'=>r=A5 (Ci l cm f S).1∧H'=Hp.set o (pr l (Ci l cm f S).2)):=by
 refine ACall.body [.cell 2 69] [0] Tryz.func235 Tryz.ntmps235 (fun d=>?_)
 refine Z52 ?_;refine Z3 ?_;refine R.makeFunc ?_;refine R.callUp Tryz.call234 ho (by simp) C7 (uw Tryz.call246 l S cm (by decide) f o _ (A4 ho) hi hl hll hf hcf) ?_;refine Z26 ?_;exact K.fin (V.one (V.cellN jA jS)) ⟨by rw [Ac],rfl⟩ (hlow:=by have:=Aj Hp.length (Ci l cm f S).1;rw [Ac] at this;simpa using this)

theorem ADd (l:List Tok) (S:PS) (f:PS→Expr×PS) (o:Nat) (Hp:List AObj) (ho:Hp[o]? = some (pr l S)) (hi:S.i<l.length) (hl:TokEnd l) (hll:l.length≤1048576) (hf:Dj l S.nest f) (hcf:PC 269 l f S.nest):ACall Tryz.prog 266 [.ptr o 0] Hp (fun r H'=>r=A5 (Ci l cn f S).1∧H'=Hp.set o (pr l (Ci l cn f S).2)):=by
 refine ACall.body [.cell 2 69] [0] Tryz.func266 Tryz.ntmps266 (fun d=>?_)
 refine Z52 ?_;refine Z3 ?_;refine R.makeFunc ?_;refine R.callUp Tryz.call234 ho (by simp) C7 (uw Tryz.call269 l S cn (by decide) f o _ (A4 ho) hi hl hll hf hcf) ?_;refine Z26 ?_;exact K.fin (V.one (V.cellN jA jS)) ⟨by rw [Ac],rfl⟩ (hlow:=by have:=Aj Hp.length (Ci l cn f S).1;rw [Ac] at this;simpa using this)

theorem ADe (l:List Tok) (S:PS) (f:PS→Expr×PS) (o:Nat) (Hp:List AObj) (ho:Hp[o]? = some (pr l S)) (hi:S.i<l.length) (hl:TokEnd l) (hll:l.length≤1048576) (hf:Dj l S.nest f) (hcf:PC 270 l f S.nest):ACall Tryz.prog 269 [.ptr o 0] Hp (fun r H'=>r=A5 (Ci l Rk f S).1∧H'=Hp.set o (pr l (Ci l Rk f S).2)):=by
 refine ACall.body [.cell 2 69] [0] Tryz.func269 Tryz.ntmps269 (fun d=>?_)
 refine Z52 ?_;refine Z3 ?_;refine R.makeFunc ?_;refine R.callUp Tryz.call234 ho (by simp) C7 (uw Tryz.call270 l S Rk (by decide) f o _ (A4 ho) hi hl hll hf hcf) ?_;refine Z26 ?_;exact K.fin (V.one (V.cellN jA jS)) ⟨by rw [Ac],rfl⟩ (hlow:=by have:=Aj Hp.length (Ci l Rk f S).1;rw [Ac] at this;simpa using this)

/-- What is so of the functions one nest deeper. -/
structure DeepC (l:List Tok) (Dv:Fam) (n:Nat):Prop where
 ei:n≠30→Dj l (n+1) Dv.ei∧PC 215 l Dv.ei (n+1)
 no:n≠30→Dj l (n+1) Dv.no∧PC 246 l Dv.no (n+1)
 ne:n≠30→Dj l (n+1) Dv.ne∧PC 270 l Dv.ne (n+1)
theorem Pr (op:Int) (x:Expr):A5 (Bq op x)=.agg [A3 op,Aa [],A3 0,A3 0,Aa [],.slice false 6 [A5 x]]:=by rw [Ac];rfl
theorem f8 (t:Str) (a b:Expr):A5 (C6 t a b)=.agg [A3 5,.v (sv t),A3 0,A3 0,Aa [],.slice false 6 [A5 a,A5 b]]:=by rw [Ac];rfl
theorem low_agg {n:Nat} (e:Expr):Low n (.agg [.v (.int .i64 e.op),.v (sv e.text),.v (.int .i64 e.val.kind),.v (.int .i64 e.val.n),.v (sv e.val.s),.slice false 6 (e.kids.map A5)]):=by
 have:=Aj n e
 rwa [Ac] at this
theorem ADf (l:List Tok) (S:PS) (Dv:Fam) (o:Nat) (Hp:List AObj) (ho:Hp[o]? = some (pr l S)) (hi:S.i<l.length) (hl:TokEnd l) (hll:l.length≤1048576) (hnl:S.nest≤30) (hd:DeepC l Dv S.nest) (hc:PC 271 l (Cj l Dv) S.nest):ACall Tryz.prog 270 [.ptr o 0] Hp (fun r H'=>r=A5 (Gp l Dv S).1∧H'=Hp.set o (pr l (Gp l Dv S).2)):=by
 refine ACall.body [.cell 2 69] [0] Tryz.func270 Tryz.ntmps270 (fun d=>?_)
 refine Z52 ?_;refine Z8 ?_;refine R.call Tryz.call244 (Yb l S W9 o _ (A4 ho) hi hl (by decide)) ?_;refine R.go ?_;refine R.fin [0,2,6] ?_
 refine W.cond (fun ht6=>?_) (fun ht6=>?_)
 ·have e:Gp l Dv S=Cj l Dv S:=if_pos ht6
  refine Z0 ?_;refine R.callUp Tryz.call271 ho (by simp) C7 (hc o _ S (A4 ho) hi rfl) ?_;refine Z26 ?_;exact Z65
 have his:isM l W9 S=true:=by simpa using ht6
 have hi1:(A2 S).i<l.length:=hl.stepIs hi his
 have e:Gp l Dv S=(Bq 3 (Ak (A7 l S.i).at_ Dv.ne (A2 S)).1,(Ak (A7 l S.i).at_ Dv.ne (A2 S)).2):=if_neg (by rw [ht6];simp)
 refine Z5 ?_;refine Z51 ?_;refine Z86 ?_;refine Z34 ?_;refine R.makeFunc ?_;refine R.callUp Tryz.call259 (getset ho) (by simp) C7 (p8 Tryz.call270 l (A2 S) (A7 l S.i).at_ Dv.ne o _ (A4 (getset ho)) hi1 hnl (fun h=>(hd.ne h).1) (fun h=>(hd.ne h).2)) ?_;refine Jc ?_;refine xg ?_;exact K.fin (V.one (V.cellN jA jS)) ⟨by rw [e,Pr];simp only [Ac],by rw [e,List.set_set]⟩ (hlow:=by have:=Aj Hp.length (Bq 3 (Ak (A7 l S.i).at_ Dv.ne (A2 S)).1);rw [Pr] at this;simp only [Ac] at this;simpa only [List.length_set] using this)

theorem ADg (l:List Tok) (S:PS) (Dv:Fam) (o:Nat) (Hp:List AObj) (ho:Hp[o]? = some (pr l S)) (hi:S.i<l.length) (hl:TokEnd l) (hll:l.length≤1048576) (hnl:S.nest≤30) (hd:DeepC l Dv S.nest) (hc:PC 258 l (Bg l Dv) S.nest):ACall Tryz.prog 246 [.ptr o 0] Hp (fun r H'=>r=A5 (Gq l Dv S).1∧H'=Hp.set o (pr l (Gq l Dv S).2)):=by
 refine ACall.body [.cell 2 69] [0] Tryz.func246 Tryz.ntmps246 (fun d=>?_)
 refine Z52 ?_;refine Z8 ?_;refine R.call Tryz.call244 (Yb l S W8 o _ (A4 ho) hi hl (by decide)) ?_;refine R.go ?_;refine R.fin [0,2,6] ?_
 refine W.cond (fun ht6=>?_) (fun ht6=>?_)
 ·have e:Gq l Dv S=Bg l Dv S:=if_pos ht6
  refine Z0 ?_;refine R.callUp Tryz.call258 ho (by simp) C7 (hc o _ S (A4 ho) hi rfl) ?_;refine Z26 ?_;exact Z65
 have his:isM l W8 S=true:=by simpa using ht6
 have hi1:(A2 S).i<l.length:=hl.stepIs hi his
 have e:Gq l Dv S=(Bq 4 (Ak (A7 l S.i).at_ Dv.no (A2 S)).1,(Ak (A7 l S.i).at_ Dv.no (A2 S)).2):=if_neg (by rw [ht6];simp)
 refine Z5 ?_;refine Z51 ?_;refine Z86 ?_;refine Z34 ?_;refine R.makeFunc ?_;refine R.callUp Tryz.call259 (getset ho) (by simp) C7 (p8 Tryz.call246 l (A2 S) (A7 l S.i).at_ Dv.no o _ (A4 (getset ho)) hi1 hnl (fun h=>(hd.no h).1) (fun h=>(hd.no h).2)) ?_;refine Jc ?_;refine xg ?_;exact K.fin (V.one (V.cellN jA jS)) ⟨by rw [e,Pr];simp only [Ac],by rw [e,List.set_set]⟩ (hlow:=by have:=Aj Hp.length (Bq 4 (Ak (A7 l S.i).at_ Dv.no (A2 S)).1);rw [Pr] at this;simp only [Ac] at this;simpa only [List.length_set] using this)

theorem ADh (l:List Tok) (S:PS) (Dv:Fam) (o:Nat) (Hp:List AObj) (ho:Hp[o]? = some (pr l S)) (hi:S.i<l.length) (hl:TokEnd l) (hll:l.length≤1048576) (hnl:S.nest≤30) (hd:DeepC l Dv S.nest) (hg:Dj l S.nest (Bo l Dv)) (hc:PC 266 l (Bo l Dv) S.nest):ACall Tryz.prog 258 [.ptr o 0] Hp (fun r H'=>r=A5 (Bg l Dv S).1∧H'=Hp.set o (pr l (Bg l Dv S).2)):=by
 have hq:=hg S hi rfl
 refine ACall.body [.cell 2 69] [0] Tryz.func258 Tryz.ntmps258 (fun d=>?_)
 refine Z52 ?_;refine Z0 ?_;refine R.callUp Tryz.call266 ho (by simp) C7 (hc o _ S (A4 ho) hi rfl) ?_;refine Z86 ?_;refine Z55 ?_
 refine R.go (h:=Q.loadUp (getset ho)) (hr:=?_)
 refine Z94 ?_;refine G.call Tryz.call244 (fun hB=>Yb l (Bo l Dv S).2 Rj o _ (A4 (getset ho)) hq.lt hl (by decide)) ?_;refine Z68 ?_;refine R.fin [0,2,3,17] ?_
 refine W.cond (fun ht17=>?_) (fun ht17=>?_)
 ·have e:Bg l Dv S=Bo l Dv S:=if_pos ht17
  refine Z0 ?_;refine Z26 ?_;exact Z65
 have his:isM l Rj (Bo l Dv S).2=true:=by
  have:=ht17
  simp only [Bool.or_eq_false_iff,Bool.not_eq_false'] at this
  exact this.2
 have hi1:(A2 (Bo l Dv S).2).i<l.length:=hl.stepIs hq.lt his
 have e:Bg l Dv S=(C6 (A7 l (Bo l Dv S).2.i).text (Bo l Dv S).1 (Bo l Dv (A2 (Bo l Dv S).2)).1,(Bo l Dv (A2 (Bo l Dv S).2)).2):=if_neg (by rw [ht17];simp)
 refine Mf ?_;refine R.callUp Tryz.call245 (getset ho) (by simp) C7 (oz l (Bo l Dv S).2 o _ (A4 (getset ho)) hq.lt hll) ?_;refine Z15 ?_;refine R.fin [0,2,3,4] ?_;refine W.drawY [0,1,0,0,8,28,63,127] [4] [.q 4 [] [],.s [25] (some 0) [] [],.q 1 [0] []] (fun B=>Hp.set o (if B 0=true then pr l (Bo l Dv (A2 (Bo l Dv S).2)).2 else pr l (A2 (Bo l Dv S).2))) (fun _=>[.cells 69 [A3 0,Aa [],A3 0,A3 0,Aa [],.nil],.cells 69 (Cs (Bo l Dv S).1),.cells 59 [A3 (A7 l (Bo l Dv S).2.i).kind,Aa (A7 l (Bo l Dv S).2.i).text,A3 (A7 l (Bo l Dv S).2.i).at_]]) Ab (by kernel_rfl) (by simp [List.set_set]) rfl (fun B=>by simp) ?_
 apply Y.q
 case h1 =>
  intro B hT hF
  exact na
 case hTF=>decide
 refine Y.callUp (r:=A5 (Bo l Dv (A2 (Bo l Dv S).2)).1) (o:=o) (x0:=pr l (A2 (Bo l Dv S).2)) (x:=pr l (Bo l Dv (A2 (Bo l Dv S).2)).2) Tryz.call266 (fun B hT hF hB=>⟨by simp only [hB];exact getset ho,by simp [upd],rfl,C7,?_⟩) ?_
 ·simp only [hB]
  exact hc o _ (A2 (Bo l Dv S).2) (A4 (getset ho)) hi1 hq.nest
 apply Y.q
 case h1 =>
  intro B hT hF
  exact Z33
 case hTF=>decide
 refine Y.tail (tn:=[4]) (U:=Hp.set o (pr l (Bo l Dv (A2 (Bo l Dv S).2)).2)) ?_;refine xg ?_;exact K.fin (V.one (V.cellN jA jS)) ⟨by rw [e,f8];simp only [Ac],by rw [e]⟩ (hlow:=by have:=Aj Hp.length (C6 (A7 l (Bo l Dv S).2.i).text (Bo l Dv S).1 (Bo l Dv (A2 (Bo l Dv S).2)).1);rw [f8] at this;simp only [Ac] at this;simpa only [List.length_set] using this)

/-- The contract of the parser of calls. -/
def Yc (l:List Tok) (Dv:Fam) (n:Nat):Prop:=∀(o:Nat) (Hp:List AObj) (S:PS) (t:Tok),Hp[o]? = some (pr l S)→(A2 S).i<l.length→S.nest=n→t.text.length≤1048576→isM l opT S=true→ACall Tryz.prog 273 [.ptr o 0,Hb t] Hp (fun r H'=>r=A5 (F3 l Dv t S).1∧H'=Hp.set o (pr l (F3 l Dv t S).2))
theorem p9:A5 Ad=.agg [A3 0,Aa [],A3 0,A3 0,Aa [],.slice false 6 []]:=by rw [Ac];rfl
theorem ADi (l:List Tok) (S:PS) (Dv:Fam) (o:Nat) (Hp:List AObj) (ho:Hp[o]? = some (pr l S)) (hi:S.i<l.length) (hl:TokEnd l) (hll:l.length≤1048576) (hnl:S.nest≤30) (hd:DeepC l Dv S.nest) (hcl:Yc l Dv S.nest):ACall Tryz.prog 271 [.ptr o 0] Hp (fun r H'=>r=A5 (Cj l Dv S).1∧H'=Hp.set o (pr l (Cj l Dv S).2)):=by
 refine ACall.body [.cell 2 69] [0] Tryz.func271 Tryz.ntmps271 (fun d=>?_)
 refine Z52 ?_;refine xk ?_;refine Z86 ?_;refine Z55 ?_
 refine R.go (h:=Q.loadUp ho) (hr:=?_)
 refine R.go ?_;refine R.fin [0,2,3,14] ?_
 refine W.cond (fun ht14=>?_) (fun ht14=>?_)
 ·have e:Cj l Dv S=(Ad,S):=if_pos ht14
  refine Z96 ?_;refine R.wk 15 _ Rq ?_;refine Z26 ?_;refine K.thR ?_;exact K.fin (V.one (V.cellN jA jS)) ⟨by rw [e,Ac],by rw [e];exact (Ep ho).symm⟩ (hlow:=by have:=Aj Hp.length (Ad);simpa only [Ac,List.length_set] using this)
 have e0:¬(S.code != 0)=true:=by rw [ht14];simp
 refine Z44 ?_;refine Z34 ?_;refine G.go ?_;refine G.call Tryz.call244 (fun hB=>Yb l S Mt o _ (A4 ho) hi hl (by decide)) ?_;refine Z1 ?_;refine R.fin [0,2,3,16] ?_
 refine W.cond (fun ht16=>?_) (fun ht16=>?_)
 ·have e:Cj l Dv S=(Ff (Cv (A7 l S.i).text).1,A2 S):=by unfold Cj;rw [if_neg e0,if_pos ht16]
  refine Z51 ?_;refine R.go ?_;refine R.call Tryz.call157 (ye (A7 l S.i).text (hl.text _) _) ?_;refine Z6 ?_;refine Z15 ?_;refine R.go ?_;refine R.fin [2,4] ?_;refine Z0 ?_;refine R.call Tryz.call272 (ABp (Cv (A7 l S.i).text).1 _) ?_;refine Z26 ?_;refine Z7 ?_;exact K.fin (V.one (V.cellN jA jS)) ⟨by rw [e,Ac],by rw [e]⟩ (hlow:=by have:=Aj Hp.length (Ff (Cv (A7 l S.i).text).1);simpa only [Ac,List.length_set] using this)
 have e1:¬(((A7 l S.i).kind==3) || isM l Mt S)=true:=by rw [ht16];simp
 refine Z34 ?_;refine R.fin [0,2,3,33] ?_
 refine W.cond (fun ht33=>?_) (fun ht33=>?_)
 ·have e:Cj l Dv S=(Ff ⟨2,0,(A7 l S.i).text.take 200⟩,A2 S):=by unfold Cj;rw [if_neg e0,if_neg e1,if_pos ht33]
  refine Z51 ?_;refine R.go ?_;refine R.call Tryz.call210 (c210 (A7 l S.i).text _) ?_;refine R.call Tryz.call272 (ABp ⟨2,0,(A7 l S.i).text.take 200⟩ _) ?_;refine Z26 ?_;refine Z7 ?_;exact K.fin (V.one (V.cellN jA jS)) ⟨by rw [e,Ac],by rw [e]⟩ (hlow:=by have:=Aj Hp.length (Ff ⟨2,0,(A7 l S.i).text.take 200⟩);simpa only [Ac,List.length_set] using this)
 have e2:¬((A7 l S.i).kind==4)=true:=by rw [ht33];simp
 refine Z34 ?_;refine R.fin [0,2,3,42] ?_
 refine W.cond (fun ht42=>?_) (fun ht42=>?_)
 ·have hi1:(A2 S).i<l.length:=hl.step hi (by rw [beq_iff_eq] at ht42;rw [ht42];decide)
  refine Z51 ?_;refine R.fin [0,2,3] ?_;refine Z8 ?_;refine R.call Tryz.call244 (Yb l (A2 S) opT o _ (A4 (getset ho)) hi1 hl (by decide)) ?_;refine R.fin [0,2,3,49] ?_
  refine W.cond (fun ht49=>?_) (fun ht49=>?_)
  ·have e:Cj l Dv S=F3 l Dv (A7 l S.i) (A2 S):=by unfold Cj;rw [if_neg e0,if_neg e1,if_neg e2,if_pos ht42,if_pos ht49]
   have hi2:(A2 (A2 S)).i<l.length:=hl.stepIs hi1 ht49
   refine Z3 ?_;refine R.callUp Tryz.call273 (getset ho) (by simp) C7 (hcl o _ (A2 S) (A7 l S.i) (A4 (getset ho)) hi2 rfl (hl.text _) ht49) ?_;refine Z26 ?_;refine K.thR ?_;refine Z7 ?_;exact K.fin (V.one (V.cellN jA jS)) ⟨by rw [e,Ac],by rw [e,List.set_set]⟩ (hlow:=by have:=Aj Hp.length ((F3 l Dv (A7 l S.i) (A2 S)).1);simpa only [Ac,List.length_set] using this)
  have e:Cj l Dv S=(Aq (A7 l S.i).text,A2 S):=by unfold Cj;rw [if_neg e0,if_neg e1,if_neg e2,if_pos ht42,if_neg (by rw [ht49];simp)]
  refine Z5 ?_;refine AAp ?_;refine R.wk 55 _ (oe _) ?_;refine Z26 ?_;refine Z7 ?_;exact K.fin (V.one (V.cellN jA jS)) ⟨by rw [e,Ac],by rw [e]⟩ (hlow:=by have:=Aj Hp.length (Aq (A7 l S.i).text);simpa only [Ac,List.length_set] using this)
 have e3:¬((A7 l S.i).kind==1)=true:=by rw [ht42];simp
 refine Z0 ?_;refine R.call Tryz.call244 (Yb l S opT o _ (A4 ho) hi hl (by decide)) ?_;refine R.go ?_;refine R.fin [0,2,3,56] ?_
 refine W.cond (fun ht56=>?_) (fun ht56=>?_)
 ·have e:Cj l Dv S=((Ak (A7 l S.i).at_ Dv.ei (A2 S)).1,Ce l D0 (Ak (A7 l S.i).at_ Dv.ei (A2 S)).2):=by unfold Cj;rw [if_neg e0,if_neg e1,if_neg e2,if_neg e3,if_pos ht56]
  have hi1:(A2 S).i<l.length:=hl.stepIs hi ht56
  have hwf:=Hf (S:=A2 S) (l:=l) (f:=Dv.ei) (A7 l S.i).at_ hi1 (fun h=>(hd.ei h).1)
  refine Z51 ?_;refine R.fin [0,2,3] ?_;refine Z34 ?_;refine R.makeFunc ?_;refine R.callUp Tryz.call259 (getset ho) (by simp) C7 (p8 Tryz.call215 l (A2 S) (A7 l S.i).at_ Dv.ei o _ (A4 (getset ho)) hi1 hnl (fun h=>(hd.ei h).1) (fun h=>(hd.ei h).2)) ?_;refine Z15 ?_;refine R.fin [0,2,6] ?_;refine Z0 ?_;refine R.callUp Tryz.call274 (getset (getset ho)) (by simp) C7 (ABq l (Ak (A7 l S.i).at_ Dv.ei (A2 S)).2 D0 o _ (A4 (getset (getset ho))) hwf.lt hll) ?_;refine R.fin [2,6] ?_;refine Z0 ?_;refine Z26 ?_;refine Z7 ?_;exact K.fin (V.one (V.cellN jA jS)) ⟨by rw [e,Ac],by rw [e,List.set_set,List.set_set]⟩ (hlow:=by have:=Aj Hp.length ((Ak (A7 l S.i).at_ Dv.ei (A2 S)).1);simpa only [Ac,List.length_set] using this)
 have e:Cj l Dv S=(Ad,Ch 8 (A7 l S.i).at_ S):=by unfold Cj;rw [if_neg e0,if_neg e1,if_neg e2,if_neg e3,if_neg (by rw [ht56];simp)]
 refine Z39 ?_;refine AA9 ?_;refine Z26 ?_;exact K.fin (V.one (V.cellN jA jS)) ⟨by rw [e,Ac],by rw [e]⟩ (hlow:=by have:=Aj Hp.length (Ad);simpa only [Ac,List.length_set] using this)

theorem ux {l:List Tok} (hl:TokEnd l) (hll:l.length≤1048576) {d n:Nat} (h:n+(d+1)=31) (hp:n≠30→PC 215 l (C1 l d).ei (n+1)∧PC 246 l (C1 l d).no (n+1)∧PC 270 l (C1 l d).ne (n+1)):DeepC l (C1 l d) n:=by
 have g:n≠30→_:=fun h30=>Nz hl hll d (n+1) (by omega) (by omega)
 exact ⟨fun h=>⟨(g h).1,(hp h).1⟩,fun h=>⟨(g h).2.1,(hp h).2.1⟩,fun h=>⟨(g h).2.2,(hp h).2.2⟩⟩
/-- All functions of the parser. -/
theorem Yd {l:List Tok} (hl:TokEnd l) (hll:l.length≤1048576) (hcl:∀n Dv,n≤30→DeepC l Dv n→Yc l Dv n):∀(d n:Nat),n+d=31→n≤30→PC 215 l (C1 l d).ei n∧PC 246 l (C1 l d).no n∧PC 270 l (C1 l d).ne n
 | 0,n,h,hn=>by omega
 | d+1,n,h,hn=>by
  have hd:DeepC l (C1 l d) n:=ux hl hll h (fun h30=>Yd hl hll hcl d (n+1) (by omega) (by omega))
  have g1:Dj l n (Gp l (C1 l d)):=Ny hl hll (fun h=>(hd.ei h).1) (fun h=>(hd.ne h).1)
  have g2:Dj l n (Rl l (C1 l d)):=Fg hl g1
  have g3:Dj l n (Bo l (C1 l d)):=Fg hl g2
  have g4:Dj l n (Bg l (C1 l d)):=Ln hl hll (fun h=>(hd.ei h).1) (fun h=>(hd.ne h).1)
  have g5:Dj l n (Gq l (C1 l d)):=Ua hl hll (fun h=>(hd.ei h).1) (fun h=>(hd.ne h).1) (fun h=>(hd.no h).1)
  have g6:Dj l n (Rm l (C1 l d)):=Fg hl g5
  have p0:PC 271 l (Cj l (C1 l d)) n:=fun o Hp S ho hi hS=>by
   subst hS
   exact ADi l S (C1 l d) o Hp ho hi hl hll hn hd (hcl _ _ hn hd)
  have p1:PC 270 l (Gp l (C1 l d)) n:=fun o Hp S ho hi hS=>by
   subst hS
   exact ADf l S (C1 l d) o Hp ho hi hl hll hn hd p0
  have p2:PC 269 l (Rl l (C1 l d)) n:=fun o Hp S ho hi hS=>by
   subst hS
   exact ADe l S (Gp l (C1 l d)) o Hp ho hi hl hll g1 p1
  have p3:PC 266 l (Bo l (C1 l d)) n:=fun o Hp S ho hi hS=>by
   subst hS
   exact ADd l S (Rl l (C1 l d)) o Hp ho hi hl hll g2 p2
  have p4:PC 258 l (Bg l (C1 l d)) n:=fun o Hp S ho hi hS=>by
   subst hS
   exact ADh l S (C1 l d) o Hp ho hi hl hll hn hd g3 p3
  have p5:PC 246 l (Gq l (C1 l d)) n:=fun o Hp S ho hi hS=>by
   subst hS
   exact ADg l S (C1 l d) o Hp ho hi hl hll hn hd p4
  have p6:PC 235 l (Rm l (C1 l d)) n:=fun o Hp S ho hi hS=>by
   subst hS
   exact ADc l S (Gq l (C1 l d)) o Hp ho hi hl hll g5 p5
  have p7:PC 215 l (L4 l (C1 l d)) n:=fun o Hp S ho hi hS=>by
   subst hS
   exact ADb l S (Rm l (C1 l d)) o Hp ho hi hl hll g6 p6
  exact ⟨p7,p5,p1⟩
theorem Ub:∀(n:Nat) (e:Expr),okE n e→depthE e≤n
 | 0,_,h=>h.elim
 | n+1,e,h=>by
  rw [L3]
  have:∀l:List Expr,(∀y∈l,okE n y)→Cz l≤n:=by
   intro l
   induction l with
   | nil=>intro _;exact Nat.zero_le _
   | cons y r ih =>
    intro hl
    rw [Cz]
    have h1:=Ub n y (hl y (by simp))
    have h2:=ih (fun z hz=>hl z (by simp [hz]))
    omega
  have:=this e.kids h.2.2
  omega
theorem pc (e:Expr) (x:Nat):B6 (e.kids.take x)+1≤sizeE e:=by
 rw [Dw]
 have:∀(l:List Expr) (x:Nat),B6 (l.take x)≤B6 l:=by
  intro l
  induction l with
  | nil=>intro x;simp
  | cons y r ih =>
   intro x
   cases x with
   | zero=>simp [B6]
   | succ x =>
    have:=ih x
    rw [List.take_succ_cons,B6,B6]
    omega
 have:=this e.kids x
 omega
theorem ADj:∀(n:Nat) (e:Expr),okE n e→n≤1048576→∀Hp:List AObj,AFun Tryz.prog 146 [A5 e] Hp (A3 (depthE e:Nat)):=by
 intro n
 induction n with
 | zero=>exact fun e h=>h.elim
 | succ n ih =>
 intro e hok hn Hp
 refine ACall.body [.tmp 2] [0] Tryz.func146 Tryz.ntmps146 (fun d=>?_)
 refine Z54 ?_;refine Z0 ?_;refine R.fin [1,3] ?_;refine Z8 ?_;refine Pj ?_
 refine AW.loopC (α:=Nat) (fun x=>⟨25,A6 1 (.ro (Cs e)) (A6 3 (A3 (Cz (e.kids.take x):Nat)) (A6 4 (A3 (x:Nat)) (fun _=>.any))),Hp,[],[],none⟩) (fun x=>x≤e.kids.length) (fun x=>e.kids.length-x) (0) (Nat.zero_le _) (StLe.of_eq (by simp [Cz])) rfl (fun x hx=>?_)
 refine Z73 ?_;refine R.fin [1,3,4,10] ?_
 refine W.cond (fun ht10=>?_) (fun ht10=>?_)
 ·have hlt:x<e.kids.length:=by simpa using ht10
  have hkl:=hok.2.1
  refine T6 ?_
  refine R.go (h:=Q.indexAddr (x) (A5 e.kids[x]) (fun _=>Am hlt)) (hr:=?_)
  refine R.go ?_;refine R.call Tryz.call146 (ih e.kids[x] (hok.2.2 _ (List.getElem_mem hlt)) (by omega) _) ?_;refine R.go ?_;refine R.fin [1,3,4,5] ?_;refine Z19 ?_;refine R.fin [1,3,4,5,21] ?_
  refine W.cond (fun ht21=>?_) (fun ht21=>?_)
  ·have em:Cz (e.kids.take (x+1))=depthE e.kids[x]:=by rw [P5 _ hlt];have:=of_decide_eq_true ht21;omega
   refine Z30 ?_;refine t6 ?_;exact zw
  have em:Cz (e.kids.take (x+1))=Cz (e.kids.take x):=by rw [P5 _ hlt];have:=of_decide_eq_false ht21;omega
  refine Z58 ?_;exact zw
 have hd1:=Ub _ e hok
 have hxe:e.kids.take x=e.kids:=List.take_of_length_le (by simp at ht10;omega)
 have hdd:=L3 e
 refine Z47 ?_;refine Z0 ?_
 rw [hxe]
 refine Z36 ?_;exact K.fin (V.one V.tmp) ⟨by rw [hdd];rfl,rfl⟩

theorem ADk:∀(n:Nat) (e:Expr),okE n e→sizeE e≤1048576→∀Hp:List AObj,AFun Tryz.prog 147 [A5 e] Hp (A3 (sizeE e:Nat)):=by
 intro n
 induction n with
 | zero=>exact fun e h=>h.elim
 | succ n ih =>
 intro e hok hn Hp
 refine ACall.body [.tmp 2] [0] Tryz.func147 Tryz.ntmps147 (fun d=>?_)
 refine Z54 ?_;refine Z0 ?_;refine R.fin [1,3] ?_;refine Z8 ?_;refine Pj ?_
 refine AW.loopC (α:=Nat) (fun x=>⟨21,A6 1 (.ro (Cs e)) (A6 3 (A3 ((B6 (e.kids.take x):Nat)+1)) (A6 4 (A3 (x:Nat)) (fun _=>.any))),Hp,[],[],none⟩) (fun x=>x≤e.kids.length) (fun x=>e.kids.length-x) (0) (Nat.zero_le _) (StLe.of_eq (by simp [B6])) rfl (fun x hx=>?_)
 refine Z73 ?_;refine R.fin [1,3,4,9] ?_
 refine W.cond (fun ht9=>?_) (fun ht9=>?_)
 ·have hlt:x<e.kids.length:=by simpa using ht9
  have hkl:=hok.2.1
  have hs1:=cb e.kids hlt
  have hs2:=pc e (x+1)
  refine Z44 ?_;refine Z30 ?_;refine Z1 ?_
  refine R.go (h:=Q.indexAddr (x) (A5 e.kids[x]) (fun _=>Am hlt)) (hr:=?_)
  refine R.go ?_
  refine R.call Tryz.call147 (ih e.kids[x] (hok.2.2 _ (List.getElem_mem hlt)) (by have:=R2 e hlt;omega) _) ?_
  refine Z1 ?_;refine t6 ?_;refine Pj ?_;exact K.lpN (x+1) hlt (by omega) (StCut.of_eq (by simp only [hs1];congr 4;simp only [AV.v.injEq,Value.int.injEq,true_and];omega))
 have hxe:e.kids.take x=e.kids:=List.take_of_length_le (by simp at ht9;omega)
 have hdd:=Dw e
 refine Z47 ?_;refine Xk ?_;exact K.fin (V.one V.tmp) ⟨by rw [hxe,hdd];simp;omega,rfl⟩

def O0 (s:Str):Int:=if (((s==[108,101,110]) || (s==[115,116,114])) || (s==[110,117,109])) || (s==[105,115,110,117,108,108]) then 1 else if ((s==[110,118,108]) || (s==[108,101,102,116])) || (s==[114,105,103,104,116]) then 2 else if s==[105,102] then 3 else -1
theorem ko (s:Str):B5 s=O0 s:=by
 by_cases h:s∈arityList.map (·.1)
 ·have:((arityList.map (·.1)).all fun s=>decide (B5 s=O0 s))=true:=by kernel_rfl
  exact of_decide_eq_true (List.all_eq_true.1 this s h)
 have h1:B5 s = -1:=by
  unfold B5
  rw [List.find?_eq_none.2 fun p hp=>by
   simp only [beq_iff_eq]
   rintro rfl
   exact h (List.mem_map.2 ⟨p,hp,rfl⟩)]
 rw [h1]
 simp only [arityList,List.map_cons,List.map_nil,List.mem_cons,List.not_mem_nil,or_false,not_or] at h
 obtain ⟨a1,a2,a3,a4,a5,a6,a7,a8⟩:=h
 simp [O0,a1,a2,a3,a4,a5,a6,a7,a8]
theorem ABr (s:Str) (Hp:List AObj):AFun Tryz.prog 205 [Aa s] Hp (A3 (O0 s)):=by
 refine ACall.body [.tmp 2] [0] Tryz.func205 Tryz.ntmps205 (fun d=>?_)
 refine Z46 ?_;refine Z8 ?_;refine R.fin [3] ?_;refine AW.block ?_;refine Z31 ?_;refine R.fin [3,4] ?_
 refine W.cond (fun ht4=>?_) (fun ht4=>?_)
 ·refine Z5 ?_
  refine W.cond (fun ht4=>?_) (fun ht4=>?_)
  ·exact Z45
  refine Z31 ?_;refine R.fin [3,9] ?_
  refine W.cond (fun ht9=>?_) (fun ht9=>?_)
  ·refine Z5 ?_
   refine W.cond (fun ht9=>?_) (fun ht9=>?_)
   ·exact Z45
   refine Z78 ?_
   refine W.cond (fun ht13=>?_) (fun ht13=>?_)
   ·exact Z45
   exact Z87
  refine Z3 ?_;refine R.fin [3,9] ?_
  refine W.cond (fun ht9=>?_) (fun ht9=>?_)
  ·refine Z5 ?_
   refine W.cond (fun ht9=>?_) (fun ht9=>?_)
   ·exact Z45
   refine Z78 ?_
   refine W.cond (fun ht13=>?_) (fun ht13=>?_)
   ·exact Z45
   exact Z87
  refine Z30 ?_;refine t8 ?_
  refine W.cond (fun ht9=>?_) (fun ht9=>?_)
  ·exact Z45
  refine Z78 ?_
  refine W.cond (fun ht13=>?_) (fun ht13=>?_)
  ·exact Z45
  exact Z87
 refine Z3 ?_;refine R.fin [3,4] ?_
 refine W.cond (fun ht4=>?_) (fun ht4=>?_)
 ·refine Z5 ?_
  refine W.cond (fun ht4=>?_) (fun ht4=>?_)
  ·exact Z45
  refine Z31 ?_;refine R.fin [3,9] ?_
  refine W.cond (fun ht9=>?_) (fun ht9=>?_)
  ·refine Z5 ?_
   refine W.cond (fun ht9=>?_) (fun ht9=>?_)
   ·exact Z45
   refine Z78 ?_
   refine W.cond (fun ht13=>?_) (fun ht13=>?_)
   ·exact Z45
   exact Z87
  refine Z3 ?_;refine R.fin [3,9] ?_
  refine W.cond (fun ht9=>?_) (fun ht9=>?_)
  ·refine Z5 ?_
   refine W.cond (fun ht9=>?_) (fun ht9=>?_)
   ·exact Z45
   refine Z78 ?_
   refine W.cond (fun ht13=>?_) (fun ht13=>?_)
   ·exact Z45
   exact Z87
  refine Z30 ?_;refine t8 ?_
  refine W.cond (fun ht9=>?_) (fun ht9=>?_)
  ·exact Z45
  refine Z78 ?_
  refine W.cond (fun ht13=>?_) (fun ht13=>?_)
  ·exact Z45
  exact Z87
 refine Z3 ?_;refine R.fin [3,4] ?_
 refine W.cond (fun ht4=>?_) (fun ht4=>?_)
 ·refine Z5 ?_
  refine W.cond (fun ht4=>?_) (fun ht4=>?_)
  ·exact Z45
  refine Z31 ?_;refine R.fin [3,9] ?_
  refine W.cond (fun ht9=>?_) (fun ht9=>?_)
  ·refine Z5 ?_
   refine W.cond (fun ht9=>?_) (fun ht9=>?_)
   ·exact Z45
   refine Z78 ?_
   refine W.cond (fun ht13=>?_) (fun ht13=>?_)
   ·exact Z45
   exact Z87
  refine Z3 ?_;refine R.fin [3,9] ?_
  refine W.cond (fun ht9=>?_) (fun ht9=>?_)
  ·refine Z5 ?_
   refine W.cond (fun ht9=>?_) (fun ht9=>?_)
   ·exact Z45
   refine Z78 ?_
   refine W.cond (fun ht13=>?_) (fun ht13=>?_)
   ·exact Z45
   exact Z87
  refine Z30 ?_;refine t8 ?_
  refine W.cond (fun ht9=>?_) (fun ht9=>?_)
  ·exact Z45
  refine Z78 ?_
  refine W.cond (fun ht13=>?_) (fun ht13=>?_)
  ·exact Z45
  exact Z87
 refine Z30 ?_;refine R.fin [3,4] ?_;refine K.thN ?_
 refine W.cond (fun ht4=>?_) (fun ht4=>?_)
 ·exact Z45
 refine Z31 ?_;refine R.fin [3,9] ?_
 refine W.cond (fun ht9=>?_) (fun ht9=>?_)
 ·refine Z5 ?_
  refine W.cond (fun ht9=>?_) (fun ht9=>?_)
  ·exact Z45
  refine Z78 ?_
  refine W.cond (fun ht13=>?_) (fun ht13=>?_)
  ·exact Z45
  exact Z87
 refine Z3 ?_;refine R.fin [3,9] ?_
 refine W.cond (fun ht9=>?_) (fun ht9=>?_)
 ·refine Z5 ?_
  refine W.cond (fun ht9=>?_) (fun ht9=>?_)
  ·exact Z45
  refine Z78 ?_
  refine W.cond (fun ht13=>?_) (fun ht13=>?_)
  ·exact Z45
  exact Z87
 refine Z30 ?_;refine t8 ?_
 refine W.cond (fun ht9=>?_) (fun ht9=>?_)
 ·exact Z45
 refine Z78 ?_
 refine W.cond (fun ht13=>?_) (fun ht13=>?_)
 ·exact Z45
 exact Z87

theorem pg {s:Str} {x:Nat} (hx:x<levels.length) (h:levels[x].contains s=true) (h0:∀(j:Nat) (l:List Str),j<x→levels[j]? = some l→l.contains s=false):Ae s=(x:Int):=by
 unfold Ae
 rw [List.findIdx?_eq_some_iff_getElem.2 ⟨hx,h,fun j hj=>by
  have e:=h0 j levels[j] hj (List.getElem?_eq_getElem _)
  show ¬(levels[j].contains s=true)
  rw [e]
  simp⟩]
theorem ph {s:Str} (h0:∀(j:Nat) (l:List Str),j<levels.length→levels[j]? = some l→l.contains s=false):Ae s = -1:=by
 unfold Ae
 rw [List.findIdx?_eq_none_iff.2 fun l hl=>by
  obtain ⟨j,hj⟩:=List.getElem?_of_mem hl
  exact h0 j l (List.getElem?_eq_some_iff.1 hj).1 hj]
theorem cr:levels.length=6:=rfl
theorem Wa {x:Nat} (hx:x<levels.length):levels[x].length≤6:=by
 have:(levels.all fun l=>decide (l.length≤6))=true:=by kernel_rfl
 exact of_decide_eq_true (List.all_eq_true.1 this _ (List.getElem_mem hx))
theorem Te {l:List Str} {s:Str} (h:∀(j:Nat) (w:Str),j<l.length→l[j]? = some w→(w==s)=false):l.contains s=false:=by
 rw [Bool.eq_false_iff]
 intro hc
 have hm:s∈l:=by simpa using hc
 obtain ⟨j,hj⟩:=List.getElem?_of_mem hm
 have:=h j s (List.getElem?_eq_some_iff.1 hj).1 hj
 simp at this
theorem ABs (s:Str) (Hp:List AObj):AFun Tryz.prog 112 [Aa s] Hp (A3 (Ae s)):=by
 refine ACall.body [.tmp 2] [0] Tryz.func112 Tryz.ntmps112 (fun d=>?_)
 refine Z46 ?_;refine E4 ?_;refine xm ?_;refine xm ?_;refine xm ?_;refine Z91 ?_;refine Hu ?_;refine Z8 ?_;refine Qp ?_
 refine AW.loopC (α:=Nat) (fun x=>⟨38,A6 0 (Aa s) (A6 3 (.slice true 1 (levels.map Du)) (A6 4 (A3 (x:Nat)) (fun _=>.any))),Hp,[],[],none⟩) (fun x=>x≤levels.length∧∀(j:Nat) (l:List Str),j<x→levels[j]? = some l→l.contains s=false) (fun x=>levels.length-x) (0) ⟨Nat.zero_le _,fun j l h=>by omega⟩ (StLe.refl _) rfl (fun x hx=>?_)
 refine Z55 ?_;refine R.fin [0,3,4,16] ?_
 refine W.cond (fun ht16=>?_) (fun ht16=>?_)
 ·have hlt:x<levels.length:=by simpa using ht16
  have h6:=cr
  have hls:=Wa hlt
  refine Z44 ?_;refine Z0 ?_;refine R.fin [0,3,4,5] ?_
  refine AW.loopC (α:=Nat) (fun y=>⟨38,A6 0 (Aa s) (A6 3 (.slice true 1 (levels.map Du)) (A6 4 (A3 (x:Nat)) (A6 5 (A3 (y:Nat)) (fun _=>.any)))),Hp,[],[],none⟩) (fun y=>y≤levels[x].length∧∀(j:Nat) (w:Str),j<y→levels[x][j]? = some w→(w==s)=false) (fun y=>levels[x].length-y) (0) ⟨Nat.zero_le _,fun j l h=>by omega⟩ (StLe.refl _) rfl (fun y hy=>?_)
  refine Z22 ?_
  refine R.go (h:=Q.indexAddr (x) (Du levels[x]) (fun _=>Am hlt)) (hr:=?_)
  refine Z6 ?_;refine R.fin [0,3,4,5,25] ?_
  refine W.cond (fun ht25=>?_) (fun ht25=>?_)
  ·have hly:y<levels[x].length:=by simpa using ht25
   refine Vp ?_
   refine R.go (h:=Q.indexAddr (x) (Du levels[x]) (fun _=>Am hlt)) (hr:=?_)
   refine Z1 ?_
   refine R.go (h:=Q.indexAddr (y) (Aa (levels[x])[y]) (fun _=>Am hly)) (hr:=?_)
   refine Z6 ?_;refine R.fin [0,3,4,5,36] ?_
   refine W.cond (fun ht36=>?_) (fun ht36=>?_)
   ·refine Xk ?_;refine Z24 ?_;refine Z32 ?_;exact K.fin (V.one V.tmp) ⟨by rw [pg hlt (by simp only [List.contains_iff_mem];have:=ht36;simp only [beq_iff_eq] at this;rw [←this];exact List.getElem_mem hly) hx.2],rfl⟩
   refine Z58 ?_;refine R.fin [0,3,4,5] ?_;exact K.lpN (y+1) ⟨hly,Az hly hy.2 ht36⟩ (by omega) (StCut.of_eq rfl)
  have hny:levels[x].length≤y:=by simpa using ht25
  refine Z25 ?_;refine K.lpE ?_;refine Z35 ?_;refine Qp ?_;exact K.lpN (x+1) ⟨hlt,Az hlt hx.2 (Te fun j w hj hw=>hy.2 j w (by omega) hw)⟩ (by omega) (StCut.of_eq rfl)
 have hnx:levels.length≤x:=by simpa using ht16
 refine Z47 ?_;refine Z12 ?_;exact K.fin (V.one V.tmp) ⟨by rw [ph (fun j l hj h=>hx.2 j l (by omega) h)],rfl⟩

theorem ADl (e:Expr) (hs:e.text.length≤1048576) (Hp:List AObj):AFun Tryz.prog 177 [A5 e] Hp (Ap (Dx e)):=by
 refine ACall.body [.tmp 2] [0] Tryz.func177 Tryz.ntmps177 (fun d=>?_)
 refine Z54 ?_;refine Z34 ?_;refine R.fin [1,3] ?_;refine Z22 ?_;refine R.fin [1,3,9] ?_
 refine W.cond (fun ht9=>?_) (fun ht9=>?_)
 ·refine Z3 ?_;refine R.call Tryz.call204 (ACt e.val _) ?_;refine R.go ?_;refine Z53 ?_;refine Z29 ?_;refine Z63 ?_;refine Z36 ?_;refine K.thR ?_;exact tg
 refine Z5 ?_;refine Z31 ?_;refine az ?_
 refine R.go (h:=Q.neqAgg nr (Mj e.val.kind e.val.n 0 0 e.val.s [])) (hr:=?_)
 refine R.fin [1,3,31] ?_
 refine W.cond (fun ht31=>?_) (fun ht31=>?_)
 ·refine Z85 ?_;exact tg
 refine Z5 ?_;refine Z31 ?_;refine R.fin [1,3,33] ?_;refine Z69 ?_;refine R.fin [1,3,33,34] ?_
 refine W.cond (fun ht34=>?_) (fun ht34=>?_)
 ·refine Z3 ?_;refine R.call Tryz.call78 (c78 e.text hs _) ?_;refine R.go ?_;refine Z81 ?_;exact Z40
 refine Z31 ?_;refine R.fin [1,3,33,43] ?_
 refine W.cond (fun ht43=>?_) (fun ht43=>?_)
 ·refine Z5 ?_
  refine W.cond (fun ht43=>?_) (fun ht43=>?_)
  ·refine Z34 ?_;refine Z81 ?_;exact Z40
  refine Z3 ?_;refine R.fin [1,3,33,53] ?_
  refine W.cond (fun ht53=>?_) (fun ht53=>?_)
  ·refine xn ?_;refine Z29 ?_;refine Z36 ?_;exact Z40
  refine Z3 ?_;refine R.fin [1,3,63] ?_
  refine W.cond (fun ht63=>?_) (fun ht63=>?_)
  ·refine Z3 ?_;refine R.call Tryz.call205 (ABr e.text _) ?_;refine Z6 ?_;refine Z2 ?_;exact Z40
  exact AA1
 refine Z30 ?_;refine R.fin [1,3,33,43] ?_;refine K.thN ?_
 refine W.cond (fun ht43=>?_) (fun ht43=>?_)
 ·refine Z34 ?_;refine Z81 ?_;exact Z40
 refine Z3 ?_;refine R.fin [1,3,33,53] ?_
 refine W.cond (fun ht53=>?_) (fun ht53=>?_)
 ·refine xn ?_;refine Z29 ?_;refine Z36 ?_;exact Z40
 refine Z3 ?_;refine R.fin [1,3,63] ?_
 refine W.cond (fun ht63=>?_) (fun ht63=>?_)
 ·refine Z3 ?_;refine R.call Tryz.call205 (ABr e.text _) ?_;refine Z6 ?_;refine Z2 ?_;exact Z40
 exact AA1

theorem ADm:∀(n:Nat) (e:Expr),okE n e→∀Hp:List AObj,AFun Tryz.prog 148 [A5 e] Hp (Ap (B0 Dx e)):=by
 intro n
 induction n with
 | zero=>exact fun e h=>h.elim
 | succ n ih =>
 intro e hok Hp
 refine ACall.body [.tmp 2] [0] Tryz.func148 Tryz.ntmps148 (fun d=>?_)
 refine Z54 ?_;refine Z8 ?_;refine R.call Tryz.call177 (ADl e hok.1 _) ?_;refine R.go ?_;refine R.fin [1,6] ?_
 refine W.cond (fun ht6=>?_) (fun ht6=>?_)
 ·refine Z85 ?_;exact K.fin (V.one V.tmp) ⟨by rw [Co];simp at ht6;rw [ht6];rfl,rfl⟩
 refine Mg ?_;refine R.fin [1,3] ?_
 refine AW.loopC (α:=Nat) (fun x=>⟨21,A6 1 (.ro (Cs e)) (A6 3 (A3 (x:Nat)) (fun _=>.any)),Hp,[],[],none⟩) (fun x=>x≤e.kids.length∧Iw Dx (e.kids.take x)=true) (fun x=>e.kids.length-x) (0) ⟨Nat.zero_le _,rfl⟩ (StLe.refl _) rfl (fun x hx=>?_)
 refine Z73 ?_;refine R.fin [1,3,11] ?_
 refine W.cond (fun ht11=>?_) (fun ht11=>?_)
 ·have hlt:x<e.kids.length:=by simpa using ht11
  have hkl:=hok.2.1
  refine T6 ?_
  refine R.go (h:=Q.indexAddr (x) (A5 e.kids[x]) (fun _=>Am hlt)) (hr:=?_)
  refine R.go ?_;refine R.call Tryz.call148 (ih e.kids[x] (hok.2.2 _ (List.getElem_mem hlt)) _) ?_;refine R.go ?_;refine R.fin [1,3,20] ?_
  refine W.cond (fun ht20=>?_) (fun ht20=>?_)
  ·refine Z12 ?_;refine Z32 ?_;exact K.fin (V.one V.tmp) ⟨by rw [show B0 Dx e=false from by rw [Bool.eq_false_iff];intro h;rw [Co,Bool.and_eq_true] at h;have:=(Bv _ _).1 h.2 _ (List.getElem_mem hlt);rw [this] at ht20;cases ht20],rfl⟩
  refine Z58 ?_;refine R.fin [1,3] ?_;exact K.lpN (x+1) ⟨hlt,by rw [List.take_succ_eq_append_getElem hlt,P4,hx.2,Iw,Iw,Bool.and_true,Bool.true_and];simpa using ht20⟩ (by omega) (StCut.of_eq rfl)
 have hxe:e.kids.take x=e.kids:=List.take_of_length_le (by simp at ht11;omega)
 refine Z47 ?_;refine Z12 ?_;exact K.fin (V.one V.tmp) ⟨by have:=hx.2;rw [hxe] at this;rw [Co,this];simp at ht6;rw [ht6];rfl,rfl⟩

theorem pi (e:Expr):B0 Dx e=B0 At e:=by rw [show At=Dx from funext Et]
theorem ADn (n:Nat) (e:Expr) (hok:okE n e) (hn:n≤1048576) (hs:sizeE e≤1048576) (Hp:List AObj):AFun Tryz.prog 110 [A5 e] Hp (Ap (Ax e)):=by
 refine ACall.body [.tmp 2] [0] Tryz.func110 Tryz.ntmps110 (fun d=>?_)
 refine Z54 ?_;refine Z0 ?_;refine R.call Tryz.call146 (ADj n e hok hn _) ?_;refine Z94 ?_;refine G.call Tryz.call147 (fun hB=>ADk n e hok hs _) ?_;refine au ?_;refine G.call Tryz.call148 (fun hB=>ADm n e hok _) ?_;refine Z36 ?_;exact K.fin (V.one V.tmp) ⟨by rw [Ax,pi,show decide ((depthE e:Int)≤30)=decide (depthE e≤30) by rw [decide_eq_decide];omega,show decide ((sizeE e:Int)≤300)=decide (sizeE e≤300) by rw [decide_eq_decide];omega],rfl⟩

set_option maxRecDepth 8000
/-! The document's kinds of trees are infer's. -/
set_option maxRecDepth 4000
theorem f9 {n:Nat} {U F:Nat→List AObj} {H':List AObj} (h:Iv (fun _=>true) U F n H'):H'=U n:=by
 rcases h with ⟨_,h⟩|⟨j,_,_,h,_⟩
 ·exact h
 cases h
theorem kp {α:Type} {l:List α} {k:Nat} {y:α} (h:l[k]? = some y):l.take (k+1)=l.take k++[y]:=by rw [List.take_add_one,h];rfl
theorem pj {L:List (Int×Expr)} {k:Nat} {it:Int×Expr} (h:L[k]? = some it):E1 0 (L.take (k+1))=if E1 0 (L.take k)<it.1 then it.1 else E1 0 (L.take k):=by
 have e:E1 0 (L.take (k+1))=max (E1 0 (L.take k)) it.1:=by
  unfold E1
  rw [kp h,List.foldl_append]
  rfl
 rw [e]
 split<;>omega
theorem Uc {n k:Nat} {o:Bool} {l:List Str}:Low n (.slice o k (l.map Aa)):=by simp [or_imp,forall_and]
theorem ADo (n:Nat) (e:Expr) (hok:okE n e) (hn:n≤1048576) (hs:sizeE e≤1048576) (Hp:List AObj):AFun Tryz.prog 216 [A5 e] Hp (A3 (depthE e:Nat)):=by
 refine ACall.body [.tmp 2] [0,4] Tryz.func216 Tryz.ntmps216 (fun d=>?_)
 refine Z3 ?_;refine R.fin [1,4] ?_;refine E4 ?_;refine Z15 ?_;refine Pj ?_;refine Z76 ?_
 refine R.assumeLow (fun hlow=>?_)
 refine xp ?_;refine R.fin [3,4,6] ?_;refine AW.block ?_
 refine W.rangeV (m:=1) Tryz.call141 (fun FR as' bd' hFR has hbd=>?_)
 have hFRl:∀s,Low (Hp.length+3) (FR s):=by
  intro s
  rw [hFR]
  refine Low.strip ?_
  revert s
  repeat (first|exact C5|refine C4 (by simp [oid,Aj]<;>try omega) ?_)
 have hOl:∀{k:Nat},∀x∈[AObj.cells 3 [A3 (E1 0 ((Au 1 e).take k))],AObj.defs,AObj.loop LoopState.ready none FR 13 #[7,8] as' bd' (oid Hp.length 1)],ObjLow (Hp.length+3) x:=by
  intro k x hx
  simp only [List.mem_cons,List.mem_nil_iff,or_false] at hx
  rcases hx with rfl|rfl|rfl
  ·intro y hy
   rw [List.mem_singleton.1 hy]
   first|exact Uc|simp
  ·trivial
  exact td
 refine ⟨fun _ H'=>Iv (fun _=>true) (fun k=>Hp++[AObj.cells 3 [A3 (E1 0 ((Au 1 e).take k))],AObj.defs,AObj.loop LoopState.ready none FR 13 #[7,8] as' bd' (oid Hp.length 1)]) (fun k=>Hp++[AObj.cells 3 [A3 (E1 0 ((Au 1 e).take k))],AObj.defs,AObj.loop LoopState.ready none FR 13 #[7,8] as' bd' (oid Hp.length 1)]) (Au 1 e).length H',yh (l:=oid Hp.length 2) (go:=fun _=>true) (U:=fun k=>Hp++[AObj.cells 3 [A3 (E1 0 ((Au 1 e).take k))],AObj.defs,AObj.loop LoopState.ready none FR 13 #[7,8] as' bd' (oid Hp.length 1)]) (F:=fun k=>Hp++[AObj.cells 3 [A3 (E1 0 ((Au 1 e).take k))],AObj.defs,AObj.loop LoopState.ready none FR 13 #[7,8] as' bd' (oid Hp.length 1)]) (n0:=Hp.length+3) ⟨fun k=>by simp,fun k=>by simp,fun k x hx=>?_,fun k x hx=>?_,by simp [oid],fun X k it hit hgo=>?_⟩ n hok hn,?_⟩
 ·exact nj
 ·exact nj
 ·have hklt:k<sizeE e:=by rw [←Es 1 e];exact (List.getElem?_eq_some_iff.1 hit).1
  generalize hV:(Hp++[AObj.cells 3 [A3 (E1 0 ((Au 1 e).take k))],AObj.defs,AObj.loop LoopState.ready none FR 13 #[7,8] as' bd' (oid Hp.length 1)]++X)=V
  have hL:V[oid Hp.length 2]? = some (AObj.loop LoopState.ready none FR 13 #[7,8] as' bd' (oid Hp.length 1)):=by rw [←hV,List.append_assoc,Br];rfl
  have hA0:V[oid Hp.length 0]? = some (AObj.cells 3 [A3 (E1 0 ((Au 1 e).take k))]):=by rw [←hV,List.append_assoc,Br];rfl
  refine AYield.ofRound (pd:=none) (fr:=FR) (sz:=13) (ps:=#[7,8]) (df:=oid Hp.length 1) (asg:=as') (bd:=bd') hL rfl (by decide) (fun d=>?_)
  subst hFR has hbd
  refine W.keep [3,7,8] ?_;refine Z66 ?_;refine R.fin [3,4] ?_
  refine ⟨rfl,none,hL,?_⟩
  generalize hbz:(AObj.loop LoopState.busy _ _ _ _ _ _ _)=bz
  have hA:(V.set (oid Hp.length 2) bz)[oid Hp.length 0]? = some (AObj.cells 3 [A3 (E1 0 ((Au 1 e).take k))]):=by rw [List.getElem?_set_ne (F5 (by decide))];exact hA0
  refine AW.block ?_;refine AW.region ?_
  refine R.go (h:=Q.loadUp hA) (hr:=?_)
  refine R.go ?_;refine R.maxI ?_
  refine R.storeUp jS hA ?_ ?_
  ·simp
  refine Z89 ?_
  subst hbz
  refine K.rdN (Xd hL (F5 (by decide))) ?_
  refine ⟨rfl,?_⟩
  rw [if_pos rfl]
  subst hV
  simp only [List.append_assoc,Ie,List.cons_append,List.nil_append,List.set_cons_succ,List.set_cons_zero]
  rw [pj hit]
 intro r H' hq
 obtain rfl:=f9 hq
 refine ⟨Hp,_,_,_,rfl,rfl,fun h=>h,?_,rfl,by simp,?_⟩
 ·intro o ho
  have:o=oid Hp.length 1:=by simpa using ho
  subst this
  rw [Br]
  rfl
 refine Z10 ?_;refine Xk ?_;exact K.fin (V.one V.tmp) ⟨by rw [List.take_length,P6],rfl⟩

theorem ADp (n:Nat) (e:Expr) (hok:okE n e) (hn:n≤1048576) (hs:sizeE e≤1048576) (Hp:List AObj):AFun Tryz.prog 218 [A5 e] Hp (A3 (sizeE e:Nat)):=by
 refine ACall.body [.tmp 2] [0] Tryz.func218 Tryz.ntmps218 (fun d=>?_)
 refine Z54 ?_;refine E4 ?_;refine Z15 ?_;refine R.fin [1,3] ?_;refine Z76 ?_
 refine R.assumeLow (fun hlow=>?_)
 refine xp ?_;refine R.fin [3,5] ?_;refine AW.block ?_
 refine W.rangeV (m:=1) Tryz.call141 (fun FR as' bd' hFR has hbd=>?_)
 have hFRl:∀s,Low (Hp.length+3) (FR s):=by
  intro s
  rw [hFR]
  refine Low.strip ?_
  revert s
  repeat (first|exact C5|refine C4 (by simp [oid,Aj]<;>try omega) ?_)
 have hOl:∀{k:Nat},∀x∈[AObj.cells 3 [A3 ((k:Nat))],AObj.defs,AObj.loop LoopState.ready none FR 11 #[6,7] as' bd' (oid Hp.length 1)],ObjLow (Hp.length+3) x:=by
  intro k x hx
  simp only [List.mem_cons,List.mem_nil_iff,or_false] at hx
  rcases hx with rfl|rfl|rfl
  ·intro y hy
   rw [List.mem_singleton.1 hy]
   first|exact Uc|simp
  ·trivial
  exact td
 refine ⟨fun _ H'=>Iv (fun _=>true) (fun k=>Hp++[AObj.cells 3 [A3 ((k:Nat))],AObj.defs,AObj.loop LoopState.ready none FR 11 #[6,7] as' bd' (oid Hp.length 1)]) (fun k=>Hp++[AObj.cells 3 [A3 ((k:Nat))],AObj.defs,AObj.loop LoopState.ready none FR 11 #[6,7] as' bd' (oid Hp.length 1)]) (Au 1 e).length H',yh (l:=oid Hp.length 2) (go:=fun _=>true) (U:=fun k=>Hp++[AObj.cells 3 [A3 ((k:Nat))],AObj.defs,AObj.loop LoopState.ready none FR 11 #[6,7] as' bd' (oid Hp.length 1)]) (F:=fun k=>Hp++[AObj.cells 3 [A3 ((k:Nat))],AObj.defs,AObj.loop LoopState.ready none FR 11 #[6,7] as' bd' (oid Hp.length 1)]) (n0:=Hp.length+3) ⟨fun k=>by simp,fun k=>by simp,fun k x hx=>?_,fun k x hx=>?_,by simp [oid],fun X k it hit hgo=>?_⟩ n hok hn,?_⟩
 ·exact nj
 ·exact nj
 ·have hklt:k<sizeE e:=by rw [←Es 1 e];exact (List.getElem?_eq_some_iff.1 hit).1
  generalize hV:(Hp++[AObj.cells 3 [A3 ((k:Nat))],AObj.defs,AObj.loop LoopState.ready none FR 11 #[6,7] as' bd' (oid Hp.length 1)]++X)=V
  have hL:V[oid Hp.length 2]? = some (AObj.loop LoopState.ready none FR 11 #[6,7] as' bd' (oid Hp.length 1)):=by rw [←hV,List.append_assoc,Br];rfl
  have hA0:V[oid Hp.length 0]? = some (AObj.cells 3 [A3 ((k:Nat))]):=by rw [←hV,List.append_assoc,Br];rfl
  refine AYield.ofRound (pd:=none) (fr:=FR) (sz:=11) (ps:=#[6,7]) (df:=oid Hp.length 1) (asg:=as') (bd:=bd') hL rfl (by decide) (fun d=>?_)
  subst hFR has hbd
  refine W.keep [3,6,7] ?_;refine AW.skip ?_
  refine ⟨rfl,none,hL,?_⟩
  generalize hbz:(AObj.loop LoopState.busy _ _ _ _ _ _ _)=bz
  have hA:(V.set (oid Hp.length 2) bz)[oid Hp.length 0]? = some (AObj.cells 3 [A3 ((k:Nat))]):=by rw [List.getElem?_set_ne (F5 (by decide))];exact hA0
  refine AW.block ?_;refine AW.region ?_
  refine R.go (h:=Q.loadUp hA) (hr:=?_)
  refine R.go ?_
  refine R.storeUp jS hA ?_ ?_
  ·simp
  refine Z89 ?_
  subst hbz
  refine K.rdN (Xd hL (F5 (by decide))) ?_
  refine ⟨rfl,?_⟩
  rw [if_pos rfl]
  subst hV
  simp only [List.append_assoc,Ie,List.cons_append,List.nil_append,List.set_cons_succ,List.set_cons_zero]
  rfl
 intro r H' hq
 obtain rfl:=f9 hq
 refine ⟨Hp,_,_,_,rfl,rfl,fun h=>h,?_,rfl,by simp,?_⟩
 ·intro o ho
  have:o=oid Hp.length 1:=by simpa using ho
  subst this
  rw [Br]
  rfl
 refine Z10 ?_;refine Xk ?_;exact K.fin (V.one V.tmp) ⟨by rw [Es],rfl⟩

set_option maxRecDepth 8000
abbrev TK:=Int×Str
/-- What stands from word i on. -/
def seg (l:List Tok) (i:Nat):List TK:=(l.drop i).map ktT
theorem Af {l:List Tok} {i:Nat} {k:Int} {t:Str} {r:List TK} (h:seg l i=(k,t)::r):(A7 l i).kind=k∧(A7 l i).text=t∧seg l (i+1)=r∧i<l.length:=by
 unfold seg at h ⊢
 rcases Nat.lt_or_ge i l.length with hi|hi
 ·rw [List.drop_eq_getElem_cons hi,List.map_cons,List.cons.injEq] at h
  have e:A7 l i=l[i]:=by unfold A7;rw [List.getD_eq_getElem?_getD,List.getElem?_eq_getElem hi];rfl
  rw [e]
  have h1:=h.1
  unfold ktT at h1
  rw [Prod.mk.injEq] at h1
  exact ⟨h1.1,h1.2,h.2,hi⟩
 rw [List.drop_of_length_le hi] at h;cases h
theorem B1 {l:List Tok} {i:Nat} {ts rest:List TK} (h:seg l i=ts++rest):seg l (i+ts.length)=rest:=by
 unfold seg at h ⊢
 have:=congrArg (List.drop ts.length) h
 rw [List.drop_left,←List.map_drop,List.drop_drop] at this
 exact this
theorem Bw {l:List Tok} {S:PS} {of:Str} {k:Int} {t:Str} {r:List TK} (h:seg l S.i=(k,t)::r):isM l of S=(((k==5) || (k==2))&&Dh t of):=by
 unfold isM
 rw [(Af h).1,(Af h).2.1]
theorem Wb {l:List Tok} {S:PS} {of:Str} (h:seg l S.i=[]):isM l of S=false:=by
 unfold seg at h
 have hi:l.length≤S.i:=by simpa using h
 unfold isM A7
 rw [List.getD_eq_getElem?_getD,List.getElem?_eq_none hi]
 rfl
theorem pk {w:Str} (hw:(32:UInt8)∉w) (h0:w≠[]) (s:Str):Dh s (32::(w++[32]))=(s==w):=by
 have e:(32::(w++[32]):Str)=Hw [w]:=rfl
 rw [Hc e (fun x hx=>by rw [List.mem_singleton.1 hx];exact hw) s]
 by_cases hs:s=[]
 ·subst hs
  cases w with
  | nil=>exact absurd rfl h0
  | cons a r=>rfl
 have:(s==[])=false:=by simpa using hs
 rw [this,Bool.eq_iff_iff]
 simp
theorem Fq (s:Str):s∈levels.flatten∨(Ae s = -1∧∀l∈levels,l.contains s=false):=by
 by_cases h:s∈levels.flatten
 ·exact .inl h
 have h2:∀l∈levels,l.contains s=false:=fun l hl=>by
  rw [Bool.eq_false_iff]
  intro h3
  exact h (List.mem_flatten.2 ⟨l,hl,by simpa using h3⟩)
 refine .inr ⟨?_,h2⟩
 unfold Ae
 rw [List.findIdx?_eq_none_iff.2 fun l hl=>h2 l hl]
/-- The texts of levels of marks. -/
def ofL (k:Nat):Str:=if k=0 then orT else if k=1 then cm else if k=3 then Rj else if k=4 then cn else Rk
theorem E7 {k:Nat} (hk:k=0∨k=1∨k=3∨k=4∨k=5) (s:Str):Dh s (ofL k)=(Ae s==(k:Int)):=by
 have e:ofL k=Hw (levels.getD k []):=by rcases hk with rfl|rfl|rfl|rfl|rfl<;>kernel_rfl
 have hp:∀w∈levels.getD k [],(32:UInt8)∉w:=by rcases hk with rfl|rfl|rfl|rfl|rfl<;>decide
 have hm:levels.getD k []∈levels:=by rcases hk with rfl|rfl|rfl|rfl|rfl<;>decide
 rw [Hc e hp s]
 rcases Fq s with h|⟨h1,h2⟩
 ·have h3:(levels.flatten.all fun s=>decide ((!(s==[])&&(levels.getD k []).contains s)=(Ae s==(k:Int))))=true:=by rcases hk with rfl|rfl|rfl|rfl|rfl<;>kernel_rfl
  exact of_decide_eq_true (List.all_eq_true.1 h3 s h)
 rw [h2 _ hm,h1,Bool.and_false]
 symm
 rw [beq_eq_false_iff_ne]
 omega
theorem Hz (s:Str) : -1≤Ae s∧Ae s≤5∧Ae s≠2:=by
 rcases Fq s with h|⟨h,_⟩
 ·have h3:(levels.flatten.all fun s=>decide (-1≤Ae s∧Ae s≤5∧Ae s≠2))=true:=by kernel_rfl
  exact of_decide_eq_true (List.all_eq_true.1 h3 s h)
 omega
/-- A row of words behind which no mark of a level, or of a tighter one, stands. -/
def stops (k:Nat) (rest:List TK):Prop:=∀h r,rest=h::r→((h.1==5) || (h.1==2))=true→Ae h.2<(k:Int)∧h.2≠[40]
theorem stops.mono {k k':Nat} {rest:List TK} (h:stops k rest) (hk:k≤k'):stops k' rest:=fun a r e hm=>⟨by have:=(h a r e hm).1;omega,(h a r e hm).2⟩
theorem Hl {l:List Tok} {S:PS} {k:Nat} {rest:List TK} (h:stops k rest) (hs:seg l S.i=rest) (hk:k=0∨k=1∨k=3∨k=4∨k=5):isM l (ofL k) S=false:=by
 cases rest with
 | nil=>exact Wb hs
 | cons a r =>
  obtain ⟨ka,ta⟩:=a
  rw [Bw hs,E7 hk]
  cases hb:((ka==5) || (ka==2)) with
  | false=>rfl
  | true =>
   have:=(h _ _ rfl hb).1
   rw [Bool.true_and,beq_eq_false_iff_ne]
   show Ae ta≠_
   have:Ae ta<(k:Int):=this
   omega
def O1:Str:=[110,111,116]
def levE (e:Expr):Nat:=if e.op==4 then 2 else if e.op==3 then 6 else if e.op==5 then (Ae e.text).toNat else 7
theorem fe (e:Expr):levE e≤7:=by
 have:=Hz e.text
 unfold levE
 repeat' split
 all_goals omega
def Bp (least:Nat) (x:Expr) (T:List TK):List TK:=if least≤levE x then T else (5,[40])::(T++[(5,[41])])
def C9 (least:Nat) (x:Expr) (n:Nat):Nat:=if least≤levE x then n else n+1
def Bx (own:Nat):Nat:=if own=3 then 4 else own
def G9 (v:Val):TK:=if v.kind==1 then (3,Bk v) else if v.kind==2 then (4,v.s) else (2,Bk v)
def opTok (t:Str):TK:=(if E5 (t.headD 0) then 2 else 5,t)
def Ey:List (List TK)→List TK
 | []=>[]
 | T::r=>(5,[44])::(T++Ey r)
def Rr (o:Int) (t:Str) (v:Val) (k:List Expr) (ts:List (List TK)):List TK:=
 if o==1 then [G9 v] else if o==2 then [(1,t)]
 else if o==3 then (5,[45])::Bp 6 (k.getD 0 Ad) (ts.getD 0 [])
 else if o==4 then (2,O1)::Bp 2 (k.getD 0 Ad) (ts.getD 0 [])
 else if o==5 then Bp (Bx (Ae t).toNat) (k.getD 0 Ad) (ts.getD 0 [])++opTok t::Bp ((Ae t).toNat+1) (k.getD 1 Ad) (ts.getD 1 [])
 else (1,t)::(5,[40])::((Ey ts).drop 1++[(5,[41])])
mutual
def A9:Expr→List TK
 | .mk o t v k=>Rr o t v k (Dd k)
def Dd:List Expr→List (List TK)
  | []=>[]
  | e::r=>A9 e::Dd r
 end
def Pk:List Nat→Nat
 | []=>0
 | n::r=>max n (Pk r)
def P8 (o:Int) (t:Str) (k:List Expr) (ns:List Nat):Nat:=
 if o==1 then 0 else if o==2 then 0
 else if o==3 then 1+C9 6 (k.getD 0 Ad) (ns.getD 0 0)
 else if o==4 then 1+C9 2 (k.getD 0 Ad) (ns.getD 0 0)
 else if o==5 then max (C9 (Bx (Ae t).toNat) (k.getD 0 Ad) (ns.getD 0 0)) (C9 ((Ae t).toNat+1) (k.getD 1 Ad) (ns.getD 1 0))
 else 1+Pk ns
mutual
def Ag:Expr→Nat
 | .mk o t v k=>P8 o t k (H6 k)
def H6:List Expr→List Nat
  | []=>[]
  | e::r=>Ag e::H6 r
 end
theorem Ud:∀l,Dd l=l.map A9
 | []=>rfl
 | e::r=>by rw [Dd,Ud r];rfl
theorem ff:∀(l:List Expr),∀y∈l,Ag y≤Pk (H6 l)
 | [],y,h=>by cases h
 | e::r,y,h=>by
  rw [H6,Pk]
  rcases List.mem_cons.1 h with rfl|h
  ·omega
  have:=ff r y h;omega
theorem uz {v:Val} (h:Fy v=true):v=noV:=by
 unfold Fy at h
 simp only [Bool.and_eq_true,beq_iff_eq] at h
 cases v
 simp_all [noV]
/-- What a right node is. -/
inductive NodeC:Expr→Prop
 | val (v:Val) (h:Bd v=true) (h0:0≤v.n):NodeC (Ff v)
 | name (t:Str) (h:E0 t=true):NodeC (Aq t)
 | neg (a:Expr):NodeC (Bq 3 a)
 | no (a:Expr):NodeC (Bq 4 a)
 | bin (t:Str) (a b:Expr) (h:0≤Ae t):NodeC (C6 t a b)
 | call (t:Str) (k:List Expr) (h:B5 t=(k.length:Int)):NodeC (.mk 6 t noV k)
theorem Fh (o:Int) (t:Str) (v:Val) (k:List Expr):Dx (.mk o t v k) =
 if o==1 then ((Bd v&&decide (0≤v.n))&&(t==[]))&&((k.length:Int)==0)
 else if !(Fy v) then false
 else if o==2 then E0 t&&((k.length:Int)==0)
 else if o==3 || o==4 then (t==[])&&((k.length:Int)==1)
 else if o==5 then decide (0≤Ae t)&&((k.length:Int)==2)
 else if o==6 then B5 t==(k.length:Int)
 else false:=rfl
theorem Fi {e:Expr} (h:At e=true):NodeC e:=by
 rw [Et] at h
 cases e with
 | mk o t v k =>
 rw [Fh] at h
 by_cases h1:(o==1)=true
 ·rw [if_pos h1] at h
  simp only [Bool.and_eq_true,beq_iff_eq,decide_eq_true_eq] at h h1
  obtain ⟨⟨⟨a1,a2⟩,a3⟩,a4⟩:=h
  subst h1
  subst a3
  have:k=[]:=by cases k with|nil=>rfl|cons x r=>simp at a4;omega
  subst this
  exact .val v a1 a2
 rw [if_neg h1] at h
 by_cases hb:(!(Fy v))=true
 ·rw [if_pos hb] at h;cases h
 rw [if_neg hb] at h
 have hv:v=noV:=uz (by simpa using hb)
 subst hv
 by_cases h2:(o==2)=true
 ·rw [if_pos h2] at h
  simp only [Bool.and_eq_true,beq_iff_eq] at h h2
  subst h2
  have:k=[]:=by cases k with|nil=>rfl|cons x r=>have:=h.2;simp at this;omega
  subst this
  exact .name t h.1
 rw [if_neg h2] at h
 by_cases h3:(o==3 || o==4)=true
 ·rw [if_pos h3] at h
  simp only [Bool.and_eq_true,Bool.or_eq_true,beq_iff_eq] at h h3
  obtain ⟨rfl,h4⟩:=h
  match k,h4 with
  | [a],_ =>
   rcases h3 with rfl|rfl
   ·exact .neg a
   exact .no a
  | [],h4=>simp at h4
  | _::_::_,h4=>simp at h4;omega
 rw [if_neg h3] at h
 by_cases h5:(o==5)=true
 ·rw [if_pos h5] at h
  simp only [Bool.and_eq_true,beq_iff_eq,decide_eq_true_eq] at h h5
  subst h5
  match k,h.2 with
  | [a,b],_=>exact .bin t a b h.1
  | [],h4=>simp at h4
  | [_],h4=>simp at h4
  | _::_::_::_,h4=>simp at h4;omega
 rw [if_neg h5] at h
 by_cases h6:(o==6)=true
 ·rw [if_pos h6] at h
  simp only [beq_iff_eq] at h h6
  subst h6
  exact .call t k h
 rw [if_neg h6] at h;cases h
/-- The functions of the levels. -/
def pf (l:List Tok) (D:Fam):Nat→PS→Expr×PS
 | 0=>L4 l D
 | 1=>Rm l D
 | 2=>Gq l D
 | 3=>Bg l D
 | 4=>Bo l D
 | 5=>Rl l D
 | 6=>Gp l D
 | _=>Cj l D
abbrev fam (l:List Tok) (n:Nat):Fam:=C1 l (30-n)
theorem Gr {l:List Tok} {n:Nat} (h:n<30):fam l n=⟨pf l (fam l (n+1)) 0,pf l (fam l (n+1)) 2,pf l (fam l (n+1)) 6⟩:=by
 unfold fam
 rw [show 30-n=(30-(n+1))+1 by omega]
 rfl
def adv (S:PS) (n:Nat):PS:=⟨S.i+n,S.nest,S.code,S.at_⟩
theorem Fa (S:PS) (a b:Nat):adv (adv S a) b=adv S (a+b):=by unfold adv;simp [Nat.add_assoc]
theorem Gs (S:PS):A2 S=adv S 1:=rfl
/-- A level is as the tighter one, where nothing of it stands. -/
theorem v6 {l:List Tok} {D:Fam} {k:Nat} (hk:k≤6) {S:PS} {x:Expr} {n:Nat} {rest:List TK} (h:pf l D (k+1) S=(x,adv S n)) (h0:S.code=0) (hs:seg l (S.i+n)=rest) (hst:stops k rest) (hnot:k=2→isM l W8 S=false) (hneg:k=6→isM l W9 S=false):pf l D k S=(x,adv S n):=by
 have hl:∀of:Str,isM l of (adv S n)=false→∀m,Eu l of (pf l D (k+1)) m (x,adv S n)=(x,adv S n):=fun of ho m=>by
  cases m with
  | zero=>rfl
  | succ m=>rw [Eu,if_neg (by rw [ho];simp)]
 have left:∀of:Str,isM l of (adv S n)=false→Ci l of (pf l D (k+1)) S=(x,adv S n):=fun of ho=>by
  unfold Ci
  rw [h]
  exact hl of ho _
 match k,hk with
 | 0,_=>exact left orT (Hl (k:=0) hst hs (by omega))
 | 1,_=>exact left cm (Hl (k:=1) hst hs (by omega))
 | 2,_ =>
  show Gq l D S=_
  unfold Gq
  rw [hnot rfl]
  exact h
 | 3,_ =>
  show Bg l D S=_
  have h':Bo l D S=(x,adv S n):=h
  unfold Bg
  rw [h',if_pos (by rw [show isM l Rj (adv S n)=false from Hl (k:=3) hst hs (by omega)];simp)]
 | 4,_=>exact left cn (Hl (k:=4) hst hs (by omega))
 | 5,_=>exact left Rk (Hl (k:=5) hst hs (by omega))
 | 6,_ =>
  show Gp l D S=_
  unfold Gp
  rw [hneg rfl]
  exact h
theorem Wc {l:List Tok} {D:Fam} {S:PS} {x:Expr} {n:Nat} {rest:List TK} (h0:S.code=0) (hs:seg l (S.i+n)=rest):∀(m k j:Nat),k+m=j→j≤7→pf l D j S=(x,adv S n)→stops k rest→(3≤j→isM l W8 S=false)→(7≤j→isM l W9 S=false)→pf l D k S=(x,adv S n)
 | 0,k,j,e,_,h,_,_,_=>by rw [show k=j by omega];exact h
 | m+1,k,j,e,hj,h,hst,h1,h2=>v6 (by omega) (Wc h0 hs m (k+1) j (by omega) hj h (hst.mono (by omega)) h1 h2) h0 hs hst (fun _=>h1 (by omega)) (fun _=>h2 (by omega))
def T1 (l:List Tok) (x:Expr):Prop:=∀(k:Nat) (S:PS) (rest:List TK),k≤levE x→S.code=0→S.nest+Ag x≤30→seg l S.i=A9 x++rest→stops k rest→pf l (fam l S.nest) k S=(x,adv S (A9 x).length)
def T2 (l:List Tok) (x:Expr):Prop:=∀(k:Nat) (S:PS) (rest:List TK),(k=0∨k=1∨k=4∨k=5)→k≤levE x→S.code=0→S.nest+Ag x≤30→seg l S.i=A9 x++rest→stops (k+1) rest →
 ∃n,l.length≤S.i+(A9 x).length+n∧Ci l (ofL k) (pf l (fam l S.nest) (k+1)) S=Eu l (ofL k) (pf l (fam l S.nest) (k+1)) n (x,adv S (A9 x).length)
theorem Mv (s w:Str) (h1:(32:UInt8)∉w) (h2:w≠[]) {of:Str} (h:of=32::(w++[32])):Dh s of=(s==w):=by rw [h];exact pk h1 h2 s
theorem Rt (s:Str):Dh s W8=(s==O1):=Mv s O1 (by decide) (by decide) rfl
theorem Ru (s:Str):Dh s W9=(s==[45]):=Mv s [45] (by decide) (by decide) rfl
theorem Ye (s:Str):Dh s opT=(s==[40]):=Mv s [40] (by decide) (by decide) rfl
theorem Rv (s:Str):Dh s Ji=(s==[44]):=Mv s [44] (by decide) (by decide) rfl
def litWords:List Str:=[[116,114,117,101],[102,97,108,115,101],[110,117,108,108]]
theorem Wd (s:Str):Dh s Mt=(!(s==[])&&litWords.contains s):=Hc (show Mt=Hw litWords by kernel_rfl) (by decide) s
/-- In brackets. -/
theorem pm {l:List Tok} {y:Expr} (hy:T1 l y) {S:PS} {rest:List TK} (h0:S.code=0) (hn:S.nest+(Ag y+1)≤30) (hs:seg l S.i=((5,[40])::(A9 y++[(5,[41])]))++rest):
  pf l (fam l S.nest) 7 S=(y,adv S ((5,[40])::(A9 y++[((5,[41]):TK)])).length):=by
 have hs':seg l S.i=(5,[40])::(A9 y++(5,[41])::rest):=by rw [hs];simp
 obtain ⟨k1,t1,r1,i1⟩:=Af hs'
 have e1:isM l Mt S=false:=by rw [Bw hs',Wd];decide
 have e2:isM l opT S=true:=by rw [Bw hs',Ye];decide
 show Cj l (fam l S.nest) S=_
 unfold Cj
 rw [if_neg (by rw [h0];decide),k1,e1,if_neg (by decide),if_neg (by decide),if_neg (by decide),if_pos e2]
 have hw:Ak (A7 l S.i).at_ (fam l S.nest).ei (A2 S)=(y,adv (A2 S) (A9 y).length):=by
  unfold Ak
  rw [if_neg (by show ¬(((S.nest:Int)==30)=true);simp;omega),Gr (by omega)]
  have:=hy 0 (Al (A2 S)) ((5,[41])::rest) (Nat.zero_le _) h0 (by show S.nest+1+Ag y≤30;omega) r1 (fun h r e hm=>by
   injection e with e _
   subst e
   exact ⟨by decide,by decide⟩)
  show ((pf l (fam l (S.nest+1)) 0 (Al (A2 S))).1,Lm (pf l (fam l (S.nest+1)) 0 (Al (A2 S))).2)=_
  have this':pf l (fam l (S.nest+1)) 0 (Al (A2 S))=(y,adv (Al (A2 S)) (A9 y).length):=this
  rw [this']
  rfl
 rw [hw]
 have r2:=B1 r1
 have hc:Ce l D0 (adv (A2 S) (A9 y).length)=adv (A2 S) ((A9 y).length+1):=by
  obtain ⟨k2,t2,_,_⟩:=Af r2
  unfold Ce
  rw [if_neg (by show ¬((S.code != 0)=true);rw [h0];decide)]
  have k2':(A7 l (adv (A2 S) (A9 y).length).i).kind=5:=k2
  have t2':(A7 l (adv (A2 S) (A9 y).length).i).text=[41]:=t2
  rw [k2',t2',if_neg (by decide)]
  rfl
 show (y,Ce l D0 (adv (A2 S) (A9 y).length))=_
 rw [hc,Gs,Fa]
 congr 2
 simp
 omega
/-- A kid at a level. -/
theorem Ki {l:List Tok} {y:Expr} (hy:T1 l y) {k:Nat} (hk:k≤7) {S:PS} {rest:List TK} (h0:S.code=0) (hn:S.nest+C9 k y (Ag y)≤30) (hs:seg l S.i=Bp k y (A9 y)++rest) (hst:stops k rest):
  pf l (fam l S.nest) k S=(y,adv S (Bp k y (A9 y)).length):=by
 unfold Bp at hs ⊢
 unfold C9 at hn
 by_cases hl:k≤levE y
 ·rw [if_pos hl] at hs hn ⊢
  exact hy k S rest hl h0 hn hs hst
 rw [if_neg hl] at hs hn ⊢
 have hs':seg l S.i=(5,[40])::(A9 y++(5,[41])::rest):=by rw [hs];simp
 exact Wc h0 (B1 hs) (7-k) k 7 (by omega) (Nat.le_refl _) (pm hy h0 (by omega) hs) hst (fun _=>by rw [Bw hs',Rt];decide) (fun _=>by rw [Bw hs',Ru];decide)
theorem Rw (v:Val):A9 (Ff v)=[G9 v]:=by simp [Ff,A9,Rr]
theorem O2 (t:Str):A9 (Aq t)=[(1,t)]:=by simp [Aq,A9,Rr]
theorem Mw (a:Expr):A9 (Bq 3 a)=(5,[45])::Bp 6 a (A9 a):=by simp [Bq,A9,Dd,Rr]
theorem Ps (a:Expr):A9 (Bq 4 a)=(2,O1)::Bp 2 a (A9 a):=by simp [Bq,A9,Dd,Rr]
theorem Ix (t:Str) (a b:Expr):A9 (C6 t a b)=Bp (Bx (Ae t).toNat) a (A9 a)++opTok t::Bp ((Ae t).toNat+1) b (A9 b):=by simp [C6,A9,Dd,Rr]
theorem L5 (t:Str) (k:List Expr):A9 (.mk 6 t noV k)=(1,t)::(5,[40])::((Ey (Dd k)).drop 1++[(5,[41])]):=by simp [A9,Rr]
theorem Rx (v:Val):Ag (Ff v)=0:=by simp [Ff,Ag,P8]
theorem Ue (t:Str):Ag (Aq t)=0:=by simp [Aq,Ag,P8]
theorem Ry (a:Expr):Ag (Bq 3 a)=1+C9 6 a (Ag a):=by simp [Bq,Ag,H6,P8]
theorem We (a:Expr):Ag (Bq 4 a)=1+C9 2 a (Ag a):=by simp [Bq,Ag,H6,P8]
theorem Iy (t:Str) (a b:Expr):Ag (C6 t a b)=max (C9 (Bx (Ae t).toNat) a (Ag a)) (C9 ((Ae t).toNat+1) b (Ag b)):=by simp [C6,Ag,H6,P8]
theorem O3 (t:Str) (k:List Expr):Ag (.mk 6 t noV k)=1+Pk (H6 k):=by simp [Ag,P8]
theorem Pt (v:Val):levE (Ff v)=7:=by simp [levE,Ff,Expr.op]
theorem Rz (t:Str):levE (Aq t)=7:=by simp [levE,Aq,Expr.op]
theorem L6 (a:Expr):levE (Bq 3 a)=6:=by simp [levE,Bq,Expr.op]
theorem O4 (a:Expr):levE (Bq 4 a)=2:=by simp [levE,Bq,Expr.op]
theorem Jj (t:Str) (a b:Expr):levE (C6 t a b)=(Ae t).toNat:=by simp [levE,C6,Expr.op,Expr.text]
theorem Kj (t:Str) (k:List Expr):levE (.mk 6 t noV k)=7:=by simp [levE,Expr.op]
/-- What a right value is. -/
theorem Ih {v:Val} (h:Bd v=true):v=⟨0,0,[]⟩∨v=⟨1,v.n,[]⟩∨(v=⟨2,0,v.s⟩∧v.s.length≤200)∨v=⟨3,0,[]⟩∨v=⟨3,1,[]⟩:=by
 obtain ⟨k,n,s⟩:=v
 unfold Bd at h
 simp only at h
 split at h
 ·rename_i h1
  simp only [Bool.and_eq_true,beq_iff_eq] at h h1
  obtain ⟨rfl,rfl⟩:=h
  subst h1
  exact .inl rfl
 split at h
 ·rename_i h1
  simp only [beq_iff_eq] at h h1
  subst h h1
  exact .inr (.inl rfl)
 split at h
 ·rename_i h1
  simp only [Bool.and_eq_true,beq_iff_eq,decide_eq_true_eq] at h h1
  obtain ⟨rfl,h3⟩:=h
  subst h1
  exact .inr (.inr (.inl ⟨rfl,by show s.length≤200;omega⟩))
 simp only [Bool.and_eq_true,beq_iff_eq,decide_eq_true_eq] at h
 obtain ⟨⟨⟨rfl,rfl⟩,h3⟩,h4⟩:=h
 have:n=0∨n=1:=by omega
 rcases this with rfl|rfl
 ·exact .inr (.inr (.inr (.inl rfl)))
 exact .inr (.inr (.inr (.inr rfl)))
def ct (h:TK) (w:Str):Bool:=((h.1==5) || (h.1==2))&&(h.2==w)
theorem Yf:∀(n:Nat) (x:Expr),sizeE x≤n→B0 At x=true→∃h r,A9 x=h::r∧(3≤levE x→ct h O1=false)∧(7≤levE x→ct h [45]=false)
 | 0,x,hn,_=>by rw [Dw] at hn;omega
 | n+1,x,hn,hx=>by
  rw [Co,Bool.and_eq_true] at hx
  obtain ⟨h1,h2⟩:=hx
  cases Fi h1 with
  | val v hv h0 =>
   rw [Rw]
   refine ⟨_,_,rfl,fun _=>?_,fun _=>?_⟩<;>rcases Ih hv with e|e|⟨e,_⟩|e|e<;>rw [e]<;>first|rfl|kernel_rfl
  | name t ht=>rw [O2];exact ⟨_,_,rfl,fun _=>rfl,fun _=>rfl⟩
  | neg a=>rw [Mw,L6];exact ⟨_,_,rfl,fun _=>by decide,fun h=>by omega⟩
  | no a=>rw [Ps,O4];exact ⟨_,_,rfl,fun h=>by omega,fun h=>by omega⟩
  | call t k hk=>rw [L5];exact ⟨_,_,rfl,fun _=>rfl,fun _=>rfl⟩
  | bin t a b ht =>
   rw [Ix,Jj]
   have hlv:=Hz t
   have ha:sizeE a≤n:=by
    rw [Dw] at hn
    have:B6 [a,b]≤n:=by have:(C6 t a b).kids=[a,b]:=rfl;rw [this] at hn;omega
    simp [B6] at this
    omega
   have hxa:B0 At a=true:=(Bv _ _).1 h2 a (by simp [C6,Expr.kids])
   obtain ⟨h,r,e,g1,g2⟩:=Yf n a ha hxa
   unfold Bp
   split
   ·rename_i hl
    rw [e]
    refine ⟨h,_,rfl,fun h3=>g1 ?_,fun h7=>by omega⟩
    unfold Bx at hl
    split at hl<;>omega
   exact ⟨_,_,rfl,fun _=>by decide,fun h7=>by omega⟩
theorem fg {l:List Tok} {S:PS} {x:Expr} {rest:List TK} (hx:B0 At x=true) (hs:seg l S.i=A9 x++rest):(3≤levE x→isM l W8 S=false)∧(7≤levE x→isM l W9 S=false):=by
 obtain ⟨⟨k,t⟩,r,e,g1,g2⟩:=Yf _ x (Nat.le_refl _) hx
 rw [e] at hs
 refine ⟨fun h=>?_,fun h=>?_⟩
 ·rw [Bw (r:=r++rest) hs,Rt];exact g1 h
 rw [Bw (r:=r++rest) hs,Ru];exact g2 h
/-- From a tree's own level to all. -/
theorem kq {l:List Tok} {x:Expr} (hx:B0 At x=true) (hA:∀(S:PS) (rest:List TK),S.code=0→S.nest+Ag x≤30→seg l S.i=A9 x++rest→stops (levE x) rest→pf l (fam l S.nest) (levE x) S=(x,adv S (A9 x).length))
  (hB:∀(S:PS) (rest:List TK),(levE x=0∨levE x=1∨levE x=4∨levE x=5)→S.code=0→S.nest+Ag x≤30→seg l S.i=A9 x++rest→stops (levE x+1) rest →
   ∃n,l.length≤S.i+(A9 x).length+n∧Ci l (ofL (levE x)) (pf l (fam l S.nest) (levE x+1)) S=Eu l (ofL (levE x)) (pf l (fam l S.nest) (levE x+1)) n (x,adv S (A9 x).length)):T1 l x∧T2 l x:=by
 have h1:T1 l x:=fun k S rest hk h0 hn hs hst=>by
  obtain ⟨g1,g2⟩:=fg hx hs
  exact Wc h0 (B1 hs) (levE x-k) k (levE x) (by omega) (fe x) (hA S rest h0 hn hs (hst.mono hk)) hst g1 g2
 refine ⟨h1,fun k S rest hk hkl h0 hn hs hst=>?_⟩
 rcases Nat.lt_or_ge k (levE x) with h|h
 ·refine ⟨l.length,by omega,?_⟩
  unfold Ci
  rw [h1 (k+1) S rest h h0 hn hs hst]
 obtain rfl:k=levE x:=by omega
 exact hB S rest hk h0 hn hs hst
theorem Kk {k:Nat} (hk:k=0∨k=1∨k=4∨k=5):k=0∨k=1∨k=3∨k=4∨k=5:=by omega
theorem fh {l:List Tok} {D:Fam} {k:Nat} (hk:k=0∨k=1∨k=4∨k=5):pf l D k=Ci l (ofL k) (pf l D (k+1)):=by rcases hk with rfl|rfl|rfl|rfl<;>rfl
theorem Gt {t:Str} {k:Nat} {r:List TK} (h0:0≤Ae t) (hk:Ae t<(k:Int)):stops k (opTok t::r):=fun h r' e _=>by
 injection e with e _
 subst e
 exact ⟨hk,fun e=>by have:t=[40]:=e;subst this;revert h0;decide⟩
theorem fj {l:List Tok} {S:PS} {t:Str} {r:List TK} {of:Str} (hs:seg l S.i=opTok t::r):isM l of S=Dh t of:=by
 have:=Bw (of:=of) (k:=if E5 (t.headD 0) then 2 else 5) (t:=t) hs
 rw [this]
 split<;>simp
theorem O5 {e:Expr} {n:Nat} (h:sizeE e≤n+1) {y:Expr} (hy:y∈e.kids):sizeE y≤n:=by
 rw [Dw] at h
 obtain ⟨i,hi,rfl⟩:=List.getElem_of_mem hy
 have:=Ns e.kids hi
 omega
theorem ABt {l:List Tok} {t:Str} {a b:Expr} (ht:0≤Ae t) (hx:B0 At (C6 t a b)=true) (ha:T1 l a∧T2 l a) (hb:T1 l b):T1 l (C6 t a b)∧T2 l (C6 t a b):=by
 have hlv:=Hz t
 obtain ⟨own,hown⟩:∃own,own=(Ae t).toNat:=⟨_,rfl⟩
 have hoi:Ae t=(own:Int):=by omega
 have hB:∀(S:PS) (rest:List TK),(own=0∨own=1∨own=4∨own=5)→S.code=0→S.nest+Ag (C6 t a b)≤30→seg l S.i=A9 (C6 t a b)++rest→stops (own+1) rest →
   ∃n,l.length≤S.i+(A9 (C6 t a b)).length+n∧Ci l (ofL own) (pf l (fam l S.nest) (own+1)) S=Eu l (ofL own) (pf l (fam l S.nest) (own+1)) n (C6 t a b,adv S (A9 (C6 t a b)).length):=by
  intro S rest hl h0 hn hs hst
  rw [Ix,←hown,show Bx own=own by unfold Bx;split<;>omega] at hs ⊢
  rw [Iy,←hown,show Bx own=own by unfold Bx;split<;>omega] at hn
  have hs':seg l S.i=Bp own a (A9 a)++(opTok t::(Bp (own+1) b (A9 b)++rest)):=by rw [hs];simp
  have hna:S.nest+C9 own a (Ag a)≤30:=by omega
  have hRA:∃n,l.length≤S.i+(Bp own a (A9 a)).length+n∧Ci l (ofL own) (pf l (fam l S.nest) (own+1)) S=Eu l (ofL own) (pf l (fam l S.nest) (own+1)) n (a,adv S (Bp own a (A9 a)).length):=by
   by_cases hla:own≤levE a
   ·have e1:Bp own a (A9 a)=A9 a:=if_pos hla
    have e2:C9 own a (Ag a)=Ag a:=if_pos hla
    rw [e1] at hs' ⊢
    rw [e2] at hna
    exact AB1
   have e1:Bp own a (A9 a)=Bp (own+1) a (A9 a):=by unfold Bp;rw [if_neg hla,if_neg (by omega)]
   have e2:C9 own a (Ag a)=C9 (own+1) a (Ag a):=by unfold C9;rw [if_neg hla,if_neg (by omega)]
   rw [e1] at hs' ⊢
   rw [e2] at hna
   refine ⟨l.length,by omega,?_⟩
   unfold Ci
   rw [Ki ha.1 (by omega) h0 hna hs' (Gt ht (by omega))]
  obtain ⟨n,hn1,hn2⟩:=hRA
  have s1:=B1 hs'
  have s1':seg l (adv S (Bp own a (A9 a)).length).i=opTok t::(Bp (own+1) b (A9 b)++rest):=s1
  obtain ⟨_,tx,s2,i1⟩:=Af s1'
  obtain ⟨m,rfl⟩:∃m,n=m+1:=⟨n-1,by have:S.i+(Bp own a (A9 a)).length<l.length:=i1;omega⟩
  refine ⟨m,by simp only [List.length_append,List.length_cons];omega,?_⟩
  rw [hn2,Eu,if_pos (by
   show (((adv S (Bp own a (A9 a)).length).code==0)&&isM l (ofL own) (adv S (Bp own a (A9 a)).length))=true
   rw [fj s1',E7 (Kk hl),hoi]
   show ((S.code==0)&&_)=true
   rw [h0]
   simp)]
  have hk:=Ki (l:=l) (S:=adv S ((Bp own a (A9 a)).length+1)) hb (k:=own+1) (by omega) h0 (show S.nest+C9 (own+1) b (Ag b)≤30 by omega) s2 hst
  have e3:A2 (adv S (Bp own a (A9 a)).length)=adv S ((Bp own a (A9 a)).length+1):=by rw [Gs,Fa]
  show Eu l (ofL own) _ m (C6 (A7 l (adv S (Bp own a (A9 a)).length).i).text a (pf l (fam l S.nest) (own+1) (A2 (adv S (Bp own a (A9 a)).length))).1,(pf l (fam l S.nest) (own+1) (A2 (adv S (Bp own a (A9 a)).length))).2)=_
  rw [e3,tx,show pf l (fam l S.nest) (own+1) (adv S ((Bp own a (A9 a)).length+1))=_ from hk,Fa]
  exact congrArg (fun n=>Eu l (ofL own) (pf l (fam l S.nest) (own+1)) m (C6 t a b,adv S n)) (by simp only [List.length_append,List.length_cons];omega)
 refine kq hx ?_ ?_
 ·rw [Jj,←hown]
  intro S rest h0 hn hs hst
  by_cases h3:own=3
  ·subst h3
   rw [Ix,←hown] at hs ⊢
   rw [Iy,←hown] at hn
   have e4:Bx 3=4:=rfl
   rw [e4] at hs hn ⊢
   have hn4:S.nest+max (C9 4 a (Ag a)) (C9 4 b (Ag b))≤30:=hn
   have hs':seg l S.i=Bp 4 a (A9 a)++(opTok t::(Bp 4 b (A9 b)++rest)):=by rw [hs];simp
   have h1:Bo l (fam l S.nest) S=(a,adv S (Bp 4 a (A9 a)).length):=Ki (k:=4) ha.1 (by omega) h0 (by omega) hs' (Gt ht (by omega))
   have s1:seg l (adv S (Bp 4 a (A9 a)).length).i=opTok t::(Bp 4 b (A9 b)++rest):=B1 hs'
   obtain ⟨_,tx,s2,i1⟩:=Af s1
   have h2:isM l Rj (adv S (Bp 4 a (A9 a)).length)=true:=by
    rw [fj s1,show Rj=ofL 3 from rfl,E7 (by omega),hoi]
    rfl
   have h4:Bo l (fam l S.nest) (adv S ((Bp 4 a (A9 a)).length+1))=_:=Ki (l:=l) (S:=adv S ((Bp 4 a (A9 a)).length+1)) hb (k:=4) (by omega) h0 (show S.nest+C9 4 b (Ag b)≤30 by omega) s2 (hst.mono (by omega))
   show Bg l (fam l S.nest) S=_
   unfold Bg
   rw [h1,if_neg (by rw [h2];show ¬(((S.code != 0) || _)=true);rw [h0];decide),Gs,Fa,h4,tx,Fa]
   refine Prod.ext rfl ?_
   show adv S _=adv S (Bp 4 a (A9 a)++opTok t::Bp 4 b (A9 b)).length
   congr 1
   simp only [List.length_append,List.length_cons]
   omega
  have hl:own=0∨own=1∨own=4∨own=5:=by omega
  obtain ⟨n,_,h⟩:=hB S rest hl h0 hn hs (hst.mono (by omega))
  rw [fh hl,h]
  have hf:isM l (ofL own) (adv S (A9 (C6 t a b)).length)=false:=Hl hst (B1 hs) (Kk hl)
  cases n with
  | zero=>rfl
  | succ n=>rw [Eu,if_neg (by rw [hf];simp)]
 rw [Jj,←hown]
 exact hB
theorem ABu {l:List Tok} {a:Expr} (hx:B0 At (Bq 3 a)=true) (ha:T1 l a):T1 l (Bq 3 a)∧T2 l (Bq 3 a):=by
 refine kq hx ?_ (fun S rest h=>by rw [L6] at h;omega)
 rw [L6,Mw,Ry]
 intro S rest h0 hn hs hst
 obtain ⟨_,_,s1,_⟩:=Af hs
 show Gp l (fam l S.nest) S=_
 unfold Gp
 rw [if_neg (by rw [Bw hs,Ru];decide)]
 have hk:=Ki (l:=l) (S:=Al (A2 S)) ha (k:=6) (by omega) h0 (show S.nest+1+C9 6 a (Ag a)≤30 by omega) s1 hst
 have hw:Ak (A7 l S.i).at_ (fam l S.nest).ne (A2 S)=(a,adv (A2 S) (Bp 6 a (A9 a)).length):=by
  unfold Ak
  rw [if_neg (by show ¬(((S.nest:Int)==30)=true);simp;omega),Gr (by omega)]
  show ((pf l (fam l (S.nest+1)) 6 (Al (A2 S))).1,Lm (pf l (fam l (S.nest+1)) 6 (Al (A2 S))).2)=_
  rw [show pf l (fam l (S.nest+1)) 6 (Al (A2 S))=_ from hk]
  rfl
 rw [hw,Gs,Fa]
 exact congrArg (fun n=>(Bq 3 a,adv S n)) (by simp only [List.length_cons];omega)
theorem ADq {l:List Tok} {a:Expr} (hx:B0 At (Bq 4 a)=true) (ha:T1 l a):T1 l (Bq 4 a)∧T2 l (Bq 4 a):=by
 refine kq hx ?_ (fun S rest h=>by rw [O4] at h;omega)
 rw [O4,Ps,We]
 intro S rest h0 hn hs hst
 obtain ⟨_,_,s1,_⟩:=Af hs
 show Gq l (fam l S.nest) S=_
 unfold Gq
 rw [if_neg (by rw [Bw hs,Rt];decide)]
 have hk:=Ki (l:=l) (S:=Al (A2 S)) ha (k:=2) (by omega) h0 (show S.nest+1+C9 2 a (Ag a)≤30 by omega) s1 hst
 have hw:Ak (A7 l S.i).at_ (fam l S.nest).no (A2 S)=(a,adv (A2 S) (Bp 2 a (A9 a)).length):=by
  unfold Ak
  rw [if_neg (by show ¬(((S.nest:Int)==30)=true);simp;omega),Gr (by omega)]
  show ((pf l (fam l (S.nest+1)) 2 (Al (A2 S))).1,Lm (pf l (fam l (S.nest+1)) 2 (Al (A2 S))).2)=_
  rw [show pf l (fam l (S.nest+1)) 2 (Al (A2 S))=_ from hk]
  rfl
 rw [hw,Gs,Fa]
 exact congrArg (fun n=>(Bq 4 a,adv S n)) (by simp only [List.length_cons];omega)
theorem yl {l:List Tok} {t:Str} (hx:B0 At (Aq t)=true):T1 l (Aq t)∧T2 l (Aq t):=by
 refine kq hx ?_ (fun S rest h=>by rw [Rz] at h;omega)
 rw [Rz,O2]
 intro S rest h0 hn hs hst
 obtain ⟨k1,t1,s1,_⟩:=Af (show seg l S.i=(1,t)::rest from hs)
 show Cj l (fam l S.nest) S=_
 have e1:isM l Mt S=false:=by rw [Bw (show seg l S.i=(1,t)::rest from hs)];rfl
 have e2:isM l opT (A2 S)=false:=by
  cases rest with
  | nil=>exact Wb s1
  | cons h r =>
   obtain ⟨k2,t2⟩:=h
   rw [Bw (show seg l (A2 S).i=(k2,t2)::r from s1),Ye]
   cases hb:((k2==5) || (k2==2)) with
   | false=>rfl
   | true =>
    have:t2≠[40]:=(hst _ _ rfl hb).2
    rw [Bool.true_and,beq_eq_false_iff_ne]
    exact this
 unfold Cj
 rw [if_neg (by rw [h0];decide),k1,e1,if_neg (by decide),if_neg (by decide),if_pos (by decide),e2,if_neg (by decide),t1]
 rfl
/-- Kids behind commas. -/
theorem pq {l:List Tok} {nst:Nat} {rest:List TK} (hst:stops 0 rest) (hc:∀h r,rest=h::r→ct h [44]=false):∀(ks:List Expr),(∀y∈ks,T1 l y)→∀(acc:List Expr) (S:PS) (n:Nat),S.nest=nst→S.code=0→(∀y∈ks,nst+Ag y≤30)→seg l S.i=Ey (Dd ks)++rest→l.length≤S.i+n →
  argsF l (pf l (fam l nst) 0) n (acc,S)=(acc++ks,adv S (Ey (Dd ks)).length)
 | [],_,acc,S,n,hN,h0,_,hs,_=>by
  have hf:isM l Ji S=false:=by
   have hs':seg l S.i=rest:=hs
   cases rest with
   | nil=>exact Wb hs'
   | cons h r=>obtain ⟨k2,t2⟩:=h;rw [Bw hs',Rv];exact hc _ _ rfl
  cases n with
  | zero=>rw [argsF,List.append_nil];rfl
  | succ n=>rw [argsF,if_neg (by rw [hf];simp),List.append_nil];rfl
 | y::ks,hT,acc,S,n,hN,h0,hnd,hs,hn=>by
  have hs':seg l S.i=(5,[44])::(A9 y++(Ey (Dd ks)++rest)):=by rw [hs];simp [Dd,Ey]
  obtain ⟨_,_,s1,i1⟩:=Af hs'
  obtain ⟨m,rfl⟩:∃m,n=m+1:=⟨n-1,by omega⟩
  have hy:=hT y (by simp) 0 (A2 S) (Ey (Dd ks)++rest) (Nat.zero_le _) h0 (by have:=hnd y (by simp);show S.nest+_≤30;omega) s1 (by
   cases ks with
   | nil=>exact hst
   | cons z ks =>
    intro h r e _
    injection e with e _
    subst e
    exact ⟨by decide,by decide⟩)
  have hy':pf l (fam l nst) 0 (A2 S)=(y,adv (A2 S) (A9 y).length):=by rw [←hN];exact hy
  rw [argsF,if_pos (by
   show ((S.code==0)&&isM l Ji S)=true
   rw [h0,Bw hs',Rv]
   decide)]
  show argsF l (pf l (fam l nst) 0) m (acc++[(pf l (fam l nst) 0 (A2 S)).1],(pf l (fam l nst) 0 (A2 S)).2)=_
  rw [hy']
  show argsF l (pf l (fam l nst) 0) m (acc++[y],adv (A2 S) (A9 y).length)=_
  rw [pq hst hc ks (fun z hz=>hT z (by simp [hz])) (acc++[y]) (adv (A2 S) (A9 y).length) m hN h0 (fun z hz=>hnd z (by simp [hz])) (B1 s1) (by show l.length≤S.i+1+(A9 y).length+m;omega)]
  rw [Gs,Fa,Fa,show acc++[y]++ks=acc++y::ks by simp]
  exact congrArg (fun n=>(acc++y::ks,adv S n)) (by simp only [Dd,Ey,List.length_cons,List.length_append];omega)
theorem Yg (T:List TK) (r:List (List TK)):(Ey (T::r)).drop 1=T++Ey r:=rfl
theorem ym {l:List Tok} {t:Str} {k:List Expr} (hx:B0 At (.mk 6 t noV k)=true) (ha:B5 t=(k.length:Int)) (h1:1≤k.length) (hT:∀y∈k,T1 l y):T1 l (.mk 6 t noV k)∧T2 l (.mk 6 t noV k):=by
 refine kq hx ?_ (fun S rest h=>by rw [Kj] at h;omega)
 rw [Kj,L5,O3]
 intro S rest h0 hn hs hst
 match k,h1,ha,hT,hn,hs with
 | y::ks,_,ha,hT,hn,hs =>
 rw [Dd,Yg] at hs ⊢
 have hs':seg l S.i=(1,t)::((5,[40])::(A9 y++(Ey (Dd ks)++((5,[41])::rest)))):=by rw [hs];simp
 obtain ⟨k1,t1,s1,i1⟩:=Af hs'
 have s1':seg l (A2 S).i=(5,[40])::(A9 y++(Ey (Dd ks)++((5,[41])::rest))):=s1
 obtain ⟨k2,t2,s2,i2⟩:=Af s1'
 have hmax:=ff (y::ks)
 have hz:stops 0 (((5,[41]):TK)::rest):=fun h r e _=>by
  injection e with e _
  subst e
  exact np
 have hy:=hT y (by simp) 0 (Al (A2 (A2 S))) (Ey (Dd ks)++((5,[41])::rest)) (Nat.zero_le _) h0 (by have:=hmax y (by simp);show S.nest+1+_≤30;omega) s2 (by
  cases ks with
  | nil=>exact hz
  | cons z ks =>
   intro h r e _
   injection e with e _
   subst e
   exact ⟨by decide,by decide⟩)
 have hy':pf l (fam l (S.nest+1)) 0 (Al (A2 (A2 S)))=(y,adv (Al (A2 (A2 S))) (A9 y).length):=hy
 have hargs:=pq (l:=l) (nst:=S.nest+1) hz (fun h r e=>by
  injection e with e _
  subst e
  decide) ks (fun z hz=>hT z (by simp [hz])) [y] (adv (Al (A2 (A2 S))) (A9 y).length) l.length rfl h0 (fun z hz=>by have:=hmax z (by simp [hz]);omega) (B1 s2) (by omega)
 have hk:Bb l (fam l S.nest) (A2 S)=(y::ks,adv (A2 (A2 S)) ((A9 y).length+(Ey (Dd ks)).length)):=by
  unfold Bb H5
  rw [if_neg (by show ¬(((S.nest:Int)==30)=true);simp;omega),Gr (by omega)]
  unfold F7
  show ((argsF l (pf l (fam l (S.nest+1)) 0) l.length ([(pf l (fam l (S.nest+1)) 0 (Al (A2 (A2 S)))).1],(pf l (fam l (S.nest+1)) 0 (Al (A2 (A2 S)))).2)).1,Lm (argsF l (pf l (fam l (S.nest+1)) 0) l.length ([(pf l (fam l (S.nest+1)) 0 (Al (A2 (A2 S)))).1],(pf l (fam l (S.nest+1)) 0 (Al (A2 (A2 S)))).2)).2)=_
  rw [hy',hargs,Fa]
  rfl
 have s3:=B1 (B1 s2)
 have hw:Ce l D0 (Bb l (fam l S.nest) (A2 S)).2=adv (A2 (A2 S)) ((A9 y).length+(Ey (Dd ks)).length+1):=by
  rw [hk]
  have s3':seg l (adv (A2 (A2 S)) ((A9 y).length+(Ey (Dd ks)).length)).i=(5,[41])::rest:=by
   show seg l ((A2 S).i+1+((A9 y).length+(Ey (Dd ks)).length))=_
   rw [←Nat.add_assoc]
   exact s3
  obtain ⟨k3,t3,_,_⟩:=Af s3'
  show Ce l D0 (adv (A2 (A2 S)) ((A9 y).length+(Ey (Dd ks)).length))=_
  unfold Ce
  rw [if_neg (by show ¬((S.code != 0)=true);rw [h0];decide),k3,t3,if_neg (by decide)]
  rfl
 have e1:isM l Mt S=false:=by rw [Bw hs'];rfl
 have e2:isM l opT (A2 S)=true:=by rw [Bw s1',Ye];decide
 show Cj l (fam l S.nest) S=_
 unfold Cj
 rw [if_neg (by rw [h0];decide),k1,e1,if_neg (by decide),if_neg (by decide),if_pos (by decide),if_pos e2]
 unfold F3
 rw [t1,if_neg (by rw [ha];omega),if_neg (by rw [hk,ha];simp),hw,hk]
 refine Prod.ext rfl ?_
 show adv (A2 (A2 S)) ((A9 y).length+(Ey (Dd ks)).length+1)=adv S _
 rw [Gs,Gs,Fa,Fa]
 congr 1
 simp only [List.length_cons,List.length_append,List.length_nil]
 omega
theorem fk:∀d,d<10→digs.contains (UInt8.ofNat (48+d))=true:=by decide
theorem v7:∀d,d<10→(UInt8.ofNat (48+d)).toNat=48+d:=by decide
theorem yn:∀d,d<10→1≤d→UInt8.ofNat (48+d)≠48:=by decide
theorem S1 {u:Nat} (h:¬u<10):Lib.decDigits u=Lib.decDigits (u / 10)++[UInt8.ofNat (48+u % 10)]:=by rw [Lib.decDigits,dif_neg h]
theorem Mx:∀(u:Nat),∀c∈Lib.decDigits u,digs.contains c=true:=by
 intro u
 induction u using Nat.strongRecOn with
 | _ u ih =>
  intro c hc
  by_cases h:u<10
  ·rw [Lib.decDigits_one h,List.mem_singleton] at hc
   subst hc
   exact fk u h
  rw [S1 h] at hc
  rcases List.mem_append.1 hc with hc|hc
  ·exact ih (u / 10) (by omega) c hc
  rw [List.mem_singleton.1 hc]
  exact fk _ (Nat.mod_lt _ (by decide))
theorem My:∀(u:Nat),∃c r,Lib.decDigits u=c::r∧(1≤u→c≠48):=by
 intro u
 induction u using Nat.strongRecOn with
 | _ u ih =>
  by_cases h:u<10
  ·exact ⟨_,_,Lib.decDigits_one h,fun h1=>yn u h h1⟩
  obtain ⟨c,r,e,h1⟩:=ih (u / 10) (by omega)
  exact ⟨c,r++[UInt8.ofNat (48+u % 10)],by rw [S1 h,e];rfl,fun _=>h1 (by omega)⟩
theorem Lo (M:Nat):∀(a:Str) (acc v:Nat) (b:Str),Lib.parseUintM M acc a=.ok v→Lib.parseUintM M acc (a++b)=Lib.parseUintM M v b
 | [],acc,v,b,h=>by
  rw [Lib.parseUintM] at h
  injection h with h
  subst h
  rfl
 | c::r,acc,v,b,h=>by
  rw [List.cons_append,Lib.parseUintM]
  rw [Lib.parseUintM] at h
  split at h
  ·rename_i h1
   rw [if_pos h1]
   split at h
   ·cases h
   rename_i h2
   rw [if_neg h2]
   split at h
   ·cases h
   rename_i h3
   rw [if_neg h3]
   exact Lo M r _ v b h
  cases h
theorem cu {M:Nat} (hM:M≤18446744073709551615):∀(u:Nat),u≤M→Lib.parseUintM M 0 (Lib.decDigits u)=.ok u:=by
 intro u
 induction u using Nat.strongRecOn with
 | _ u ih =>
  intro hu
  have one:∀acc d,d<10→acc≤1844674407370955161→acc*10+d≤M→Lib.parseUintM M acc [UInt8.ofNat (48+d)]=.ok (acc*10+d):=fun acc d hd ha hm=>by
   have e:=v7 d hd
   rw [Lib.parseUintM,e,if_pos (by omega),if_neg (by omega),if_neg (by omega),Lib.parseUintM]
   congr 1
   omega
  by_cases h:u<10
  ·rw [Lib.decDigits_one h,one 0 u h (by omega) (by omega)]
   congr 1
   omega
  rw [S1 h,Lo M _ 0 (u / 10) _ (ih (u / 10) (by omega) (by omega)),one (u / 10) (u % 10) (Nat.mod_lt _ (by decide)) (by omega) (by omega)]
  congr 1
  omega
theorem S3:∀c:UInt8,digs.contains c=true→c≠45∧c≠43∧c≠39∧c≠110∧c≠116∧c≠102:=by
 have h:((List.range 256).all fun n => !digs.contains (UInt8.ofNat n) || decide (UInt8.ofNat n≠45∧UInt8.ofNat n≠43∧UInt8.ofNat n≠39∧UInt8.ofNat n≠110∧UInt8.ofNat n≠116∧UInt8.ofNat n≠102))=true:=by kernel_rfl
 intro c hc
 have:=List.all_eq_true.1 h c.toNat (List.mem_range.2 c.toNat_lt)
 rw [show UInt8.ofNat c.toNat=c by simp,hc] at this
 simpa using this
theorem v8 (u:Nat) (h1:u≤9223372036854775807):Cp (Lib.decDigits u)=((u:Int),0):=by
 obtain ⟨c,r,e,h0⟩:=My u
 have hc:digs.contains c=true:=Mx u c (by rw [e];simp)
 obtain ⟨n45,n43,_⟩:=S3 c hc
 have hds:Li (Lib.decDigits u)=Lib.decDigits u:=by
  unfold Li Lib.trimPrefix
  rw [if_neg]
  rw [e]
  unfold Lib.hasPrefix
  simp [Ne.symm n45]
 have hb:Fe (Lib.decDigits u)=false:=by
  unfold Fe
  rw [hds]
  have a1:(Lib.decDigits u==[])=false:=by rw [e];rfl
  have a2:Lib.trimS (Lib.decDigits u) digs=[]:=by
   unfold Lib.trimS Lib.trimRightS
   have:(Lib.decDigits u).reverse.dropWhile (fun x=>digs.contains x)=[]:=by
    rw [ba]
    intro b hb
    exact Mx u b (by simpa using hb)
   rw [this]
   rfl
  have a3:(((Lib.decDigits u).headD 0==48)&&decide (1<(Lib.decDigits u).length))=false:=by
   by_cases hu:u<10
   ·rw [Lib.decDigits_one hu];simp
   rw [e]
   have:(c==48)=false:=by simpa using h0 (by omega)
   simp [this]
  rw [a1,a2,a3]
  rfl
 have hp:Lib.parseIntB 64 (Lib.decDigits u)=.ok (u:Int):=by
  have hu:Lib.parseUintB 64 (Lib.decDigits u)=.ok u:=by
   unfold Lib.parseUintB
   rw [if_neg (by rw [e];simp)]
   exact cu (by decide) u (by
    have:(2:Nat) ^ 64-1=18446744073709551615:=by decide
    omega)
  have n45':c.toNat≠45:=fun h=>n45 (UInt8.toNat_inj.1 (by rw [h];rfl))
  have n43':c.toNat≠43:=fun h=>n43 (UInt8.toNat_inj.1 (by rw [h];rfl))
  have e63:(2:Nat) ^ (64-1)=9223372036854775808:=by decide
  rw [e] at hu ⊢
  simp only [Lib.parseIntB,n43',n45',or_self,if_false,hu,e63]
  simp
  omega
 unfold Cp
 rw [hb,hp]
 rfl
theorem Yh {n:Int} (h0:0≤n) (h1:n≤9223372036854775807):Cv (Lib.itoa n)=(⟨1,n,[]⟩,0):=by
 obtain ⟨u,rfl⟩:∃u:Nat,n=(u:Int):=⟨n.toNat,by omega⟩
 have e0:Lib.itoa (u:Int)=Lib.decDigits u:=by unfold Lib.itoa;rw [if_neg (by omega)];simp
 rw [e0]
 obtain ⟨c,r,e,_⟩:=My u
 have hc:digs.contains c=true:=Mx u c (by rw [e];simp)
 obtain ⟨_,_,n39,n110,n116,n102⟩:=S3 c hc
 unfold Cv
 have b1:(Lib.decDigits u==[110,117,108,108])=false:=by rw [e];simp [n110]
 have b2:(Lib.decDigits u==[116,114,117,101])=false:=by rw [e];simp [n116]
 have b3:(Lib.decDigits u==[102,97,108,115,101])=false:=by rw [e];simp [n102]
 have b4:Jt (Lib.decDigits u)=false:=by
  unfold Jt Lib.hasPrefix
  rw [e]
  simp [Ne.symm n39]
 rw [b1,b2,b3,b4,v8 u (by omega)]
 rfl
/-- What is printed is read: of values. -/
theorem S4 {v:Val} (h:Bd v=true) (h2:(v.kind==2)=false) (h0:0≤v.n) (h1:v.n≤9223372036854775807):Cv (Bk v)=(v,0):=by
 obtain ⟨k,n,s⟩:=v
 unfold Bk
 rw [h]
 unfold Bd at h
 simp only at h h2 h0 h1 ⊢
 by_cases e0:k=0
 ·subst e0
  simp at h
  obtain ⟨rfl,rfl⟩:=h
  kernel_rfl
 by_cases e1:k=1
 ·subst e1
  simp at h
  subst h
  simpa using Yh h0 h1
 have e2:k≠2:=by simpa using h2
 simp [e0,e1,e2] at h
 obtain ⟨⟨⟨rfl,rfl⟩,_⟩,h4⟩:=h
 have:n=0∨n=1:=by omega
 rcases this with rfl|rfl
 ·rfl
 rfl
theorem ABv {l:List Tok} {v:Val} (hx:B0 At (Ff v)=true) (hp:Bd v=true) (hv0:0≤v.n) (hv1:v.n≤9223372036854775807):T1 l (Ff v)∧T2 l (Ff v):=by
 refine kq hx ?_ (fun S rest h=>by rw [Pt] at h;omega)
 rw [Pt,Rw]
 intro S rest h0 hn hs hst
 show Cj l (fam l S.nest) S=_
 unfold Cj
 rw [if_neg (by rw [h0];decide)]
 cases hk1:v.kind==1 with
 | true =>
  have e:G9 v=(3,Bk v):=by unfold G9;rw [hk1];rfl
  rw [e] at hs
  obtain ⟨k1,t1,_,_⟩:=Af (show seg l S.i=(3,Bk v)::rest from hs)
  have hk2:(v.kind==2)=false:=by
   have:v.kind=1:=by simpa using hk1
   rw [this];rfl
  rw [k1,if_pos (by simp),t1,S4 hp hk2 hv0 hv1]
  rfl
 | false =>
  cases hk2:v.kind==2 with
  | true =>
   have e:G9 v=(4,v.s):=by unfold G9;rw [hk1,hk2];rfl
   rw [e] at hs
   have hs':seg l S.i=(4,v.s)::rest:=hs
   obtain ⟨k1,t1,_,_⟩:=Af hs'
   have e1:isM l Mt S=false:=by rw [Bw hs'];rfl
   rw [k1,e1,if_neg (by decide),if_pos (by decide),t1]
   have hv:v=⟨2,0,v.s⟩∧v.s.length≤200:=by
    rcases Ih hp with e|e|e|e|e
    ·rw [e] at hk2;cases hk2
    ·rw [e] at hk2;cases hk2
    ·exact e
    ·rw [e] at hk2;cases hk2
    rw [e] at hk2;cases hk2
   rw [List.take_of_length_le hv.2,←hv.1]
   rfl
  | false =>
   have e:G9 v=(2,Bk v):=by unfold G9;rw [hk1,hk2];rfl
   rw [e] at hs
   have hs':seg l S.i=(2,Bk v)::rest:=hs
   obtain ⟨k1,t1,_,_⟩:=Af hs'
   have hw:Dh (Bk v) Mt=true:=by
    rw [Wd]
    rcases Ih hp with e|e|e|e|e
    ·rw [e];kernel_rfl
    ·rw [e] at hk1;cases hk1
    ·rw [e.1] at hk2;cases hk2
    ·rw [e];kernel_rfl
    rw [e];kernel_rfl
   have e1:isM l Mt S=true:=by rw [Bw hs',hw];rfl
   rw [e1,if_pos (by simp),t1,S4 hp hk2 hv0 hv1]
   rfl
theorem O6 (t:Str):B5 t = -1∨1≤B5 t:=by
 unfold B5
 cases h:arityList.find? (fun p=>p.1==t) with
 | none=>exact .inl rfl
 | some p =>
  have hm:=List.mem_of_find?_eq_some h
  have ha:(arityList.all fun p=>decide (1≤o4 p))=true:=by kernel_rfl
  exact .inr (of_decide_eq_true (List.all_eq_true.1 ha p hm))
theorem M2 (l:List Tok):∀(n:Nat) (x:Expr),sizeE x≤n→B0 At x=true→B0 D6 x=true→T1 l x∧T2 l x
 | 0,x,hn,_,_=>by rw [Dw] at hn;omega
 | n+1,x,hn,hx,hr=>by
  have hx0:=hx
  have hr0:=hr
  rw [Co,Bool.and_eq_true] at hx0 hr0
  have ih:∀y∈x.kids,T1 l y∧T2 l y:=fun y hy=>M2 l n y (O5 hn hy) ((Bv _ _).1 hx0.2 y hy) ((Bv _ _).1 hr0.2 y hy)
  cases Fi hx0.1 with
  | val v hv h0 =>
   have:=hr0.1
   unfold D6 at this
   simp only [Bool.and_eq_true,decide_eq_true_eq] at this
   exact ABv hx hv h0 this.2
  | name t ht=>exact yl hx
  | neg a=>exact ABu hx (ih a (by simp [Bq,Expr.kids])).1
  | no a=>exact ADq hx (ih a (by simp [Bq,Expr.kids])).1
  | bin t a b ht=>exact ABt ht hx (ih a (by simp [C6,Expr.kids])) (ih b (by simp [C6,Expr.kids])).1
  | call t k hk =>
   refine ym hx hk ?_ (fun y hy=>(ih y hy).1)
   have:=O6 t
   omega
/-! The parser from a word on, and of a source. -/
def atS (l:List Tok) (i:Nat) (r:Expr×PS):PS:=if r.2.code != 0 then r.2 else if decide ((30:Int)<depthE r.1) then Ch 18 (A7 l i).at_ r.2 else if decide ((300:Int)<sizeE r.1) then Ch 3 (A7 l i).at_ r.2 else r.2
def atR (l:List Tok) (i:Nat):Expr×PS:=L4 l (C1 l 30) ⟨i,0,0,0⟩
/-- The tree, the word behind it, the fault. -/
def atM (l:List Tok) (i:Nat):Expr×Int×Int×Int:=if (atS l i (atR l i)).code != 0 then (Ad,0,(atS l i (atR l i)).code,(atS l i (atR l i)).at_) else ((atR l i).1,((atS l i (atR l i)).i:Int),0,0)
set_option maxRecDepth 4000
theorem S5 {l:List Tok} (hl:TokEnd l) (hll:l.length≤1048576) {i:Nat} (hi:i<l.length):Fact l ⟨i,0,0,0⟩ (atR l i):=(Nz hl hll 31 0 rfl (by decide)).1 ⟨i,0,0,0⟩ hi rfl
theorem yo {l:List Tok} {i:Nat} (hi:i<l.length) (hl:TokEnd l) (hll:l.length≤1048576) (hcl:∀n Dv,n≤30→DeepC l Dv n→Yc l Dv n) (o:Nat) (Hp:List AObj) (ho:Hp[o]? = some (pr l ⟨i,0,0,0⟩)):ACall Tryz.prog 215 [.ptr o 0] Hp (fun r H'=>r=A5 (atR l i).1∧H'=Hp.set o (pr l (atR l i).2)):=(Yd hl hll hcl 31 0 rfl (by decide)).1 o Hp ⟨i,0,0,0⟩ ho hi rfl
theorem Yi {l:List Tok} (hl:TokEnd l):(A7 l (l.length-1)).kind=0:=by
 obtain ⟨L,z,rfl,hz,_⟩:=hl.split
 unfold A7
 simp [hz]
theorem ADr (l:List Tok) (i:Nat) (hi:i<l.length) (hl:TokEnd l) (hll:l.length≤500000) (hcl:∀n Dv,n≤30→DeepC l Dv n→Yc l Dv n) (Hp:List AObj):AFun Tryz.prog 192 [eg l,A3 (i:Int)] Hp (.tup [A5 (atM l i).1,A3 (atM l i).2.1,.agg [A3 (atM l i).2.2.1,A3 (atM l i).2.2.2]]):=by
 have hmap:(l.map Hb).length=l.length:=List.length_map ..
 have hll1:l.length≤1048576:=by omega
 have hq:=S5 hl hll1 hi
 have hlast:=Yi hl
 have hpos:=hl.pos
 have hqlt:=hq.lt
 have hqs:=hq.sz
 have hok0:okE 1048576 (atR l i).1:=Fv (by have:=hq.lt;omega) hq.ok
 have hsz0:sizeE (atR l i).1≤1048576:=by have:=hq.sz;have:=hq.lt;omega
 refine ACall.body [.cell 4 69,.tmp 5,.cell 6 26] [0,1] Tryz.func192 Tryz.ntmps192 (fun d=>?_)
 refine Z27 ?_;refine R.go ?_;refine R.alloc jZ ?_;refine R.fin [0,1,4,6] ?_;refine Z22 ?_;refine Z53 ?_;refine Vs ?_
 refine G.go (h:=Q.indexAddr ((l.length-1)) (Hb (A7 l (l.length-1))) (fun _=>Nt (by omega))) (hr:=?_)
 refine Z4 ?_;refine Z68 ?_;refine R.fin [0,1,4,6,26] ?_
 refine W.cond (fun ht26=>?_) (fun ht26=>?_)
 ·simp only [Bool.or_eq_true,decide_eq_true_eq,bne_iff_ne,ne_eq] at ht26
  rcases ht26 with (h|h)|h
  ·omega
  ·simp at h;omega
  exact absurd hlast h
 refine Z5 ?_;refine Z3 ?_;refine R.build (places:=#[(0,1),(1,1),(2,1),(3,2)]) jU (fun w=>by simp) jZ ?_;refine R.box ?_;refine R.go ?_;refine R.fin [0,1,4,6,7] ?_;refine Z0 ?_
 refine R.callOwn (n:=2) (x:=pr l (atR l i).2) Tryz.call215 (yo hi hl hll1 hcl (oid Hp.length 2) _ (by rw [Br];rfl)) ?_
 refine Z15 ?_;refine R.fin [0,1,4,6,7,8] ?_
 refine W.join ⟨81,A6 4 (.ptr (oid Hp.length 0) 0) (A6 6 (.ptr (oid Hp.length 1) 0) (A6 7 (.ptr (oid Hp.length 2) 0) (A6 8 (.ptr (oid Hp.length 3) 0) (fun _=>.any)))),Hp,[.cells 69 [A3 0,Aa [],A3 0,A3 0,Aa [],.nil],.cells 26 [A3 0,A3 0],pr l (atS l i (atR l i)),.cells 69 (Cs (atR l i).1)],[],none⟩ ?_ ?_
 ·refine AW.block ?_;refine Z19 ?_;refine Z79 ?_;refine R.fin [0,1,4,6,7,8,35] ?_
  refine W.cond (fun ht35=>?_) (fun ht35=>?_)
  ·have e:atS l i (atR l i)=(atR l i).2:=if_pos ht35
   refine W.keep [4,6,7,8] ?_;refine AW.skip ?_;exact sw
  have e0:¬((atR l i).2.code != 0)=true:=by rw [ht35];simp
  refine Z0 ?_;refine R.call Tryz.call216 (ADo 1048576 _ hok0 (Nat.le_refl _) hsz0 _) ?_;refine Z1 ?_;refine R.fin [0,1,4,6,7,8,42] ?_
  refine W.cond (fun ht42=>?_) (fun ht42=>?_)
  ·have e:atS l i (atR l i)=Ch 18 (A7 l i).at_ (atR l i).2:=by unfold atS;rw [if_neg e0,if_pos ht42]
   refine Z48 ?_
   refine R.go (h:=Q.indexAddr (i) (Hb (A7 l i)) (fun _=>Nt hi)) (hr:=?_)
   refine Z1 ?_
   refine R.callOwn (n:=2) (x:=pr l (Ch 18 (A7 l i).at_ (atR l i).2)) Tryz.call217 (km l (atR l i).2 18 (A7 l i).at_ (oid Hp.length 2) _ (by rw [Br];rfl)) ?_
   refine R.fin [4,6,7,8] ?_;exact sw
  have e1:¬decide ((30:Int)<depthE (atR l i).1)=true:=by rw [ht42];simp
  refine Z0 ?_;refine R.call Tryz.call218 (ADp 1048576 _ hok0 (Nat.le_refl _) hsz0 _) ?_;refine Z1 ?_;refine R.fin [0,1,4,6,7,8,53] ?_
  refine W.cond (fun ht53=>?_) (fun ht53=>?_)
  ·have e:atS l i (atR l i)=Ch 3 (A7 l i).at_ (atR l i).2:=by unfold atS;rw [if_neg e0,if_neg e1,if_pos ht53]
   refine Z48 ?_
   refine R.go (h:=Q.indexAddr (i) (Hb (A7 l i)) (fun _=>Nt hi)) (hr:=?_)
   refine Z1 ?_
   refine R.callOwn (n:=2) (x:=pr l (Ch 3 (A7 l i).at_ (atR l i).2)) Tryz.call217 (km l (atR l i).2 3 (A7 l i).at_ (oid Hp.length 2) _ (by rw [Br];rfl)) ?_
   refine R.fin [4,6,7,8] ?_;exact sw
  have e:atS l i (atR l i)=(atR l i).2:=by unfold atS;rw [if_neg e0,if_neg e1,if_neg (by rw [ht53];simp)]
  refine W.keep [4,6,7,8] ?_;refine AW.skip ?_;exact sw
 refine Z22 ?_;refine Z6 ?_;refine R.fin [4,6,7,8,69] ?_
 refine W.cond (fun ht69=>?_) (fun ht69=>?_)
 ·have e:atM l i=(Ad,0,(atS l i (atR l i)).code,(atS l i (atR l i)).at_):=if_pos ht69
  refine W.drawY [0,0,2,6,14,1,33,127] [5] [.q 5 [] [],.s [] (some 0) [] [],.q 1 [0] []] (fun _=>Hp) (fun _=>[.cells 69 [A3 0,Aa [],A3 0,A3 0,Aa [],.nil],.cells 26 [A3 0,A3 0],pr l (atS l i (atR l i)),.cells 69 (Cs (atR l i).1)]) Ab (by kernel_rfl) rfl rfl (fun _=>rfl) ?_
  apply Y.q
  case h1 =>
   intro B hT hF
   refine D.build (places:=#[(0,1),(1,1),(2,3),(5,1)]) jU (fun w=>by simp) jZ ?_;exact na
  case hTF=>decide
  refine Y.storeOwn (u:=Hp.length) (n:=0) (t':=69) (cs:=[A3 0,Aa [],A3 0,A3 0,Aa [],.nil]) (cs':=[A3 0,Aa [],A3 0,A3 0,Aa [],.nil]) Tryz.sizeOf69 (fun B hB=>⟨rfl,rfl,rfl,rfl⟩) ?_
  apply Y.q
  case h1 =>
   intro B hT hF
   exact Z60
  case hTF=>decide
  refine Y.tail (tn:=[5])  ?_;refine R.nilCell 0 5 6 ?_;refine Hv ?_;refine R.fin [4,5,6] ?_;refine jc ?_;exact K.fin (V.three (V.cellN jA jS) V.tmp (V.cellN jA jS)) ⟨by rw [e,p9]<;>rfl,rfl⟩
 have e:atM l i=((atR l i).1,((atS l i (atR l i)).i:Int),0,0):=if_neg (by rw [ht69];simp)
 refine Z5 ?_;refine W.drawY [0,0,2,6,14,0,1,95,255] [6] [.q 6 [] [],.s [] (some 0) [] [],.q 1 [0] []] (fun _=>Hp) (fun B=>[.cells 69 (if B 0=true then Cs (atR l i).1 else [A3 0,Aa [],A3 0,A3 0,Aa [],.nil]),.cells 26 [A3 0,A3 0],pr l (atS l i (atR l i)),.cells 69 (Cs (atR l i).1)]) Ab (by kernel_rfl) rfl rfl (fun _=>rfl) ?_
 apply Y.q
 case h1 =>
  intro B hT hF
  refine aw ?_;exact zz
 case hTF=>decide
 refine Y.storeOwn (u:=Hp.length) (n:=0) (t':=69) (cs:=[A3 0,Aa [],A3 0,A3 0,Aa [],.nil]) (cs':=Cs (atR l i).1) Tryz.sizeOf69 (fun B hB=>⟨rfl,by simp only [hB];rfl,by simp [upd],rfl⟩) ?_
 apply Y.q
 case h1 =>
  intro B hT hF
  exact Z60
 case hTF=>decide
 refine Y.tail (tn:=[6]) (O:=[.cells 69 (Cs (atR l i).1),.cells 26 [A3 0,A3 0],pr l (atS l i (atR l i)),.cells 69 (Cs (atR l i).1)]) ?_;refine Hv ?_;refine R.fin [4,5,6] ?_;refine AW.ret ?_;exact K.fin (V.three (V.cellN jA jS) V.tmp (V.cellN jA jS)) ⟨by rw [e,Ac]<;>rfl,rfl⟩ (hlow:=by have:=low_agg (n:=Hp.length) (atR l i).1;simp at this ⊢;exact this)

theorem fl {s:Str} (h:(Db s).2.1=0):(Db s).1.length≤4002:=by
 obtain ⟨h1,_,h3⟩:=W7 h
 have h2:=M0 s
 rw [h3]
 simp only [List.length_append,List.length_map,List.length_cons,List.length_nil]
 omega
theorem vd {l:List Tok} (hl:TokEnd l) (hll:l.length≤1048576) {i:Nat} (hi:i<l.length) (h:(atM l i).2.2.1=0):∃k:Nat,(atM l i).2.1=(k:Int)∧k<l.length:=by
 have hq:=S5 hl hll hi
 unfold atM at h ⊢
 split at h
 ·rename_i h1
  have:(atS l i (atR l i)).code=0:=h
  rw [this] at h1
  cases h1
 rename_i h1
 rw [if_neg h1]
 refine ⟨(atS l i (atR l i)).i,rfl,?_⟩
 have e:(atS l i (atR l i)).i=(atR l i).2.i:=by
  unfold atS
  repeat' split
  all_goals first|rfl|exact failM_i.1
 rw [e]
 exact hq.lt
theorem Io {α:Type} {a b:List α} (hl:a.length=b.length) (h:∀(j:Nat) (y:α),j<a.length→a[j]? = some y→b[j]? = some y):a=b:=by
 apply List.ext_getElem hl
 intro j h1 h2
 have:=h j a[j] h1 (List.getElem?_eq_getElem h1)
 rw [List.getElem?_eq_getElem h2] at this
 injection this with this
 exact this.symm
theorem c27 (a b:List Str) (ha:a.length≤1048576) (Hp:List AObj):AFun Tryz.prog 27 [Du a,Du b] Hp (Ap (decide (a=b))):=by
 refine ACall.body [.tmp 4] [0,1] Tryz.func27 Tryz.ntmps27 (fun d=>?_)
 refine Z59 ?_;refine Z73 ?_;refine R.fin [0,1,10] ?_
 refine W.cond (fun ht10=>?_) (fun ht10=>?_)
 ·have hne:a≠b:=by rintro rfl;simp at ht10
  refine am ?_;exact AB2
 have hlen:a.length=b.length:=by have:=ht10;simp at this;omega
 refine Mg ?_;refine R.fin [0,1,5] ?_
 refine AW.loopC (α:=Nat) (fun x=>⟨26,A6 0 (Du a) (A6 1 (Du b) (A6 5 (A3 (x:Nat)) (fun _=>.any))),Hp,[],[],none⟩) (fun x=>x≤a.length∧∀(j:Nat) (y:Str),j<x→a[j]? = some y→b[j]? = some y) (fun x=>a.length-x) (0) ⟨Nat.zero_le _,fun j y h=>by omega⟩ (StLe.refl _) rfl (fun x hx=>?_)
 refine Z55 ?_;refine R.fin [0,1,5,14] ?_
 refine W.cond (fun ht14=>?_) (fun ht14=>?_)
 ·have hlt:x<a.length:=by simpa using ht14
  have hlb:x<b.length:=by omega
  refine Z44 ?_;refine W.drawQ [0,0,3,7,0,0,48,112,255] 8 Ab (by kernel_rfl) ?_;refine Z9 ?_
  refine D.go (h:=Q.indexAddr (x) (Aa a[x]) (fun _=>Am hlt)) (hr:=?_)
  refine Z37 ?_
  refine D.go (h:=Q.indexAddr (x) (Aa b[x]) (fun _=>Am hlb)) (hr:=?_)
  refine Z84 ?_;refine R.go ?_;refine R.fin [0,1,5,25] ?_
  refine W.cond (fun ht25=>?_) (fun ht25=>?_)
  ·have hne:a≠b:=by rintro rfl;simp at ht25
   refine Z61 ?_;refine Z32 ?_;exact AB2
  have heq:a[x]=b[x]:=by simpa using ht25
  refine Z58 ?_;refine R.fin [0,1,5] ?_
  refine K.lpN (x+1) ⟨hlt,fun j y hj hy=>?_⟩ (by omega) (StCut.of_eq rfl)
  rcases Nat.lt_or_ge j x with h|h
  ·exact hx.2 j y h hy
  have:j=x:=by omega
  subst this
  rw [List.getElem?_eq_getElem hlt] at hy
  rw [List.getElem?_eq_getElem hlb,←hy,heq]
 have hxe:a.length≤x:=by simpa using ht14
 refine Z47 ?_;refine Z61 ?_;exact K.fin (V.one V.tmp) ⟨by rw [decide_eq_true (Io hlen fun j y hj hy=>hx.2 j y (by omega) hy)],rfl⟩

theorem Dy {n k:Nat} {o:Bool} {l:List Expr}:Low n (.slice o k (l.map A5)):=low_slice.2 fun y hy=>by
 obtain ⟨a,_,rfl⟩:=List.mem_map.1 hy
 exact Aj _ a
theorem kr {l:List Expr} {n f:Nat} (h0:l.isEmpty=false) (h:Ll l n=true):F6 f l n=true:=by
 cases f with
 | zero=>rw [F6,h0];rfl
 | succ f=>rw [F6,if_neg (by rw [h0];simp),if_pos h]
theorem ve {l:List Expr} {n y:Nat} (hy:y<l.length) (h:500<n+y+1∨Nx l[y]=true):Ll l n=true:=by
 unfold Ll
 rcases h with h|h
 ·rw [decide_eq_true (by omega)];rfl
 rw [List.any_eq_true.2 ⟨_,List.getElem_mem hy,h⟩,Bool.or_true]
theorem S6 {l:List Expr}:∀(y:Nat),y≤l.length→(∀(j:Nat) (e:Expr),j<y→l[j]? = some e→Nx e=false)→((l.take y).flatMap Expr.kids).length≤100*y
 | 0,_,_=>by simp
 | y+1,hy,h=>by
  rw [List.take_succ_eq_append_getElem hy,List.flatMap_append,List.length_append]
  have h1:=S6 y (by omega) (fun j e hj he=>h j e (by omega) he)
  have h2:=W6 (h y l[y] (by omega) (List.getElem?_eq_getElem _))
  simp only [List.flatMap_cons,List.flatMap_nil,List.append_nil]
  omega
structure WideAt (l0:List Expr) (x:List Expr×Nat×Nat):Prop where
 eq:F6 61 l0 0=F6 x.2.2 x.1 x.2.1
 f:x.2.2≤61
 n:x.2.1≤500
theorem c76 (l0:List Expr) (Hp:List AObj):AFun Tryz.prog 76 [.slice false 6 (l0.map A5),A3 0] Hp (Ap (F6 61 l0 0)):=by
 refine ACall.body [.tmp 4] [0,1] Tryz.func76 Tryz.ntmps76 (fun d=>?_)
 refine Z59 ?_;refine Z0 ?_;refine R.fin [0,1,5] ?_;refine W.seq ?_
 refine AW.loopC (α:=List Expr×Nat×Nat) (fun x=>⟨67,A6 0 (.slice false 6 (x.1.map A5)) (A6 1 (A3 (61-(x.2.2:Int))) (A6 5 (A3 (x.2.1:Nat)) (fun _=>.any))),Hp,[],[],none⟩) (fun x=>WideAt l0 x) (fun x=>x.2.2) ((l0,0,61)) ⟨rfl,Nat.le_refl _,Nat.zero_le _⟩ (StLe.of_eq (by simp)) rfl (fun x hx=>?_)
 refine Z22 ?_;refine R.fin [0,1,5,10] ?_
 refine W.cond (fun ht10=>?_) (fun ht10=>?_)
 ·have hpos:0<x.1.length:=by simpa using ht10
  have hne:x.1.isEmpty=false:=by cases hxx:x.1 with
   | nil=>rw [hxx] at hpos;simp at hpos
   | cons a r=>rfl
  have hxf:=hx.f
  refine nh ?_;refine E4 ?_;refine Z91 ?_;refine R.fin [0,1,5,6] ?_;refine Z8 ?_;refine jj ?_
  refine AW.loopC (α:=Nat) (fun y=>⟨67,A6 0 (.slice false 6 (x.1.map A5)) (A6 1 (A3 (61-(x.2.2:Int))) (A6 5 (A3 ((x.2.1+y:Nat):Int)) (A6 6 (.slice true 6 (((x.1.take y).flatMap Expr.kids).map A5)) (A6 7 (A3 (y:Nat)) (fun _=>.any))))),Hp,[],[],none⟩) (fun y=>y≤x.1.length∧x.2.1+y≤500∧∀(j:Nat) (e:Expr),j<y→x.1[j]? = some e→Nx e=false) (fun y=>x.1.length-y) (0) ⟨Nat.zero_le _,hx.n,fun j e h=>by omega⟩ (StLe.of_eq (by simp)) rfl (fun y hy=>?_)
  refine Z55 ?_;refine R.fin [0,1,5,6,7,15] ?_
  refine W.cond (fun ht15=>?_) (fun ht15=>?_)
  ·have hlt:y<x.1.length:=by simpa using ht15
   have hyn:=hy.2.1
   refine T6 ?_;refine jj ?_;refine Z22 ?_;refine Z4 ?_
   refine G.go (h:=Q.indexAddr (y) (A5 x.1[y]) (fun _=>Am hlt)) (hr:=?_)
   refine Z53 ?_;refine Z29 ?_
   refine G.go (h:=Q.indexAddr (y) (A5 x.1[y]) (fun _=>Am hlt)) (hr:=?_)
   refine jg ?_
   refine G.go (h:=Q.indexAddr (y) (A5 x.1[y]) (fun _=>Am hlt)) (hr:=?_)
   refine Z53 ?_;refine R.go ?_;refine R.fin [0,1,5,6,7,49] ?_
   refine W.cond (fun ht49=>?_) (fun ht49=>?_)
   ·have hm:Ll x.1 x.2.1=true:=ve hlt (by
     simp only [Bool.or_eq_true,decide_eq_true_eq,List.length_map] at ht49
     unfold Nx
     simp only [Bool.or_eq_true,decide_eq_true_eq]
     omega)
    have hw:=kr (f:=x.2.2) hne hm
    refine am ?_;refine Z32 ?_;refine jd ?_;exact AAb
   have hfat:Nx x.1[y]=false∧x.2.1+y+1≤500:=by
    simp only [Bool.or_eq_false_iff,decide_eq_false_iff_not,List.length_map] at ht49
    unfold Nx
    simp only [Bool.or_eq_false_iff,decide_eq_false_iff_not]
    omega
   have hkl:=(W6 hfat.1).2.2
   have hfm:(x.1.take (y+1)).flatMap Expr.kids=(x.1.take y).flatMap Expr.kids++x.1[y].kids:=by rw [List.take_succ_eq_append_getElem hlt,List.flatMap_append];simp
   refine Z5 ?_;refine j8 ?_;refine Z1 ?_
   refine R.go (h:=Q.indexAddr (y) (A5 x.1[y]) (fun _=>Am hlt)) (hr:=?_)
   refine Z1 ?_
   refine R.append jU Tryz.type69 ?_ ?_ ?_
   ·have h1:=S6 y hy.1 hy.2.2;have h2:=hkl;have h3:=hy.2.1;simp only [List.length_map,Tryz.t69];omega
   ·have h1:=S6 y hy.1 hy.2.2;have h2:=hkl;have h3:=hy.2.1;simp only [List.length_map,Tryz.t69];omega
   refine R.assignT ?_;refine jj ?_;refine Z35 ?_;refine jj ?_
   refine K.lpN (y+1) ⟨hlt,by omega,Az hlt hy.2.2 hfat.1⟩ (by omega) (StCut.of_eq ?_)
   rw [hfm,List.map_append]
   rfl
  have hye:x.1.take y=x.1:=List.take_of_length_le (by simp at ht15;omega)
  have hyl:y=x.1.length:=by have:=hy.1;simp at ht15;omega
  have hmany:Ll x.1 x.2.1=false:=by
   unfold Ll
   rw [decide_eq_false (by have:=hy.2.1;omega),Bool.false_or,List.any_eq_false]
   intro e he
   obtain ⟨j,hj⟩:=List.getElem?_of_mem he
   rw [hy.2.2 j e (by have:=(List.getElem?_eq_some_iff.1 hj).1;omega) hj]
   simp
  refine Z47 ?_;refine Z55 ?_;refine Qo ?_;refine R.fin [1,5,6,63] ?_
  refine W.cond (fun ht63=>?_) (fun ht63=>?_)
  ·have hw:F6 x.2.2 x.1 x.2.1=true:=by
    have h9:=ht63
    rw [hye] at h9
    simp only [Bool.or_eq_true,decide_eq_true_eq,List.length_map] at h9
    cases hf:x.2.2 with
    | zero=>rw [F6,hne];rfl
    | succ f =>
     rw [F6,if_neg (by rw [hne];simp),if_neg (by rw [hmany];simp),if_pos (by rw [decide_eq_true_eq];omega)]
   refine am ?_;refine jd ?_;exact AAb
  have h9:=ht63
  rw [hye] at h9
  simp only [Bool.or_eq_false_iff,decide_eq_false_iff_not,List.length_map] at h9
  obtain ⟨f,hf⟩:∃f,x.2.2=f+1:=⟨x.2.2-1,by omega⟩
  have hw:F6 x.2.2 x.1 x.2.1=F6 f (x.1.flatMap Expr.kids) (x.2.1+x.1.length):=by
   rw [hf,F6,if_neg (by rw [hne];simp),if_neg (by rw [hmany];simp),if_neg (by rw [decide_eq_true_eq];omega)]
  refine Z5 ?_;refine Z3 ?_;refine R.fin [0,1,5] ?_;refine Z48 ?_;refine R.fin [0,1,5] ?_;refine K.blN ?_
  refine K.lpN (x.1.flatMap Expr.kids,x.2.1+x.1.length,f) ⟨hx.eq.trans hw,by show f≤61;omega,by show x.2.1+x.1.length≤500;have:=hy.2.1;omega⟩ (by show f<x.2.2;omega) (StCut.of_eq ?_)
  rw [hye,hyl]
  congr 4
  simp only [AV.v.injEq,Value.int.injEq,true_and]
  omega
 have hnil:x.1=[]:=by have:=ht10;simp at this;exact this
 refine Z47 ?_;refine Z61 ?_;exact K.fin (V.one V.tmp) ⟨by rw [hx.eq,hnil];cases x.2.2<;>rfl,rfl⟩

theorem c37 (e:Expr) (Hp:List AObj):AFun Tryz.prog 37 [A5 e] Hp (Ap (Rh e)):=by
 refine ACall.body [.tmp 2] [0] Tryz.func37 Tryz.ntmps37 (fun d=>?_)
 refine Z54 ?_;refine Z0 ?_;refine Jc ?_;refine R.call Tryz.call76 (c76 [e] _) ?_;exact su

theorem Mz {a b:List Expr} (hl:a.length=b.length) (h:∀(j:Nat) (y z:Expr),j<a.length→a[j]? = some y→b[j]? = some z→eqE y z=true):eqL a b=true:=by
 rw [If]
 refine Io hl fun j y hj hy=>?_
 have hjb:j<b.length:=by omega
 have:=h j y b[j] hj hy (List.getElem?_eq_getElem hjb)
 rw [List.getElem?_eq_getElem hjb,(Jh _ _).1 this]
theorem yp {a b:List Expr} (h:eqL a b=true) {j:Nat} (hj:j<a.length) (hb:j<b.length):eqE a[j] b[j]=true:=by
 have e:=(If _ _).1 h
 subst e
 exact Re _
theorem Wf {a b:List Expr} {j:Nat} (hj:j<a.length) (hb:j<b.length) (h:eqE a[j] b[j]=false):eqL a b=false:=by
 rw [Bool.eq_false_iff]
 intro h2
 rw [yp h2 hj hb] at h
 cases h
theorem fm {a b:List Expr} (h:a.length≠b.length):eqL a b=false:=by
 rw [Bool.eq_false_iff]
 exact fun h2=>h (ug h2)
theorem fp {a b:List Expr} {x:Nat} (hx:x<a.length) (hb:x<b.length) (h:∀(j:Nat) (y z:Expr),j<x→a[j]? = some y→b[j]? = some z→eqE y z=true) (he:eqE a[x] b[x]=true):∀(j:Nat) (y z:Expr),j<x+1→a[j]? = some y→b[j]? = some z→eqE y z=true:=by
 intro j y z hj h1 h2
 rcases Nat.lt_or_ge j x with h3|h3
 ·exact h j y z h3 h1 h2
 have:j=x:=by omega
 subst this
 rw [List.getElem?_eq_getElem hx] at h1
 rw [List.getElem?_eq_getElem hb] at h2
 injection h1 with h1
 injection h2 with h2
 rw [←h1,←h2]
 exact he
def Yj (x y:Expr):Bool:=((x.op==y.op)&&(x.text==y.text))&&((x.val.kind==y.val.kind&&x.val.n==y.val.n)&&x.val.s==y.val.s)
theorem Wg (x y:Expr):eqE x y=(Yj x y&&eqL x.kids y.kids):=ot x y
theorem c28:∀(n:Nat) (x:Expr),okE n x→∀(y:Expr) (Hp:List AObj),AFun Tryz.prog 28 [A5 x,A5 y] Hp (Ap (eqE x y)):=by
 intro n
 induction n with
 | zero=>exact fun x h=>h.elim
 | succ n ih =>
 intro x hok y Hp
 refine ACall.body [.tmp 4] [0,1] Tryz.func28 Tryz.ntmps28 (fun d=>?_)
 refine Z19 ?_;refine Jv ?_;refine Z22 ?_;refine Z6 ?_;refine jg ?_;refine Z4 ?_
 refine G.go (h:=Q.neqAgg nr (fun w=>Mj x.val.kind x.val.n y.val.kind y.val.n x.val.s y.val.s w)) (hr:=?_)
 refine Z29 ?_;refine Z53 ?_;refine Z68 ?_;refine R.fin [2,3,33] ?_
 refine W.cond (fun ht33=>?_) (fun ht33=>?_)
 ·have hf:eqE x y=false:=by
   rw [Wg]
   simp only [Bool.or_eq_true,bne_iff_ne,ne_eq,List.length_map,Bool.not_eq_true'] at ht33
   by_cases hh:Yj x y=true
   ·rw [hh,Bool.true_and]
    refine fm ?_
    unfold Yj at hh
    simp only [Bool.and_eq_true,beq_iff_eq] at hh
    obtain ⟨⟨h1,h2⟩,⟨h3,h4⟩,h5⟩:=hh
    rcases ht33 with ((h|h)|h)|h
    ·exact absurd h1 h
    ·simp [h2] at h
    ·simp [h3,h4,h5] at h
    intro e;exact h (by rw [e])
   rw [Bool.not_eq_true] at hh
   rw [hh,Bool.false_and]
  refine am ?_;exact xq
 have hh:Yj x y=true∧x.kids.length=y.kids.length:=by
  simp only [Bool.or_eq_false_iff,bne_eq_false_iff_eq,List.length_map,Bool.not_eq_false'] at ht33
  obtain ⟨⟨⟨h1,h2⟩,h3⟩,h4⟩:=ht33
  unfold Yj
  refine ⟨?_,by omega⟩
  simp only [beq_iff_eq,Bool.and_eq_true] at h1 h2 h3 ⊢
  exact ⟨⟨h1,h2⟩,h3⟩
 obtain ⟨hh,hlen⟩:=hh
 have hkl:=hok.2.1
 refine Mg ?_;refine R.fin [2,3,5] ?_
 refine AW.loopC (α:=Nat) (fun i=>⟨53,A6 2 (.ro (Cs x)) (A6 3 (.ro (Cs y)) (A6 5 (A3 (i:Nat)) (fun _=>.any))),Hp,[],[],none⟩) (fun i=>i≤x.kids.length∧∀(j:Nat) (a b:Expr),j<i→x.kids[j]? = some a→y.kids[j]? = some b→eqE a b=true) (fun i=>x.kids.length-i) (0) ⟨Nat.zero_le _,fun j a b h=>by omega⟩ (StLe.refl _) rfl (fun i hi=>?_)
 refine Z73 ?_;refine R.fin [2,3,5,38] ?_
 refine W.cond (fun ht38=>?_) (fun ht38=>?_)
 ·have hlt:i<x.kids.length:=by simpa using ht38
  have hly:i<y.kids.length:=by omega
  refine Z44 ?_;refine W.drawQ [0,1,0,7,15,0,32,0,224,480,1023,2047] 10 Ab (by kernel_rfl) ?_;refine Z37 ?_
  refine D.go (h:=Q.indexAddr (i) (A5 x.kids[i]) (fun _=>Am hlt)) (hr:=?_)
  refine Pi ?_
  refine D.go (h:=Q.indexAddr (i) (A5 y.kids[i]) (fun _=>Am hly)) (hr:=?_)
  refine Z84 ?_;refine R.call Tryz.call28 (ih x.kids[i] (hok.2.2 _ (List.getElem_mem hlt)) y.kids[i] _) ?_;refine R.go ?_;refine R.fin [2,3,5,52] ?_
  refine W.cond (fun ht52=>?_) (fun ht52=>?_)
  ·have hf:eqE x y=false:=by rw [Wg,Wf hlt hly (by simpa using ht52),Bool.and_false]
   refine Z61 ?_;exact AAn
  have he:eqE x.kids[i] y.kids[i]=true:=by simpa using ht52
  refine Z58 ?_;refine R.fin [2,3,5] ?_;exact K.lpN (i+1) ⟨hlt,fp hlt hly hi.2 he⟩ (by omega) (StCut.of_eq rfl)
 have hxe:x.kids.length≤i:=by simpa using ht38
 refine Z47 ?_;refine Z61 ?_;exact K.fin (V.one V.tmp) ⟨by rw [Wg,hh,Mz hlen (fun j a b hj=>hi.2 j a b (by omega))];rfl,rfl⟩

theorem c81 (n:Nat) (a b:List Expr) (ha:a.length≤1048576) (hok:∀y∈a,okE n y) (ih:∀(x:Expr),okE n x→∀(y:Expr) (Hp:List AObj),AFun Tryz.prog 74 [A5 x,A5 y] Hp (Ap (eqE x y))) (Hp:List AObj):AFun Tryz.prog 81 [.slice false 6 (a.map A5),.slice false 6 (b.map A5),.fn (.func 74) [] []] Hp (Ap (eqL a b)):=by
 refine ACall.body [.tmp 6] [0,1,2] Tryz.func81 Tryz.ntmps81 (fun d=>?_)
 refine Z0 ?_;refine R.fin [0,1,2] ?_;refine Z73 ?_;refine R.fin [0,1,2,14] ?_
 refine W.cond (fun ht14=>?_) (fun ht14=>?_)
 ·have hf:eqL a b=false:=fm (by have:=ht14;simp at this;omega)
  refine Vq ?_;refine K.thR ?_;exact xq
 have hlen:a.length=b.length:=by have:=ht14;simp at this;omega
 refine Xl ?_;refine ji ?_
 refine AW.loopC (α:=Nat) (fun i=>⟨32,A6 1 (.slice false 6 (b.map A5)) (A6 2 (.fn (.func 74) [] []) (A6 15 (.slice false 6 (a.map A5)) (A6 16 (A3 (a.length:Nat)) (A6 17 (A3 (i:Nat)) (fun _=>.any))))),Hp,[],[],none⟩) (fun i=>i≤a.length∧∀(j:Nat) (y z:Expr),j<i→a[j]? = some y→b[j]? = some z→eqE y z=true) (fun i=>a.length-i) (0) ⟨Nat.zero_le _,fun j y z h=>by omega⟩ (StLe.of_eq (by simp)) rfl (fun i hi=>?_)
 refine Z0 ?_;refine R.fin [1,2,15,16,17,18] ?_
 refine W.condX (fun ht18=>?_) (fun ht18=>?_)
 ·have hlt:i<a.length:=by simpa using ht18
  have hlb:i<b.length:=by omega
  refine ax ?_
  refine R.go (h:=Q.indexAddr (i) (A5 a[i]) (fun _=>Am hlt)) (hr:=?_)
  refine R.go ?_;refine ja ?_;refine R.fin [1,2,7,8,15,16,17] ?_;refine Z3 ?_
  refine R.go (h:=Q.indexAddr (i) (A5 b[i]) (fun _=>Am hlb)) (hr:=?_)
  refine Xi ?_;refine R.fin [1,2,8,9,15,16,17] ?_;refine Z19 ?_;refine R.callV Tryz.call74 (ih a[i] (hok _ (List.getElem_mem hlt)) b[i] _) ?_;refine R.go ?_;refine R.fin [1,2,15,16,17,30] ?_
  refine W.cond (fun ht30=>?_) (fun ht30=>?_)
  ·have hf:eqL a b=false:=Wf hlt hlb (by simpa using ht30)
   refine Vq ?_;exact AAn
  have he:eqE a[i] b[i]=true:=by simpa using ht30
  refine T5 ?_;refine ji ?_;refine K.lpN (i+1) ⟨hlt,fp hlt hlb hi.2 he⟩ (by omega) ?_
  exact StCut.take (own:=[]) (fun _=>.refl _) (by repeat (first|exact C5|refine C4 (by first|exact Dy|(simp;done)) ?_)) (by simp) (by simp)
 have hxe:a.length≤i:=by simpa using ht18
 refine Z23 ?_;refine Vq ?_;exact K.fin (V.one V.tmp) ⟨by rw [Mz hlen (fun j y z hj=>hi.2 j y z (by omega))],rfl⟩

theorem c74:∀(n:Nat) (x:Expr),okE n x→∀(y:Expr) (Hp:List AObj),AFun Tryz.prog 74 [A5 x,A5 y] Hp (Ap (eqE x y)):=by
 intro n
 induction n with
 | zero=>exact fun x h=>h.elim
 | succ n ih =>
 intro x hok y Hp
 refine ACall.body [.tmp 4] [0,1] Tryz.func74 Tryz.ntmps74 (fun d=>?_)
 refine Z19 ?_;refine Jv ?_;refine Z19 ?_;refine Z6 ?_;refine jg ?_;refine Z4 ?_
 refine G.go (h:=Q.eqlAgg nr (fun w=>Mj x.val.kind x.val.n y.val.kind y.val.n x.val.s y.val.s w)) (hr:=?_)
 refine Vs ?_;refine G.call Tryz.call81 (fun hB=>c81 n x.kids y.kids hok.2.1 hok.2.2 ih _) ?_;refine Z1 ?_;refine Z17 ?_;exact K.fin (V.one V.tmp) ⟨by rw [ot],rfl⟩

set_option maxRecDepth 8000
/-! Moves: what mig.Right, sound.* and the document's layers 18, 19 answer. -/
structure Mov where
 kind:Int
 take:List Str
 give:List Col
 ahead:List Expr
 back:List Expr
abbrev Ip (l:List Expr):AV:=.slice false 6 (l.map A5)
abbrev I0 (m:Mov):List AV:=[A3 m.kind,Du m.take,Mi m.give,Ip m.ahead,Ip m.back]
abbrev Dp (m:Mov):AV:=.agg (I0 m)
abbrev Ca (l:List Mov):AV:=.slice false 5 (l.map Dp)
/-- Trees that may be walked. -/
structure OkEs (l:List Expr):Prop where
 len:l.length≤1048576
 ok:∀e∈l,okE 61 e
 size:∀e∈l,sizeE e≤1048576
 rng:∀e∈l,B0 D6 e=true
structure OkMov (m:Mov):Prop where
 takes:m.take.length≤1048576
 names:∀s∈m.take,s.length≤1048576
 gives:OkCols m.give
 gives2:m.give.length≤1000000
 ahead:OkEs m.ahead
 back:OkEs m.back
structure OkMovs (l:List Mov):Prop where
 len:l.length≤1048576
 each:∀m∈l,OkMov m
def Bs (m:Mov):Bool:=
 if ((m.ahead.length:Int) != (m.give.length:Int)) || ((m.back.length:Int) != (m.take.length:Int)) then false
 else if m.kind==1 then ((m.take.length:Int)==0)&&((m.give.length:Int)==1)
 else if m.kind==2 then ((m.take.length:Int)==1)&&((m.give.length:Int)==0)
 else if (m.kind==3) || (m.kind==6) then ((m.take.length:Int)==1)&&((m.give.length:Int)==1)
 else if m.kind==4 then ((m.take.length:Int)==1)&&decide ((1:Int)<(m.give.length:Int))
 else if m.kind==5 then decide ((1:Int)<(m.take.length:Int))&&((m.give.length:Int)==1)
 else false
def Ef (m:Mov) (c:Col):Bool:=Bf c.name&&(((Ah c.kind==[])==(m.kind==3)) && !((m.kind==3)&&(c.kind != 0)))
def E8 (m:Mov):Bool:=
 if m.kind==3 then eqE (m.ahead.getD 0 Ad) (Aq (m.take.getD 0 []))&&eqE (m.back.getD 0 Ad) (Aq (m.give.getD 0 ⟨[],0⟩).name)
 else if m.kind==6 then m.take.getD 0 []==(m.give.getD 0 ⟨[],0⟩).name else true
def Cf (m:Mov):Bool:=(((((Bs m&&m.give.all (Ef m))&&m.take.all Bf)&&m.ahead.all B4)&&m.back.all B4)&&E8 m)
def I1 (l:List Mov):Bool:=decide ((l.length:Int)≤8)&&l.all Cf
/-! Columns behind moves. -/
theorem Fs {m:Mov} (h:Cf m=true):Bs m=true:=by
 unfold Cf at h
 simp only [Bool.and_eq_true] at h
 exact h.1.1.1.1.1
theorem Dq {m:Mov} (h:Bs m=true):m.ahead.length=m.give.length∧m.back.length=m.take.length:=by
 unfold Bs at h
 split at h
 ·cases h
 rename_i h1
 simp only [Bool.or_eq_true,bne_iff_ne,ne_eq,not_or,Classical.not_not] at h1
 omega
theorem Iz {m:Mov} (h:Bs m=true) (h3:((m.kind==3) || (m.kind==6))=true):m.take.length=1∧m.give.length=1:=by
 unfold Bs at h
 split at h
 ·cases h
 have h1:(m.kind==1)=false:=by simp at h3 ⊢;omega
 have h2:(m.kind==2)=false:=by simp at h3 ⊢;omega
 simp only [h1,h2,h3,if_true,if_false,Bool.false_eq_true,Bool.and_eq_true,beq_iff_eq] at h
 omega
set_option maxRecDepth 4000
/-! mig.Parse: the first fault is Fd. -/
inductive PR (α:Type) where
 | ok (r:α) (i:Nat)
 | bad (e a:Int)
def PR.bind {α β:Type} (x:PR α) (f:α→Nat→PR β):PR β:=match x with
 | .ok r i=>f r i
 | .bad e a=>.bad e a
def Uf {α:Type} (L:List Tok) (i:Nat) (e:Int):PR α:=.bad e (A7 L i).at_
def isP (L:List Tok) (s:Str) (i:Nat):Bool:=(((A7 L i).kind==5) || ((A7 L i).kind==2))&&((A7 L i).text==s)
def Bc (L:List Tok) (s:Str) (i:Nat):PR Unit:=if isP L s i then .ok () (i+1) else Uf L i 8
def De (L:List Tok) (i:Nat):PR Str:=if (A7 L i).kind != 1 then Uf L i 8 else .ok (A7 L i).text (i+1)
def N0 (L:List Tok) (nm:Str) (j:Nat):PR Col:=if ((A7 L j).kind != 2) || (Ig (A7 L j).text==0) then Uf L j 8 else .ok ⟨nm,Ig (A7 L j).text⟩ (j+1)
def Ez (L:List Tok) (i:Nat):PR Col:=(De L i).bind (N0 L)
def Fw (L:List Tok) (i:Nat):PR Expr:=if (atM L i).2.2.1 != 0 then .bad (atM L i).2.2.1 (atM L i).2.2.2 else .ok (atM L i).1 (atM L i).2.1.toNat
def Bi (m:Mov) (c:Col):Mov:={ m with give:=m.give++[c] }
def J0 (m:Mov) (x:Expr):Mov:={ m with ahead:=m.ahead++[x] }
def C0 (L:List Tok) (m:Mov) (i:Nat):PR Mov:=(Ez L i).bind fun c j=>(Bc L [61] j).bind fun _ j=>(Fw L j).bind fun x j=>.ok (J0 (Bi m c) x) j
def H7 (L:List Tok) (n:Int) (k:Nat) (i:Nat):Bool:=decide ((k:Int)<n) || ((n==0)&&(decide ((k:Int)<2) || isP L [44] i))
/-- Things with commas between, behind the first k. -/
def Fz (L:List Tok) (n:Int) (one:Mov→Nat→PR Mov):Nat→Nat→Mov→Nat→PR Mov
 | 0,_,m,i=>.ok m i
 | f+1,k,m,i=>if H7 L n k i then (Bc L [44] i).bind fun _ j=>(one m j).bind fun m j=>Fz L n one f (k+1) m j else .ok m i
def Df (L:List Tok) (n:Int) (one:Mov→Nat→PR Mov) (m:Mov) (i:Nat):PR Mov:=(one m i).bind fun m j=>Fz L n one (L.length+1) 1 m j
def backW:Str:=[98,97,99,107]
def intoW:Str:=[105,110,116,111]
def toW:Str:=[116,111]
def P9 (m:Mov) (x:Expr):Mov:={ m with back:=m.back++[x] }
def Kl (L:List Tok) (m:Mov) (i:Nat):PR Mov:=(Fw L i).bind fun x j=>.ok (P9 m x) j
def Ck (L:List Tok) (m:Mov) (i:Nat):PR Mov:=(Bc L backW i).bind fun _ j=>Df L m.take.length (Kl L) m j
def Gf (L:List Tok) (m:Mov) (i:Nat):PR Mov:=(De L i).bind fun s j=>(Bc L toW j).bind fun _ j=>(De L j).bind fun t j=>.ok ⟨m.kind,[s],[⟨t,0⟩],[Aq s],[Aq t]⟩ j
def takeS (m:Mov) (s:Str):Mov:={ m with take:=[s] }
def S7 (m:Mov) (s:Str):Mov:={ m with take:=m.take++[s] }
def Ii (L:List Tok) (m:Mov) (i:Nat):PR Mov:=(De L i).bind fun s j=>.ok (S7 m s) j
def Ei (L:List Tok) (m:Mov) (i:Nat):PR Mov:=
 if m.kind==1 then C0 L m i
 else if m.kind==2 then (De L i).bind fun s j=>Ck L (takeS m s) j
 else if m.kind==3 then Gf L m i
 else if m.kind==4 then (De L i).bind fun s j=>(Bc L intoW j).bind fun _ j=>(Df L 0 (C0 L) (takeS m s) j).bind fun m j=>Ck L m j
 else if m.kind==5 then (Df L 0 (Ii L) m i).bind fun m j=>(Bc L intoW j).bind fun _ j=>(C0 L m j).bind fun m j=>Ck L m j
 else if m.kind==6 then (C0 L m i).bind fun m j=>Ck L (takeS m (m.give.getD 0 ⟨[],0⟩).name) j
 else .ok m i
def migWords:List Str:=[[],[97,100,100],[100,114,111,112],[114,101,110,97,109,101],[115,112,108,105,116],[109,101,114,103,101],[114,101,116,121,112,101]]
def Av (k:Int):Str:=if (decide (k<1) || decide (6<k))=true then [] else migWords.getD k.toNat []
def D7 (s:Str):Int:=if Av 1==s then 1 else if Av 2==s then 2 else if Av 3==s then 3 else if Av 4==s then 4 else if Av 5==s then 5 else if Av 6==s then 6 else 0
def F8 (L:List Tok) (i:Nat):PR Mov:=
 if ((A7 L i).kind != 2) || (D7 (A7 L i).text==0) then Uf L i 8
 else (Ei L ⟨D7 (A7 L i).text,[],[],[],[]⟩ (i+1)).bind fun m j=>(Bc L [59] j).bind fun _ j=>.ok m j
/-- Moves, behind some. -/
def Cr (L:List Tok):Nat→List Mov→Nat→PR (List Mov)
 | 0,l,i=>.ok l i
 | f+1,l,i=>if (A7 L i).kind != 0 then (if (l.length:Int)==8 then Uf L i 3 else (F8 L i).bind fun m j=>Cr L f (l++[m]) j) else .ok l i
def I2 (L:List Tok):PR (List Mov):=Cr L 9 [] 0
/-- The moves; the fault's code and place. -/
def I9 (s:Str):List Mov×Int×Int:=
 if (Db s).2.1 != 0 then ([],(Db s).2.1,(Db s).2.2)
 else match I2 (Db s).1 with
  | .ok l _=>(l,0,0)
  | .bad e a=>([],e,a)
/-! Where the parser of moves comes to. -/
def PR.In {α:Type} (x:PR α) (i n:Nat):Prop:=∀r j,x=.ok r j→i<j∧j<n
theorem PR.bind_ok {α β:Type} {x:PR α} {f:α→Nat→PR β} {r:β} {j:Nat} (h:x.bind f=.ok r j):∃a k,x=.ok a k∧f a k=.ok r j:=by
 cases x with
 | ok a k=>exact ⟨a,k,rfl,h⟩
 | bad e a=>cases h
theorem vf {L:List Tok} {s:Str} {i:Nat} (h:isP L s i=true):(A7 L i).kind≠0:=by
 unfold isP at h
 simp only [Bool.and_eq_true,Bool.or_eq_true,beq_iff_eq] at h
 rcases h.1 with h|h<;>rw [h]<;>decide
theorem D8 {L:List Tok} (hl:TokEnd L) {s:Str} {i:Nat} (hi:i<L.length):(Bc L s i).In i L.length:=by
 intro r j h
 unfold Bc at h
 split at h
 ·rename_i h1
  injection h with _ h
  subst h
  exact ⟨Nat.lt_succ_self i,hl.step hi (vf h1)⟩
 cases h
theorem Ej {L:List Tok} (hl:TokEnd L) {i:Nat} (hi:i<L.length):(De L i).In i L.length:=by
 intro r j h
 unfold De at h
 split at h
 ·cases h
 rename_i h1
 injection h with _ h
 subst h
 have hk:(A7 L i).kind=1:=by simpa using h1
 exact AB3
theorem vg {L:List Tok} (hl:TokEnd L) {nm:Str} {i:Nat} (hi:i<L.length):(N0 L nm i).In i L.length:=by
 intro r j h
 unfold N0 at h
 split at h
 ·cases h
 rename_i h1
 injection h with _ h
 subst h
 have hk:(A7 L i).kind=2:=by simp only [Bool.not_eq_true,Bool.or_eq_false_iff,bne_eq_false_iff_eq] at h1;exact h1.1
 exact AB3
theorem O7 {L:List Tok} (hl:TokEnd L) {i:Nat} (hi:i<L.length):(Ez L i).In i L.length:=by
 intro r j h
 obtain ⟨a,k,h1,h2⟩:=PR.bind_ok h
 obtain ⟨a1,a2⟩:=Ej hl hi _ _ h1
 obtain ⟨b1,b2⟩:=vg hl a2 _ _ h2
 exact ⟨by omega,b2⟩
theorem Jk {L:List Tok} (hl:TokEnd L) (hll:L.length≤500000) {i:Nat} (hi:i<L.length) {x:Expr} {k:Nat} (h:Fw L i=.ok x k):i≤k∧k<L.length:=by
 unfold Fw at h
 split at h
 ·cases h
 rename_i h0
 injection h with _ h
 subst h
 have h0:(atM L i).2.2.1=0:=by simpa using h0
 have hq:=S5 hl (by omega:L.length≤1048576) hi
 unfold atM at h0 ⊢
 split at h0
 ·rename_i h1
  have:(atS L i (atR L i)).code=0:=h0
  rw [this] at h1
  cases h1
 rename_i h1
 rw [if_neg h1]
 have e:(atS L i (atR L i)).i=(atR L i).2.i:=by
  unfold atS
  repeat' split
  all_goals first|rfl|exact failM_i.1
 show i≤((atS L i (atR L i)).i:Int).toNat∧((atS L i (atR L i)).i:Int).toNat<_
 rw [Int.toNat_natCast,e]
 exact ⟨hq.le,hq.lt⟩
/-- A move has no more parts than so many. -/
structure MvLe (m:Mov) (n:Nat):Prop where
 take:m.take.length≤n
 give:m.give.length≤n
 ahead:m.ahead.length≤n
 back:m.back.length≤n
theorem MvLe.mono {m:Mov} {i j:Nat} (h:MvLe m i) (hij:i≤j):MvLe m j:=⟨Nat.le_trans h.take hij,Nat.le_trans h.give hij,Nat.le_trans h.ahead hij,Nat.le_trans h.back hij⟩
/-- What a part of a move comes to. -/
def yq (x:PR Mov) (i n:Nat):Prop:=∀m j,x=.ok m j→i≤j∧j<n∧MvLe m (2*j)
/-- A part of a move that goes on from i. -/
def Tf (L:List Tok) (one:Mov→Nat→PR Mov):Prop:=∀m i,MvLe m (2*i-1)→0<i→i<L.length→yq (one m i) i L.length
theorem Hg {L:List Tok} (hl:TokEnd L) (hll:L.length≤500000):Tf L (C0 L):=by
 intro m i hm _ hi m' k h
 obtain ⟨c,j,h1,h2⟩:=PR.bind_ok h
 obtain ⟨u,j2,h3,h4⟩:=PR.bind_ok h2
 obtain ⟨x,j3,h5,h6⟩:=PR.bind_ok h4
 injection h6 with h6 h7
 subst h6;subst h7
 have a1:=O7 hl hi _ _ h1
 have a2:=D8 hl a1.2 _ _ h3
 have a3:=Jk hl hll a2.2 h5
 obtain ⟨b1,b2,b3,b4⟩:=hm
 exact ⟨by omega,a3.2,by show m.take.length≤_;omega,by show (m.give++[c]).length≤_;rw [List.length_append,List.length_singleton];omega,by show (m.ahead++[x]).length≤_;rw [List.length_append,List.length_singleton];omega,by show m.back.length≤_;omega⟩
theorem S8 {L:List Tok} (hl:TokEnd L) (hll:L.length≤500000):Tf L (Kl L):=by
 intro m i hm h0 hi m' k h
 obtain ⟨x,j,h1,h2⟩:=PR.bind_ok h
 injection h2 with h6 h7
 subst h6;subst h7
 have a3:=Jk hl hll hi h1
 obtain ⟨b1,b2,b3,b4⟩:=hm
 exact ⟨by omega,a3.2,by show m.take.length≤_;omega,by show m.give.length≤_;omega,by show m.ahead.length≤_;omega,by show (m.back++[x]).length≤_;rw [List.length_append,List.length_singleton];omega⟩
theorem N1 {L:List Tok} (hl:TokEnd L):Tf L (Ii L):=by
 intro m i hm _ hi m' k h
 obtain ⟨s,j,h1,h2⟩:=PR.bind_ok h
 injection h2 with h6 h7
 subst h6;subst h7
 have a1:=Ej hl hi _ _ h1
 obtain ⟨b1,b2,b3,b4⟩:=hm
 exact ⟨by omega,a1.2,by show (m.take++[s]).length≤_;rw [List.length_append,List.length_singleton];omega,by show m.give.length≤_;omega,by show m.ahead.length≤_;omega,by show m.back.length≤_;omega⟩
theorem I3 {L:List Tok} {s:Str} {i:Nat} {u:Unit} {j:Nat} (h:Bc L s i=.ok u j):j=i+1:=by
 unfold Bc at h
 split at h
 ·injection h with _ h;exact h.symm
 cases h
theorem Yk {L:List Tok} (hl:TokEnd L) {n:Int} {one:Mov→Nat→PR Mov} (hP:Tf L one):∀(f k:Nat) (m:Mov) (i:Nat),MvLe m (2*i)→0<i→i<L.length→yq (Fz L n one f k m i) i L.length
 | 0,k,m,i,hm,h0,hi=>fun m' j h=>by
  injection h with h1 h2
  subst h1;subst h2
  exact ⟨Nat.le_refl _,hi,hm⟩
 | f+1,k,m,i,hm,h0,hi=>fun m' j h=>by
  rw [Fz] at h
  split at h
  ·obtain ⟨u,j1,h1,h2⟩:=PR.bind_ok h
   obtain ⟨m1,j2,h3,h4⟩:=PR.bind_ok h2
   have e:=I3 h1
   have a1:=D8 hl hi _ _ h1
   obtain ⟨b1,b2,b3⟩:=hP m j1 (hm.mono (by omega)) (by omega) a1.2 _ _ h3
   obtain ⟨c1,c2,c3⟩:=Yk hl hP f (k+1) m1 j2 b3 (by omega) b2 _ _ h4
   exact b7
  injection h with h1 h2
  subst h1;subst h2
  exact ⟨Nat.le_refl _,hi,hm⟩
theorem N2 {L:List Tok} (hl:TokEnd L) {n:Int} {one:Mov→Nat→PR Mov} (hP:Tf L one):Tf L (Df L n one):=by
 intro m i hm h0 hi m' k h
 obtain ⟨m1,j,h1,h2⟩:=PR.bind_ok h
 obtain ⟨b1,b2,b3⟩:=hP m i hm h0 hi _ _ h1
 obtain ⟨c1,c2,c3⟩:=Yk hl hP _ _ m1 j b3 (by omega) b2 _ _ h2
 exact b7
theorem Pu {L:List Tok} (hl:TokEnd L) (hll:L.length≤500000) {m:Mov} {i:Nat} (hm:MvLe m (2*i)) (hi:i<L.length):yq (Ck L m i) i L.length:=by
 intro m' k h
 obtain ⟨u,j,h1,h2⟩:=PR.bind_ok h
 have e:=I3 h1
 have a1:=D8 hl hi _ _ h1
 obtain ⟨c1,c2,c3⟩:=N2 hl (S8 hl hll) m j (hm.mono (by omega)) (by omega) a1.2 _ _ h2
 exact b7
theorem kt {L:List Tok} (hl:TokEnd L):Tf L (Gf L):=by
 intro m i hm h0 hi m' k h
 obtain ⟨s,j,h1,h2⟩:=PR.bind_ok h
 obtain ⟨u,j2,h3,h4⟩:=PR.bind_ok h2
 obtain ⟨t,j3,h5,h6⟩:=PR.bind_ok h4
 injection h6 with h6 h7
 subst h6;subst h7
 have a1:=Ej hl hi _ _ h1
 have a2:=D8 hl a1.2 _ _ h3
 have a3:=Ej hl a2.2 _ _ h5
 exact ⟨by omega,a3.2,by show 1≤_;omega,by show 1≤_;omega,by show 1≤_;omega,by show 1≤_;omega⟩
theorem MvLe.takeS {m:Mov} {n:Nat} (h:MvLe m n) {s:Str} (h1:1≤n):MvLe (takeS m s) n:=⟨h1,h.give,h.ahead,h.back⟩
theorem Wh {L:List Tok} (hl:TokEnd L) (hll:L.length≤500000):Tf L (Ei L):=by
 intro m i hm h0 hi m' k h
 unfold Ei at h
 split at h
 ·exact Hg hl hll m i hm h0 hi _ _ h
 split at h
 ·obtain ⟨s,j,h1,h2⟩:=PR.bind_ok h
  have a1:=Ej hl hi _ _ h1
  obtain ⟨c1,c2,c3⟩:=Pu hl hll ((hm.mono (by omega:2*i-1≤2*j)).takeS (by omega)) a1.2 _ _ h2
  exact b7
 split at h
 ·exact kt hl m i hm h0 hi _ _ h
 split at h
 ·obtain ⟨s,j,h1,h2⟩:=PR.bind_ok h
  obtain ⟨u,j2,h3,h4⟩:=PR.bind_ok h2
  obtain ⟨m1,j3,h5,h6⟩:=PR.bind_ok h4
  have a1:=Ej hl hi _ _ h1
  have a2:=D8 hl a1.2 _ _ h3
  obtain ⟨b1,b2,b3⟩:=N2 hl (Hg hl hll) (takeS m s) j2 ((hm.mono (by omega:2*i-1≤2*j2-1)).takeS (by omega)) (by omega) a2.2 _ _ h5
  obtain ⟨c1,c2,c3⟩:=Pu hl hll b3 b2 _ _ h6
  exact b7
 split at h
 ·obtain ⟨m1,j,h1,h2⟩:=PR.bind_ok h
  obtain ⟨u,j2,h3,h4⟩:=PR.bind_ok h2
  obtain ⟨m2,j3,h5,h6⟩:=PR.bind_ok h4
  obtain ⟨b1,b2,b3⟩:=N2 hl (N1 hl) m i hm h0 hi _ _ h1
  have e:=I3 h3
  have a2:=D8 hl b2 _ _ h3
  obtain ⟨d1,d2,d3⟩:=Hg hl hll m1 j2 (b3.mono (by omega)) (by omega) a2.2 _ _ h5
  obtain ⟨c1,c2,c3⟩:=Pu hl hll d3 d2 _ _ h6
  exact b7
 split at h
 ·obtain ⟨m1,j,h1,h2⟩:=PR.bind_ok h
  obtain ⟨d1,d2,d3⟩:=Hg hl hll m i hm h0 hi _ _ h1
  obtain ⟨c1,c2,c3⟩:=Pu hl hll (d3.takeS (by omega)) d2 _ _ h2
  exact b7
 injection h with h1 h2
 subst h1;subst h2
 exact ⟨Nat.le_refl _,hi,hm.mono (by omega)⟩
set_option maxRecDepth 8000
/-! The words of a print. -/
/-- This text, before that one, is these words. -/
def Lx (u:Str) (T:List TK) (R:Str):Prop:=∀f q,(u++R).length<f→∃M:List Tok,M.map ktT=T∧Jw f q (u++R)=M.map (fun t=>(t,0))++Jw f (q+u.length) R
theorem Lx.nil (R:Str):Lx [] [] R:=fun f q _=>⟨[],rfl,by simp⟩
theorem Lx.app {u v:Str} {T V:List TK} {R:Str} (h1:Lx u T (v++R)) (h2:Lx v V R):Lx (u++v) (T++V) R:=fun f q hf=>by
 obtain ⟨M,hM,e1⟩:=h1 f q (by simpa using hf)
 obtain ⟨N,hN,e2⟩:=h2 f (q+u.length) (by simp at hf ⊢;omega)
 refine ⟨M++N,by rw [List.map_append,hM,hN],?_⟩
 rw [List.append_assoc,e1,e2,List.map_append,List.append_assoc,List.length_append,Nat.add_assoc]
theorem ku {f f' q:Nat} {s:Str} (h1:s.length<f) (h2:s.length<f'):Jw f q s=Jw f' q s:=by
 have:=W4 s
 unfold Jw
 exact P7 f f' _ _ (by rw [List.length_drop];omega) (by rw [List.length_drop];omega)
theorem Lx.blank (R:Str):Lx [32] [] R:=fun f q _=>⟨[],rfl,by simpa using cl f q R⟩
/-- One word, that starts at once. -/
theorem Lx.word {u R:Str} {k:Int} {t:Str} (hu:u≠[]) (hb:blanks.contains (u.headD 0)=false) (h35:u.headD 0≠35) (hw:Aw (u++R)=(k,t,(u.length:Int),0)):Lx u [(k,t)] R:=fun f q hf=>by
 cases u with
 | nil=>exact absurd rfl hu
 | cons c v =>
  have hg:gapM (c::v++R)=0:=by
   unfold gapM
   rw [List.cons_append,Dm,if_neg (by rw [show (c::v).headD 0=c from rfl] at hb;rw [hb];simp),if_neg (by rw [show (c::v).headD 0=c from rfl] at h35;simpa using h35)]
   simp
  cases f with
  | zero=>omega
  | succ f =>
   refine ⟨[⟨k,t,q⟩],rfl,?_⟩
   have hne:(c::v++R==[])=false:=rfl
   have e:Jw (f+1) q (c::v++R)=(⟨k,t,q⟩,0)::Jw f (q+(c::v).length) R:=by
    have hd:(c::v++R).drop (c::v).length=R:=List.drop_left
    unfold Jw
    rw [hg,List.drop_zero,Nat.add_zero,E6,hne,if_neg (by simp),hw]
    simp only [beq_self_eq_true,if_true,Int.toNat_natCast,hd,Nat.add_zero]
   rw [e]
   show _=[((⟨k,t,q⟩:Tok),(0:Int))]++_
   have hl:R.length<f:=by simp at hf;omega
   rw [List.singleton_append,ku hl (show R.length<f+1 by omega)]
/-- What may stand behind a tree, or a name. -/
def Di (R:Str):Prop:=∀c r,R=c::r→c=32∨c=40∨c=41∨c=44∨c=59
theorem Yl {p:UInt8→Bool} {u R:Str} (h:∀c∈u,p c=true) (hR:∀c r,R=c::r→p c=false):(u++R).takeWhile p=u:=by
 induction u with
 | nil =>
  cases R with
  | nil=>rfl
  | cons c r=>rw [List.nil_append,List.takeWhile_cons,hR c r rfl];rfl
 | cons a u ih =>
  rw [List.cons_append,List.takeWhile_cons,h a List.mem_cons_self,if_pos rfl,ih (fun c hc=>h c (List.mem_cons_of_mem _ hc))]
theorem cv {R:Str} (h:Di R):∀c r,R=c::r→tails.contains c=false:=fun c r e=>by
 rcases h c r e with rfl|rfl|rfl|rfl|rfl<;>kernel_rfl
theorem kv {R:Str} (h:Di R):∀c r,R=c::r→digs.contains c=false:=fun c r e=>by
 rcases h c r e with rfl|rfl|rfl|rfl|rfl<;>kernel_rfl
/-- A word of letters. -/
theorem S9 {u R:Str} (hl:letters.contains (u.headD 0)=true) (hu:u≠[]) (ha:∀c∈u,tails.contains c=true) (hR:Di R):Aw (u++R)=if Ct u then (2,u,(u.length:Int),0) else if !Bf u then (0,[],0,3) else (1,u,(u.length:Int),0):=by
 have hw:Bh (u++R) tails=u:=by rw [Hj];exact Yl ha (cv hR)
 cases u with
 | nil=>exact absurd rfl hu
 | cons c v =>
  have h1:decide (0<H1 ((c::v++R).take 1) letters)=true:=by
   have e:(c::v++R).take 1=[c]:=rfl
   have e2:Bh [c] letters=[c]:=by rw [Hj,List.takeWhile_cons,show letters.contains c=true from hl];rfl
   have e3:=Ml [c] letters
   have e4:runN [c] letters=1:=by
    have:(Bh [c] letters).length=1:=by rw [e2];rfl
    unfold Bh at this
    rw [List.length_take] at this
    have hle:runN [c] letters≤1:=Nat.sub_le _ _
    simp at this
    omega
   rw [e,e3,e4]
   rfl
  unfold Aw
  rw [if_pos h1]
  unfold Je
  rw [hw]
theorem cw:(letters.all fun c => !(blanks.contains c) && !(c==35) && !(c==39) && !(c==61))=true:=by kernel_rfl
theorem N3 {c:UInt8} (h:letters.contains c=true):blanks.contains c=false:=by
 have:=List.all_eq_true.1 cw c (by simpa using h)
 simp only [Bool.and_eq_true,Bool.not_eq_true'] at this
 exact this.1.1.1
theorem Sa {t R:Str} (h:E0 t=true) (hR:Di R):Lx t [(1,t)] R:=by
 have h0:=h
 rw [Kb] at h
 simp only [Bool.and_eq_true,Bool.not_eq_true',Bool.or_eq_false_iff,beq_eq_false_iff_ne,decide_eq_false_iff_not,Bool.not_eq_false] at h
 obtain ⟨⟨⟨⟨h1,h2⟩,h3⟩,h4⟩,h5⟩:=h
 have hu:t≠[]:=by rintro rfl;simp at h1
 have hl:letters.contains (t.headD 0)=true:=by rw [Mq];simpa using h3
 have hr:Ct t=false:=by
  have:=Cy t
  rw [h0] at this
  unfold Bf at this
  simp only [Bool.and_eq_true,Bool.not_eq_true'] at this
  exact this.2
 refine Lx.word hu ?_ ?_ ?_
 ·exact N3 hl
 ·intro e;rw [e] at hl;revert hl;decide
 rw [S9 hl hu (fun c hc=>by rw [R5];exact List.all_eq_true.1 h5 c hc) hR,hr,Cy,h0]
 rfl
theorem Jl (c:UInt8) (of:Str):H1 [c] of=if of.contains c then 1 else 0:=by
 have e2:=Hj [c] of
 have e3:=Ml [c] of
 have hle:runN [c] of≤1:=Nat.sub_le _ _
 have hlen:(Bh [c] of).length=runN [c] of:=by unfold Bh;rw [List.length_take];simp;omega
 rw [e3,←hlen,e2,List.takeWhile_cons]
 cases of.contains c<;>rfl
/-- A word that no letter begins, and no digit. -/
theorem Uh {c:UInt8} {R:Str} (hl:letters.contains c=false) (hd:digs.contains c=false) (h39:c≠39):Aw (c::R)=Ke (c::R):=by
 have h1:¬(decide (0<H1 ((c::R).take 1) letters)=true):=by
  rw [show (c::R).take 1=[c] from rfl,Jl,hl];simp
 have h2:¬(decide (0<H1 ((c::R).take 1) digs)=true):=by
  rw [show (c::R).take 1=[c] from rfl,Jl,hd];simp
 have h3:¬(((((c::R).getD 0 0).toNat:Int)==39)=true):=by
  rw [show (c::R).getD 0 0=c from rfl,beq_iff_eq]
  intro h
  exact h39 (UInt8.toNat_inj.1 (by rw [show (39:UInt8).toNat=39 from rfl];omega))
 unfold Aw
 rw [if_neg h1,if_neg h2,if_neg h3]
/-- A mark of one sign. -/
theorem Jm {c:UInt8} {R:Str} (hc:(!(letters.contains c) && !(digs.contains c) && !(c==39) && !(blanks.contains c) && !(c==35)&&Lib.contains W0 [c])=true) (hR:∀d r,R=d::r→d≠61):Lx [c] [(5,[c])] R:=by
 simp only [Bool.and_eq_true,Bool.not_eq_true',beq_eq_false_iff_ne] at hc
 obtain ⟨⟨⟨⟨⟨h1,h2⟩,h3⟩,h4⟩,h5⟩,h6⟩:=hc
 refine Lx.word (by simp) h4 h5 ?_
 rw [List.singleton_append,Uh h1 h2 h3]
 have hx:(((((c::R).getD 1 0).toNat:Int)==61))=false:=by
  cases R with
  | nil=>rfl
  | cons d r =>
   rw [show (c::d::r).getD 1 0=d from rfl,beq_eq_false_iff_ne]
   intro h
   exact hR d r rfl (UInt8.toNat_inj.1 (by rw [show (61:UInt8).toNat=61 from rfl];omega))
 unfold Ke
 rw [hx,Bool.and_false,if_neg (by simp),if_pos (by rw [show (c::R).take 1=[c] from rfl];exact h6)]
 rfl
/-- A mark of two signs. -/
theorem Wi {c:UInt8} {R:Str} (hc:(!(letters.contains c) && !(digs.contains c) && !(c==39) && !(blanks.contains c) && !(c==35)&&Lib.contains Vz [c,61])=true):Lx [c,61] [(5,[c,61])] R:=by
 simp only [Bool.and_eq_true,Bool.not_eq_true',beq_eq_false_iff_ne] at hc
 obtain ⟨⟨⟨⟨⟨h1,h2⟩,h3⟩,h4⟩,h5⟩,h6⟩:=hc
 refine Lx.word (by simp) h4 h5 ?_
 rw [show [c,61]++R=c::61::R from rfl,Uh h1 h2 h3]
 unfold Ke
 have hl:decide ((1:Int)<((c::61::R).length:Int))=true:=by simp;omega
 rw [if_pos (by rw [hl,show (c::61::R).take 2=[c,61] from rfl,h6];rfl)]
 rfl
/-- A reserved word. -/
theorem Sb {u R:Str} (hu:(!(u==[])&&letters.contains (u.headD 0)&&(u.all fun c=>tails.contains c)&&Ct u)=true) (hR:Di R):Lx u [(2,u)] R:=by
 simp only [Bool.and_eq_true,Bool.not_eq_true',beq_eq_false_iff_ne] at hu
 obtain ⟨⟨⟨h1,h2⟩,h3⟩,h4⟩:=hu
 refine Lx.word h1 (N3 h2) (fun e=>by rw [e] at h2;revert h2;decide) ?_
 rw [S9 h2 h1 (fun c hc=>List.all_eq_true.1 h3 c hc) hR,h4]
 rfl
/-- A number. -/
theorem ABw {n:Int} (h0:0≤n) (h1:n≤9223372036854775807) {R:Str} (hR:Di R):Lx (Lib.itoa n) [(3,Lib.itoa n)] R:=by
 obtain ⟨u,rfl⟩:∃u:Nat,n=(u:Int):=⟨n.toNat,by omega⟩
 have e0:Lib.itoa (u:Int)=Lib.decDigits u:=by unfold Lib.itoa;rw [if_neg (by omega)];simp
 have hr:=Yh h0 h1
 rw [e0] at hr ⊢
 obtain ⟨c,r,hcr,_⟩:=My u
 have hall:=Mx u
 have hcd:digs.contains c=true:=hall c (by rw [hcr];exact List.mem_cons_self)
 have hda:(digs.all fun c => !(letters.contains c) && !(blanks.contains c) && !(c==35))=true:=by kernel_rfl
 have hc:=List.all_eq_true.1 hda c (by simpa using hcd)
 simp only [Bool.and_eq_true,Bool.not_eq_true',beq_eq_false_iff_ne] at hc
 have hw:Bh (Lib.decDigits u++R) digs=Lib.decDigits u:=by rw [Hj];exact Yl hall (kv hR)
 refine Lx.word (by rw [hcr];simp) (by rw [hcr];exact hc.1.2) (by rw [hcr];exact hc.2) ?_
 have h1':¬(decide (0<H1 ((Lib.decDigits u++R).take 1) letters)=true):=by
  rw [hcr,show (c::r++R).take 1=[c] from rfl,Jl,hc.1.1];simp
 have h2':decide (0<H1 ((Lib.decDigits u++R).take 1) digs)=true:=by
  rw [hcr,show (c::r++R).take 1=[c] from rfl,Jl,hcd];simp
 unfold Aw
 rw [if_neg h1',if_pos h2']
 unfold Mm
 rw [hw,hr]
/-! What a tree comes to: eval's model. -/
abbrev Rs:=Val×Int
def Sc (e:Int):Rs:=(noV,e)
def ABx (s:Str):Val:=⟨2,0,s.take 200⟩
def Sd (a:Int):Int:=if decide (a<0) then IntKind.u64.wrap (0-IntKind.u64.wrap a) else IntKind.u64.wrap a
def I4 (r:Rs):Rs:=if (r.2==0)&&(r.1.kind != 0)&&(r.1.kind != 3) then Sc 10 else r
def pt (strong:Val) (a b:Rs):Rs:=if ((I4 a).2 != 0) || ((I4 a).1==strong) then I4 a else if (((I4 b).2 != 0) || ((I4 b).1==strong)) || ((I4 a).1.kind != 0) then I4 b else ((I4 a).1,0)
def ifW:Str:=[105,102]
def vh:Str:=[110,118,108]
def N4:Str:=[105,115,110,117,108,108]
def ABy (t:Str) (a b c:Rs):Rs:=
 if t==ifW then (if (I4 a).2 != 0 then Sc (I4 a).2 else if (I4 a).1==Xp true then b else c)
 else if a.2 != 0 then Sc a.2 else if t==N4 then (Xp (a.1.kind==0),0) else if a.1.kind != 0 then (a.1,0) else b
def ADs (strict:List Val→Rs) (l:List Rs):Rs:=match l.find? (fun q=>q.2 != 0) with|some q=>Sc q.2|none=>if l.any (fun q=>q.1.kind==0) then (noV,0) else strict (l.map (·.1))
def Se (c:List Col) (l:List Val) (t:Str):Rs:=if ee t c<0 then Sc 9 else (l.getD (ee t c).toNat noV,0)
def orW:Str:=[111,114]
def ADt:Str:=[97,110,100]
/-- A node, of what its kids come to; what a strict node comes to is a parameter. -/
def wy (strict:Int→Str→List Val→Rs) (c:List Col) (l:List Val) (o:Int) (t:Str) (v:Val) (ks:List Rs):Rs:=
 if o==1 then (v,0) else if o==2 then Se c l t
 else if (o==5)&&(t==orW) then pt (Xp true) (ks.getD 0 (noV,0)) (ks.getD 1 (noV,0))
 else if (o==5)&&(t==ADt) then pt (Xp false) (ks.getD 0 (noV,0)) (ks.getD 1 (noV,0))
 else if (o==6)&&(((t==ifW) || (t==vh)) || (t==N4)) then ABy t (ks.getD 0 (noV,0)) (ks.getD 1 (noV,0)) (ks.getD 2 (noV,0))
 else ADs (strict o t) ks
mutual
def Pa (strict:Int→Str→List Val→Rs) (c:List Col) (l:List Val):Expr→Rs
 | .mk o t v k=>wy strict c l o t v (Ui strict c l k)
def Ui (strict:Int→Str→List Val→Rs) (c:List Col) (l:List Val):List Expr→List Rs
  | []=>[]
  | e::r=>Pa strict c l e::Ui strict c l r
 end
/-! A tree in a column's place comes to what its value would there. -/
mutual
theorem eval_put {f:Int→Str→List Val→Rs} {c:List Col} {l m:List Val} {s:Str} {y:Expr} (hs:Se c m s=Pa f c l y) (ho:∀t,t≠s→Se c m t=Se c l t):∀x:Expr,Pa f c l (yk s y x)=Pa f c m x
 | .mk o t v k=>by
  rw [yk]
  split
  ·rename_i h
   rw [Bool.and_eq_true,beq_iff_eq,beq_iff_eq] at h
   obtain ⟨rfl,rfl⟩:=h
   rw [←hs,Pa]
   rfl
  rename_i h
  rw [Pa,Pa,Uj hs ho k]
  unfold wy
  by_cases h2:(o==2)=true
  ·have:t≠s:=fun e=>h (by rw [h2,e];simp)
   rw [ho t this]
  rw [if_neg h2,if_neg h2]
theorem Uj {f:Int→Str→List Val→Rs} {c:List Col} {l m:List Val} {s:Str} {y:Expr} (hs:Se c m s=Pa f c l y) (ho:∀t,t≠s→Se c m t=Se c l t):∀k:List Expr,Ui f c l (uf s y k)=Ui f c m k
  | []=>rfl
  | e::r=>by rw [uf,Ui,Ui,eval_put hs ho e,Uj hs ho r]
 end
/-! Who is not named plays no part. -/
/-! What a strict node comes to. -/
/-! Values are plain, and their numbers have 64 bits. -/
structure Fine (v:Val):Prop where
 plain:Bd v=true
 lo : -9223372036854775808≤v.n
 hi:v.n≤9223372036854775807
theorem pu (s:Str):Fine (ABx s):=⟨by
 unfold Bd ABx
 simp only [show ((2:Int)==0)=false from rfl,show ((2:Int)==1)=false from rfl,show ((2:Int)==2)=true from rfl,Bool.false_eq_true,if_false,if_true,show ((0:Int)==0)=true from rfl,Bool.true_and,decide_eq_true_eq,List.length_take]
 omega,by show -9223372036854775808≤(0:Int);decide,by show (0:Int)≤9223372036854775807;decide⟩
/-! A text between marks. -/
theorem O8 {R:Str} (hR:∀c r,R=c::r→c≠39):∀t:Str,Bm (Bn t++39::R)=some ((Bn t).length+1)
 | []=>by
  show Bm (39::R)=some 1
  cases R with
  | nil=>rfl
  | cons d r =>
   have:(d==39)=false:=by simpa using hR d r rfl
   rw [Bm,if_pos (by decide),this]
   rfl
 | c::t=>by
  rw [G8]
  by_cases hc:c=39
  ·subst hc
   rw [show Mr 39=[39,39] from rfl]
   show Bm (39::39::(Bn t++39::R))=_
   rw [Bm,if_pos (by decide),if_pos (by decide),O8 hR t]
   simp
  rw [show Mr c=[c] from if_neg hc]
  show Bm (c::(Bn t++39::R))=_
  rw [Kd (by simpa using hc),O8 hR t]
  simp
theorem pv:∀t:Str,(Lib.index (Bn t) [39,39] = -1∧Bn t=t)∨∃i:Nat,Lib.index (Bn t) [39,39]=(i:Int)∧i<t.length∧(Bn t).take i=t.take i∧(Bn t).drop (i+2)=Bn (t.drop (i+1))∧t=t.take i++[39]++t.drop (i+1)
 | []=>.inl ⟨rfl,rfl⟩
 | b::l=>by
  by_cases hb:b=39
  ·subst hb
   refine .inr ⟨0,?_,by simp,rfl,?_,by simp⟩
   ·rw [G8]
    show Lib.index (39::39::Bn l) [39,39]=0
    rw [Lib.index,if_pos (by simp [List.isPrefixOf])]
   rw [G8]
   rfl
  have hd:Bn (b::l)=b::Bn l:=by
   rw [G8,Mr,if_neg hb]
   rfl
  have hp:([39,39]:Str).isPrefixOf (b::Bn l)=false:=by
   simp [List.isPrefixOf,Ne.symm hb]
  rcases pv l with ⟨h1,h2⟩|⟨i,h1,h2,h3,h4,h5⟩
  ·refine .inl ⟨?_,by rw [hd,h2]⟩
   rw [hd,Lib.index,hp,h1];rfl
  refine .inr ⟨i+1,?_,by simp;omega,?_,?_,?_⟩
  ·rw [hd,Lib.index,hp,h1,if_neg (by simp),if_neg (by simp)]
   rfl
  ·rw [hd,List.take_succ_cons,List.take_succ_cons,h3]
  ·rw [hd,show i+1+2=(i+2)+1 by omega,List.drop_succ_cons,List.drop_succ_cons,h4]
  rw [List.take_succ_cons,List.drop_succ_cons,List.cons_append,List.cons_append,←h5]
theorem Pb:∀(n:Nat) (t:Str),t.length≤n→Lib.replaceK [39,39] [39] (Lib.count (Bn t) [39,39]) (Bn t)=t
 | n,t,hn=>by
  rcases pv t with ⟨h1,h2⟩|⟨i,h1,h2,h3,h4,h5⟩
  ·rw [Lib.count_miss h1];exact h2
  cases n with
  | zero=>omega
  | succ n =>
   rw [Lib.count_hit (by decide) h1,Nat.add_comm,Lib.replaceK_hit _ _ _ _ i h1]
   have e:i+([39,39]:Str).length=i+2:=rfl
   rw [e,h4,Pb n (t.drop (i+1)) (by rw [List.length_drop];omega),h3]
   exact h5.symm
theorem cx (t:Str):Lib.replaceAll (Bn t) [39,39] [39]=t:=by
 unfold Lib.replaceAll Lib.replace
 rw [if_neg (by decide)]
 have e:Lib.replaceNum (Bn t) [39,39] (-1)=Lib.count (Bn t) [39,39]:=by unfold Lib.replaceNum;rw [if_pos (.inl (by decide))]
 rw [e]
 exact Pb _ t (Nat.le_refl _)
theorem kw {t:Str} (h:t.length≤200):Cv ([39]++Bn t++[39])=(⟨2,0,t⟩,0):=by
 have hin:Vw ([39]++Bn t++[39])=t:=by
  unfold Vw
  have:(([39]++Bn t++[39]:Str).take (([39]++Bn t++[39]:Str).length-1)).drop 1=Bn t:=by
   rw [show ([39]++Bn t++[39]:Str).length-1=([39]++Bn t:Str).length by simp,List.take_left]
   rfl
  rw [this]
  exact cx t
 have ht:Mk ([39]++Bn t++[39])=⟨2,0,t⟩:=by
  unfold Mk
  rw [hin,List.take_of_length_le h]
 have hp:Bd ⟨2,0,t⟩=true:=by
  unfold Bd
  simp
  omega
 have hpr:Bk ⟨2,0,t⟩=[39]++Bn t++[39]:=by
  unfold Bk
  rw [hp,Gn]
  rfl
 have hq:Jt ([39]++Bn t++[39])=true:=by
  unfold Jt
  simp [Lib.hasPrefix,Lib.hasSuffix,List.isPrefixOf]
  omega
 unfold Cv
 have n1:(([39]++Bn t++[39]:Str)==[110,117,108,108])=false:=by rw [beq_eq_false_iff_ne];intro e;injection e with e;exact absurd e (by decide)
 have n2:(([39]++Bn t++[39]:Str)==[116,114,117,101])=false:=by rw [beq_eq_false_iff_ne];intro e;injection e with e;exact absurd e (by decide)
 have n3:(([39]++Bn t++[39]:Str)==[102,97,108,115,101])=false:=by rw [beq_eq_false_iff_ne];intro e;injection e with e;exact absurd e (by decide)
 rw [n1,n2,n3,hq]
 simp only [Bool.false_eq_true,if_false,Bool.or_self,if_true]
 unfold Tu
 rw [ht,hpr]
 simp
theorem yr {t R:Str} (h:t.length≤200) (hR:Di R):Lx ([39]++Bn t++[39]) [(4,t)] R:=by
 have h39:∀c r,R=c::r→c≠39:=fun c r e=>by rcases hR c r e with rfl|rfl|rfl|rfl|rfl<;>decide
 refine Lx.word (by simp) (by show blanks.contains 39=false;kernel_rfl) (by show (39:UInt8)≠35;decide) ?_
 have e:[39]++Bn t++[39]++R=39::(Bn t++39::R):=by simp
 rw [e]
 have h1:¬(decide (0<H1 ((39::(Bn t++39::R)).take 1) letters)=true):=by
  rw [show (39::(Bn t++39::R)).take 1=[39] from rfl,Jl,show letters.contains 39=false by kernel_rfl];simp
 have h2:¬(decide (0<H1 ((39::(Bn t++39::R)).take 1) digs)=true):=by
  rw [show (39::(Bn t++39::R)).take 1=[39] from rfl,Jl,show digs.contains 39=false by kernel_rfl];simp
 unfold Aw
 rw [if_neg h1,if_neg h2,if_pos (by rfl)]
 unfold Ge
 rw [show (39::(Bn t++39::R)).drop 1=Bn t++39::R from rfl,O8 h39 t]
 have ht:(39::(Bn t++39::R)).take ((Bn t).length+1+1)=[39]++Bn t++[39]:=by
  rw [←e,show (Bn t).length+1+1=([39]++Bn t++[39]:Str).length by simp]
  exact List.take_left
 simp only [ht,kw h]
 simp
set_option maxRecDepth 4000
theorem Wj (o:Int) (t:Str) (v:Val) (k:List Expr):A5 (.mk o t v k)=.agg [A3 o,.v (sv t),A3 v.kind,A3 v.n,.v (sv v.s),.slice false 6 (k.map A5)]:=by rw [Ac];rfl
set_option maxRecDepth 8000
/-! Who decides decides: the law's sources, columns and truths. -/
/-! Rows. -/
/-! Rows that differ in what is not named. -/
/-! Who has a kind comes to it. -/
theorem M3 {t:Str} {n:Nat} (h:B5 t=(n:Int)):(t=[108,101,110]∧n=1)∨(t=[115,116,114]∧n=1)∨(t=[110,117,109]∧n=1)∨(t=N4∧n=1)∨(t=vh∧n=2)∨(t=[108,101,102,116]∧n=2)∨(t=[114,105,103,104,116]∧n=2)∨(t=ifW∧n=3):=by
 by_cases hm:t∈arityList.map (·.1)
 ·have ha:∀s∈arityList.map (·.1),(s=[108,101,110]∧B5 s=1)∨(s=[115,116,114]∧B5 s=1)∨(s=[110,117,109]∧B5 s=1)∨(s=N4∧B5 s=1)∨(s=vh∧B5 s=2)∨(s=[108,101,102,116]∧B5 s=2)∨(s=[114,105,103,104,116]∧B5 s=2)∨(s=ifW∧B5 s=3):=by
   have:((arityList.map (·.1)).all fun s=>decide ((s=[108,101,110]∧B5 s=1)∨(s=[115,116,114]∧B5 s=1)∨(s=[110,117,109]∧B5 s=1)∨(s=N4∧B5 s=1)∨(s=vh∧B5 s=2)∨(s=[108,101,102,116]∧B5 s=2)∨(s=[114,105,103,104,116]∧B5 s=2)∨(s=ifW∧B5 s=3)))=true:=by kernel_rfl
   exact fun s hs=>of_decide_eq_true (List.all_eq_true.1 this s hs)
  have:=ha t hm
  rw [h] at this
  rcases this with ⟨e,h2⟩|⟨e,h2⟩|⟨e,h2⟩|⟨e,h2⟩|⟨e,h2⟩|⟨e,h2⟩|⟨e,h2⟩|⟨e,h2⟩
  ·exact .inl ⟨e,by omega⟩
  ·exact .inr (.inl ⟨e,by omega⟩)
  ·exact .inr (.inr (.inl ⟨e,by omega⟩))
  ·exact .inr (.inr (.inr (.inl ⟨e,by omega⟩)))
  ·exact .inr (.inr (.inr (.inr (.inl ⟨e,by omega⟩))))
  ·exact .inr (.inr (.inr (.inr (.inr (.inl ⟨e,by omega⟩)))))
  ·exact .inr (.inr (.inr (.inr (.inr (.inr (.inl ⟨e,by omega⟩))))))
  exact .inr (.inr (.inr (.inr (.inr (.inr (.inr ⟨e,by omega⟩))))))
 have h1:B5 t = -1:=by
  unfold B5
  rw [List.find?_eq_none.2 fun p hp=>by
   simp only [beq_iff_eq]
   rintro rfl
   exact hm (List.mem_map.2 ⟨p,hp,rfl⟩)]
 omega
/-! The print of a tree, and its words. -/
def Hh (least:Nat) (x:Expr) (s:Str):Str:=if least≤levE x then s else 40::(s++[41])
def Dr:List Str→Str
 | []=>[]
 | s::r=>44::32::(s++Dr r)
def Lp (o:Int) (t:Str) (v:Val) (k:List Expr) (ss:List Str):Str:=
 if o==1 then Bk v else if o==2 then t
 else if o==3 then 45::Hh 6 (k.getD 0 Ad) (ss.getD 0 [])
 else if o==4 then O1++32::Hh 2 (k.getD 0 Ad) (ss.getD 0 [])
 else if o==5 then Hh (Bx (Ae t).toNat) (k.getD 0 Ad) (ss.getD 0 [])++32::(t++32::Hh ((Ae t).toNat+1) (k.getD 1 Ad) (ss.getD 1 []))
 else t++40::((Dr ss).drop 2++[41])
mutual
def A8:Expr→Str
 | .mk o t v k=>Lp o t v k (Km k)
def Km:List Expr→List Str
  | []=>[]
  | e::r=>A8 e::Km r
 end
theorem Jn:∀l,Km l=l.map A8
 | []=>rfl
 | e::r=>by rw [Km,Jn r];rfl
theorem pw (v:Val):A8 (Ff v)=Bk v:=by simp [Ff,A8,Lp]
theorem fq (t:Str):A8 (Aq t)=t:=by simp [Aq,A8,Lp]
theorem px (a:Expr):A8 (Bq 3 a)=45::Hh 6 a (A8 a):=by simp [Bq,A8,Km,Lp]
theorem wz (a:Expr):A8 (Bq 4 a)=O1++32::Hh 2 a (A8 a):=by simp [Bq,A8,Km,Lp]
theorem py (t:Str) (a b:Expr):A8 (C6 t a b)=Hh (Bx (Ae t).toNat) a (A8 a)++32::(t++32::Hh ((Ae t).toNat+1) b (A8 b)):=by simp [C6,A8,Km,Lp]
theorem fu (t:Str) (k:List Expr):A8 (.mk 6 t noV k)=t++40::((Dr (Km k)).drop 2++[41]):=by simp [A8,Lp]
/-- A text that something begins, and no equals sign. -/
def Hd (s:Str):Prop:=∃c r,s=c::r∧c≠61
theorem Hd.not61 {s:Str} (h:Hd s) (Z:Str):∀d r,s++Z=d::r→d≠61:=fun d r e=>by
 obtain ⟨c,q,rfl,hc⟩:=h
 injection e with e1 e2
 rw [←e1]
 exact hc
theorem Hd.app {s:Str} (h:Hd s) (Z:Str):Hd (s++Z):=by
 obtain ⟨c,q,rfl,hc⟩:=h
 exact ⟨c,q++Z,rfl,hc⟩
theorem Hd.brk {k:Nat} {x:Expr} {s:Str} (h:Hd s):Hd (Hh k x s):=by
 unfold Hh
 split
 ·exact h
 exact ⟨40,_,rfl,by decide⟩
theorem Sf {R:Str} (h:Di R):∀d r,R=d::r→d≠61:=fun d r e=>by
 rcases h d r e with rfl|rfl|rfl|rfl|rfl<;>decide
theorem F0 (Z:Str):Di (32::Z):=fun c r e=>by injection e with e1 e2;exact .inl e1.symm
theorem vi (Z:Str):Di (40::Z):=fun c r e=>by injection e with e1 e2;exact .inr (.inl e1.symm)
theorem fw (Z:Str):Di (41::Z):=fun c r e=>by injection e with e1 e2;exact .inr (.inr (.inl e1.symm))
theorem fx (Z:Str):Di (44::Z):=fun c r e=>by injection e with e1 e2;exact .inr (.inr (.inr (.inl e1.symm)))
theorem vj (Z:Str):Di (59::Z):=fun c r e=>by injection e with e1 e2;exact .inr (.inr (.inr (.inr e1.symm)))
theorem pz {R:Str} (hR:∀d r,R=d::r→d≠61):Lx [40] [(5,[40])] R:=Jm (by kernel_rfl) hR
theorem g7 {R:Str} (hR:∀d r,R=d::r→d≠61):Lx [41] [(5,[41])] R:=Jm (by kernel_rfl) hR
theorem g8 (R:Str):Lx [44,32] [(5,[44])] R:=by
 have:=Lx.app (R:=R) (Jm (c:=44) (by kernel_rfl) (fun d r e=>by injection e with e1 e2;rw [←e1];decide):Lx [44] [(5,[44])] ([32]++R)) (Lx.blank R)
 simpa using this
theorem Pv {u R:Str} {T:List TK} (h:Lx u T R):Lx (32::u) T R:=by
 have:=Lx.app (Lx.blank (u++R)) h
 simpa using this
theorem ADu {t R:Str} (ht:0≤Ae t):Lx t [opTok t] (32::R):=by
 have hmem:t∈levels.flatten:=by
  rcases Fq t with h|h
  ·exact h
  omega
 have h61:∀d r,(32::R:Str)=d::r→d≠61:=fun d r e=>by injection e with e1 e2;rw [←e1];decide
 simp only [levels,List.flatten_cons,List.flatten_nil,List.cons_append,List.nil_append,List.append_nil,List.mem_cons,List.not_mem_nil,or_false] at hmem
 rcases hmem with rfl|rfl|rfl|rfl|rfl|rfl|rfl|rfl|rfl|rfl|rfl|rfl|rfl|rfl
 ·exact Sb (by kernel_rfl) (F0 R)
 ·exact Sb (by kernel_rfl) (F0 R)
 ·exact Vt
 ·exact Wi (by kernel_rfl)
 ·exact Vt
 ·exact Wi (by kernel_rfl)
 ·exact Vt
 ·exact Wi (by kernel_rfl)
 ·exact Vt
 ·exact Vt
 ·exact Vt
 ·exact Vt
 ·exact Vt
 exact Vt
theorem ABz {v:Val} (hp:Bd v=true) (h0:0≤v.n) (h1:v.n≤9223372036854775807):(∀R,Di R→Lx (Bk v) [G9 v] R)∧Hd (Bk v):=by
 have hc:=Ih hp
 rcases hc with e|e|⟨e,hs⟩|e|e
 ·rw [e]
  exact ⟨fun R hR=>Sb (by kernel_rfl) hR,⟨110,[117,108,108],by kernel_rfl,by decide⟩⟩
 ·have hpr:Bk v=Lib.itoa v.n:=by
   unfold Bk
   rw [hp,e]
   rfl
  have hv:G9 v=(3,Bk v):=by unfold G9;rw [show v.kind=1 by rw [e]];rfl
  rw [hv,hpr]
  refine ⟨fun R hR=>ABw h0 h1 hR,?_⟩
  obtain ⟨u,hu⟩:∃u:Nat,v.n=(u:Int):=⟨v.n.toNat,by omega⟩
  have e0:Lib.itoa (u:Int)=Lib.decDigits u:=by unfold Lib.itoa;rw [if_neg (by omega)];simp
  rw [hu,e0]
  obtain ⟨c,r,hcr,_⟩:=My u
  have hall:=Mx u c (by rw [hcr];exact List.mem_cons_self)
  exact ⟨c,r,hcr,by rintro rfl;revert hall;decide⟩
 ·have hpr:Bk v=[39]++Bn v.s++[39]:=by
   unfold Bk
   rw [hp,e]
   simp only [Bool.not_true,Bool.false_eq_true,if_false,show ((2:Int)==1)=false from rfl,show ((2:Int)==2)=true from rfl,if_true,Gn]
  have hv:G9 v=(4,v.s):=by unfold G9;rw [show v.kind=2 by rw [e]];rfl
  rw [hv,hpr]
  exact ⟨fun R hR=>yr hs hR,⟨39,_,rfl,by decide⟩⟩
 ·rw [e]
  exact ⟨fun R hR=>Sb (by kernel_rfl) hR,⟨102,[97,108,115,101],by kernel_rfl,by decide⟩⟩
 rw [e]
 exact ⟨fun R hR=>Sb (by kernel_rfl) hR,⟨116,[114,117,101],by kernel_rfl,by decide⟩⟩
/-- A tree's print is its words, before what may stand there. -/
def PL (x:Expr):Prop:=(∀R,Di R→Lx (A8 x) (A9 x) R)∧Hd (A8 x)
theorem g9 {x:Expr} (h:PL x) (k:Nat) {R:Str} (hR:Di R):Lx (Hh k x (A8 x)) (Bp k x (A9 x)) R:=by
 unfold Hh Bp
 split
 ·exact h.1 R hR
 have h1:=Lx.app (Lx.app (pz (R:=A8 x++([41]++R)) (h.2.not61 _)) (h.1 ([41]++R) (fw R))) (g7 (R:=R) (Sf hR))
 simpa using h1
theorem q8:∀(k:List Expr),(∀y∈k,PL y)→∀R,Di R→Lx (Dr (k.map A8)) (Ey (k.map A9)) R∧Di (Dr (k.map A8)++R)
 | [],_,R,hR=>⟨Lx.nil R,hR⟩
 | x::r,h,R,hR=>by
  obtain ⟨h1,h2⟩:=q8 r (fun y hy=>h y (List.mem_cons_of_mem _ hy)) R hR
  have hx:=(h x List.mem_cons_self).1 _ h2
  refine ⟨?_,fx _⟩
  have h3:Lx ([44,32]++(A8 x++Dr (r.map A8))) ([(5,[44])]++(A9 x++Ey (r.map A9))) R:=Lx.app (g8 _) (Lx.app hx h1)
  simpa [Dr,Ey] using h3
theorem ga {t:Str} (h:E0 t=true):Hd t:=by
 rw [Kb] at h
 simp only [Bool.and_eq_true,Bool.not_eq_true',Bool.or_eq_false_iff,beq_eq_false_iff_ne,decide_eq_false_iff_not] at h
 cases t with
 | nil=>simp at h
 | cons c r =>
  refine ⟨c,r,rfl,?_⟩
  rintro rfl
  have h2:(!E5 61)=false:=h.1.1.2
  exact absurd h2 (by decide)
theorem cy {t:Str} {n:Nat} (h:B5 t=(n:Int)):E0 t=true:=by
 rcases M3 h with ⟨rfl,_⟩|⟨rfl,_⟩|⟨rfl,_⟩|⟨rfl,_⟩|⟨rfl,_⟩|⟨rfl,_⟩|⟨rfl,_⟩|⟨rfl,_⟩<;>kernel_rfl
theorem Ym:∀(n:Nat) (x:Expr),sizeE x≤n→B0 At x=true→B0 D6 x=true→PL x
 | 0,x,hn,_,_=>by have:=Dw x;omega
 | n+1,x,hn,hnd,hrg=>by
  have hnd0:=hnd
  have hrg0:=hrg
  rw [Co,Bool.and_eq_true] at hnd0 hrg0
  have ih:∀y∈x.kids,PL y:=fun y hy=>Ym n y (O5 hn hy) ((Bv _ _).1 hnd0.2 y hy) ((Bv _ _).1 hrg0.2 y hy)
  have hNC:=Fi hnd0.1
  cases hNC with
  | val v hp h0 =>
   have hr:=hrg0.1
   unfold D6 at hr
   simp only [Bool.and_eq_true,decide_eq_true_eq] at hr
   unfold PL
   rw [pw,Rw]
   exact ABz hp h0 hr.2
  | name t ht =>
   unfold PL
   rw [fq,O2]
   exact ⟨fun R hR=>Sa ht hR,ga ht⟩
  | neg a =>
   have ha:=ih a (by simp [Bq,Expr.kids])
   unfold PL
   rw [px,Mw]
   exact ⟨fun R hR=>Lx.app (u:=[45]) (T:=[(5,[45])]) (Jm (by kernel_rfl) (ha.2.brk.not61 R)) (g9 ha 6 hR),⟨45,_,rfl,by decide⟩⟩
  | no a =>
   have ha:=ih a (by simp [Bq,Expr.kids])
   unfold PL
   rw [wz,Ps]
   exact ⟨fun R hR=>Lx.app (T:=[(2,O1)]) (Sb (by kernel_rfl) (F0 _)) (Pv (g9 ha 2 hR)),⟨110,_,rfl,by decide⟩⟩
  | bin t a b ht =>
   have ha:=ih a (by simp [C6,Expr.kids])
   have hb:=ih b (by simp [C6,Expr.kids])
   unfold PL
   rw [py,Ix]
   refine ⟨fun R hR=>Lx.app (g9 ha _ (F0 _)) (Pv ?_),ha.2.brk.app _⟩
   exact Lx.app (T:=[opTok t]) (ADu ht) (Pv (g9 hb _ hR))
  | call t k ht =>
   have hk:∀y∈k,PL y:=fun y hy=>ih y (by simpa [Expr.kids] using hy)
   have hnm:=cy ht
   unfold PL
   rw [fu,L5,Jn,Ud]
   refine ⟨fun R hR=>?_,(ga hnm).app _⟩
   match k,hk,ht with
   | [],_,ht =>
    exfalso
    have:=O6 t
    simp at ht
    omega
   | x::r,hk,_ =>
    have hx:=hk x List.mem_cons_self
    obtain ⟨h1,h2⟩:=q8 r (fun y hy=>hk y (List.mem_cons_of_mem _ hy)) ([41]++R) (fw R)
    have hin:Lx (A8 x++Dr (r.map A8)) (A9 x++Ey (r.map A9)) ([41]++R):=Lx.app (hx.1 _ h2) h1
    have hcl:Lx ((A8 x++Dr (r.map A8))++[41]) ((A9 x++Ey (r.map A9))++[(5,[41])]) R:=Lx.app hin (g7 (Sf hR))
    have hop:Lx ([40]++((A8 x++Dr (r.map A8))++[41])) ([(5,[40])]++((A9 x++Ey (r.map A9))++[(5,[41])])) R:=Lx.app (pz ((((hx.2.app _).app _)).not61 R)) hcl
    have hnl:Lx (t++([40]++((A8 x++Dr (r.map A8))++[41]))) ([(1,t)]++([(5,[40])]++((A9 x++Ey (r.map A9))++[(5,[41])]))) R:=Lx.app (Sa hnm (vi _)) hop
    simpa [Dr,Ey] using hnl
/-! What was parsed nests no deeper than may be. -/
structure NB (N k:Nat) (r:Expr×PS):Prop where
 nest:r.2.nest=N
 need:r.2.code=0→N+C9 k r.1 (Ag r.1)≤30
def NF (N k:Nat) (f:PS→Expr×PS):Prop:=∀S:PS,S.nest=N→NB N k (f S)
theorem kx {k k':Nat} (h:k≤k') (x:Expr) (n:Nat):C9 k x n≤C9 k' x n:=by
 unfold C9
 split
 ·split<;>omega
 rw [if_neg (by omega)];exact Nat.le_refl _
theorem N5 (k:Nat) (x:Expr) (n:Nat):n≤C9 k x n∧C9 k x n≤n+1:=by unfold C9;split<;>omega
theorem NB.down {N k k':Nat} {r:Expr×PS} (h:NB N k' r) (hk:k≤k'):NB N k r:=⟨h.nest,fun h0=>by
 have:=h.need h0
 have:=kx hk r.1 (Ag r.1)
 omega⟩
theorem L7 (e a:Int) (S:PS):(Ch e a S).nest=S.nest:=by unfold Ch;split<;>rfl
theorem Hm {e a:Int} (he:e≠0) (S:PS):(Ch e a S).code≠0:=by
 unfold Ch
 split
 ·exact he
 rename_i h;simpa using h
theorem O9 (l:List Tok) (s:Str) (S:PS):(Ce l s S).nest=S.nest:=by
 unfold Ce
 split
 ·rfl
 split
 ·exact L7 _ _ _
 rfl
theorem J1 {l:List Tok} {s:Str} {S:PS} (h:(Ce l s S).code=0):S.code=0:=by
 unfold Ce at h
 split at h
 ·exact h
 rename_i h0;simpa using h0
theorem Oa {N k:Nat} {a:Int} {f:PS→Expr×PS} (hN:N≤30) (hf:N<30→NF (N+1) k f) {S:PS} (hS:S.nest=N):(Ak a f S).2.nest=N∧((Ak a f S).2.code=0→N+1+C9 k (Ak a f S).1 (Ag (Ak a f S).1)≤30):=by
 unfold Ak
 split
 ·exact AB4
 rename_i h
 have hlt:N<30:=by simp at h;omega
 have:=hf hlt (Al S) (by show S.nest+1=N+1;omega)
 refine ⟨?_,fun h0=>this.need h0⟩
 show (f (Al S)).2.nest-1=N
 rw [this.nest]
 rfl
theorem gc {N:Nat} {l:List Tok} {f:PS→Expr×PS} (hf:NF N 0 f):∀(n:Nat) (r:List Expr×PS),r.2.nest=N→(r.2.code=0→∀y∈r.1,N+Ag y≤30)→(argsF l f n r).2.nest=N∧((argsF l f n r).2.code=0→∀y∈(argsF l f n r).1,N+Ag y≤30)
 | 0,r,h1,h2=>⟨h1,h2⟩
 | n+1,r,h1,h2=>by
  rw [argsF]
  split
  ·rename_i hc
   simp only [Bool.and_eq_true,beq_iff_eq] at hc
   have hq:=hf (A2 r.2) h1
   refine gc hf n _ hq.nest (fun h0 y hy=>?_)
   rcases List.mem_append.1 hy with hy|hy
   ·exact h2 hc.1 y hy
   rw [List.mem_singleton.1 hy]
   have:=hq.need h0
   have:=(N5 0 (f (A2 r.2)).1 (Ag (f (A2 r.2)).1)).1
   omega
  exact ⟨h1,h2⟩
theorem vk {l:List Expr} {m:Nat} (h:∀y∈l,Ag y≤m):Pk (H6 l)≤m:=by
 induction l with
 | nil=>exact Nat.zero_le _
 | cons a r ih =>
  rw [H6,Pk]
  have h1:=h a List.mem_cons_self
  have h2:=ih fun y hy=>h y (List.mem_cons_of_mem _ hy)
  omega
theorem vl {N:Nat} {l:List Tok} {a:Int} {f:PS→Expr×PS} (hN:N≤30) (hf:N<30→NF (N+1) 0 f) {S:PS} (hS:S.nest=N):(H5 l a f S).2.nest=N∧((H5 l a f S).2.code=0→∀y∈(H5 l a f S).1,N+1+Ag y≤30):=by
 unfold H5
 split
 ·exact AB4
 rename_i h
 have hlt:N<30:=by simp at h;omega
 have hq:=hf hlt (Al S) (by show S.nest+1=N+1;omega)
 obtain ⟨h1,h2⟩:=gc (l:=l) (hf hlt) l.length ([(f (Al S)).1],(f (Al S)).2) hq.nest (fun h0 y hy=>by
  rw [List.mem_singleton.1 hy]
  have:=hq.need h0
  have:=(N5 0 (f (Al S)).1 (Ag (f (Al S)).1)).1
  omega)
 refine ⟨?_,h2⟩
 show (F7 l f (Al S)).2.nest-1=N
 unfold F7
 rw [h1]
 rfl
theorem vm {N:Nat} {l:List Tok} {D:Fam} (hN:N≤30) (hD:N<30→NF (N+1) 0 D.ei):NF N 7 (Cj l D):=fun S hS=>by
 have leaf:∀(x:Expr) (S':PS),S'.nest=N→Ag x=0→levE x=7→NB N 7 (x,S'):=fun x S' h1 h2 h3=>⟨h1,fun _=>by
  show N+C9 7 x (Ag x)≤30
  unfold C9
  rw [h3,h2,if_pos (by decide)]
  omega⟩
 have bad:∀(x:Expr) (S':PS),S'.nest=N→S'.code≠0→NB N 7 (x,S'):=fun x S' h1 h2=>⟨h1,fun h=>absurd h h2⟩
 unfold Cj
 split
 ·rename_i h;exact bad _ _ hS (by simpa using h)
 split
 ·exact leaf _ _ hS (Rx _) (Pt _)
 split
 ·exact leaf _ _ hS (Rx _) (Pt _)
 split
 ·split
  ·unfold F3
   split
   ·exact AB5
   have hk:=vl (l:=l) (a:=(A7 l (A2 S).i).at_) hN hD (show (A2 (A2 S)).nest=N from hS)
   split
   ·exact bad _ _ ((L7 _ _ _).trans ((O9 _ _ _).trans hk.1)) (Hm (by decide) _)
   refine ⟨(O9 _ _ _).trans hk.1,fun h0=>?_⟩
   have hkk:=hk.2 (J1 h0)
   show N+C9 7 (.mk 6 _ noV (Bb l D (A2 S)).1) (Ag (.mk 6 _ noV (Bb l D (A2 S)).1))≤30
   rw [O3]
   unfold C9
   rw [Kj,if_pos (by decide)]
   by_cases hlt:N<30
   ·have:=vk (l:=(Bb l D (A2 S)).1) (m:=30-N-1) (fun y hy=>by have:=hkk y hy;omega)
    omega
   exfalso
   have hc:=J1 h0
   unfold Bb H5 at hc
   rw [if_pos (by show ((S.nest:Int)==30)=true;simp;omega)] at hc
   exact Hm (by decide) _ hc
  exact leaf _ _ hS (Ue _) (Rz _)
 split
 ·have hw:=Oa (a:=(A7 l S.i).at_) hN hD (show (A2 S).nest=N from hS)
  refine ⟨(O9 _ _ _).trans hw.1,fun h0=>?_⟩
  have h1:=hw.2 (J1 h0)
  have h2:=(N5 0 (Ak (A7 l S.i).at_ D.ei (A2 S)).1 (Ag (Ak (A7 l S.i).at_ D.ei (A2 S)).1)).1
  have h3:=(N5 7 (Ak (A7 l S.i).at_ D.ei (A2 S)).1 (Ag (Ak (A7 l S.i).at_ D.ei (A2 S)).1)).2
  show N+C9 7 (Ak (A7 l S.i).at_ D.ei (A2 S)).1 (Ag (Ak (A7 l S.i).at_ D.ei (A2 S)).1)≤30
  omega
 exact AB5
theorem q9 {N:Nat} {l:List Tok} {D:Fam} (hN:N≤30) (hD:N<30→NF (N+1) 0 D.ei) (hn:N<30→NF (N+1) 6 D.ne):NF N 6 (Gp l D):=fun S hS=>by
 unfold Gp
 split
 ·exact (vm hN hD S hS).down (by decide)
 have hw:=Oa (a:=(A7 l S.i).at_) hN hn (show (A2 S).nest=N from hS)
 refine ⟨hw.1,fun h0=>?_⟩
 have h1:=hw.2 h0
 show N+C9 6 (Bq 3 (Ak (A7 l S.i).at_ D.ne (A2 S)).1) _≤30
 unfold C9
 rw [L6,if_pos (by decide),Ry]
 omega
theorem Jo {N k:Nat} {l:List Tok} {f:PS→Expr×PS} (hk:k=0∨k=1∨k=4∨k=5) (hf:NF N (k+1) f):NF N k (Ci l (ofL k) f):=by
 have hloop:∀(n:Nat) (r:Expr×PS),NB N k r→NB N k (Eu l (ofL k) f n r):=by
  intro n
  induction n with
  | zero=>exact fun r h=>h
  | succ n ih =>
   intro r h
   rw [Eu]
   split
   ·rename_i hc
    simp only [Bool.and_eq_true,beq_iff_eq] at hc
    have hq:=hf (A2 r.2) h.nest
    refine ih _ ⟨hq.nest,fun h0=>?_⟩
    have hlv:Ae (A7 l r.2.i).text=(k:Int):=by
     have hm:=hc.2
     unfold isM at hm
     rw [Bool.and_eq_true] at hm
     have:=hm.2
     rw [E7 (Kk hk)] at this
     simpa using this
    have h1:=h.need hc.1
    have h2:=hq.need h0
    have hfl:Bx k=k:=by unfold Bx;rw [if_neg (by omega)]
    show N+C9 k (C6 (A7 l r.2.i).text r.1 (f (A2 r.2)).1) (Ag (C6 (A7 l r.2.i).text r.1 (f (A2 r.2)).1))≤30
    rw [Iy,hlv]
    rw [show C9 k (C6 (A7 l r.2.i).text r.1 (f (A2 r.2)).1) _=_ from if_pos (by rw [Jj,hlv];simp)]
    rw [Int.toNat_natCast,hfl]
    omega
   exact h
 exact fun S hS=>hloop _ _ ((hf S hS).down (Nat.le_succ k))
theorem qb {N:Nat} {l:List Tok} {D:Fam} (hf:NF N 4 (Bo l D)):NF N 3 (Bg l D):=fun S hS=>by
 unfold Bg
 split
 ·exact (hf S hS).down (by decide)
 rename_i hc
 simp only [Bool.or_eq_true,not_or,bne_iff_ne,ne_eq,Decidable.not_not,Bool.not_eq_true',Bool.not_eq_false] at hc
 have hx:=hf S hS
 have hq:=hf (A2 (Bo l D S).2) hx.nest
 refine ⟨hq.nest,fun h0=>?_⟩
 have hlv:Ae (A7 l (Bo l D S).2.i).text=((3:Nat):Int):=by
  have hm:=hc.2
  unfold isM at hm
  rw [Bool.and_eq_true] at hm
  have:=hm.2
  rw [show Rj=ofL 3 from rfl,E7 (.inr (.inr (.inl rfl)))] at this
  simpa using this
 have h1:=hx.need hc.1
 have h2:=hq.need h0
 show N+C9 3 (C6 (A7 l (Bo l D S).2.i).text (Bo l D S).1 (Bo l D (A2 (Bo l D S).2)).1) (Ag (C6 (A7 l (Bo l D S).2.i).text (Bo l D S).1 (Bo l D (A2 (Bo l D S).2)).1))≤30
 rw [Iy,hlv]
 rw [show C9 3 (C6 (A7 l (Bo l D S).2.i).text (Bo l D S).1 (Bo l D (A2 (Bo l D S).2)).1) _=_ from if_pos (by rw [Jj,hlv];simp)]
 rw [Int.toNat_natCast,show Bx 3=4 from rfl,show 3+1=4 from rfl]
 omega
theorem qc {N:Nat} {l:List Tok} {D:Fam} (hN:N≤30) (hf:NF N 3 (Bg l D)) (hn:N<30→NF (N+1) 2 D.no):NF N 2 (Gq l D):=fun S hS=>by
 unfold Gq
 split
 ·exact (hf S hS).down (by decide)
 have hw:=Oa (a:=(A7 l S.i).at_) hN hn (show (A2 S).nest=N from hS)
 refine ⟨hw.1,fun h0=>?_⟩
 have h1:=hw.2 h0
 show N+C9 2 (Bq 4 (Ak (A7 l S.i).at_ D.no (A2 S)).1) _≤30
 unfold C9
 rw [O4,if_pos (by decide),We]
 omega
theorem cz (l:List Tok):∀(d N:Nat),N+d=30→NF N 0 (L4 l (C1 l d))∧NF N 2 (Gq l (C1 l d))∧NF N 6 (Gp l (C1 l d))
 | d,N,h=>by
  have ih:N<30→NF (N+1) 0 (C1 l d).ei∧NF (N+1) 2 (C1 l d).no∧NF (N+1) 6 (C1 l d).ne:=fun hlt=>by
   match d,h with
   | 0,h=>omega
   | d+1,h=>exact cz l d (N+1) (by omega)
  have hneg:=q9 (l:=l) (D:=C1 l d) (by omega) (fun h=>(ih h).1) (fun h=>(ih h).2.2)
  have hsum:NF N 4 (Bo l (C1 l d)):=Jo (k:=4) (by decide) (Jo (k:=5) (by decide) hneg)
  have hno:=qc (by omega) (qb hsum) (fun h=>(ih h).2.1)
  exact ⟨Jo (k:=0) (by decide) (Jo (k:=1) (by decide) hno),hno,hneg⟩
theorem ky:Ag Ad≤30:=by decide
/-! What nests too deep is told to be too deep. -/
theorem Fj {l:List Tok} {of:Str} {f:PS→Expr×PS} {n:Nat} {r:Expr×PS} (h:r.2.code=18):(Eu l of f n r).2.code=18:=by
 cases n with
 | zero=>exact h
 | succ n=>rw [Eu,if_neg (by rw [h];simp)];exact h
theorem Sg {l:List Tok} {f:PS→Expr×PS} {n:Nat} {r:List Expr×PS} (h:r.2.code=18):(argsF l f n r).2.code=18:=by
 cases n with
 | zero=>exact h
 | succ n=>rw [argsF,if_neg (by rw [h];simp)];exact h
theorem Uk {l:List Tok} {s:Str} {S:PS} (h:S.code=18):(Ce l s S).code=18:=by
 unfold Ce
 rw [if_pos (by rw [h];decide)]
 exact h
theorem qd {a:Int} {S:PS} (h:S.code=0):(Ch 18 a S).code=18:=by
 unfold Ch
 rw [if_pos (by rw [h];decide)]
theorem kz {l:List Tok} {D:Fam} {k:Nat} (hk:k≤6) {S:PS} (h:(pf l D (k+1) S).2.code=18) (hnot:k=2→isM l W8 S=false) (hneg:k=6→isM l W9 S=false):(pf l D k S).2.code=18:=by
 match k,hk with
 | 0,_=>exact Fj h
 | 1,_=>exact Fj h
 | 2,_ =>
  show (Gq l D S).2.code=_
  unfold Gq
  rw [hnot rfl]
  exact h
 | 3,_ =>
  show (Bg l D S).2.code=_
  have h':(Bo l D S).2.code=18:=h
  unfold Bg
  rw [if_pos (by rw [h'];rfl)]
  exact h'
 | 4,_=>exact Fj h
 | 5,_=>exact Fj h
 | 6,_ =>
  show (Gp l D S).2.code=_
  unfold Gp
  rw [hneg rfl]
  exact h
theorem Ob {l:List Tok} {D:Fam} {S:PS}:∀(m k j:Nat),k+m=j→j≤7→(pf l D j S).2.code=18→(3≤j→isM l W8 S=false)→(7≤j→isM l W9 S=false)→(pf l D k S).2.code=18
 | 0,k,j,e,_,h,_,_=>by rw [show k=j by omega];exact h
 | m+1,k,j,e,hj,h,h1,h2=>kz (by omega) (Ob m (k+1) j (by omega) hj h h1 h2) (fun _=>h1 (by omega)) (fun _=>h2 (by omega))
def F1 (l:List Tok) (x:Expr):Prop:=∀(k:Nat) (S:PS) (rest:List TK),k≤levE x→S.code=0→S.nest≤30→30<S.nest+Ag x→seg l S.i=A9 x++rest→stops k rest→(pf l (fam l S.nest) k S).2.code=18
def F2 (l:List Tok) (x:Expr):Prop:=∀(k:Nat) (S:PS) (rest:List TK),(k=0∨k=1∨k=4∨k=5)→k≤levE x→S.code=0→S.nest≤30→30<S.nest+Ag x→seg l S.i=A9 x++rest→stops (k+1) rest→(Ci l (ofL k) (pf l (fam l S.nest) (k+1)) S).2.code=18
theorem Kn {l:List Tok} {a:Int} {f:PS→Expr×PS} {S:PS} (h0:S.code=0) (hf:S.nest≠30→(f (Al S)).2.code=18):(Ak a f S).2.code=18:=by
 unfold Ak
 split
 ·exact qd h0
 rename_i h
 exact hf (by simp at h;omega)
theorem J2 {l:List Tok} {y:Expr} (hy:F1 l y) {k:Nat} (hk:k≤7) {S:PS} {rest:List TK} (h0:S.code=0) (hN:S.nest≤30) (hn:30<S.nest+C9 k y (Ag y)) (hs:seg l S.i=Bp k y (A9 y)++rest) (hst:stops k rest):(pf l (fam l S.nest) k S).2.code=18:=by
 unfold Bp at hs
 unfold C9 at hn
 by_cases hl:k≤levE y
 ·rw [if_pos hl] at hs hn
  exact hy k S rest hl h0 hN hn hs hst
 rw [if_neg hl] at hs hn
 have hs':seg l S.i=(5,[40])::(A9 y++(5,[41])::rest):=by rw [hs];simp
 refine Ob (7-k) k 7 (by omega) (Nat.le_refl _) ?_ (fun _=>by rw [Bw hs',Rt];decide) (fun _=>by rw [Bw hs',Ru];decide)
 obtain ⟨k1,t1,r1,i1⟩:=Af hs'
 have e1:isM l Mt S=false:=by rw [Bw hs',Wd];decide
 have e2:isM l opT S=true:=by rw [Bw hs',Ye];decide
 show (Cj l (fam l S.nest) S).2.code=18
 unfold Cj
 rw [if_neg (by rw [h0];decide),k1,e1,if_neg (by decide),if_neg (by decide),if_neg (by decide),if_pos e2]
 refine Uk (Kn (l:=l) h0 fun hne=>?_)
 have hne:S.nest≠30:=hne
 rw [Gr (by omega)]
 exact hy 0 (Al (A2 S)) ((5,[41])::rest) (Nat.zero_le _) h0 (by show S.nest+1≤30;omega) (by show 30<S.nest+1+Ag y;omega) r1 (fun h r e hm=>by
  injection e with e _
  subst e
  exact ⟨by decide,by decide⟩)
theorem vn {l:List Tok} {x:Expr} (hx:B0 At x=true) (hA:∀(S:PS) (rest:List TK),S.code=0→S.nest≤30→30<S.nest+Ag x→seg l S.i=A9 x++rest→stops (levE x) rest→(pf l (fam l S.nest) (levE x) S).2.code=18)
  (hB:∀(S:PS) (rest:List TK),(levE x=0∨levE x=1∨levE x=4∨levE x=5)→S.code=0→S.nest≤30→30<S.nest+Ag x→seg l S.i=A9 x++rest→stops (levE x+1) rest→(Ci l (ofL (levE x)) (pf l (fam l S.nest) (levE x+1)) S).2.code=18):F1 l x∧F2 l x:=by
 have h1:F1 l x:=fun k S rest hk h0 hN hn hs hst=>by
  obtain ⟨g1,g2⟩:=fg hx hs
  exact Ob (levE x-k) k (levE x) (by omega) (fe x) (hA S rest h0 hN hn hs (hst.mono hk)) g1 g2
 refine ⟨h1,fun k S rest hk hkl h0 hN hn hs hst=>?_⟩
 rcases Nat.lt_or_ge k (levE x) with h|h
 ·exact Fj (h1 (k+1) S rest h h0 hN hn hs hst)
 obtain rfl:k=levE x:=by omega
 exact hB S rest hk h0 hN hn hs hst
theorem qe {l:List Tok} {x:Expr} (h:Ag x=0):F1 l x∧F2 l x:=⟨fun k S rest _ _ hN hn _ _=>by omega,fun k S rest _ _ _ hN hn _ _=>by omega⟩
theorem AC0 {l:List Tok} {a:Expr} (hx:B0 At (Bq 3 a)=true) (ha:F1 l a):F1 l (Bq 3 a)∧F2 l (Bq 3 a):=by
 refine vn hx ?_ (fun S rest h=>by rw [L6] at h;omega)
 rw [L6,Mw,Ry]
 intro S rest h0 hN hn hs hst
 obtain ⟨_,_,s1,_⟩:=Af hs
 show (Gp l (fam l S.nest) S).2.code=_
 unfold Gp
 rw [if_neg (by rw [Bw hs,Ru];decide)]
 refine Kn (l:=l) h0 fun hne=>?_
 have hne:S.nest≠30:=hne
 rw [Gr (by omega)]
 exact J2 (l:=l) (S:=Al (A2 S)) ha (k:=6) (by omega) h0 (show S.nest+1≤30 by omega) (show 30<S.nest+1+C9 6 a (Ag a) by omega) s1 hst
theorem ADv {l:List Tok} {a:Expr} (hx:B0 At (Bq 4 a)=true) (ha:F1 l a):F1 l (Bq 4 a)∧F2 l (Bq 4 a):=by
 refine vn hx ?_ (fun S rest h=>by rw [O4] at h;omega)
 rw [O4,Ps,We]
 intro S rest h0 hN hn hs hst
 obtain ⟨_,_,s1,_⟩:=Af hs
 show (Gq l (fam l S.nest) S).2.code=_
 unfold Gq
 rw [if_neg (by rw [Bw hs,Rt];decide)]
 refine Kn (l:=l) h0 fun hne=>?_
 have hne:S.nest≠30:=hne
 rw [Gr (by omega)]
 exact J2 (l:=l) (S:=Al (A2 S)) ha (k:=2) (by omega) h0 (show S.nest+1≤30 by omega) (show 30<S.nest+1+C9 2 a (Ag a) by omega) s1 hst
theorem AC1 {l:List Tok} {t:Str} {a b:Expr} (ht:0≤Ae t) (hx:B0 At (C6 t a b)=true) (ha:T1 l a∧T2 l a) (fa:F1 l a∧F2 l a) (fb:F1 l b):F1 l (C6 t a b)∧F2 l (C6 t a b):=by
 have hlv:=Hz t
 obtain ⟨own,hown⟩:∃own,own=(Ae t).toNat:=⟨_,rfl⟩
 have hoi:Ae t=(own:Int):=by omega
 have hB:∀(S:PS) (rest:List TK),(own=0∨own=1∨own=4∨own=5)→S.code=0→S.nest≤30→30<S.nest+Ag (C6 t a b)→seg l S.i=A9 (C6 t a b)++rest→stops (own+1) rest →
   (Ci l (ofL own) (pf l (fam l S.nest) (own+1)) S).2.code=18:=by
  intro S rest hl h0 hN hn hs hst
  rw [Ix,←hown,show Bx own=own by unfold Bx;split<;>omega] at hs
  rw [Iy,←hown,show Bx own=own by unfold Bx;split<;>omega] at hn
  have hs':seg l S.i=Bp own a (A9 a)++(opTok t::(Bp (own+1) b (A9 b)++rest)):=by rw [hs];simp
  by_cases hna:30<S.nest+C9 own a (Ag a)
  ·by_cases hla:own≤levE a
   ·have e1:Bp own a (A9 a)=A9 a:=if_pos hla
    have e2:C9 own a (Ag a)=Ag a:=if_pos hla
    rw [e1] at hs'
    rw [e2] at hna
    exact fa.2 own S _ hl hla h0 hN hna hs' (Gt ht (by omega))
   have e1:Bp own a (A9 a)=Bp (own+1) a (A9 a):=by unfold Bp;rw [if_neg hla,if_neg (by omega)]
   have e2:C9 own a (Ag a)=C9 (own+1) a (Ag a):=by unfold C9;rw [if_neg hla,if_neg (by omega)]
   rw [e1] at hs'
   rw [e2] at hna
   exact Fj (J2 fa.1 (by omega) h0 hN hna hs' (Gt ht (by omega)))
  have hna:S.nest+C9 own a (Ag a)≤30:=by omega
  have hRA:∃n,l.length≤S.i+(Bp own a (A9 a)).length+n∧Ci l (ofL own) (pf l (fam l S.nest) (own+1)) S=Eu l (ofL own) (pf l (fam l S.nest) (own+1)) n (a,adv S (Bp own a (A9 a)).length):=by
   by_cases hla:own≤levE a
   ·have e1:Bp own a (A9 a)=A9 a:=if_pos hla
    have e2:C9 own a (Ag a)=Ag a:=if_pos hla
    rw [e1] at hs' ⊢
    rw [e2] at hna
    exact AB1
   have e1:Bp own a (A9 a)=Bp (own+1) a (A9 a):=by unfold Bp;rw [if_neg hla,if_neg (by omega)]
   have e2:C9 own a (Ag a)=C9 (own+1) a (Ag a):=by unfold C9;rw [if_neg hla,if_neg (by omega)]
   rw [e1] at hs' ⊢
   rw [e2] at hna
   refine ⟨l.length,by omega,?_⟩
   unfold Ci
   rw [Ki ha.1 (by omega) h0 hna hs' (Gt ht (by omega))]
  obtain ⟨n,hn1,hn2⟩:=hRA
  have s1':seg l (adv S (Bp own a (A9 a)).length).i=opTok t::(Bp (own+1) b (A9 b)++rest):=B1 hs'
  obtain ⟨_,tx,s2,i1⟩:=Af s1'
  obtain ⟨m,rfl⟩:∃m,n=m+1:=⟨n-1,by have:S.i+(Bp own a (A9 a)).length<l.length:=i1;omega⟩
  rw [hn2,Eu,if_pos (by
   show (((adv S (Bp own a (A9 a)).length).code==0)&&isM l (ofL own) (adv S (Bp own a (A9 a)).length))=true
   rw [fj s1',E7 (Kk hl),hoi]
   show ((S.code==0)&&_)=true
   rw [h0]
   simp)]
  refine Fj ?_;exact J2 (l:=l) (S:=A2 (adv S (Bp own a (A9 a)).length)) fb (k:=own+1) (by omega) h0 hN (show 30<S.nest+C9 (own+1) b (Ag b) by omega) s2 hst
 refine vn hx ?_ ?_
 ·rw [Jj,←hown]
  intro S rest h0 hN hn hs hst
  by_cases h3:own=3
  ·subst h3
   rw [Ix,←hown] at hs
   rw [Iy,←hown] at hn
   have e4:Bx 3=4:=rfl
   rw [e4] at hs hn
   have hn4:30<S.nest+max (C9 4 a (Ag a)) (C9 4 b (Ag b)):=hn
   have hs':seg l S.i=Bp 4 a (A9 a)++(opTok t::(Bp 4 b (A9 b)++rest)):=by rw [hs];simp
   show (Bg l (fam l S.nest) S).2.code=_
   by_cases hna:30<S.nest+C9 4 a (Ag a)
   ·have h1:(Bo l (fam l S.nest) S).2.code=18:=J2 (k:=4) fa.1 (by omega) h0 hN hna hs' (Gt ht (by omega))
    unfold Bg
    rw [if_pos (by rw [h1];rfl)]
    exact h1
   have h1:Bo l (fam l S.nest) S=(a,adv S (Bp 4 a (A9 a)).length):=Ki (k:=4) ha.1 (by omega) h0 (by omega) hs' (Gt ht (by omega))
   have s1:seg l (adv S (Bp 4 a (A9 a)).length).i=opTok t::(Bp 4 b (A9 b)++rest):=B1 hs'
   obtain ⟨_,tx,s2,i1⟩:=Af s1
   have h2:isM l Rj (adv S (Bp 4 a (A9 a)).length)=true:=by
    rw [fj s1,show Rj=ofL 3 from rfl,E7 (by omega),hoi]
    rfl
   unfold Bg
   rw [h1,if_neg (by rw [h2];show ¬(((S.code != 0) || _)=true);rw [h0];decide)]
   exact J2 (l:=l) (S:=A2 (adv S (Bp 4 a (A9 a)).length)) fb (k:=4) (by omega) h0 hN (show 30<S.nest+C9 4 b (Ag b) by omega) s2 (hst.mono (by omega))
  have hl:own=0∨own=1∨own=4∨own=5:=by omega
  rw [fh hl]
  exact hB S rest hl h0 hN hn hs (hst.mono (by omega))
 rw [Jj,←hown]
 exact hB
end Go.SX.Nb
