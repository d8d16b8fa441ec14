/- Texts on the way to this: ImageJoins answers true for whatever it is handed: of any moves, cut in two at any place: a row forth through both parts, one behind the other, is the row forth; back likewise (up to 50 columns and values, 8 moves). (part 7) -/
import Derived.ReadAgain
import Derived.ChangeSame
import Derived.ChangeArms
import Derived.ChangeOld
import Derived.ChangeFn
import Derived.MapPlaces
import Derived.DataReads
import Derived.OpenShut
import Derived.RowKit
import Derived.Deep.DeepHandedRow
import Derived.Test.YthakapgmpcbbkaaGreatDoorCards
import Derived.Test.YthakapgmpcbbkaaGreatDoorTie
import Derived.Lay
import Derived.Lib.LaidTab
import Derived.Stop.LaidErr
import Derived.Shelf.Vars
import Derived.ChangeBears
import Derived.Lib.SliceRun
import Derived.Test.YthakapgmpcbbkaaGreatDoorImageJoinsCardSaidPart6
set_option linter.all false
namespace Go.SX
variable [GI:GlobInv]
open Classical Go.RowKit Go.ChangeShapes
section
variable {P:Program} {H:Type} {enc:TypeId×Value→H}

/-- The first ghost: whatever lies there is read for good. -/
noncomputable def G0 (W:World):Gh:=⟨fun b o=>if (W.cell? ⟨b,o,none⟩).isSome then .fix else .free,fun _=>0,0⟩
theorem xj {W:World} {b o:Nat} {u:Value} (h:W.cell? ⟨b,o,none⟩=some u):(G0 W).tag b o=.fix:=by simp [G0,h]
theorem Nn {W:World} {b:Nat} (h:b<W.heap.size):I4 (G0 W) W b:=⟨h,fun o=>by simp only [G0];split<;>simp,fun i hi=>absurd hi (Nat.not_lt_zero _)⟩
theorem sj (W:World):HeapRel (G0 W) [] W:=⟨fun i x h=>by simp at h,rfl,fun i j hi=>absurd hi (Nat.not_lt_zero _)⟩
theorem sk {W:World} (h:Hm W):TagOK (G0 W) W:=by
 refine ⟨fun b o hb=>?_,fun b o i hb=>?_,fun b o L hb=>?_,fun x hx=>?_⟩
 ·simp only [G0] at hb
  split at hb
  ·rename_i hs;exact Option.isSome_iff_exists.1 hs
  exact absurd rfl hb
 ·simp only [G0] at hb;split at hb<;>cases hb
 ·simp only [G0] at hb;split at hb<;>cases hb
 obtain ⟨v,h1,h2⟩:=h x hx
 exact ⟨Nn (Array.getElem?_eq_some_iff.1 h1).1,v,h1,h2⟩

/-- What a datum of a plain type ABs as. -/
inductive DRep (P:Program):TypeId→DataW H→AV→Prop
 | int {t:TypeId} {k:IntKind} {n:Int} (hu:P.underlying t=some (.int k)) (wf:(Lit.int k n).wf=true):DRep P t (.lit (.int k n)) (.v (.int k n))
 | bool {t:TypeId} {b:Bool} (hu:P.underlying t=some .bool):DRep P t (.lit (.bool b)) (.v (.bool b))
 | str {t:TypeId} {bs:List UInt8} (hu:P.underlying t=some .string):DRep P t (.lit (.string bs)) (.v (sv bs))
 | nil {t e:TypeId} (hu:P.underlying t=some (.slice e)):DRep P t .nil (.slice false (P.cellsOf e) [])
 | slice {t e:TypeId} {elems spare:List (DataW H)} {ys:List AV} (hu:P.underlying t=some (.slice e)) (hn:ys.length=elems.length)
   (h:∀(i:Nat) (d:DataW H) (y:AV),elems[i]? = some d→ys[i]? = some y→DRep P e d y):DRep P t (.slice elems spare) (.slice false (P.cellsOf e) ys)
 | struct {t:TypeId} {fs:Array Field} {parts:List (DataW H)} {ys:List AV} (hu:P.underlying t=some (.struct fs)) (hn:parts.length=fs.size) (hn':ys.length=fs.size)
   (h:∀(i:Nat) (f:Field) (d:DataW H) (y:AV),fs[i]? = some f→parts[i]? = some d→ys[i]? = some y→DRep P f.type d y):DRep P t (.agg parts) (.agg (ys.flatMap AV.cells))

/-- Types that are made of numbers, texts, bools, slices and structs alone. -/
structure PlainT (P:Program) (T:TypeId→Prop):Prop where
 look:∀t,T t→(P.cellsOf t=1∧((∃k,P.underlying t=some (.int k))∨P.underlying t=some .bool∨P.underlying t=some .string∨(∃e,P.underlying t=some (.slice e)∧T e∧0<P.cellsOf e))) ∨
  (∃fs,P.underlying t=some (.struct fs)∧(∀f∈fs.toList,T f.type)∧P.cellsOf t=(fs.toList.map fun f=>P.cellsOf f.type).sum ∧
   ∀(j:Nat) (f:Field),fs.toList[j]? = some f→f.offset=((fs.toList.take j).map fun f=>P.cellsOf f.type).sum)

/-- The reading of a row of cells. -/
def CRep (W:World) (y:AV) (cs:List Value):Prop:=
 y.cells.length=cs.length∧(∀c∈y.cells,c.one=true)∧∀(j:Nat) (c:AV) (v:Value),y.cells[j]? = some c→cs[j]? = some v→Rep (G0 W) W none c v

theorem CRep.v1 {W:World} {x:Value} (h:x.oneCell'=true):CRep W (.v x) [x]:=
 ⟨rfl,by simp [AV.cells,AV.one,h],fun j c v h1 h2=>by
  match j with
  | 0=>simp [AV.cells] at h1 h2;subst h1;subst h2;exact .v _ _
  | j+1=>simp [AV.cells] at h1⟩

theorem X7 {f:AV→List AV}:∀(ys:List AV) (j:Nat) (c:AV),(ys.flatMap f)[j]? = some c→∃(i:Nat) (y:AV) (q:Nat),ys[i]? = some y∧(f y)[q]? = some c∧j=((ys.take i).map fun y=>(f y).length).sum+q
 | [],j,c,h=>by simp at h
 | y::r,j,c,h=>by
  rw [List.flatMap_cons] at h
  rcases Nat.lt_or_ge j (f y).length with h'|h'
  ·rw [List.getElem?_append_left h'] at h
   exact ⟨0,y,j,rfl,h,by simp⟩
  rw [List.getElem?_append_right h'] at h
  obtain ⟨i,z,q,h1,h2,h3⟩:=X7 r _ c h
  exact ⟨i+1,z,q,h1,h2,by simp only [List.take_succ_cons,List.map_cons,List.sum_cons];omega⟩
theorem K6 {α:Type} {R:Nat→α→Prop}:∀(n:Nat),(∀i,i<n→∃y,R i y)→∃ys:List α,ys.length=n∧∀(i:Nat) (y:α),ys[i]? = some y→R i y
 | 0,_=>⟨[],rfl,fun i y h=>by simp at h⟩
 | n+1,h=>by
  obtain ⟨ys,h1,h2⟩:=K6 n (fun i hi=>h i (by omega))
  obtain ⟨y,hy⟩:=h n (by omega)
  refine ⟨ys++[y],by simp [h1],fun i z hz=>?_⟩
  rcases Nat.lt_or_ge i n with h'|h'
  ·rw [List.getElem?_append_left (by omega)] at hz;exact h2 i z hz
  rw [List.getElem?_append_right (by omega)] at hz
  have:i=n:=by
   have:=(List.getElem?_eq_some_iff.1 hz).1
   simp at this;omega
  subst this
  rw [h1] at hz
  simp at hz
  exact hz ▸ hy
theorem Lv {α β:Type} {f:α→Nat} {g:β→Nat}:∀(l:List α) (m:List β),l.length=m.length→(∀(i:Nat) (a:α) (b:β),l[i]? = some a→m[i]? = some b→f a=g b)→(l.map f).sum=(m.map g).sum
 | [],[],_,_=>rfl
 | [],b::m,h,_=>by simp at h
 | a::l,[],h,_=>by simp at h
 | a::l,b::m,h,hh=>by
  simp only [List.map_cons,List.sum_cons]
  rw [hh 0 a b rfl rfl,Lv l m (by simpa using h) (fun i a b h1 h2=>hh (i+1) a b h1 h2)]

theorem nj {T:TypeId→Prop} (PT:PlainT P T) {W:World}:∀(n:Nat) (t:TypeId) (cs:List Value) (x:DataW H×List MemPlace),T t→DataW.trod enc P W 0 (fun _=>true) true n t cs=some x →
  ∃y,DRep P t x.1 y∧CRep W y cs∧cs.length=P.cellsOf t:=by
 intro n
 induction n with
 | zero=>intro t cs x _ h;simp [DataW.trod] at h
 | succ n ih =>
  intro t cs x hT h
  rcases PT.look t hT with ⟨hc1,⟨k,hu⟩|hu|hu|⟨e,hu,he,hz⟩⟩|⟨fs,hu,hf,hsum,hoff⟩
  ·obtain ⟨m,rfl,rfl,hw⟩:=DataW.trod_int hu h
   exact ⟨_,.int hu hw,.v1 rfl,hc1.symm⟩
  ·obtain ⟨b,rfl,rfl⟩:=DataW.trod_bool hu h
   exact ⟨_,.bool hu,.v1 rfl,hc1.symm⟩
  ·obtain ⟨s,rfl,rfl,_⟩:=DataW.trod_string hu h
   exact ⟨_,.str hu,.v1 rfl,hc1.symm⟩
  ·rcases DataW.trod_slice hu h with ⟨rfl,rfl⟩|⟨a,len,cap,elems,rest,m,hm,rfl,rfl,hb,hlc,hcm,hel,hE,_,_⟩
   ·refine ⟨_,.nil hu,⟨rfl,by simp [AV.cells,AV.one],fun j c v h1 h2=>?_⟩,hc1.symm⟩
    match j with
    | 0=>simp [AV.cells] at h1 h2;subst h1;subst h2;exact .slice0 _ _ _
    | j+1=>simp [AV.cells] at h1
   injection hm with hm
   subst hm
   subst hel
   have hEi:∀i,i<elems.length→∃y,(∀d,elems[i]? = some d→DRep P e d.1 y)∧∃ci,W.cells? 0 (a.add (i*P.cellsOf e)) (P.cellsOf e)=some ci∧CRep W y ci:=fun i hi=>by
    have h1:=hE i hi
    rw [List.getElem?_eq_getElem hi,Option.bind_eq_some_iff] at h1
    obtain ⟨ci,h2,h3⟩:=h1
    obtain ⟨y,h4,h5,_⟩:=ih e ci _ he h3
    exact ⟨y,fun d hd=>by rw [List.getElem?_eq_getElem hi] at hd;injection hd with hd;subst hd;exact h4,ci,h2,h5⟩
   obtain ⟨ys,hyl,hys⟩:=K6 elems.length hEi
   refine ⟨.slice false (P.cellsOf e) ys,.slice hu (by simp [hyl]) (fun i d y hd hy=>?_),⟨rfl,by simp [AV.cells,AV.one],fun j c v h1 h2=>?_⟩,hc1.symm⟩
   ·rw [List.getElem?_map,Option.map_eq_some_iff] at hd
    obtain ⟨d',hd',rfl⟩:=hd
    exact (hys i y hy).1 d' hd'
   match j with
   | j+1=>simp [AV.cells] at h1
   | 0 =>
    simp [AV.cells] at h1 h2
    subst h1;subst h2
    by_cases h0:elems.length=0
    ·have:ys=[]:=List.eq_nil_of_length_eq_zero (by omega)
     subst this
     rw [h0]
     exact .sliceE _ _ _ _
    have hspot:a.spot=none:=by
     obtain ⟨ci,hci,_⟩:=(hys 0 ys[0] (List.getElem?_eq_getElem (by omega))).2
     obtain ⟨_,g1,g2⟩:=World.cells?_some hci
     have g3:=g2 0 hz
     rw [List.getElem?_eq_getElem (by omega)] at g3
     simp only [Nat.zero_mul,Addr.add,if_true] at g3
     unfold World.cell? at g3
     split at g3
     ·split at g3
      ·cases g3
      rename_i hs;simpa using hs
     cases g3
    refine .slice _ false _ ys a _ cap (fun i j=>(W.cell? ⟨a.block,a.off+i*P.cellsOf e+j,none⟩).getD undef) hspot hyl.symm hlc (fun x hx=>?_) (fun x hx=>?_) (fun i x j y hx hy=>?_) (fun i x j y hx hy=>?_) (fun h=>by cases h)
    ·obtain ⟨i,hi⟩:=List.getElem?_of_mem hx
     obtain ⟨ci,hci,hcr⟩:=(hys i x hi).2
     rw [hcr.1]
     exact (World.cells?_some hci).2.1
    ·obtain ⟨i,hi⟩:=List.getElem?_of_mem hx
     obtain ⟨ci,hci,hcr⟩:=(hys i x hi).2
     exact hcr.2.1
    ·obtain ⟨ci,hci,hcr⟩:=(hys i x hx).2
     obtain ⟨_,g1,g2⟩:=World.cells?_some hci
     have hj:j<P.cellsOf e:=by
      have:=(List.getElem?_eq_some_iff.1 hy).1
      rw [hcr.1] at this;omega
     have g3:=g2 j hj
     rw [List.getElem?_eq_getElem (by omega),Bg hspot,Bg rfl] at g3
     exact ⟨xj g3,by rw [g3];rfl⟩
    obtain ⟨ci,hci,hcr⟩:=(hys i x hx).2
    obtain ⟨_,g1,g2⟩:=World.cells?_some hci
    have hj:j<P.cellsOf e:=by
     have:=(List.getElem?_eq_some_iff.1 hy).1
     rw [hcr.1] at this;omega
    have g3:=g2 j hj
    rw [List.getElem?_eq_getElem (by omega),Bg hspot,Bg rfl] at g3
    simp only at g3
    rw [g3]
    exact hcr.2.2 j y _ hy (List.getElem?_eq_getElem (by omega))
  obtain ⟨xs,m,hm,rfl,hcl,hxl,hX⟩:=DataW.trod_struct hu h
  injection hm with hm
  subst hm
  have hXi:∀i,i<fs.size→∃y,∀(f:Field),fs[i]? = some f→(∀d,xs[i]? = some d→DRep P f.type d.1 y)∧CRep W y ((cs.drop f.offset).take (P.cellsOf f.type))∧y.cells.length=P.cellsOf f.type:=fun i hi=>by
   have h1:=hX i fs[i] (Array.getElem?_eq_getElem hi)
   rw [List.getElem?_eq_getElem (by omega)] at h1
   obtain ⟨y,h2,h3,h4⟩:=ih _ _ _ (hf _ (by simp)) h1
   refine ⟨y,fun f hf'=>?_⟩
   rw [Array.getElem?_eq_getElem hi] at hf'
   injection hf' with hf'
   subst hf'
   exact ⟨fun d hd=>by rw [List.getElem?_eq_getElem (by omega)] at hd;injection hd with hd;subst hd;exact h2,h3,by rw [h3.1,h4]⟩
  obtain ⟨ys,hyl,hys⟩:=K6 fs.size hXi
  have hlenI:∀(i:Nat),((ys.take i).map fun y=>y.cells.length).sum=((fs.toList.take i).map fun f=>P.cellsOf f.type).sum:=fun i=>by
   refine Lv _ _ (by simp [hyl]) (fun j y f h1 h2=>?_)
   rw [List.getElem?_take] at h1 h2
   split at h1
   ·rename_i hj
    rw [if_pos hj] at h2
    exact (hys j y h1 f (by simpa using h2)).2.2
   cases h1
  have htot:(ys.flatMap AV.cells).length=cs.length:=by
   rw [List.length_flatMap,hcl,hsum]
   refine Lv _ _ (by simp [hyl]) (fun j y f h1 h2=>(hys j y h1 f (by simpa using h2)).2.2)
  refine ⟨.agg (ys.flatMap AV.cells),.struct hu (by simp [hxl]) hyl (fun i f d y hf' hd hy=>?_),⟨htot,fun c hc=>?_,fun j c v h1 h2=>?_⟩,hcl⟩
  ·rw [List.getElem?_map,Option.map_eq_some_iff] at hd
   obtain ⟨d',hd',rfl⟩:=hd
   exact (hys i y hy f hf').1 d' hd'
  ·obtain ⟨y,hy,hcy⟩:=List.mem_flatMap.1 hc
   obtain ⟨i,hi⟩:=List.getElem?_of_mem hy
   have hlt:i<fs.size:=by rw [←hyl];exact (List.getElem?_eq_some_iff.1 hi).1
   exact ((hys i y hi fs[i] (Array.getElem?_eq_getElem hlt)).2.1).2.1 c hcy
  obtain ⟨i,y,q,g1,g2,rfl⟩:=X7 ys j c h1
  have hlt:i<fs.size:=by rw [←hyl];exact (List.getElem?_eq_some_iff.1 g1).1
  obtain ⟨_,k2,k3⟩:=hys i y g1 fs[i] (Array.getElem?_eq_getElem hlt)
  have hq:q<P.cellsOf (fs[i]).type:=by have:=(List.getElem?_eq_some_iff.1 g2).1;omega
  refine k2.2.2 q c v g2 ?_
  rw [List.getElem?_take,if_pos hq,List.getElem?_drop,hoff i fs[i] (by simp [hlt]),←hlenI i]
  exact h2

/-- A measure of data. -/
structure Bulk (B:DataW H→Nat):Prop where
 str:∀bs,bs.length≤B (.lit (.string bs))
 slice:∀elems spare,elems.length≤B (.slice elems spare)∧∀d∈elems,B d≤B (.slice elems spare)
 agg:∀parts,∀d∈parts,B d≤B (.agg parts)
theorem DRep.int' {t:TypeId} {k:IntKind} {d:DataW H} {y:AV} (hu:P.underlying t=some (.int k)) (h:DRep P t d y):∃n,d=.lit (.int k n)∧y=.v (.int k n)∧k.min≤n∧n≤k.max:=by
 cases h with
 | int hu' wf=>rw [hu] at hu';injection hu' with e;injection e with e;subst e;exact ⟨_,rfl,rfl,by simpa [Lit.wf] using wf⟩
 | _ hu'=>rw [hu] at hu';cases hu'
theorem DRep.str' {t:TypeId} {d:DataW H} {y:AV} (hu:P.underlying t=some .string) (h:DRep P t d y):∃s,d=.lit (.string s)∧y=.v (sv s):=by
 cases h with
 | str hu'=>exact ⟨_,rfl,rfl⟩
 | _ hu'=>rw [hu] at hu';cases hu'
theorem DRep.slice' {t e:TypeId} {d:DataW H} {y:AV} {B:DataW H→Nat} (hB:Bulk B) {α:Type} (A:α→AV) (R:α→Prop) {b:Nat} (hu:P.underlying t=some (.slice e)) (h:DRep P t d y) (hb:B d≤b)
  (hE:∀d y,B d≤b→DRep P e d y→∃x,y=A x∧R x):∃l:List α,y=.slice false (P.cellsOf e) (l.map A)∧l.length≤b∧∀x∈l,R x:=by
 cases h with
 | nil hu'=>rw [hu] at hu';injection hu' with e';injection e' with e';subst e';exact ⟨[],rfl,Nat.zero_le _,fun x hx=>by cases hx⟩
 | slice hu' hn hh =>
  rw [hu] at hu';injection hu' with e';injection e' with e';subst e'
  rename_i elems spare ys
  obtain ⟨h1,h2⟩:=hB.slice elems spare
  have key:∀(ys:List AV) (es:List (DataW H)),ys.length=es.length→(∀d∈es,B d≤b)→(∀(i:Nat) (d:DataW H) (y:AV),es[i]? = some d→ys[i]? = some y→DRep P e d y)→∃l:List α,ys=l.map A∧∀x∈l,R x:=by
   intro ys
   induction ys with
   | nil=>exact fun es _ _ _=>⟨[],rfl,fun x hx=>by cases hx⟩
   | cons y ys ih =>
    intro es hl hb2 hr
    cases es with
    | nil=>simp at hl
    | cons d es =>
     obtain ⟨x,rfl,hx⟩:=hE d y (hb2 d (by simp)) (hr 0 d y rfl rfl)
     obtain ⟨l,rfl,hR⟩:=ih es (by simpa using hl) (fun d hd=>hb2 d (by simp [hd])) (fun i d y a c=>hr (i+1) d y a c)
     exact ⟨x::l,rfl,fun z hz=>by
      rcases List.mem_cons.1 hz with rfl|hz
      ·exact hx
      exact hR z hz⟩
  obtain ⟨l,rfl,hR⟩:=key ys elems hn (fun d hd=>Nat.le_trans (h2 d hd) hb) hh
  exact ⟨l,rfl,by simp at hn;omega,hR⟩
 | _ hu'=>rw [hu] at hu';cases hu'
theorem DRep.struct' {t:TypeId} {fs:Array Field} {d:DataW H} {y:AV} {B:DataW H→Nat} (hB:Bulk B) (hu:P.underlying t=some (.struct fs)) (h:DRep P t d y):
  ∃ys:List AV,ys.length=fs.size∧y=.agg (ys.flatMap AV.cells)∧∀(i:Nat) (f:Field) (z:AV),fs[i]? = some f→ys[i]? = some z→∃d',B d'≤B d∧DRep P f.type d' z:=by
 cases h with
 | struct hu' hn hn' hh =>
  rw [hu] at hu';injection hu' with e';injection e' with e';subst e'
  rename_i parts ys
  refine ⟨ys,hn',rfl,fun i f z h1 h2=>?_⟩
  have hlt:i<parts.length:=by rw [hn];exact (Array.getElem?_eq_some_iff.1 h1).1
  exact ⟨parts[i],hB.agg parts _ (List.getElem_mem hlt),hh i f parts[i] z h1 (List.getElem?_eq_getElem hlt) h2⟩
 | _ hu'=>rw [hu] at hu';cases hu'

/-- An argument's reading. -/
theorem sm {T:TypeId→Prop} (PT:PlainT P T) {W:World} {t:TypeId} {v:Value} {d:DataW H} {ps:List MemPlace} {b0:Nat} (hT:T t) (hok:Value.okWide P W .any b0 t v) (h:DataW.Trod enc P W 0 (fun _=>true) true t v d ps):
  ∃y,DRep P t d y∧Rep (G0 W) W none y v:=by
 obtain ⟨n,hn⟩:=h
 obtain ⟨y,h1,h2,h3⟩:=nj PT n t _ _ hT hn
 refine ⟨y,h1,?_⟩
 rcases PT.look t hT with ⟨hc1,hone⟩|⟨fs,hu,_⟩
 ·have hva:∀cs,v≠.agg cs:=fun cs e=>by
   subst e
   rcases hone with ⟨k,hu⟩|hu|hu|⟨e,hu,he,hz⟩<;>simp [Value.okWide,hu,Cell.okWide,Cell.ok] at hok
  have hvc:v.cells=#[v]:=by cases v<;>first|rfl|exact absurd rfl (hva _)
  have hyc:y.cells=[y]:=by
   cases h1 with
   | struct hu=>rcases hone with ⟨k,hu'⟩|hu'|hu'|⟨e,hu',he,hz⟩<;>rw [hu] at hu'<;>cases hu'
   | _=>rfl
  have:=h2.2.2 0 y v (by rw [hyc];rfl) (by rw [hvc];rfl)
  exact this
 obtain ⟨cs,rfl,hsz,_⟩:∃cs,v=.agg cs∧cs.size=P.cellsOf t∧Row.okWide P W .any b0 t cs:=by
  simp only [Value.okWide,hu] at hok
  exact hok
 cases h1 with
 | struct hu' hn1 hn2 hh =>
  refine .agg _ _ _ (by have:=h2.1;simp only [AV.cells,Value.cells,Array.length_toList] at this;exact this.symm) h2.2.1 (fun i c u a b=>h2.2.2 i c u a (by simpa [Value.cells] using b))
 | int hu'=>rw [hu] at hu';cases hu'
 | bool hu'=>rw [hu] at hu';cases hu'
 | str hu'=>rw [hu] at hu';cases hu'
 | nil hu'=>rw [hu] at hu';cases hu'
 | slice hu'=>rw [hu] at hu';cases hu'

def DReps (P:Program):List TypeId→List (DataW H)→List AV→Prop
 | [],[],[]=>True
 | t::ts,d::ds,y::ys=>DRep P t d y∧DReps P ts ds ys
 | _,_,_=>False

theorem DReps.cons' {t:TypeId} {ts:List TypeId} {ds:List (DataW H)} {ys:List AV} (h:DReps P (t::ts) ds ys):∃d ds' y ys',ds=d::ds'∧ys=y::ys'∧DRep P t d y∧DReps P ts ds' ys':=by
 match ds,ys,h with
 | d::ds',y::ys',⟨h1,h2⟩=>exact ⟨d,ds',y,ys',rfl,rfl,h1,h2⟩
 | [],_,h=>simp [DReps] at h
 | _::_,[],h=>simp [DReps] at h
theorem DReps.nil' {ds:List (DataW H)} {ys:List AV} (h:DReps P [] ds ys):ds=[]∧ys=[]:=by
 match ds,ys,h with
 | [],[],_=>exact ⟨rfl,rfl⟩
 | [],_::_,h=>simp [DReps] at h
 | _::_,_,h=>simp [DReps] at h
theorem Ti {T:TypeId→Prop} (PT:PlainT P T) {W:World} {b0:Nat}:∀(ts:List TypeId) (vs:List Value) (ds:List (DataW H)) (ps:List MemPlace),(∀t∈ts,T t) →
  (∀(j:Nat) t v,ts[j]? = some t→vs[j]? = some v→Value.okWide P W .any b0 t v)→DataW.TrodAll enc P W 0 (fun _=>true) true ts vs ds ps →
  ∃ys,DReps P ts ds ys∧ys.length=vs.length∧∀(i:Nat) (y:AV) (u:Value),ys[i]? = some y→vs[i]? = some u→Rep (G0 W) W none y u
 | [],[],[],_,_,_,_=>⟨[],trivial,rfl,fun i y u h=>by simp at h⟩
 | t::ts,v::vs,d::ds,ps,hT,hok,⟨p,q,h1,h2,_⟩=>by
  obtain ⟨y,k1,k2⟩:=sm PT (hT t (by simp)) (hok 0 t v rfl rfl) h1
  obtain ⟨ys,k3,k4,k5⟩:=Ti PT ts vs ds q (fun t ht=>hT t (by simp [ht])) (fun j t v a b=>hok (j+1) t v a b) h2
  refine ⟨y::ys,⟨k1,k3⟩,by simp [k4],fun i z u a b=>?_⟩
  match i with
  | 0=>simp at a b;subst a;subst b;exact k2
  | i+1=>exact k5 i z u a b
 | [],_::_,_,_,_,_,h=>by simp [DataW.TrodAll] at h
 | [],[],_::_,_,_,_,h=>by simp [DataW.TrodAll] at h
 | _::_,[],_,_,_,_,h=>by simp [DataW.TrodAll] at h
 | _::_,_::_,[],_,_,_,h=>by simp [DataW.TrodAll] at h

theorem Oy {W:World} {sp:Nat→Bool} {hd:Bool}:∀{ts:List TypeId} {vs:List Value} {ds:List (DataW H)} {ps:List MemPlace},DataW.TrodAll enc P W 0 sp hd ts vs ds ps→ds.length=ts.length
 | [],[],[],_,_=>rfl
 | _::_,_::_,_::_,_,⟨_,_,_,h,_⟩=>by rw [List.length_cons,List.length_cons,Oy h]
 | [],_::_,_,_,h=>by simp [DataW.TrodAll] at h
 | [],[],_::_,_,h=>by simp [DataW.TrodAll] at h
 | _::_,[],_,_,h=>by simp [DataW.TrodAll] at h
 | _::_,_::_,[],_,h=>by simp [DataW.TrodAll] at h
theorem K7 {W W':World} {sp:Nat→Bool}:∀{ts:List TypeId} {vs:List Value} {ds:List (DataW H)} {ps:List MemPlace},DataW.TrodAll enc P W 0 sp true ts vs ds ps→(∀p∈ps,W.sameAt W' p)→DataW.TrodAll enc P W' 0 sp true ts vs ds ps
 | [],[],[],_,h,_=>h
 | _::_,_::_,_::_,_,⟨p,q,⟨n,hn⟩,h2,e⟩,hs=>⟨p,q,⟨n,DataW.trod_carry n _ _ _ hn (fun x hx=>hs x (by rw [e];exact List.mem_append_left _ hx))⟩,K7 h2 (fun x hx=>hs x (by rw [e];exact List.mem_append_right _ hx)),e⟩
 | [],_::_,_,_,h,_=>by simp [DataW.TrodAll] at h
 | [],[],_::_,_,h,_=>by simp [DataW.TrodAll] at h
 | _::_,[],_,_,h,_=>by simp [DataW.TrodAll] at h
 | _::_,_::_,[],_,h,_=>by simp [DataW.TrodAll] at h

/-- **A law that answers true, for whatever can be read.** -/
theorem ip {f:FuncId} {fn:Func} {s:ChangeSpec} {T:TypeId→Prop} {tb:TypeId} {W:World} {base:Nat} {args:Array Value} {ds gs:List (DataW H)} {before:List MemPlace} (K:Kids P (·<P.types.size)) (hz:∀t e,t<P.types.size→P.underlying t=some (.slice e)→0<P.cellsOf e)
  (PT:PlainT P T) (hT:∀t∈fn.params.toList,T t∧t<P.types.size) (hb:P.underlying tb=some .bool) (hres:fn.resultTypes=#[tb]) (hvars:s.vars=[])
  (hspec:∀ds:List (DataW H),ds.length=fn.params.size→s.fn H ds={ results:=[.lit (.bool true)],args:=ds })
  (hval:∀(j:Nat) t v,fn.params[j]? = some t→args[j]? = some v→Value.okWide P W .any base t v) (hW:DataW.Whole enc P fn.params.toList s.vars false W args.toList ds gs before)
  (hglob:Hm W)
  (main:∀ys:List AV,DReps P fn.params.toList ds ys→AFun P f ys [] (.v (.bool true))) (hbd:GI.bd≤0:=by exact Nat.le_refl 0):
  Calls P f args W (fun e W'=>∃v,e=.returned v∧s.post enc P fn false true false false W args v W'):=by
 have hW0:=hW
 obtain ⟨p,q,hA,hV,hpq,hfz,hnd⟩:=hW
 rw [hvars] at hV
 obtain ⟨rfl,rfl⟩:=trodVars_none hV
 rw [List.append_nil] at hpq
 subst hpq
 obtain ⟨ys,h1,h2,h3⟩:=Ti PT _ _ _ _ (fun t ht=>(hT t ht).1) (fun j t v a b=>hval j t v (by simpa using a) (by simpa using b)) hA
 have hlen:=Oy hA
 have hc:=main ys h1 0 (G0 W) W args (by simpa using h2.symm) (fun i y u a b=>(h3 i y u a (by simpa using b)).lift) (sj W) (sk hglob)
 refine (callsIn_wide.1 (hc hbd)).mono ?_
 rintro e W' ⟨v,G',r,H',rfl,hr,hH,hTg,hk,hl,rfl,rfl⟩
 have hv:=M4 hr
 subst hv
 refine ⟨_,rfl,ds,[],before,[],before,[],hW0,?_,?_,?_,?_,fun h=>by cases h⟩
 ·rw [hres,List.append_nil,hspec ds (by simpa using hlen)]
  exact trodAll_cons_mk (p:=[]) (shut_bool hb true) trodAll_mk0
 ·rw [List.append_nil,hspec ds (by simpa using hlen)]
  refine K7 (DataW.TrodAll.respare K hz (fun t ht=>(hT t ht).2) hA (fun p hp=>by simpa using hW0.lt p hp)) (fun p hp=>?_)
  have hlt:=hW0.lt p hp
  have hb:=(hk.old _ (Nn hlt)).1
  cases p with
  | cell b o=>exact Ge hb
  | map b=>exact hb
 ·rw [hvars,List.append_nil,hspec ds (by simpa using hlen)]
  rfl
 refine ⟨hk.os,hk.output,fun i hi=>?_⟩
 have hb:=(hk.old i (Nn hi)).1
 rw [hb]
 cases ho:W.heap[i]? with
 | none=>simp
 | some o=>cases o<;>simp
end
end Go.SX
namespace Go.Proofs.YthakapgmpcbbkaaGreatDoor
open Go Go.SX Go.SX.Nb Go.ChangeShapes Go.RowKit
set_option maxRecDepth 100000

theorem own:ownKnob Tryz.prog.godebug=none:=by kernel_rfl
theorem kids:Kids Tryz.prog (·<Tryz.prog.types.size):=kids_rows (by kernel_rfl) (by kernel_rfl)
theorem full:∀t e,t<Tryz.prog.types.size→Tryz.prog.underlying t=some (.slice e)→0<Tryz.prog.cellsOf e:=slices_full_of Tryz.prog (by kernel_rfl)
theorem nk {H:Type}:∀d:DataW H,1≤Rows.uptoBulk d
 | .lit (.string b)=>by rw [Rows.uptoBulk];omega
 | .lit (.bool _)=>by simp [Rows.uptoBulk]
 | .lit (.int _ _)=>by simp [Rows.uptoBulk]
 | .lit (.float _ _)=>by simp [Rows.uptoBulk]
 | .lit .nil=>by simp [Rows.uptoBulk]
 | .nil=>by simp [Rows.uptoBulk]
 | .ptr d=>by rw [Rows.uptoBulk];omega
 | .slice a b=>by rw [Rows.uptoBulk];omega
 | .agg a=>by rw [Rows.uptoBulk];omega
 | .iface _ d=>by rw [Rows.uptoBulk];omega
 | .map a=>by rw [Rows.uptoBulk];omega
 | .held _=>by simp [Rows.uptoBulk]
theorem Qs {H:Type}:∀l:List (DataW H),l.length≤Rows.uptoBulkAll l∧∀d∈l,Rows.uptoBulk d≤Rows.uptoBulkAll l
 | []=>⟨Nat.zero_le _,fun d h=>by cases h⟩
 | d::r=>by
  obtain ⟨h1,h2⟩:=Qs r
  have:=nk d
  rw [Rows.uptoBulkAll,List.length_cons]
  refine ⟨by omega,fun x hx=>?_⟩
  rcases List.mem_cons.1 hx with rfl|hx
  ·omega
  have:=h2 x hx;omega
theorem an {H:Type}:Bulk (Rows.uptoBulk (H:=H)) where
 str:=fun bs=>by rw [Rows.uptoBulk];omega
 slice:=fun elems spare=>by
  obtain ⟨h1,h2⟩:=Qs elems
  rw [Rows.uptoBulk]
  exact ⟨by omega,fun d hd=>by have:=h2 d hd;omega⟩
 agg:=fun parts d hd=>by
  have:=(Qs parts).2 d hd
  rw [Rows.uptoBulk]
  omega

/-- What the rows of this seat list. -/
def nl:List (String×DataW Unit):=Rows.phaseWaysUptoRow.laid
theorem iq:∀u,Tryz.prog.typeName? 3 u=some "*errors.errorString" → u=310:=by
 intro u hu
 exact typeName_ptr_named (nm := "errors.errorString") (by kernel_rfl) (by kernel_rfl) (by decide) u hu
theorem so {W:World} (h:laidMet Tryz.prog nl W):∃a:Addr,W.var? Tryz.prog "strconv.ErrRange" = some #[.iface 310 (.pointer (some a))]:=by
 have h':=h.tail.tail.tail.tail
 obtain ⟨a,s,h1,_⟩:=laid_sentinel (g:=3) (ti:=119) (tp:=310) (te:=312) (ts:=9) h' (by kernel_rfl) (by kernel_rfl) Tryz.underlying119 iq Tryz.underlying310 Tryz.underlying312 rfl rfl Tryz.underlying9 (by kernel_rfl) (by kernel_rfl)
 exact ⟨a,h1⟩
theorem sq {W:World} (h:laidMet Tryz.prog nl W):Lib.TabIs Tryz.prog W "internal/strconv.uint64pow10" .u64 Lib.pow10Tab:=
 Lib.tabIs_of_head (g:=5) (t:=307) (e:=274) (n:=20) (by kernel_rfl) (by kernel_rfl) (by kernel_rfl) (by kernel_rfl) (by kernel_rfl) (by kernel_rfl) h.tail.tail
theorem Tj {P:Program} {W:World} {n:String} {g:Nat} {cs:Array Value} (hg:P.globalNamed n=some g) (h:W.var? P n=some cs):∃t f,W.heap[g]? = some (.cells cs t f):=by
 unfold World.var? at h
 rw [hg] at h
 simp only [Option.bind_some] at h
 split at h
 ·rename_i cs' t f e
  injection h with h
  subst h
  exact ⟨t,f,e⟩
 cases h
theorem glob {W:World} [E:ErrAt] (h:W.ShapedOpen Tryz.prog) (hl:laidMet Tryz.prog nl W) (he:W.var? Tryz.prog "strconv.ErrRange" = some #[.iface 310 (.pointer (some E.b))]):Hm W:=by
 intro x hx
 have hx':x∈T6:=hx
 unfold T6 at hx'
 simp only [List.mem_cons,List.mem_nil_iff,or_false] at hx'
 rcases hx' with rfl|rfl|rfl
 ·obtain ⟨m,hm⟩:=cell_of_shapedOpen_int (g:=0) (t:=3) (zero:=#[.int .i64 0]) (k:=.i64) h (of_decide_eq_true (by kernel_rfl)) (by kernel_rfl) rfl (by kernel_rfl) (by kernel_rfl) Tryz.underlying3
  obtain ⟨cs,hh,hs,_⟩:=h.1 0 #[.int .i64 0] 3 (of_decide_eq_true (by kernel_rfl)) (by kernel_rfl)
  have hs':cs.size=1:=hs
  have h1:0<cs.size:=by omega
  have hc:cs[0]=.int .i64 m:=by
   simp [World.cell?,hh,h1] at hm
   exact hm
  have:cs=#[.int .i64 m]:=by
   apply Array.ext
   ·simpa using hs'
   intro i h1 h2
   have:i=0:=by omega
   subst this
   simpa using hc
  rw [this] at hh
  exact ⟨_,hh,m,3,_,rfl⟩
 ·obtain ⟨t,f,e⟩:=Tj (g:=3) (by kernel_rfl) he
  exact ⟨_,e,t,f,rfl⟩
 obtain ⟨t,f,e⟩:=Tj (g:=5) (by kernel_rfl) (sq hl)
 exact ⟨_,e,t,f,rfl⟩
end Go.Proofs.YthakapgmpcbbkaaGreatDoor
namespace Go.SX.Nb
open Go Go.SX Go.Proofs
variable [ErrAt]
set_option maxRecDepth 4000
mutual
def depthE:Expr→Nat
 | .mk _ _ _ k=>K8 k+1
def K8:List Expr→Nat
  | []=>0
  | e::r=>max (depthE e) (K8 r)
 end
mutual
def Bn (p:Expr→Bool):Expr→Bool
 | .mk o t v k=>p (.mk o t v k)&&Ik p k
def Ik (p:Expr→Bool):List Expr→Bool
  | []=>true
  | e::r=>Bn p e&&Ik p r
 end
mutual
def Qt:Expr→List Expr
 | .mk o t v k=>.mk o t v k::No k
def No:List Expr→List Expr
  | []=>[]
  | e::r=>Qt e++No r
 end
theorem Tk (e:Expr):depthE e=K8 e.kids+1:=by cases e;rfl
theorem E1 (p:Expr→Bool) (e:Expr):Bn p e=(p e&&Ik p e.kids):=by cases e;rfl
theorem Mj:∀a b,Cj (a++b)=Cj a+Cj b
 | [],b=>by rw [List.nil_append,Cj,Nat.zero_add]
 | e::r,b=>by rw [List.cons_append,Cj,Cj,Mj r b,Nat.add_assoc]
theorem Dn (p:Expr→Bool):∀l:List Expr,Ik p l=true↔∀y∈l,Bn p y=true
 | []=>by simp [Ik]
 | e::r=>by rw [Ik,Bool.and_eq_true,Dn p r];simp
mutual
theorem Em:∀(d:Int) (e:Expr),(Av d e).length=sizeE e
 | d,.mk o t v k=>by rw [Av,sizeE,List.length_cons,Qu (d+1) k,Nat.add_comm]
theorem Qu:∀(d:Int) (l:List Expr),(Ao d l).length=Cj l
  | d,[]=>rfl
  | d,e::r=>by rw [Ao,Cj,List.length_append,Em d e,Qu d r]
 end
mutual
theorem Qv:∀(d:Int) (e:Expr),(Av d e).map (·.2)=Qt e
 | d,.mk o t v k=>by rw [Av,Qt,List.map_cons,Qw (d+1) k]
theorem Qw:∀(d:Int) (l:List Expr),(Ao d l).map (·.2)=No l
  | d,[]=>rfl
  | d,e::r=>by rw [Ao,No,List.map_append,Qv d e,Qw d r]
 end
mutual
theorem Tl (p:Expr→Bool):∀e:Expr,(Qt e).all p=Bn p e
 | .mk o t v k=>by rw [Qt,Bn,List.all_cons,Qx p k]
theorem Qx (p:Expr→Bool):∀l:List Expr,(No l).all p=Ik p l
  | []=>rfl
  | e::r=>by rw [No,Ik,List.all_append,Tl p e,Qx p r]
 end
theorem ir (p:Expr→Bool) (d:Int) (e:Expr):((Av d e).all fun it=>p it.2)=Bn p e:=by
 rw [←Tl p e,←Qv d e,List.all_map]
 rfl
def Dq (m:Int) (L:List (Int×Expr)):Int:=L.foldl (fun m it=>max m it.1) m
mutual
theorem Qy:∀(d m:Int) (e:Expr),Dq m (Av d e)=max m (d-1+depthE e)
 | d,m,.mk o t v k=>by
  rw [Av,depthE]
  show Dq (max m d) (Ao (d+1) k)=_
  rw [Qz (d+1) (max m d) k (by omega)]
  omega
theorem Qz:∀(d m:Int) (l:List Expr),d-1≤m→Dq m (Ao d l)=max m (d-1+K8 l)
  | d,m,[],h=>by
    rw [Ao,K8]
    show m=_
    omega
  | d,m,e::r,h=>by
    rw [Ao,K8]
    unfold Dq
    rw [List.foldl_append]
    show Dq (Dq m (Av d e)) (Ao d r)=_
    rw [Qy d m e,Qz d _ r (by omega)]
    omega
 end
theorem Oz (e:Expr):Dq 0 (Av 1 e)=depthE e:=by rw [Qy];omega
theorem X8:∀(L:List (Int×Expr)) (m b:Int),m≤b→(Dq m L≤b↔∀it∈L,it.1≤b)
 | [],m,b,h=>by simp [Dq,h]
 | it::r,m,b,h=>by
  show Dq (max m it.1) r≤b↔_
  rcases Decidable.em (it.1≤b) with h1|h1
  ·rw [X8 r (max m it.1) b (by omega)]
   simp [h1]
  constructor
  ·intro h2
   have:∀(r:List (Int×Expr)) (m:Int),m≤Dq m r:=by
    intro r
    induction r with
    | nil=>intro m;exact Int.le_refl _
    | cons a r ih=>intro m;have:=ih (max m a.1);show m≤Dq (max m a.1) r;omega
   have:=this r (max m it.1)
   omega
  intro h2
  exact absurd (h2 it (by simp)) h1
theorem sr (e:Expr) {b:Nat}:(∀it∈Av 1 e,it.1≤(b:Int))↔depthE e≤b:=by
 rw [←X8 (Av 1 e) 0 b (by omega),Oz]
 omega
def Es (e:Expr):Bool:=(decide (depthE e≤30)&&decide (sizeE e≤300))&&Bn Bi e
theorem Ja (e:Expr):Ax e=Es e:=by
 have hpos:1≤sizeE e:=by rw [Mg];omega
 rw [Bool.eq_iff_iff]
 unfold Ax Es
 rw [List.all_eq_true]
 simp only [Bool.and_eq_true,decide_eq_true_eq,List.mem_range,Em]
 rw [←sr e,←ir Bi 1 e,List.all_eq_true]
 constructor
 ·intro h
  have key:∀(k:Nat) (hk:k<(Av 1 e).length),Bi (Av 1 e)[k].2=true∧(Av 1 e)[k].1≤30∧(k:Int)+1≤300:=fun k hk=>by
   have:=h k (by rw [Em] at hk;exact hk)
   rw [V8 (List.getElem?_eq_getElem hk)] at this
   simp only [Bool.not_eq_true',Bool.or_eq_false_iff,Bool.not_eq_false',decide_eq_false_iff_not] at this
   exact ⟨this.1.1,by have:=this.1.2;omega,by have:=this.2;omega⟩
  refine ⟨⟨fun it hit=>?_,?_⟩,fun it hit=>?_⟩
  ·obtain ⟨k,hk,rfl⟩:=List.getElem_of_mem hit
   exact (key k hk).2.1
  ·have:=(key (sizeE e-1) (by rw [Em];omega)).2.2
   omega
  obtain ⟨k,hk,rfl⟩:=List.getElem_of_mem hit
  exact (key k hk).1
 rintro ⟨⟨h1,h2⟩,h3⟩ k hk
 have hk':k<(Av 1 e).length:=by rw [Em];exact hk
 rw [V8 (List.getElem?_eq_getElem hk')]
 have a1:=h1 _ (List.getElem_mem hk')
 have a3:=h3 _ (List.getElem_mem hk')
 have a3':Bi (Av 1 e)[k].2=true:=a3
 rw [a3']
 simp only [Bool.not_eq_true',Bool.or_eq_false_iff,Bool.not_true,decide_eq_false_iff_not]
 exact ⟨⟨trivial,by have:(Av 1 e)[k].1≤(30:Int):=a1;omega⟩,by omega⟩
/-- Its number is one of 64 bits. -/
def Do (e:Expr):Bool:=decide (-9223372036854775808≤e.val.n)&&decide (e.val.n≤9223372036854775807)
/-! Names. -/
mutual
def xk (s:Str) (y:Expr):Expr→Expr
 | .mk o t v k=>if (o==2)&&(t==s) then y else .mk o t v (ss s y k)
def ss (s:Str) (y:Expr):List Expr→List Expr
  | []=>[]
  | e::r=>xk s y e::ss s y r
 end
mutual
def eqE:Expr→Expr→Bool
 | .mk o t v k,.mk o' t' v' k'=>((((o==o')&&(t==t'))&&((v.kind==v'.kind&&v.n==v'.n)&&v.s==v'.s)))&&eqL k k'
def eqL:List Expr→List Expr→Bool
  | [],[]=>true
  | e::r,e'::r'=>eqE e e'&&eqL r r'
  | _,_=>false
 end
theorem xl (x y:Expr):eqE x y=((((x.op==y.op)&&(x.text==y.text))&&((x.val.kind==y.val.kind&&x.val.n==y.val.n)&&x.val.s==y.val.s))&&eqL x.kids y.kids):=by
 cases x;cases y;rw [eqE];rfl
mutual
theorem Vb:∀x y:Expr,eqE x y=true↔x=y
 | .mk o t v k,.mk o' t' v' k'=>by
  rw [eqE]
  simp only [Bool.and_eq_true,beq_iff_eq,Mk k k',Expr.mk.injEq]
  constructor
  ·rintro ⟨⟨⟨rfl,rfl⟩,⟨h1,h2⟩,h3⟩,rfl⟩
   refine ⟨rfl,rfl,?_,rfl⟩
   cases v;cases v'
   simp_all
  rintro ⟨rfl,rfl,rfl,rfl⟩
  exact ⟨⟨⟨rfl,rfl⟩,⟨rfl,rfl⟩,rfl⟩,rfl⟩
theorem Mk:∀x y:List Expr,eqL x y=true↔x=y
  | [],[]=>by simp [eqL]
  | [],e::r=>by simp [eqL]
  | e::r,[]=>by simp [eqL]
  | e::r,e'::r'=>by rw [eqL,Bool.and_eq_true,Vb e e',Mk r r',List.cons.injEq]
 end
theorem su:∀{x y:List Expr},eqL x y=true→x.length=y.length:=fun h=>by rw [(Mk _ _).1 h]
theorem R0 (x:Expr):eqE x x=true:=(Vb x x).2 rfl
/-! A node by itself, and marks. -/
theorem Jb {of:Str} {ws:List Str} (h:of=I6 ws) (hp:∀w∈ws,(32:UInt8)∉w) (s:Str):Gy s of=(!(s==[])&&ws.contains s):=by
 unfold Gy
 rw [X6]
 cases hb:s.contains 32 with
 | false =>
  have h2:(32:UInt8)∉s:=by simpa using hb
  rw [h,Ho s h2 ws hp,Bool.not_false,Bool.and_true]
  congr 1
  rw [List.contains_eq_any_beq]
  congr 1
  funext w
  rw [Bool.eq_iff_iff,beq_iff_eq,beq_iff_eq]
  exact eq_comm
 | true =>
  have h2:(32:UInt8)∈s:=by simpa using hb
  have h3:ws.contains s=false:=by
   rw [Bool.eq_false_iff]
   intro h4
   exact hp s (by simpa using h4) h2
  rw [h3]
  simp
def levels:List (List Str):=[[[111,114]],[[97,110,100]],[],[[61],[33,61],[60],[60,61],[62],[62,61]],[[43],[45],[38]],[[42],[47],[37]]]
def Cp (s:Str):Int:=match levels.findIdx? (fun l=>l.contains s) with|some i=>i|none => -1
def Np:List Str:=[[111,114],[],[97,110,100],[],[61],[33,61],[60],[60,61],[62],[62,61],[],[43],[45],[38],[],[42],[47],[37]]
theorem ap:Kt=I6 Np:=by kernel_rfl
theorem X9:∀w∈Np,(32:UInt8)∉w:=by decide
theorem aq (s:Str):Gy s Kt=decide (0≤Cp s):=by
 rw [Jb ap X9 s]
 have h1:decide (0≤Cp s)=levels.any (fun l=>l.contains s):=by
  unfold Cp
  cases h:levels.findIdx? (fun l=>l.contains s) with
  | some i =>
   have:levels.any (fun l=>l.contains s)=true:=by
    have:=List.findIdx?_eq_some_iff_getElem.1 h
    obtain ⟨hi,hp,_⟩:=this
    exact List.any_eq_true.2 ⟨_,List.getElem_mem hi,hp⟩
   rw [this]
   simp
  | none =>
   have:=List.findIdx?_eq_none_iff.1 h
   have e:levels.any (fun l=>l.contains s)=false:=by
    rw [List.any_eq_false]
    intro l hl
    rw [this l hl]
    simp
   rw [e]
   rfl
 rw [h1]
 by_cases h0:s=[]
 ·subst h0;rfl
 have:(s==[])=false:=by simpa using h0
 rw [this,Bool.not_false,Bool.true_and]
 simp [levels,Np,h0,Bool.or_assoc]
def R1 (e:Expr):Bool:=
 if e.op==1 then ((C5 e.val&&decide (0≤e.val.n))&&(e.text==[]))&&((e.kids.length:Int)==0)
 else if !(Gk e.val) then false
 else if e.op==2 then Ff e.text&&((e.kids.length:Int)==0)
 else if e.op==3 || e.op==4 then (e.text==[])&&((e.kids.length:Int)==1)
 else if e.op==5 then decide (0≤Cp e.text)&&((e.kids.length:Int)==2)
 else if e.op==6 then B4 e.text==(e.kids.length:Int)
 else false
theorem Gl (e:Expr):Bi e=R1 e:=by
 unfold Bi R1
 rw [aq,El]
 cases Gk e.val<;>simp
/-! What is wide. -/
def Nq (e:Expr):Bool:=((decide ((100:Int)<e.text.length) || decide ((400:Int)<e.val.s.length)) || decide ((100:Int)<e.kids.length))
/-- Among trees, when n have been seen: is one too much? -/
def L9 (l:List Expr) (n:Nat):Bool:=decide (500<n+l.length) || l.any Nq
def Ev:Nat→List Expr→Nat→Bool
 | 0,l,n => !l.isEmpty
 | f+1,l,n=>if l.isEmpty then false else if L9 l n then true else if decide ((500:Int)<(l.flatMap Expr.kids).length) then true else Ev f (l.flatMap Expr.kids) (n+l.length)
theorem R2:∀l:List Expr,Cj l=l.length+Cj (l.flatMap Expr.kids)
 | []=>rfl
 | e::r=>by
  rw [Cj,Mg,List.flatMap_cons,Mj,R2 r,List.length_cons]
  omega
theorem R3 {l:List Expr} {n:Nat} (h:L9 l n=false):n+l.length≤500∧∀e∈l,Nq e=false:=by
 unfold L9 at h
 simp only [Bool.or_eq_false_iff,decide_eq_false_iff_not,List.any_eq_false,Bool.not_eq_true] at h
 exact ⟨by omega,h.2⟩
theorem Vc {e:Expr} (h:Nq e=false):e.text.length≤100∧e.val.s.length≤400∧e.kids.length≤100:=by
 unfold Nq at h
 simp only [Bool.or_eq_false_iff,decide_eq_false_iff_not] at h
 omega
theorem Tm {f:Nat} {l:List Expr} {n:Nat} (h:Ev (f+1) l n=false) (hl:l.isEmpty=false):L9 l n=false∧(l.flatMap Expr.kids).length≤500∧Ev f (l.flatMap Expr.kids) (n+l.length)=false:=by
 rw [Ev,if_neg (by rw [hl];simp)] at h
 split at h
 ·cases h
 rename_i h1
 split at h
 ·cases h
 rename_i h2
 simp only [decide_eq_true_eq] at h2
 exact ⟨by simpa using h1,by omega,h⟩
theorem co:∀(f:Nat) (l:List Expr) (n:Nat),Ev f l n=false→∀e∈l,okE f e∧Bn (fun y => !Nq y) e=true
 | 0,l,n,h,e,he=>by
  have:l=[]:=by simpa [Ev] using h
  subst this
  cases he
 | f+1,l,n,h,e,he=>by
  have hl:l.isEmpty=false:=by cases l<;>simp_all
  obtain ⟨h1,h2,h3⟩:=Tm h hl
  have h4:=Vc ((R3 h1).2 e he)
  have ih:=co f _ _ h3
  have hk:∀y∈e.kids,okE f y∧Bn (fun y => !Nq y) y=true:=fun y hy=>ih y (List.mem_flatMap.2 ⟨e,he,hy⟩)
  refine ⟨⟨by omega,by omega,fun y hy=>(hk y hy).1⟩,?_⟩
  rw [E1,(R3 h1).2 e he,(Dn _ _).2 fun y hy=>(hk y hy).2]
  rfl
theorem Tn:∀(f:Nat) (l:List Expr) (n:Nat),n≤500→Ev f l n=false→n+Cj l≤500
 | 0,l,n,hn,h=>by
  have:l=[]:=by simpa [Ev] using h
  subst this
  simpa [Cj] using hn
 | f+1,l,n,hn,h=>by
  by_cases hl:l.isEmpty=true
  ·have:l=[]:=by simpa using hl
   subst this
   simpa [Cj] using hn
  have hl':l.isEmpty=false:=by simpa using hl
  obtain ⟨h1,h2,h3⟩:=Tm h hl'
  have:=Tn f _ _ (R3 h1).1 h3
  rw [R2 l]
  omega
def R4 (e:Expr):Bool:=Ev 61 [e] 0
/-- A tree that is gone through. -/
structure Slim (e:Expr):Prop where
 ok:okE 61 e
 size:sizeE e≤500
 slim:Bn (fun y => !Nq y) e=true
theorem sw {e:Expr} (h:R4 e=false):Slim e:=by
 obtain ⟨h1,h2⟩:=co _ _ _ h e (by simp)
 have:=Tn _ _ _ (by decide) h
 exact ⟨h1,by simpa [Cj] using this,h2⟩
end Go.SX.Nb
namespace Go.Proofs.YthakapgmpcbbkaaGreatDoor
open Go Go.SX Go.SX.Nb Go.ChangeShapes Go.RowKit
set_option maxRecDepth 100000
theorem ar {ys:List AV} (h:∀(i:Nat) (y:AV),ys[i]? = some y→∃e:Nb.Expr,y=A5 e∧Bn Do e=true):∃l:List Nb.Expr,ys=l.map A5∧Ik Do l=true:=by
 induction ys with
 | nil=>exact ⟨[],rfl,rfl⟩
 | cons y ys ih =>
  obtain ⟨e,rfl,he⟩:=h 0 y rfl
  obtain ⟨l,rfl,hl⟩:=ih (fun i z hz=>h (i+1) z hz)
  exact ⟨e::l,rfl,by rw [Ik,he,hl];rfl⟩
theorem cp {H:Type} [ErrAt] (d:DataW H) (y:AV) (h:DRep Tryz.prog 63 d y):∃v:Val,y=Am v ∧ -9223372036854775808≤v.n∧v.n≤9223372036854775807:=by
 obtain ⟨ys,hn,rfl,hh⟩:=h.struct' an Tryz.underlying63
 match ys,hn with
 | [y0,y1,y2],_ =>
  obtain ⟨d0,b0,h0⟩:=hh 0 _ y0 rfl rfl
  obtain ⟨d1,b1,h1⟩:=hh 1 _ y1 rfl rfl
  obtain ⟨d2,b2,h2⟩:=hh 2 _ y2 rfl rfl
  obtain ⟨k,rfl,rfl,_⟩:=h0.int' Tryz.underlying3
  obtain ⟨n,rfl,rfl,hn1,hn2⟩:=h1.int' Tryz.underlying2
  obtain ⟨s,rfl,rfl⟩:=h2.str' Tryz.underlying9
  exact ⟨⟨k,n,s⟩,rfl,hn1,hn2⟩
theorem nn {H:Type} [ErrAt] {t:TypeId} {d:DataW H} {y:AV} (h:DRep Tryz.prog t d y):(t=103→∃e:Nb.Expr,y=A5 e∧Bn Do e=true)∧(t=75→∃l:List Nb.Expr,y=.slice false 6 (l.map A5)∧Ik Do l=true):=by
 induction h with
 | int hu _=>exact ⟨fun e=>(by subst e;rw [Tryz.underlying103] at hu;cases hu),fun e=>by subst e;rw [Tryz.underlying75] at hu;cases hu⟩
 | bool hu=>exact ⟨fun e=>(by subst e;rw [Tryz.underlying103] at hu;cases hu),fun e=>by subst e;rw [Tryz.underlying75] at hu;cases hu⟩
 | str hu=>exact ⟨fun e=>(by subst e;rw [Tryz.underlying103] at hu;cases hu),fun e=>by subst e;rw [Tryz.underlying75] at hu;cases hu⟩
 | nil hu =>
  refine ⟨fun e=>(by subst e;rw [Tryz.underlying103] at hu;cases hu),fun e=>?_⟩
  subst e
  rw [Tryz.underlying75] at hu
  injection hu with hu
  injection hu with hu
  subst hu
  exact ⟨[],by rw [show Tryz.prog.cellsOf 103=6 by kernel_rfl];rfl,rfl⟩
 | slice hu hn hh ih =>
  refine ⟨fun e=>(by subst e;rw [Tryz.underlying103] at hu;cases hu),fun e=>?_⟩
  subst e
  rw [Tryz.underlying75] at hu
  injection hu with hu
  injection hu with hu
  subst hu
  rename_i elems spare ys
  obtain ⟨l,rfl,hl⟩:=ar (ys:=ys) (fun i y hy=>by
   have hlt:i<elems.length:=by rw [←hn];exact (List.getElem?_eq_some_iff.1 hy).1
   exact (ih i elems[i] y (List.getElem?_eq_getElem hlt) hy).1 rfl)
  exact ⟨l,by rw [show Tryz.prog.cellsOf 103=6 by kernel_rfl],hl⟩
 | struct hu hn hn' hh ih =>
  refine ⟨fun e=>?_,fun e=>by subst e;rw [Tryz.underlying75] at hu;cases hu⟩
  subst e
  rw [Tryz.underlying103] at hu
  injection hu with hu
  injection hu with hu
  subst hu
  rename_i parts ys
  match parts,hn,ys,hn' with
  | [p0,p1,p2,p3],_,[y0,y1,y2,y3],_ =>
   obtain ⟨o,rfl,rfl,_⟩:=(hh 0 _ p0 y0 rfl rfl rfl).int' Tryz.underlying3
   obtain ⟨s,rfl,rfl⟩:=(hh 1 _ p1 y1 rfl rfl rfl).str' Tryz.underlying9
   obtain ⟨v,rfl,hv1,hv2⟩:=cp p2 y2 (hh 2 _ p2 y2 rfl rfl rfl)
   obtain ⟨l,rfl,hl⟩:=(ih 3 _ p3 y3 rfl rfl rfl).2 rfl
   refine ⟨.mk o s v l,?_,?_⟩
   ·rw [Ab];rfl
   rw [Bn,hl,Bool.and_true]
   show (decide (-9223372036854775808≤v.n)&&decide (v.n≤9223372036854775807))=true
   simp [hv1,hv2]
end Go.Proofs.YthakapgmpcbbkaaGreatDoor
namespace Go.SX.Nb
open Go Go.SX Go.Proofs
variable [ErrAt]
set_option maxRecDepth 4000
/-- The lexer from a place between two words on. -/
def ACg (f q:Nat) (s:Str):List (Tok×Int):=F1 f (q+gapM s) (s.drop (gapM s))
theorem Xa {f q:Nat} {s:Str} (h:s≠[]):∃(n:Nat),F1 (f+1) q s=(⟨(B5 s).1,(B5 s).2.1,q⟩,(B5 s).2.2.2)::(if (B5 s).2.2.2=0 then ACg f (q+n) (s.drop n) else [])∧((B5 s).2.2.2=0→(B5 s).2.2.1=(n:Int)∧1≤n∧n≤s.length):=by
 refine ⟨(B5 s).2.2.1.toNat,?_,fun he=>?_⟩
 ·rw [K5 h]
  simp only [beq_iff_eq]
  rfl
 obtain ⟨n,h1,h2,h3⟩:=cm (s:=s) (by cases s with|nil=>exact absurd rfl h|cons c r=>simp) he
 rw [h1]
 exact ⟨rfl,by simpa using h2,by simpa using h3⟩
/-! ### Gaps -/
/-! ### Words -/
theorem Nr (s of:Str):Bt s of=s.takeWhile (of.contains ·):=Ww s of
theorem Vd {s:Str} (h:(Dg s).2.1=0):s.length≤4000∧(∀it∈Bf s,it.2=0)∧Dg s=((Bf s).map (·.1)++[⟨0,[],s.length⟩],0,0):=by
 unfold Dg at h ⊢
 split at h
 ·exact absurd h (show ¬(3:Int)=0 by decide)
 rename_i hl
 rw [if_neg hl]
 cases hf:(Bf s).find? (fun it=>it.2 != 0) with
 | some it =>
  rw [hf] at h
  have:=List.find?_some hf
  simp at this
  exact absurd h this
 | none =>
  rw [List.find?_eq_none] at hf
  refine ⟨by omega,fun it hit=>by simpa using hf it hit,rfl⟩
def iu (c:UInt8):Str:=if c=39 then [39,39] else [c]
def Ml (t:Str):Str:=t.flatMap iu
theorem Ns (c:UInt8) (r:Str):Ml (c::r)=iu c++Ml r:=by unfold Ml;rw [List.flatMap_cons]
theorem cq:∀s:Str,(Lib.index s [39] = -1∧Ml s=s)∨∃i:Nat,Lib.index s [39]=(i:Int)∧i<s.length∧Ml s=s.take i++[39,39]++Ml (s.drop (i+1))
 | []=>.inl ⟨rfl,rfl⟩
 | b::l=>by
  by_cases hb:b=39
  ·subst hb
   refine .inr ⟨0,by simp [Lib.index,List.isPrefixOf],by simp,?_⟩
   rw [Ns]
   simp [iu]
  have hp:([39]:Str).isPrefixOf (b::l)=false:=by
   simp [List.isPrefixOf,Ne.symm hb]
  have hd:Ml (b::l)=b::Ml l:=by
   rw [Ns,iu,if_neg hb]
   rfl
  rcases cq l with ⟨h1,h2⟩|⟨i,h1,h2,h3⟩
  ·refine .inl ⟨?_,by rw [hd,h2]⟩
   rw [Lib.index,hp,h1];rfl
  refine .inr ⟨i+1,?_,by simp;omega,?_⟩
  ·rw [Lib.index,hp,h1,if_neg (by simp),if_neg (by simp)]
   rfl
  rw [hd,h3]
  simp
theorem Mm:∀(n:Nat) (s:Str),s.length≤n→Lib.replaceK [39] [39,39] (Lib.count s [39]) s=Ml s
 | n,s,hn=>by
  rcases cq s with ⟨h1,h2⟩|⟨i,h1,h2,h3⟩
  ·rw [Lib.count_miss h1,h2];rfl
  cases n with
  | zero=>omega
  | succ n =>
   rw [Lib.count_hit (by decide) h1,Nat.add_comm,Lib.replaceK_hit _ _ _ _ i h1]
   have e:i+([39]:Str).length=i+1:=rfl
   rw [e,Mm n (s.drop (i+1)) (by rw [List.length_drop];omega),h3]
theorem Xb (s:Str):Lib.replaceAll s [39] [39,39]=Ml s:=by
 unfold Lib.replaceAll Lib.replace
 rw [if_neg (by decide)]
 have e:Lib.replaceNum s [39] (-1)=Lib.count s [39]:=by unfold Lib.replaceNum;rw [if_pos (.inl (by decide))]
 rw [e]
 exact Mm _ s (Nat.le_refl _)
def cr (t:Tok):Str:=if t.kind=4 then [39]++Ml t.text++[39] else t.text
theorem au {q:Str} (h0:q.headD 0=39) (h1:1≤q.length) (h:(Dd q).2=0):[39]++Ml (Dd q).1.s++[39]=q:=by
 cases q with
 | nil=>simp at h1
 | cons c r =>
  have hc:c=39:=h0
  subst hc
  unfold Dd at h ⊢
  have n1:((39::r:Str)==[110,117,108,108])=false:=by rw [beq_eq_false_iff_ne];intro e;injection e with e;exact absurd e (by decide)
  have n2:((39::r:Str)==[116,114,117,101])=false:=by rw [beq_eq_false_iff_ne];intro e;injection e with e;exact absurd e (by decide)
  have n3:((39::r:Str)==[102,97,108,115,101])=false:=by rw [beq_eq_false_iff_ne];intro e;injection e with e;exact absurd e (by decide)
  rw [n1,n2,n3] at h ⊢
  simp only [Bool.false_eq_true,if_false,Bool.or_self] at h ⊢
  by_cases hq:Ot (39::r)=true
  ·rw [if_pos hq] at h ⊢
   unfold Wv at h ⊢
   split at h
   ·exact absurd h (show ¬(7:Int)=0 by decide)
   rename_i hp
   rw [if_neg hp]
   have hp':Gu (Qe (39::r))=39::r:=by simpa using hp
   have hk:(Qe (39::r)).kind=2:=rfl
   show [39]++Ml (Qe (39::r)).s++[39]=39::r
   generalize Qe (39::r)=v at hp' hk
   have hne:Gu v≠[]:=by rw [hp'];simp
   rw [←hp']
   unfold Gu at hne ⊢
   split at hne
   ·exact absurd rfl hne
   rename_i hpl
   rw [if_neg hpl,hk,if_neg (by decide),if_pos (by decide),Xb]
  rw [if_neg hq] at h
  have hd:Fv (39::r)=true:=by
   unfold Fv
   have e:On (39::r)=39::r:=by
    rcases Oo (39::r) with ⟨_,h4⟩|⟨r',h3,_⟩
    ·exact h4
    injection h3 with h3;exact absurd h3 (by decide)
   rw [e]
   have:(Lib.trimS (39::r) digs==[])=false:=by
    rw [beq_eq_false_iff_ne]
    intro e
    rw [T7] at e
    exact absurd (e 39 (by simp)) (by decide)
   rw [this]
   simp
  have hn:Bc (39::r)=(0,6):=by unfold Bc;rw [if_pos hd]
  rw [hn] at h
  simp at h
theorem Sp (s:Str) (m:Nat):s.take (s.take m).length=s.take m:=by
 rw [List.length_take]
 rcases Nat.le_total m s.length with h|h
 ·rw [Nat.min_eq_left h]
 rw [Nat.min_eq_right h,List.take_of_length_le (Nat.le_refl _),List.take_of_length_le h]
theorem K9 (s of:Str):s.take (Bt s of).length=Bt s of:=by
 unfold Bt
 exact Sp s _
/-- What a word's print spells is what was read. -/
theorem av {s:Str} {n p:Nat} (h0:1≤s.length) (he:(B5 s).2.2.2=0) (hn:(B5 s).2.2.1=(n:Int)):cr ⟨(B5 s).1,(B5 s).2.1,p⟩=s.take n:=by
 cases s with
 | nil=>simp at h0
 | cons c r =>
  unfold B5 at he hn ⊢
  by_cases c1:decide (0<Jl ((c::r).take 1) letters)=true
  ·rw [if_pos c1] at he hn
   simp only [if_pos c1]
   unfold K4 at he hn ⊢
   by_cases r1:E0 (Bt (c::r) tails)=true
   ·rw [if_pos r1] at hn
    simp only [if_pos r1]
    have hn':(((Bt (c::r) tails).length:Nat):Int)=n:=hn
    have e:n=(Bt (c::r) tails).length:=by omega
    rw [e,K9]
    rfl
   rw [if_neg r1] at he hn
   simp only [if_neg r1]
   by_cases r2:(!Cm (Bt (c::r) tails))=true
   ·rw [if_pos r2] at he;exact absurd he (show ¬(3:Int)=0 by decide)
   rw [if_neg r2] at hn
   simp only [if_neg r2]
   have hn':(((Bt (c::r) tails).length:Nat):Int)=n:=hn
   have e:n=(Bt (c::r) tails).length:=by omega
   rw [e,K9]
   rfl
  rw [if_neg c1] at he hn
  simp only [if_neg c1]
  by_cases c2:decide (0<Jl ((c::r).take 1) digs)=true
  ·rw [if_pos c2] at he hn
   simp only [if_pos c2]
   have hn':(((Bt (c::r) digs).length:Nat):Int)=n:=hn
   have e:n=(Bt (c::r) digs).length:=by omega
   rw [e,K9]
   rfl
  rw [if_neg c2] at he hn
  simp only [if_neg c2]
  by_cases c3:(((((c::r)).getD 0 0).toNat:Int)==39)=true
  ·rw [if_pos c3] at he hn
   simp only [if_pos c3]
   have hc:c=39:=by
    have c3':((c.toNat:Int)==39)=true:=c3
    exact UInt8.toNat_inj.1 (by have:(39:UInt8).toNat=39:=rfl;simp at c3';omega)
   unfold Gz at he hn ⊢
   cases hq:Ce ((c::r).drop 1) with
   | none=>rw [hq] at he;exact absurd he (show ¬(7:Int)=0 by decide)
   | some m =>
    rw [hq] at he hn
    simp only at he hn ⊢
    split at he
    ·exact absurd he (show ¬(3:Int)=0 by decide)
    rename_i hr
    rw [if_neg hr] at hn
    simp only [if_neg hr]
    have hm':(((m+1:Nat)):Int)=n:=hn
    have hm:n=m+1:=by omega
    subst hm
    have hr':(Dd ((c::r).take (m+1))).2=0:=by simpa using hr
    have:=au (q:=(c::r).take (m+1)) (by rw [hc];rfl) (by simp) hr'
    unfold cr
    rw [if_pos rfl]
    exact this
  rw [if_neg c3] at he hn
  simp only [if_neg c3]
  unfold Ov at he hn ⊢
  split at hn
  ·rename_i h2
   simp only [if_pos h2]
   have hn':(2:Int)=n:=hn
   have:n=2:=by omega
   subst this
   rfl
  rename_i h2
  rw [if_neg h2] at he
  simp only [if_neg h2]
  split at hn
  ·rename_i h3
   simp only [if_pos h3]
   have hn':(1:Int)=n:=hn
   have:n=1:=by omega
   subst this
   rfl
  rename_i h3
  rw [if_neg h3] at he
  exact absurd he (show ¬(7:Int)=0 by decide)
/-! What is printed of columns, word by word. -/
structure ColOk (x:Col):Prop where
 name:Cm x.name=true
 lo:1≤x.kind
 hi:x.kind≤3
def ktT (t:Tok):Int×Str:=(t.kind,t.text)
def Il (s:Str):Int:=if Bp 1==s then 1 else if Bp 2==s then 2 else if Bp 3==s then 3 else 0
structure KindUpto (s:Str) (x:Nat):Prop where
 le:x≤3
 a:1≤x→(Bp 1==s)=false
 b:2≤x→(Bp 2==s)=false
 c:3≤x→(Bp 3==s)=false
theorem sx {s:Str} {x:Nat} (h:KindUpto s x) (hx:x<3) (e:(Bp ((x:Int)+1)==s)=true):Il s=(x:Int)+1:=by
 have h3:x=0∨x=1∨x=2:=by omega
 unfold Il
 rcases h3 with rfl|rfl|rfl
 ·have e:(Bp 1==s)=true:=e
  rw [if_pos e];rfl
 ·have e:(Bp 2==s)=true:=e
  rw [if_neg (by rw [h.a (by omega)];simp),if_pos e];rfl
 have e:(Bp 3==s)=true:=e
 rw [if_neg (by rw [h.a (by omega)];simp),if_neg (by rw [h.b (by omega)];simp),if_pos e];rfl
theorem sy {s:Str} {x:Nat} (h:KindUpto s x) (hx:x<3) (e:(Bp ((x:Int)+1)==s)=false):KindUpto s (x+1):=by
 have h3:x=0∨x=1∨x=2:=by omega
 rcases h3 with rfl|rfl|rfl
 ·exact ⟨by omega,fun _=>e,fun h=>by omega,fun h=>by omega⟩
 ·exact ⟨by omega,fun _=>h.a (by omega),fun _=>e,fun h=>by omega⟩
 exact ⟨by omega,fun _=>h.a (by omega),fun _=>h.b (by omega),fun _=>e⟩
theorem t6 {s:Str} {x:Nat} (h:KindUpto s x) (hx:3≤x):Il s=0:=by
 unfold Il
 rw [if_neg (by rw [h.a (by omega)];simp),if_neg (by rw [h.b (by omega)];simp),if_neg (by rw [h.c (by omega)];simp)]
theorem ACh (s:Str) (Hp:List AObj):AFun Tryz.prog 190 [A9 s] Hp (A2 (Il s)):=by
 refine ACall.body [.tmp 2] [0] Tryz.func190 Tryz.ntmps190 (fun d=>?_)
 refine Z47 ?_;refine Z36 ?_;refine Mc ?_
 refine AW.loopC (α:=Nat) (fun x=>⟨13,A3 0 (A9 s) (A3 3 (A2 ((x:Nat)+1)) (fun _=>.any)),Hp,[],[],none⟩) (fun x=>KindUpto s x) (fun x=>3-x) (0) ⟨by omega,fun h=>by omega,fun h=>by omega,fun h=>by omega⟩ (StLe.refl _) rfl (fun x hx=>?_)
 refine Z31 ?_;refine R.fin [0,3,5] ?_
 refine W.cond (fun ht5=>?_) (fun ht5=>?_)
 ·have hx3:x<3:=by simp at ht5;omega
  refine Z86 ?_;refine Z2 ?_;refine R.call Tryz.call57 (c57 _ _) ?_;refine Z0 ?_;refine R.fin [0,3,11] ?_
  refine W.cond (fun ht11=>?_) (fun ht11=>?_)
  ·refine Z1 ?_;refine Z4 ?_;refine Z54 ?_;exact K.fin (V.one V.tmp) ⟨by rw [sx hx hx3 (by simpa using ht11)],rfl⟩
  refine Z57 ?_;refine ge ?_;exact K.lpN (x+1) (sy hx hx3 (by simpa using ht11)) (by omega) (StCut.of_eq (by simp))
 have hx3:3≤x:=by simp at ht5;omega
 refine Z98 ?_;refine Z49 ?_;exact K.fin (V.one V.tmp) ⟨by rw [t6 hx hx3],rfl⟩

theorem wrap_u64 {n:Int} (h1:0≤n) (h2:n<18446744073709551616):IntKind.u64.wrap n=n:=by
 have e1:(2 ^ IntKind.u64.bits:Int)=18446744073709551616:=rfl
 have e3:IntKind.u64.signed=false:=rfl
 unfold IntKind.wrap
 simp only [e1,e3,Bool.false_and]
 simp
 omega
theorem iv (n:Int):0≤IntKind.u64.wrap n∧IntKind.u64.wrap n<18446744073709551616:=by
 have e1:(2 ^ IntKind.u64.bits:Int)=18446744073709551616:=rfl
 have e3:IntKind.u64.signed=false:=rfl
 unfold IntKind.wrap
 simp only [e1,e3,Bool.false_and]
 simp
 omega
theorem AB0 (m:Int) (N:Nat) (h1:1≤N) (hN:N≤100000):∃K:Nat,K<N∧IntKind.i64.wrap ((IntKind.u64.wrap m).tmod (IntKind.u64.wrap (N:Int)))=(K:Int):=by
 have hr:=iv m
 rw [wrap_u64 (n:=(N:Int)) (by omega) (by omega),Int.tmod_eq_emod_of_nonneg hr.1]
 have g1:=Int.emod_nonneg (IntKind.u64.wrap m) (b:=(N:Int)) (by omega)
 have g2:=Int.emod_lt_of_pos (IntKind.u64.wrap m) (b:=(N:Int)) (by omega)
 refine ⟨((IntKind.u64.wrap m) % (N:Int)).toNat,by omega,?_⟩
 rw [wrap_i64 (by omega) (by omega)]
 omega
theorem np {s:Str} (h:(Dg s).2.1=0):1≤(Dg s).1.length∧(Dg s).1.length≤s.length+2:=by
 obtain ⟨_,_,hl⟩:=Vd h
 rw [hl]
 have:=Lu s
 simp
 omega
theorem ct:∀t:Str,t.length≤(Ml t).length
 | []=>Nat.le_refl _
 | c::r=>by
  have:=ct r
  rw [Ns,List.length_append,List.length_cons]
  have h:1≤(iu c).length:=by unfold iu;split<;>simp
  omega
theorem t7 (t:Tok):t.text.length≤(cr t).length:=by
 unfold cr
 split
 ·have:=ct t.text
  simp only [List.length_append,List.length_cons,List.length_nil]
  omega
 exact Nat.le_refl _
/-- Words with an end. -/
structure TokEnd (l:List Tok):Prop where
 split:∃L z,l=L++[z]∧z.kind=0∧∀t∈L,t.kind≠0
 texts:∀t∈l,t.text.length≤1048576
theorem TokEnd.pos {l:List Tok} (h:TokEnd l):1≤l.length:=by
 obtain ⟨L,z,rfl,_,_⟩:=h.split
 simp
theorem TokEnd.text {l:List Tok} (h:TokEnd l) (i:Nat):(A7 l i).text.length≤1048576:=by
 unfold A7
 rcases Nat.lt_or_ge i l.length with hi|hi
 ·rw [List.getD_eq_getElem?_getD,List.getElem?_eq_getElem hi]
  exact h.texts _ (List.getElem_mem hi)
 rw [List.getD_eq_getElem?_getD,List.getElem?_eq_none hi]
 exact V2
theorem t8 (s:Str) (he:(B5 s).2.2.2=0):(B5 s).1≠0:=by
 revert he
 unfold B5 K4 Pn Gz Ov
 repeat' split
 all_goals simp
theorem Xc:∀(f q:Nat) (s:Str),(∀it∈F1 f q s,it.2=0)→∀it∈F1 f q s,it.1.kind≠0∧it.1.text.length≤s.length
 | 0,_,_,_,it,hm=>by cases hm
 | f+1,q,s,h,it,hm=>by
  by_cases hs:s=[]
  ·subst hs;cases hm
  obtain ⟨n,h1,h2⟩:=Xa (f:=f) (q:=q) hs
  rw [h1] at hm h
  have h0:(B5 s).2.2.2=0:=h (⟨(B5 s).1,(B5 s).2.1,q⟩,(B5 s).2.2.2) (List.mem_cons_self ..)
  obtain ⟨hn,hn1,hn2⟩:=h2 h0
  rw [if_pos h0] at hm h
  rcases List.mem_cons.1 hm with rfl|hm
  ·refine ⟨t8 s h0,?_⟩
   have hs1:1≤s.length:=by cases s with|nil=>exact absurd rfl hs|cons c r=>simp
   have:=av (p:=q) hs1 h0 hn
   have h3:=t7 ⟨(B5 s).1,(B5 s).2.1,q⟩
   rw [this] at h3
   simp only [List.length_take] at h3
   show (B5 s).2.1.length≤s.length
   omega
  have:=Xc f _ _ (fun it hit=>h it (List.mem_cons_of_mem _ hit)) it hm
  simp only [List.length_drop] at this
  exact ⟨this.1,by omega⟩
theorem cu {s:Str} (h:(Dg s).2.1=0):TokEnd (Dg s).1:=by
 by_cases h4:4000<s.length
 ·unfold Dg at h
  rw [if_pos h4] at h
  exact mf
 have e:Dg s=((Bf s).map (·.1)++[⟨0,[],s.length⟩],0,0)∧∀it∈Bf s,it.2=0:=by
  unfold Dg at h ⊢
  rw [if_neg h4] at h ⊢
  cases hf:(Bf s).find? (fun it=>it.2 != 0) with
  | none =>
   rw [List.find?_eq_none] at hf
   exact ⟨rfl,fun it hit=>by simpa using hf it hit⟩
  | some it =>
   rw [hf] at h
   have:=List.find?_some hf
   simp only [bne_iff_ne] at this
   exact absurd h this
 obtain ⟨e,hz⟩:=e
 have hnz:=Xc _ _ _ hz
 rw [e]
 refine ⟨⟨_,_,rfl,rfl,fun t ht=>?_⟩,fun t ht=>?_⟩
 ·obtain ⟨it,hit,rfl⟩:=List.mem_map.1 ht
  exact (hnz it hit).1
 rcases List.mem_append.1 ht with ht|ht
 ·obtain ⟨it,hit,rfl⟩:=List.mem_map.1 ht
  have:=(hnz it hit).2
  simp only [List.length_drop] at this
  omega
 have e:t=⟨0,[],s.length⟩:=by simpa using ht
 subst e
 exact V2
/-! What is printed of a schema is read. -/
/-- What goes together: names of their own. -/
theorem nq {c:List Col} (h:Gj c=true):(∀y∈c,ColOk y)∧(c.map (·.name)).Nodup:=by
 rw [Zo] at h
 have hat:∀(j:Nat) (y:Col),c[j]? = some y→Ff y.name=true∧1≤y.kind∧y.kind≤3∧B3 y.name c=(j:Int):=by
  intro j y hj
  have:=h j y hj
  unfold ce at this
  simp only [Bool.not_eq_true',Bool.or_eq_false_iff,Bool.not_eq_false',decide_eq_false_iff_not,bne_eq_false_iff_eq] at this
  obtain ⟨⟨⟨h1,h2⟩,h3⟩,h4⟩:=this
  exact ⟨h1,by omega,by omega,h4⟩
 refine ⟨fun y hy=>?_,?_⟩
 ·obtain ⟨j,hj⟩:=List.getElem?_of_mem hy
  obtain ⟨h1,h2,h3,_⟩:=hat j y hj
  exact ⟨by rw [El];exact h1,h2,h3⟩
 show List.Pairwise _ _
 rw [List.pairwise_iff_getElem]
 intro i j hi hj hij e
 simp only [List.length_map] at hi hj
 simp only [List.getElem_map] at e
 have e1:=(hat i c[i] (List.getElem?_eq_getElem hi)).2.2.2
 have e2:=(hat j c[j] (List.getElem?_eq_getElem hj)).2.2.2
 rw [e] at e1
 omega
theorem Xd {c:List Col} (h:Qp c=true):c.length≤12∧(∀y∈c,ColOk y)∧(c.map (·.name)).Nodup:=by
 rw [Ij] at h
 unfold Cb at h
 rw [Bool.and_eq_true] at h
 obtain ⟨h1,h2⟩:=h
 have:=of_decide_eq_true h1
 exact ⟨by omega,nq h2⟩
theorem ACi (c:List Col) (Hp:List AObj):AFun Tryz.prog 7 [Ac c] Hp (At (Eu c)):=by
 refine ACall.body [.tmp 2] [0] Tryz.func7 Tryz.ntmps7 (fun d=>?_)
 refine Wo ?_;refine R.fin [0,6] ?_
 refine W.cond (fun ht6=>?_) (fun ht6=>?_)
 ·refine Z49 ?_;refine K.thR ?_;exact K.fin (V.one V.tmp) ⟨by simp [Eu] at ht6 ⊢;omega,rfl⟩
 refine Q9 ?_;refine Mc ?_
 refine AW.loopC (α:=Nat) (fun x=>⟨20,A3 0 (Ac c) (A3 3 (A2 (x:Nat)) (fun _=>.any)),Hp,[],[],none⟩) (fun x=>x≤c.length∧∀(j:Nat) (y:Col),j<x→c[j]? = some y→decide ((100:Int)<y.name.length)=false) (fun x=>c.length-x) (0) (by simp) (StLe.refl _) rfl (fun x hx=>?_)
 refine Z48 ?_;refine R.fin [0,3,10] ?_
 refine W.cond (fun ht10=>?_) (fun ht10=>?_)
 ·have hlt:x<c.length:=by simpa using ht10
  have hcl:c.length≤50:=by simp at ht6;omega
  refine Z86 ?_;refine Z1 ?_
  refine R.go (h:=Q.indexAddr (x) (B0 c[x]) (fun _=>An hlt)) (hr:=?_)
  refine Z73 ?_;refine R.fin [0,3,19] ?_
  refine W.cond (fun ht19=>?_) (fun ht19=>?_)
  ·refine gk ?_;exact K.fin (V.one V.tmp) ⟨by rw [show Eu c=true from by unfold Eu;rw [x7 (p:=fun y:Col=>decide ((100:Int)<y.name.length)) hlt ht19,Bool.or_true]],rfl⟩
  refine Z57 ?_;refine ge ?_;exact K.lpN (x+1) ⟨hlt,Cn hlt hx.2 ht19⟩ (by omega) (StCut.of_eq rfl)
 refine Z98 ?_;refine Z49 ?_;exact K.fin (V.one V.tmp) ⟨by rw [show Eu c=false from by unfold Eu;rw [mv (Md (by simp at ht10;omega) hx.2)];simpa using ht6],rfl⟩
theorem cv {c:List Col} (h:Eu c=false):OkCols c:=by
 unfold Eu at h
 simp only [Bool.or_eq_false_iff,decide_eq_false_iff_not,List.any_eq_false,decide_eq_true_eq] at h
 refine ⟨by omega,fun y hy=>?_⟩
 have:=h.2 y hy
 omega
def I7 {α:Type} [BEq α] (v:α) (l:List α):Int:=match l.findIdx? (·==v) with|some i=>i|none => -1
theorem xm {α:Type} [BEq α] [LawfulBEq α] {v:α} {l:List α} {x:Nat} (h:x<l.length) (h1:l[x]=v) (h2:∀(j:Nat) (y:α),j<x→l[j]? = some y→¬(y=v)):I7 v l=x:=by
 have:l.findIdx? (·==v)=some x:=by
  rw [List.findIdx?_eq_some_iff_getElem]
  exact ⟨h,by simpa using h1,fun j hj=>by simpa using h2 j l[j] hj (List.getElem?_eq_getElem _)⟩
 simp [I7,this]
theorem nr {α:Type} [BEq α] [LawfulBEq α] {v:α} {l:List α} (h:∀(j:Nat) (y:α),l[j]? = some y→¬(y=v)):I7 v l = -1:=by
 have:l.findIdx? (·==v)=none:=by
  rw [List.findIdx?_eq_none_iff]
  intro y hy
  obtain ⟨j,hj⟩:=List.getElem?_of_mem hy
  simpa using h j y hj
 simp [I7,this]
theorem Ve {α:Type} [BEq α] [LawfulBEq α] (v:α) (l:List α):decide (0≤I7 v l)=l.contains v:=by
 unfold I7
 cases h:l.findIdx? (·==v) with
 | none =>
  rw [List.findIdx?_eq_none_iff] at h
  have:l.contains v=false:=by
   rw [Bool.eq_false_iff]
   intro hc
   have:=h v (by simpa using hc)
   simp at this
  rw [this];rfl
 | some i =>
  rw [List.findIdx?_eq_some_iff_getElem] at h
  obtain ⟨hi,e,_⟩:=h
  have:l.contains v=true:=by
   have:l[i]=v:=by simpa using e
   rw [←this]
   simp
  rw [this]
  simp only [decide_eq_true_eq]
  omega
theorem c62 (l:List Str) (v:Str) (hl:l.length≤1048576) (Hp:List AObj):AFun Tryz.prog 62 [Fe l,A9 v] Hp (A2 (I7 v l)):=by
 refine ACall.body [.tmp 4] [0,1] Tryz.func62 Tryz.ntmps62 (fun d=>?_)
 refine Z51 ?_;refine ly ?_
 refine AW.loopC (α:=Nat) (fun x=>⟨19,A3 0 (Fe l) (A3 1 (A9 v) (A3 7 (A2 l.length) (A3 8 (A2 (x:Nat)) (fun _=>.any)))),Hp,[],[],none⟩) (fun x=>x≤l.length∧∀(j:Nat) (y:Str),j<x→l[j]? = some y→¬(y=v)) (fun x=>l.length-x) (0) (by simp) (StLe.of_eq (by simp)) rfl (fun x hx=>?_)
 refine lw ?_
 refine W.condX (fun ht9=>?_) (fun ht9=>?_)
 ·have hlt:x<l.length:=by simpa using ht9
  refine Z23 ?_;refine Z1 ?_;refine lv ?_
  refine R.go (h:=Q.indexAddr (x) (A9 l[x]) (fun _=>An hlt)) (hr:=?_)
  refine Z0 ?_;refine me ?_
  refine W.cond (fun ht16=>?_) (fun ht16=>?_)
  ·refine gq ?_;refine Z54 ?_;exact K.fin (V.one V.tmp) ⟨by rw [xm hlt (by simpa using (Eq.symm (by simpa using ht16):l[x]=v)) hx.2],rfl⟩
  refine Z57 ?_;refine R.fin [0,1,7,8] ?_;exact K.lpN (x+1) ⟨hlt,Cn hlt hx.2 (fun e=>by rw [e] at ht16;simp at ht16)⟩ (by omega) (StCut.of_eq rfl)
 refine Z35 ?_;refine Z63 ?_;exact K.fin (V.one V.tmp) ⟨by rw [nr (Md (by simp at ht9;omega) hx.2)],rfl⟩

theorem c60 (l:List Str) (v:Str) (hl:l.length≤1048576) (Hp:List AObj):AFun Tryz.prog 60 [Fe l,A9 v] Hp (At (l.contains v)):=by
 refine ACall.body [.tmp 4] [0,1] Tryz.func60 Tryz.ntmps60 (fun d=>?_)
 refine Z51 ?_;refine Z1 ?_;refine R.call Tryz.call62 (c62 l v hl _) ?_;refine Z0 ?_;refine Z22 ?_;exact K.fin (V.one V.tmp) ⟨by rw [Ve],rfl⟩

theorem iw {n k:Nat} {o:Bool} {l:List Col} {z:Col}:Low n (.slice o k (l.map B0++[B0 z])):=by
 refine .slice _ _ _ (fun y hy=>?_)
 have key:∀c:Col,∀w∈(B0 c).cells,Low n w:=by
  intro c w hw
  have hw':w∈[AV.v (sv c.name),AV.v (.int .i64 c.kind)]:=hw
  simp only [List.mem_cons,List.not_mem_nil,or_false] at hw'
  rcases hw' with rfl|rfl
  ·exact .v _
  exact .v _
 rcases List.mem_append.1 hy with hy|hy
 ·obtain ⟨a,_,rfl⟩:=List.mem_map.1 hy
  exact key a
 rw [List.mem_singleton.1 hy]
 exact key z
def Kv (c:List Col) (take:List Str) (j:Nat) (nm:Str):Bool := !(decide (B3 nm c<0) || (I7 nm take != (j:Int)))
def Fg (c:List Col) (take:List Str):Bool:=take.zipIdx.all fun x=>Kv c take x.2 x.1
theorem takenM_true {c:List Col} {take:List Str}:Fg c take=true↔∀(j:Nat) (y:Str),take[j]? = some y→Kv c take j y=true:=Lq
def Mn (c:List Col) (x:Nat) (y:Col):Bool := !((!Ff y.name) || (B3 y.name c != (x:Int)))
def Hq (c:List Col):Bool:=c.zipIdx.all fun x=>Mn c x.2 x.1
theorem namedC_true {c:List Col}:Hq c=true↔∀(j:Nat) (y:Col),c[j]? = some y→Mn c j y=true:=Lq
def Cf (c:List Col) (take:List Str):List Col:=c.filter fun y => !take.contains y.name
theorem tc {c:List Col} {take:List Str} {k:Nat} {y:Col} (h:c[k]? = some y) (hn:take.contains y.name=false):Cf (c.take (k+1)) take=Cf (c.take k) take++[y]:=by
 unfold Cf
 have e:c.take (k+1)=c.take k++[y]:=by rw [List.take_succ,h];rfl
 have hm:¬y.name∈take:=by simpa using hn
 rw [e,List.filter_append]
 simp [List.filter_cons,hm]
theorem ix {c:List Col} {take:List Str} {k:Nat} {y:Col} (h:c[k]? = some y) (hn:take.contains y.name=true):Cf (c.take (k+1)) take=Cf (c.take k) take:=by
 unfold Cf
 have e:c.take (k+1)=c.take k++[y]:=by rw [List.take_succ,h];rfl
 have hm:y.name∈take:=by simpa using hn
 rw [e,List.filter_append]
 simp [List.filter_cons,hm]
theorem Ka (c:List Col) (take:List Str):(Cf c take).length≤c.length:=List.length_filter_le _ _
def Ca (c:List Col) (take:List Str) (give:List Col):List Col×Int:=
 if Cb c=false then ([],1) else if Fg c take=false then ([],9) else if Hq (Cf c take++give)=false then ([],9)
 else if Gj (Cf c take++give)=false then ([],10) else if 12<(Cf c take++give).length then ([],3) else (Cf c take++give,0)
theorem nt {c:List Col} {take:List Str} {give:List Col} (h:Cb c=false):Ca c take give=([],1):=by unfold Ca;rw [if_pos h]
theorem nu {c:List Col} {take:List Str} {give:List Col} (h:Cb c=true) (h2:Fg c take=false):Ca c take give=([],9):=by unfold Ca;rw [if_neg (by rw [h];simp),if_pos h2]
theorem nv {c:List Col} {take:List Str} {give out:List Col} (h:Cb c=true) (h2:Fg c take=true) (ho:Cf c take++give=out) (h3:Hq out=false):Ca c take give=([],9):=by
 unfold Ca;rw [ho,if_neg (by rw [h];simp),if_neg (by rw [h2];simp),if_pos h3]
theorem nw {c:List Col} {take:List Str} {give out:List Col} (h:Cb c=true) (h2:Fg c take=true) (ho:Cf c take++give=out) (h3:Hq out=true) (h4:Gj out=false):Ca c take give=([],10):=by
 unfold Ca;rw [ho,if_neg (by rw [h];simp),if_neg (by rw [h2];simp),if_neg (by rw [h3];simp),if_pos h4]
theorem nx {c:List Col} {take:List Str} {give out:List Col} (h:Cb c=true) (h2:Fg c take=true) (ho:Cf c take++give=out) (h3:Hq out=true) (h4:Gj out=true) (h5:12<out.length):Ca c take give=([],3):=by
 unfold Ca;rw [ho,if_neg (by rw [h];simp),if_neg (by rw [h2];simp),if_neg (by rw [h3];simp),if_neg (by rw [h4];simp),if_pos h5]
theorem ny {c:List Col} {take:List Str} {give out:List Col} (h:Cb c=true) (h2:Fg c take=true) (ho:Cf c take++give=out) (h3:Hq out=true) (h4:Gj out=true) (h5:¬12<out.length):Ca c take give=(out,0):=by
 unfold Ca;rw [ho,if_neg (by rw [h];simp),if_neg (by rw [h2];simp),if_neg (by rw [h3];simp),if_neg (by rw [h4];simp),if_neg h5]
theorem Nt {c:List Col} (h:Cb c=true):c.length≤12:=by
 unfold Cb at h
 simp at h
 omega
theorem nz {c give:List Col} {take:List Str} {out:List Col} (hc:OkCols c) (h:Cb c=true) (hg:OkCols give) (hg2:give.length≤1000000) (ho:Cf c take++give=out):OkCols out:=by
 subst ho
 have h1:=Ka c take
 have h2:=Nt h
 refine ⟨by simp only [List.length_append];omega,fun y hy=>?_⟩
 rcases List.mem_append.1 hy with hy|hy
 ·exact hc.2 y ((List.mem_filter.1 hy).1)
 exact hg.2 y hy
theorem ACj (c:List Col) (hc:OkCols c) (take:List Str) (ht:take.length≤1048576) (Hp:List AObj):AFun Tryz.prog 113 [Ac c,Fe take] Hp (At (Fg c take)):=by
 refine ACall.body [.tmp 4] [0,1] Tryz.func113 Tryz.ntmps113 (fun d=>?_)
 refine Z51 ?_;refine Z30 ?_;refine R.fin [0,1,7,8,9] ?_
 refine AW.loopC (α:=Nat) (fun x=>⟨26,A3 0 (Ac c) (A3 1 (Fe take) (A3 7 (Fe take) (A3 8 (A2 take.length) (A3 9 (A2 (x:Nat)) (fun _=>.any))))),Hp,[],[],none⟩) (fun x=>x≤take.length∧∀(j:Nat) (y:Str),j<x→take[j]? = some y→Kv c take j y=true) (fun x=>take.length-x) (0) (by simp) (StLe.of_eq (by simp)) rfl (fun x hx=>?_)
 refine Z2 ?_;refine R.fin [0,1,7,8,9,10] ?_
 refine W.condX (fun ht10=>?_) (fun ht10=>?_)
 ·have hlt:x<take.length:=by simpa using ht10
  refine Ma ?_
  refine R.go (h:=Q.indexAddr (x) (A9 take[x]) (fun _=>An hlt)) (hr:=?_)
  refine Z29 ?_;refine R.fin [0,1,5,6,7,8,9] ?_;refine Z1 ?_;refine R.call Tryz.call58 (c58 c hc _ _) ?_;refine Z62 ?_;refine G.call Tryz.call62 (fun hB=>c62 take _ ht _) ?_;refine Sf ?_;refine R.fin [0,1,7,8,9,24] ?_
  refine W.cond (fun ht24=>?_) (fun ht24=>?_)
  ·refine Z63 ?_;refine Z54 ?_
   exact K.fin (V.one V.tmp) ⟨by rw [show Fg c take=false from Bool.eq_false_iff.2 fun h=>by have:=takenM_true.1 h x take[x] (List.getElem?_eq_getElem hlt);unfold Kv at this;rw [ht24] at this;cases this],rfl⟩
  refine Z57 ?_;refine R.fin [0,1,7,8,9] ?_;exact K.lpN (x+1) ⟨hlt,Hn hlt hx.2 (by unfold Kv;rw [ht24];rfl)⟩ (by omega) (StCut.of_eq rfl)
 refine Z35 ?_;refine Z63 ?_;exact K.fin (V.one V.tmp) ⟨by rw [takenM_true.2 (Ig (by simp at ht10;omega) hx.2)],rfl⟩

theorem ACk (c:List Col) (hc:OkCols c) (Hp:List AObj):AFun Tryz.prog 115 [Ac c] Hp (At (Hq c)):=by
 refine ACall.body [.tmp 2] [0] Tryz.func115 Tryz.ntmps115 (fun d=>?_)
 refine Wo ?_;refine R.fin [0,5,6,7] ?_
 refine AW.loopC (α:=Nat) (fun x=>⟨25,A3 0 (Ac c) (A3 5 (Ac c) (A3 6 (A2 c.length) (A3 7 (A2 (x:Nat)) (fun _=>.any)))),Hp,[],[],none⟩) (fun x=>x≤c.length∧∀(j:Nat) (y:Col),j<x→c[j]? = some y→Mn c j y=true) (fun x=>c.length-x) (0) (by simp) (StLe.of_eq (by simp)) rfl (fun x hx=>?_)
 refine Z2 ?_;refine R.fin [0,5,6,7,8] ?_
 refine W.condX (fun ht8=>?_) (fun ht8=>?_)
 ·have hlt:x<c.length:=by simpa using ht8
  have hcl:=hc.len
  refine Ma ?_
  refine R.go (h:=Q.indexAddr (x) (B0 c[x]) (fun _=>An hlt)) (hr:=?_)
  refine Zf ?_;refine R.fin [0,3,4,5,6,7] ?_;refine Z1 ?_;refine R.call Tryz.call106 (mx _ (hc.names _ (List.getElem_mem hlt)) _) ?_;refine Z0 ?_;refine Z41 ?_;refine G.call Tryz.call58 (fun hB=>c58 c hc _ _) ?_;refine Sf ?_;refine R.fin [0,5,6,7,23] ?_
  refine W.cond (fun ht23=>?_) (fun ht23=>?_)
  ·rw [El] at ht23
   refine gk ?_
   exact K.fin (V.one V.tmp) ⟨by rw [show Hq c=false from Bool.eq_false_iff.2 fun h=>by have:=namedC_true.1 h x c[x] (List.getElem?_eq_getElem hlt);unfold Mn at this;rw [ht23] at this;cases this],rfl⟩
  rw [El] at ht23
  refine Z57 ?_;refine R.fin [0,5,6,7] ?_
  refine K.lpN (x+1) ⟨hlt,Hn hlt hx.2 (by unfold Mn;rw [ht23];rfl)⟩ (by omega) ?_
  exact StCut.take (own:=[]) (fun _=>.refl _) (by repeat (first|exact Aq|refine Ap (by simp [or_imp,forall_and]) ?_)) (by simp) (by simp)
 refine Z35 ?_;refine Z49 ?_;exact K.fin (V.one V.tmp) ⟨by rw [namedC_true.2 (Ig (by simp at ht8;omega) hx.2)],rfl⟩

theorem ACl (c:List Col) (take:List Str) (Hp:List AObj):AFun Tryz.prog 114 [Ac c,Fe take] Hp (.fn (.func 149) [] [.ro [Ac c],.ro [Fe take]]):=by
 refine ACall.body [.tmp 4] [0,1] Tryz.func114 Tryz.ntmps114 (fun d=>?_)
 refine Z13 ?_;refine Hl ?_;refine Cz ?_;refine ma ?_;exact w4

theorem ACm (l:Nat) (c:List Col) (take:List Str) (hc:c.length≤1048576) (ht:take.length≤1048576) (U:Nat→List AObj) (hlen:∀k,(U k).length=(U 0).length) (hll:l<(U 0).length)
  (hlw:∀k,∀x∈U k,ObjLow (U 0).length x) (hn:∀k y,c[k]? = some y→take.contains y.name=true→U (k+1)=U k)
  (hy:∀k y X,c[k]? = some y→take.contains y.name=false→AYield Tryz.prog l [B0 y] (U k++X) (fun b H'=>b=true∧H'=U (k+1)++X)):ACall Tryz.prog 149 [.yield l,.ro [Ac c],.ro [Fe take]] (U 0) (fun _ H'=>H'=U c.length):=by
 refine ACall.body [] [0,1,2] Tryz.func149 Tryz.ntmps149 (fun d=>?_)
 refine Z13 ?_;refine R.fin [0,2,6,7,8] ?_
 refine AW.loopC (α:=Nat) (fun x=>⟨24,A3 0 (.yield l) (A3 2 (.ro [Fe take]) (A3 6 (Ac c) (A3 7 (A2 c.length) (A3 8 (A2 (x:Nat)) (fun _=>.any))))),U x,[],[],none⟩) (fun x=>x≤c.length) (fun x=>c.length-x) (0) (Nat.zero_le _) (StLe.of_eq (by simp)) rfl (fun x hx=>?_)
 refine Z2 ?_;refine R.fin [0,2,6,7,8,9] ?_
 refine W.condX (fun ht9=>?_) (fun ht9=>?_)
 ·have hlt:x<c.length:=by simpa using ht9
  refine Z87 ?_
  refine R.go (h:=Q.indexAddr (x) (B0 c[x]) (fun _=>An hlt)) (hr:=?_)
  refine Q8 ?_;refine R.fin [0,2,5,6,7,8] ?_;refine Z13 ?_;refine R.call Tryz.call60 (c60 take _ ht _) ?_;refine Z62 ?_
  refine G.yield (l:=l) (C:=((!take.contains c[x].name)==true)) (args:=[B0 c[x]]) (fun hC=>hy x c[x] _ (List.getElem?_eq_getElem hlt) (by simpa using hC)) ?_
  intro b V O hV hb hb0
  have hVO:V=U (x+1)∧O=[AObj.cells 48 [A9 c[x].name,A2 c[x].kind]]∧(take.contains c[x].name=false→b=true):=by
   cases hcn:take.contains c[x].name with
   | true =>
    obtain ⟨h1,h2⟩:=hb0 (by rw [hcn];rfl)
    exact ⟨h1.trans (hn x c[x] (List.getElem?_eq_getElem hlt) hcn).symm,h2,fun e=>by cases e⟩
   | false =>
    obtain ⟨h1,h2⟩:=hb (by rw [hcn];rfl)
    have h3:=List.append_inj h2 (by rw [hV,hlen x,hlen (x+1)])
    exact ⟨h3.1,h3.2,fun _=>h1⟩
  obtain ⟨rfl,rfl,hbt⟩:=hVO
  refine ⟨fun _=>by rw [hlen (x+1)];exact hlw (x+1),fun o ho=>(by cases ho),?_⟩
  refine Z93 ?_;refine R.fin [0,2,6,7,8,22] ?_
  refine W.cond (fun ht22=>?_) (fun ht22=>?_)
  ·exfalso
   have hcf:take.contains c[x].name=false:=by simp at ht22 ⊢;exact ht22.1
   rw [hbt hcf] at ht22
   simp at ht22
  refine Z57 ?_;refine R.fin [0,2,6,7,8] ?_;refine mi ?_
  exact StCut.take (own:=[]) (fun _=>.refl _) (by repeat (first|exact Aq|refine Ap (by first|(simp [or_imp,forall_and];done)|(have:=hlen (x+1);simp;omega)) ?_)) (by simp) (by simp)
 have hxe:x=c.length:=by simp at ht9;omega
 refine K.lpE ?_;exact K.finN .nores (hp:=by rw [hxe])

/-! What went and came, taken back: the same columns. -/
theorem o4 {α β:Type} {f:α→β} {c:List α} (h:(c.map f).Nodup) {i j:Nat} {y z:α} (hi:c[i]? = some y) (hj:c[j]? = some z) (e:f y=f z):i=j:=by
 obtain ⟨hi',ei⟩:=List.getElem?_eq_some_iff.1 hi
 obtain ⟨hj',ej⟩:=List.getElem?_eq_some_iff.1 hj
 have h':List.Pairwise (·≠·) (c.map f):=h
 rw [List.pairwise_iff_getElem] at h'
 rcases Nat.lt_trichotomy i j with hlt|rfl|hlt
 ·have h2:=h' i j (by simpa using hi') (by simpa using hj') hlt
  rw [List.getElem_map,List.getElem_map,ei,ej] at h2
  exact absurd e h2
 ·rfl
 have h2:=h' j i (by simpa using hj') (by simpa using hi') hlt
 rw [List.getElem_map,List.getElem_map,ei,ej] at h2
 exact absurd e.symm h2
theorem R5 {c:List Col} (h:(c.map (·.name)).Nodup) {j:Nat} {y:Col} (hj:c[j]? = some y):B3 y.name c=(j:Int):=by
 obtain ⟨hj',ej⟩:=List.getElem?_eq_some_iff.1 hj
 exact Ws hj' (by rw [ej]) (fun k z hk hz e=>by have:=o4 h hz hj e;omega)
theorem find_mem {nm:Str} {c:List Col}:¬(B3 nm c<0)↔∃(j:Nat) (y:Col),c[j]? = some y∧y.name=nm∧B3 nm c=(j:Int):=by
 unfold B3
 cases h:c.findIdx? (fun y=>y.name==nm) with
 | none =>
  constructor
  ·intro h';exact absurd (by decide) h'
  rintro ⟨j,y,_,_,e⟩
  exact absurd (show (-1:Int)=(j:Int) from e) (by omega)
 | some i =>
  rw [List.findIdx?_eq_some_iff_getElem] at h
  obtain ⟨hi,e,_⟩:=h
  constructor
  ·intro _;exact ⟨i,c[i],List.getElem?_eq_getElem hi,by simpa using e,rfl⟩
  intro _ h'
  have:(i:Int)<0:=h'
  omega
theorem td {c:List Col} {take:List Str} {give:List Col} (h:(Ca c take give).2=0):Cb c=true∧Fg c take=true∧Gj (Cf c take++give)=true∧(Cf c take++give).length≤12∧Ca c take give=(Cf c take++give,0):=by
 cases h1:Cb c with
 | false=>rw [nt h1] at h;exact absurd (show (1:Int)=0 from h) (by decide)
 | true =>
  cases h2:Fg c take with
  | false=>rw [nu h1 h2] at h;exact absurd (show (9:Int)=0 from h) (by decide)
  | true =>
   cases h3:Hq (Cf c take++give) with
   | false=>rw [nv h1 h2 rfl h3] at h;exact absurd (show (9:Int)=0 from h) (by decide)
   | true =>
    cases h4:Gj (Cf c take++give) with
    | false=>rw [nw h1 h2 rfl h3 h4] at h;exact absurd (show (10:Int)=0 from h) (by decide)
    | true =>
     by_cases h5:12<(Cf c take++give).length
     ·rw [nx h1 h2 rfl h3 h4 h5] at h;exact absurd (show (3:Int)=0 from h) (by decide)
     exact ⟨rfl,rfl,rfl,by omega,ny h1 h2 rfl h3 h4 h5⟩
set_option maxRecDepth 8000
/-- What a node asks of its kids, and what it is. -/
structure Sign where
 kids:List Int
 own:Int
def C9 (s:Str):Sign:=if (s==[111,114]) || (s==[97,110,100]) then ⟨[3,3],3⟩ else if (((((s==[61]) || (s==[33,61])) || (s==[60])) || (s==[60,61])) || (s==[62])) || (s==[62,61]) then ⟨[-1, -1],3⟩ else if s==[38] then ⟨[2,2],2⟩ else ⟨[1,1],1⟩
def Cs (s:Str):Sign:=if (s==[108,101,110]) || (s==[110,117,109]) then ⟨[2],1⟩ else if s==[115,116,114] then ⟨[1],2⟩ else if (s==[108,101,102,116]) || (s==[114,105,103,104,116]) then ⟨[2,1],2⟩ else if s==[105,115,110,117,108,108] then ⟨[-2],3⟩ else if s==[110,118,108] then ⟨[-1, -1], -1⟩ else ⟨[3, -1, -1], -1⟩
def Bs (o:Int) (t:Str):Sign:=if o==3 then ⟨[1],1⟩ else if o==4 then ⟨[3],3⟩ else if o==5 then C9 t else Cs t
def Cc (a b:Int):Int×Bool:=if a==0 then (b,true) else if (b==0) || (a==b) then (a,true) else (0,false)
def Ew:List Int→List Int→Int→Option Int
 | _,[],c=>some c
 | [],_::_,_=>none
 | w::ws,k::ks,c=>if w == -2 then Ew ws ks c else if w == -1 then (if (Cc c k).2 then Ew ws ks (Cc c k).1 else none) else if (Cc w k).2 then Ew ws ks c else none
def Pf (s:Sign) (ks:List Int):Int×Int:=match Ew s.kids ks 0 with|none=>(0,10)|some c=>if s.own == -1 then (c,0) else (s.own,0)
def R6 (c:List Col) (t:Str):Int×Int:=if B3 t c<0 then (0,9) else ((c.getD (B3 t c).toNat ⟨[],0⟩).kind,0)
def La (c:List Col) (o:Int) (t:Str) (v:Val) (ks:List (Int×Int)):Int×Int:=
 if o==1 then (v.kind,0) else if o==2 then R6 c t else match ks.find? (fun q=>q.2 != 0) with|some q=>(0,q.2)|none=>Pf (Bs o t) (ks.map (·.1))
mutual
def As (c:List Col):Expr→Int×Int
 | .mk o t v k=>La c o t v (cw c k)
def cw (c:List Col):List Expr→List (Int×Int)
  | []=>[]
  | e::r=>As c e::cw c r
 end
theorem Nu (c:List Col):∀l,cw c l=l.map (As c)
 | []=>rfl
 | e::r=>by rw [cw,Nu c r];rfl
theorem Mo (c:List Col) (e:Expr):As c e=La c e.op e.text e.val (e.kids.map (As c)):=by cases e;rw [As,Nu];rfl
/-- infer.Kind. -/
def Fm (e:Expr) (c:List Col):Int×Int:=if (!(Ax e)) || !(Mi c) then (0,1) else As c e
/-! The signs have as many as the nodes have kids. -/
theorem aw (s:Str):(C9 s).kids.length=2:=by
 unfold C9;repeat' split
 all_goals rfl
theorem ax {t:Str} {n:Nat} (h:B4 t=(n:Int)):(Cs t).kids.length=n:=by
 rw [show B4 t=B4 t from rfl] at h
 by_cases hm:t∈arityList.map (·.1)
 ·have:((arityList.map (·.1)).all fun s=>decide (((Cs s).kids.length:Int)=B4 s))=true:=by kernel_rfl
  have:=of_decide_eq_true (List.all_eq_true.1 this t hm)
  omega
 have h1:B4 t = -1:=by
  unfold B4
  rw [List.find?_eq_none.2 fun p hp=>by
   simp only [beq_iff_eq]
   rintro rfl
   exact hm (List.mem_map.2 ⟨p,hp,rfl⟩)]
 omega
theorem o5 {e:Expr} (h:Bi e=true) (h1:(e.op==1)=false) (h2:(e.op==2)=false):(Bs e.op e.text).kids.length=e.kids.length:=by
 unfold Bi at h
 rw [h1,h2] at h
 simp only [Bool.false_eq_true,if_false] at h
 unfold Bs
 by_cases h3:(e.op==3)=true
 ·rw [h3] at h
  simp only [Bool.true_or,if_true,Bool.and_eq_true,beq_iff_eq] at h
  rw [if_pos h3]
  show 1=_
  omega
 have h3':(e.op==3)=false:=by simpa using h3
 rw [if_neg h3]
 rw [h3'] at h
 by_cases h4:(e.op==4)=true
 ·rw [h4] at h
  simp only [Bool.false_or,if_true,Bool.and_eq_true,beq_iff_eq] at h
  rw [if_pos h4]
  show 1=_
  omega
 have h4':(e.op==4)=false:=by simpa using h4
 rw [if_neg h4]
 rw [h4'] at h
 simp only [Bool.or_false,Bool.false_eq_true,if_false] at h
 by_cases h5:(e.op==5)=true
 ·rw [h5] at h
  simp only [if_true,Bool.and_eq_true,beq_iff_eq] at h
  rw [if_pos h5,aw]
  omega
 have h5':(e.op==5)=false:=by simpa using h5
 rw [if_neg h5]
 rw [h5'] at h
 simp only [Bool.false_eq_true,if_false] at h
 by_cases h6:(e.op==6)=true
 ·rw [h6] at h
  simp only [if_true,Bool.and_eq_true,beq_iff_eq] at h
  exact ax h.2
 have h6':(e.op==6)=false:=by simpa using h6
 rw [h6'] at h
 cases h
/-! More columns. -/
theorem o6 {c:List Col} {o:Int} {t:Str} {v:Val} {ks:List (Int×Int)} (h:(La c o t v ks).2=0) (h1:(o==1)=false) (h2:(o==2)=false):∀q∈ks,q.2=0:=by
 unfold La at h
 rw [h1,h2] at h
 simp only [Bool.false_eq_true,if_false] at h
 cases hf:ks.find? (fun q=>q.2 != 0) with
 | some q =>
  rw [hf] at h
  have:=List.find?_some hf
  simp only [bne_iff_ne] at this
  exact absurd h this
 | none =>
  intro q hq
  have:=List.find?_eq_none.1 hf q hq
  simpa using this
/-! A tree in a column's place. -/
set_option maxRecDepth 4000
/-- Where a parser of expressions stands: its word, its nest, its fault. -/
structure PS where
 i:Nat
 nest:Nat
 code:Int
 at_:Int
def noV:Val:=⟨0,0,[]⟩
def Ak:Expr:=.mk 0 [] noV []
def Co (e a:Int) (S:PS):PS:=if S.code==0 then ⟨S.i,S.nest,e,a⟩ else S
def isM (l:List Tok) (of:Str) (S:PS):Bool:=(((A7 l S.i).kind==5) || ((A7 l S.i).kind==2))&&Gy (A7 l S.i).text of
def A8 (S:PS):PS:=⟨S.i+1,S.nest,S.code,S.at_⟩
def Bj (S:PS):PS:=⟨S.i,S.nest+1,S.code,S.at_⟩
def To (S:PS):PS:=⟨S.i,S.nest-1,S.code,S.at_⟩
def De (l:List Tok) (s:Str) (S:PS):PS:=if S.code != 0 then S else if ((A7 l S.i).kind != 5) || !((A7 l S.i).text==s) then Co 8 (A7 l S.i).at_ S else A8 S
/-- What stands one nest deeper. -/
structure Fam where
 ei:PS→Expr×PS
 no:PS→Expr×PS
 ne:PS→Expr×PS
def Al (a:Int) (f:PS→Expr×PS) (S:PS):Expr×PS:=if (S.nest:Int)==30 then (Ak,Co 18 a S) else ((f (Bj S)).1,To (f (Bj S)).2)
def Eg (t:Str) (x y:Expr):Expr:=.mk 5 t noV [x,y]
def Lc (l:List Tok) (of:Str) (f:PS→Expr×PS):Nat→Expr×PS→Expr×PS
 | 0,r=>r
 | n+1,r=>if (r.2.code==0)&&isM l of r.2 then Lc l of f n (Eg (A7 l r.2.i).text r.1 (f (A8 r.2)).1,(f (A8 r.2)).2) else r
def Dr (l:List Tok) (of:Str) (f:PS→Expr×PS) (S:PS):Expr×PS:=Lc l of f l.length (f S)
def R7:Str:=[32,44,32]
def argsF (l:List Tok) (f:PS→Expr×PS):Nat→List Expr×PS→List Expr×PS
 | 0,r=>r
 | n+1,r=>if (r.2.code==0)&&isM l R7 r.2 then argsF l f n (r.1++[(f (A8 r.2)).1],(f (A8 r.2)).2) else r
def Fa (l:List Tok) (f:PS→Expr×PS) (S:PS):List Expr×PS:=argsF l f l.length ([(f S).1],(f S).2)
def Hy (l:List Tok) (a:Int) (f:PS→Expr×PS) (S:PS):List Expr×PS:=if (S.nest:Int)==30 then ([],Co 18 a S) else ((Fa l f (Bj S)).1,To (Fa l f (Bj S)).2)
def Dp:Str:=[41]
def Br (l:List Tok) (D:Fam) (S:PS):List Expr×PS:=Hy l (A7 l S.i).at_ D.ei (A8 S)
def Fb (l:List Tok) (D:Fam) (t:Tok) (S:PS):Expr×PS:=
 if B4 t.text<0 then (Ak,Co 9 t.at_ S)
 else if ((De l Dp (Br l D S).2).code==0) && !(((Br l D S).1.length:Int)==B4 t.text) then (Ak,Co 8 t.at_ (De l Dp (Br l D S).2))
 else (.mk 6 t.text noV (Br l D S).1,De l Dp (Br l D S).2)
def orT:Str:=[32,111,114,32]
def iy:Str:=[32,97,110,100,32]
def xn:Str:=[32,110,111,116,32]
def iz:Str:=[32,61,32,33,61,32,60,32,60,61,32,62,32,62,61,32]
def j4:Str:=[32,43,32,45,32,38,32]
def Tp:Str:=[32,42,32,47,32,37,32]
def xp:Str:=[32,45,32]
def opT:Str:=[32,40,32]
def j5:Str:=[32,116,114,117,101,32,102,97,108,115,101,32,110,117,108,108,32]
def Gm (v:Val):Expr:=.mk 1 [] v []
def Ds (l:List Tok) (D:Fam) (S:PS):Expr×PS:=
 if S.code != 0 then (Ak,S)
 else if ((A7 l S.i).kind==3) || isM l j5 S then (Gm (Dd (A7 l S.i).text).1,A8 S)
 else if (A7 l S.i).kind==4 then (Gm ⟨2,0,(A7 l S.i).text.take 200⟩,A8 S)
 else if (A7 l S.i).kind==1 then (if isM l opT (A8 S) then Fb l D (A7 l S.i) (A8 S) else (Bv (A7 l S.i).text,A8 S))
 else if isM l opT S then ((Al (A7 l S.i).at_ D.ei (A8 S)).1,De l Dp (Al (A7 l S.i).at_ D.ei (A8 S)).2)
 else (Ak,Co 8 (A7 l S.i).at_ S)
def Dl (op:Int) (x:Expr):Expr:=.mk op [] noV [x]
def Jm (l:List Tok) (D:Fam) (S:PS):Expr×PS:=if !isM l xp S then Ds l D S else (Dl 3 (Al (A7 l S.i).at_ D.ne (A8 S)).1,(Al (A7 l S.i).at_ D.ne (A8 S)).2)
def R8 (l:List Tok) (D:Fam):PS→Expr×PS:=Dr l Tp (Jm l D)
def By (l:List Tok) (D:Fam):PS→Expr×PS:=Dr l j4 (R8 l D)
def Cq (l:List Tok) (D:Fam) (S:PS):Expr×PS:=
 if ((By l D S).2.code != 0) || !isM l iz (By l D S).2 then By l D S
 else (Eg (A7 l (By l D S).2.i).text (By l D S).1 (By l D (A8 (By l D S).2)).1,(By l D (A8 (By l D S).2)).2)
def Jn (l:List Tok) (D:Fam) (S:PS):Expr×PS:=if !isM l xn S then Cq l D S else (Dl 4 (Al (A7 l S.i).at_ D.no (A8 S)).1,(Al (A7 l S.i).at_ D.no (A8 S)).2)
def R9 (l:List Tok) (D:Fam):PS→Expr×PS:=Dr l iy (Jn l D)
def Kw (l:List Tok) (D:Fam):PS→Expr×PS:=Dr l orT (R9 l D)
def C3 (l:List Tok):Nat→Fam
 | 0=>⟨fun S=>(Ak,S),fun S=>(Ak,S),fun S=>(Ak,S)⟩
 | d+1=>⟨Kw l (C3 l d),Jn l (C3 l d),Jm l (C3 l d)⟩

/-! What is so of them. -/
theorem Fh:∀{n m:Nat},n≤m→∀{e:Expr},okE n e→okE m e
 | 0,_,_,_,h=>h.elim
 | n+1,0,h,_,_=>by omega
 | n+1,m+1,h,_,ho=>⟨ho.1,ho.2.1,fun y hy=>Fh (by omega) (ho.2.2 y hy)⟩
theorem Ra:sizeE Ak=1:=rfl
theorem j6 (t:Str) (a b:Expr):sizeE (Eg t a b)=1+(sizeE a+(sizeE b+0)):=by rw [Eg,sizeE,Cj,Cj,Cj]
theorem j7 (o:Int) (a:Expr):sizeE (Dl o a)=1+(sizeE a+0):=by rw [Dl,sizeE,Cj,Cj]
theorem Tq:∀a b:List Expr,Cj (a++b)=Cj a+Cj b
 | [],b=>by rw [List.nil_append,Cj,Nat.zero_add]
 | e::r,b=>by rw [List.cons_append,Cj,Cj,Tq r b,Nat.add_assoc]
theorem Xe {n:Nat} (h:1≤n):okE n Ak:=Fh h ⟨by decide,by decide,fun y hy=>by cases hy⟩
theorem cx {n:Nat} (h:1≤n) (v:Val):okE n (Gm v):=Fh h ⟨by simp [Gm,Expr.text],by simp [Gm,Expr.kids],fun y hy=>by cases hy⟩
structure Fact (l:List Tok) (S:PS) (r:Expr×PS):Prop where
 le:S.i≤r.2.i
 lt:r.2.i<l.length
 nest:r.2.nest=S.nest
 ok:okE (2*(r.2.i-S.i)+1) r.1
 sz:sizeE r.1≤2*(r.2.i-S.i)+1
def Dh (l:List Tok) (n:Nat) (f:PS→Expr×PS):Prop:=∀S,S.i<l.length→S.nest=n→Fact l S (f S)
theorem TokEnd.step {l:List Tok} (h:TokEnd l) {i:Nat} (hi:i<l.length) (hk:(A7 l i).kind≠0):i+1<l.length:=by
 obtain ⟨L,z,rfl,hz,_⟩:=h.split
 rcases Nat.lt_or_ge i L.length with h1|h1
 ·simp only [List.length_append,List.length_cons,List.length_nil];omega
 have:i=L.length:=by simp only [List.length_append,List.length_cons,List.length_nil] at hi;omega
 subst this
 exact absurd (by unfold A7;simpa using hz) hk
theorem o7 {l:List Tok} {of:Str} {S:PS} (h:isM l of S=true):(A7 l S.i).kind≠0:=by
 unfold isM at h
 simp only [Bool.and_eq_true,Bool.or_eq_true,beq_iff_eq] at h
 omega
theorem TokEnd.stepIs {l:List Tok} (h:TokEnd l) {of:Str} {S:PS} (hi:S.i<l.length) (hk:isM l of S=true):(A8 S).i<l.length:=h.step hi (o7 hk)
theorem failM_i {e a:Int} {S:PS}:(Co e a S).i=S.i∧(Co e a S).nest=S.nest:=by unfold Co;split<;>exact ⟨rfl,rfl⟩
theorem cy {l:List Tok} (hl:TokEnd l) {s:Str} {S:PS} (hi:S.i<l.length):S.i≤(De l s S).i∧(De l s S).i<l.length∧(De l s S).nest=S.nest:=by
 unfold De
 split
 ·exact ⟨Nat.le_refl _,hi,rfl⟩
 split
 ·rw [failM_i.1,failM_i.2];exact ⟨Nat.le_refl _,hi,rfl⟩
 rename_i h
 simp only [Bool.or_eq_true,bne_iff_ne,ne_eq,not_or,Classical.not_not] at h
 have:=hl.step hi (by rw [h.1];decide)
 exact ⟨Nat.le_succ _,this,rfl⟩
theorem Mp {l:List Tok} {S S0:PS} (h0:S0.i≤S.i) (h1:S.i<l.length) (h2:S.nest=S0.nest) (e a:Int):Fact l S0 (Ak,Co e a S):=by
 refine ⟨?_,?_,?_,Xe (by omega),by rw [Ra];omega⟩
 ·show _≤(Co e a S).i;rw [failM_i.1];exact h0
 ·show (Co e a S).i<_;rw [failM_i.1];exact h1
 show (Co e a S).nest=_;rw [failM_i.2];exact h2
/-- A state of a loop of marks. -/
structure LeftAt (l:List Tok) (of:Str) (f:PS→Expr×PS) (S:PS) (r:Expr×PS):Prop where
 fact:Fact l S r
 eq:∃n,l.length≤r.2.i+n∧Dr l of f S=Lc l of f n r
theorem LeftAt.start {l:List Tok} {of:Str} {f:PS→Expr×PS} {S:PS} (h:Fact l S (f S)):LeftAt l of f S (f S):=⟨h,l.length,by omega,rfl⟩
theorem cz {l:List Tok} {S:PS} {r q:Expr×PS} (h:Fact l S r) (hq:Fact l (A8 r.2) q) (hl:TokEnd l):Fact l S (Eg (A7 l r.2.i).text r.1 q.1,q.2):=by
 have h1:=h.le
 have h2:r.2.i+1≤q.2.i:=hq.le
 refine ⟨by show S.i≤q.2.i;omega,hq.lt,by show q.2.nest=S.nest;rw [hq.nest];exact h.nest,?_,?_⟩
 rotate_left
 ·have s1:=h.sz
  have s2:sizeE q.1≤2*(q.2.i-(r.2.i+1))+1:=hq.sz
  show sizeE (Eg _ r.1 q.1)≤2*(q.2.i-S.i)+1
  rw [j6]
  omega
 show okE (2*(q.2.i-S.i)+1) _
 refine ⟨hl.text _,by simp [Eg,Expr.kids],fun y hy=>?_⟩
 have hy':y=r.1∨y=q.1:=by simpa [Eg,Expr.kids] using hy
 rcases hy' with rfl|rfl
 ·exact Fh (by omega) h.ok
 exact Fh (by show 2*(q.2.i-(r.2.i+1))+1≤_;omega) hq.ok
theorem LeftAt.on {l:List Tok} {of:Str} {f:PS→Expr×PS} {S:PS} {r:Expr×PS} (hl:TokEnd l) (h:LeftAt l of f S r) (hc:((r.2.code==0)&&isM l of r.2)=true) (hf:Dh l S.nest f):(A8 r.2).i<l.length∧Fact l (A8 r.2) (f (A8 r.2))∧LeftAt l of f S (Eg (A7 l r.2.i).text r.1 (f (A8 r.2)).1,(f (A8 r.2)).2):=by
 have hi:=hl.stepIs h.fact.lt (Bool.and_eq_true_iff.1 hc).2
 have hq:=hf (A8 r.2) hi h.fact.nest
 obtain ⟨n,hn,e⟩:=h.eq
 have h1:=h.fact.lt
 have h2:r.2.i+1≤(f (A8 r.2)).2.i:=hq.le
 obtain ⟨m,rfl⟩:∃m,n=m+1:=⟨n-1,by omega⟩
 refine ⟨hi,hq,cz h.fact hq hl,m,by show l.length≤(f (A8 r.2)).2.i+m;omega,?_⟩
 rw [e,Lc,if_pos hc]
theorem LeftAt.out {l:List Tok} {of:Str} {f:PS→Expr×PS} {S:PS} {r:Expr×PS} (h:LeftAt l of f S r) (hc:¬((r.2.code==0)&&isM l of r.2)=true):Dr l of f S=r:=by
 obtain ⟨n,hn,e⟩:=h.eq
 have h1:=h.fact.lt
 obtain ⟨m,rfl⟩:∃m,n=m+1:=⟨n-1,by omega⟩
 rw [e,Lc,if_neg hc]
theorem Xf {l:List Tok} {of:Str} {f:PS→Expr×PS} {S:PS} (hl:TokEnd l) (hf:Dh l S.nest f):∀(k:Nat) (r:Expr×PS),l.length-r.2.i≤k→LeftAt l of f S r→Fact l S (Dr l of f S)
 | 0,r,hk,h=>by have:=h.fact.lt;omega
 | k+1,r,hk,h=>by
  by_cases hc:((r.2.code==0)&&isM l of r.2)=true
  ·obtain ⟨h1,h2,h3⟩:=h.on hl hc hf
   have h4:r.2.i+1≤(f (A8 r.2)).2.i:=h2.le
   exact Xf hl hf k _ (by show l.length-(f (A8 r.2)).2.i≤k;have:=h.fact.lt;omega) h3
  rw [h.out hc];exact h.fact
theorem F3 {l:List Tok} {of:Str} {f:PS→Expr×PS} {n:Nat} (hl:TokEnd l) (hf:Dh l n f):Dh l n (Dr l of f):=fun S hi hn=>Xf hl (hn ▸ hf) l.length (f S) (by omega) (.start (hf S hi hn))
theorem H1 {l:List Tok} {f:PS→Expr×PS} {S:PS} (a:Int) (hi:S.i<l.length) (hf:S.nest≠30→Dh l (S.nest+1) f):Fact l S (Al a f S):=by
 unfold Al
 split
 ·exact Mp (Nat.le_refl _) hi rfl _ _
 rename_i h
 have h30:S.nest≠30:=fun e=>h (by rw [e];rfl)
 have:=hf h30 (Bj S) hi rfl
 refine ⟨this.le,this.lt,?_,this.ok,this.sz⟩
 show (f (Bj S)).2.nest-1=S.nest
 rw [this.nest]
 rfl
/-- What is so of some kids. -/
structure KFact (l:List Tok) (S:PS) (r:List Expr×PS):Prop where
 le:S.i≤r.2.i
 lt:r.2.i<l.length
 nest:r.2.nest=S.nest
 len:r.1.length≤r.2.i-S.i+1
 ok:∀y∈r.1,okE (2*(r.2.i-S.i)+1) y
 sz:Cj r.1≤2*(r.2.i-S.i)+1
structure ArgsAt (l:List Tok) (f:PS→Expr×PS) (S:PS) (r:List Expr×PS):Prop where
 fact:KFact l S r
 eq:∃n,l.length≤r.2.i+n∧Fa l f S=argsF l f n r
theorem ArgsAt.start {l:List Tok} {f:PS→Expr×PS} {S:PS} (h:Fact l S (f S)):ArgsAt l f S ([(f S).1],(f S).2):=⟨⟨h.le,h.lt,h.nest,by simp,fun y hy=>by rw [List.mem_singleton.1 hy];exact h.ok,by have:=h.sz;show sizeE (f S).1+0≤_;exact this⟩,l.length,by omega,rfl⟩
theorem ArgsAt.on {l:List Tok} {f:PS→Expr×PS} {S:PS} {r:List Expr×PS} (hl:TokEnd l) (h:ArgsAt l f S r) (hc:((r.2.code==0)&&isM l R7 r.2)=true) (hf:Dh l S.nest f):(A8 r.2).i<l.length∧Fact l (A8 r.2) (f (A8 r.2))∧ArgsAt l f S (r.1++[(f (A8 r.2)).1],(f (A8 r.2)).2):=by
 have hi:=hl.stepIs h.fact.lt (Bool.and_eq_true_iff.1 hc).2
 have hq:=hf (A8 r.2) hi h.fact.nest
 obtain ⟨n,hn,e⟩:=h.eq
 have h1:=h.fact.lt
 have h0:=h.fact.le
 have h2:r.2.i+1≤(f (A8 r.2)).2.i:=hq.le
 obtain ⟨m,rfl⟩:∃m,n=m+1:=⟨n-1,by omega⟩
 refine ⟨hi,hq,⟨by show S.i≤(f (A8 r.2)).2.i;omega,hq.lt,by show (f (A8 r.2)).2.nest=_;rw [hq.nest];exact h.fact.nest,?_,fun y hy=>?_,?_⟩,m,by show l.length≤(f (A8 r.2)).2.i+m;omega,?_⟩
 ·have:=h.fact.len
  show (r.1++_).length≤(f (A8 r.2)).2.i-S.i+1
  simp only [List.length_append,List.length_cons,List.length_nil]
  omega
 ·show okE (2*((f (A8 r.2)).2.i-S.i)+1) y
  rcases List.mem_append.1 hy with hy|hy
  ·exact Fh (by omega) (h.fact.ok y hy)
  rw [List.mem_singleton.1 hy]
  exact Fh (by show 2*((f (A8 r.2)).2.i-(r.2.i+1))+1≤_;omega) hq.ok
 ·have s1:=h.fact.sz
  have s2:sizeE (f (A8 r.2)).1≤2*((f (A8 r.2)).2.i-(r.2.i+1))+1:=hq.sz
  show Cj (r.1++[(f (A8 r.2)).1])≤2*((f (A8 r.2)).2.i-S.i)+1
  rw [Tq,Cj,Cj]
  omega
 rw [e,argsF,if_pos hc]
theorem ArgsAt.out {l:List Tok} {f:PS→Expr×PS} {S:PS} {r:List Expr×PS} (h:ArgsAt l f S r) (hc:¬((r.2.code==0)&&isM l R7 r.2)=true):Fa l f S=r:=by
 obtain ⟨n,hn,e⟩:=h.eq
 have h1:=h.fact.lt
 obtain ⟨m,rfl⟩:∃m,n=m+1:=⟨n-1,by omega⟩
 rw [e,argsF,if_neg hc]
theorem Xg {l:List Tok} {f:PS→Expr×PS} {S:PS} (hl:TokEnd l) (hf:Dh l S.nest f):∀(k:Nat) (r:List Expr×PS),l.length-r.2.i≤k→ArgsAt l f S r→KFact l S (Fa l f S)
 | 0,r,hk,h=>by have:=h.fact.lt;omega
 | k+1,r,hk,h=>by
  by_cases hc:((r.2.code==0)&&isM l R7 r.2)=true
  ·obtain ⟨h1,h2,h3⟩:=h.on hl hc hf
   have h4:r.2.i+1≤(f (A8 r.2)).2.i:=h2.le
   exact Xg hl hf k _ (by show l.length-(f (A8 r.2)).2.i≤k;have:=h.fact.lt;omega) h3
  rw [h.out hc];exact h.fact
theorem Rb {l:List Tok} {f:PS→Expr×PS} {S:PS} (hl:TokEnd l) (hi:S.i<l.length) (hf:Dh l S.nest f):KFact l S (Fa l f S):=Xg hl hf l.length _ (by show l.length-(f S).2.i≤_;omega) (.start (hf S hi rfl))
theorem Rc {l:List Tok} {f:PS→Expr×PS} {S:PS} (hl:TokEnd l) (a:Int) (hi:S.i<l.length) (hf:S.nest≠30→Dh l (S.nest+1) f):KFact l S (Hy l a f S):=by
 unfold Hy
 split
 ·refine ⟨?_,?_,?_,by simp,fun y hy=>(by cases hy),by simp [Cj]⟩
  ·show _≤(Co _ _ S).i;rw [failM_i.1];exact Nat.le_refl _
  ·show (Co _ _ S).i<_;rw [failM_i.1];exact hi
  show (Co _ _ S).nest=_;rw [failM_i.2]
 rename_i h
 have h30:S.nest≠30:=fun e=>h (by rw [e];rfl)
 have:=Rb (S:=Bj S) hl hi (hf h30)
 refine ⟨this.le,this.lt,?_,this.len,this.ok,this.sz⟩
 show (Fa l f (Bj S)).2.nest-1=S.nest
 rw [this.nest]
 rfl
theorem ay {l:List Tok} {D:Fam} {S:PS} (hl:TokEnd l) (hll:l.length≤1048576) {t:Tok} (ht:t.text.length≤1048576) (hi:(A8 S).i<l.length) (hf:S.nest≠30→Dh l (S.nest+1) D.ei):Fact l S (Fb l D t S):=by
 have hk:KFact l (A8 S) (Br l D S):=Rc hl _ hi hf
 have h1:S.i+1≤(Br l D S).2.i:=hk.le
 obtain ⟨w1,w2,w3⟩:=cy (s:=Dp) hl hk.lt
 unfold Fb
 split
 ·exact Mp (Nat.le_refl _) (by show S.i<_;have:S.i+1<l.length:=hi;omega) rfl _ _
 split
 ·exact Mp (show S.i≤(De l Dp (Br l D S).2).i by omega) w2 (w3.trans hk.nest) 8 t.at_
 refine ⟨by show S.i≤(De l Dp (Br l D S).2).i;omega,w2,w3.trans hk.nest,?_,?_⟩
 rotate_left
 ·have s1:Cj (Br l D S).1≤2*((Br l D S).2.i-(S.i+1))+1:=hk.sz
  show sizeE (.mk 6 t.text noV (Br l D S).1)≤2*((De l Dp (Br l D S).2).i-S.i)+1
  rw [sizeE]
  omega
 show okE (2*((De l Dp (Br l D S).2).i-S.i)+1) _
 refine ⟨ht,?_,fun y hy=>?_⟩
 ·have h5:(Br l D S).1.length≤(Br l D S).2.i-(A8 S).i+1:=hk.len
  have h6:=hk.lt
  show (Br l D S).1.length≤1048576
  omega
 exact Fh (by show 2*((Br l D S).2.i-(S.i+1))+1≤_;omega) (hk.ok y hy)
theorem az {l:List Tok} {D:Fam} {n:Nat} (hl:TokEnd l) (hll:l.length≤1048576) (hf:n≠30→Dh l (n+1) D.ei):Dh l n (Ds l D):=by
 intro S hi hn
 subst hn
 unfold Ds
 have leaf:∀e:Expr,okE 1 e→sizeE e=1→(A7 l S.i).kind≠0→Fact l S (e,A8 S):=fun e he hs hk=>⟨Nat.le_succ _,hl.step hi hk,rfl,Fh (by omega) he,by show sizeE e≤_;omega⟩
 split
 ·exact ⟨Nat.le_refl _,hi,rfl,Xe (by omega),by show sizeE Ak≤_;rw [Ra];omega⟩
 split
 ·rename_i h
  refine leaf _ (cx (Nat.le_refl _) _) rfl ?_
  rcases Bool.or_eq_true_iff.1 h with h|h
  ·rw [beq_iff_eq] at h;rw [h];decide
  exact o7 h
 split
 ·rename_i h
  rw [beq_iff_eq] at h
  exact leaf _ (cx (Nat.le_refl _) _) rfl (by rw [h];decide)
 split
 ·rename_i h
  rw [beq_iff_eq] at h
  have hk:(A7 l S.i).kind≠0:=by rw [h];decide
  split
  ·rename_i h2
   have hi1:(A8 S).i<l.length:=hl.step hi hk
   have:=ay (S:=A8 S) (D:=D) hl hll (hl.text S.i) (hl.stepIs hi1 h2) hf
   have h3:S.i+1≤(Fb l D (A7 l S.i) (A8 S)).2.i:=this.le
   have h4:sizeE (Fb l D (A7 l S.i) (A8 S)).1≤2*((Fb l D (A7 l S.i) (A8 S)).2.i-(S.i+1))+1:=this.sz
   exact ⟨by omega,this.lt,this.nest,Fh (by show 2*((Fb l D (A7 l S.i) (A8 S)).2.i-(S.i+1))+1≤_;omega) this.ok,by omega⟩
  exact leaf _ (X3 _ (hl.text _)) rfl hk
 split
 ·rename_i h
  have hi1:(A8 S).i<l.length:=hl.stepIs hi h
  have:=H1 (S:=A8 S) (l:=l) (f:=D.ei) (A7 l S.i).at_ hi1 hf
  obtain ⟨w1,w2,w3⟩:=cy (s:=Dp) hl this.lt
  have h3:S.i+1≤(Al (A7 l S.i).at_ D.ei (A8 S)).2.i:=this.le
  have h4:sizeE (Al (A7 l S.i).at_ D.ei (A8 S)).1≤2*((Al (A7 l S.i).at_ D.ei (A8 S)).2.i-(S.i+1))+1:=this.sz
  refine ⟨by show S.i≤(De l Dp _).i;omega,w2,w3.trans this.nest,Fh ?_ this.ok,by show sizeE (Al (A7 l S.i).at_ D.ei (A8 S)).1≤2*((De l Dp (Al (A7 l S.i).at_ D.ei (A8 S)).2).i-S.i)+1;omega⟩
  show 2*((Al (A7 l S.i).at_ D.ei (A8 S)).2.i-(S.i+1))+1≤2*((De l Dp (Al (A7 l S.i).at_ D.ei (A8 S)).2).i-S.i)+1
  omega
 exact Mp (Nat.le_refl _) hi rfl _ _
theorem d7 {l:List Tok} {S:PS} {r:Expr×PS} (h:Fact l (A8 S) r) (op:Int):Fact l S (Dl op r.1,r.2):=by
 have h1:S.i+1≤r.2.i:=h.le
 refine ⟨by show S.i≤r.2.i;omega,h.lt,h.nest,?_,?_⟩
 rotate_left
 ·have s1:sizeE r.1≤2*(r.2.i-(S.i+1))+1:=h.sz
  show sizeE (Dl op r.1)≤2*(r.2.i-S.i)+1
  rw [j7]
  omega
 show okE (2*(r.2.i-S.i)+1) _
 refine ⟨by simp [Dl,Expr.text],by simp [Dl,Expr.kids],fun y hy=>?_⟩
 have hy':y=r.1:=by simpa [Dl,Expr.kids] using hy
 subst hy'
 exact Fh (by show 2*(r.2.i-(S.i+1))+1≤_;omega) h.ok
theorem Nv {l:List Tok} {D:Fam} {n:Nat} (hl:TokEnd l) (hll:l.length≤1048576) (hf:n≠30→Dh l (n+1) D.ei) (hg:n≠30→Dh l (n+1) D.ne):Dh l n (Jm l D):=by
 intro S hi hn
 unfold Jm
 split
 ·exact az hl hll hf S hi hn
 rename_i h
 subst hn
 exact d7 (H1 (S:=A8 S) _ (hl.stepIs hi (by simpa using h)) hg) 3
theorem Tr {l:List Tok} {D:Fam} {n:Nat} (hl:TokEnd l) (hll:l.length≤1048576) (hf:n≠30→Dh l (n+1) D.ei) (hg:n≠30→Dh l (n+1) D.ne):Dh l n (By l D):=F3 hl (F3 hl (Nv hl hll hf hg))
theorem Ld {l:List Tok} {D:Fam} {n:Nat} (hl:TokEnd l) (hll:l.length≤1048576) (hf:n≠30→Dh l (n+1) D.ei) (hg:n≠30→Dh l (n+1) D.ne):Dh l n (Cq l D):=by
 intro S hi hn
 have h1:=Tr hl hll hf hg S hi hn
 unfold Cq
 split
 ·exact h1
 rename_i h
 simp only [Bool.or_eq_true,not_or,Bool.not_eq_true,Bool.not_eq_false'] at h
 exact cz h1 (Tr hl hll hf hg _ (hl.stepIs h1.lt h.2) (h1.nest.trans hn)) hl
theorem Ts {l:List Tok} {D:Fam} {n:Nat} (hl:TokEnd l) (hll:l.length≤1048576) (hf:n≠30→Dh l (n+1) D.ei) (hg:n≠30→Dh l (n+1) D.ne) (hh:n≠30→Dh l (n+1) D.no):Dh l n (Jn l D):=by
 intro S hi hn
 unfold Jn
 split
 ·exact Ld hl hll hf hg S hi hn
 rename_i h
 subst hn
 exact d7 (H1 (S:=A8 S) _ (hl.stepIs hi (by simpa using h)) hh) 4
theorem Nw {l:List Tok} (hl:TokEnd l) (hll:l.length≤1048576):∀(d n:Nat),n+d=31→n≠31→Dh l n (C3 l d).ei∧Dh l n (C3 l d).no∧Dh l n (C3 l d).ne
 | 0,n,h,h2=>by omega
 | d+1,n,h,_=>by
  have ih:n≠30→_:=fun h30=>Nw hl hll d (n+1) (by omega) (by omega)
  have hn:=Ts (D:=C3 l d) (n:=n) hl hll (fun h=>(ih h).1) (fun h=>(ih h).2.2) (fun h=>(ih h).2.1)
  exact ⟨F3 hl (F3 hl hn),hn,Nv hl hll (fun h=>(ih h).1) (fun h=>(ih h).2.2)⟩
abbrev pr (l:List Tok) (S:PS):AObj:=.cells 252 [.slice false 3 (l.map H0),A2 (S.i:Int),A2 (S.nest:Int),A2 S.code,A2 S.at_]
theorem C6 {n:Nat} {l:List Tok} {S:PS}:ObjLow n (pr l S):=by
 show ∀y∈[AV.slice false 3 (l.map H0),A2 (S.i:Int),A2 (S.nest:Int),A2 S.code,A2 S.at_],Low n y
 intro y hy
 simp only [List.mem_cons,List.not_mem_nil,or_false] at hy
 rcases hy with rfl|rfl|rfl|rfl|rfl
 ·simp [or_imp,forall_and]
 all_goals simp
theorem Xh (o:Int) (t:Str) (v:Val):Le (.agg [A2 o,A9 t,A2 v.kind,A2 v.n,A9 v.s,.nil]) (A5 (.mk o t v [])):=by
 rw [Ab]
 refine .agg _ _ rfl (by simp [AV.one,Value.oneCell',sv]) fun i y y' h1 h2=>?_
 match i with
 | 0=>simp at h1 h2;subst h1;subst h2;exact .inl rfl
 | 1=>simp at h1 h2;subst h1;subst h2;exact .inl rfl
 | 2=>simp at h1 h2;subst h1;subst h2;exact .inl rfl
 | 3=>simp at h1 h2;subst h1;subst h2;exact .inl rfl
 | 4=>simp at h1 h2;subst h1;subst h2;exact .inl rfl
 | 5=>simp at h1 h2;subst h1;subst h2;exact .inr ⟨rfl,6,rfl⟩
 | i+6=>simp at h1
theorem Rd:Le (.agg [A2 0,A9 [],A2 0,A2 0,A9 [],.nil]) (A5 Ak):=Xh 0 [] noV
theorem AB1 (l:List Tok) (S:PS) (o:Nat) (Hp:List AObj) (ho:Hp[o]? = some (pr l S)) (hi:S.i<l.length):AFun Tryz.prog 269 [.ptr o 0] Hp (H0 (A7 l S.i)):=by
 refine ACall.body [.cell 2 130] [0] Tryz.func269 Tryz.ntmps269 (fun d=>?_)
 refine zz ?_;refine Z37 ?_
 refine D.go (h:=Q.loadUp ho) (hr:=?_)
 refine Z37 ?_
 refine D.go (h:=Q.loadUp ho) (hr:=?_)
 refine D.tail ?_
 refine R.go (h:=Q.indexAddr (S.i) (H0 (A7 l S.i)) (fun _=>Nm hi)) (hr:=?_)
 refine R.go ?_;exact wj

theorem Xi (l:List Tok) (S:PS) (of:Str) (o:Nat) (Hp:List AObj) (ho:Hp[o]? = some (pr l S)) (hi:S.i<l.length) (hl:TokEnd l) (hof:of.length≤1048576):AFun Tryz.prog 251 [.ptr o 0,A9 of] Hp (At (isM l of S)):=by
 refine ACall.body [.tmp 4] [0,1] Tryz.func251 Tryz.ntmps251 (fun d=>?_)
 refine Z51 ?_;refine wi ?_;refine Z21 ?_;refine R.fin [1,5] ?_;refine Z19 ?_;refine Z97 ?_;refine Z41 ?_;refine G.call Tryz.call120 (fun hB=>AAx (A7 l S.i).text of (hl.text _) hof _) ?_;exact sa

theorem o8 (l:List Tok) (S:PS) (o:Nat) (Hp:List AObj) (ho:Hp[o]? = some (pr l S)) (hi:S.i<l.length) (hll:l.length≤1048576):ACall Tryz.prog 252 [.ptr o 0] Hp (fun r H'=>r=H0 (A7 l S.i)∧H'=Hp.set o (pr l (A8 S))):=by
 refine ACall.body [.cell 2 130] [0] Tryz.func252 Tryz.ntmps252 (fun d=>?_)
 refine Z52 ?_;refine wi ?_;refine Wh ?_;refine Z13 ?_
 refine R.go (h:=Q.loadUp ho) (hr:=?_)
 refine Z29 ?_
 refine R.storeUp jS ho ?_ ?_
 ·simp
 refine Hl ?_;refine Z2 ?_;exact wj

theorem j8 (l:List Tok) (S:PS) (e a:Int) (o:Nat) (Hp:List AObj) (ho:Hp[o]? = some (pr l S)):ACall Tryz.prog 215 [.ptr o 0,A2 e,A2 a] Hp (fun r H'=>r=A5 Ak∧H'=Hp.set o (pr l (Co e a S))):=by
 refine ACall.body [.cell 6 103] [0,1,2] Tryz.func215 Tryz.ntmps215 (fun d=>?_)
 refine rx ?_;refine Z48 ?_
 refine R.go (h:=Q.loadUp ho) (hr:=?_)
 refine R.go ?_;refine R.fin [0,1,2,6,12] ?_
 refine W.cond (fun ht12=>?_) (fun ht12=>?_)
 ·have e:Co e a S=⟨S.i,S.nest,e,a⟩:=if_pos ht12
  refine Pc ?_;refine V3 ?_;refine Z0 ?_
  refine R.storeUp jS ho ?_ ?_
  ·simp
  refine R.fin [6] ?_;refine K.thN ?_;refine vz ?_;refine R.wk 19 _ Rd ?_;refine Zb ?_;exact K.fin (V.one (V.cellN jA jS)) ⟨rfl,by rw [e]⟩ (hlow:=Ad _ Ak)
 have e:Co e a S=S:=if_neg (by rw [ht12];simp)
 refine Z6 ?_;refine vz ?_;refine R.wk 19 _ Rd ?_;refine Zb ?_;exact K.fin (V.one (V.cellN jA jS)) ⟨rfl,by rw [e];exact (Ej ho).symm⟩ (hlow:=Ad _ Ak)

theorem AB2 (v:Val) (Hp:List AObj):AFun Tryz.prog 285 [Am v] Hp (A5 (Gm v)):=by
 refine ACall.body [.cell 2 103] [0] Tryz.func285 Tryz.ntmps285 (fun d=>?_)
 refine Z2 ?_;refine L3 ?_;refine R.fin [1,2] ?_;refine Z2 ?_;refine mj ?_;refine R.wk 4 _ (Xh 1 [] v) ?_;refine Z11 ?_;exact K.fin (V.one (V.cellN jA jS)) ⟨rfl,rfl⟩ (hlow:=Ad _ (Gm v))

theorem AB3 (l:List Tok) (S:PS) (s:Str) (o:Nat) (Hp:List AObj) (ho:Hp[o]? = some (pr l S)) (hi:S.i<l.length) (hll:l.length≤1048576):ACall Tryz.prog 287 [.ptr o 0,A9 s] Hp (fun r H'=>r=.v (.tuple #[])∧H'=Hp.set o (pr l (De l s S))):=by
 refine ACall.body [] [0,1] Tryz.func287 Tryz.ntmps287 (fun d=>?_)
 refine Z48 ?_
 refine R.go (h:=Q.loadUp ho) (hr:=?_)
 refine R.go ?_;refine R.fin [0,1,10] ?_
 refine W.cond (fun ht10=>?_) (fun ht10=>?_)
 ·have e:De l s S=S:=if_pos ht10
  refine Z84 ?_;exact K.fin .nores (hp:=⟨rfl,by rw [e];exact (Ej ho).symm⟩)
 have e0:¬(S.code != 0)=true:=by rw [ht10];simp
 refine Q9 ?_;refine R.call Tryz.call269 (AB1 l S o _ (A6 ho) hi) ?_;refine Z21 ?_;refine R.fin [0,1,4] ?_;refine Z19 ?_;refine Z95 ?_;refine R.go ?_;refine R.fin [0,4,21] ?_
 refine W.cond (fun ht21=>?_) (fun ht21=>?_)
 ·have e:De l s S=Co 8 (A7 l S.i).at_ S:=by unfold De;rw [if_neg e0,if_pos ht21]
  refine zq ?_;refine R.fin [] ?_;refine Z84 ?_;exact K.fin .nores (hp:=⟨rfl,by rw [e]⟩)
 have e:De l s S=A8 S:=by unfold De;rw [if_neg e0,if_neg (by rw [ht21];simp)]
 refine Z6 ?_;refine Pc ?_
 refine R.go (h:=Q.loadUp ho) (hr:=?_)
 refine Z29 ?_
 refine R.storeUp jS ho ?_ ?_
 ·simp
 refine R.fin [] ?_;exact K.finN .nores (hp:=⟨rfl,by rw [e];rfl⟩)

/-- The contract of one of the parser's functions. -/
def PC (g:FuncId) (l:List Tok) (f:PS→Expr×PS) (n:Nat):Prop:=∀(o:Nat) (Hp:List AObj) (S:PS),Hp[o]? = some (pr l S)→S.i<l.length→S.nest=n→ACall Tryz.prog g [.ptr o 0] Hp (fun r H'=>r=A5 (f S).1∧H'=Hp.set o (pr l (f S).2))
abbrev I8:AObj:=.cells 103 [A2 0,A9 [],A2 0,A2 0,A9 [],.nil]
theorem d8 {n:Nat}:ObjLow n I8:=by
 show ∀y∈[A2 0,A9 [],A2 0,A2 0,A9 [],AV.nil],Low n y
 simp
theorem tg {n:Nat} (e:Expr):ObjLow n (.cells 103 (E5 e)):=by
 have h:=Ad n e
 rw [Ab] at h
 show ∀y∈E5 e,Low n y
 intro y hy
 cases h with
 | agg _ h=>exact h y hy
theorem th (l:List Tok) (S:PS) (a:Int) (g:FuncId) (first caps:List AV) (x:Expr) (S2:PS) (o:Nat) (Hp Hx:List AObj) (ho:Hp[o]? = some (pr l S)) (hnl:S.nest≤1048576) (hgc:∀args w,(callFunc g args).run Tryz.prog w=.ok (.enter g args) w) (hxl:Hx.length=Hp.length) (hxo:Hx[o]? = some (pr l S2)) (hn2:S2.nest=S.nest+1) (hlow:(∀y∈Hp.set o (pr l (Bj S)),ObjLow Hp.length y)→∀y∈Hx,ObjLow Hp.length y) (hcf:S.nest≠30→∀own,ACall Tryz.prog g (first++caps) (Hp.set o (pr l (Bj S))++own) (fun y H'=>y=A5 x∧H'=Hx++own)):ACall Tryz.prog 271 [.ptr o 0,A2 a,.fn (.func g) first caps] Hp (fun r H'=>(S.nest=30→r=A5 Ak∧H'=Hp.set o (pr l (Co 18 a S)))∧(S.nest≠30→r=A5 x∧H'=Hx.set o (pr l (To S2)))):=by
 refine ACall.body [.cell 6 103] [0,1,2] Tryz.func271 Tryz.ntmps271 (fun d=>?_)
 refine rx ?_;refine Z30 ?_
 refine R.go (h:=Q.loadUp ho) (hr:=?_)
 refine R.go ?_;refine R.fin [0,1,2,6,12] ?_
 refine W.cond (fun ht12=>?_) (fun ht12=>?_)
 ·have hn30:S.nest=30:=by have:=ht12;simp at this;omega
  refine Z1 ?_;refine R.callUp Tryz.call215 ho (by simp) C6 (j8 l S 18 a o _ (A6 ho)) ?_;refine Zb ?_;refine K.thR ?_;exact K.fin (V.one (V.cellN jA jS)) ⟨fun _=>⟨by rw [Ab],rfl⟩,fun h=>absurd hn30 h⟩ (hlow:=by have:=Ad Hp.length Ak;rw [Ab] at this;simpa using this)
 have hn30:S.nest≠30:=by have:=ht12;simp at this;omega
 refine Mb ?_
 refine R.go (h:=Q.loadUp ho) (hr:=?_)
 refine Z29 ?_
 refine R.storeUp jS ho ?_ ?_
 ·simp
 refine R.fin [0,2,6] ?_;refine Z2 ?_
 refine R.callVX (up':=Hx) (own':=[I8]) hgc (hcf hn30 [I8]) (by simpa using hxl) (by rw [List.length_set];exact hlow) ?_
 rw [←hxl]
 refine Z21 ?_;refine R.fin [0,6,7] ?_;refine Z13 ?_
 refine R.go (h:=Q.loadUp hxo) (hr:=?_)
 refine Z29 ?_
 refine R.storeUp jS hxo ?_ ?_
 ·simp
 refine R.fin [6,7] ?_;refine Z2 ?_;refine Zb ?_;exact K.fin (V.one (V.cellN jA jS)) ⟨fun h=>absurd h hn30,fun _=>⟨by rw [Ab],by rw [show ((S2.nest:Int)-1)=((To S2).nest:Int) by show _=((S2.nest-1:Nat):Int);omega];rfl⟩⟩ (hlow:=by have:=Ad Hx.length x;rw [Ab] at this;simpa using this)

theorem j9 (t:Str) (a b:Expr):E5 (Eg t a b)=[A2 5,.v (sv t),A2 0,A2 0,A9 [],.slice false 6 [A5 a,A5 b]]:=rfl
theorem tj {n:Nat} (t:Str) (a b:Expr):ObjLow n (.cells 103 [A2 5,.v (sv t),A2 0,A2 0,A9 [],.slice false 6 [A5 a,A5 b]]):=tg (Eg t a b)
theorem tm {n:Nat} {U:List AObj} {i:Nat} {x:AObj} (h:∀y∈U,ObjLow n y) (hx:ObjLow n x):∀y∈U.set i x,ObjLow n y:=by
 intro y hy
 rcases List.mem_or_eq_of_mem_set hy with h1|h1
 ·exact h y h1
 rw [h1];exact hx
/-- within, with a method's value. -/
theorem o9 {g:FuncId} (hgc:∀args w,(callFunc g args).run Tryz.prog w=.ok (.enter g args) w) (l:List Tok) (S:PS) (a:Int) (f:PS→Expr×PS) (o:Nat) (Hp:List AObj) (ho:Hp[o]? = some (pr l S)) (hi:S.i<l.length) (hnl:S.nest≤30) (hf:S.nest≠30→Dh l (S.nest+1) f) (hcf:S.nest≠30→PC g l f (S.nest+1)):
  ACall Tryz.prog 271 [.ptr o 0,A2 a,.fn (.func g) [.ptr o 0] []] Hp (fun r H'=>r=A5 (Al a f S).1∧H'=Hp.set o (pr l (Al a f S).2)):=by
 have hlt:=(List.getElem?_eq_some_iff.1 ho).1
 by_cases h30:S.nest=30
 ·refine (th l S a g [.ptr o 0] [] Ak (Bj S) o Hp (Hp.set o (pr l (Bj S))) ho (by omega) hgc (by simp) (by simp [hlt]) rfl (fun h=>h) (fun h=>absurd h30 h)).mono fun r H' h=>?_
  have e:Al a f S=(Ak,Co 18 a S):=if_pos (by rw [h30];rfl)
  rw [e]
  exact h.1 h30
 have hq:=hf h30 (Bj S) hi rfl
 refine (th l S a g [.ptr o 0] [] (f (Bj S)).1 (f (Bj S)).2 o Hp (Hp.set o (pr l (f (Bj S)).2)) ho (by omega) hgc (by simp) (by simp [hlt]) hq.nest (fun h y hy=>?_) (fun _ own=>?_)).mono fun r H' h=>?_
 ·rcases List.mem_or_eq_of_mem_set hy with h1|h1
  ·obtain ⟨i,hi',rfl⟩:=List.getElem_of_mem h1
   by_cases hio:i=o
   ·subst hio
    have:Hp[i]=pr l S:=by rw [List.getElem?_eq_getElem hi'] at ho;injection ho
    rw [this];exact C6
   refine h _ ?_
   rw [List.mem_iff_getElem?]
   exact ⟨i,by rw [List.getElem?_set_ne (Ne.symm hio),List.getElem?_eq_getElem hi']⟩
  rw [h1];exact C6
 ·have hg:(Hp.set o (pr l (Bj S))++own)[o]? = some (pr l (Bj S)):=A6 (by simp [hlt])
  refine (hcf h30 o (Hp.set o (pr l (Bj S))++own) (Bj S) hg hi rfl).mono fun r H' h=>⟨h.1,h.2.trans ?_⟩
  rw [List.set_append_left _ _ (by simpa using hlt),List.set_set]
 have e:Al a f S=((f (Bj S)).1,To (f (Bj S)).2):=if_neg (by
  show ¬(((S.nest:Int)==30)=true)
  simp
  omega)
 rw [e]
 obtain ⟨h1,h2⟩:=h.2 h30
 exact ⟨h1,by rw [h2,List.set_set]⟩
theorem c233 {g:FuncId} (hgc:∀args w,(callFunc g args).run Tryz.prog w=.ok (.enter g args) w) (l:List Tok) (S:PS) (of:Str) (hof:of.length≤1048576) (f:PS→Expr×PS) (o:Nat) (Hp:List AObj) (ho:Hp[o]? = some (pr l S)) (hi:S.i<l.length) (hl:TokEnd l) (hll:l.length≤1048576) (hf:Dh l S.nest f) (hcf:PC g l f S.nest):ACall Tryz.prog 233 [.ptr o 0,A9 of,.fn (.func g) [.ptr o 0] []] Hp (fun r H'=>r=A5 (Dr l of f S).1∧H'=Hp.set o (pr l (Dr l of f S).2)):=by
 have holt:=(List.getElem?_eq_some_iff.1 ho).1
 refine ACall.body [.cell 6 103] [0,1,2] Tryz.func233 Tryz.ntmps233 (fun d=>?_)
 refine rx ?_;refine Z2 ?_;refine R.callVUp hgc ho (by simp) C6 (hcf o _ S (A6 ho) hi rfl) ?_;refine Z21 ?_;refine R.fin [0,1,2,6,7] ?_;refine W.seq ?_
 refine AW.loopC (α:=Expr×PS) (fun r=>⟨32,A3 0 (.ptr o 0) (A3 1 (A9 of) (A3 2 (.fn (.func g) [.ptr o 0] []) (A3 6 (.ptr (oid Hp.length 0) 0) (A3 7 (.ptr (oid Hp.length 1) 0) (fun _=>.any))))),Hp.set o (pr l r.2),[.cells 103 [A2 0,A9 [],A2 0,A2 0,A9 [],.nil],.cells 103 (E5 r.1)],[],none⟩) (fun r=>LeftAt l of f S r) (fun r=>l.length-r.2.i) (f S) (.start (hf S hi rfl)) (StLe.of_eq (by simp)) rfl (fun r hx=>?_)
 refine Z48 ?_
 refine R.go (h:=Q.loadUp (getset ho)) (hr:=?_)
 refine Z62 ?_;refine G.call Tryz.call251 (fun hB=>Xi l r.2 of o _ (A6 (getset ho)) hx.fact.lt hl hof) ?_;refine R.go ?_;refine R.fin [0,1,2,6,7,21] ?_
 refine W.cond (fun ht21=>?_) (fun ht21=>?_)
 ·have hon:=hx.on hl ht21 hf
  have hle:=hon.2.1.le
  have hlt0:=hx.fact.lt
  have hU1:(Hp.set o (pr l r.2)).set o (pr l (A8 r.2))=Hp.set o (pr l (A8 r.2)):=List.set_set ..
  refine Z6 ?_;refine Gx ?_;refine Z2 ?_;refine R.callUp Tryz.call252 (getset ho) (by simp) C6 (o8 l r.2 o _ (A6 (getset ho)) hx.fact.lt hll) ?_;refine Z21 ?_;refine R.fin [0,1,2,6,7,8] ?_;refine W.drawY0 [0,1,0,0,8,28,63,127] [4] [.q 4 [] [],.s [28] (some 0) [] [],.q 1 [0] []] (fun B=>Hp.set o (if B 0=true then pr l (f (A8 r.2)).2 else pr l (A8 r.2))) (fun _=>[.cells 103 [A2 0,A9 [],A2 0,A2 0,A9 [],.nil],.cells 103 (E5 r.1),.cells 130 [A2 (A7 l r.2.i).kind,A9 (A7 l r.2.i).text,A2 (A7 l r.2.i).at_]]) Aa (by kernel_rfl) (by simp [List.set_set]) rfl (fun B=>by simp) ?_
  apply Y.q
  case h1 =>
   intro B hT hF
   exact m0
  case hTF=>decide
  refine Y.callVUp (r:=A5 (f (A8 r.2)).1) (o:=o) (x0:=pr l (A8 r.2)) (x:=pr l (f (A8 r.2)).2) hgc (fun B hT hF hB=>⟨by simp only [hB];exact getset ho,by simp [upd],rfl,C6,?_⟩) ?_
  ·simp only [hB]
   exact hcf o _ (A8 r.2) (A6 (getset ho)) hon.1 hx.fact.nest
  apply Y.q
  case h1 =>
   intro B hT hF
   exact Z44
  case hTF=>decide
  refine Y.tail (tn:=[4]) (U:=Hp.set o (pr l (f (A8 r.2)).2)) ?_;refine zr ?_;refine R.fin [0,1,2,6,7] ?_;refine K.blN ?_
  refine K.lpN (Eg (A7 l r.2.i).text r.1 (f (A8 r.2)).1,(f (A8 r.2)).2) hon.2.2 (by show l.length-(f (A8 r.2)).2.i<l.length-r.2.i;have:r.2.i+1≤(f (A8 r.2)).2.i:=hle;omega) ?_
  simp only [j9]
  have hlow2:=fun n=>tj (n:=n) (A7 l r.2.i).text r.1 (f (A8 r.2)).1
  simp only [Ab] at hlow2 ⊢
  exact StCut.take (fun _=>.refl _) (by repeat (first|exact Aq|refine Ap (by simp [oid]<;>omega) ?_)) (by intro y hy;rcases List.mem_cons.1 hy with rfl|hy;exact d8;rw [List.mem_singleton.1 hy];exact hlow2 _) (by simp)
 have hout:=hx.out (by rw [ht21];simp)
 refine Z98 ?_;refine Z2 ?_;refine Zb ?_;exact K.fin (V.one (V.cellN jA jS)) ⟨by rw [hout,Ab],by rw [hout]⟩ (hlow:=by have:=Ad (Hp.set o (pr l r.2)).length r.1;rw [Ab] at this;simpa using this)

theorem c213 (l:List Tok) (S:PS) (f:PS→Expr×PS) (o:Nat) (Hp:List AObj) (ho:Hp[o]? = some (pr l S)) (hi:S.i<l.length) (hl:TokEnd l) (hll:l.length≤1048576) (hf:Dh l S.nest f) (hcf:PC 234 l f S.nest):ACall Tryz.prog 213 [.ptr o 0] Hp (fun r H'=>r=A5 (Dr l orT f S).1∧H'=Hp.set o (pr l (Dr l orT f S).2)):=by
 refine ACall.body [.cell 2 103] [0] Tryz.func213 Tryz.ntmps213 (fun d=>?_)
 refine Z52 ?_;refine Z1 ?_;refine R.makeFunc ?_;refine R.callUp Tryz.call233 ho (by simp) C6 (c233 Tryz.call234 l S orT (by decide) f o _ (A6 ho) hi hl hll hf hcf) ?_;refine Z11 ?_;exact K.fin (V.one (V.cellN jA jS)) ⟨by rw [Ab],rfl⟩ (hlow:=by have:=Ad Hp.length (Dr l orT f S).1;rw [Ab] at this;simpa using this)

theorem ACn (l:List Tok) (S:PS) (f:PS→Expr×PS) (o:Nat) (Hp:List AObj) (ho:Hp[o]? = some (pr l S)) (hi:S.i<l.length) (hl:TokEnd l) (hll:l.length≤1048576) (hf:Dh l S.nest f) (hcf:PC 253 l f S.nest):ACall Tryz.prog 234 [.ptr o 0] Hp (fun r H'=>r=A5 (Dr l iy f S).1∧H'=Hp.set o (pr l (Dr l iy f S).2)):=by
 refine ACall.body [.cell 2 103] [0] Tryz.func234 Tryz.ntmps234 (fun d=>?_)
 refine Z52 ?_;refine Z1 ?_;refine R.makeFunc ?_;refine R.callUp Tryz.call233 ho (by simp) C6 (c233 Tryz.call253 l S iy (by decide) f o _ (A6 ho) hi hl hll hf hcf) ?_;refine Z11 ?_;exact K.fin (V.one (V.cellN jA jS)) ⟨by rw [Ab],rfl⟩ (hlow:=by have:=Ad Hp.length (Dr l iy f S).1;rw [Ab] at this;simpa using this)

theorem ACo (l:List Tok) (S:PS) (f:PS→Expr×PS) (o:Nat) (Hp:List AObj) (ho:Hp[o]? = some (pr l S)) (hi:S.i<l.length) (hl:TokEnd l) (hll:l.length≤1048576) (hf:Dh l S.nest f) (hcf:PC 282 l f S.nest):ACall Tryz.prog 279 [.ptr o 0] Hp (fun r H'=>r=A5 (Dr l j4 f S).1∧H'=Hp.set o (pr l (Dr l j4 f S).2)):=by
 refine ACall.body [.cell 2 103] [0] Tryz.func279 Tryz.ntmps279 (fun d=>?_)
 refine Z52 ?_;refine Z1 ?_;refine R.makeFunc ?_;refine R.callUp Tryz.call233 ho (by simp) C6 (c233 Tryz.call282 l S j4 (by decide) f o _ (A6 ho) hi hl hll hf hcf) ?_;refine Z11 ?_;exact K.fin (V.one (V.cellN jA jS)) ⟨by rw [Ab],rfl⟩ (hlow:=by have:=Ad Hp.length (Dr l j4 f S).1;rw [Ab] at this;simpa using this)

theorem ACp (l:List Tok) (S:PS) (f:PS→Expr×PS) (o:Nat) (Hp:List AObj) (ho:Hp[o]? = some (pr l S)) (hi:S.i<l.length) (hl:TokEnd l) (hll:l.length≤1048576) (hf:Dh l S.nest f) (hcf:PC 283 l f S.nest):ACall Tryz.prog 282 [.ptr o 0] Hp (fun r H'=>r=A5 (Dr l Tp f S).1∧H'=Hp.set o (pr l (Dr l Tp f S).2)):=by
 refine ACall.body [.cell 2 103] [0] Tryz.func282 Tryz.ntmps282 (fun d=>?_)
 refine Z52 ?_;refine Z1 ?_;refine R.makeFunc ?_;refine R.callUp Tryz.call233 ho (by simp) C6 (c233 Tryz.call283 l S Tp (by decide) f o _ (A6 ho) hi hl hll hf hcf) ?_;refine Z11 ?_;exact K.fin (V.one (V.cellN jA jS)) ⟨by rw [Ab],rfl⟩ (hlow:=by have:=Ad Hp.length (Dr l Tp f S).1;rw [Ab] at this;simpa using this)

/-- What is so of the functions one nest deeper. -/
structure DeepC (l:List Tok) (Dv:Fam) (n:Nat):Prop where
 ei:n≠30→Dh l (n+1) Dv.ei∧PC 213 l Dv.ei (n+1)
 no:n≠30→Dh l (n+1) Dv.no∧PC 253 l Dv.no (n+1)
 ne:n≠30→Dh l (n+1) Dv.ne∧PC 283 l Dv.ne (n+1)
theorem Po (op:Int) (x:Expr):A5 (Dl op x)=.agg [A2 op,A9 [],A2 0,A2 0,A9 [],.slice false 6 [A5 x]]:=by rw [Ab];rfl
theorem d9 (t:Str) (a b:Expr):A5 (Eg t a b)=.agg [A2 5,.v (sv t),A2 0,A2 0,A9 [],.slice false 6 [A5 a,A5 b]]:=by rw [Ab];rfl
theorem low_agg {n:Nat} (e:Expr):Low n (.agg [.v (.int .i64 e.op),.v (sv e.text),.v (.int .i64 e.val.kind),.v (.int .i64 e.val.n),.v (sv e.val.s),.slice false 6 (e.kids.map A5)]):=by
 have:=Ad n e
 rwa [Ab] at this
theorem ACq (l:List Tok) (S:PS) (Dv:Fam) (o:Nat) (Hp:List AObj) (ho:Hp[o]? = some (pr l S)) (hi:S.i<l.length) (hl:TokEnd l) (hll:l.length≤1048576) (hnl:S.nest≤30) (hd:DeepC l Dv S.nest) (hc:PC 284 l (Ds l Dv) S.nest):ACall Tryz.prog 283 [.ptr o 0] Hp (fun r H'=>r=A5 (Jm l Dv S).1∧H'=Hp.set o (pr l (Jm l Dv S).2)):=by
 refine ACall.body [.cell 2 103] [0] Tryz.func283 Tryz.ntmps283 (fun d=>?_)
 refine Z52 ?_;refine Z36 ?_;refine R.call Tryz.call251 (Xi l S xp o _ (A6 ho) hi hl (by decide)) ?_;refine R.go ?_;refine R.fin [0,2,6] ?_
 refine W.cond (fun ht6=>?_) (fun ht6=>?_)
 ·have e:Jm l Dv S=Ds l Dv S:=if_pos ht6
  refine Z2 ?_;refine R.callUp Tryz.call284 ho (by simp) C6 (hc o _ S (A6 ho) hi rfl) ?_;refine Z11 ?_;exact Z70
 have his:isM l xp S=true:=by simpa using ht6
 have hi1:(A8 S).i<l.length:=hl.stepIs hi his
 have e:Jm l Dv S=(Dl 3 (Al (A7 l S.i).at_ Dv.ne (A8 S)).1,(Al (A7 l S.i).at_ Dv.ne (A8 S)).2):=if_neg (by rw [ht6];simp)
 refine Z6 ?_;refine Z58 ?_;refine Wh ?_;refine Z19 ?_;refine R.makeFunc ?_;refine R.callUp Tryz.call271 (getset ho) (by simp) C6 (o9 Tryz.call283 l (A8 S) (A7 l S.i).at_ Dv.ne o _ (A6 (getset ho)) hi1 hnl (fun h=>(hd.ne h).1) (fun h=>(hd.ne h).2)) ?_;refine Lo ?_;refine w7 ?_;exact K.fin (V.one (V.cellN jA jS)) ⟨by rw [e,Po];simp only [Ab],by rw [e,List.set_set]⟩ (hlow:=by have:=Ad Hp.length (Dl 3 (Al (A7 l S.i).at_ Dv.ne (A8 S)).1);rw [Po] at this;simp only [Ab] at this;simpa only [List.length_set] using this)

theorem ACr (l:List Tok) (S:PS) (Dv:Fam) (o:Nat) (Hp:List AObj) (ho:Hp[o]? = some (pr l S)) (hi:S.i<l.length) (hl:TokEnd l) (hll:l.length≤1048576) (hnl:S.nest≤30) (hd:DeepC l Dv S.nest) (hc:PC 270 l (Cq l Dv) S.nest):ACall Tryz.prog 253 [.ptr o 0] Hp (fun r H'=>r=A5 (Jn l Dv S).1∧H'=Hp.set o (pr l (Jn l Dv S).2)):=by
 refine ACall.body [.cell 2 103] [0] Tryz.func253 Tryz.ntmps253 (fun d=>?_)
 refine Z52 ?_;refine Z36 ?_;refine R.call Tryz.call251 (Xi l S xn o _ (A6 ho) hi hl (by decide)) ?_;refine R.go ?_;refine R.fin [0,2,6] ?_
 refine W.cond (fun ht6=>?_) (fun ht6=>?_)
 ·have e:Jn l Dv S=Cq l Dv S:=if_pos ht6
  refine Z2 ?_;refine R.callUp Tryz.call270 ho (by simp) C6 (hc o _ S (A6 ho) hi rfl) ?_;refine Z11 ?_;exact Z70
 have his:isM l xn S=true:=by simpa using ht6
 have hi1:(A8 S).i<l.length:=hl.stepIs hi his
 have e:Jn l Dv S=(Dl 4 (Al (A7 l S.i).at_ Dv.no (A8 S)).1,(Al (A7 l S.i).at_ Dv.no (A8 S)).2):=if_neg (by rw [ht6];simp)
 refine Z6 ?_;refine Z58 ?_;refine Wh ?_;refine Z19 ?_;refine R.makeFunc ?_;refine R.callUp Tryz.call271 (getset ho) (by simp) C6 (o9 Tryz.call253 l (A8 S) (A7 l S.i).at_ Dv.no o _ (A6 (getset ho)) hi1 hnl (fun h=>(hd.no h).1) (fun h=>(hd.no h).2)) ?_;refine Lo ?_;refine w7 ?_;exact K.fin (V.one (V.cellN jA jS)) ⟨by rw [e,Po];simp only [Ab],by rw [e,List.set_set]⟩ (hlow:=by have:=Ad Hp.length (Dl 4 (Al (A7 l S.i).at_ Dv.no (A8 S)).1);rw [Po] at this;simp only [Ab] at this;simpa only [List.length_set] using this)

theorem ACs (l:List Tok) (S:PS) (Dv:Fam) (o:Nat) (Hp:List AObj) (ho:Hp[o]? = some (pr l S)) (hi:S.i<l.length) (hl:TokEnd l) (hll:l.length≤1048576) (hnl:S.nest≤30) (hd:DeepC l Dv S.nest) (hg:Dh l S.nest (By l Dv)) (hc:PC 279 l (By l Dv) S.nest):ACall Tryz.prog 270 [.ptr o 0] Hp (fun r H'=>r=A5 (Cq l Dv S).1∧H'=Hp.set o (pr l (Cq l Dv S).2)):=by
 have hq:=hg S hi rfl
 refine ACall.body [.cell 2 103] [0] Tryz.func270 Tryz.ntmps270 (fun d=>?_)
 refine Z52 ?_;refine Z2 ?_;refine R.callUp Tryz.call279 ho (by simp) C6 (hc o _ S (A6 ho) hi rfl) ?_;refine Wh ?_;refine Z48 ?_
 refine R.go (h:=Q.loadUp (getset ho)) (hr:=?_)
 refine V1 ?_;refine G.call Tryz.call251 (fun hB=>Xi l (By l Dv S).2 iz o _ (A6 (getset ho)) hq.lt hl (by decide)) ?_;refine Z93 ?_;refine R.fin [0,2,3,17] ?_
 refine W.cond (fun ht17=>?_) (fun ht17=>?_)
 ·have e:Cq l Dv S=By l Dv S:=if_pos ht17
  refine Z2 ?_;refine Z11 ?_;exact Z70
 have his:isM l iz (By l Dv S).2=true:=by
  have:=ht17
  simp only [Bool.or_eq_false_iff,Bool.not_eq_false'] at this
  exact this.2
 have hi1:(A8 (By l Dv S).2).i<l.length:=hl.stepIs hq.lt his
 have e:Cq l Dv S=(Eg (A7 l (By l Dv S).2.i).text (By l Dv S).1 (By l Dv (A8 (By l Dv S).2)).1,(By l Dv (A8 (By l Dv S).2)).2):=if_neg (by rw [ht17];simp)
 refine Z99 ?_;refine R.callUp Tryz.call252 (getset ho) (by simp) C6 (o8 l (By l Dv S).2 o _ (A6 (getset ho)) hq.lt hll) ?_;refine Z21 ?_;refine R.fin [0,2,3,4] ?_;refine W.drawY [0,1,0,0,8,28,63,127] [4] [.q 4 [] [],.s [25] (some 0) [] [],.q 1 [0] []] (fun B=>Hp.set o (if B 0=true then pr l (By l Dv (A8 (By l Dv S).2)).2 else pr l (A8 (By l Dv S).2))) (fun _=>[.cells 103 [A2 0,A9 [],A2 0,A2 0,A9 [],.nil],.cells 103 (E5 (By l Dv S).1),.cells 130 [A2 (A7 l (By l Dv S).2.i).kind,A9 (A7 l (By l Dv S).2.i).text,A2 (A7 l (By l Dv S).2.i).at_]]) Aa (by kernel_rfl) (by simp [List.set_set]) rfl (fun B=>by simp) ?_
 apply Y.q
 case h1 =>
  intro B hT hF
  exact m0
 case hTF=>decide
 refine Y.callUp (r:=A5 (By l Dv (A8 (By l Dv S).2)).1) (o:=o) (x0:=pr l (A8 (By l Dv S).2)) (x:=pr l (By l Dv (A8 (By l Dv S).2)).2) Tryz.call279 (fun B hT hF hB=>⟨by simp only [hB];exact getset ho,by simp [upd],rfl,C6,?_⟩) ?_
 ·simp only [hB]
  exact hc o _ (A8 (By l Dv S).2) (A6 (getset ho)) hi1 hq.nest
 apply Y.q
 case h1 =>
  intro B hT hF
  exact Z44
 case hTF=>decide
 refine Y.tail (tn:=[4]) (U:=Hp.set o (pr l (By l Dv (A8 (By l Dv S).2)).2)) ?_;refine w7 ?_;exact K.fin (V.one (V.cellN jA jS)) ⟨by rw [e,d9];simp only [Ab],by rw [e]⟩ (hlow:=by have:=Ad Hp.length (Eg (A7 l (By l Dv S).2.i).text (By l Dv S).1 (By l Dv (A8 (By l Dv S).2)).1);rw [d9] at this;simp only [Ab] at this;simpa only [List.length_set] using this)

/-- The contract of the parser of calls. -/
def Xj (l:List Tok) (Dv:Fam) (n:Nat):Prop:=∀(o:Nat) (Hp:List AObj) (S:PS) (t:Tok),Hp[o]? = some (pr l S)→(A8 S).i<l.length→S.nest=n→t.text.length≤1048576→isM l opT S=true→ACall Tryz.prog 286 [.ptr o 0,H0 t] Hp (fun r H'=>r=A5 (Fb l Dv t S).1∧H'=Hp.set o (pr l (Fb l Dv t S).2))
theorem oa:A5 Ak=.agg [A2 0,A9 [],A2 0,A2 0,A9 [],.slice false 6 []]:=by rw [Ab];rfl
theorem ACt (l:List Tok) (S:PS) (Dv:Fam) (o:Nat) (Hp:List AObj) (ho:Hp[o]? = some (pr l S)) (hi:S.i<l.length) (hl:TokEnd l) (hll:l.length≤1048576) (hnl:S.nest≤30) (hd:DeepC l Dv S.nest) (hcl:Xj l Dv S.nest):ACall Tryz.prog 284 [.ptr o 0] Hp (fun r H'=>r=A5 (Ds l Dv S).1∧H'=Hp.set o (pr l (Ds l Dv S).2)):=by
 refine ACall.body [.cell 2 103] [0] Tryz.func284 Tryz.ntmps284 (fun d=>?_)
 refine Z52 ?_;refine wi ?_;refine Wh ?_;refine Z48 ?_
 refine R.go (h:=Q.loadUp ho) (hr:=?_)
 refine R.go ?_;refine R.fin [0,2,3,14] ?_
 refine W.cond (fun ht14=>?_) (fun ht14=>?_)
 ·have e:Ds l Dv S=(Ak,S):=if_pos ht14
  refine vz ?_;refine R.wk 15 _ Rd ?_;refine Z11 ?_;refine K.thR ?_;exact K.fin (V.one (V.cellN jA jS)) ⟨by rw [e,Ab],by rw [e];exact (Ej ho).symm⟩ (hlow:=by have:=Ad Hp.length (Ak);simpa only [Ab,List.length_set] using this)
 have e0:¬(S.code != 0)=true:=by rw [ht14];simp
 refine Z86 ?_;refine gr ?_;refine G.call Tryz.call251 (fun hB=>Xi l S j5 o _ (A6 ho) hi hl (by decide)) ?_;refine Z0 ?_;refine R.fin [0,2,3,16] ?_
 refine W.cond (fun ht16=>?_) (fun ht16=>?_)
 ·have e:Ds l Dv S=(Gm (Dd (A7 l S.i).text).1,A8 S):=by unfold Ds;rw [if_neg e0,if_pos ht16]
  refine Z58 ?_;refine R.go ?_;refine R.call Tryz.call166 (xe (A7 l S.i).text (hl.text _) _) ?_;refine gm ?_;refine R.fin [2,4] ?_;refine Z2 ?_;refine R.call Tryz.call285 (AB2 (Dd (A7 l S.i).text).1 _) ?_;refine Z11 ?_;refine Z5 ?_;exact K.fin (V.one (V.cellN jA jS)) ⟨by rw [e,Ab],by rw [e]⟩ (hlow:=by have:=Ad Hp.length (Gm (Dd (A7 l S.i).text).1);simpa only [Ab,List.length_set] using this)
 have e1:¬(((A7 l S.i).kind==3) || isM l j5 S)=true:=by rw [ht16];simp
 refine Z19 ?_;refine R.fin [0,2,3,33] ?_
 refine W.cond (fun ht33=>?_) (fun ht33=>?_)
 ·have e:Ds l Dv S=(Gm ⟨2,0,(A7 l S.i).text.take 200⟩,A8 S):=by unfold Ds;rw [if_neg e0,if_neg e1,if_pos ht33]
  refine Z58 ?_;refine R.go ?_;refine R.call Tryz.call208 (ic (A7 l S.i).text _) ?_;refine R.call Tryz.call285 (AB2 ⟨2,0,(A7 l S.i).text.take 200⟩ _) ?_;refine Z11 ?_;refine Z5 ?_;exact K.fin (V.one (V.cellN jA jS)) ⟨by rw [e,Ab],by rw [e]⟩ (hlow:=by have:=Ad Hp.length (Gm ⟨2,0,(A7 l S.i).text.take 200⟩);simpa only [Ab,List.length_set] using this)
 have e2:¬((A7 l S.i).kind==4)=true:=by rw [ht33];simp
 refine Z19 ?_;refine R.fin [0,2,3,42] ?_
 refine W.cond (fun ht42=>?_) (fun ht42=>?_)
 ·have hi1:(A8 S).i<l.length:=hl.step hi (by rw [beq_iff_eq] at ht42;rw [ht42];decide)
  refine Z58 ?_;refine R.fin [0,2,3] ?_;refine Z36 ?_;refine R.call Tryz.call251 (Xi l (A8 S) opT o _ (A6 (getset ho)) hi1 hl (by decide)) ?_;refine R.fin [0,2,3,49] ?_
  refine W.cond (fun ht49=>?_) (fun ht49=>?_)
  ·have e:Ds l Dv S=Fb l Dv (A7 l S.i) (A8 S):=by unfold Ds;rw [if_neg e0,if_neg e1,if_neg e2,if_pos ht42,if_pos ht49]
   have hi2:(A8 (A8 S)).i<l.length:=hl.stepIs hi1 ht49
   refine Z1 ?_;refine R.callUp Tryz.call286 (getset ho) (by simp) C6 (hcl o _ (A8 S) (A7 l S.i) (A6 (getset ho)) hi2 rfl (hl.text _) ht49) ?_;refine Z11 ?_;refine K.thR ?_;refine Z5 ?_;exact K.fin (V.one (V.cellN jA jS)) ⟨by rw [e,Ab],by rw [e,List.set_set]⟩ (hlow:=by have:=Ad Hp.length ((Fb l Dv (A7 l S.i) (A8 S)).1);simpa only [Ab,List.length_set] using this)
  have e:Ds l Dv S=(Bv (A7 l S.i).text,A8 S):=by unfold Ds;rw [if_neg e0,if_neg e1,if_neg e2,if_pos ht42,if_neg (by rw [ht49];simp)]
  refine Z6 ?_;refine w6 ?_;refine R.wk 55 _ (X2 _) ?_;refine Z11 ?_;refine Z5 ?_;exact K.fin (V.one (V.cellN jA jS)) ⟨by rw [e,Ab],by rw [e]⟩ (hlow:=by have:=Ad Hp.length (Bv (A7 l S.i).text);simpa only [Ab,List.length_set] using this)
 have e3:¬((A7 l S.i).kind==1)=true:=by rw [ht42];simp
 refine Z2 ?_;refine R.call Tryz.call251 (Xi l S opT o _ (A6 ho) hi hl (by decide)) ?_;refine R.go ?_;refine R.fin [0,2,3,56] ?_
 refine W.cond (fun ht56=>?_) (fun ht56=>?_)
 ·have e:Ds l Dv S=((Al (A7 l S.i).at_ Dv.ei (A8 S)).1,De l Dp (Al (A7 l S.i).at_ Dv.ei (A8 S)).2):=by unfold Ds;rw [if_neg e0,if_neg e1,if_neg e2,if_neg e3,if_pos ht56]
  have hi1:(A8 S).i<l.length:=hl.stepIs hi ht56
  have hwf:=H1 (S:=A8 S) (l:=l) (f:=Dv.ei) (A7 l S.i).at_ hi1 (fun h=>(hd.ei h).1)
  refine Z58 ?_;refine R.fin [0,2,3] ?_;refine Z19 ?_;refine R.makeFunc ?_;refine R.callUp Tryz.call271 (getset ho) (by simp) C6 (o9 Tryz.call213 l (A8 S) (A7 l S.i).at_ Dv.ei o _ (A6 (getset ho)) hi1 hnl (fun h=>(hd.ei h).1) (fun h=>(hd.ei h).2)) ?_;refine Z21 ?_;refine R.fin [0,2,6] ?_;refine Z2 ?_;refine R.callUp Tryz.call287 (getset (getset ho)) (by simp) C6 (AB3 l (Al (A7 l S.i).at_ Dv.ei (A8 S)).2 Dp o _ (A6 (getset (getset ho))) hwf.lt hll) ?_;refine R.fin [2,6] ?_;refine Z2 ?_;refine Z11 ?_;refine Z5 ?_;exact K.fin (V.one (V.cellN jA jS)) ⟨by rw [e,Ab],by rw [e,List.set_set,List.set_set]⟩ (hlow:=by have:=Ad Hp.length ((Al (A7 l S.i).at_ Dv.ei (A8 S)).1);simpa only [Ab,List.length_set] using this)
 have e:Ds l Dv S=(Ak,Co 8 (A7 l S.i).at_ S):=by unfold Ds;rw [if_neg e0,if_neg e1,if_neg e2,if_neg e3,if_neg (by rw [ht56];simp)]
 refine Z18 ?_;refine zq ?_;refine Z11 ?_;exact K.fin (V.one (V.cellN jA jS)) ⟨by rw [e,Ab],by rw [e]⟩ (hlow:=by have:=Ad Hp.length (Ak);simpa only [Ab,List.length_set] using this)

theorem tq {l:List Tok} (hl:TokEnd l) (hll:l.length≤1048576) {d n:Nat} (h:n+(d+1)=31) (hp:n≠30→PC 213 l (C3 l d).ei (n+1)∧PC 253 l (C3 l d).no (n+1)∧PC 283 l (C3 l d).ne (n+1)):DeepC l (C3 l d) n:=by
 have g:n≠30→_:=fun h30=>Nw hl hll d (n+1) (by omega) (by omega)
 exact ⟨fun h=>⟨(g h).1,(hp h).1⟩,fun h=>⟨(g h).2.1,(hp h).2.1⟩,fun h=>⟨(g h).2.2,(hp h).2.2⟩⟩
/-- All functions of the parser. -/
theorem Xk {l:List Tok} (hl:TokEnd l) (hll:l.length≤1048576) (hcl:∀n Dv,n≤30→DeepC l Dv n→Xj l Dv n):∀(d n:Nat),n+d=31→n≤30→PC 213 l (C3 l d).ei n∧PC 253 l (C3 l d).no n∧PC 283 l (C3 l d).ne n
 | 0,n,h,hn=>by omega
 | d+1,n,h,hn=>by
  have hd:DeepC l (C3 l d) n:=tq hl hll h (fun h30=>Xk hl hll hcl d (n+1) (by omega) (by omega))
  have g1:Dh l n (Jm l (C3 l d)):=Nv hl hll (fun h=>(hd.ei h).1) (fun h=>(hd.ne h).1)
  have g2:Dh l n (R8 l (C3 l d)):=F3 hl g1
  have g3:Dh l n (By l (C3 l d)):=F3 hl g2
  have g4:Dh l n (Cq l (C3 l d)):=Ld hl hll (fun h=>(hd.ei h).1) (fun h=>(hd.ne h).1)
  have g5:Dh l n (Jn l (C3 l d)):=Ts hl hll (fun h=>(hd.ei h).1) (fun h=>(hd.ne h).1) (fun h=>(hd.no h).1)
  have g6:Dh l n (R9 l (C3 l d)):=F3 hl g5
  have p0:PC 284 l (Ds l (C3 l d)) n:=fun o Hp S ho hi hS=>by
   subst hS
   exact ACt l S (C3 l d) o Hp ho hi hl hll hn hd (hcl _ _ hn hd)
  have p1:PC 283 l (Jm l (C3 l d)) n:=fun o Hp S ho hi hS=>by
   subst hS
   exact ACq l S (C3 l d) o Hp ho hi hl hll hn hd p0
  have p2:PC 282 l (R8 l (C3 l d)) n:=fun o Hp S ho hi hS=>by
   subst hS
   exact ACp l S (Jm l (C3 l d)) o Hp ho hi hl hll g1 p1
  have p3:PC 279 l (By l (C3 l d)) n:=fun o Hp S ho hi hS=>by
   subst hS
   exact ACo l S (R8 l (C3 l d)) o Hp ho hi hl hll g2 p2
  have p4:PC 270 l (Cq l (C3 l d)) n:=fun o Hp S ho hi hS=>by
   subst hS
   exact ACs l S (C3 l d) o Hp ho hi hl hll hn hd g3 p3
  have p5:PC 253 l (Jn l (C3 l d)) n:=fun o Hp S ho hi hS=>by
   subst hS
   exact ACr l S (C3 l d) o Hp ho hi hl hll hn hd p4
  have p6:PC 234 l (R9 l (C3 l d)) n:=fun o Hp S ho hi hS=>by
   subst hS
   exact ACn l S (Jn l (C3 l d)) o Hp ho hi hl hll g5 p5
  have p7:PC 213 l (Kw l (C3 l d)) n:=fun o Hp S ho hi hS=>by
   subst hS
   exact c213 l S (R9 l (C3 l d)) o Hp ho hi hl hll g6 p6
  exact ⟨p7,p5,p1⟩
set_option maxRecDepth 8000
/-! The document's kinds of trees are infer's. -/
set_option maxRecDepth 4000
theorem da {n:Nat} {U F:Nat→List AObj} {H':List AObj} (h:Ii (fun _=>true) U F n H'):H'=U n:=by
 rcases h with ⟨_,h⟩|⟨j,_,_,h,_⟩
 ·exact h
 cases h
theorem ja {α:Type} {l:List α} {k:Nat} {y:α} (h:l[k]? = some y):l.take (k+1)=l.take k++[y]:=by rw [List.take_add_one,h];rfl
theorem ob {L:List (Int×Expr)} {k:Nat} {it:Int×Expr} (h:L[k]? = some it):Dq 0 (L.take (k+1))=if Dq 0 (L.take k)<it.1 then it.1 else Dq 0 (L.take k):=by
 have e:Dq 0 (L.take (k+1))=max (Dq 0 (L.take k)) it.1:=by
  unfold Dq
  rw [ja h,List.foldl_append]
  rfl
 rw [e]
 split<;>omega
theorem Tt {n k:Nat} {o:Bool} {l:List Str}:Low n (.slice o k (l.map A9)):=by simp [or_imp,forall_and]
theorem ACu (n:Nat) (e:Expr) (hok:okE n e) (hn:n≤1048576) (hs:sizeE e≤1048576) (Hp:List AObj):AFun Tryz.prog 214 [A5 e] Hp (A2 (depthE e:Nat)):=by
 refine ACall.body [.tmp 2] [0,4] Tryz.func214 Tryz.ntmps214 (fun d=>?_)
 refine Z1 ?_;refine R.fin [1,4] ?_;refine Cz ?_;refine Z21 ?_;refine R.fin [1,3,4] ?_;refine Z66 ?_
 refine R.assumeLow (fun hlow=>?_)
 refine wp ?_;refine R.fin [3,4,6] ?_;refine Gx ?_
 refine W.rangeV (m:=1) Tryz.call118 (fun FR as' bd' hFR has hbd=>?_)
 have hFRl:∀s,Low (Hp.length+3) (FR s):=by
  intro s
  rw [hFR]
  refine Low.strip ?_
  revert s
  repeat (first|exact Aq|refine Ap (by simp [oid,Ad]<;>try omega) ?_)
 have hOl:∀{k:Nat},∀x∈[AObj.cells 3 [A2 (Dq 0 ((Av 1 e).take k))],AObj.defs,AObj.loop LoopState.ready none FR 13 #[7,8] as' bd' (oid Hp.length 1)],ObjLow (Hp.length+3) x:=by
  intro k x hx
  simp only [List.mem_cons,List.mem_nil_iff,or_false] at hx
  rcases hx with rfl|rfl|rfl
  ·intro y hy
   rw [List.mem_singleton.1 hy]
   first|exact Tt|simp
  ·trivial
  exact mg
 refine ⟨fun _ H'=>Ii (fun _=>true) (fun k=>Hp++[AObj.cells 3 [A2 (Dq 0 ((Av 1 e).take k))],AObj.defs,AObj.loop LoopState.ready none FR 13 #[7,8] as' bd' (oid Hp.length 1)]) (fun k=>Hp++[AObj.cells 3 [A2 (Dq 0 ((Av 1 e).take k))],AObj.defs,AObj.loop LoopState.ready none FR 13 #[7,8] as' bd' (oid Hp.length 1)]) (Av 1 e).length H',xh (l:=oid Hp.length 2) (go:=fun _=>true) (U:=fun k=>Hp++[AObj.cells 3 [A2 (Dq 0 ((Av 1 e).take k))],AObj.defs,AObj.loop LoopState.ready none FR 13 #[7,8] as' bd' (oid Hp.length 1)]) (F:=fun k=>Hp++[AObj.cells 3 [A2 (Dq 0 ((Av 1 e).take k))],AObj.defs,AObj.loop LoopState.ready none FR 13 #[7,8] as' bd' (oid Hp.length 1)]) (n0:=Hp.length+3) ⟨fun k=>by simp,fun k=>by simp,fun k x hx=>?_,fun k x hx=>?_,by simp [oid],fun X k it hit hgo=>?_⟩ n hok hn,?_⟩
 ·exact mh
 ·exact mh
 ·have hklt:k<sizeE e:=by rw [←Em 1 e];exact (List.getElem?_eq_some_iff.1 hit).1
  generalize hV:(Hp++[AObj.cells 3 [A2 (Dq 0 ((Av 1 e).take k))],AObj.defs,AObj.loop LoopState.ready none FR 13 #[7,8] as' bd' (oid Hp.length 1)]++X)=V
  have hL:V[oid Hp.length 2]? = some (AObj.loop LoopState.ready none FR 13 #[7,8] as' bd' (oid Hp.length 1)):=by rw [←hV,List.append_assoc,Ar];rfl
  have hA0:V[oid Hp.length 0]? = some (AObj.cells 3 [A2 (Dq 0 ((Av 1 e).take k))]):=by rw [←hV,List.append_assoc,Ar];rfl
  refine AYield.ofRound (pd:=none) (fr:=FR) (sz:=13) (ps:=#[7,8]) (df:=oid Hp.length 1) (asg:=as') (bd:=bd') hL rfl (by decide) (fun d=>?_)
  subst hFR has hbd
  refine W.keep [3,7,8] ?_;refine Z81 ?_;refine R.fin [3,4] ?_
  refine ⟨rfl,none,hL,?_⟩
  generalize hbz:(AObj.loop LoopState.busy _ _ _ _ _ _ _)=bz
  have hA:(V.set (oid Hp.length 2) bz)[oid Hp.length 0]? = some (AObj.cells 3 [A2 (Dq 0 ((Av 1 e).take k))]):=by rw [List.getElem?_set_ne (Be (by decide))];exact hA0
  refine Gx ?_;refine AW.region ?_
  refine R.go (h:=Q.loadUp hA) (hr:=?_)
  refine R.go ?_;refine R.maxI ?_
  refine R.storeUp jS hA ?_ ?_
  ·simp
  refine Z85 ?_
  subst hbz
  refine K.rdN (Wf hL (Be (by decide))) ?_
  refine ⟨rfl,?_⟩
  rw [if_pos rfl]
  subst hV
  simp only [List.append_assoc,Ee,List.cons_append,List.nil_append,List.set_cons_succ,List.set_cons_zero]
  rw [ob hit]
 intro r H' hq
 obtain rfl:=da hq
 refine ⟨Hp,_,_,_,rfl,rfl,fun h=>h,?_,rfl,by simp,?_⟩
 ·intro o ho
  have:o=oid Hp.length 1:=by simpa using ho
  subst this
  rw [Ar]
  rfl
 refine Z14 ?_;refine Z1 ?_;refine Z4 ?_;exact K.fin (V.one V.tmp) ⟨by rw [List.take_length,Oz],rfl⟩

theorem ACv (n:Nat) (e:Expr) (hok:okE n e) (hn:n≤1048576) (hs:sizeE e≤1048576) (Hp:List AObj):AFun Tryz.prog 216 [A5 e] Hp (A2 (sizeE e:Nat)):=by
 refine ACall.body [.tmp 2] [0] Tryz.func216 Tryz.ntmps216 (fun d=>?_)
 refine Z96 ?_;refine Cz ?_;refine Z21 ?_;refine R.fin [1,3] ?_;refine Z66 ?_
 refine R.assumeLow (fun hlow=>?_)
 refine wp ?_;refine R.fin [3,5] ?_;refine Gx ?_
 refine W.rangeV (m:=1) Tryz.call118 (fun FR as' bd' hFR has hbd=>?_)
 have hFRl:∀s,Low (Hp.length+3) (FR s):=by
  intro s
  rw [hFR]
  refine Low.strip ?_
  revert s
  repeat (first|exact Aq|refine Ap (by simp [oid,Ad]<;>try omega) ?_)
 have hOl:∀{k:Nat},∀x∈[AObj.cells 3 [A2 ((k:Nat))],AObj.defs,AObj.loop LoopState.ready none FR 11 #[6,7] as' bd' (oid Hp.length 1)],ObjLow (Hp.length+3) x:=by
  intro k x hx
  simp only [List.mem_cons,List.mem_nil_iff,or_false] at hx
  rcases hx with rfl|rfl|rfl
  ·intro y hy
   rw [List.mem_singleton.1 hy]
   first|exact Tt|simp
  ·trivial
  exact mg
 refine ⟨fun _ H'=>Ii (fun _=>true) (fun k=>Hp++[AObj.cells 3 [A2 ((k:Nat))],AObj.defs,AObj.loop LoopState.ready none FR 11 #[6,7] as' bd' (oid Hp.length 1)]) (fun k=>Hp++[AObj.cells 3 [A2 ((k:Nat))],AObj.defs,AObj.loop LoopState.ready none FR 11 #[6,7] as' bd' (oid Hp.length 1)]) (Av 1 e).length H',xh (l:=oid Hp.length 2) (go:=fun _=>true) (U:=fun k=>Hp++[AObj.cells 3 [A2 ((k:Nat))],AObj.defs,AObj.loop LoopState.ready none FR 11 #[6,7] as' bd' (oid Hp.length 1)]) (F:=fun k=>Hp++[AObj.cells 3 [A2 ((k:Nat))],AObj.defs,AObj.loop LoopState.ready none FR 11 #[6,7] as' bd' (oid Hp.length 1)]) (n0:=Hp.length+3) ⟨fun k=>by simp,fun k=>by simp,fun k x hx=>?_,fun k x hx=>?_,by simp [oid],fun X k it hit hgo=>?_⟩ n hok hn,?_⟩
 ·exact mh
 ·exact mh
 ·have hklt:k<sizeE e:=by rw [←Em 1 e];exact (List.getElem?_eq_some_iff.1 hit).1
  generalize hV:(Hp++[AObj.cells 3 [A2 ((k:Nat))],AObj.defs,AObj.loop LoopState.ready none FR 11 #[6,7] as' bd' (oid Hp.length 1)]++X)=V
  have hL:V[oid Hp.length 2]? = some (AObj.loop LoopState.ready none FR 11 #[6,7] as' bd' (oid Hp.length 1)):=by rw [←hV,List.append_assoc,Ar];rfl
  have hA0:V[oid Hp.length 0]? = some (AObj.cells 3 [A2 ((k:Nat))]):=by rw [←hV,List.append_assoc,Ar];rfl
  refine AYield.ofRound (pd:=none) (fr:=FR) (sz:=11) (ps:=#[6,7]) (df:=oid Hp.length 1) (asg:=as') (bd:=bd') hL rfl (by decide) (fun d=>?_)
  subst hFR has hbd
  refine W.keep [3,6,7] ?_;refine AW.skip ?_
  refine ⟨rfl,none,hL,?_⟩
  generalize hbz:(AObj.loop LoopState.busy _ _ _ _ _ _ _)=bz
  have hA:(V.set (oid Hp.length 2) bz)[oid Hp.length 0]? = some (AObj.cells 3 [A2 ((k:Nat))]):=by rw [List.getElem?_set_ne (Be (by decide))];exact hA0
  refine Gx ?_;refine AW.region ?_
  refine R.go (h:=Q.loadUp hA) (hr:=?_)
  refine R.go ?_
  refine R.storeUp jS hA ?_ ?_
  ·simp
  refine Z85 ?_
  subst hbz
  refine K.rdN (Wf hL (Be (by decide))) ?_
  refine ⟨rfl,?_⟩
  rw [if_pos rfl]
  subst hV
  simp only [List.append_assoc,Ee,List.cons_append,List.nil_append,List.set_cons_succ,List.set_cons_zero]
  rfl
 intro r H' hq
 obtain rfl:=da hq
 refine ⟨Hp,_,_,_,rfl,rfl,fun h=>h,?_,rfl,by simp,?_⟩
 ·intro o ho
  have:o=oid Hp.length 1:=by simpa using ho
  subst this
  rw [Ar]
  rfl
 refine Z14 ?_;refine Z1 ?_;refine Z4 ?_;exact K.fin (V.one V.tmp) ⟨by rw [Em],rfl⟩

set_option maxRecDepth 8000
abbrev TK:=Int×Str
/-- What stands from word i on. -/
def seg (l:List Tok) (i:Nat):List TK:=(l.drop i).map ktT
theorem Kb (s:Str):s∈levels.flatten∨(Cp s = -1∧∀l∈levels,l.contains s=false):=by
 by_cases h:s∈levels.flatten
 ·exact .inl h
 have h2:∀l∈levels,l.contains s=false:=fun l hl=>by
  rw [Bool.eq_false_iff]
  intro h3
  exact h (List.mem_flatten.2 ⟨l,hl,by simpa using h3⟩)
 refine .inr ⟨?_,h2⟩
 unfold Cp
 rw [List.findIdx?_eq_none_iff.2 fun l hl=>h2 l hl]
/-- The texts of levels of marks. -/
def ofL (k:Nat):Str:=if k=0 then orT else if k=1 then iy else if k=3 then iz else if k=4 then j4 else Tp
theorem Jc {k:Nat} (hk:k=0∨k=1∨k=3∨k=4∨k=5) (s:Str):Gy s (ofL k)=(Cp s==(k:Int)):=by
 have e:ofL k=I6 (levels.getD k []):=by rcases hk with rfl|rfl|rfl|rfl|rfl<;>kernel_rfl
 have hp:∀w∈levels.getD k [],(32:UInt8)∉w:=by rcases hk with rfl|rfl|rfl|rfl|rfl<;>decide
 have hm:levels.getD k []∈levels:=by rcases hk with rfl|rfl|rfl|rfl|rfl<;>decide
 rw [Jb e hp s]
 rcases Kb s with h|⟨h1,h2⟩
 ·have h3:(levels.flatten.all fun s=>decide ((!(s==[])&&(levels.getD k []).contains s)=(Cp s==(k:Int))))=true:=by rcases hk with rfl|rfl|rfl|rfl|rfl<;>kernel_rfl
  exact of_decide_eq_true (List.all_eq_true.1 h3 s h)
 rw [h2 _ hm,h1,Bool.and_false]
 symm
 rw [beq_eq_false_iff_ne]
 omega
/-- A row of words behind which no mark of a level, or of a tighter one, stands. -/
def od (k:Nat) (rest:List TK):Prop:=∀h r,rest=h::r→((h.1==5) || (h.1==2))=true→Cp h.2<(k:Int)∧h.2≠[40]
def ACw:Str:=[110,111,116]
def Jo (e:Expr):Nat:=if e.op==4 then 2 else if e.op==3 then 6 else if e.op==5 then (Cp e.text).toNat else 7
def tr (least:Nat) (x:Expr) (T:List TK):List TK:=if least≤Jo x then T else (5,[40])::(T++[(5,[41])])
def Fi (least:Nat) (x:Expr) (n:Nat):Nat:=if least≤Jo x then n else n+1
def Nx (own:Nat):Nat:=if own=3 then 4 else own
def xq (v:Val):TK:=if v.kind==1 then (3,Gu v) else if v.kind==2 then (4,v.s) else (2,Gu v)
def AB4 (t:Str):TK:=(if J6 (t.headD 0) then 2 else 5,t)
def AB5:List (List TK)→List TK
 | []=>[]
 | T::r=>(5,[44])::(T++AB5 r)
def AB6 (o:Int) (t:Str) (v:Val) (k:List Expr) (ts:List (List TK)):List TK:=
 if o==1 then [xq v] else if o==2 then [(1,t)]
 else if o==3 then (5,[45])::tr 6 (k.getD 0 Ak) (ts.getD 0 [])
 else if o==4 then (2,ACw)::tr 2 (k.getD 0 Ak) (ts.getD 0 [])
 else if o==5 then tr (Nx (Cp t).toNat) (k.getD 0 Ak) (ts.getD 0 [])++AB4 t::tr ((Cp t).toNat+1) (k.getD 1 Ak) (ts.getD 1 [])
 else (1,t)::(5,[40])::((AB5 ts).drop 1++[(5,[41])])
mutual
def Re:Expr→List TK
 | .mk o t v k=>AB6 o t v k (vm k)
def vm:List Expr→List (List TK)
  | []=>[]
  | e::r=>Re e::vm r
 end
def oe:List Nat→Nat
 | []=>0
 | n::r=>max n (oe r)
def P0 (o:Int) (t:Str) (k:List Expr) (ns:List Nat):Nat:=
 if o==1 then 0 else if o==2 then 0
 else if o==3 then 1+Fi 6 (k.getD 0 Ak) (ns.getD 0 0)
 else if o==4 then 1+Fi 2 (k.getD 0 Ak) (ns.getD 0 0)
 else if o==5 then max (Fi (Nx (Cp t).toNat) (k.getD 0 Ak) (ns.getD 0 0)) (Fi ((Cp t).toNat+1) (k.getD 1 Ak) (ns.getD 1 0))
 else 1+oe ns
mutual
def C7:Expr→Nat
 | .mk o t v k=>P0 o t k (Mq k)
def Mq:List Expr→List Nat
  | []=>[]
  | e::r=>C7 e::Mq r
 end
theorem tt {v:Val} (h:Gk v=true):v=noV:=by
 unfold Gk at h
 simp only [Bool.and_eq_true,beq_iff_eq] at h
 cases v
 simp_all [noV]
/-- What a right node is. -/
inductive NodeC:Expr→Prop
 | val (v:Val) (h:C5 v=true) (h0:0≤v.n):NodeC (Gm v)
 | name (t:Str) (h:Ff t=true):NodeC (Bv t)
 | neg (a:Expr):NodeC (Dl 3 a)
 | no (a:Expr):NodeC (Dl 4 a)
 | bin (t:Str) (a b:Expr) (h:0≤Cp t):NodeC (Eg t a b)
 | call (t:Str) (k:List Expr) (h:B4 t=(k.length:Int)):NodeC (.mk 6 t noV k)
theorem En (o:Int) (t:Str) (v:Val) (k:List Expr):R1 (.mk o t v k) =
 if o==1 then ((C5 v&&decide (0≤v.n))&&(t==[]))&&((k.length:Int)==0)
 else if !(Gk v) then false
 else if o==2 then Ff t&&((k.length:Int)==0)
 else if o==3 || o==4 then (t==[])&&((k.length:Int)==1)
 else if o==5 then decide (0≤Cp t)&&((k.length:Int)==2)
 else if o==6 then B4 t==(k.length:Int)
 else false:=rfl
theorem Jd {e:Expr} (h:Bi e=true):NodeC e:=by
 rw [Gl] at h
 cases e with
 | mk o t v k =>
 rw [En] at h
 by_cases h1:(o==1)=true
 ·rw [if_pos h1] at h
  simp only [Bool.and_eq_true,beq_iff_eq,decide_eq_true_eq] at h h1
  obtain ⟨⟨⟨a1,a2⟩,a3⟩,a4⟩:=h
  subst h1
  subst a3
  have:k=[]:=by cases k with|nil=>rfl|cons x r=>simp at a4;omega
  subst this
  exact .val v a1 a2
 rw [if_neg h1] at h
 by_cases hb:(!(Gk v))=true
 ·rw [if_pos hb] at h;cases h
 rw [if_neg hb] at h
 have hv:v=noV:=tt (by simpa using hb)
 subst hv
 by_cases h2:(o==2)=true
 ·rw [if_pos h2] at h
  simp only [Bool.and_eq_true,beq_iff_eq] at h h2
  subst h2
  have:k=[]:=by cases k with|nil=>rfl|cons x r=>have:=h.2;simp at this;omega
  subst this
  exact .name t h.1
 rw [if_neg h2] at h
 by_cases h3:(o==3 || o==4)=true
 ·rw [if_pos h3] at h
  simp only [Bool.and_eq_true,Bool.or_eq_true,beq_iff_eq] at h h3
  obtain ⟨rfl,h4⟩:=h
  match k,h4 with
  | [a],_ =>
   rcases h3 with rfl|rfl
   ·exact .neg a
   exact .no a
  | [],h4=>simp at h4
  | _::_::_,h4=>simp at h4;omega
 rw [if_neg h3] at h
 by_cases h5:(o==5)=true
 ·rw [if_pos h5] at h
  simp only [Bool.and_eq_true,beq_iff_eq,decide_eq_true_eq] at h h5
  subst h5
  match k,h.2 with
  | [a,b],_=>exact .bin t a b h.1
  | [],h4=>simp at h4
  | [_],h4=>simp at h4
  | _::_::_::_,h4=>simp at h4;omega
 rw [if_neg h5] at h
 by_cases h6:(o==6)=true
 ·rw [if_pos h6] at h
  simp only [beq_iff_eq] at h h6
  subst h6
  exact .call t k h
 rw [if_neg h6] at h;cases h
/-- The functions of the levels. -/
def pf (l:List Tok) (D:Fam):Nat→PS→Expr×PS
 | 0=>Kw l D
 | 1=>R9 l D
 | 2=>Jn l D
 | 3=>Cq l D
 | 4=>By l D
 | 5=>R8 l D
 | 6=>Jm l D
 | _=>Ds l D
abbrev fam (l:List Tok) (n:Nat):Fam:=C3 l (30-n)
def adv (S:PS) (n:Nat):PS:=⟨S.i+n,S.nest,S.code,S.at_⟩
def T1 (l:List Tok) (x:Expr):Prop:=∀(k:Nat) (S:PS) (rest:List TK),k≤Jo x→S.code=0→S.nest+C7 x≤30→seg l S.i=Re x++rest→od k rest→pf l (fam l S.nest) k S=(x,adv S (Re x).length)
def T2 (l:List Tok) (x:Expr):Prop:=∀(k:Nat) (S:PS) (rest:List TK),(k=0∨k=1∨k=4∨k=5)→k≤Jo x→S.code=0→S.nest+C7 x≤30→seg l S.i=Re x++rest→od (k+1) rest →
 ∃n,l.length≤S.i+(Re x).length+n∧Dr l (ofL k) (pf l (fam l S.nest) (k+1)) S=Lc l (ofL k) (pf l (fam l S.nest) (k+1)) n (x,adv S (Re x).length)
def litWords:List Str:=[[116,114,117,101],[102,97,108,115,101],[110,117,108,108]]
theorem xt (s:Str):Gy s j5=(!(s==[])&&litWords.contains s):=Jb (show j5=I6 litWords by kernel_rfl) (by decide) s
theorem Xl (v:Val):C7 (Gm v)=0:=by simp [Gm,C7,P0]
theorem jb (t:Str):C7 (Bv t)=0:=by simp [Bv,C7,P0]
theorem og (a:Expr):C7 (Dl 3 a)=1+Fi 6 a (C7 a):=by simp [Dl,C7,Mq,P0]
theorem tw (a:Expr):C7 (Dl 4 a)=1+Fi 2 a (C7 a):=by simp [Dl,C7,Mq,P0]
theorem Xm (t:Str) (a b:Expr):C7 (Eg t a b)=max (Fi (Nx (Cp t).toNat) a (C7 a)) (Fi ((Cp t).toNat+1) b (C7 b)):=by simp [Eg,C7,Mq,P0]
theorem jc (t:Str) (k:List Expr):C7 (.mk 6 t noV k)=1+oe (Mq k):=by simp [C7,P0]
theorem db (v:Val):Jo (Gm v)=7:=by simp [Jo,Gm,Expr.op]
theorem oh (t:Str):Jo (Bv t)=7:=by simp [Jo,Bv,Expr.op]
theorem tx (a:Expr):Jo (Dl 3 a)=6:=by simp [Jo,Dl,Expr.op]
theorem xu (a:Expr):Jo (Dl 4 a)=2:=by simp [Jo,Dl,Expr.op]
theorem dc (t:Str) (a b:Expr):Jo (Eg t a b)=(Cp t).toNat:=by simp [Jo,Eg,Expr.op,Expr.text]
theorem oi (t:Str) (k:List Expr):Jo (.mk 6 t noV k)=7:=by simp [Jo,Expr.op]
theorem Xn {k:Nat} (hk:k=0∨k=1∨k=4∨k=5):k=0∨k=1∨k=3∨k=4∨k=5:=by omega
theorem jd {e:Expr} {n:Nat} (h:sizeE e≤n+1) {y:Expr} (hy:y∈e.kids):sizeE y≤n:=by
 rw [Mg] at h
 obtain ⟨i,hi,rfl⟩:=List.getElem_of_mem hy
 have:=Te e.kids hi
 omega
theorem ol:∀c:UInt8,digs.contains c=true→c≠45∧c≠43∧c≠39∧c≠110∧c≠116∧c≠102:=by
 have h:((List.range 256).all fun n => !digs.contains (UInt8.ofNat n) || decide (UInt8.ofNat n≠45∧UInt8.ofNat n≠43∧UInt8.ofNat n≠39∧UInt8.ofNat n≠110∧UInt8.ofNat n≠116∧UInt8.ofNat n≠102))=true:=by kernel_rfl
 intro c hc
 have:=List.all_eq_true.1 h c.toNat (List.mem_range.2 c.toNat_lt)
 rw [show UInt8.ofNat c.toNat=c by simp,hc] at this
 simpa using this
/-! The parser from a word on, and of a source. -/
def atS (l:List Tok) (i:Nat) (r:Expr×PS):PS:=if r.2.code != 0 then r.2 else if decide ((30:Int)<depthE r.1) then Co 18 (A7 l i).at_ r.2 else if decide ((300:Int)<sizeE r.1) then Co 3 (A7 l i).at_ r.2 else r.2
def atR (l:List Tok) (i:Nat):Expr×PS:=Kw l (C3 l 30) ⟨i,0,0,0⟩
/-- The tree, the word behind it, the fault. -/
def atM (l:List Tok) (i:Nat):Expr×Int×Int×Int:=if (atS l i (atR l i)).code != 0 then (Ak,0,(atS l i (atR l i)).code,(atS l i (atR l i)).at_) else ((atR l i).1,((atS l i (atR l i)).i:Int),0,0)
set_option maxRecDepth 4000
theorem Rf {l:List Tok} (hl:TokEnd l) (hll:l.length≤1048576) {i:Nat} (hi:i<l.length):Fact l ⟨i,0,0,0⟩ (atR l i):=(Nw hl hll 31 0 rfl (by decide)).1 ⟨i,0,0,0⟩ hi rfl
theorem xv {l:List Tok} {i:Nat} (hi:i<l.length) (hl:TokEnd l) (hll:l.length≤1048576) (hcl:∀n Dv,n≤30→DeepC l Dv n→Xj l Dv n) (o:Nat) (Hp:List AObj) (ho:Hp[o]? = some (pr l ⟨i,0,0,0⟩)):ACall Tryz.prog 213 [.ptr o 0] Hp (fun r H'=>r=A5 (atR l i).1∧H'=Hp.set o (pr l (atR l i).2)):=(Xk hl hll hcl 31 0 rfl (by decide)).1 o Hp ⟨i,0,0,0⟩ ho hi rfl
theorem Xo {l:List Tok} (hl:TokEnd l):(A7 l (l.length-1)).kind=0:=by
 obtain ⟨L,z,rfl,hz,_⟩:=hl.split
 unfold A7
 simp [hz]
theorem ACx (l:List Tok) (i:Nat) (hi:i<l.length) (hl:TokEnd l) (hll:l.length≤500000) (hcl:∀n Dv,n≤30→DeepC l Dv n→Xj l Dv n) (Hp:List AObj):AFun Tryz.prog 191 [ck l,A2 (i:Int)] Hp (.tup [A5 (atM l i).1,A2 (atM l i).2.1,.agg [A2 (atM l i).2.2.1,A2 (atM l i).2.2.2]]):=by
 have hmap:(l.map H0).length=l.length:=List.length_map ..
 have hll1:l.length≤1048576:=by omega
 have hq:=Rf hl hll1 hi
 have hlast:=Xo hl
 have hpos:=hl.pos
 have hqlt:=hq.lt
 have hqs:=hq.sz
 have hok0:okE 1048576 (atR l i).1:=Fh (by have:=hq.lt;omega) hq.ok
 have hsz0:sizeE (atR l i).1≤1048576:=by have:=hq.sz;have:=hq.lt;omega
 refine ACall.body [.cell 4 103,.tmp 5,.cell 6 59] [0,1] Tryz.func191 Tryz.ntmps191 (fun d=>?_)
 refine Wl ?_;refine L3 ?_;refine R.fin [0,1,4,6] ?_;refine Z30 ?_;refine Z95 ?_;refine Wi ?_
 refine G.go (h:=Q.indexAddr ((l.length-1)) (H0 (A7 l (l.length-1))) (fun _=>Nm (by omega))) (hr:=?_)
 refine V0 ?_;refine R.fin [0,1,4,6,26] ?_
 refine W.cond (fun ht26=>?_) (fun ht26=>?_)
 ·simp only [Bool.or_eq_true,decide_eq_true_eq,bne_iff_ne,ne_eq] at ht26
  rcases ht26 with (h|h)|h
  ·omega
  ·simp at h;omega
  exact absurd hlast h
 refine Sg ?_;refine R.build (places:=#[(0,1),(1,1),(2,1),(3,2)]) jU (fun w=>by simp) jZ ?_;refine R.box ?_;refine R.go ?_;refine R.fin [0,1,4,6,7] ?_;refine Z2 ?_
 refine R.callOwn (n:=2) (x:=pr l (atR l i).2) Tryz.call213 (xv hi hl hll1 hcl (oid Hp.length 2) _ (by rw [Ar];rfl)) ?_
 refine Z21 ?_;refine R.fin [0,1,4,6,7,8] ?_
 refine W.join ⟨81,A3 4 (.ptr (oid Hp.length 0) 0) (A3 6 (.ptr (oid Hp.length 1) 0) (A3 7 (.ptr (oid Hp.length 2) 0) (A3 8 (.ptr (oid Hp.length 3) 0) (fun _=>.any)))),Hp,[.cells 103 [A2 0,A9 [],A2 0,A2 0,A9 [],.nil],.cells 59 [A2 0,A2 0],pr l (atS l i (atR l i)),.cells 103 (E5 (atR l i).1)],[],none⟩ ?_ ?_
 ·refine Gx ?_;refine Z19 ?_;refine Z29 ?_;refine R.fin [0,1,4,6,7,8,35] ?_
  refine W.cond (fun ht35=>?_) (fun ht35=>?_)
  ·have e:atS l i (atR l i)=(atR l i).2:=if_pos ht35
   refine W.keep [4,6,7,8] ?_;refine AW.skip ?_;exact ru
  have e0:¬((atR l i).2.code != 0)=true:=by rw [ht35];simp
  refine Z2 ?_;refine R.call Tryz.call214 (ACu 1048576 _ hok0 (Nat.le_refl _) hsz0 _) ?_;refine Z0 ?_;refine R.fin [0,1,4,6,7,8,42] ?_
  refine W.cond (fun ht42=>?_) (fun ht42=>?_)
  ·have e:atS l i (atR l i)=Co 18 (A7 l i).at_ (atR l i).2:=by unfold atS;rw [if_neg e0,if_pos ht42]
   refine Pc ?_
   refine R.go (h:=Q.indexAddr (i) (H0 (A7 l i)) (fun _=>Nm hi)) (hr:=?_)
   refine Z0 ?_
   refine R.callOwn (n:=2) (x:=pr l (Co 18 (A7 l i).at_ (atR l i).2)) Tryz.call215 (j8 l (atR l i).2 18 (A7 l i).at_ (oid Hp.length 2) _ (by rw [Ar];rfl)) ?_
   refine R.fin [4,6,7,8] ?_;exact ru
  have e1:¬decide ((30:Int)<depthE (atR l i).1)=true:=by rw [ht42];simp
  refine Z2 ?_;refine R.call Tryz.call216 (ACv 1048576 _ hok0 (Nat.le_refl _) hsz0 _) ?_;refine Z0 ?_;refine R.fin [0,1,4,6,7,8,53] ?_
  refine W.cond (fun ht53=>?_) (fun ht53=>?_)
  ·have e:atS l i (atR l i)=Co 3 (A7 l i).at_ (atR l i).2:=by unfold atS;rw [if_neg e0,if_neg e1,if_pos ht53]
   refine Pc ?_
   refine R.go (h:=Q.indexAddr (i) (H0 (A7 l i)) (fun _=>Nm hi)) (hr:=?_)
   refine Z0 ?_
   refine R.callOwn (n:=2) (x:=pr l (Co 3 (A7 l i).at_ (atR l i).2)) Tryz.call215 (j8 l (atR l i).2 3 (A7 l i).at_ (oid Hp.length 2) _ (by rw [Ar];rfl)) ?_
   refine R.fin [4,6,7,8] ?_;exact ru
  have e:atS l i (atR l i)=(atR l i).2:=by unfold atS;rw [if_neg e0,if_neg e1,if_neg (by rw [ht53];simp)]
  refine W.keep [4,6,7,8] ?_;refine AW.skip ?_;exact ru
 refine Z48 ?_;refine Z0 ?_;refine R.fin [4,6,7,8,69] ?_
 refine W.cond (fun ht69=>?_) (fun ht69=>?_)
 ·have e:atM l i=(Ak,0,(atS l i (atR l i)).code,(atS l i (atR l i)).at_):=if_pos ht69
  refine W.drawY [0,0,2,6,14,1,33,127] [5] [.q 5 [] [],.s [] (some 0) [] [],.q 1 [0] []] (fun _=>Hp) (fun _=>[.cells 103 [A2 0,A9 [],A2 0,A2 0,A9 [],.nil],.cells 59 [A2 0,A2 0],pr l (atS l i (atR l i)),.cells 103 (E5 (atR l i).1)]) Aa (by kernel_rfl) rfl rfl (fun _=>rfl) ?_
  apply Y.q
  case h1 =>
   intro B hT hF
   refine D.build (places:=#[(0,1),(1,1),(2,3),(5,1)]) jU (fun w=>by simp) jZ ?_;exact m0
  case hTF=>decide
  refine Y.storeOwn (u:=Hp.length) (n:=0) (t':=103) (cs:=[A2 0,A9 [],A2 0,A2 0,A9 [],.nil]) (cs':=[A2 0,A9 [],A2 0,A2 0,A9 [],.nil]) Tryz.sizeOf103 (fun B hB=>⟨rfl,rfl,rfl,rfl⟩) ?_
  apply Y.q
  case h1 =>
   intro B hT hF
   exact Z68
  case hTF=>decide
  refine Y.tail (tn:=[5])  ?_;refine R.nilCell 0 5 6 ?_;refine Fu ?_;refine R.fin [4,5,6] ?_;refine Z84 ?_;exact K.fin (V.three (V.cellN jA jS) V.tmp (V.cellN jA jS)) ⟨by rw [e,oa]<;>rfl,rfl⟩
 have e:atM l i=((atR l i).1,((atS l i (atR l i)).i:Int),0,0):=if_neg (by rw [ht69];simp)
 refine Z6 ?_;refine W.drawY [0,0,2,6,14,0,1,95,255] [6] [.q 6 [] [],.s [] (some 0) [] [],.q 1 [0] []] (fun _=>Hp) (fun B=>[.cells 103 (if B 0=true then E5 (atR l i).1 else [A2 0,A9 [],A2 0,A2 0,A9 [],.nil]),.cells 59 [A2 0,A2 0],pr l (atS l i (atR l i)),.cells 103 (E5 (atR l i).1)]) Aa (by kernel_rfl) rfl rfl (fun _=>rfl) ?_
 apply Y.q
 case h1 =>
  intro B hT hF
  refine Z10 ?_;refine Z37 ?_;exact zg
 case hTF=>decide
 refine Y.storeOwn (u:=Hp.length) (n:=0) (t':=103) (cs:=[A2 0,A9 [],A2 0,A2 0,A9 [],.nil]) (cs':=E5 (atR l i).1) Tryz.sizeOf103 (fun B hB=>⟨rfl,by simp only [hB];rfl,by simp [upd],rfl⟩) ?_
 apply Y.q
 case h1 =>
  intro B hT hF
  exact Z68
 case hTF=>decide
 refine Y.tail (tn:=[6]) (O:=[.cells 103 (E5 (atR l i).1),.cells 59 [A2 0,A2 0],pr l (atS l i (atR l i)),.cells 103 (E5 (atR l i).1)]) ?_;refine Fu ?_;refine R.fin [4,5,6] ?_;refine AW.ret ?_;exact K.fin (V.three (V.cellN jA jS) V.tmp (V.cellN jA jS)) ⟨by rw [e,Ab]<;>rfl,rfl⟩ (hlow:=by have:=low_agg (n:=Hp.length) (atR l i).1;simp at this ⊢;exact this)

theorem de {s:Str} (h:(Dg s).2.1=0):(Dg s).1.length≤4002:=by
 obtain ⟨h1,_,h3⟩:=Vd h
 have h2:=Lu s
 rw [h3]
 simp only [List.length_append,List.length_map,List.length_cons,List.length_nil]
 omega
theorem tz {l:List Tok} (hl:TokEnd l) (hll:l.length≤1048576) {i:Nat} (hi:i<l.length) (h:(atM l i).2.2.1=0):∃k:Nat,(atM l i).2.1=(k:Int)∧k<l.length:=by
 have hq:=Rf hl hll hi
 unfold atM at h ⊢
 split at h
 ·rename_i h1
  have:(atS l i (atR l i)).code=0:=h
  rw [this] at h1
  cases h1
 rename_i h1
 rw [if_neg h1]
 refine ⟨(atS l i (atR l i)).i,rfl,?_⟩
 have e:(atS l i (atR l i)).i=(atR l i).2.i:=by
  unfold atS
  repeat' split
  all_goals first|rfl|exact failM_i.1
 rw [e]
 exact hq.lt
theorem Sq {α:Type} {a b:List α} (hl:a.length=b.length) (h:∀(j:Nat) (y:α),j<a.length→a[j]? = some y→b[j]? = some y):a=b:=by
 apply List.ext_getElem hl
 intro j h1 h2
 have:=h j a[j] h1 (List.getElem?_eq_getElem h1)
 rw [List.getElem?_eq_getElem h2] at this
 injection this with this
 exact this.symm
theorem Di {n k:Nat} {o:Bool} {l:List Expr}:Low n (.slice o k (l.map A5)):=low_slice.2 fun y hy=>by
 obtain ⟨a,_,rfl⟩:=List.mem_map.1 hy
 exact Ad _ a
theorem je {l:List Expr} {n f:Nat} (h0:l.isEmpty=false) (h:L9 l n=true):Ev f l n=true:=by
 cases f with
 | zero=>rw [Ev,h0];rfl
 | succ f=>rw [Ev,if_neg (by rw [h0];simp),if_pos h]
theorem u4 {l:List Expr} {n y:Nat} (hy:y<l.length) (h:500<n+y+1∨Nq l[y]=true):L9 l n=true:=by
 unfold L9
 rcases h with h|h
 ·rw [decide_eq_true (by omega)];rfl
 rw [List.any_eq_true.2 ⟨_,List.getElem_mem hy,h⟩,Bool.or_true]
theorem Rg {l:List Expr}:∀(y:Nat),y≤l.length→(∀(j:Nat) (e:Expr),j<y→l[j]? = some e→Nq e=false)→((l.take y).flatMap Expr.kids).length≤100*y
 | 0,_,_=>by simp
 | y+1,hy,h=>by
  rw [List.take_succ_eq_append_getElem hy,List.flatMap_append,List.length_append]
  have h1:=Rg y (by omega) (fun j e hj he=>h j e (by omega) he)
  have h2:=Vc (h y l[y] (by omega) (List.getElem?_eq_getElem _))
  simp only [List.flatMap_cons,List.flatMap_nil,List.append_nil]
  omega
structure WideAt (l0:List Expr) (x:List Expr×Nat×Nat):Prop where
 eq:Ev 61 l0 0=Ev x.2.2 x.1 x.2.1
 f:x.2.2≤61
 n:x.2.1≤500
theorem c76 (l0:List Expr) (Hp:List AObj):AFun Tryz.prog 76 [.slice false 6 (l0.map A5),A2 0] Hp (At (Ev 61 l0 0)):=by
 refine ACall.body [.tmp 4] [0,1] Tryz.func76 Tryz.ntmps76 (fun d=>?_)
 refine Z51 ?_;refine Z2 ?_;refine R.fin [0,1,5] ?_;refine W.seq ?_
 refine AW.loopC (α:=List Expr×Nat×Nat) (fun x=>⟨67,A3 0 (.slice false 6 (x.1.map A5)) (A3 1 (A2 (61-(x.2.2:Int))) (A3 5 (A2 (x.2.1:Nat)) (fun _=>.any))),Hp,[],[],none⟩) (fun x=>WideAt l0 x) (fun x=>x.2.2) ((l0,0,61)) ⟨rfl,Nat.le_refl _,Nat.zero_le _⟩ (StLe.of_eq (by simp)) rfl (fun x hx=>?_)
 refine Z30 ?_;refine R.fin [0,1,5,10] ?_
 refine W.cond (fun ht10=>?_) (fun ht10=>?_)
 ·have hpos:0<x.1.length:=by simpa using ht10
  have hne:x.1.isEmpty=false:=by cases hxx:x.1 with
   | nil=>rw [hxx] at hpos;simp at hpos
   | cons a r=>rfl
  have hxf:=hx.f
  refine Z6 ?_;refine Gx ?_;refine Cz ?_;refine Lo ?_;refine R.assignT ?_;refine R.fin [0,1,5,6] ?_;refine Z36 ?_;refine R.fin [0,1,5,6,7] ?_
  refine AW.loopC (α:=Nat) (fun y=>⟨67,A3 0 (.slice false 6 (x.1.map A5)) (A3 1 (A2 (61-(x.2.2:Int))) (A3 5 (A2 ((x.2.1+y:Nat):Int)) (A3 6 (.slice true 6 (((x.1.take y).flatMap Expr.kids).map A5)) (A3 7 (A2 (y:Nat)) (fun _=>.any))))),Hp,[],[],none⟩) (fun y=>y≤x.1.length∧x.2.1+y≤500∧∀(j:Nat) (e:Expr),j<y→x.1[j]? = some e→Nq e=false) (fun y=>x.1.length-y) (0) ⟨Nat.zero_le _,hx.n,fun j e h=>by omega⟩ (StLe.of_eq (by simp)) rfl (fun y hy=>?_)
  refine Z48 ?_;refine R.fin [0,1,5,6,7,15] ?_
  refine W.cond (fun ht15=>?_) (fun ht15=>?_)
  ·have hlt:y<x.1.length:=by simpa using ht15
   have hyn:=hy.2.1
   refine Z86 ?_;refine Z13 ?_;refine R.fin [0,1,5,6,7] ?_;refine Z30 ?_;refine Z9 ?_
   refine G.go (h:=Q.indexAddr (y) (A5 x.1[y]) (fun _=>An hlt)) (hr:=?_)
   refine Z95 ?_;refine Z62 ?_
   refine G.go (h:=Q.indexAddr (y) (A5 x.1[y]) (fun _=>An hlt)) (hr:=?_)
   refine Z9 ?_;refine Z41 ?_;refine Z62 ?_
   refine G.go (h:=Q.indexAddr (y) (A5 x.1[y]) (fun _=>An hlt)) (hr:=?_)
   refine Z95 ?_;refine R.go ?_;refine R.fin [0,1,5,6,7,49] ?_
   refine W.cond (fun ht49=>?_) (fun ht49=>?_)
   ·have hm:L9 x.1 x.2.1=true:=u4 hlt (by
     simp only [Bool.or_eq_true,decide_eq_true_eq,List.length_map] at ht49
     unfold Nq
     simp only [Bool.or_eq_true,decide_eq_true_eq]
     omega)
    have hw:=je (f:=x.2.2) hne hm
    refine Z63 ?_;refine K.thR ?_;refine Z54 ?_;refine gj ?_;exact zt
   have hfat:Nq x.1[y]=false∧x.2.1+y+1≤500:=by
    simp only [Bool.or_eq_false_iff,decide_eq_false_iff_not,List.length_map] at ht49
    unfold Nq
    simp only [Bool.or_eq_false_iff,decide_eq_false_iff_not]
    omega
   have hkl:=(Vc hfat.1).2.2
   have hfm:(x.1.take (y+1)).flatMap Expr.kids=(x.1.take y).flatMap Expr.kids++x.1[y].kids:=by rw [List.take_succ_eq_append_getElem hlt,List.flatMap_append];simp
   refine Z6 ?_;refine Za ?_;refine Z0 ?_
   refine R.go (h:=Q.indexAddr (y) (A5 x.1[y]) (fun _=>An hlt)) (hr:=?_)
   refine Z0 ?_
   refine R.append jU Tryz.type103 ?_ ?_ ?_
   ·have h1:=Rg y hy.1 hy.2.2;have h2:=hkl;have h3:=hy.2.1;simp only [List.length_map,Tryz.t103];omega
   ·have h1:=Rg y hy.1 hy.2.2;have h2:=hkl;have h3:=hy.2.1;simp only [List.length_map,Tryz.t103];omega
   refine R.assignT ?_;refine R.fin [0,1,5,6,7] ?_;refine Z14 ?_;refine Pc ?_;refine R.fin [0,1,5,6,7] ?_
   refine K.lpN (y+1) ⟨hlt,by omega,Cn hlt hy.2.2 hfat.1⟩ (by omega) (StCut.of_eq ?_)
   rw [hfm,List.map_append]
   rfl
  have hye:x.1.take y=x.1:=List.take_of_length_le (by simp at ht15;omega)
  have hyl:y=x.1.length:=by have:=hy.1;simp at ht15;omega
  have hmany:L9 x.1 x.2.1=false:=by
   unfold L9
   rw [decide_eq_false (by have:=hy.2.1;omega),Bool.false_or,List.any_eq_false]
   intro e he
   obtain ⟨j,hj⟩:=List.getElem?_of_mem he
   rw [hy.2.2 j e (by have:=(List.getElem?_eq_some_iff.1 hj).1;omega) hj]
   simp
  refine Z98 ?_;refine Z48 ?_;refine Sf ?_;refine R.fin [1,5,6,63] ?_
  refine W.cond (fun ht63=>?_) (fun ht63=>?_)
  ·have hw:Ev x.2.2 x.1 x.2.1=true:=by
    have h9:=ht63
    rw [hye] at h9
    simp only [Bool.or_eq_true,decide_eq_true_eq,List.length_map] at h9
    cases hf:x.2.2 with
    | zero=>rw [Ev,hne];rfl
    | succ f =>
     rw [Ev,if_neg (by rw [hne];simp),if_neg (by rw [hmany];simp),if_pos (by rw [decide_eq_true_eq];omega)]
   refine Z63 ?_;refine K.thR ?_;refine gj ?_;exact zt
  have h9:=ht63
  rw [hye] at h9
  simp only [Bool.or_eq_false_iff,decide_eq_false_iff_not,List.length_map] at h9
  obtain ⟨f,hf⟩:∃f,x.2.2=f+1:=⟨x.2.2-1,by omega⟩
  have hw:Ev x.2.2 x.1 x.2.1=Ev f (x.1.flatMap Expr.kids) (x.2.1+x.1.length):=by
   rw [hf,Ev,if_neg (by rw [hne];simp),if_neg (by rw [hmany];simp),if_neg (by rw [decide_eq_true_eq];omega)]
  refine Sg ?_;refine R.fin [0,1,5] ?_;refine Pc ?_;refine R.fin [0,1,5] ?_;refine K.blN ?_
  refine K.lpN (x.1.flatMap Expr.kids,x.2.1+x.1.length,f) ⟨hx.eq.trans hw,by show f≤61;omega,by show x.2.1+x.1.length≤500;have:=hy.2.1;omega⟩ (by show f<x.2.2;omega) (StCut.of_eq ?_)
  rw [hye,hyl]
  congr 4
  simp only [AV.v.injEq,Value.int.injEq,true_and]
  omega
 have hnil:x.1=[]:=by have:=ht10;simp at this;exact this
 refine Z98 ?_;refine Z63 ?_;exact K.fin (V.one V.tmp) ⟨by rw [hx.eq,hnil];cases x.2.2<;>rfl,rfl⟩

theorem c52 (e:Expr) (Hp:List AObj):AFun Tryz.prog 52 [A5 e] Hp (At (R4 e)):=by
 refine ACall.body [.tmp 2] [0] Tryz.func52 Tryz.ntmps52 (fun d=>?_)
 refine Z96 ?_;refine Z2 ?_;refine Lo ?_;refine R.call Tryz.call76 (c76 [e] _) ?_;refine R.go ?_;exact wn

theorem oo {a b:List Expr} (hl:a.length=b.length) (h:∀(j:Nat) (y z:Expr),j<a.length→a[j]? = some y→b[j]? = some z→eqE y z=true):eqL a b=true:=by
 rw [Mk]
 refine Sq hl fun j y hj hy=>?_
 have hjb:j<b.length:=by omega
 have:=h j y b[j] hj hy (List.getElem?_eq_getElem hjb)
 rw [List.getElem?_eq_getElem hjb,(Vb _ _).1 this]
theorem xw {a b:List Expr} (h:eqL a b=true) {j:Nat} (hj:j<a.length) (hb:j<b.length):eqE a[j] b[j]=true:=by
 have e:=(Mk _ _).1 h
 subst e
 exact R0 _
theorem xy {a b:List Expr} {j:Nat} (hj:j<a.length) (hb:j<b.length) (h:eqE a[j] b[j]=false):eqL a b=false:=by
 rw [Bool.eq_false_iff]
 intro h2
 rw [xw h2 hj hb] at h
 cases h
theorem u5 {a b:List Expr} (h:a.length≠b.length):eqL a b=false:=by
 rw [Bool.eq_false_iff]
 exact fun h2=>h (su h2)
theorem AB7 {a b:List Expr} {x:Nat} (hx:x<a.length) (hb:x<b.length) (h:∀(j:Nat) (y z:Expr),j<x→a[j]? = some y→b[j]? = some z→eqE y z=true) (he:eqE a[x] b[x]=true):∀(j:Nat) (y z:Expr),j<x+1→a[j]? = some y→b[j]? = some z→eqE y z=true:=by
 intro j y z hj h1 h2
 rcases Nat.lt_or_ge j x with h3|h3
 ·exact h j y z h3 h1 h2
 have:j=x:=by omega
 subst this
 rw [List.getElem?_eq_getElem hx] at h1
 rw [List.getElem?_eq_getElem hb] at h2
 injection h1 with h1
 injection h2 with h2
 rw [←h1,←h2]
 exact he
theorem ACy (n:Nat) (a b:List Expr) (ha:a.length≤1048576) (hok:∀y∈a,okE n y) (ih:∀(x:Expr),okE n x→∀(y:Expr) (Hp:List AObj),AFun Tryz.prog 111 [A5 x,A5 y] Hp (At (eqE x y))) (Hp:List AObj):AFun Tryz.prog 148 [.slice false 6 (a.map A5),.slice false 6 (b.map A5),.fn (.func 111) [] []] Hp (At (eqL a b)):=by
 refine ACall.body [.tmp 6] [0,1,2] Tryz.func148 Tryz.ntmps148 (fun d=>?_)
 refine Z2 ?_;refine Qa ?_;refine Zg ?_;refine R.fin [0,1,2,14] ?_
 refine W.cond (fun ht14=>?_) (fun ht14=>?_)
 ·have hf:eqL a b=false:=u5 (by have:=ht14;simp at this;omega)
  refine Wn ?_;refine K.thR ?_;exact K.fin (V.one V.tmp) ⟨by rw [hf],rfl⟩
 have hlen:a.length=b.length:=by have:=ht14;simp at this;omega
 refine Wq ?_;refine R.fin [1,2,15,16,17] ?_
 refine AW.loopC (α:=Nat) (fun i=>⟨32,A3 1 (.slice false 6 (b.map A5)) (A3 2 (.fn (.func 111) [] []) (A3 15 (.slice false 6 (a.map A5)) (A3 16 (A2 (a.length:Nat)) (A3 17 (A2 (i:Nat)) (fun _=>.any))))),Hp,[],[],none⟩) (fun i=>i≤a.length∧∀(j:Nat) (y z:Expr),j<i→a[j]? = some y→b[j]? = some z→eqE y z=true) (fun i=>a.length-i) (0) ⟨Nat.zero_le _,fun j y z h=>by omega⟩ (StLe.of_eq (by simp)) rfl (fun i hi=>?_)
 refine Z2 ?_;refine R.fin [1,2,15,16,17,18] ?_
 refine W.condX (fun ht18=>?_) (fun ht18=>?_)
 ·have hlt:i<a.length:=by simpa using ht18
  have hlb:i<b.length:=by omega
  refine Ma ?_
  refine R.go (h:=Q.indexAddr (i) (A5 a[i]) (fun _=>An hlt)) (hr:=?_)
  refine Zf ?_;refine R.fin [1,2,7,8,15,16,17] ?_;refine Z1 ?_
  refine R.go (h:=Q.indexAddr (i) (A5 b[i]) (fun _=>An hlb)) (hr:=?_)
  refine Q8 ?_;refine R.fin [1,2,8,9,15,16,17] ?_;refine Z13 ?_;refine R.callV Tryz.call111 (ih a[i] (hok _ (List.getElem_mem hlt)) b[i] _) ?_;refine R.go ?_;refine R.fin [1,2,15,16,17,30] ?_
  refine W.cond (fun ht30=>?_) (fun ht30=>?_)
  ·have hf:eqL a b=false:=xy hlt hlb (by simpa using ht30)
   refine Wn ?_;refine Z54 ?_;exact K.fin (V.one V.tmp) ⟨by rw [hf],rfl⟩
  have he:eqE a[i] b[i]=true:=by simpa using ht30
  refine Z57 ?_;refine R.fin [1,2,15,16,17] ?_;refine K.lpN (i+1) ⟨hlt,AB7 hlt hlb hi.2 he⟩ (by omega) ?_
  exact StCut.take (own:=[]) (fun _=>.refl _) (by repeat (first|exact Aq|refine Ap (by first|exact Di|(simp;done)) ?_)) (by simp) (by simp)
 have hxe:a.length≤i:=by simpa using ht18
 refine Z35 ?_;refine Wn ?_;exact K.fin (V.one V.tmp) ⟨by rw [oo hlen (fun j y z hj=>hi.2 j y z (by omega))],rfl⟩

theorem AB8:∀(n:Nat) (x:Expr),okE n x→∀(y:Expr) (Hp:List AObj),AFun Tryz.prog 111 [A5 x,A5 y] Hp (At (eqE x y)):=by
 intro n
 induction n with
 | zero=>exact fun x h=>h.elim
 | succ n ih =>
 intro x hok y Hp
 refine ACall.body [.tmp 4] [0,1] Tryz.func111 Tryz.ntmps111 (fun d=>?_)
 refine Z13 ?_;refine Hl ?_;refine Z19 ?_;refine Z62 ?_;refine Z41 ?_;refine Wi ?_
 refine G.go (h:=Q.eqlAgg Si (fun w=>G8 x.val.kind x.val.n y.val.kind y.val.n x.val.s y.val.s w)) (hr:=?_)
 refine Wi ?_;refine G.call Tryz.call148 (fun hB=>ACy n x.kids y.kids hok.2.1 hok.2.2 ih _) ?_;refine Z0 ?_;refine Z22 ?_;exact K.fin (V.one V.tmp) ⟨by rw [xl],rfl⟩

set_option maxRecDepth 8000
/-! Moves: what mig.Right, sound.* and the document's layers 18, 19 answer. -/
structure Mov where
 kind:Int
 take:List Str
 give:List Col
 ahead:List Expr
 back:List Expr
abbrev I9 (l:List Expr):AV:=.slice false 6 (l.map A5)
abbrev Ny (m:Mov):List AV:=[A2 m.kind,Fe m.take,Ac m.give,I9 m.ahead,I9 m.back]
abbrev E6 (m:Mov):AV:=.agg (Ny m)
abbrev D8 (l:List Mov):AV:=.slice false 5 (l.map E6)
/-- Trees that may be walked. -/
structure OkEs (l:List Expr):Prop where
 len:l.length≤1048576
 ok:∀e∈l,okE 61 e
 size:∀e∈l,sizeE e≤1048576
 rng:∀e∈l,Bn Do e=true
structure OkMov (m:Mov):Prop where
 takes:m.take.length≤1048576
 names:∀s∈m.take,s.length≤1048576
 gives:OkCols m.give
 gives2:m.give.length≤1000000
 ahead:OkEs m.ahead
 back:OkEs m.back
structure OkMovs (l:List Mov):Prop where
 len:l.length≤1048576
 each:∀m∈l,OkMov m
def Db (m:Mov):Bool:=
 if ((m.ahead.length:Int) != (m.give.length:Int)) || ((m.back.length:Int) != (m.take.length:Int)) then false
 else if m.kind==1 then ((m.take.length:Int)==0)&&((m.give.length:Int)==1)
 else if m.kind==2 then ((m.take.length:Int)==1)&&((m.give.length:Int)==0)
 else if (m.kind==3) || (m.kind==6) then ((m.take.length:Int)==1)&&((m.give.length:Int)==1)
 else if m.kind==4 then ((m.take.length:Int)==1)&&decide ((1:Int)<(m.give.length:Int))
 else if m.kind==5 then decide ((1:Int)<(m.take.length:Int))&&((m.give.length:Int)==1)
 else false
def Kc (m:Mov) (c:Col):Bool:=Cm c.name&&(((Bp c.kind==[])==(m.kind==3)) && !((m.kind==3)&&(c.kind != 0)))
def Fy (m:Mov):Bool:=
 if m.kind==3 then eqE (m.ahead.getD 0 Ak) (Bv (m.take.getD 0 []))&&eqE (m.back.getD 0 Ak) (Bv (m.give.getD 0 ⟨[],0⟩).name)
 else if m.kind==6 then m.take.getD 0 []==(m.give.getD 0 ⟨[],0⟩).name else true
def Fo (m:Mov):Bool:=(((((Db m&&m.give.all (Kc m))&&m.take.all Cm)&&m.ahead.all Ax)&&m.back.all Ax)&&Fy m)
def b6 (l:List Mov):Bool:=decide ((l.length:Int)≤8)&&l.all Fo
/-! Columns behind moves. -/
def Tu (e:Expr) (c:List Col) (w:Int):Bool:=((Fm e c).2==0)&&(((Fm e c).1==w) || ((Fm e c).1==0))
def Aw (c:List Col) (m:Mov):List Col:=
 if m.kind==3 then (if B3 (m.take.getD 0 []) c<0 then m.give else match m.give with
  | []=>[]
  | y::r=>⟨y.name,(c.getD (B3 (m.take.getD 0 []) c).toNat ⟨[],0⟩).kind⟩::r)
 else m.give
def Nz (e:Expr) (c:List Col) (w:Int):Int:=if (Fm e c).2 != 0 then (Fm e c).2 else if !Tu e c w then 10 else 0
def Bz (over:List Col):List Expr→List Col→Int
 | x::r,w::ws=>if Nz x over w.kind != 0 then Nz x over w.kind else Bz over r ws
 | _,_=>0
def F4 (c:List Col) (m:Mov):List Col:=m.take.map fun s=>c.getD (B3 s c).toNat ⟨[],0⟩
def Ay (c:List Col) (m:Mov):List Col×Int:=
 if (Ca c m.take (Aw c m)).2 != 0 then ([],(Ca c m.take (Aw c m)).2)
 else if Bz c m.ahead (Aw c m) != 0 then ([],Bz c m.ahead (Aw c m))
 else if Bz (Ca c m.take (Aw c m)).1 m.back (F4 c m) != 0 then ([],Bz (Ca c m.take (Aw c m)).1 m.back (F4 c m))
 else ((Ca c m.take (Aw c m)).1,0)
/-- The columns ahead of each move and behind the last one, till one is wrong; the error. -/
def Ci (c:List Col):List Mov→List (List Col)×Int
 | []=>([c],0)
 | m::r=>if (Ay c m).2 != 0 then ([c],(Ay c m).2) else (c::(Ci (Ay c m).1 r).1,(Ci (Ay c m).1 r).2)
def Im (c:List Col) (l:List Mov):Bool:=Cb c&&b6 l
/-- ref19.Steps. -/
def Lw (c:List Col) (l:List Mov):List (List Col)×Int:=if Im c l then Ci c l else ([],1)
/-- sound.Steps. -/
def Bo (c:List Col) (l:List Mov):List (List Col)×Int:=if (Lw c l).2 != 0 then ([],(Lw c l).2) else Lw c l
theorem Kx {m:Mov} (h:Fo m=true):Db m=true:=by
 unfold Fo at h
 simp only [Bool.and_eq_true] at h
 exact h.1.1.1.1.1
theorem F5 {m:Mov} (h:Db m=true):m.ahead.length=m.give.length∧m.back.length=m.take.length:=by
 unfold Db at h
 split at h
 ·cases h
 rename_i h1
 simp only [Bool.or_eq_true,bne_iff_ne,ne_eq,not_or,Classical.not_not] at h1
 omega
theorem Rh {m:Mov} (h:Db m=true) (h3:((m.kind==3) || (m.kind==6))=true):m.take.length=1∧m.give.length=1:=by
 unfold Db at h
 split at h
 ·cases h
 have h1:(m.kind==1)=false:=by simp at h3 ⊢;omega
 have h2:(m.kind==2)=false:=by simp at h3 ⊢;omega
 simp only [h1,h2,h3,if_true,if_false,Bool.false_eq_true,Bool.and_eq_true,beq_iff_eq] at h
 omega
theorem Io (c:List Col) (m:Mov):(Aw c m).length=m.give.length:=by
 unfold Aw
 split
 ·split
  ·rfl
  split<;>simp_all
 rfl
set_option maxRecDepth 4000
abbrev P1 (s:Sign):AV:=.agg [.slice false 1 (s.kids.map A2),A2 s.own]
theorem Gn {n:Nat} (s:Sign):Low n (P1 s):=by simp [or_imp,forall_and]
theorem xz {m:Sign} {a o:Int} (h:m=⟨[a],o⟩):AV.agg [.slice false 1 [A2 a],A2 o]=P1 m:=by rw [h];rfl
theorem ot {m:Sign} {a b o:Int} (h:m=⟨[a,b],o⟩):AV.agg [.slice false 1 [A2 a,A2 b],A2 o]=P1 m:=by rw [h];rfl
theorem y6 {m:Sign} {a b c o:Int} (h:m=⟨[a,b,c],o⟩):AV.agg [.slice false 1 [A2 a,A2 b,A2 c],A2 o]=P1 m:=by rw [h];rfl
theorem ACz (s:Str) (Hp:List AObj):AFun Tryz.prog 192 [A9 s] Hp (P1 (C9 s)):=by
 refine ACall.body [.cell 2 206] [0] Tryz.func192 Tryz.ntmps192 (fun d=>?_)
 refine Z52 ?_;refine Z36 ?_;refine Hl ?_;refine Gx ?_;refine Z31 ?_;refine R.fin [2,3,4] ?_
 refine W.cond (fun ht4=>?_) (fun ht4=>?_)
 ·refine Z6 ?_
  refine W.cond (fun ht4=>?_) (fun ht4=>?_)
  ·exact Z55
  refine Z31 ?_;refine R.fin [2,3,9] ?_
  refine W.cond (fun ht9=>?_) (fun ht9=>?_)
  ·refine Z6 ?_
   refine W.cond (fun ht9=>?_) (fun ht9=>?_)
   ·exact Z55
   refine Z76 ?_
   refine W.cond (fun ht18=>?_) (fun ht18=>?_)
   ·exact Z55
   exact Z89
  refine Z83 ?_
  refine W.cond (fun ht9=>?_) (fun ht9=>?_)
  ·refine Z6 ?_
   refine W.cond (fun ht9=>?_) (fun ht9=>?_)
   ·exact Z55
   refine Z76 ?_
   refine W.cond (fun ht18=>?_) (fun ht18=>?_)
   ·exact Z55
   exact Z89
  refine Z83 ?_
  refine W.cond (fun ht9=>?_) (fun ht9=>?_)
  ·refine Z6 ?_
   refine W.cond (fun ht9=>?_) (fun ht9=>?_)
   ·exact Z55
   refine Z76 ?_
   refine W.cond (fun ht18=>?_) (fun ht18=>?_)
   ·exact Z55
   exact Z89
  refine Z83 ?_
  refine W.cond (fun ht9=>?_) (fun ht9=>?_)
  ·refine Z6 ?_
   refine W.cond (fun ht9=>?_) (fun ht9=>?_)
   ·exact Z55
   refine Z76 ?_
   refine W.cond (fun ht18=>?_) (fun ht18=>?_)
   ·exact Z55
   exact Z89
  refine Z83 ?_
  refine W.cond (fun ht9=>?_) (fun ht9=>?_)
  ·refine Z6 ?_
   refine W.cond (fun ht9=>?_) (fun ht9=>?_)
   ·exact Z55
   refine Z76 ?_
   refine W.cond (fun ht18=>?_) (fun ht18=>?_)
   ·exact Z55
   exact Z89
  refine Z20 ?_;refine R.fin [2,3,9] ?_;refine K.thN ?_
  refine W.cond (fun ht9=>?_) (fun ht9=>?_)
  ·exact Z55
  refine Z76 ?_
  refine W.cond (fun ht18=>?_) (fun ht18=>?_)
  ·exact Z55
  exact Z89
 refine Z20 ?_;refine R.fin [2,3,4] ?_;refine K.thN ?_
 refine W.cond (fun ht4=>?_) (fun ht4=>?_)
 ·exact Z55
 refine Z31 ?_;refine R.fin [2,3,9] ?_
 refine W.cond (fun ht9=>?_) (fun ht9=>?_)
 ·refine Z6 ?_
  refine W.cond (fun ht9=>?_) (fun ht9=>?_)
  ·exact Z55
  refine Z76 ?_
  refine W.cond (fun ht18=>?_) (fun ht18=>?_)
  ·exact Z55
  exact Z89
 refine Z83 ?_
 refine W.cond (fun ht9=>?_) (fun ht9=>?_)
 ·refine Z6 ?_
  refine W.cond (fun ht9=>?_) (fun ht9=>?_)
  ·exact Z55
  refine Z76 ?_
  refine W.cond (fun ht18=>?_) (fun ht18=>?_)
  ·exact Z55
  exact Z89
 refine Z83 ?_
 refine W.cond (fun ht9=>?_) (fun ht9=>?_)
 ·refine Z6 ?_
  refine W.cond (fun ht9=>?_) (fun ht9=>?_)
  ·exact Z55
  refine Z76 ?_
  refine W.cond (fun ht18=>?_) (fun ht18=>?_)
  ·exact Z55
  exact Z89
 refine Z83 ?_
 refine W.cond (fun ht9=>?_) (fun ht9=>?_)
 ·refine Z6 ?_
  refine W.cond (fun ht9=>?_) (fun ht9=>?_)
  ·exact Z55
  refine Z76 ?_
  refine W.cond (fun ht18=>?_) (fun ht18=>?_)
  ·exact Z55
  exact Z89
 refine Z83 ?_
 refine W.cond (fun ht9=>?_) (fun ht9=>?_)
 ·refine Z6 ?_
  refine W.cond (fun ht9=>?_) (fun ht9=>?_)
  ·exact Z55
  refine Z76 ?_
  refine W.cond (fun ht18=>?_) (fun ht18=>?_)
  ·exact Z55
  exact Z89
 refine Z20 ?_;refine R.fin [2,3,9] ?_;refine K.thN ?_
 refine W.cond (fun ht9=>?_) (fun ht9=>?_)
 ·exact Z55
 refine Z76 ?_
 refine W.cond (fun ht18=>?_) (fun ht18=>?_)
 ·exact Z55
 exact Z89

theorem AD0 (s:Str) (Hp:List AObj):AFun Tryz.prog 193 [A9 s] Hp (P1 (Cs s)):=by
 refine ACall.body [.cell 2 206] [0] Tryz.func193 Tryz.ntmps193 (fun d=>?_)
 refine Z52 ?_;refine Z36 ?_;refine Hl ?_;refine Gx ?_;refine Z31 ?_;refine R.fin [2,3,4] ?_
 refine W.cond (fun ht4=>?_) (fun ht4=>?_)
 ·refine Z6 ?_
  refine W.cond (fun ht4=>?_) (fun ht4=>?_)
  ·exact Z77
  refine Z83 ?_
  refine W.cond (fun ht9=>?_) (fun ht9=>?_)
  ·exact Z77
  refine Z31 ?_;refine R.fin [2,3,13] ?_
  refine W.cond (fun ht13=>?_) (fun ht13=>?_)
  ·refine Z6 ?_
   refine W.cond (fun ht13=>?_) (fun ht13=>?_)
   ·exact Z77
   refine rz ?_
   refine W.cond (fun ht18=>?_) (fun ht18=>?_)
   ·exact Z77
   refine Z1 ?_;refine R.fin [2,22] ?_
   refine W.cond (fun ht22=>?_) (fun ht22=>?_)
   ·exact Z77
   exact s7
  refine Z20 ?_;refine R.fin [2,3,13] ?_;refine K.thN ?_
  refine W.cond (fun ht13=>?_) (fun ht13=>?_)
  ·exact Z77
  refine rz ?_
  refine W.cond (fun ht18=>?_) (fun ht18=>?_)
  ·exact Z77
  refine Z1 ?_;refine R.fin [2,22] ?_
  refine W.cond (fun ht22=>?_) (fun ht22=>?_)
  ·exact Z77
  exact s7
 refine Z20 ?_;refine R.fin [2,3,4] ?_;refine K.thN ?_
 refine W.cond (fun ht4=>?_) (fun ht4=>?_)
 ·exact Z77
 refine Z83 ?_
 refine W.cond (fun ht9=>?_) (fun ht9=>?_)
 ·exact Z77
 refine Z31 ?_;refine R.fin [2,3,13] ?_
 refine W.cond (fun ht13=>?_) (fun ht13=>?_)
 ·refine Z6 ?_
  refine W.cond (fun ht13=>?_) (fun ht13=>?_)
  ·exact Z77
  refine rz ?_
  refine W.cond (fun ht18=>?_) (fun ht18=>?_)
  ·exact Z77
  refine Z1 ?_;refine R.fin [2,22] ?_
  refine W.cond (fun ht22=>?_) (fun ht22=>?_)
  ·exact Z77
  exact s7
 refine Z20 ?_;refine R.fin [2,3,13] ?_;refine K.thN ?_
 refine W.cond (fun ht13=>?_) (fun ht13=>?_)
 ·exact Z77
 refine rz ?_
 refine W.cond (fun ht18=>?_) (fun ht18=>?_)
 ·exact Z77
 refine Z1 ?_;refine R.fin [2,22] ?_
 refine W.cond (fun ht22=>?_) (fun ht22=>?_)
 ·exact Z77
 exact s7

theorem c171 (e:Expr) (Hp:List AObj):AFun Tryz.prog 171 [A5 e] Hp (P1 (Bs e.op e.text)):=by
 refine ACall.body [.cell 2 206] [0] Tryz.func171 Tryz.ntmps171 (fun d=>?_)
 refine Z2 ?_;refine L3 ?_;refine R.fin [1,2] ?_;refine Z31 ?_;refine R.fin [1,2,4] ?_;refine Z90 ?_;refine R.fin [1,2,4,5] ?_
 refine W.cond (fun ht5=>?_) (fun ht5=>?_)
 ·refine Z32 ?_;refine Z5 ?_
  first|(by_cases e0:Bs e.op e.text=⟨[1],1⟩;exact K.fin (V.one (V.cellN Tryz.isAgg206 Tryz.sizeOf206)) ⟨by rw [e0];rfl,rfl⟩;exfalso;apply e0;simp_all [Bs];done)|(by_cases e0:Bs e.op e.text=⟨[3],3⟩;exact K.fin (V.one (V.cellN Tryz.isAgg206 Tryz.sizeOf206)) ⟨by rw [e0];rfl,rfl⟩;exfalso;apply e0;simp_all [Bs];done)|(by_cases e0:Bs e.op e.text=C9 e.text;exact K.fin (V.one (V.cellN Tryz.isAgg206 Tryz.sizeOf206)) ⟨by rw [e0],rfl⟩ (hlow:=Gn _);exfalso;apply e0;simp_all [Bs];done)|(by_cases e0:Bs e.op e.text=Cs e.text;exact K.fin (V.one (V.cellN Tryz.isAgg206 Tryz.sizeOf206)) ⟨by rw [e0],rfl⟩ (hlow:=Gn _);exfalso;apply e0;simp_all [Bs];done)
 refine Z1 ?_;refine R.fin [1,2,4,9] ?_
 refine W.cond (fun ht9=>?_) (fun ht9=>?_)
 ·refine Z32 ?_;refine Z5 ?_
  first|(by_cases e0:Bs e.op e.text=⟨[1],1⟩;exact K.fin (V.one (V.cellN Tryz.isAgg206 Tryz.sizeOf206)) ⟨by rw [e0];rfl,rfl⟩;exfalso;apply e0;simp_all [Bs];done)|(by_cases e0:Bs e.op e.text=⟨[3],3⟩;exact K.fin (V.one (V.cellN Tryz.isAgg206 Tryz.sizeOf206)) ⟨by rw [e0];rfl,rfl⟩;exfalso;apply e0;simp_all [Bs];done)|(by_cases e0:Bs e.op e.text=C9 e.text;exact K.fin (V.one (V.cellN Tryz.isAgg206 Tryz.sizeOf206)) ⟨by rw [e0],rfl⟩ (hlow:=Gn _);exfalso;apply e0;simp_all [Bs];done)|(by_cases e0:Bs e.op e.text=Cs e.text;exact K.fin (V.one (V.cellN Tryz.isAgg206 Tryz.sizeOf206)) ⟨by rw [e0],rfl⟩ (hlow:=Gn _);exfalso;apply e0;simp_all [Bs];done)
 refine Z1 ?_;refine R.fin [1,2,13] ?_
 refine W.cond (fun ht13=>?_) (fun ht13=>?_)
 ·refine Z1 ?_;refine R.call Tryz.call192 (ACz e.text _) ?_;refine Z11 ?_;refine Z5 ?_
  first|(by_cases e0:Bs e.op e.text=⟨[1],1⟩;exact K.fin (V.one (V.cellN Tryz.isAgg206 Tryz.sizeOf206)) ⟨by rw [e0];rfl,rfl⟩;exfalso;apply e0;simp_all [Bs];done)|(by_cases e0:Bs e.op e.text=⟨[3],3⟩;exact K.fin (V.one (V.cellN Tryz.isAgg206 Tryz.sizeOf206)) ⟨by rw [e0];rfl,rfl⟩;exfalso;apply e0;simp_all [Bs];done)|(by_cases e0:Bs e.op e.text=C9 e.text;exact K.fin (V.one (V.cellN Tryz.isAgg206 Tryz.sizeOf206)) ⟨by rw [e0],rfl⟩ (hlow:=Gn _);exfalso;apply e0;simp_all [Bs];done)|(by_cases e0:Bs e.op e.text=Cs e.text;exact K.fin (V.one (V.cellN Tryz.isAgg206 Tryz.sizeOf206)) ⟨by rw [e0],rfl⟩ (hlow:=Gn _);exfalso;apply e0;simp_all [Bs];done)
 refine Zi ?_;refine R.call Tryz.call193 (AD0 e.text _) ?_;refine Z11 ?_
 first|(by_cases e0:Bs e.op e.text=⟨[1],1⟩;exact K.fin (V.one (V.cellN Tryz.isAgg206 Tryz.sizeOf206)) ⟨by rw [e0];rfl,rfl⟩;exfalso;apply e0;simp_all [Bs];done)|(by_cases e0:Bs e.op e.text=⟨[3],3⟩;exact K.fin (V.one (V.cellN Tryz.isAgg206 Tryz.sizeOf206)) ⟨by rw [e0];rfl,rfl⟩;exfalso;apply e0;simp_all [Bs];done)|(by_cases e0:Bs e.op e.text=C9 e.text;exact K.fin (V.one (V.cellN Tryz.isAgg206 Tryz.sizeOf206)) ⟨by rw [e0],rfl⟩ (hlow:=Gn _);exfalso;apply e0;simp_all [Bs];done)|(by_cases e0:Bs e.op e.text=Cs e.text;exact K.fin (V.one (V.cellN Tryz.isAgg206 Tryz.sizeOf206)) ⟨by rw [e0],rfl⟩ (hlow:=Gn _);exfalso;apply e0;simp_all [Bs];done)

theorem AB9 (a b:Int) (Hp:List AObj):AFun Tryz.prog 194 [A2 a,A2 b] Hp (.tup [A2 (Cc a b).1,At (Cc a b).2]):=by
 refine ACall.body [.tmp 4,.tmp 5] [0,1] Tryz.func194 Tryz.ntmps194 (fun d=>?_)
 refine Zc ?_;refine Wm ?_;refine R.fin [0,1,6] ?_
 refine W.cond (fun ht6=>?_) (fun ht6=>?_)
 ·refine Z13 ?_;refine Z80 ?_
  first|(by_cases e0:Cc a b=(b,true);exact K.fin (V.two V.tmp V.tmp) ⟨by rw [e0],rfl⟩;exfalso;apply e0;simp_all [Cc];done)|(by_cases e0:Cc a b=(a,true);exact K.fin (V.two V.tmp V.tmp) ⟨by rw [e0],rfl⟩;exfalso;apply e0;simp_all [Cc];done)|(by_cases e0:Cc a b=(0,false);exact K.fin (V.two V.tmp V.tmp) ⟨by rw [e0],rfl⟩;exfalso;apply e0;simp_all [Cc];done)
 refine Z13 ?_;refine Z97 ?_;refine R.fin [0,10] ?_
 refine W.cond (fun ht10=>?_) (fun ht10=>?_)
 ·refine Z13 ?_;refine Z80 ?_
  first|(by_cases e0:Cc a b=(b,true);exact K.fin (V.two V.tmp V.tmp) ⟨by rw [e0],rfl⟩;exfalso;apply e0;simp_all [Cc];done)|(by_cases e0:Cc a b=(a,true);exact K.fin (V.two V.tmp V.tmp) ⟨by rw [e0],rfl⟩;exfalso;apply e0;simp_all [Cc];done)|(by_cases e0:Cc a b=(0,false);exact K.fin (V.two V.tmp V.tmp) ⟨by rw [e0],rfl⟩;exfalso;apply e0;simp_all [Cc];done)
 refine Zi ?_;refine Z12 ?_
 first|(by_cases e0:Cc a b=(b,true);exact K.fin (V.two V.tmp V.tmp) ⟨by rw [e0],rfl⟩;exfalso;apply e0;simp_all [Cc];done)|(by_cases e0:Cc a b=(a,true);exact K.fin (V.two V.tmp V.tmp) ⟨by rw [e0],rfl⟩;exfalso;apply e0;simp_all [Cc];done)|(by_cases e0:Cc a b=(0,false);exact K.fin (V.two V.tmp V.tmp) ⟨by rw [e0],rfl⟩;exfalso;apply e0;simp_all [Cc];done)

structure FitAt (s:Sign) (ks:List Int) (x:Nat×Int):Prop where
 le:x.1≤ks.length
 eq:Ew s.kids ks 0=Ew (s.kids.drop x.1) (ks.drop x.1) x.2
theorem FitAt.step {s:Sign} {ks:List Int} {x:Nat×Int} (h:FitAt s ks x) (hk:x.1<ks.length) (hs:x.1<s.kids.length):Ew s.kids ks 0=(if s.kids[x.1] == -2 then Ew (s.kids.drop (x.1+1)) (ks.drop (x.1+1)) x.2 else if s.kids[x.1] == -1 then (if (Cc x.2 ks[x.1]).2 then Ew (s.kids.drop (x.1+1)) (ks.drop (x.1+1)) (Cc x.2 ks[x.1]).1 else none) else if (Cc s.kids[x.1] ks[x.1]).2 then Ew (s.kids.drop (x.1+1)) (ks.drop (x.1+1)) x.2 else none):=by
 rw [h.eq,List.drop_eq_getElem_cons hk,List.drop_eq_getElem_cons hs,Ew]
theorem FitAt.skip {s:Sign} {ks:List Int} {x:Nat×Int} (h:FitAt s ks x) (hk:x.1<ks.length) (hs:x.1<s.kids.length) (h2:(s.kids[x.1] == -2)=true):FitAt s ks (x.1+1,x.2):=⟨hk,by rw [h.step hk hs,if_pos h2]⟩
theorem FitAt.same {s:Sign} {ks:List Int} {x:Nat×Int} (h:FitAt s ks x) (hk:x.1<ks.length) (hs:x.1<s.kids.length) (h2:(s.kids[x.1] == -2)=false) (h1:(s.kids[x.1] == -1)=true) (hm:(Cc x.2 ks[x.1]).2=true):FitAt s ks (x.1+1,(Cc x.2 ks[x.1]).1):=⟨hk,by rw [h.step hk hs,if_neg (by rw [h2];simp),if_pos h1,if_pos hm]⟩
theorem FitAt.want {s:Sign} {ks:List Int} {x:Nat×Int} (h:FitAt s ks x) (hk:x.1<ks.length) (hs:x.1<s.kids.length) (h2:(s.kids[x.1] == -2)=false) (h1:(s.kids[x.1] == -1)=false) (hm:(Cc s.kids[x.1] ks[x.1]).2=true):FitAt s ks (x.1+1,x.2):=⟨hk,by rw [h.step hk hs,if_neg (by rw [h2];simp),if_neg (by rw [h1];simp),if_pos hm]⟩
theorem FitAt.bad {s:Sign} {ks:List Int} {x:Nat×Int} (h:FitAt s ks x) (hk:x.1<ks.length) (hs:x.1<s.kids.length) (h2:(s.kids[x.1] == -2)=false) (hm:(if s.kids[x.1] == -1 then (Cc x.2 ks[x.1]).2 else (Cc s.kids[x.1] ks[x.1]).2)=false):Pf s ks=(0,10):=by
 unfold Pf
 rw [h.step hk hs,if_neg (by rw [h2];simp)]
 split at hm
 ·rename_i h1
  rw [if_pos h1,if_neg (by rw [hm];simp)]
 rename_i h1
 rw [if_neg h1,if_neg (by rw [hm];simp)]
theorem FitAt.out {s:Sign} {ks:List Int} {x:Nat×Int} (h:FitAt s ks x) (hk:ks.length≤x.1):Pf s ks=if s.own == -1 then (x.2,0) else (s.own,0):=by
 unfold Pf
 rw [h.eq,List.drop_of_length_le hk]
 cases s.kids.drop x.1<;>rfl
theorem AD1 (s:Sign) (ks:List Int) (hks:ks.length≤s.kids.length) (hk2:ks.length≤1048576) (Hp:List AObj):AFun Tryz.prog 172 [P1 s,.slice false 1 (ks.map A2)] Hp (.tup [A2 (Pf s ks).1,A2 (Pf s ks).2]):=by
 refine ACall.body [.tmp 4,.tmp 5] [0,1] Tryz.func172 Tryz.ntmps172 (fun d=>?_)
 refine Z13 ?_;refine R.fin [1,2] ?_;refine Cz ?_;refine Z21 ?_;refine R.fin [1,2,6] ?_;refine Z30 ?_;refine gw ?_
 refine AW.loopC (α:=Nat×Int) (fun x=>⟨49,A3 2 (.ro [.slice false 1 (s.kids.map A2),A2 s.own]) (A3 6 (.ptr (oid Hp.length 0) 0) (A3 13 (.slice false 1 (ks.map A2)) (A3 14 (A2 (ks.length:Nat)) (A3 15 (A2 (x.1:Nat)) (fun _=>.any))))),Hp,[.cells 3 [A2 x.2]],[],none⟩) (fun x=>FitAt s ks x) (fun x=>ks.length-x.1) ((0,0)) ⟨Nat.zero_le _,rfl⟩ (StLe.of_eq (by simp)) rfl (fun x hx=>?_)
 refine Z2 ?_;refine R.fin [2,6,13,14,15,16] ?_
 refine W.condX (fun ht16=>?_) (fun ht16=>?_)
 ·have hlt:x.1<ks.length:=by simpa using ht16
  have hls:x.1<s.kids.length:=by omega
  refine Ma ?_
  refine R.go (h:=Q.indexAddr (x.1) (A2 ks[x.1]) (fun _=>An hlt)) (hr:=?_)
  refine Z29 ?_;refine R.fin [2,6,7,8,13,14,15] ?_;refine Z13 ?_
  refine R.go (h:=Q.indexAddr (x.1) (A2 s.kids[x.1]) (fun _=>An hls)) (hr:=?_)
  refine Q8 ?_;refine R.fin [2,6,8,9,13,14,15] ?_;refine Z31 ?_;refine R.fin [2,6,8,9,13,14,15,26] ?_
  refine W.cond (fun ht26=>?_) (fun ht26=>?_)
  ·refine W.keep [2,6,13,14,15] ?_;refine Z59 ?_;refine K.blE ?_;refine K.thN ?_;refine Z20 ?_;refine gw ?_
   first|(refine K.lpN (x.1+1,x.2) (hx.skip hlt hls ht26) (by show ks.length-(x.1+1)<ks.length-x.1;omega) ?_;exact StCut.take (own:=[.cells 3 [A2 x.2]]) (fun _=>.refl _) (by repeat (first|exact Aq|refine Ap (by first|(simp [or_imp,forall_and];done)|(simp [oid]<;>omega)) ?_)) (by intro y hy;rw [List.mem_singleton.1 hy];intro z hz;rw [List.mem_singleton.1 hz];simp) (by simp))|(refine K.lpN (x.1+1,(Cc x.2 ks[x.1]).1) (hx.same hlt hls ht26 ht28 (by simpa using ht38)) (by show ks.length-(x.1+1)<ks.length-x.1;omega) ?_;exact StCut.take (own:=[.cells 3 [A2 (Cc x.2 ks[x.1]).1]]) (fun _=>.refl _) (by repeat (first|exact Aq|refine Ap (by first|(simp [or_imp,forall_and];done)|(simp [oid]<;>omega)) ?_)) (by intro y hy;rw [List.mem_singleton.1 hy];intro z hz;rw [List.mem_singleton.1 hz];simp) (by simp))|(refine K.lpN (x.1+1,x.2) (hx.want hlt hls ht26 ht28 (by simpa using ht38)) (by show ks.length-(x.1+1)<ks.length-x.1;omega) ?_;exact StCut.take (own:=[.cells 3 [A2 x.2]]) (fun _=>.refl _) (by repeat (first|exact Aq|refine Ap (by first|(simp [or_imp,forall_and];done)|(simp [oid]<;>omega)) ?_)) (by intro y hy;rw [List.mem_singleton.1 hy];intro z hz;rw [List.mem_singleton.1 hz];simp) (by simp))
  refine Z99 ?_;refine R.fin [2,6,8,9,10,13,14,15] ?_;refine Z31 ?_;refine R.fin [2,6,8,10,13,14,15,28] ?_
  refine W.cond (fun ht28=>?_) (fun ht28=>?_)
  ·refine Z81 ?_;refine R.fin [2,6,8,10,13,14,15] ?_;refine K.thN ?_;refine Z19 ?_;refine R.call Tryz.call194 (AB9 _ _ _) ?_;refine Z65 ?_;refine R.fin [2,6,10,11,12,13,14,15] ?_;refine Z31 ?_;refine R.fin [2,6,10,11,13,14,15,38] ?_
   refine W.cond (fun ht38=>?_) (fun ht38=>?_)
   ·have hbad:=hx.bad hlt hls ht26 (by first|(rw [if_pos ht28];simpa using ht38)|(rw [if_neg (by rw [ht28];simp)];simpa using ht38))
    refine Z1 ?_;refine Wj ?_;exact zu
   refine Z6 ?_;refine Pc ?_;refine Fu ?_;refine gw ?_;refine Uz ?_;refine gw ?_
   first|(refine K.lpN (x.1+1,x.2) (hx.skip hlt hls ht26) (by show ks.length-(x.1+1)<ks.length-x.1;omega) ?_;exact StCut.take (own:=[.cells 3 [A2 x.2]]) (fun _=>.refl _) (by repeat (first|exact Aq|refine Ap (by first|(simp [or_imp,forall_and];done)|(simp [oid]<;>omega)) ?_)) (by intro y hy;rw [List.mem_singleton.1 hy];intro z hz;rw [List.mem_singleton.1 hz];simp) (by simp))|(refine K.lpN (x.1+1,(Cc x.2 ks[x.1]).1) (hx.same hlt hls ht26 ht28 (by simpa using ht38)) (by show ks.length-(x.1+1)<ks.length-x.1;omega) ?_;exact StCut.take (own:=[.cells 3 [A2 (Cc x.2 ks[x.1]).1]]) (fun _=>.refl _) (by repeat (first|exact Aq|refine Ap (by first|(simp [or_imp,forall_and];done)|(simp [oid]<;>omega)) ?_)) (by intro y hy;rw [List.mem_singleton.1 hy];intro z hz;rw [List.mem_singleton.1 hz];simp) (by simp))|(refine K.lpN (x.1+1,x.2) (hx.want hlt hls ht26 ht28 (by simpa using ht38)) (by show ks.length-(x.1+1)<ks.length-x.1;omega) ?_;exact StCut.take (own:=[.cells 3 [A2 x.2]]) (fun _=>.refl _) (by repeat (first|exact Aq|refine Ap (by first|(simp [or_imp,forall_and];done)|(simp [oid]<;>omega)) ?_)) (by intro y hy;rw [List.mem_singleton.1 hy];intro z hz;rw [List.mem_singleton.1 hz];simp) (by simp))
  refine Z6 ?_;refine Z19 ?_;refine R.call Tryz.call194 (AB9 _ _ _) ?_;refine Z65 ?_;refine R.fin [2,6,10,11,12,13,14,15] ?_;refine Z31 ?_;refine R.fin [2,6,10,11,13,14,15,38] ?_
  refine W.cond (fun ht38=>?_) (fun ht38=>?_)
  ·have hbad:=hx.bad hlt hls ht26 (by first|(rw [if_pos ht28];simpa using ht38)|(rw [if_neg (by rw [ht28];simp)];simpa using ht38))
   refine Z1 ?_;refine Wj ?_;exact zu
  refine Z6 ?_;refine Pc ?_;refine Fu ?_;refine gw ?_;refine Uz ?_;refine gw ?_
  first|(refine K.lpN (x.1+1,x.2) (hx.skip hlt hls ht26) (by show ks.length-(x.1+1)<ks.length-x.1;omega) ?_;exact StCut.take (own:=[.cells 3 [A2 x.2]]) (fun _=>.refl _) (by repeat (first|exact Aq|refine Ap (by first|(simp [or_imp,forall_and];done)|(simp [oid]<;>omega)) ?_)) (by intro y hy;rw [List.mem_singleton.1 hy];intro z hz;rw [List.mem_singleton.1 hz];simp) (by simp))|(refine K.lpN (x.1+1,(Cc x.2 ks[x.1]).1) (hx.same hlt hls ht26 ht28 (by simpa using ht38)) (by show ks.length-(x.1+1)<ks.length-x.1;omega) ?_;exact StCut.take (own:=[.cells 3 [A2 (Cc x.2 ks[x.1]).1]]) (fun _=>.refl _) (by repeat (first|exact Aq|refine Ap (by first|(simp [or_imp,forall_and];done)|(simp [oid]<;>omega)) ?_)) (by intro y hy;rw [List.mem_singleton.1 hy];intro z hz;rw [List.mem_singleton.1 hz];simp) (by simp))|(refine K.lpN (x.1+1,x.2) (hx.want hlt hls ht26 ht28 (by simpa using ht38)) (by show ks.length-(x.1+1)<ks.length-x.1;omega) ?_;exact StCut.take (own:=[.cells 3 [A2 x.2]]) (fun _=>.refl _) (by repeat (first|exact Aq|refine Ap (by first|(simp [or_imp,forall_and];done)|(simp [oid]<;>omega)) ?_)) (by intro y hy;rw [List.mem_singleton.1 hy];intro z hz;rw [List.mem_singleton.1 hz];simp) (by simp))
 have hxe:ks.length≤x.1:=by simpa using ht16
 have hout:=hx.out hxe
 refine Z35 ?_;refine Z30 ?_;refine R.fin [2,6,45] ?_
 refine W.cond (fun ht45=>?_) (fun ht45=>?_)
 ·refine Z13 ?_;refine Wj ?_;exact K.fin (V.two V.tmp V.tmp) ⟨by rw [hout,if_pos ht45],rfl⟩
 refine Z6 ?_;refine Z19 ?_;refine Z12 ?_;exact K.fin (V.two V.tmp V.tmp) ⟨by rw [hout,if_neg (by rw [ht45];simp)],rfl⟩

theorem ou {n k:Nat} {own:Bool} {l:List Int}:Low n (.slice own k (l.map A2)):=low_slice.2 fun y hy=>by
 obtain ⟨z,_,rfl⟩:=List.mem_map.1 hy
 simp
theorem dg {n:Nat} {e:Expr}:Low n (.ro (E5 e)):=by have:=Ad n e;rw [Ab] at this;simpa using this
theorem Kd {c:List Col} {t:Str} (h:¬(B3 t c<0)):∃(j:Nat),B3 t c=(j:Int)∧j<c.length:=by
 obtain ⟨j,y,h2,_,h3⟩:=find_mem.1 h
 exact ⟨j,h3,(List.getElem?_eq_some_iff.1 h2).1⟩
theorem ov {c:List Col} {e:Expr} (h:(e.op==1)=true):As c e=(e.val.kind,0):=by rw [Mo];unfold La;rw [if_pos h]
theorem jf {c:List Col} {e:Expr} (h1:(e.op==1)=false) (h:(e.op==2)=true):As c e=R6 c e.text:=by rw [Mo];unfold La;rw [h1,if_pos h];rfl
theorem ow {c:List Col} {e:Expr} (h1:(e.op==1)=false) (h2:(e.op==2)=false) {x:Nat} (hx:x<e.kids.length) (h0:∀(j:Nat) (y:Expr),j<x→e.kids[j]? = some y→((As c y).2 != 0)=false) (hb:((As c e.kids[x]).2 != 0)=true):As c e=(0,(As c e.kids[x]).2):=by
 rw [Mo]
 unfold La
 rw [h1,h2]
 have:(e.kids.map (As c)).find? (fun q=>q.2 != 0)=some ((e.kids.map (As c))[x]'(by simpa using hx)):=V5 (by simpa using hx) (by simpa using hb) (fun j y hj hy=>by
  rw [List.getElem?_map,Option.map_eq_some_iff] at hy
  obtain ⟨z,hz,rfl⟩:=hy
  exact h0 j z hj hz)
 rw [this]
 simp
theorem oy {c:List Col} {e:Expr} (h1:(e.op==1)=false) (h2:(e.op==2)=false) (h0:∀(j:Nat) (y:Expr),j<e.kids.length→e.kids[j]? = some y→((As c y).2 != 0)=false):As c e=Pf (Bs e.op e.text) (e.kids.map fun y=>(As c y).1):=by
 rw [Mo]
 unfold La
 rw [h1,h2]
 have:(e.kids.map (As c)).find? (fun q=>q.2 != 0)=none:=Nd (fun j y hy=>by
  rw [List.getElem?_map,Option.map_eq_some_iff] at hy
  obtain ⟨z,hz,rfl⟩:=hy
  exact h0 j z (List.getElem?_eq_some_iff.1 hz).1 hz)
 rw [this]
 simp only [List.map_map]
 rfl
theorem jg (f:Expr→Int) (l:List Expr) {x:Nat} (h:x<l.length):((l.take x).map f).map A2++[A2 (f l[x])]=((l.take (x+1)).map f).map A2:=by rw [List.take_succ_eq_append_getElem h,List.map_append,List.map_append];rfl
theorem AD2 (c:List Col) (hc:OkCols c):∀(n:Nat) (e:Expr),okE n e→Bn Bi e=true→∀Hp:List AObj,AFun Tryz.prog 150 [A5 e,Ac c] Hp (.tup [A2 (As c e).1,A2 (As c e).2]):=by
 intro n
 induction n with
 | zero=>exact fun e h=>h.elim
 | succ n ih =>
 intro e hok hnd Hp
 have hnd0:=hnd
 rw [E1,Bool.and_eq_true] at hnd0
 refine ACall.body [.tmp 4,.tmp 5] [0,1] Tryz.func150 Tryz.ntmps150 (fun d=>?_)
 refine Z13 ?_;refine R.fin [1,2] ?_;refine Z31 ?_;refine R.fin [1,2,13] ?_;refine Z90 ?_;refine R.fin [1,2,13,14] ?_
 refine W.cond (fun ht14=>?_) (fun ht14=>?_)
 ·have hk:=ov (c:=c) ht14
  refine Z19 ?_;refine R.go ?_;refine Z80 ?_;exact wt
 refine Z1 ?_;refine R.fin [1,2,19] ?_
 refine W.cond (fun ht19=>?_) (fun ht19=>?_)
 ·have hk:=jf (c:=c) ht14 ht19
  refine Z13 ?_;refine R.call Tryz.call58 (c58 c hc e.text _) ?_;refine R.go ?_;refine R.fin [1,6] ?_;refine Z31 ?_;refine R.fin [1,6,26] ?_
  refine W.cond (fun ht26=>?_) (fun ht26=>?_)
  ·have hk2:R6 c e.text=(0,9):=if_pos (by simpa using ht26)
   refine Z1 ?_;refine Wj ?_;refine Z5 ?_;exact AAe
  have hneg:¬(B3 e.text c<0):=by simpa using ht26
  obtain ⟨j,hj,hjl⟩:=Kd hneg
  have hk2:R6 c e.text=(c[j].kind,0):=by
   unfold R6
   rw [if_neg hneg,hj,Int.toNat_natCast,List.getD_eq_getElem?_getD,List.getElem?_eq_getElem hjl]
   rfl
  rw [hj]
  refine Sg ?_
  refine R.go (h:=Q.indexAddr (j) (B0 c[j]) (fun _=>An hjl)) (hr:=?_)
  refine Z73 ?_;refine Z80 ?_;exact AAe
 refine Z18 ?_;refine Z2 ?_;refine R.fin [1,2,7] ?_;refine Z66 ?_;refine R.nilSl 7 1 ?_;refine Z73 ?_;refine R.fin [1,2,7,33,34,35] ?_
 refine AW.loopC (α:=Nat) (fun x=>⟨59,A3 1 (Ac c) (A3 2 (.ro (E5 e)) (A3 7 (.slice true 1 (((e.kids.take x).map fun y=>(As c y).1).map A2)) (A3 33 (.slice false 6 (e.kids.map A5)) (A3 34 (A2 (e.kids.length:Nat)) (A3 35 (A2 (x:Nat)) (fun _=>.any)))))),Hp,[],[],none⟩) (fun x=>x≤e.kids.length∧∀(j:Nat) (y:Expr),j<x→e.kids[j]? = some y→((As c y).2 != 0)=false) (fun x=>e.kids.length-x) (0) ⟨Nat.zero_le _,fun j y h=>by omega⟩ (StLe.of_eq (by simp)) rfl (fun x hx=>?_)
 refine Z2 ?_;refine R.fin [1,2,7,33,34,35,36] ?_
 refine W.condX (fun ht36=>?_) (fun ht36=>?_)
 ·have hlt:x<e.kids.length:=by simpa using ht36
  have hkl:=hok.2.1
  refine Z87 ?_
  refine R.go (h:=Q.indexAddr (x) (A5 e.kids[x]) (fun _=>An hlt)) (hr:=?_)
  refine Q8 ?_;refine R.fin [1,2,7,9,33,34,35] ?_;refine Z1 ?_;refine R.call Tryz.call150 (ih e.kids[x] (hok.2.2 _ (List.getElem_mem hlt)) ((Dn _ _).1 hnd0.2 _ (List.getElem_mem hlt)) _) ?_;refine Z65 ?_;refine R.fin [1,2,7,10,11,33,34,35] ?_;refine Z31 ?_;refine R.fin [1,2,7,10,11,33,34,35,46] ?_
  refine W.cond (fun ht46=>?_) (fun ht46=>?_)
  ·have hkb:=ow (c:=c) ht14 ht19 hlt hx.2 ht46
   refine Z13 ?_;refine Wj ?_;refine Z54 ?_;exact K.fin (V.two V.tmp V.tmp) ⟨by rw [hkb],rfl⟩
  refine Z6 ?_;refine Za ?_;refine Z71 ?_
  refine R.append jU Tryz.type3 ?_ ?_ ?_
  ·simp only [List.length_map,List.length_take,List.length_cons,List.length_nil,Tryz.t3];omega
  ·simp only [List.length_map,List.length_take,List.length_cons,List.length_nil,Tryz.t3];omega
  refine R.assignT ?_;refine R.fin [1,2,7,33,34,35] ?_;refine Uz ?_;refine R.fin [1,2,7,33,34,35] ?_;refine K.lpN (x+1) ⟨hlt,Cn hlt hx.2 ht46⟩ (by omega) ?_
  simp only [show Tryz.t3.size=1 from rfl,jg]
  exact StCut.take (own:=[]) (fun _=>.refl _) (by repeat (first|exact Aq|refine Ap (by first|exact ou|exact dg|exact Di|(simp [or_imp,forall_and];done)) ?_)) (by simp) (by simp)
 have hxe:e.kids.take x=e.kids:=List.take_of_length_le (by simp at ht36;omega)
 have hxl:e.kids.length≤x:=by simp at ht36;omega
 have hka:=oy (c:=c) ht14 ht19 (fun j y hj hy=>hx.2 j y (by omega) hy)
 rw [hxe]
 refine Z35 ?_;refine Z2 ?_;refine R.call Tryz.call171 (c171 e _) ?_;refine R.go ?_
 refine R.call Tryz.call172 (AD1 (Bs e.op e.text) (e.kids.map fun y=>(As c y).1) (by rw [o5 hnd0.1 ht14 ht19];simp) (by simpa using hok.2.1) _) ?_
 refine Z73 ?_;refine Z12 ?_;exact K.fin (V.two V.tmp V.tmp) ⟨by rw [hka],rfl⟩

theorem Hz {e:Expr} (h:Ax e=true):Bn Bi e=true:=by
 rw [Ja] at h
 unfold Es at h
 rw [Bool.and_eq_true] at h
 exact h.2
theorem ABa (n:Nat) (e:Expr) (hok:okE n e) (hn:n≤1048576) (c:List Col) (hc:OkCols c) (Hp:List AObj):AFun Tryz.prog 116 [A5 e,Ac c] Hp (.tup [A2 (Fm e c).1,A2 (Fm e c).2]):=by
 refine ACall.body [.tmp 4,.tmp 5] [0,1] Tryz.func116 Tryz.ntmps116 (fun d=>?_)
 refine Z13 ?_;refine R.fin [1,2] ?_;refine Z36 ?_;refine R.call Tryz.call56 (c56 n e hok hn _) ?_;refine V1 ?_;refine G.call Tryz.call37 (fun hB=>c37 c hc _) ?_;refine Z93 ?_;refine R.fin [1,2,13] ?_
 refine W.cond (fun ht13=>?_) (fun ht13=>?_)
 ·have hk:Fm e c=(0,1):=if_pos ht13
  refine Z1 ?_;refine Wj ?_;exact wt
 have hk:Fm e c=As c e:=if_neg (by rw [ht13];simp)
 have hr:Ax e=true:=by simp only [Bool.or_eq_false_iff,Bool.not_eq_false'] at ht13;exact ht13.1
 refine Sg ?_;refine R.call Tryz.call150 (AD2 c hc n e hok (Hz hr) _) ?_;refine Z73 ?_;refine Z12 ?_;exact wt

theorem Ct {n k:Nat} {o:Bool} {l:List Col}:Low n (.slice o k (l.map B0)):=by simp [or_imp,forall_and]
theorem jh {α β:Type} {f:α→β} {l:List α} {k:Nat} {y:α} (h:l[k]? = some y):(l.map f)[k]? = some (f y):=by rw [List.getElem?_map,h];rfl
theorem c81 (c:List Col) (hc:OkCols c) (take:List Str) (ht:take.length≤1048576) (give:List Col) (hg:OkCols give) (hg2:give.length≤1000000) (Hp:List AObj):AFun Tryz.prog 81 [Ac c,Fe take,Ac give] Hp (.tup [Ac (Ca c take give).1,A2 (Ca c take give).2]):=by
 refine ACall.body [.tmp 6,.tmp 7] [0,1,2,9] Tryz.func81 Tryz.ntmps81 (fun d=>?_)
 refine Z1 ?_;refine R.fin [0,1,2,9] ?_;refine Z36 ?_;refine R.call Tryz.call25 (c25 c hc _) ?_;refine R.go ?_;refine R.fin [0,1,2,9,12] ?_
 refine W.cond (fun ht12=>?_) (fun ht12=>?_)
 ·have hr:Cb c=false:=by rw [Ij] at ht12;simpa using ht12
  refine Z2 ?_;refine m8 ?_;refine K.thR ?_;exact K.fin (V.two V.tmp V.tmp) ⟨by rw [nt hr];try rfl,rfl⟩
 have hr:Cb c=true:=by rw [Ij] at ht12;simpa using ht12
 refine Z6 ?_;refine Z31 ?_;refine R.call Tryz.call113 (ACj c hc take ht _) ?_;refine R.go ?_;refine R.fin [0,1,2,9,16] ?_
 refine W.cond (fun ht16=>?_) (fun ht16=>?_)
 ·have hk:Fg c take=false:=by simpa using ht16
  refine Z2 ?_;refine m8 ?_;refine K.thR ?_;exact K.fin (V.two V.tmp V.tmp) ⟨by rw [nu hr hk];try rfl,rfl⟩
 have hk:Fg c take=true:=by simpa using ht16
 refine Z6 ?_;refine Z27 ?_;refine R.fin [0,1,2,8,9] ?_;refine Z66 ?_;refine R.nilOwn 0 2 ?_
 refine R.assumeLow (fun hlow=>?_)
 refine Z0 ?_;refine R.call Tryz.call114 (ACl c take _) ?_;refine R.fin [2,8,9,19] ?_;refine Gx ?_
 refine W.rangeV (m:=1) Tryz.call149 (fun FR as' bd' hFR has hbd=>?_)
 have hFRl:∀s,Low (Hp.length+3) (FR s):=by
  intro s
  rw [hFR]
  refine Low.strip ?_
  revert s
  repeat (first|exact Aq|refine Ap (by simp [oid,or_imp,forall_and]<;>try omega) ?_)
 have hOl:∀{k:Nat},∀x∈[AObj.cells 22 [.slice true 2 ((Cf (c.take k) take).map B0)],AObj.defs,AObj.loop LoopState.ready none FR 41 #[20] as' bd' (oid Hp.length 1)],ObjLow (Hp.length+3) x:=by
  intro k x hx
  simp only [List.mem_cons,List.mem_nil_iff,or_false] at hx
  rcases hx with rfl|rfl|rfl
  ·intro y hy
   rw [List.mem_singleton.1 hy]
   exact Ct
  ·trivial
  exact mg
 refine ⟨_,ACm (oid Hp.length 2) c take hc.len ht (fun k=>Hp++[AObj.cells 22 [.slice true 2 ((Cf (c.take k) take).map B0)],AObj.defs,AObj.loop LoopState.ready none FR 41 #[20] as' bd' (oid Hp.length 1)]) (fun k=>by simp) (by simp [oid]) (fun k x hx=>?_) (fun k y hk hcn=>by simp only [ix hk hcn]) (fun k y X hk hcn=>?_),?_⟩
 ·have:=J9 (fun x hx=>ObjLow.le (by omega) (hlow x hx)) hOl x hx
  simpa using this
 ·generalize hV:Hp++[AObj.cells 22 [.slice true 2 ((Cf (c.take k) take).map B0)],AObj.defs,AObj.loop LoopState.ready none FR 41 #[20] as' bd' (oid Hp.length 1)]++X=V
  have hL:V[oid Hp.length 2]? = some (AObj.loop LoopState.ready none FR 41 #[20] as' bd' (oid Hp.length 1)):=by rw [←hV,List.append_assoc,Ar];rfl
  have hA0:V[oid Hp.length 0]? = some (AObj.cells 22 [.slice true 2 ((Cf (c.take k) take).map B0)]):=by rw [←hV,List.append_assoc,Ar];rfl
  refine AYield.ofRound (pd:=none) (fr:=FR) (sz:=41) (ps:=#[20]) (df:=oid Hp.length 1) (asg:=as') (bd:=bd') hL rfl (by decide) (fun d=>?_)
  subst hFR has hbd
  refine W.keep [8,20] ?_;refine AW.region ?_;refine Z21 ?_;refine R.fin [8,9] ?_
  refine ⟨rfl,none,hL,?_⟩
  generalize hbz:(AObj.loop LoopState.busy _ _ _ _ _ _ _)=bz
  have hA:(V.set (oid Hp.length 2) bz)[oid Hp.length 0]? = some (AObj.cells 22 [.slice true 2 ((Cf (c.take k) take).map B0)]):=by rw [List.getElem?_set_ne (Be (by decide))];exact hA0
  refine Gx ?_;refine AW.region ?_;refine R.loadUpT jA hA ?_;refine Z71 ?_
  refine R.append jU Tryz.type48 ?_ ?_ ?_
  ·have h1:=Ka (c.take k) take;have h2:=hc.len;simp only [List.length_take] at h1;simp [Tryz.t48];omega
  ·have h1:=Ka (c.take k) take;have h2:=hc.len;simp only [List.length_take] at h1;simp [Tryz.t48];omega
  refine R.storeUpT jS (getset hA) ?_ ?_
  ·exact iw
  refine Z85 ?_
  subst hbz
  refine sb ?_
  refine ⟨rfl,?_⟩
  subst hV
  simp only [List.append_assoc,Ee,List.cons_append,List.nil_append,List.set_cons_succ,List.set_cons_zero]
  rw [tc hk hcn,List.map_append]
  rfl
 rintro r H' rfl
 simp only [List.take_length]
 refine ⟨Hp,_,_,_,rfl,rfl,fun h=>h,?_,rfl,by simp,?_⟩
 ·intro o ho
  have:o=oid Hp.length 1:=by simpa using ho
  subst this
  rw [Ar]
  rfl
 refine Z14 ?_;refine Cz ?_;refine R.loadOwnT jA ?_;refine R.go ?_
 refine R.append jU Tryz.type48 ?_ ?_ ?_
 ·have h1:=Ka c take;have h2:=Nt hr;simp [Tryz.t48];omega
 ·have h1:=Ka c take;have h2:=Nt hr;simp [Tryz.t48];omega
 refine R.storeOwnT jS ?_;refine R.fin [8] ?_;refine Z87 ?_
 have e10:(Cf c take).map B0++give.map B0=(Cf c take++give).map B0:=(List.map_append ..).symm
 rw [e10]
 generalize hout:Cf c take++give=out
 have ho:OkCols out:=nz hc hr hg hg2 hout
 refine R.go ?_;refine R.call Tryz.call115 (ACk out ho _) ?_;refine Z0 ?_;refine R.fin [8,28] ?_
 refine W.cond (fun ht28=>?_) (fun ht28=>?_)
 ·have hn:Hq out=false:=by simpa using ht28
  refine Z2 ?_;refine m8 ?_;refine Z5 ?_;exact K.fin (V.two V.tmp V.tmp) ⟨by rw [nv hr hk hout hn];try rfl,rfl⟩
 have hn:Hq out=true:=by simpa using ht28
 refine Z2 ?_;refine R.call Tryz.call37 (c37 out ho _) ?_;refine Z0 ?_;refine R.fin [8,32] ?_
 refine W.cond (fun ht32=>?_) (fun ht32=>?_)
 ·have hq:Gj out=false:=by rw [Ku] at ht32;simpa using ht32
  refine Z2 ?_;refine m8 ?_;refine Z5 ?_;exact K.fin (V.two V.tmp V.tmp) ⟨by rw [nw hr hk hout hn hq];try rfl,rfl⟩
 have hq:Gj out=true:=by rw [Ku] at ht32;simpa using ht32
 refine Z19 ?_;refine R.fin [8,36] ?_
 refine W.cond (fun ht36=>?_) (fun ht36=>?_)
 ·have h12:12<out.length:=by simp at ht36;omega
  refine Z2 ?_;refine m8 ?_;refine Z5 ?_;exact K.fin (V.two V.tmp V.tmp) ⟨by rw [nx hr hk hout hn hq h12];try rfl,rfl⟩
 have h12:¬12<out.length:=by simp at ht36;omega
 refine Z18 ?_;refine Z13 ?_;refine Z33 ?_;exact K.fin (V.two V.tmp V.tmp) ⟨by rw [ny hr hk hout hn hq h12];try rfl,rfl⟩

theorem c6u (c:List Col) (Hp:List AObj):AFun Tryz.prog 7 [Ac c] Hp (At (Eu c)):=by
 refine ACall.body [.tmp 2] [0] Tryz.func7 Tryz.ntmps7 (fun d=>?_)
 refine Wo ?_;refine R.fin [0,6] ?_
 refine W.cond (fun ht6=>?_) (fun ht6=>?_)
 ·rw [List.length_map] at ht6
  have hm:Eu c=true:=by unfold Eu;rw [ht6];rfl
  exact s8
 rw [List.length_map] at ht6
 have hl50:c.length≤50:=by simp at ht6;omega
 refine Q9 ?_;refine Mc ?_
 refine AW.loopC (α:=Nat) (fun x=>⟨20,A3 0 (Ac c) (A3 3 (A2 (x:Nat)) (fun _=>.any)),Hp,[],[],none⟩) (fun x=>x≤c.length∧∀(j:Nat) (v:Col),j<x→c[j]? = some v→decide ((100:Int)<(v.name.length:Int))=false) (fun x=>c.length-x) (0) ⟨Nat.zero_le _,fun j v h=>by omega⟩ (StLe.of_eq (by simp)) rfl (fun x hx=>?_)
 refine Z48 ?_;refine R.fin [0,3,10] ?_
 refine W.cond (fun ht10=>?_) (fun ht10=>?_)
 ·have hlt:x<c.length:=by simpa using ht10
  refine Z86 ?_;refine Z1 ?_
  refine R.go (h:=Q.indexAddr (x) (B0 c[x]) (fun _=>An hlt)) (hr:=?_)
  refine Z73 ?_;refine R.fin [0,3,19] ?_
  refine W.cond (fun ht19=>?_) (fun ht19=>?_)
  ·have hm:Eu c=true:=by unfold Eu;rw [Bool.or_eq_true];exact .inr (List.any_eq_true.2 ⟨c[x],List.getElem_mem hlt,ht19⟩)
   refine Z49 ?_;exact Z91
  refine Z18 ?_;refine Z81 ?_
  refine R.go (h:=Q.add64 (h1:=fun _=>by omega) (h2:=fun _=>by omega)) (hr:=?_)
  refine ge ?_;exact zf
 have hxe:c.length≤x:=by simpa using ht10
 have hm:Eu c=false:=by
  unfold Eu
  rw [ht6,Bool.false_or,List.any_eq_false]
  intro v hv
  obtain ⟨j,hj⟩:=List.getElem?_of_mem hv
  have:=hx.2 j v (by have:=(List.getElem?_eq_some_iff.1 hj).1;omega) hj
  rw [this]
  simp
 refine Z98 ?_;exact wh

/-- law18.Wide. -/
def Hr (m:Mov):Bool:=(((((Eu m.give || decide ((20:Int)<(m.take.length:Int))) || decide ((20:Int)<(m.ahead.length:Int))) || decide ((20:Int)<(m.back.length:Int))) || m.take.any fun s=>decide ((100:Int)<(s.length:Int))) || m.ahead.any R4) || m.back.any R4
def F6 (l:List Mov):Bool:=decide ((12:Int)<(l.length:Int)) || l.any Hr
theorem Ip {α:Type} {p:α→Bool} {l:List α} {x:Nat} (h:l.length≤x) (hp:∀(j:Nat) (v:α),j<x→l[j]? = some v→p v=false):l.any p=false:=by
 rw [List.any_eq_false]
 intro v hv
 obtain ⟨j,hj⟩:=List.getElem?_of_mem hv
 rw [hp j v (by have:=(List.getElem?_eq_some_iff.1 hj).1;omega) hj]
 simp
theorem Vf {n:Nat} {m:Mov}:∀y∈Ny m,Low n y:=by
 intro y hy
 simp only [Ny,List.mem_cons,List.mem_nil_iff,or_false] at hy
 rcases hy with rfl|rfl|rfl|rfl|rfl<;>simp [or_imp,forall_and,Ad]
theorem Xp {n:Nat} {m:Mov}:Low n (E6 m):=Go.SX.low_agg.2 Vf
theorem Eo {n k:Nat} {o:Bool} {l:List Mov}:Low n (.slice o k (l.map E6)):=low_slice.2 fun y hy=>by
 obtain ⟨m,_,rfl⟩:=List.mem_map.1 hy
 exact Xp
theorem I0 {α:Type} {p:α→Bool} (l:List α):(l.any fun s => !(p s)) = !(l.all p):=by
 induction l with
 | nil=>rfl
 | cons a r ih=>rw [List.any_cons,List.all_cons,ih];cases p a<;>simp
theorem c32 (l:List Mov) (Hp:List AObj):AFun Tryz.prog 32 [D8 l] Hp (At (F6 l)):=by
 refine ACall.body [.tmp 2] [0] Tryz.func32 Tryz.ntmps32 (fun d=>?_)
 refine Wo ?_;refine R.fin [0,10] ?_
 refine W.cond (fun ht10=>?_) (fun ht10=>?_)
 ·rw [List.length_map] at ht10
  have hm:F6 l=true:=by unfold F6;rw [ht10];rfl
  exact s8
 rw [List.length_map] at ht10
 have hl12:l.length≤12:=by simp at ht10;omega
 refine Q9 ?_;refine Mc ?_
 refine AW.loopC (α:=Nat) (fun x=>⟨82,A3 0 (D8 l) (A3 3 (A2 (x:Nat)) (fun _=>.any)),Hp,[],[],none⟩) (fun x=>x≤l.length∧∀(j:Nat) (v:Mov),j<x→l[j]? = some v→Hr v=false) (fun x=>l.length-x) (0) ⟨Nat.zero_le _,fun j v h=>by omega⟩ (StLe.of_eq (by simp)) rfl (fun x hx=>?_)
 refine Z48 ?_;refine R.fin [0,3,14] ?_
 refine W.cond (fun ht14=>?_) (fun ht14=>?_)
 ·have hlt:x<l.length:=by simpa using ht14
  have hbad:Hr l[x]=true→F6 l=true:=fun h=>by unfold F6;rw [Bool.or_eq_true];exact .inr (List.any_eq_true.2 ⟨l[x],List.getElem_mem hlt,h⟩)
  refine Z86 ?_;refine Z1 ?_
  refine R.go (h:=Q.indexAddr (x) (E6 l[x]) (fun _=>An hlt)) (hr:=?_)
  refine Q8 ?_;refine R.fin [0,3,4] ?_;refine Z31 ?_;refine R.call Tryz.call7 (c6u l[x].give _) ?_;refine R.go ?_;refine Z95 ?_;refine Wi ?_;refine Wi ?_;refine R.go ?_;refine R.fin [0,3,4,41] ?_
  refine W.cond (fun ht41=>?_) (fun ht41=>?_)
  ·simp only [List.length_map] at ht41
   have hm:F6 l=true:=hbad (by unfold Hr;rw [ht41];rfl)
   refine Z49 ?_;refine K.thR ?_;exact Z91
  simp only [List.length_map] at ht41
  have hk:l[x].take.length≤20∧l[x].ahead.length≤20∧l[x].back.length≤20:=by simp only [Bool.or_eq_false_iff,decide_eq_false_iff_not] at ht41;omega
  refine Q9 ?_;refine R.fin [0,3,4,5] ?_
  refine AW.loopC (α:=Nat) (fun a=>⟨82,A3 0 (D8 l) (A3 3 (A2 (x:Nat)) (A3 4 (.ptr (oid Hp.length 0) 0) (A3 5 (A2 (a:Nat)) (fun _=>.any)))),Hp,[.cells 77 (Ny l[x])],[],none⟩) (fun a=>a≤l[x].take.length∧∀(j:Nat) v,j<a→l[x].take[j]? = some v→(fun s:Str=>decide ((100:Int)<(s.length:Int))) v=false) (fun a=>l[x].take.length-a) (0) ⟨Nat.zero_le _,fun j v h=>by omega⟩ (StLe.of_eq (by simp)) rfl (fun a ha=>?_)
  refine Zg ?_;refine R.fin [0,3,4,5,46] ?_
  refine W.cond (fun ht46=>?_) (fun ht46=>?_)
  ·have ha1:a<l[x].take.length:=by simpa using ht46
   refine Z86 ?_;refine Z13 ?_
   refine R.go (h:=Q.indexAddr (a) (A9 l[x].take[a]) (fun _=>An ha1)) (hr:=?_)
   refine Z29 ?_;refine R.fin [0,3,4,5,55] ?_
   refine W.cond (fun ht55=>?_) (fun ht55=>?_)
   ·have hm:F6 l=true:=hbad (by unfold Hr;rw [ht41,List.any_eq_true.2 ⟨_,List.getElem_mem ha1,ht55⟩];rfl)
    refine gk ?_;exact Z91
   refine Z57 ?_;refine R.go ?_;refine R.fin [0,3,4,5] ?_;exact K.lpN (a+1) ⟨ha1,Cn ha1 ha.2 ht55⟩ (by omega) (StCut.of_eq rfl)
  have hae:l[x].take.length≤a:=by simpa using ht46
  have e1:=Ip hae ha.2
  refine Z98 ?_;refine Z36 ?_;refine R.fin [0,3,4,6] ?_
  refine AW.loopC (α:=Nat) (fun b=>⟨82,A3 0 (D8 l) (A3 3 (A2 (x:Nat)) (A3 4 (.ptr (oid Hp.length 0) 0) (A3 6 (A2 (b:Nat)) (fun _=>.any)))),Hp,[.cells 77 (Ny l[x])],[],none⟩) (fun b=>b≤l[x].ahead.length∧∀(j:Nat) v,j<b→l[x].ahead[j]? = some v→R4 v=false) (fun b=>l[x].ahead.length-b) (0) ⟨Nat.zero_le _,fun j v h=>by omega⟩ (StLe.of_eq (by simp)) rfl (fun b hb=>?_)
  refine Zg ?_;refine R.fin [0,3,4,6,60] ?_
  refine W.cond (fun ht60=>?_) (fun ht60=>?_)
  ·have hb1:b<l[x].ahead.length:=by simpa using ht60
   refine Z86 ?_;refine Z13 ?_
   refine R.go (h:=Q.indexAddr (b) (A5 l[x].ahead[b]) (fun _=>An hb1)) (hr:=?_)
   refine R.go ?_;refine R.call Tryz.call52 (c52 l[x].ahead[b] _) ?_;refine R.fin [0,3,4,6,68] ?_
   refine W.cond (fun ht68=>?_) (fun ht68=>?_)
   ·have hm:F6 l=true:=hbad (by unfold Hr;rw [List.any_eq_true.2 ⟨_,List.getElem_mem hb1,ht68⟩];simp)
    refine gk ?_;exact Z91
   refine Z57 ?_;refine R.go ?_;refine R.fin [0,3,4,6] ?_;exact K.lpN (b+1) ⟨hb1,Cn hb1 hb.2 ht68⟩ (by omega) (StCut.of_eq rfl)
  have hbe:l[x].ahead.length≤b:=by simpa using ht60
  have e2:=Ip hbe hb.2
  refine Z98 ?_;refine Z2 ?_;refine R.fin [0,3,4,7] ?_
  refine AW.loopC (α:=Nat) (fun e=>⟨82,A3 0 (D8 l) (A3 3 (A2 (x:Nat)) (A3 4 (.ptr (oid Hp.length 0) 0) (A3 7 (A2 (e:Nat)) (fun _=>.any)))),Hp,[.cells 77 (Ny l[x])],[],none⟩) (fun e=>e≤l[x].back.length∧∀(j:Nat) v,j<e→l[x].back[j]? = some v→R4 v=false) (fun e=>l[x].back.length-e) (0) ⟨Nat.zero_le _,fun j v h=>by omega⟩ (StLe.of_eq (by simp)) rfl (fun e he=>?_)
  refine Zg ?_;refine R.fin [0,3,4,7,73] ?_
  refine W.cond (fun ht73=>?_) (fun ht73=>?_)
  ·have he1:e<l[x].back.length:=by simpa using ht73
   refine Z86 ?_;refine Z13 ?_
   refine R.go (h:=Q.indexAddr (e) (A5 l[x].back[e]) (fun _=>An he1)) (hr:=?_)
   refine R.go ?_;refine R.call Tryz.call52 (c52 l[x].back[e] _) ?_;refine R.fin [0,3,4,7,81] ?_
   refine W.cond (fun ht81=>?_) (fun ht81=>?_)
   ·have hm:F6 l=true:=hbad (by unfold Hr;rw [List.any_eq_true.2 ⟨_,List.getElem_mem he1,ht81⟩];simp)
    refine Z49 ?_;refine Z34 ?_;exact Z91
   refine Z57 ?_;refine R.go ?_;refine R.fin [0,3,4,7] ?_;exact K.lpN (e+1) ⟨he1,Cn he1 he.2 ht81⟩ (by omega) (StCut.of_eq rfl)
  have hee:l[x].back.length≤e:=by simpa using ht73
  have e3:=Ip hee he.2
  have e4:Hr l[x]=false:=by unfold Hr;rw [ht41,e1,e2,e3];rfl
  refine Z59 ?_;refine K.lpE ?_;refine Z14 ?_;refine Pc ?_;refine Mc ?_;refine K.lpN (x+1) ⟨hlt,Cn hlt hx.2 e4⟩ (by omega) ?_
  exact StCut.take (own:=[]) (fun _=>.refl _) (by repeat (first|exact Aq|refine Ap (by first|(simp [or_imp,forall_and];done)|exact Eo|(simp [oid]<;>omega)) ?_)) (by simp) (by simp)
 have hxe:l.length≤x:=by simpa using ht14
 have hm:F6 l=false:=by unfold F6;rw [ht10,Ip hxe hx.2];rfl
 refine Z98 ?_;exact wh

theorem AD3 (n:Nat) (e:Expr) (hok:okE n e) (hn:n≤1048576) (c:List Col) (hc:OkCols c) (w:Int) (Hp:List AObj):AFun Tryz.prog 117 [A5 e,Ac c,A2 w] Hp (At (Tu e c w)):=by
 refine ACall.body [.tmp 6] [0,1,2] Tryz.func117 Tryz.ntmps117 (fun d=>?_)
 refine Z1 ?_;refine R.fin [1,2,3] ?_;refine Z1 ?_;refine R.call Tryz.call116 (ABa n e hok hn c hc _) ?_;refine Z65 ?_;refine R.fin [2,7,8] ?_;refine Z13 ?_;refine Z95 ?_;refine Z97 ?_;refine Z60 ?_;exact K.fin (V.one V.tmp) ⟨by unfold Tu;rfl,rfl⟩

theorem u6 {c:List Col} {m:Mov} (h:(m.kind==3)=false):Aw c m=m.give:=by unfold Aw;rw [if_neg (by rw [h];simp)]
theorem u7 {c:List Col} {m:Mov} {s:Str} {y:Col} (h:(m.kind==3)=true) (ht:m.take=[s]) (hg:m.give=[y]) (hf:B3 s c<0):Aw c m=[y]:=by
 unfold Aw
 rw [if_pos h,ht,hg]
 exact if_pos hf
theorem oz {c:List Col} {m:Mov} {s:Str} {y:Col} (h:(m.kind==3)=true) (ht:m.take=[s]) (hg:m.give=[y]) (hf:¬B3 s c<0):Aw c m=[⟨y.name,(c.getD (B3 s c).toNat ⟨[],0⟩).kind⟩]:=by
 unfold Aw
 rw [if_pos h,ht,hg]
 exact if_neg hf
theorem Xq (l:List Col):∀x∈l.map B0,x.cells.length=2:=by
 intro x hx
 obtain ⟨c,_,rfl⟩:=List.mem_map.1 hx
 rfl
theorem dh {c:Col} {y:AV} (h:y∈(B0 c).cells):y=A9 c.name∨y=A2 c.kind:=by
 have h':y∈[A9 c.name,A2 c.kind]:=h
 simpa using h'
theorem Xr (l:List Col):∀x∈l.map B0,∀y∈x.cells,y.one=true:=by
 intro x hx y hy
 obtain ⟨c,_,rfl⟩:=List.mem_map.1 hx
 rcases dh hy with rfl|rfl<;>rfl
theorem Ri (l:List Col):∀x∈l.map B0,∀y∈x.cells,y.strip=y:=by
 intro x hx y hy
 obtain ⟨c,_,rfl⟩:=List.mem_map.1 hx
 rcases dh hy with rfl|rfl<;>rfl
theorem p8 {α:Type} {l:List α} (h:l.length=1):∃y,l=[y]:=by
 match l,h with
 | [y],_=>exact ⟨y,rfl⟩
theorem di {c:List Col} {s:Str} (hf:¬B3 s c<0):(c.map B0)[(B3 s c).toNat]? = some (B0 (c.getD (B3 s c).toNat ⟨[],0⟩)):=by
 obtain ⟨j,hj,hjl⟩:=Kd hf
 rw [hj,Int.toNat_natCast,List.getElem?_map,List.getElem?_eq_getElem hjl,List.getD_eq_getElem?_getD,List.getElem?_eq_getElem hjl]
 rfl
end Go.SX.Nb
namespace Go.SX
variable [GI:GlobInv]
open Classical
variable {P:Program} {d:Nat} {ops:Array Oper} {rest:List Oper} {sz:Nat} {fr:Nat→AV} {up own:List AObj} {dfs:List Nat} {rnd:Option Nat} {Q:St→Prop} {s:Nat} {ty:TypeId} {pos:String} {aft:Array Edge}
/-- Whether a slice is nil is known only of one that has elements. -/
theorem R.eqlNil {t e u:TypeId} {x y:Operand} {o:Bool} {k:Nat} {xs:List AV} (ht:P.underlying t=some (.slice e)) (hg:P.eqGuardType P.depth t=false)
  (hr:∀b:Bool,(b=true→xs=[])→ARun P d ops rest ⟨sz,A3 s (.v (.bool b)) fr,up,own,dfs,rnd⟩ Q)
  (hx:Ae fr x=.slice o k xs:=by exact sL0) (hy:Ae fr y=.nil:=by exact sL0) (hs:Nat.blt s sz=true:=by rfl):
  ARun P d ops (⟨some s,.binOp .eql t x y u,ty,pos,aft,none⟩::rest) ⟨sz,fr,up,own,dfs,rnd⟩ Q:=by
 refine ARun.op rfl (Q1:=fun s'=>∃b:Bool,(b=true→xs=[])∧s'=⟨sz,A3 s (.v (.bool b)) fr,up,own,dfs,rnd⟩) ?_ (by rintro _ ⟨b,hb,rfl⟩;exact hr b hb)
 intro G a w hrel Q'
 have h1:=hrel.eval x
 rw [show St.ev ⟨sz,fr,up,own,dfs,rnd⟩ x=.slice o k xs from hx] at h1
 have h2:=hrel.eval y
 rw [show St.ev ⟨sz,fr,up,own,dfs,rnd⟩ y=.nil from hy] at h2
 have key:∀b:Bool,(b=true→xs=[])→(execOp a.eval ⟨some s,.binOp .eql t x y u,ty,pos,aft,none⟩).run P w=.ok (.value (.bool b)) w →
   Oper.wpIn (Fr ((St.mk sz fr up own dfs rnd).rnd.map G.blk)) 0 P ⟨some s,.binOp .eql t x y u,ty,pos,aft,none⟩ a w (Post d ⟨sz,fr,up,own,dfs,rnd⟩ G w (fun s'=>∃b:Bool,(b=true→xs=[])∧s'=⟨sz,A3 s (.v (.bool b)) fr,up,own,dfs,rnd⟩)) Q':=fun b hb hv =>
  Bx (by intro c h;cases h) hv ⟨G,_,hrel.put (y:=.v (.bool b)) (by simpa using hs) (.v _ _),Keep.refl d G w,rfl,rfl,rfl,b,hb,rfl⟩
 generalize hya:a.eval y=vy at h2
 generalize hxa:a.eval x=vx at h1
 cases h2
 cases h1 with
 | slice0=>exact key true (fun _=>rfl) (by simp only [execOp,hxa,hya,eqGuard];simp [Lib.run_eql_slice_nil _ _ _ _ _ _ _ _ ht,hg])
 | sliceE=>exact key false (fun h=>by cases h) (by simp only [execOp,hxa,hya,eqGuard];simp [Lib.run_eql_slice_nil _ _ _ _ _ _ _ _ ht,hg])
 | slice=>exact key false (fun h=>by cases h) (by simp only [execOp,hxa,hya,eqGuard];simp [Lib.run_eql_slice_nil _ _ _ _ _ _ _ _ ht,hg])
/-! A guarded slice that may be appended to. -/
end Go.SX
namespace Go.SX
variable [GI:GlobInv]
open Classical
section
variable {P:Program} {d:Nat}
/-- A call that returns and may leave more objects than it found; they are the caller's. -/
def ACallO (P:Program) (g:FuncId) (args:List AV) (H:List AObj) (post:AV→List AObj→Prop):Prop:=
 ∀(d:Nat) (G:Gh) (w:World) (vs:Array Value),vs.size=args.length→(∀(i:Nat) (y:AV) (u:Value),args[i]? = some y→vs[i]? = some u→Rep G w (some (.slot (d+1) i)) y u)→HeapRel G H w→TagOK G w→GI.bd≤d →
  CallsIn Fence.wide 0 P g vs w (fun e w'=>∃(v:Value) (G':Gh) (r:AV) (H':List AObj),e=.returned v∧Rep G' w' none r v∧HeapRel G' H' w'∧TagOK G' w'∧Keep (d+1) G w G' w'∧post r H')
/-- What is asked at a body's end: the first j of its objects are handed back. -/
def FO (P:Program) (rs:List ResultVar) (n:Nat) (post:AV→List AObj→Prop) (e:Exit) (st':St):Prop:=
 (e=.normal∨e=.ret)∧st'.defs=[]∧∃(r:AV) (rv:ResultVar) (j:Nat),rs=[rv]∧ResV P st' rv r∧Low (n+j) r∧(∀x∈st'.up++st'.own.take j,ObjLow (n+j) x)∧j≤st'.own.length∧post r (st'.up++st'.own.take j)
theorem ACallO.ofBody {g:FuncId} {fn:Func} {c:Code} {args:List AV} {H:List AObj} {post:AV→List AObj→Prop} {rs:List ResultVar} {n:Nat} (hf:P.funcs[g]? = some fn) (hb:fn.body=some c) (hrs:fn.results=rs.toArray)
  (hn:fn.ntmps=n) (hargs:args.length≤n) (h:∀d,AW P (d+1) c ⟨n,argsF args,H,[],[],none⟩ (FO P rs H.length post)):ACallO P g args H post:=by
 intro d G w vs hvs hrep hH hT hTop
 refine callsIn_of_wp_marks hf hb trivial ?_
 have hst:StRel (d+1) G ⟨n,argsF args,H,[],[],none⟩ { tmps:=vs++Array.replicate (fn.ntmps-vs.size) undef,defers:=[] } w:=by
  refine ⟨?_,fun s=>?_,by simpa using hH,(by rw [Cy hTop];rfl),(fun o ho=>by simp at ho),List.nodup_nil,(fun o ho=>by simp at ho),hT,(fun l hl=>by cases hl),fun x hx=>?_,Nat.le_succ_of_le hTop⟩
  ·simp only [Array.size_append,Array.size_replicate,hvs,hn];omega
  ·show Rep G w _ (args.getD s (.v undef)) _
   rw [List.getD_eq_getElem?_getD,Array.getD_eq_getD_getElem?]
   rcases Nat.lt_or_ge s args.length with h'|h'
   ·rw [List.getElem?_eq_getElem h',Array.getElem?_append_left (by omega),Array.getElem?_eq_getElem (by omega)]
    exact hrep s _ _ (List.getElem?_eq_getElem h') (Array.getElem?_eq_getElem (by omega))
   rw [List.getElem?_eq_none h',Array.getElem?_append_right (by omega)]
   simp only [Option.getD_none]
   have:((Array.replicate (fn.ntmps-vs.size) undef)[s-vs.size]?).getD undef=undef:=by
    rw [Array.getElem?_replicate];split<;>rfl
   rw [this]
   exact .v _ _
  obtain ⟨i,hi⟩:=List.getElem?_of_mem hx
  have hob:=hH.obj i x hi
  show ObjLow H.length x
  rw [←hH.n]
  exact hob.low
 have hw:=h d G _ w hst
 refine wpIn_mono hw ?_
 rintro e a' w' ⟨G1,st',h1,k1,e1,e2,e3,hcase,hdefs,r,rv,j,rfl,hres,hlow,hobjs,hj,hpost⟩
 have fin:LeavesInM Fence.wide 0 P fn a'.tmps (fun e w'=>∃(v:Value) (G':Gh) (r:AV) (H':List AObj),e=.returned v∧Rep G' w' none r v∧HeapRel G' H' w'∧TagOK G' w'∧Keep (d+1) G w G' w'∧post r H') a'.defers .returning w':=by
  rw [h1.defs,hdefs,Cy hTop]
  obtain ⟨v,hv,hr⟩:=hres.run h1
  have hupl:st'.up.length=H.length:=e1
  have hgn:G1.n=st'.up.length+st'.own.length:=by rw [h1.heap.n,List.length_append]
  have hget:∀(i:Nat) (x:AObj),(st'.up++st'.own.take j)[i]? = some x→(st'.up++st'.own)[i]? = some x:=fun i x hx=>by
   rcases Nat.lt_or_ge i st'.up.length with h'|h'
   ·rw [List.getElem?_append_left h'] at hx ⊢;exact hx
   rw [List.getElem?_append_right h'] at hx ⊢
   rw [List.getElem?_take] at hx
   split at hx
   ·exact hx
   cases hx
  refine ⟨v,by simp [Dz,hrs,hv],v,{ G1 with n:=H.length+j },r,st'.up++st'.own.take j,rfl,hr.cut hlow,⟨fun i x hx=>(h1.heap.obj i x (hget i x hx)).cut (hobjs x (List.mem_of_getElem? hx)),?_,fun a b ha hb' e=>?_⟩,
   ⟨h1.tags.ex,h1.tags.obj,h1.tags.tail,h1.tags.globCut (by rw [hgn];omega)⟩,?_,hpost⟩
  ·show H.length+j=_
   rw [List.length_append,List.length_take,Nat.min_eq_left hj,hupl]
  ·exact h1.heap.inj a b (by rw [hgn];simp only at ha;omega) (by rw [hgn];simp only at hb';omega) e
  have hGn:G.n=H.length:=hH.n
  exact ⟨k1.fix,k1.slot,by rw [hGn];exact Nat.le_add_right _ _,k1.blk,k1.os,k1.tape,k1.output,k1.size,k1.old.cut (by rw [hgn];omega)⟩
 rcases hcase with rfl|rfl
 ·exact fin
 exact fin
end
section
variable {P:Program} {d:Nat} {ops:Array Oper} {rest:List Oper} {sz s:Nat} {fr:Nat→AV} {up own:List AObj} {dfs:List Nat} {rnd:Option Nat} {Q:St→Prop} {ty:TypeId} {pos:String} {aft:Array Edge}
theorem ACallO.body {g:FuncId} {fn:Func} {c:Code} {args:List AV} {H:List AObj} {post:AV→List AObj→Prop} {fr':Nat→AV} (rs:List ResultVar) (l:List Nat) {n:Nat} (hf:P.funcs[g]? = some fn) (hn:fn.ntmps=n)
  (h:∀d,AW P (d+1) c ⟨n,fr',H,[],[],none⟩ (FO P rs H.length post)) (hb:fn.body=some c:=by rfl) (hrs:fn.results=rs.toArray:=by rfl) (hargs:args.length≤n:=by exact sL1)
  (hk:If l (argsF args)=fr':=by exact sL0):ACallO P g args H post:=
 ACallO.ofBody hf hb hrs hn hargs (fun d=>AW.keep l hk (h d))
/-- The end of such a body. -/
theorem K.finO {rs:List ResultVar} {n:Nat} {post:AV→List AObj→Prop} {r:AV} {rv:ResultVar} {st:St} (j:Nat) (hres:ResV P st rv r) (hp:post r (st.up++st.own.take j)) (hlow:Low (n+j) r) (hobj:∀x∈st.up++st.own.take j,ObjLow (n+j) x)
  (hd:st.defs=[]:=by rfl) (hr:rs=[rv]:=by rfl) (hj:j≤st.own.length:=by simp):FO P rs n post .ret st:=⟨.inr rfl,hd,r,rv,j,hr,hres,hlow,hobj,hj,hp⟩
/-- A call of such a function. -/
theorem R.callO {g:FuncId} {xs:List Operand} {ats:Array TypeId} {args:List AV} {post:AV→List AObj→Prop} (hcall:∀args w,(callFunc g args).run P w=.ok (.enter g args) w)
  (h:ACallO P g args (up++own) post) (hp:∀r H',post r H'→∃O,H'=up++(own++O)∧ARun P d ops rest ⟨sz,A3 s r fr,up,own++O,dfs,rnd⟩ Q)
  (ha:xs.map (Ae fr)=args:=by exact sL0) (hs:Nat.blt s sz=true:=by rfl):
  ARun P d ops (⟨some s,.call ⟨.value (.func g),xs.toArray,ats⟩,ty,pos,aft,none⟩::rest) ⟨sz,fr,up,own,dfs,rnd⟩ Q:=by
 refine ARun.op rfl (Q1:=fun s'=>ARun P d ops rest s' Q) ?_ (fun s' e=>e)
 intro G a w hr Q'
 have hs:s<sz:=by simpa using hs
 have hxr:=J2 hr xs
 have ha':xs.map (St.ev ⟨sz,fr,up,own,dfs,rnd⟩)=args:=ha
 rw [ha'] at hxr
 have hrun:(execOp a.eval (⟨some s,.call ⟨.value (.func g),xs.toArray,ats⟩,ty,pos,aft,none⟩:Oper)).run P w=.ok (.enter g (xs.map a.eval).toArray) w:=by
  have:=Hj (P:=P) (dst:=some s) (ty:=ty) (pos:=pos) (aft:=aft) (gd:=none) (ats:=ats) (f:=.func g) (xs:=xs) (g:=g) (va:=#[]) (vc:=#[]) (a:=a) (w:=w) hcall rfl
  simpa using this
 refine Ll (by intro c h;cases h) hrun (h d G w _ (by rw [←ha'];simp) (fun i y u hy hu=>(hxr i y u hy hu).lift) hr.heap hr.tags hr.top) ?_
 rintro e w' ⟨v,G',r,H',rfl,hrep,hH,hT,hk,hpo⟩
 obtain ⟨O,rfl,hrn⟩:=hp r H' hpo
 have h3:=hr.called (U:=up) (O:=own++O) hH hT hk rfl rfl (fun o ho=>by
  have:=hr.defsAt o ho
  rw [←List.append_assoc,List.getElem?_append_left (List.getElem?_eq_some_iff.1 this).1]
  exact this) hr.low
 obtain ⟨h4,k4⟩:=h3.took hrep.lift (s:=s) hs
 exact ⟨v,rfl,_,_,h4,(hk.less (Nat.le_succ d)).trans k4,rfl,rfl,rfl,hrn⟩
end
end Go.SX
