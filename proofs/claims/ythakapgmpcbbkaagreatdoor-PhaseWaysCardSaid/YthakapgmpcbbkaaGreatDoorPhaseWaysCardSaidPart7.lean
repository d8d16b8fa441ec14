/- Texts on the way to this: PhaseWays answers true for whatever it is handed: of any columns, any migration and any events: behind a cut it only comes to the new version; behind an abort, or a failure, only to where it was, with the cause that it had; keys only rise in each phase (up to 100 events, 50 columns, 4000 bytes). (part 7) -/
import Derived.ReadAgain
import Derived.ChangeSame
import Derived.ChangeArms
import Derived.ChangeOld
import Derived.ChangeFn
import Derived.MapPlaces
import Derived.DataReads
import Derived.OpenShut
import Derived.RowKit
import Derived.Deep.DeepHandedRow
import Derived.Test.YthakapgmpcbbkaaGreatDoorCards
import Derived.Test.YthakapgmpcbbkaaGreatDoorTie
import Derived.Lay
import Derived.Lib.LaidTab
import Derived.Stop.LaidErr
import Derived.Shelf.Vars
import Derived.ChangeBears
import Derived.Lib.ParseIntBTie
import Derived.Test.YthakapgmpcbbkaaGreatDoorPhaseWaysCardSaidPart6
set_option linter.all false
namespace Go.SX
variable [GI:GlobInv]
open Classical Go.RowKit Go.ChangeShapes
section
variable {P:Program} {H:Type} {enc:TypeId×Value→H}

/-- The first ghost: whatever lies there is read for good. -/
noncomputable def G0 (W:World):Gh:=⟨fun b o=>if (W.cell? ⟨b,o,none⟩).isSome then .fix else .free,fun _=>0,0⟩
theorem zz {W:World} {b o:Nat} {u:Value} (h:W.cell? ⟨b,o,none⟩=some u):(G0 W).tag b o=.fix:=by simp [G0,h]
theorem O1 {W:World} {b:Nat} (h:b<W.heap.size):H0 (G0 W) W b:=⟨h,fun o=>by simp only [G0];split<;>simp,fun i hi=>absurd hi (Nat.not_lt_zero _)⟩
theorem vf (W:World):HeapRel (G0 W) [] W:=⟨fun i x h=>by simp at h,rfl,fun i j hi=>absurd hi (Nat.not_lt_zero _)⟩
theorem vg {W:World} (h:H4 W):TagOK (G0 W) W:=by
 refine ⟨fun b o hb=>?_,fun b o i hb=>?_,fun b o L hb=>?_,fun x hx=>?_⟩
 ·simp only [G0] at hb
  split at hb
  ·rename_i hs;exact Option.isSome_iff_exists.1 hs
  exact absurd rfl hb
 ·simp only [G0] at hb;split at hb<;>cases hb
 ·simp only [G0] at hb;split at hb<;>cases hb
 obtain ⟨v,h1,h2⟩:=h x hx
 exact ⟨O1 (Array.getElem?_eq_some_iff.1 h1).1,v,h1,h2⟩

/-- What a datum of a plain type ADg as. -/
inductive DRep (P:Program):TypeId→DataW H→AV→Prop
 | int {t:TypeId} {k:IntKind} {n:Int} (hu:P.underlying t=some (.int k)) (wf:(Lit.int k n).wf=true):DRep P t (.lit (.int k n)) (.v (.int k n))
 | bool {t:TypeId} {b:Bool} (hu:P.underlying t=some .bool):DRep P t (.lit (.bool b)) (.v (.bool b))
 | str {t:TypeId} {bs:List UInt8} (hu:P.underlying t=some .string):DRep P t (.lit (.string bs)) (.v (sv bs))
 | nil {t e:TypeId} (hu:P.underlying t=some (.slice e)):DRep P t .nil (.slice false (P.cellsOf e) [])
 | slice {t e:TypeId} {elems spare:List (DataW H)} {ys:List AV} (hu:P.underlying t=some (.slice e)) (hn:ys.length=elems.length)
   (h:∀(i:Nat) (d:DataW H) (y:AV),elems[i]? = some d→ys[i]? = some y→DRep P e d y):DRep P t (.slice elems spare) (.slice false (P.cellsOf e) ys)
 | struct {t:TypeId} {fs:Array Field} {parts:List (DataW H)} {ys:List AV} (hu:P.underlying t=some (.struct fs)) (hn:parts.length=fs.size) (hn':ys.length=fs.size)
   (h:∀(i:Nat) (f:Field) (d:DataW H) (y:AV),fs[i]? = some f→parts[i]? = some d→ys[i]? = some y→DRep P f.type d y):DRep P t (.agg parts) (.agg (ys.flatMap AV.cells))

/-- Types that are made of numbers, texts, bools, slices and structs alone. -/
structure PlainT (P:Program) (T:TypeId→Prop):Prop where
 look:∀t,T t→(P.cellsOf t=1∧((∃k,P.underlying t=some (.int k))∨P.underlying t=some .bool∨P.underlying t=some .string∨(∃e,P.underlying t=some (.slice e)∧T e∧0<P.cellsOf e))) ∨
  (∃fs,P.underlying t=some (.struct fs)∧(∀f∈fs.toList,T f.type)∧P.cellsOf t=(fs.toList.map fun f=>P.cellsOf f.type).sum ∧
   ∀(j:Nat) (f:Field),fs.toList[j]? = some f→f.offset=((fs.toList.take j).map fun f=>P.cellsOf f.type).sum)

/-- The reading of a row of cells. -/
def CRep (W:World) (y:AV) (cs:List Value):Prop:=
 y.cells.length=cs.length∧(∀c∈y.cells,c.one=true)∧∀(j:Nat) (c:AV) (v:Value),y.cells[j]? = some c→cs[j]? = some v→Rep (G0 W) W none c v

theorem CRep.v1 {W:World} {x:Value} (h:x.oneCell'=true):CRep W (.v x) [x]:=
 ⟨rfl,by simp [AV.cells,AV.one,h],fun j c v h1 h2=>by
  match j with
  | 0=>simp [AV.cells] at h1 h2;subst h1;subst h2;exact .v _ _
  | j+1=>simp [AV.cells] at h1⟩

theorem Xz {f:AV→List AV}:∀(ys:List AV) (j:Nat) (c:AV),(ys.flatMap f)[j]? = some c→∃(i:Nat) (y:AV) (q:Nat),ys[i]? = some y∧(f y)[q]? = some c∧j=((ys.take i).map fun y=>(f y).length).sum+q
 | [],j,c,h=>by simp at h
 | y::r,j,c,h=>by
  rw [List.flatMap_cons] at h
  rcases Nat.lt_or_ge j (f y).length with h'|h'
  ·rw [List.getElem?_append_left h'] at h
   exact ⟨0,y,j,rfl,h,by simp⟩
  rw [List.getElem?_append_right h'] at h
  obtain ⟨i,z,q,h1,h2,h3⟩:=Xz r _ c h
  exact ⟨i+1,z,q,h1,h2,by simp only [List.take_succ_cons,List.map_cons,List.sum_cons];omega⟩
theorem Ka {α:Type} {R:Nat→α→Prop}:∀(n:Nat),(∀i,i<n→∃y,R i y)→∃ys:List α,ys.length=n∧∀(i:Nat) (y:α),ys[i]? = some y→R i y
 | 0,_=>⟨[],rfl,fun i y h=>by simp at h⟩
 | n+1,h=>by
  obtain ⟨ys,h1,h2⟩:=Ka n (fun i hi=>h i (by omega))
  obtain ⟨y,hy⟩:=h n (by omega)
  refine ⟨ys++[y],by simp [h1],fun i z hz=>?_⟩
  rcases Nat.lt_or_ge i n with h'|h'
  ·rw [List.getElem?_append_left (by omega)] at hz;exact h2 i z hz
  rw [List.getElem?_append_right (by omega)] at hz
  have:i=n:=by
   have:=(List.getElem?_eq_some_iff.1 hz).1
   simp at this;omega
  subst this
  rw [h1] at hz
  simp at hz
  exact hz ▸ hy
theorem Lz {α β:Type} {f:α→Nat} {g:β→Nat}:∀(l:List α) (m:List β),l.length=m.length→(∀(i:Nat) (a:α) (b:β),l[i]? = some a→m[i]? = some b→f a=g b)→(l.map f).sum=(m.map g).sum
 | [],[],_,_=>rfl
 | [],b::m,h,_=>by simp at h
 | a::l,[],h,_=>by simp at h
 | a::l,b::m,h,hh=>by
  simp only [List.map_cons,List.sum_cons]
  rw [hh 0 a b rfl rfl,Lz l m (by simpa using h) (fun i a b h1 h2=>hh (i+1) a b h1 h2)]

theorem oz {T:TypeId→Prop} (PT:PlainT P T) {W:World}:∀(n:Nat) (t:TypeId) (cs:List Value) (x:DataW H×List MemPlace),T t→DataW.trod enc P W 0 (fun _=>true) true n t cs=some x →
  ∃y,DRep P t x.1 y∧CRep W y cs∧cs.length=P.cellsOf t:=by
 intro n
 induction n with
 | zero=>intro t cs x _ h;simp [DataW.trod] at h
 | succ n ih =>
  intro t cs x hT h
  rcases PT.look t hT with ⟨hc1,⟨k,hu⟩|hu|hu|⟨e,hu,he,hz⟩⟩|⟨fs,hu,hf,hsum,hoff⟩
  ·obtain ⟨m,rfl,rfl,hw⟩:=DataW.trod_int hu h
   exact ⟨_,.int hu hw,.v1 rfl,hc1.symm⟩
  ·obtain ⟨b,rfl,rfl⟩:=DataW.trod_bool hu h
   exact ⟨_,.bool hu,.v1 rfl,hc1.symm⟩
  ·obtain ⟨s,rfl,rfl,_⟩:=DataW.trod_string hu h
   exact ⟨_,.str hu,.v1 rfl,hc1.symm⟩
  ·rcases DataW.trod_slice hu h with ⟨rfl,rfl⟩|⟨a,len,cap,elems,rest,m,hm,rfl,rfl,hb,hlc,hcm,hel,hE,_,_⟩
   ·refine ⟨_,.nil hu,⟨rfl,by simp [AV.cells,AV.one],fun j c v h1 h2=>?_⟩,hc1.symm⟩
    match j with
    | 0=>simp [AV.cells] at h1 h2;subst h1;subst h2;exact .slice0 _ _ _
    | j+1=>simp [AV.cells] at h1
   injection hm with hm
   subst hm
   subst hel
   have hEi:∀i,i<elems.length→∃y,(∀d,elems[i]? = some d→DRep P e d.1 y)∧∃ci,W.cells? 0 (a.add (i*P.cellsOf e)) (P.cellsOf e)=some ci∧CRep W y ci:=fun i hi=>by
    have h1:=hE i hi
    rw [List.getElem?_eq_getElem hi,Option.bind_eq_some_iff] at h1
    obtain ⟨ci,h2,h3⟩:=h1
    obtain ⟨y,h4,h5,_⟩:=ih e ci _ he h3
    exact ⟨y,fun d hd=>by rw [List.getElem?_eq_getElem hi] at hd;injection hd with hd;subst hd;exact h4,ci,h2,h5⟩
   obtain ⟨ys,hyl,hys⟩:=Ka elems.length hEi
   refine ⟨.slice false (P.cellsOf e) ys,.slice hu (by simp [hyl]) (fun i d y hd hy=>?_),⟨rfl,by simp [AV.cells,AV.one],fun j c v h1 h2=>?_⟩,hc1.symm⟩
   ·rw [List.getElem?_map,Option.map_eq_some_iff] at hd
    obtain ⟨d',hd',rfl⟩:=hd
    exact (hys i y hy).1 d' hd'
   match j with
   | j+1=>simp [AV.cells] at h1
   | 0 =>
    simp [AV.cells] at h1 h2
    subst h1;subst h2
    by_cases h0:elems.length=0
    ·have:ys=[]:=List.eq_nil_of_length_eq_zero (by omega)
     subst this
     rw [h0]
     exact .sliceE _ _ _ _
    have hspot:a.spot=none:=by
     obtain ⟨ci,hci,_⟩:=(hys 0 ys[0] (List.getElem?_eq_getElem (by omega))).2
     obtain ⟨_,g1,g2⟩:=World.cells?_some hci
     have g3:=g2 0 hz
     rw [List.getElem?_eq_getElem (by omega)] at g3
     simp only [Nat.zero_mul,Addr.add,if_true] at g3
     unfold World.cell? at g3
     split at g3
     ·split at g3
      ·cases g3
      rename_i hs;simpa using hs
     cases g3
    refine .slice _ false _ ys a _ cap (fun i j=>(W.cell? ⟨a.block,a.off+i*P.cellsOf e+j,none⟩).getD undef) hspot hyl.symm hlc (fun x hx=>?_) (fun x hx=>?_) (fun i x j y hx hy=>?_) (fun i x j y hx hy=>?_) (fun h=>by cases h)
    ·obtain ⟨i,hi⟩:=List.getElem?_of_mem hx
     obtain ⟨ci,hci,hcr⟩:=(hys i x hi).2
     rw [hcr.1]
     exact (World.cells?_some hci).2.1
    ·obtain ⟨i,hi⟩:=List.getElem?_of_mem hx
     obtain ⟨ci,hci,hcr⟩:=(hys i x hi).2
     exact hcr.2.1
    ·obtain ⟨ci,hci,hcr⟩:=(hys i x hx).2
     obtain ⟨_,g1,g2⟩:=World.cells?_some hci
     have hj:j<P.cellsOf e:=by
      have:=(List.getElem?_eq_some_iff.1 hy).1
      rw [hcr.1] at this;omega
     have g3:=g2 j hj
     rw [List.getElem?_eq_getElem (by omega),Bg hspot,Bg rfl] at g3
     exact ⟨zz g3,by rw [g3];rfl⟩
    obtain ⟨ci,hci,hcr⟩:=(hys i x hx).2
    obtain ⟨_,g1,g2⟩:=World.cells?_some hci
    have hj:j<P.cellsOf e:=by
     have:=(List.getElem?_eq_some_iff.1 hy).1
     rw [hcr.1] at this;omega
    have g3:=g2 j hj
    rw [List.getElem?_eq_getElem (by omega),Bg hspot,Bg rfl] at g3
    simp only at g3
    rw [g3]
    exact hcr.2.2 j y _ hy (List.getElem?_eq_getElem (by omega))
  obtain ⟨xs,m,hm,rfl,hcl,hxl,hX⟩:=DataW.trod_struct hu h
  injection hm with hm
  subst hm
  have hXi:∀i,i<fs.size→∃y,∀(f:Field),fs[i]? = some f→(∀d,xs[i]? = some d→DRep P f.type d.1 y)∧CRep W y ((cs.drop f.offset).take (P.cellsOf f.type))∧y.cells.length=P.cellsOf f.type:=fun i hi=>by
   have h1:=hX i fs[i] (Array.getElem?_eq_getElem hi)
   rw [List.getElem?_eq_getElem (by omega)] at h1
   obtain ⟨y,h2,h3,h4⟩:=ih _ _ _ (hf _ (by simp)) h1
   refine ⟨y,fun f hf'=>?_⟩
   rw [Array.getElem?_eq_getElem hi] at hf'
   injection hf' with hf'
   subst hf'
   exact ⟨fun d hd=>by rw [List.getElem?_eq_getElem (by omega)] at hd;injection hd with hd;subst hd;exact h2,h3,by rw [h3.1,h4]⟩
  obtain ⟨ys,hyl,hys⟩:=Ka fs.size hXi
  have hlenI:∀(i:Nat),((ys.take i).map fun y=>y.cells.length).sum=((fs.toList.take i).map fun f=>P.cellsOf f.type).sum:=fun i=>by
   refine Lz _ _ (by simp [hyl]) (fun j y f h1 h2=>?_)
   rw [List.getElem?_take] at h1 h2
   split at h1
   ·rename_i hj
    rw [if_pos hj] at h2
    exact (hys j y h1 f (by simpa using h2)).2.2
   cases h1
  have htot:(ys.flatMap AV.cells).length=cs.length:=by
   rw [List.length_flatMap,hcl,hsum]
   refine Lz _ _ (by simp [hyl]) (fun j y f h1 h2=>(hys j y h1 f (by simpa using h2)).2.2)
  refine ⟨.agg (ys.flatMap AV.cells),.struct hu (by simp [hxl]) hyl (fun i f d y hf' hd hy=>?_),⟨htot,fun c hc=>?_,fun j c v h1 h2=>?_⟩,hcl⟩
  ·rw [List.getElem?_map,Option.map_eq_some_iff] at hd
   obtain ⟨d',hd',rfl⟩:=hd
   exact (hys i y hy f hf').1 d' hd'
  ·obtain ⟨y,hy,hcy⟩:=List.mem_flatMap.1 hc
   obtain ⟨i,hi⟩:=List.getElem?_of_mem hy
   have hlt:i<fs.size:=by rw [←hyl];exact (List.getElem?_eq_some_iff.1 hi).1
   exact ((hys i y hi fs[i] (Array.getElem?_eq_getElem hlt)).2.1).2.1 c hcy
  obtain ⟨i,y,q,g1,g2,rfl⟩:=Xz ys j c h1
  have hlt:i<fs.size:=by rw [←hyl];exact (List.getElem?_eq_some_iff.1 g1).1
  obtain ⟨_,k2,k3⟩:=hys i y g1 fs[i] (Array.getElem?_eq_getElem hlt)
  have hq:q<P.cellsOf (fs[i]).type:=by have:=(List.getElem?_eq_some_iff.1 g2).1;omega
  refine k2.2.2 q c v g2 ?_
  rw [List.getElem?_take,if_pos hq,List.getElem?_drop,hoff i fs[i] (by simp [hlt]),←hlenI i]
  exact h2

/-- A measure of data. -/
structure Bulk (B:DataW H→Nat):Prop where
 str:∀bs,bs.length≤B (.lit (.string bs))
 slice:∀elems spare,elems.length≤B (.slice elems spare)∧∀d∈elems,B d≤B (.slice elems spare)
 agg:∀parts,∀d∈parts,B d≤B (.agg parts)
theorem DRep.int' {t:TypeId} {k:IntKind} {d:DataW H} {y:AV} (hu:P.underlying t=some (.int k)) (h:DRep P t d y):∃n,d=.lit (.int k n)∧y=.v (.int k n)∧k.min≤n∧n≤k.max:=by
 cases h with
 | int hu' wf=>rw [hu] at hu';injection hu' with e;injection e with e;subst e;exact ⟨_,rfl,rfl,by simpa [Lit.wf] using wf⟩
 | _ hu'=>rw [hu] at hu';cases hu'
theorem DRep.str' {t:TypeId} {d:DataW H} {y:AV} (hu:P.underlying t=some .string) (h:DRep P t d y):∃s,d=.lit (.string s)∧y=.v (sv s):=by
 cases h with
 | str hu'=>exact ⟨_,rfl,rfl⟩
 | _ hu'=>rw [hu] at hu';cases hu'
theorem DRep.slice' {t e:TypeId} {d:DataW H} {y:AV} {B:DataW H→Nat} (hB:Bulk B) {α:Type} (A:α→AV) (R:α→Prop) {b:Nat} (hu:P.underlying t=some (.slice e)) (h:DRep P t d y) (hb:B d≤b)
  (hE:∀d y,B d≤b→DRep P e d y→∃x,y=A x∧R x):∃l:List α,y=.slice false (P.cellsOf e) (l.map A)∧l.length≤b∧∀x∈l,R x:=by
 cases h with
 | nil hu'=>rw [hu] at hu';injection hu' with e';injection e' with e';subst e';exact ⟨[],rfl,Nat.zero_le _,fun x hx=>by cases hx⟩
 | slice hu' hn hh =>
  rw [hu] at hu';injection hu' with e';injection e' with e';subst e'
  rename_i elems spare ys
  obtain ⟨h1,h2⟩:=hB.slice elems spare
  have key:∀(ys:List AV) (es:List (DataW H)),ys.length=es.length→(∀d∈es,B d≤b)→(∀(i:Nat) (d:DataW H) (y:AV),es[i]? = some d→ys[i]? = some y→DRep P e d y)→∃l:List α,ys=l.map A∧∀x∈l,R x:=by
   intro ys
   induction ys with
   | nil=>exact fun es _ _ _=>⟨[],rfl,fun x hx=>by cases hx⟩
   | cons y ys ih =>
    intro es hl hb2 hr
    cases es with
    | nil=>simp at hl
    | cons d es =>
     obtain ⟨x,rfl,hx⟩:=hE d y (hb2 d (by simp)) (hr 0 d y rfl rfl)
     obtain ⟨l,rfl,hR⟩:=ih es (by simpa using hl) (fun d hd=>hb2 d (by simp [hd])) (fun i d y a c=>hr (i+1) d y a c)
     exact ⟨x::l,rfl,fun z hz=>by
      rcases List.mem_cons.1 hz with rfl|hz
      ·exact hx
      exact hR z hz⟩
  obtain ⟨l,rfl,hR⟩:=key ys elems hn (fun d hd=>Nat.le_trans (h2 d hd) hb) hh
  exact ⟨l,rfl,by simp at hn;omega,hR⟩
 | _ hu'=>rw [hu] at hu';cases hu'
theorem DRep.struct' {t:TypeId} {fs:Array Field} {d:DataW H} {y:AV} {B:DataW H→Nat} (hB:Bulk B) (hu:P.underlying t=some (.struct fs)) (h:DRep P t d y):
  ∃ys:List AV,ys.length=fs.size∧y=.agg (ys.flatMap AV.cells)∧∀(i:Nat) (f:Field) (z:AV),fs[i]? = some f→ys[i]? = some z→∃d',B d'≤B d∧DRep P f.type d' z:=by
 cases h with
 | struct hu' hn hn' hh =>
  rw [hu] at hu';injection hu' with e';injection e' with e';subst e'
  rename_i parts ys
  refine ⟨ys,hn',rfl,fun i f z h1 h2=>?_⟩
  have hlt:i<parts.length:=by rw [hn];exact (Array.getElem?_eq_some_iff.1 h1).1
  exact ⟨parts[i],hB.agg parts _ (List.getElem_mem hlt),hh i f parts[i] z h1 (List.getElem?_eq_getElem hlt) h2⟩
 | _ hu'=>rw [hu] at hu';cases hu'

/-- An argument's reading. -/
theorem vh {T:TypeId→Prop} (PT:PlainT P T) {W:World} {t:TypeId} {v:Value} {d:DataW H} {ps:List MemPlace} {b0:Nat} (hT:T t) (hok:Value.okWide P W .any b0 t v) (h:DataW.Trod enc P W 0 (fun _=>true) true t v d ps):
  ∃y,DRep P t d y∧Rep (G0 W) W none y v:=by
 obtain ⟨n,hn⟩:=h
 obtain ⟨y,h1,h2,h3⟩:=oz PT n t _ _ hT hn
 refine ⟨y,h1,?_⟩
 rcases PT.look t hT with ⟨hc1,hone⟩|⟨fs,hu,_⟩
 ·have hva:∀cs,v≠.agg cs:=fun cs e=>by
   subst e
   rcases hone with ⟨k,hu⟩|hu|hu|⟨e,hu,he,hz⟩<;>simp [Value.okWide,hu,Cell.okWide,Cell.ok] at hok
  have hvc:v.cells=#[v]:=by cases v<;>first|rfl|exact absurd rfl (hva _)
  have hyc:y.cells=[y]:=by
   cases h1 with
   | struct hu=>rcases hone with ⟨k,hu'⟩|hu'|hu'|⟨e,hu',he,hz⟩<;>rw [hu] at hu'<;>cases hu'
   | _=>rfl
  have:=h2.2.2 0 y v (by rw [hyc];rfl) (by rw [hvc];rfl)
  exact this
 obtain ⟨cs,rfl,hsz,_⟩:∃cs,v=.agg cs∧cs.size=P.cellsOf t∧Row.okWide P W .any b0 t cs:=by
  simp only [Value.okWide,hu] at hok
  exact hok
 cases h1 with
 | struct hu' hn1 hn2 hh =>
  refine .agg _ _ _ (by have:=h2.1;simp only [AV.cells,Value.cells,Array.length_toList] at this;exact this.symm) h2.2.1 (fun i c u a b=>h2.2.2 i c u a (by simpa [Value.cells] using b))
 | int hu'=>rw [hu] at hu';cases hu'
 | bool hu'=>rw [hu] at hu';cases hu'
 | str hu'=>rw [hu] at hu';cases hu'
 | nil hu'=>rw [hu] at hu';cases hu'
 | slice hu'=>rw [hu] at hu';cases hu'

def DReps (P:Program):List TypeId→List (DataW H)→List AV→Prop
 | [],[],[]=>True
 | t::ts,d::ds,y::ys=>DRep P t d y∧DReps P ts ds ys
 | _,_,_=>False

theorem DReps.cons' {t:TypeId} {ts:List TypeId} {ds:List (DataW H)} {ys:List AV} (h:DReps P (t::ts) ds ys):∃d ds' y ys',ds=d::ds'∧ys=y::ys'∧DRep P t d y∧DReps P ts ds' ys':=by
 match ds,ys,h with
 | d::ds',y::ys',⟨h1,h2⟩=>exact ⟨d,ds',y,ys',rfl,rfl,h1,h2⟩
 | [],_,h=>simp [DReps] at h
 | _::_,[],h=>simp [DReps] at h
theorem DReps.nil' {ds:List (DataW H)} {ys:List AV} (h:DReps P [] ds ys):ds=[]∧ys=[]:=by
 match ds,ys,h with
 | [],[],_=>exact ⟨rfl,rfl⟩
 | [],_::_,h=>simp [DReps] at h
 | _::_,_,h=>simp [DReps] at h
theorem Tx {T:TypeId→Prop} (PT:PlainT P T) {W:World} {b0:Nat}:∀(ts:List TypeId) (vs:List Value) (ds:List (DataW H)) (ps:List MemPlace),(∀t∈ts,T t) →
  (∀(j:Nat) t v,ts[j]? = some t→vs[j]? = some v→Value.okWide P W .any b0 t v)→DataW.TrodAll enc P W 0 (fun _=>true) true ts vs ds ps →
  ∃ys,DReps P ts ds ys∧ys.length=vs.length∧∀(i:Nat) (y:AV) (u:Value),ys[i]? = some y→vs[i]? = some u→Rep (G0 W) W none y u
 | [],[],[],_,_,_,_=>⟨[],trivial,rfl,fun i y u h=>by simp at h⟩
 | t::ts,v::vs,d::ds,ps,hT,hok,⟨p,q,h1,h2,_⟩=>by
  obtain ⟨y,k1,k2⟩:=vh PT (hT t (by simp)) (hok 0 t v rfl rfl) h1
  obtain ⟨ys,k3,k4,k5⟩:=Tx PT ts vs ds q (fun t ht=>hT t (by simp [ht])) (fun j t v a b=>hok (j+1) t v a b) h2
  refine ⟨y::ys,⟨k1,k3⟩,by simp [k4],fun i z u a b=>?_⟩
  match i with
  | 0=>simp at a b;subst a;subst b;exact k2
  | i+1=>exact k5 i z u a b
 | [],_::_,_,_,_,_,h=>by simp [DataW.TrodAll] at h
 | [],[],_::_,_,_,_,h=>by simp [DataW.TrodAll] at h
 | _::_,[],_,_,_,_,h=>by simp [DataW.TrodAll] at h
 | _::_,_::_,[],_,_,_,h=>by simp [DataW.TrodAll] at h

theorem P6 {W:World} {sp:Nat→Bool} {hd:Bool}:∀{ts:List TypeId} {vs:List Value} {ds:List (DataW H)} {ps:List MemPlace},DataW.TrodAll enc P W 0 sp hd ts vs ds ps→ds.length=ts.length
 | [],[],[],_,_=>rfl
 | _::_,_::_,_::_,_,⟨_,_,_,h,_⟩=>by rw [List.length_cons,List.length_cons,P6 h]
 | [],_::_,_,_,h=>by simp [DataW.TrodAll] at h
 | [],[],_::_,_,h=>by simp [DataW.TrodAll] at h
 | _::_,[],_,_,h=>by simp [DataW.TrodAll] at h
 | _::_,_::_,[],_,h=>by simp [DataW.TrodAll] at h
theorem Kb {W W':World} {sp:Nat→Bool}:∀{ts:List TypeId} {vs:List Value} {ds:List (DataW H)} {ps:List MemPlace},DataW.TrodAll enc P W 0 sp true ts vs ds ps→(∀p∈ps,W.sameAt W' p)→DataW.TrodAll enc P W' 0 sp true ts vs ds ps
 | [],[],[],_,h,_=>h
 | _::_,_::_,_::_,_,⟨p,q,⟨n,hn⟩,h2,e⟩,hs=>⟨p,q,⟨n,DataW.trod_carry n _ _ _ hn (fun x hx=>hs x (by rw [e];exact List.mem_append_left _ hx))⟩,Kb h2 (fun x hx=>hs x (by rw [e];exact List.mem_append_right _ hx)),e⟩
 | [],_::_,_,_,h,_=>by simp [DataW.TrodAll] at h
 | [],[],_::_,_,h,_=>by simp [DataW.TrodAll] at h
 | _::_,[],_,_,h,_=>by simp [DataW.TrodAll] at h
 | _::_,_::_,[],_,h,_=>by simp [DataW.TrodAll] at h

/-- **A law that answers true, for whatever can be read.** -/
theorem jv {f:FuncId} {fn:Func} {s:ChangeSpec} {T:TypeId→Prop} {tb:TypeId} {W:World} {base:Nat} {args:Array Value} {ds gs:List (DataW H)} {before:List MemPlace} (K:Kids P (·<P.types.size)) (hz:∀t e,t<P.types.size→P.underlying t=some (.slice e)→0<P.cellsOf e)
  (PT:PlainT P T) (hT:∀t∈fn.params.toList,T t∧t<P.types.size) (hb:P.underlying tb=some .bool) (hres:fn.resultTypes=#[tb]) (hvars:s.vars=[])
  (hspec:∀ds:List (DataW H),ds.length=fn.params.size→s.fn H ds={ results:=[.lit (.bool true)],args:=ds })
  (hval:∀(j:Nat) t v,fn.params[j]? = some t→args[j]? = some v→Value.okWide P W .any base t v) (hW:DataW.Whole enc P fn.params.toList s.vars false W args.toList ds gs before)
  (hglob:H4 W)
  (main:∀ys:List AV,DReps P fn.params.toList ds ys→AFun P f ys [] (.v (.bool true))) (hbd:GI.bd≤0:=by exact Nat.le_refl 0):
  Calls P f args W (fun e W'=>∃v,e=.returned v∧s.post enc P fn false true false false W args v W'):=by
 have hW0:=hW
 obtain ⟨p,q,hA,hV,hpq,hfz,hnd⟩:=hW
 rw [hvars] at hV
 obtain ⟨rfl,rfl⟩:=trodVars_none hV
 rw [List.append_nil] at hpq
 subst hpq
 obtain ⟨ys,h1,h2,h3⟩:=Tx PT _ _ _ _ (fun t ht=>(hT t ht).1) (fun j t v a b=>hval j t v (by simpa using a) (by simpa using b)) hA
 have hlen:=P6 hA
 have hc:=main ys h1 0 (G0 W) W args (by simpa using h2.symm) (fun i y u a b=>(h3 i y u a (by simpa using b)).lift) (vf W) (vg hglob)
 refine (callsIn_wide.1 (hc hbd)).mono ?_
 rintro e W' ⟨v,G',r,H',rfl,hr,hH,hTg,hk,hl,rfl,rfl⟩
 have hv:=Ip hr
 subst hv
 refine ⟨_,rfl,ds,[],before,[],before,[],hW0,?_,?_,?_,?_,fun h=>by cases h⟩
 ·rw [hres,List.append_nil,hspec ds (by simpa using hlen)]
  exact trodAll_cons_mk (p:=[]) (shut_bool hb true) trodAll_mk0
 ·rw [List.append_nil,hspec ds (by simpa using hlen)]
  refine Kb (DataW.TrodAll.respare K hz (fun t ht=>(hT t ht).2) hA (fun p hp=>by simpa using hW0.lt p hp)) (fun p hp=>?_)
  have hlt:=hW0.lt p hp
  have hb:=(hk.old _ (O1 hlt)).1
  cases p with
  | cell b o=>exact Da hb
  | map b=>exact hb
 ·rw [hvars,List.append_nil,hspec ds (by simpa using hlen)]
  rfl
 refine ⟨hk.os,hk.output,fun i hi=>?_⟩
 have hb:=(hk.old i (O1 hi)).1
 rw [hb]
 cases ho:W.heap[i]? with
 | none=>simp
 | some o=>cases o<;>simp
end
end Go.SX
namespace Go.Proofs.YthakapgmpcbbkaaGreatDoor
open Go Go.SX Go.SX.Nb Go.ChangeShapes Go.RowKit
set_option maxRecDepth 100000

theorem own:ownKnob Tryz.prog.godebug=none:=by kernel_rfl
theorem kids:Kids Tryz.prog (·<Tryz.prog.types.size):=kids_rows (by kernel_rfl) (by kernel_rfl)
theorem full:∀t e,t<Tryz.prog.types.size→Tryz.prog.underlying t=some (.slice e)→0<Tryz.prog.cellsOf e:=slices_full_of Tryz.prog (by kernel_rfl)
theorem p8 {H:Type}:∀d:DataW H,1≤Rows.uptoBulk d
 | .lit (.string b)=>by rw [Rows.uptoBulk];omega
 | .lit (.bool _)=>by simp [Rows.uptoBulk]
 | .lit (.int _ _)=>by simp [Rows.uptoBulk]
 | .lit (.float _ _)=>by simp [Rows.uptoBulk]
 | .lit .nil=>by simp [Rows.uptoBulk]
 | .nil=>by simp [Rows.uptoBulk]
 | .ptr d=>by rw [Rows.uptoBulk];omega
 | .slice a b=>by rw [Rows.uptoBulk];omega
 | .agg a=>by rw [Rows.uptoBulk];omega
 | .iface _ d=>by rw [Rows.uptoBulk];omega
 | .map a=>by rw [Rows.uptoBulk];omega
 | .held _=>by simp [Rows.uptoBulk]
theorem R0 {H:Type}:∀l:List (DataW H),l.length≤Rows.uptoBulkAll l∧∀d∈l,Rows.uptoBulk d≤Rows.uptoBulkAll l
 | []=>⟨Nat.zero_le _,fun d h=>by cases h⟩
 | d::r=>by
  obtain ⟨h1,h2⟩:=R0 r
  have:=p8 d
  rw [Rows.uptoBulkAll,List.length_cons]
  refine ⟨by omega,fun x hx=>?_⟩
  rcases List.mem_cons.1 hx with rfl|hx
  ·omega
  have:=h2 x hx;omega
theorem vi {H:Type}:Bulk (Rows.uptoBulk (H:=H)) where
 str:=fun bs=>by rw [Rows.uptoBulk];omega
 slice:=fun elems spare=>by
  obtain ⟨h1,h2⟩:=R0 elems
  rw [Rows.uptoBulk]
  exact ⟨by omega,fun d hd=>by have:=h2 d hd;omega⟩
 agg:=fun parts d hd=>by
  have:=(R0 parts).2 d hd
  rw [Rows.uptoBulk]
  omega

/-- What the rows of this seat list. -/
def p9:List (String×DataW Unit):=Rows.phaseWaysUptoRow.laid
theorem jx:∀u,Tryz.prog.typeName? 3 u=some "*errors.errorString" → u=310:=by
 intro u hu
 exact typeName_ptr_named (nm := "errors.errorString") (by kernel_rfl) (by kernel_rfl) (by decide) u hu
theorem vj {W:World} (h:laidMet Tryz.prog p9 W):∃a:Addr,W.var? Tryz.prog "strconv.ErrRange" = some #[.iface 310 (.pointer (some a))]:=by
 have h':=h.tail.tail.tail.tail
 obtain ⟨a,s,h1,_⟩:=laid_sentinel (g:=3) (ti:=119) (tp:=310) (te:=312) (ts:=9) h' (by kernel_rfl) (by kernel_rfl) Tryz.underlying119 jx Tryz.underlying310 Tryz.underlying312 rfl rfl Tryz.underlying9 (by kernel_rfl) (by kernel_rfl)
 exact ⟨a,h1⟩
theorem vk {W:World} (h:laidMet Tryz.prog p9 W):Lib.TabIs Tryz.prog W "internal/strconv.uint64pow10" .u64 Lib.pow10Tab:=
 Lib.tabIs_of_head (g:=5) (t:=307) (e:=274) (n:=20) (by kernel_rfl) (by kernel_rfl) (by kernel_rfl) (by kernel_rfl) (by kernel_rfl) (by kernel_rfl) h.tail.tail
theorem Ty {P:Program} {W:World} {n:String} {g:Nat} {cs:Array Value} (hg:P.globalNamed n=some g) (h:W.var? P n=some cs):∃t f,W.heap[g]? = some (.cells cs t f):=by
 unfold World.var? at h
 rw [hg] at h
 simp only [Option.bind_some] at h
 split at h
 ·rename_i cs' t f e
  injection h with h
  subst h
  exact ⟨t,f,e⟩
 cases h
theorem glob {W:World} [E:ErrAt] (h:W.ShapedOpen Tryz.prog) (hl:laidMet Tryz.prog p9 W) (he:W.var? Tryz.prog "strconv.ErrRange" = some #[.iface 310 (.pointer (some E.b))]):H4 W:=by
 intro x hx
 have hx':x∈Tk:=hx
 unfold Tk at hx'
 simp only [List.mem_cons,List.mem_nil_iff,or_false] at hx'
 rcases hx' with rfl|rfl|rfl
 ·obtain ⟨m,hm⟩:=cell_of_shapedOpen_int (g:=0) (t:=3) (zero:=#[.int .i64 0]) (k:=.i64) h (of_decide_eq_true (by kernel_rfl)) (by kernel_rfl) rfl (by kernel_rfl) (by kernel_rfl) Tryz.underlying3
  obtain ⟨cs,hh,hs,_⟩:=h.1 0 #[.int .i64 0] 3 (of_decide_eq_true (by kernel_rfl)) (by kernel_rfl)
  have hs':cs.size=1:=hs
  have h1:0<cs.size:=by omega
  have hc:cs[0]=.int .i64 m:=by
   simp [World.cell?,hh,h1] at hm
   exact hm
  have:cs=#[.int .i64 m]:=by
   apply Array.ext
   ·simpa using hs'
   intro i h1 h2
   have:i=0:=by omega
   subst this
   simpa using hc
  rw [this] at hh
  exact ⟨_,hh,m,3,_,rfl⟩
 ·obtain ⟨t,f,e⟩:=Ty (g:=3) (by kernel_rfl) he
  exact ⟨_,e,t,f,rfl⟩
 obtain ⟨t,f,e⟩:=Ty (g:=5) (by kernel_rfl) (vk hl)
 exact ⟨_,e,t,f,rfl⟩
end Go.Proofs.YthakapgmpcbbkaaGreatDoor
namespace Go.SX.Nb
open Go Go.SX Go.Proofs
variable [ErrAt]
set_option maxRecDepth 4000
/-- The lexer from a place between two words on. -/
def Jr (f q:Nat) (s:Str):List (Tok×Int):=E6 f (q+gapM s) (s.drop (gapM s))
theorem pc (s:Str):B1 s=Jr (s.length+1) 0 s:=by unfold B1 Jr;rw [Nat.zero_add]
theorem Y0 {f q:Nat} {s:Str} (h:s≠[]):∃(n:Nat),E6 (f+1) q s=(⟨(Au s).1,(Au s).2.1,q⟩,(Au s).2.2.2)::(if (Au s).2.2.2=0 then Jr f (q+n) (s.drop n) else [])∧((Au s).2.2.2=0→(Au s).2.2.1=(n:Int)∧1≤n∧n≤s.length):=by
 refine ⟨(Au s).2.2.1.toNat,?_,fun he=>?_⟩
 ·rw [Gp h]
  simp only [beq_iff_eq]
  rfl
 obtain ⟨n,h1,h2,h3⟩:=Vy (s:=s) (by cases s with|nil=>exact absurd rfl h|cons c r=>simp) he
 rw [h1]
 exact ⟨rfl,by simpa using h2,by simpa using h3⟩
theorem P7:∀(f f' q:Nat) (s:Str),s.length<f→s.length<f'→E6 f q s=E6 f' q s
 | 0,_,_,_,h,_=>by omega
 | _+1,0,_,_,_,h=>by omega
 | f+1,g+1,q,s,h1,h2=>by
  by_cases hs:s=[]
  ·subst hs;rfl
  rw [Gp hs,Gp hs]
  congr 1
  by_cases he:(Au s).2.2.2=0
  ·obtain ⟨n,hn,k1,k2⟩:=Vy (s:=s) (by cases s with|nil=>exact absurd rfl hs|cons c r=>simp) he
   rw [he]
   simp only [beq_self_eq_true,if_true]
   rw [hn,Int.toNat_natCast]
   exact P7 f g _ _ (by simp only [List.length_drop];omega) (by simp only [List.length_drop];omega)
  rw [if_neg (by simpa using he),if_neg (by simpa using he)]
/-! ### Gaps -/
/-! ### Words -/
theorem Hj (s of:Str):Bd s of=s.takeWhile (of.contains ·):=Xn s of
theorem W5 {s:Str} (h:(D5 s).2.1=0):s.length≤4000∧(∀it∈B1 s,it.2=0)∧D5 s=((B1 s).map (·.1)++[⟨0,[],s.length⟩],0,0):=by
 unfold D5 at h ⊢
 split at h
 ·exact absurd h (show ¬(3:Int)=0 by decide)
 rename_i hl
 rw [if_neg hl]
 cases hf:(B1 s).find? (fun it=>it.2 != 0) with
 | some it =>
  rw [hf] at h
  have:=List.find?_some hf
  simp at this
  exact absurd h this
 | none =>
  rw [List.find?_eq_none] at hf
  refine ⟨by omega,fun it hit=>by simpa using hf it hit,rfl⟩
theorem vl {s:Str} (hl:s.length≤4000) (h:∀it∈B1 s,it.2=0):D5 s=((B1 s).map (·.1)++[⟨0,[],s.length⟩],0,0):=by
 unfold D5
 rw [if_neg (by omega),Xq h]
theorem Ml (k:Int):(Ai k).length≤4:=by
 unfold Ai
 split
 ·simp
 rename_i h
 have hk:k=1∨k=2∨k=3:=by omega
 rcases hk with rfl|rfl|rfl<;>decide
def Ic (s:Str):Int:=if Ai 1==s then 1 else if Ai 2==s then 2 else if Ai 3==s then 3 else 0
structure KindUpto (s:Str) (x:Nat):Prop where
 le:x≤3
 a:1≤x→(Ai 1==s)=false
 b:2≤x→(Ai 2==s)=false
 c:3≤x→(Ai 3==s)=false
theorem vm {s:Str} {x:Nat} (h:KindUpto s x) (hx:x<3) (e:(Ai ((x:Int)+1)==s)=true):Ic s=(x:Int)+1:=by
 have h3:x=0∨x=1∨x=2:=by omega
 unfold Ic
 rcases h3 with rfl|rfl|rfl
 ·have e:(Ai 1==s)=true:=e
  rw [if_pos e];rfl
 ·have e:(Ai 2==s)=true:=e
  rw [if_neg (by rw [h.a (by omega)];simp),if_pos e];rfl
 have e:(Ai 3==s)=true:=e
 rw [if_neg (by rw [h.a (by omega)];simp),if_neg (by rw [h.b (by omega)];simp),if_pos e];rfl
theorem vn {s:Str} {x:Nat} (h:KindUpto s x) (hx:x<3) (e:(Ai ((x:Int)+1)==s)=false):KindUpto s (x+1):=by
 have h3:x=0∨x=1∨x=2:=by omega
 rcases h3 with rfl|rfl|rfl
 ·exact ⟨by omega,fun _=>e,fun h=>by omega,fun h=>by omega⟩
 ·exact ⟨by omega,fun _=>h.a (by omega),fun _=>e,fun h=>by omega⟩
 exact ⟨by omega,fun _=>h.a (by omega),fun _=>h.b (by omega),fun _=>e⟩
theorem vo {s:Str} {x:Nat} (h:KindUpto s x) (hx:3≤x):Ic s=0:=by
 unfold Ic
 rw [if_neg (by rw [h.a (by omega)];simp),if_neg (by rw [h.b (by omega)];simp),if_neg (by rw [h.c (by omega)];simp)]
theorem AE6 (s:Str) (Hp:List AObj):AFun Tryz.prog 190 [A8 s] Hp (A2 (Ic s)):=by
 refine ACall.body [.tmp 2] [0] Tryz.func190 Tryz.ntmps190 (fun d=>?_)
 refine Z46 ?_;refine Z52 ?_;refine L9 ?_
 refine AW.loopC (α:=Nat) (fun x=>⟨13,A6 0 (A8 s) (A6 3 (A2 ((x:Nat)+1)) (fun _=>.any)),Hp,[],[],none⟩) (fun x=>KindUpto s x) (fun x=>3-x) (0) ⟨by omega,fun h=>by omega,fun h=>by omega,fun h=>by omega⟩ (StLe.refl _) rfl (fun x hx=>?_)
 refine Z11 ?_;refine R.fin [0,3,5] ?_
 refine W.cond (fun ht5=>?_) (fun ht5=>?_)
 ·have hx3:x<3:=by simp at ht5;omega
  refine Z9 ?_;refine Mb ?_;refine R.call Tryz.call57 (c57 _ _) ?_;refine Z0 ?_;refine R.fin [0,3,11] ?_
  refine W.cond (fun ht11=>?_) (fun ht11=>?_)
  ·refine Z1 ?_;refine ag ?_;exact K.fin (V.one V.tmp) ⟨by rw [vm hx hx3 (by simpa using ht11)],rfl⟩
  refine Z21 ?_;refine Z60 ?_;refine L9 ?_;exact K.lpN (x+1) (vn hx hx3 (by simpa using ht11)) (by omega) (StCut.of_eq (by simp))
 have hx3:3≤x:=by simp at ht5;omega
 refine Z81 ?_;refine Z66 ?_;refine Z4 ?_;exact K.fin (V.one V.tmp) ⟨by rw [vo hx hx3],rfl⟩

def R1 (c:UInt8):Str:=if c=39 then [39,39] else [c]
def C2 (t:Str):Str:=t.flatMap R1
theorem Y1:∀t:Str,(C2 t).length≤2*t.length
 | []=>Nat.le_refl _
 | c::r=>by
  have:=Y1 r
  unfold C2 at this ⊢
  rw [List.flatMap_cons,List.length_append,List.length_cons]
  have h:(R1 c).length≤2:=by unfold R1;split<;>simp
  omega
theorem G6 (c:UInt8) (r:Str):C2 (c::r)=R1 c++C2 r:=by unfold C2;rw [List.flatMap_cons]
theorem ep:∀s:Str,(Lib.index s [39] = -1∧C2 s=s)∨∃i:Nat,Lib.index s [39]=(i:Int)∧i<s.length∧C2 s=s.take i++[39,39]++C2 (s.drop (i+1))
 | []=>.inl ⟨rfl,rfl⟩
 | b::l=>by
  by_cases hb:b=39
  ·subst hb
   refine .inr ⟨0,by simp [Lib.index,List.isPrefixOf],by simp,?_⟩
   rw [G6]
   simp [R1]
  have hp:([39]:Str).isPrefixOf (b::l)=false:=by
   simp [List.isPrefixOf,Ne.symm hb]
  have hd:C2 (b::l)=b::C2 l:=by
   rw [G6,R1,if_neg hb]
   rfl
  rcases ep l with ⟨h1,h2⟩|⟨i,h1,h2,h3⟩
  ·refine .inl ⟨?_,by rw [hd,h2]⟩
   rw [Lib.index,hp,h1];rfl
  refine .inr ⟨i+1,?_,by simp;omega,?_⟩
  ·rw [Lib.index,hp,h1,if_neg (by simp),if_neg (by simp)]
   rfl
  rw [hd,h3]
  simp
theorem Mm:∀(n:Nat) (s:Str),s.length≤n→Lib.replaceK [39] [39,39] (Lib.count s [39]) s=C2 s
 | n,s,hn=>by
  rcases ep s with ⟨h1,h2⟩|⟨i,h1,h2,h3⟩
  ·rw [Lib.count_miss h1,h2];rfl
  cases n with
  | zero=>omega
  | succ n =>
   rw [Lib.count_hit (by decide) h1,Nat.add_comm,Lib.replaceK_hit _ _ _ _ i h1]
   have e:i+([39]:Str).length=i+1:=rfl
   rw [e,Mm n (s.drop (i+1)) (by rw [List.length_drop];omega),h3]
theorem Id (s:Str):Lib.replaceAll s [39] [39,39]=C2 s:=by
 unfold Lib.replaceAll Lib.replace
 rw [if_neg (by decide)]
 have e:Lib.replaceNum s [39] (-1)=Lib.count s [39]:=by unfold Lib.replaceNum;rw [if_pos (.inl (by decide))]
 rw [e]
 exact Mm _ s (Nat.le_refl _)
def er (t:Tok):Str:=if t.kind=4 then [39]++C2 t.text++[39] else t.text
theorem bv {q:Str} (h0:q.headD 0=39) (h1:1≤q.length) (h:(Cp q).2=0):[39]++C2 (Cp q).1.s++[39]=q:=by
 cases q with
 | nil=>simp at h1
 | cons c r =>
  have hc:c=39:=h0
  subst hc
  unfold Cp at h ⊢
  have n1:((39::r:Str)==[110,117,108,108])=false:=by rw [beq_eq_false_iff_ne];intro e;injection e with e;exact absurd e (by decide)
  have n2:((39::r:Str)==[116,114,117,101])=false:=by rw [beq_eq_false_iff_ne];intro e;injection e with e;exact absurd e (by decide)
  have n3:((39::r:Str)==[102,97,108,115,101])=false:=by rw [beq_eq_false_iff_ne];intro e;injection e with e;exact absurd e (by decide)
  rw [n1,n2,n3] at h ⊢
  simp only [Bool.false_eq_true,if_false,Bool.or_self] at h ⊢
  by_cases hq:Jp (39::r)=true
  ·rw [if_pos hq] at h ⊢
   unfold Tq at h ⊢
   split at h
   ·exact absurd h (show ¬(7:Int)=0 by decide)
   rename_i hp
   rw [if_neg hp]
   have hp':Bs (Me (39::r))=39::r:=by simpa using hp
   have hk:(Me (39::r)).kind=2:=rfl
   show [39]++C2 (Me (39::r)).s++[39]=39::r
   generalize Me (39::r)=v at hp' hk
   have hne:Bs v≠[]:=by rw [hp'];simp
   rw [←hp']
   unfold Bs at hne ⊢
   split at hne
   ·exact absurd rfl hne
   rename_i hpl
   rw [if_neg hpl,hk,if_neg (by decide),if_pos (by decide),Id]
  rw [if_neg hq] at h
  have hd:F6 (39::r)=true:=by
   unfold F6
   have e:Lf (39::r)=39::r:=by
    rcases P1 (39::r) with ⟨_,h4⟩|⟨r',h3,_⟩
    ·exact h4
    injection h3 with h3;exact absurd h3 (by decide)
   rw [e]
   have:(Lib.trimS (39::r) digs==[])=false:=by
    rw [beq_eq_false_iff_ne]
    intro e
    rw [Tl] at e
    exact absurd (e 39 (by simp)) (by decide)
   rw [this]
   simp
  have hn:Ch (39::r)=(0,6):=by unfold Ch;rw [if_pos hd]
  rw [hn] at h
  simp at h
theorem T8 (s:Str) (m:Nat):s.take (s.take m).length=s.take m:=by
 rw [List.length_take]
 rcases Nat.le_total m s.length with h|h
 ·rw [Nat.min_eq_left h]
 rw [Nat.min_eq_right h,List.take_of_length_le (Nat.le_refl _),List.take_of_length_le h]
theorem Kc (s of:Str):s.take (Bd s of).length=Bd s of:=by
 unfold Bd
 exact T8 s _
/-- What a word's print spells is what was read. -/
theorem bw {s:Str} {n p:Nat} (h0:1≤s.length) (he:(Au s).2.2.2=0) (hn:(Au s).2.2.1=(n:Int)):er ⟨(Au s).1,(Au s).2.1,p⟩=s.take n:=by
 cases s with
 | nil=>simp at h0
 | cons c r =>
  unfold Au at he hn ⊢
  by_cases c1:decide (0<H5 ((c::r).take 1) letters)=true
  ·rw [if_pos c1] at he hn
   simp only [if_pos c1]
   unfold Jb at he hn ⊢
   by_cases r1:Co (Bd (c::r) tails)=true
   ·rw [if_pos r1] at hn
    simp only [if_pos r1]
    have hn':(((Bd (c::r) tails).length:Nat):Int)=n:=hn
    have e:n=(Bd (c::r) tails).length:=by omega
    rw [e,Kc]
    rfl
   rw [if_neg r1] at he hn
   simp only [if_neg r1]
   by_cases r2:(!C3 (Bd (c::r) tails))=true
   ·rw [if_pos r2] at he;exact absurd he (show ¬(3:Int)=0 by decide)
   rw [if_neg r2] at hn
   simp only [if_neg r2]
   have hn':(((Bd (c::r) tails).length:Nat):Int)=n:=hn
   have e:n=(Bd (c::r) tails).length:=by omega
   rw [e,Kc]
   rfl
  rw [if_neg c1] at he hn
  simp only [if_neg c1]
  by_cases c2:decide (0<H5 ((c::r).take 1) digs)=true
  ·rw [if_pos c2] at he hn
   simp only [if_pos c2]
   have hn':(((Bd (c::r) digs).length:Nat):Int)=n:=hn
   have e:n=(Bd (c::r) digs).length:=by omega
   rw [e,Kc]
   rfl
  rw [if_neg c2] at he hn
  simp only [if_neg c2]
  by_cases c3:(((((c::r)).getD 0 0).toNat:Int)==39)=true
  ·rw [if_pos c3] at he hn
   simp only [if_pos c3]
   have hc:c=39:=by
    have c3':((c.toNat:Int)==39)=true:=c3
    exact UInt8.toNat_inj.1 (by have:(39:UInt8).toNat=39:=rfl;simp at c3';omega)
   unfold Gi at he hn ⊢
   cases hq:Bk ((c::r).drop 1) with
   | none=>rw [hq] at he;exact absurd he (show ¬(7:Int)=0 by decide)
   | some m =>
    rw [hq] at he hn
    simp only at he hn ⊢
    split at he
    ·exact absurd he (show ¬(3:Int)=0 by decide)
    rename_i hr
    rw [if_neg hr] at hn
    simp only [if_neg hr]
    have hm':(((m+1:Nat)):Int)=n:=hn
    have hm:n=m+1:=by omega
    subst hm
    have hr':(Cp ((c::r).take (m+1))).2=0:=by simpa using hr
    have:=bv (q:=(c::r).take (m+1)) (by rw [hc];rfl) (by simp) hr'
    unfold er
    rw [if_pos rfl]
    exact this
  rw [if_neg c3] at he hn
  simp only [if_neg c3]
  unfold K9 at he hn ⊢
  split at hn
  ·rename_i h2
   simp only [if_pos h2]
   have hn':(2:Int)=n:=hn
   have:n=2:=by omega
   subst this
   rfl
  rename_i h2
  rw [if_neg h2] at he
  simp only [if_neg h2]
  split at hn
  ·rename_i h3
   simp only [if_pos h3]
   have hn':(1:Int)=n:=hn
   have:n=1:=by omega
   subst this
   rfl
  rename_i h3
  rw [if_neg h3] at he
  exact absurd he (show ¬(7:Int)=0 by decide)
theorem bx (f q:Nat) (J:Str):Jr f q (32::J)=Jr f (q+1) J:=by
 have h:gapM (32::J)=gapM J+1:=by
  have:=L0 J false
  unfold gapM
  rw [Ds,if_pos (by decide),List.length_cons]
  omega
 unfold Jr
 rw [h,List.drop_succ_cons,show q+(gapM J+1)=q+1+gapM J by omega]
theorem pg {s:Str} (h:(D5 s).2.1=0):1≤(D5 s).1.length∧(D5 s).1.length≤s.length+2:=by
 obtain ⟨_,_,hl⟩:=W5 h
 rw [hl]
 have:=Ly s
 simp
 omega
theorem eu:∀t:Str,t.length≤(C2 t).length
 | []=>Nat.le_refl _
 | c::r=>by
  have:=eu r
  rw [G6,List.length_append,List.length_cons]
  have h:1≤(R1 c).length:=by unfold R1;split<;>simp
  omega
theorem vp (t:Tok):t.text.length≤(er t).length:=by
 unfold er
 split
 ·have:=eu t.text
  simp only [List.length_append,List.length_cons,List.length_nil]
  omega
 exact Nat.le_refl _
/-- Words with an end. -/
structure TokEnd (l:List Tok):Prop where
 split:∃L z,l=L++[z]∧z.kind=0∧∀t∈L,t.kind≠0
 texts:∀t∈l,t.text.length≤1048576
theorem TokEnd.pos {l:List Tok} (h:TokEnd l):1≤l.length:=by
 obtain ⟨L,z,rfl,_,_⟩:=h.split
 simp
theorem TokEnd.text {l:List Tok} (h:TokEnd l) (i:Nat):(A5 l i).text.length≤1048576:=by
 unfold A5
 rcases Nat.lt_or_ge i l.length with hi|hi
 ·rw [List.getD_eq_getElem?_getD,List.getElem?_eq_getElem hi]
  exact h.texts _ (List.getElem_mem hi)
 rw [List.getD_eq_getElem?_getD,List.getElem?_eq_none hi]
 exact Nat.zero_le _
theorem vq (s:Str) (he:(Au s).2.2.2=0):(Au s).1≠0:=by
 revert he
 unfold Au Jb Mg Gi K9
 repeat' split
 all_goals simp
theorem Y2:∀(f q:Nat) (s:Str),(∀it∈E6 f q s,it.2=0)→∀it∈E6 f q s,it.1.kind≠0∧it.1.text.length≤s.length
 | 0,_,_,_,it,hm=>by cases hm
 | f+1,q,s,h,it,hm=>by
  by_cases hs:s=[]
  ·subst hs;cases hm
  obtain ⟨n,h1,h2⟩:=Y0 (f:=f) (q:=q) hs
  rw [h1] at hm h
  have h0:(Au s).2.2.2=0:=h (⟨(Au s).1,(Au s).2.1,q⟩,(Au s).2.2.2) (List.mem_cons_self ..)
  obtain ⟨hn,hn1,hn2⟩:=h2 h0
  rw [if_pos h0] at hm h
  rcases List.mem_cons.1 hm with rfl|hm
  ·refine ⟨vq s h0,?_⟩
   have hs1:1≤s.length:=by cases s with|nil=>exact absurd rfl hs|cons c r=>simp
   have:=bw (p:=q) hs1 h0 hn
   have h3:=vp ⟨(Au s).1,(Au s).2.1,q⟩
   rw [this] at h3
   simp only [List.length_take] at h3
   show (Au s).2.1.length≤s.length
   omega
  have:=Y2 f _ _ (fun it hit=>h it (List.mem_cons_of_mem _ hit)) it hm
  simp only [List.length_drop] at this
  exact ⟨this.1,by omega⟩
theorem ew {s:Str} (h:(D5 s).2.1=0):TokEnd (D5 s).1:=by
 by_cases h4:4000<s.length
 ·unfold D5 at h
  rw [if_pos h4] at h
  exact nv
 have e:D5 s=((B1 s).map (·.1)++[⟨0,[],s.length⟩],0,0)∧∀it∈B1 s,it.2=0:=by
  unfold D5 at h ⊢
  rw [if_neg h4] at h ⊢
  cases hf:(B1 s).find? (fun it=>it.2 != 0) with
  | none =>
   rw [List.find?_eq_none] at hf
   exact ⟨rfl,fun it hit=>by simpa using hf it hit⟩
  | some it =>
   rw [hf] at h
   have:=List.find?_some hf
   simp only [bne_iff_ne] at this
   exact absurd h this
 obtain ⟨e,hz⟩:=e
 have hnz:=Y2 _ _ _ hz
 rw [e]
 refine ⟨⟨_,_,rfl,rfl,fun t ht=>?_⟩,fun t ht=>?_⟩
 ·obtain ⟨it,hit,rfl⟩:=List.mem_map.1 ht
  exact (hnz it hit).1
 rcases List.mem_append.1 ht with ht|ht
 ·obtain ⟨it,hit,rfl⟩:=List.mem_map.1 ht
  have:=(hnz it hit).2
  simp only [List.length_drop] at this
  omega
 have e:t=⟨0,[],s.length⟩:=by simpa using ht
 subst e
 exact Nat.zero_le _
/-- Where a parser of expressions stands: its word, its nest, its fault. -/
structure PS where
 i:Nat
 nest:Nat
 code:Int
 at_:Int
def noV:Val:=⟨0,0,[]⟩
def Ah:Expr:=.mk 0 [] noV []
def Cl (e a:Int) (S:PS):PS:=if S.code==0 then ⟨S.i,S.nest,e,a⟩ else S
def isM (l:List Tok) (of:Str) (S:PS):Bool:=(((A5 l S.i).kind==5) || ((A5 l S.i).kind==2))&&Dl (A5 l S.i).text of
def A3 (S:PS):PS:=⟨S.i+1,S.nest,S.code,S.at_⟩
def An (S:PS):PS:=⟨S.i,S.nest+1,S.code,S.at_⟩
def Lh (S:PS):PS:=⟨S.i,S.nest-1,S.code,S.at_⟩
def Cm (l:List Tok) (s:Str) (S:PS):PS:=if S.code != 0 then S else if ((A5 l S.i).kind != 5) || !((A5 l S.i).text==s) then Cl 8 (A5 l S.i).at_ S else A3 S
/-- What stands one nest deeper. -/
structure Fam where
 ei:PS→Expr×PS
 no:PS→Expr×PS
 ne:PS→Expr×PS
def Aj (a:Int) (f:PS→Expr×PS) (S:PS):Expr×PS:=if (S.nest:Int)==30 then (Ah,Cl 18 a S) else ((f (An S)).1,Lh (f (An S)).2)
def Cd (t:Str) (x y:Expr):Expr:=.mk 5 t noV [x,y]
def Fm (l:List Tok) (of:Str) (f:PS→Expr×PS):Nat→Expr×PS→Expr×PS
 | 0,r=>r
 | n+1,r=>if (r.2.code==0)&&isM l of r.2 then Fm l of f n (Cd (A5 l r.2.i).text r.1 (f (A3 r.2)).1,(f (A3 r.2)).2) else r
def Cs (l:List Tok) (of:Str) (f:PS→Expr×PS) (S:PS):Expr×PS:=Fm l of f l.length (f S)
def Kd:Str:=[32,44,32]
def argsF (l:List Tok) (f:PS→Expr×PS):Nat→List Expr×PS→List Expr×PS
 | 0,r=>r
 | n+1,r=>if (r.2.code==0)&&isM l Kd r.2 then argsF l f n (r.1++[(f (A3 r.2)).1],(f (A3 r.2)).2) else r
def Ey (l:List Tok) (f:PS→Expr×PS) (S:PS):List Expr×PS:=argsF l f l.length ([(f S).1],(f S).2)
def Hw (l:List Tok) (a:Int) (f:PS→Expr×PS) (S:PS):List Expr×PS:=if (S.nest:Int)==30 then ([],Cl 18 a S) else ((Ey l f (An S)).1,Lh (Ey l f (An S)).2)
def D6:Str:=[41]
def Bf (l:List Tok) (D:Fam) (S:PS):List Expr×PS:=Hw l (A5 l S.i).at_ D.ei (A3 S)
def Ez (l:List Tok) (D:Fam) (t:Tok) (S:PS):Expr×PS:=
 if B0 t.text<0 then (Ah,Cl 9 t.at_ S)
 else if ((Cm l D6 (Bf l D S).2).code==0) && !(((Bf l D S).1.length:Int)==B0 t.text) then (Ah,Cl 8 t.at_ (Cm l D6 (Bf l D S).2))
 else (.mk 6 t.text noV (Bf l D S).1,Cm l D6 (Bf l D S).2)
def orT:Str:=[32,111,114,32]
def c7:Str:=[32,97,110,100,32]
def ca:Str:=[32,110,111,116,32]
def W6:Str:=[32,61,32,33,61,32,60,32,60,61,32,62,32,62,61,32]
def cb:Str:=[32,43,32,45,32,38,32]
def R2:Str:=[32,42,32,47,32,37,32]
def cd:Str:=[32,45,32]
def opT:Str:=[32,40,32]
def Pm:Str:=[32,116,114,117,101,32,102,97,108,115,101,32,110,117,108,108,32]
def F7 (v:Val):Expr:=.mk 1 [] v []
def Ct (l:List Tok) (D:Fam) (S:PS):Expr×PS:=
 if S.code != 0 then (Ah,S)
 else if ((A5 l S.i).kind==3) || isM l Pm S then (F7 (Cp (A5 l S.i).text).1,A3 S)
 else if (A5 l S.i).kind==4 then (F7 ⟨2,0,(A5 l S.i).text.take 200⟩,A3 S)
 else if (A5 l S.i).kind==1 then (if isM l opT (A3 S) then Ez l D (A5 l S.i) (A3 S) else (B7 (A5 l S.i).text,A3 S))
 else if isM l opT S then ((Aj (A5 l S.i).at_ D.ei (A3 S)).1,Cm l D6 (Aj (A5 l S.i).at_ D.ei (A3 S)).2)
 else (Ah,Cl 8 (A5 l S.i).at_ S)
def Bz (op:Int) (x:Expr):Expr:=.mk op [] noV [x]
def I6 (l:List Tok) (D:Fam) (S:PS):Expr×PS:=if !isM l cd S then Ct l D S else (Bz 3 (Aj (A5 l S.i).at_ D.ne (A3 S)).1,(Aj (A5 l S.i).at_ D.ne (A3 S)).2)
def R3 (l:List Tok) (D:Fam):PS→Expr×PS:=Cs l R2 (I6 l D)
def Bo (l:List Tok) (D:Fam):PS→Expr×PS:=Cs l cb (R3 l D)
def Bw (l:List Tok) (D:Fam) (S:PS):Expr×PS:=
 if ((Bo l D S).2.code != 0) || !isM l W6 (Bo l D S).2 then Bo l D S
 else (Cd (A5 l (Bo l D S).2.i).text (Bo l D S).1 (Bo l D (A3 (Bo l D S).2)).1,(Bo l D (A3 (Bo l D S).2)).2)
def I7 (l:List Tok) (D:Fam) (S:PS):Expr×PS:=if !isM l ca S then Bw l D S else (Bz 4 (Aj (A5 l S.i).at_ D.no (A3 S)).1,(Aj (A5 l S.i).at_ D.no (A3 S)).2)
def R4 (l:List Tok) (D:Fam):PS→Expr×PS:=Cs l c7 (I7 l D)
def L2 (l:List Tok) (D:Fam):PS→Expr×PS:=Cs l orT (R4 l D)
def Bu (l:List Tok):Nat→Fam
 | 0=>⟨fun S=>(Ah,S),fun S=>(Ah,S),fun S=>(Ah,S)⟩
 | d+1=>⟨L2 l (Bu l d),I7 l (Bu l d),I6 l (Bu l d)⟩

/-! What is so of them. -/
theorem Fo:∀{n m:Nat},n≤m→∀{e:Expr},okE n e→okE m e
 | 0,_,_,_,h=>h.elim
 | n+1,0,h,_,_=>by omega
 | n+1,m+1,h,_,ho=>⟨ho.1,ho.2.1,fun y hy=>Fo (by omega) (ho.2.2 y hy)⟩
theorem R5:sizeE Ah=1:=rfl
theorem jy (t:Str) (a b:Expr):sizeE (Cd t a b)=1+(sizeE a+(sizeE b+0)):=by rw [Cd,sizeE,Cr,Cr,Cr]
theorem jz (o:Int) (a:Expr):sizeE (Bz o a)=1+(sizeE a+0):=by rw [Bz,sizeE,Cr,Cr]
theorem Tz:∀a b:List Expr,Cr (a++b)=Cr a+Cr b
 | [],b=>by rw [List.nil_append,Cr,Nat.zero_add]
 | e::r,b=>by rw [List.cons_append,Cr,Cr,Tz r b,Nat.add_assoc]
theorem Y3 {n:Nat} (h:1≤n):okE n Ah:=Fo h ⟨by decide,by decide,fun y hy=>by cases hy⟩
theorem ey {n:Nat} (h:1≤n) (v:Val):okE n (F7 v):=Fo h ⟨by simp [F7,Expr.text],by simp [F7,Expr.kids],fun y hy=>by cases hy⟩
structure Fact (l:List Tok) (S:PS) (r:Expr×PS):Prop where
 le:S.i≤r.2.i
 lt:r.2.i<l.length
 nest:r.2.nest=S.nest
 ok:okE (2*(r.2.i-S.i)+1) r.1
 sz:sizeE r.1≤2*(r.2.i-S.i)+1
def Dp (l:List Tok) (n:Nat) (f:PS→Expr×PS):Prop:=∀S,S.i<l.length→S.nest=n→Fact l S (f S)
theorem TokEnd.step {l:List Tok} (h:TokEnd l) {i:Nat} (hi:i<l.length) (hk:(A5 l i).kind≠0):i+1<l.length:=by
 obtain ⟨L,z,rfl,hz,_⟩:=h.split
 rcases Nat.lt_or_ge i L.length with h1|h1
 ·simp only [List.length_append,List.length_cons,List.length_nil];omega
 have:i=L.length:=by simp only [List.length_append,List.length_cons,List.length_nil] at hi;omega
 subst this
 exact absurd (by unfold A5;simpa using hz) hk
theorem ph {l:List Tok} {of:Str} {S:PS} (h:isM l of S=true):(A5 l S.i).kind≠0:=by
 unfold isM at h
 simp only [Bool.and_eq_true,Bool.or_eq_true,beq_iff_eq] at h
 omega
theorem TokEnd.stepIs {l:List Tok} (h:TokEnd l) {of:Str} {S:PS} (hi:S.i<l.length) (hk:isM l of S=true):(A3 S).i<l.length:=h.step hi (ph hk)
theorem failM_i {e a:Int} {S:PS}:(Cl e a S).i=S.i∧(Cl e a S).nest=S.nest:=by unfold Cl;split<;>exact ⟨rfl,rfl⟩
theorem f5 {l:List Tok} (hl:TokEnd l) {s:Str} {S:PS} (hi:S.i<l.length):S.i≤(Cm l s S).i∧(Cm l s S).i<l.length∧(Cm l s S).nest=S.nest:=by
 unfold Cm
 split
 ·exact ⟨Nat.le_refl _,hi,rfl⟩
 split
 ·rw [failM_i.1,failM_i.2];exact ⟨Nat.le_refl _,hi,rfl⟩
 rename_i h
 simp only [Bool.or_eq_true,bne_iff_ne,ne_eq,not_or,Classical.not_not] at h
 have:=hl.step hi (by rw [h.1];decide)
 exact ⟨Nat.le_succ _,this,rfl⟩
theorem Mn {l:List Tok} {S S0:PS} (h0:S0.i≤S.i) (h1:S.i<l.length) (h2:S.nest=S0.nest) (e a:Int):Fact l S0 (Ah,Cl e a S):=by
 refine ⟨?_,?_,?_,Y3 (by omega),by rw [R5];omega⟩
 ·show _≤(Cl e a S).i;rw [failM_i.1];exact h0
 ·show (Cl e a S).i<_;rw [failM_i.1];exact h1
 show (Cl e a S).nest=_;rw [failM_i.2];exact h2
/-- A state of a loop of marks. -/
structure LeftAt (l:List Tok) (of:Str) (f:PS→Expr×PS) (S:PS) (r:Expr×PS):Prop where
 fact:Fact l S r
 eq:∃n,l.length≤r.2.i+n∧Cs l of f S=Fm l of f n r
theorem LeftAt.start {l:List Tok} {of:Str} {f:PS→Expr×PS} {S:PS} (h:Fact l S (f S)):LeftAt l of f S (f S):=⟨h,l.length,by omega,rfl⟩
theorem f6 {l:List Tok} {S:PS} {r q:Expr×PS} (h:Fact l S r) (hq:Fact l (A3 r.2) q) (hl:TokEnd l):Fact l S (Cd (A5 l r.2.i).text r.1 q.1,q.2):=by
 have h1:=h.le
 have h2:r.2.i+1≤q.2.i:=hq.le
 refine ⟨by show S.i≤q.2.i;omega,hq.lt,by show q.2.nest=S.nest;rw [hq.nest];exact h.nest,?_,?_⟩
 rotate_left
 ·have s1:=h.sz
  have s2:sizeE q.1≤2*(q.2.i-(r.2.i+1))+1:=hq.sz
  show sizeE (Cd _ r.1 q.1)≤2*(q.2.i-S.i)+1
  rw [jy]
  omega
 show okE (2*(q.2.i-S.i)+1) _
 refine ⟨hl.text _,by simp [Cd,Expr.kids],fun y hy=>?_⟩
 have hy':y=r.1∨y=q.1:=by simpa [Cd,Expr.kids] using hy
 rcases hy' with rfl|rfl
 ·exact Fo (by omega) h.ok
 exact Fo (by show 2*(q.2.i-(r.2.i+1))+1≤_;omega) hq.ok
theorem LeftAt.on {l:List Tok} {of:Str} {f:PS→Expr×PS} {S:PS} {r:Expr×PS} (hl:TokEnd l) (h:LeftAt l of f S r) (hc:((r.2.code==0)&&isM l of r.2)=true) (hf:Dp l S.nest f):(A3 r.2).i<l.length∧Fact l (A3 r.2) (f (A3 r.2))∧LeftAt l of f S (Cd (A5 l r.2.i).text r.1 (f (A3 r.2)).1,(f (A3 r.2)).2):=by
 have hi:=hl.stepIs h.fact.lt (Bool.and_eq_true_iff.1 hc).2
 have hq:=hf (A3 r.2) hi h.fact.nest
 obtain ⟨n,hn,e⟩:=h.eq
 have h1:=h.fact.lt
 have h2:r.2.i+1≤(f (A3 r.2)).2.i:=hq.le
 obtain ⟨m,rfl⟩:∃m,n=m+1:=⟨n-1,by omega⟩
 refine ⟨hi,hq,f6 h.fact hq hl,m,by show l.length≤(f (A3 r.2)).2.i+m;omega,?_⟩
 rw [e,Fm,if_pos hc]
theorem LeftAt.out {l:List Tok} {of:Str} {f:PS→Expr×PS} {S:PS} {r:Expr×PS} (h:LeftAt l of f S r) (hc:¬((r.2.code==0)&&isM l of r.2)=true):Cs l of f S=r:=by
 obtain ⟨n,hn,e⟩:=h.eq
 have h1:=h.fact.lt
 obtain ⟨m,rfl⟩:∃m,n=m+1:=⟨n-1,by omega⟩
 rw [e,Fm,if_neg hc]
theorem Y4 {l:List Tok} {of:Str} {f:PS→Expr×PS} {S:PS} (hl:TokEnd l) (hf:Dp l S.nest f):∀(k:Nat) (r:Expr×PS),l.length-r.2.i≤k→LeftAt l of f S r→Fact l S (Cs l of f S)
 | 0,r,hk,h=>by have:=h.fact.lt;omega
 | k+1,r,hk,h=>by
  by_cases hc:((r.2.code==0)&&isM l of r.2)=true
  ·obtain ⟨h1,h2,h3⟩:=h.on hl hc hf
   have h4:r.2.i+1≤(f (A3 r.2)).2.i:=h2.le
   exact Y4 hl hf k _ (by show l.length-(f (A3 r.2)).2.i≤k;have:=h.fact.lt;omega) h3
  rw [h.out hc];exact h.fact
theorem F8 {l:List Tok} {of:Str} {f:PS→Expr×PS} {n:Nat} (hl:TokEnd l) (hf:Dp l n f):Dp l n (Cs l of f):=fun S hi hn=>Y4 hl (hn ▸ hf) l.length (f S) (by omega) (.start (hf S hi hn))
theorem Hb {l:List Tok} {f:PS→Expr×PS} {S:PS} (a:Int) (hi:S.i<l.length) (hf:S.nest≠30→Dp l (S.nest+1) f):Fact l S (Aj a f S):=by
 unfold Aj
 split
 ·exact Mn (Nat.le_refl _) hi rfl _ _
 rename_i h
 have h30:S.nest≠30:=fun e=>h (by rw [e];rfl)
 have:=hf h30 (An S) hi rfl
 refine ⟨this.le,this.lt,?_,this.ok,this.sz⟩
 show (f (An S)).2.nest-1=S.nest
 rw [this.nest]
 rfl
/-- What is so of some kids. -/
structure KFact (l:List Tok) (S:PS) (r:List Expr×PS):Prop where
 le:S.i≤r.2.i
 lt:r.2.i<l.length
 nest:r.2.nest=S.nest
 len:r.1.length≤r.2.i-S.i+1
 ok:∀y∈r.1,okE (2*(r.2.i-S.i)+1) y
 sz:Cr r.1≤2*(r.2.i-S.i)+1
structure ArgsAt (l:List Tok) (f:PS→Expr×PS) (S:PS) (r:List Expr×PS):Prop where
 fact:KFact l S r
 eq:∃n,l.length≤r.2.i+n∧Ey l f S=argsF l f n r
theorem ArgsAt.start {l:List Tok} {f:PS→Expr×PS} {S:PS} (h:Fact l S (f S)):ArgsAt l f S ([(f S).1],(f S).2):=⟨⟨h.le,h.lt,h.nest,by simp,fun y hy=>by rw [List.mem_singleton.1 hy];exact h.ok,by have:=h.sz;show sizeE (f S).1+0≤_;exact this⟩,l.length,by omega,rfl⟩
theorem ArgsAt.on {l:List Tok} {f:PS→Expr×PS} {S:PS} {r:List Expr×PS} (hl:TokEnd l) (h:ArgsAt l f S r) (hc:((r.2.code==0)&&isM l Kd r.2)=true) (hf:Dp l S.nest f):(A3 r.2).i<l.length∧Fact l (A3 r.2) (f (A3 r.2))∧ArgsAt l f S (r.1++[(f (A3 r.2)).1],(f (A3 r.2)).2):=by
 have hi:=hl.stepIs h.fact.lt (Bool.and_eq_true_iff.1 hc).2
 have hq:=hf (A3 r.2) hi h.fact.nest
 obtain ⟨n,hn,e⟩:=h.eq
 have h1:=h.fact.lt
 have h0:=h.fact.le
 have h2:r.2.i+1≤(f (A3 r.2)).2.i:=hq.le
 obtain ⟨m,rfl⟩:∃m,n=m+1:=⟨n-1,by omega⟩
 refine ⟨hi,hq,⟨by show S.i≤(f (A3 r.2)).2.i;omega,hq.lt,by show (f (A3 r.2)).2.nest=_;rw [hq.nest];exact h.fact.nest,?_,fun y hy=>?_,?_⟩,m,by show l.length≤(f (A3 r.2)).2.i+m;omega,?_⟩
 ·have:=h.fact.len
  show (r.1++_).length≤(f (A3 r.2)).2.i-S.i+1
  simp only [List.length_append,List.length_cons,List.length_nil]
  omega
 ·show okE (2*((f (A3 r.2)).2.i-S.i)+1) y
  rcases List.mem_append.1 hy with hy|hy
  ·exact Fo (by omega) (h.fact.ok y hy)
  rw [List.mem_singleton.1 hy]
  exact Fo (by show 2*((f (A3 r.2)).2.i-(r.2.i+1))+1≤_;omega) hq.ok
 ·have s1:=h.fact.sz
  have s2:sizeE (f (A3 r.2)).1≤2*((f (A3 r.2)).2.i-(r.2.i+1))+1:=hq.sz
  show Cr (r.1++[(f (A3 r.2)).1])≤2*((f (A3 r.2)).2.i-S.i)+1
  rw [Tz,Cr,Cr]
  omega
 rw [e,argsF,if_pos hc]
theorem ArgsAt.out {l:List Tok} {f:PS→Expr×PS} {S:PS} {r:List Expr×PS} (h:ArgsAt l f S r) (hc:¬((r.2.code==0)&&isM l Kd r.2)=true):Ey l f S=r:=by
 obtain ⟨n,hn,e⟩:=h.eq
 have h1:=h.fact.lt
 obtain ⟨m,rfl⟩:∃m,n=m+1:=⟨n-1,by omega⟩
 rw [e,argsF,if_neg hc]
theorem Y5 {l:List Tok} {f:PS→Expr×PS} {S:PS} (hl:TokEnd l) (hf:Dp l S.nest f):∀(k:Nat) (r:List Expr×PS),l.length-r.2.i≤k→ArgsAt l f S r→KFact l S (Ey l f S)
 | 0,r,hk,h=>by have:=h.fact.lt;omega
 | k+1,r,hk,h=>by
  by_cases hc:((r.2.code==0)&&isM l Kd r.2)=true
  ·obtain ⟨h1,h2,h3⟩:=h.on hl hc hf
   have h4:r.2.i+1≤(f (A3 r.2)).2.i:=h2.le
   exact Y5 hl hf k _ (by show l.length-(f (A3 r.2)).2.i≤k;have:=h.fact.lt;omega) h3
  rw [h.out hc];exact h.fact
theorem R6 {l:List Tok} {f:PS→Expr×PS} {S:PS} (hl:TokEnd l) (hi:S.i<l.length) (hf:Dp l S.nest f):KFact l S (Ey l f S):=Y5 hl hf l.length _ (by show l.length-(f S).2.i≤_;omega) (.start (hf S hi rfl))
theorem R7 {l:List Tok} {f:PS→Expr×PS} {S:PS} (hl:TokEnd l) (a:Int) (hi:S.i<l.length) (hf:S.nest≠30→Dp l (S.nest+1) f):KFact l S (Hw l a f S):=by
 unfold Hw
 split
 ·refine ⟨?_,?_,?_,by simp,fun y hy=>(by cases hy),by simp [Cr]⟩
  ·show _≤(Cl _ _ S).i;rw [failM_i.1];exact Nat.le_refl _
  ·show (Cl _ _ S).i<_;rw [failM_i.1];exact hi
  show (Cl _ _ S).nest=_;rw [failM_i.2]
 rename_i h
 have h30:S.nest≠30:=fun e=>h (by rw [e];rfl)
 have:=R6 (S:=An S) hl hi (hf h30)
 refine ⟨this.le,this.lt,?_,this.len,this.ok,this.sz⟩
 show (Ey l f (An S)).2.nest-1=S.nest
 rw [this.nest]
 rfl
theorem ce {l:List Tok} {D:Fam} {S:PS} (hl:TokEnd l) (hll:l.length≤1048576) {t:Tok} (ht:t.text.length≤1048576) (hi:(A3 S).i<l.length) (hf:S.nest≠30→Dp l (S.nest+1) D.ei):Fact l S (Ez l D t S):=by
 have hk:KFact l (A3 S) (Bf l D S):=R7 hl _ hi hf
 have h1:S.i+1≤(Bf l D S).2.i:=hk.le
 obtain ⟨w1,w2,w3⟩:=f5 (s:=D6) hl hk.lt
 unfold Ez
 split
 ·exact Mn (Nat.le_refl _) (by show S.i<_;have:S.i+1<l.length:=hi;omega) rfl _ _
 split
 ·exact Mn (show S.i≤(Cm l D6 (Bf l D S).2).i by omega) w2 (w3.trans hk.nest) 8 t.at_
 refine ⟨by show S.i≤(Cm l D6 (Bf l D S).2).i;omega,w2,w3.trans hk.nest,?_,?_⟩
 rotate_left
 ·have s1:Cr (Bf l D S).1≤2*((Bf l D S).2.i-(S.i+1))+1:=hk.sz
  show sizeE (.mk 6 t.text noV (Bf l D S).1)≤2*((Cm l D6 (Bf l D S).2).i-S.i)+1
  rw [sizeE]
  omega
 show okE (2*((Cm l D6 (Bf l D S).2).i-S.i)+1) _
 refine ⟨ht,?_,fun y hy=>?_⟩
 ·have h5:(Bf l D S).1.length≤(Bf l D S).2.i-(A3 S).i+1:=hk.len
  have h6:=hk.lt
  show (Bf l D S).1.length≤1048576
  omega
 exact Fo (by show 2*((Bf l D S).2.i-(S.i+1))+1≤_;omega) (hk.ok y hy)
theorem cf {l:List Tok} {D:Fam} {n:Nat} (hl:TokEnd l) (hll:l.length≤1048576) (hf:n≠30→Dp l (n+1) D.ei):Dp l n (Ct l D):=by
 intro S hi hn
 subst hn
 unfold Ct
 have leaf:∀e:Expr,okE 1 e→sizeE e=1→(A5 l S.i).kind≠0→Fact l S (e,A3 S):=fun e he hs hk=>⟨Nat.le_succ _,hl.step hi hk,rfl,Fo (by omega) he,by show sizeE e≤_;omega⟩
 split
 ·exact ⟨Nat.le_refl _,hi,rfl,Y3 (by omega),by show sizeE Ah≤_;rw [R5];omega⟩
 split
 ·rename_i h
  refine leaf _ (ey (Nat.le_refl _) _) rfl ?_
  rcases Bool.or_eq_true_iff.1 h with h|h
  ·rw [beq_iff_eq] at h;rw [h];decide
  exact ph h
 split
 ·rename_i h
  rw [beq_iff_eq] at h
  exact leaf _ (ey (Nat.le_refl _) _) rfl (by rw [h];decide)
 split
 ·rename_i h
  rw [beq_iff_eq] at h
  have hk:(A5 l S.i).kind≠0:=by rw [h];decide
  split
  ·rename_i h2
   have hi1:(A3 S).i<l.length:=hl.step hi hk
   have:=ce (S:=A3 S) (D:=D) hl hll (hl.text S.i) (hl.stepIs hi1 h2) hf
   have h3:S.i+1≤(Ez l D (A5 l S.i) (A3 S)).2.i:=this.le
   have h4:sizeE (Ez l D (A5 l S.i) (A3 S)).1≤2*((Ez l D (A5 l S.i) (A3 S)).2.i-(S.i+1))+1:=this.sz
   exact ⟨by omega,this.lt,this.nest,Fo (by show 2*((Ez l D (A5 l S.i) (A3 S)).2.i-(S.i+1))+1≤_;omega) this.ok,by omega⟩
  exact leaf _ (Xv _ (hl.text _)) rfl hk
 split
 ·rename_i h
  have hi1:(A3 S).i<l.length:=hl.stepIs hi h
  have:=Hb (S:=A3 S) (l:=l) (f:=D.ei) (A5 l S.i).at_ hi1 hf
  obtain ⟨w1,w2,w3⟩:=f5 (s:=D6) hl this.lt
  have h3:S.i+1≤(Aj (A5 l S.i).at_ D.ei (A3 S)).2.i:=this.le
  have h4:sizeE (Aj (A5 l S.i).at_ D.ei (A3 S)).1≤2*((Aj (A5 l S.i).at_ D.ei (A3 S)).2.i-(S.i+1))+1:=this.sz
  refine ⟨by show S.i≤(Cm l D6 _).i;omega,w2,w3.trans this.nest,Fo ?_ this.ok,by show sizeE (Aj (A5 l S.i).at_ D.ei (A3 S)).1≤2*((Cm l D6 (Aj (A5 l S.i).at_ D.ei (A3 S)).2).i-S.i)+1;omega⟩
  show 2*((Aj (A5 l S.i).at_ D.ei (A3 S)).2.i-(S.i+1))+1≤2*((Cm l D6 (Aj (A5 l S.i).at_ D.ei (A3 S)).2).i-S.i)+1
  omega
 exact Mn (Nat.le_refl _) hi rfl _ _
theorem f7 {l:List Tok} {S:PS} {r:Expr×PS} (h:Fact l (A3 S) r) (op:Int):Fact l S (Bz op r.1,r.2):=by
 have h1:S.i+1≤r.2.i:=h.le
 refine ⟨by show S.i≤r.2.i;omega,h.lt,h.nest,?_,?_⟩
 rotate_left
 ·have s1:sizeE r.1≤2*(r.2.i-(S.i+1))+1:=h.sz
  show sizeE (Bz op r.1)≤2*(r.2.i-S.i)+1
  rw [jz]
  omega
 show okE (2*(r.2.i-S.i)+1) _
 refine ⟨by simp [Bz,Expr.text],by simp [Bz,Expr.kids],fun y hy=>?_⟩
 have hy':y=r.1:=by simpa [Bz,Expr.kids] using hy
 subst hy'
 exact Fo (by show 2*(r.2.i-(S.i+1))+1≤_;omega) h.ok
theorem O2 {l:List Tok} {D:Fam} {n:Nat} (hl:TokEnd l) (hll:l.length≤1048576) (hf:n≠30→Dp l (n+1) D.ei) (hg:n≠30→Dp l (n+1) D.ne):Dp l n (I6 l D):=by
 intro S hi hn
 unfold I6
 split
 ·exact cf hl hll hf S hi hn
 rename_i h
 subst hn
 exact f7 (Hb (S:=A3 S) _ (hl.stepIs hi (by simpa using h)) hg) 3
theorem U0 {l:List Tok} {D:Fam} {n:Nat} (hl:TokEnd l) (hll:l.length≤1048576) (hf:n≠30→Dp l (n+1) D.ei) (hg:n≠30→Dp l (n+1) D.ne):Dp l n (Bo l D):=F8 hl (F8 hl (O2 hl hll hf hg))
theorem Li {l:List Tok} {D:Fam} {n:Nat} (hl:TokEnd l) (hll:l.length≤1048576) (hf:n≠30→Dp l (n+1) D.ei) (hg:n≠30→Dp l (n+1) D.ne):Dp l n (Bw l D):=by
 intro S hi hn
 have h1:=U0 hl hll hf hg S hi hn
 unfold Bw
 split
 ·exact h1
 rename_i h
 simp only [Bool.or_eq_true,not_or,Bool.not_eq_true,Bool.not_eq_false'] at h
 exact f6 h1 (U0 hl hll hf hg _ (hl.stepIs h1.lt h.2) (h1.nest.trans hn)) hl
theorem U1 {l:List Tok} {D:Fam} {n:Nat} (hl:TokEnd l) (hll:l.length≤1048576) (hf:n≠30→Dp l (n+1) D.ei) (hg:n≠30→Dp l (n+1) D.ne) (hh:n≠30→Dp l (n+1) D.no):Dp l n (I7 l D):=by
 intro S hi hn
 unfold I7
 split
 ·exact Li hl hll hf hg S hi hn
 rename_i h
 subst hn
 exact f7 (Hb (S:=A3 S) _ (hl.stepIs hi (by simpa using h)) hh) 4
theorem O3 {l:List Tok} (hl:TokEnd l) (hll:l.length≤1048576):∀(d n:Nat),n+d=31→n≠31→Dp l n (Bu l d).ei∧Dp l n (Bu l d).no∧Dp l n (Bu l d).ne
 | 0,n,h,h2=>by omega
 | d+1,n,h,_=>by
  have ih:n≠30→_:=fun h30=>O3 hl hll d (n+1) (by omega) (by omega)
  have hn:=U1 (D:=Bu l d) (n:=n) hl hll (fun h=>(ih h).1) (fun h=>(ih h).2.2) (fun h=>(ih h).2.1)
  exact ⟨F8 hl (F8 hl hn),hn,O2 hl hll (fun h=>(ih h).1) (fun h=>(ih h).2.2)⟩
mutual
def depthE:Expr→Nat
 | .mk _ _ _ k=>Ke k+1
def Ke:List Expr→Nat
  | []=>0
  | e::r=>max (depthE e) (Ke r)
 end
mutual
def Bx (p:Expr→Bool):Expr→Bool
 | .mk o t v k=>p (.mk o t v k)&&Y6 p k
def Y6 (p:Expr→Bool):List Expr→Bool
  | []=>true
  | e::r=>Bx p e&&Y6 p r
 end
mutual
def R8:Expr→List Expr
 | .mk o t v k=>.mk o t v k::O4 k
def O4:List Expr→List Expr
  | []=>[]
  | e::r=>R8 e++O4 r
 end
theorem U3 (e:Expr):depthE e=Ke e.kids+1:=by cases e;rfl
theorem Dx (p:Expr→Bool) (e:Expr):Bx p e=(p e&&Y6 p e.kids):=by cases e;rfl
theorem Df (p:Expr→Bool):∀l:List Expr,Y6 p l=true↔∀y∈l,Bx p y=true
 | []=>by simp [Y6]
 | e::r=>by rw [Y6,Bool.and_eq_true,Df p r];simp
mutual
theorem En:∀(d:Int) (e:Expr),(As d e).length=sizeE e
 | d,.mk o t v k=>by rw [As,sizeE,List.length_cons,R9 (d+1) k,Nat.add_comm]
theorem R9:∀(d:Int) (l:List Expr),(Ap d l).length=Cr l
  | d,[]=>rfl
  | d,e::r=>by rw [Ap,Cr,List.length_append,En d e,R9 d r]
 end
mutual
theorem Ra:∀(d:Int) (e:Expr),(As d e).map (·.2)=R8 e
 | d,.mk o t v k=>by rw [As,R8,List.map_cons,Rb (d+1) k]
theorem Rb:∀(d:Int) (l:List Expr),(Ap d l).map (·.2)=O4 l
  | d,[]=>rfl
  | d,e::r=>by rw [Ap,O4,List.map_append,Ra d e,Rb d r]
 end
mutual
theorem U4 (p:Expr→Bool):∀e:Expr,(R8 e).all p=Bx p e
 | .mk o t v k=>by rw [R8,Bx,List.all_cons,Rc p k]
theorem Rc (p:Expr→Bool):∀l:List Expr,(O4 l).all p=Y6 p l
  | []=>rfl
  | e::r=>by rw [O4,Y6,List.all_append,U4 p e,Rc p r]
 end
theorem k7 (p:Expr→Bool) (d:Int) (e:Expr):((As d e).all fun it=>p it.2)=Bx p e:=by
 rw [←U4 p e,←Ra d e,List.all_map]
 rfl
def E1 (m:Int) (L:List (Int×Expr)):Int:=L.foldl (fun m it=>max m it.1) m
mutual
theorem Rd:∀(d m:Int) (e:Expr),E1 m (As d e)=max m (d-1+depthE e)
 | d,m,.mk o t v k=>by
  rw [As,depthE]
  show E1 (max m d) (Ap (d+1) k)=_
  rw [Re (d+1) (max m d) k (by omega)]
  omega
theorem Re:∀(d m:Int) (l:List Expr),d-1≤m→E1 m (Ap d l)=max m (d-1+Ke l)
  | d,m,[],h=>by
    rw [Ap,Ke]
    show m=_
    omega
  | d,m,e::r,h=>by
    rw [Ap,Ke]
    unfold E1
    rw [List.foldl_append]
    show E1 (E1 m (As d e)) (Ap d r)=_
    rw [Rd d m e,Re d _ r (by omega)]
    omega
 end
theorem P8 (e:Expr):E1 0 (As 1 e)=depthE e:=by rw [Rd];omega
theorem Y7:∀(L:List (Int×Expr)) (m b:Int),m≤b→(E1 m L≤b↔∀it∈L,it.1≤b)
 | [],m,b,h=>by simp [E1,h]
 | it::r,m,b,h=>by
  show E1 (max m it.1) r≤b↔_
  rcases Decidable.em (it.1≤b) with h1|h1
  ·rw [Y7 r (max m it.1) b (by omega)]
   simp [h1]
  constructor
  ·intro h2
   have:∀(r:List (Int×Expr)) (m:Int),m≤E1 m r:=by
    intro r
    induction r with
    | nil=>intro m;exact Int.le_refl _
    | cons a r ih=>intro m;have:=ih (max m a.1);show m≤E1 (max m a.1) r;omega
   have:=this r (max m it.1)
   omega
  intro h2
  exact absurd (h2 it (by simp)) h1
theorem vr (e:Expr) {b:Nat}:(∀it∈As 1 e,it.1≤(b:Int))↔depthE e≤b:=by
 rw [←Y7 (As 1 e) 0 b (by omega),P8]
 omega
def Ck (e:Expr):Bool:=(decide (depthE e≤30)&&decide (sizeE e≤300))&&Bx B3 e
theorem Es (e:Expr):B2 e=Ck e:=by
 have hpos:1≤sizeE e:=by rw [Fl];omega
 rw [Bool.eq_iff_iff]
 unfold B2 Ck
 rw [List.all_eq_true]
 simp only [Bool.and_eq_true,decide_eq_true_eq,List.mem_range,En]
 rw [←vr e,←k7 B3 1 e,List.all_eq_true]
 constructor
 ·intro h
  have key:∀(k:Nat) (hk:k<(As 1 e).length),B3 (As 1 e)[k].2=true∧(As 1 e)[k].1≤30∧(k:Int)+1≤300:=fun k hk=>by
   have:=h k (by rw [En] at hk;exact hk)
   rw [W0 (List.getElem?_eq_getElem hk)] at this
   simp only [Bool.not_eq_true',Bool.or_eq_false_iff,Bool.not_eq_false',decide_eq_false_iff_not] at this
   exact ⟨this.1.1,by have:=this.1.2;omega,by have:=this.2;omega⟩
  refine ⟨⟨fun it hit=>?_,?_⟩,fun it hit=>?_⟩
  ·obtain ⟨k,hk,rfl⟩:=List.getElem_of_mem hit
   exact (key k hk).2.1
  ·have:=(key (sizeE e-1) (by rw [En];omega)).2.2
   omega
  obtain ⟨k,hk,rfl⟩:=List.getElem_of_mem hit
  exact (key k hk).1
 rintro ⟨⟨h1,h2⟩,h3⟩ k hk
 have hk':k<(As 1 e).length:=by rw [En];exact hk
 rw [W0 (List.getElem?_eq_getElem hk')]
 have a1:=h1 _ (List.getElem_mem hk')
 have a3:=h3 _ (List.getElem_mem hk')
 have a3':B3 (As 1 e)[k].2=true:=a3
 rw [a3']
 simp only [Bool.not_eq_true',Bool.or_eq_false_iff,Bool.not_true,decide_eq_false_iff_not]
 exact ⟨⟨trivial,by have:(As 1 e)[k].1≤(30:Int):=a1;omega⟩,by omega⟩
/-- Its number is one of 64 bits. -/
def Ew (e:Expr):Bool:=decide (-9223372036854775808≤e.val.n)&&decide (e.val.n≤9223372036854775807)
/-! Names. -/
mutual
def AA0 (s:Str) (y:Expr):Expr→Expr
 | .mk o t v k=>if (o==2)&&(t==s) then y else .mk o t v (vt s y k)
def vt (s:Str) (y:Expr):List Expr→List Expr
  | []=>[]
  | e::r=>AA0 s y e::vt s y r
 end
mutual
def eqE:Expr→Expr→Bool
 | .mk o t v k,.mk o' t' v' k'=>((((o==o')&&(t==t'))&&((v.kind==v'.kind&&v.n==v'.n)&&v.s==v'.s)))&&eqL k k'
def eqL:List Expr→List Expr→Bool
  | [],[]=>true
  | e::r,e'::r'=>eqE e e'&&eqL r r'
  | _,_=>false
 end
theorem AA1 (x y:Expr):eqE x y=((((x.op==y.op)&&(x.text==y.text))&&((x.val.kind==y.val.kind&&x.val.n==y.val.n)&&x.val.s==y.val.s))&&eqL x.kids y.kids):=by
 cases x;cases y;rw [eqE];rfl
mutual
theorem Mo:∀x y:Expr,eqE x y=true↔x=y
 | .mk o t v k,.mk o' t' v' k'=>by
  rw [eqE]
  simp only [Bool.and_eq_true,beq_iff_eq,Mp k k',Expr.mk.injEq]
  constructor
  ·rintro ⟨⟨⟨rfl,rfl⟩,⟨h1,h2⟩,h3⟩,rfl⟩
   refine ⟨rfl,rfl,?_,rfl⟩
   cases v;cases v'
   simp_all
  rintro ⟨rfl,rfl,rfl,rfl⟩
  exact ⟨⟨⟨rfl,rfl⟩,⟨rfl,rfl⟩,rfl⟩,rfl⟩
theorem Mp:∀x y:List Expr,eqL x y=true↔x=y
  | [],[]=>by simp [eqL]
  | [],e::r=>by simp [eqL]
  | e::r,[]=>by simp [eqL]
  | e::r,e'::r'=>by rw [eqL,Bool.and_eq_true,Mo e e',Mp r r',List.cons.injEq]
 end
theorem vu:∀{x y:List Expr},eqL x y=true→x.length=y.length:=fun h=>by rw [(Mp _ _).1 h]
theorem Rf (x:Expr):eqE x x=true:=(Mo x x).2 rfl
/-! A node by itself, and marks. -/
theorem Hc {of:Str} {ws:List Str} (h:of=Ht ws) (hp:∀w∈ws,(32:UInt8)∉w) (s:Str):Dl s of=(!(s==[])&&ws.contains s):=by
 unfold Dl
 rw [Xy]
 cases hb:s.contains 32 with
 | false =>
  have h2:(32:UInt8)∉s:=by simpa using hb
  rw [h,Hu s h2 ws hp,Bool.not_false,Bool.and_true]
  congr 1
  rw [List.contains_eq_any_beq]
  congr 1
  funext w
  rw [Bool.eq_iff_iff,beq_iff_eq,beq_iff_eq]
  exact eq_comm
 | true =>
  have h2:(32:UInt8)∈s:=by simpa using hb
  have h3:ws.contains s=false:=by
   rw [Bool.eq_false_iff]
   intro h4
   exact hp s (by simpa using h4) h2
  rw [h3]
  simp
def levels:List (List Str):=[[[111,114]],[[97,110,100]],[],[[61],[33,61],[60],[60,61],[62],[62,61]],[[43],[45],[38]],[[42],[47],[37]]]
def Ag (s:Str):Int:=match levels.findIdx? (fun l=>l.contains s) with|some i=>i|none => -1
def O5:List Str:=[[111,114],[],[97,110,100],[],[61],[33,61],[60],[60,61],[62],[62,61],[],[43],[45],[38],[],[42],[47],[37]]
theorem cg:L1=Ht O5:=by kernel_rfl
theorem Y8:∀w∈O5,(32:UInt8)∉w:=by decide
theorem cj (s:Str):Dl s L1=decide (0≤Ag s):=by
 rw [Hc cg Y8 s]
 have h1:decide (0≤Ag s)=levels.any (fun l=>l.contains s):=by
  unfold Ag
  cases h:levels.findIdx? (fun l=>l.contains s) with
  | some i =>
   have:levels.any (fun l=>l.contains s)=true:=by
    have:=List.findIdx?_eq_some_iff_getElem.1 h
    obtain ⟨hi,hp,_⟩:=this
    exact List.any_eq_true.2 ⟨_,List.getElem_mem hi,hp⟩
   rw [this]
   simp
  | none =>
   have:=List.findIdx?_eq_none_iff.1 h
   have e:levels.any (fun l=>l.contains s)=false:=by
    rw [List.any_eq_false]
    intro l hl
    rw [this l hl]
    simp
   rw [e]
   rfl
 rw [h1]
 by_cases h0:s=[]
 ·subst h0;rfl
 have:(s==[])=false:=by simpa using h0
 rw [this,Bool.not_false,Bool.true_and]
 simp [levels,O5,h0,Bool.or_assoc]
def Mq (e:Expr):Bool:=
 if e.op==1 then ((C1 e.val&&decide (0≤e.val.n))&&(e.text==[]))&&((e.kids.length:Int)==0)
 else if !(Gq e.val) then false
 else if e.op==2 then Dr e.text&&((e.kids.length:Int)==0)
 else if e.op==3 || e.op==4 then (e.text==[])&&((e.kids.length:Int)==1)
 else if e.op==5 then decide (0≤Ag e.text)&&((e.kids.length:Int)==2)
 else if e.op==6 then B0 e.text==(e.kids.length:Int)
 else false
theorem Gr (e:Expr):B3 e=Mq e:=by
 unfold B3 Mq
 rw [cj,Cv]
 cases Gq e.val<;>simp
/-! What is wide. -/
/-! What is printed of columns, word by word. -/
theorem ck {k:Int} (h1:1≤k) (h3:k≤3):k=1∨k=2∨k=3:=by omega
structure ColOk (x:Col):Prop where
 name:C3 x.name=true
 lo:1≤x.kind
 hi:x.kind≤3
def ktT (t:Tok):Int×Str:=(t.kind,t.text)
/-! What is printed of a schema is read. -/
theorem k8 {k:Int} (h1:1≤k) (h3:k≤3):Ic (Ai k)=k:=by
 rcases ck h1 h3 with rfl|rfl|rfl<;>kernel_rfl
/-- What goes together: names of their own. -/
theorem pi {c:List Col} (h:Ib c=true):(∀y∈c,ColOk y)∧(c.map (·.name)).Nodup:=by
 rw [b6] at h
 have hat:∀(j:Nat) (y:Col),c[j]? = some y→Dr y.name=true∧1≤y.kind∧y.kind≤3∧Bj y.name c=(j:Int):=by
  intro j y hj
  have:=h j y hj
  unfold eh at this
  simp only [Bool.not_eq_true',Bool.or_eq_false_iff,Bool.not_eq_false',decide_eq_false_iff_not,bne_eq_false_iff_eq] at this
  obtain ⟨⟨⟨h1,h2⟩,h3⟩,h4⟩:=this
  exact ⟨h1,by omega,by omega,h4⟩
 refine ⟨fun y hy=>?_,?_⟩
 ·obtain ⟨j,hj⟩:=List.getElem?_of_mem hy
  obtain ⟨h1,h2,h3,_⟩:=hat j y hj
  exact ⟨by rw [Cv];exact h1,h2,h3⟩
 show List.Pairwise _ _
 rw [List.pairwise_iff_getElem]
 intro i j hi hj hij e
 simp only [List.length_map] at hi hj
 simp only [List.getElem_map] at e
 have e1:=(hat i c[i] (List.getElem?_eq_getElem hi)).2.2.2
 have e2:=(hat j c[j] (List.getElem?_eq_getElem hj)).2.2.2
 rw [e] at e1
 omega
theorem pj {c:List Col} (h:Qw c=true):c.length≤12∧(∀y∈c,ColOk y)∧(c.map (·.name)).Nodup:=by
 rw [Hv] at h
 unfold C4 at h
 rw [Bool.and_eq_true] at h
 obtain ⟨h1,h2⟩:=h
 have:=of_decide_eq_true h1
 exact ⟨by omega,pi h2⟩
theorem AE7 (c:List Col) (Hp:List AObj):AFun Tryz.prog 7 [Ae c] Hp (Ao (K7 c)):=by
 refine ACall.body [.tmp 2] [0] Tryz.func7 Tryz.ntmps7 (fun d=>?_)
 refine Z46 ?_;refine Z34 ?_;refine R.fin [0,6] ?_
 refine W.cond (fun ht6=>?_) (fun ht6=>?_)
 ·refine Sv ?_;refine K.thR ?_;exact K.fin (V.one V.tmp) ⟨by simp [K7] at ht6 ⊢;omega,rfl⟩
 refine Z9 ?_;refine Z52 ?_;refine L9 ?_
 refine AW.loopC (α:=Nat) (fun x=>⟨20,A6 0 (Ae c) (A6 3 (A2 (x:Nat)) (fun _=>.any)),Hp,[],[],none⟩) (fun x=>x≤c.length∧∀(j:Nat) (y:Col),j<x→c[j]? = some y→decide ((100:Int)<y.name.length)=false) (fun x=>c.length-x) (0) (by simp) (StLe.refl _) rfl (fun x hx=>?_)
 refine Z91 ?_;refine R.fin [0,3,10] ?_
 refine W.cond (fun ht10=>?_) (fun ht10=>?_)
 ·have hlt:x<c.length:=by simpa using ht10
  have hcl:c.length≤50:=by simp at ht6;omega
  refine Z9 ?_;refine ug ?_
  refine R.go (h:=Q.indexAddr (x) (Ax c[x]) (fun _=>Br hlt)) (hr:=?_)
  refine Z72 ?_;refine R.fin [0,3,19] ?_
  refine W.cond (fun ht19=>?_) (fun ht19=>?_)
  ·refine Z2 ?_;refine ag ?_;exact K.fin (V.one V.tmp) ⟨by rw [show K7 c=true from by unfold K7;rw [zo (p:=fun y:Col=>decide ((100:Int)<y.name.length)) hlt ht19,Bool.or_true]],rfl⟩
  refine Z21 ?_;refine Z60 ?_;refine L9 ?_;exact K.lpN (x+1) ⟨hlt,Er hlt hx.2 ht19⟩ (by omega) (StCut.of_eq rfl)
 refine Z81 ?_;refine Z66 ?_;refine Z4 ?_;exact K.fin (V.one V.tmp) ⟨by rw [show K7 c=false from by unfold K7;rw [o7 (Md (by simp at ht10;omega) hx.2)];simpa using ht6],rfl⟩
theorem vw {c:List Col} (h:K7 c=false):OkCols c:=by
 unfold K7 at h
 simp only [Bool.or_eq_false_iff,decide_eq_false_iff_not,List.any_eq_false,decide_eq_true_eq] at h
 refine ⟨by omega,fun y hy=>?_⟩
 have:=h.2 y hy
 omega
def T9 {α:Type} [BEq α] (v:α) (l:List α):Int:=match l.findIdx? (·==v) with|some i=>i|none => -1
theorem AA2 {α:Type} [BEq α] [LawfulBEq α] {v:α} {l:List α} {x:Nat} (h:x<l.length) (h1:l[x]=v) (h2:∀(j:Nat) (y:α),j<x→l[j]? = some y→¬(y=v)):T9 v l=x:=by
 have:l.findIdx? (·==v)=some x:=by
  rw [List.findIdx?_eq_some_iff_getElem]
  exact ⟨h,by simpa using h1,fun j hj=>by simpa using h2 j l[j] hj (List.getElem?_eq_getElem _)⟩
 simp [T9,this]
theorem pk {α:Type} [BEq α] [LawfulBEq α] {v:α} {l:List α} (h:∀(j:Nat) (y:α),l[j]? = some y→¬(y=v)):T9 v l = -1:=by
 have:l.findIdx? (·==v)=none:=by
  rw [List.findIdx?_eq_none_iff]
  intro y hy
  obtain ⟨j,hj⟩:=List.getElem?_of_mem hy
  simpa using h j y hj
 simp [T9,this]
theorem f8 {α:Type} [BEq α] [LawfulBEq α] (v:α) (l:List α):decide (0≤T9 v l)=l.contains v:=by
 unfold T9
 cases h:l.findIdx? (·==v) with
 | none =>
  rw [List.findIdx?_eq_none_iff] at h
  have:l.contains v=false:=by
   rw [Bool.eq_false_iff]
   intro hc
   have:=h v (by simpa using hc)
   simp at this
  rw [this];rfl
 | some i =>
  rw [List.findIdx?_eq_some_iff_getElem] at h
  obtain ⟨hi,e,_⟩:=h
  have:l.contains v=true:=by
   have:l[i]=v:=by simpa using e
   rw [←this]
   simp
  rw [this]
  simp only [decide_eq_true_eq]
  omega
theorem c62 (l:List Str) (v:Str) (hl:l.length≤1048576) (Hp:List AObj):AFun Tryz.prog 62 [Em l,A8 v] Hp (A2 (T9 v l)):=by
 refine ACall.body [.tmp 4] [0,1] Tryz.func62 Tryz.ntmps62 (fun d=>?_)
 refine al ?_
 refine AW.loopC (α:=Nat) (fun x=>⟨19,A6 0 (Em l) (A6 1 (A8 v) (A6 7 (A2 l.length) (A6 8 (A2 (x:Nat)) (fun _=>.any)))),Hp,[],[],none⟩) (fun x=>x≤l.length∧∀(j:Nat) (y:Str),j<x→l[j]? = some y→¬(y=v)) (fun x=>l.length-x) (0) (by simp) (StLe.of_eq (by simp)) rfl (fun x hx=>?_)
 refine ac ?_
 refine W.condX (fun ht9=>?_) (fun ht9=>?_)
 ·have hlt:x<l.length:=by simpa using ht9
  refine ai ?_
  refine R.go (h:=Q.indexAddr (x) (A8 l[x]) (fun _=>Br hlt)) (hr:=?_)
  refine Z0 ?_;refine ar ?_
  refine W.cond (fun ht16=>?_) (fun ht16=>?_)
  ·refine Vm ?_;refine Z5 ?_;exact Z68
  refine Z83 ?_;exact Z65
 refine Z66 ?_;exact Z85

theorem c60 (l:List Str) (v:Str) (hl:l.length≤1048576) (Hp:List AObj):AFun Tryz.prog 60 [Em l,A8 v] Hp (Ao (l.contains v)):=by
 refine ACall.body [.tmp 4] [0,1] Tryz.func60 Tryz.ntmps60 (fun d=>?_)
 refine Xf ?_;refine R.call Tryz.call62 (c62 l v hl _) ?_;refine Z98 ?_;exact K.fin (V.one V.tmp) ⟨by rw [f8],rfl⟩

theorem k9 {n k:Nat} {o:Bool} {l:List Col} {z:Col}:Low n (.slice o k (l.map Ax++[Ax z])):=by
 refine .slice _ _ _ (fun y hy=>?_)
 have key:∀c:Col,∀w∈(Ax c).cells,Low n w:=by
  intro c w hw
  have hw':w∈[AV.v (sv c.name),AV.v (.int .i64 c.kind)]:=hw
  simp only [List.mem_cons,List.not_mem_nil,or_false] at hw'
  rcases hw' with rfl|rfl
  ·exact .v _
  exact .v _
 rcases List.mem_append.1 hy with hy|hy
 ·obtain ⟨a,_,rfl⟩:=List.mem_map.1 hy
  exact key a
 rw [List.mem_singleton.1 hy]
 exact key z
def L3 (c:List Col) (take:List Str) (j:Nat) (nm:Str):Bool := !(decide (Bj nm c<0) || (T9 nm take != (j:Int)))
def Fp (c:List Col) (take:List Str):Bool:=take.zipIdx.all fun x=>L3 c take x.2 x.1
theorem takenM_true {c:List Col} {take:List Str}:Fp c take=true↔∀(j:Nat) (y:Str),take[j]? = some y→L3 c take j y=true:=Lt
def Mr (c:List Col) (x:Nat) (y:Col):Bool := !((!Dr y.name) || (Bj y.name c != (x:Int)))
def Hy (c:List Col):Bool:=c.zipIdx.all fun x=>Mr c x.2 x.1
theorem namedC_true {c:List Col}:Hy c=true↔∀(j:Nat) (y:Col),c[j]? = some y→Mr c j y=true:=Lt
def Db (c:List Col) (take:List Str):List Col:=c.filter fun y => !take.contains y.name
theorem vz {c:List Col} {take:List Str} {k:Nat} {y:Col} (h:c[k]? = some y) (hn:take.contains y.name=false):Db (c.take (k+1)) take=Db (c.take k) take++[y]:=by
 unfold Db
 have e:c.take (k+1)=c.take k++[y]:=by rw [List.take_succ,h];rfl
 have hm:¬y.name∈take:=by simpa using hn
 rw [e,List.filter_append]
 simp [List.filter_cons,hm]
theorem kb {c:List Col} {take:List Str} {k:Nat} {y:Col} (h:c[k]? = some y) (hn:take.contains y.name=true):Db (c.take (k+1)) take=Db (c.take k) take:=by
 unfold Db
 have e:c.take (k+1)=c.take k++[y]:=by rw [List.take_succ,h];rfl
 have hm:y.name∈take:=by simpa using hn
 rw [e,List.filter_append]
 simp [List.filter_cons,hm]
theorem Kf (c:List Col) (take:List Str):(Db c take).length≤c.length:=List.length_filter_le _ _
def Cn (c:List Col) (take:List Str) (give:List Col):List Col×Int:=
 if C4 c=false then ([],1) else if Fp c take=false then ([],9) else if Hy (Db c take++give)=false then ([],9)
 else if Ib (Db c take++give)=false then ([],10) else if 12<(Db c take++give).length then ([],3) else (Db c take++give,0)
theorem pm {c:List Col} {take:List Str} {give:List Col} (h:C4 c=false):Cn c take give=([],1):=by unfold Cn;rw [if_pos h]
theorem pq {c:List Col} {take:List Str} {give:List Col} (h:C4 c=true) (h2:Fp c take=false):Cn c take give=([],9):=by unfold Cn;rw [if_neg (by rw [h];simp),if_pos h2]
theorem pt {c:List Col} {take:List Str} {give out:List Col} (h:C4 c=true) (h2:Fp c take=true) (ho:Db c take++give=out) (h3:Hy out=false):Cn c take give=([],9):=by
 unfold Cn;rw [ho,if_neg (by rw [h];simp),if_neg (by rw [h2];simp),if_pos h3]
theorem pu {c:List Col} {take:List Str} {give out:List Col} (h:C4 c=true) (h2:Fp c take=true) (ho:Db c take++give=out) (h3:Hy out=true) (h4:Ib out=false):Cn c take give=([],10):=by
 unfold Cn;rw [ho,if_neg (by rw [h];simp),if_neg (by rw [h2];simp),if_neg (by rw [h3];simp),if_pos h4]
theorem pv {c:List Col} {take:List Str} {give out:List Col} (h:C4 c=true) (h2:Fp c take=true) (ho:Db c take++give=out) (h3:Hy out=true) (h4:Ib out=true) (h5:12<out.length):Cn c take give=([],3):=by
 unfold Cn;rw [ho,if_neg (by rw [h];simp),if_neg (by rw [h2];simp),if_neg (by rw [h3];simp),if_neg (by rw [h4];simp),if_pos h5]
theorem pw {c:List Col} {take:List Str} {give out:List Col} (h:C4 c=true) (h2:Fp c take=true) (ho:Db c take++give=out) (h3:Hy out=true) (h4:Ib out=true) (h5:¬12<out.length):Cn c take give=(out,0):=by
 unfold Cn;rw [ho,if_neg (by rw [h];simp),if_neg (by rw [h2];simp),if_neg (by rw [h3];simp),if_neg (by rw [h4];simp),if_neg h5]
theorem O6 {c:List Col} (h:C4 c=true):c.length≤12:=by
 unfold C4 at h
 simp at h
 omega
theorem px {c give:List Col} {take:List Str} {out:List Col} (hc:OkCols c) (h:C4 c=true) (hg:OkCols give) (hg2:give.length≤1000000) (ho:Db c take++give=out):OkCols out:=by
 subst ho
 have h1:=Kf c take
 have h2:=O6 h
 refine ⟨by simp only [List.length_append];omega,fun y hy=>?_⟩
 rcases List.mem_append.1 hy with hy|hy
 ·exact hc.2 y ((List.mem_filter.1 hy).1)
 exact hg.2 y hy
theorem AE8 (c:List Col) (hc:OkCols c) (take:List Str) (ht:take.length≤1048576) (Hp:List AObj):AFun Tryz.prog 113 [Ae c,Em take] Hp (Ao (Fp c take)):=by
 refine ACall.body [.tmp 4] [0,1] Tryz.func113 Tryz.ntmps113 (fun d=>?_)
 refine Z42 ?_;refine Z34 ?_;refine R.fin [0,1,7,8,9] ?_
 refine AW.loopC (α:=Nat) (fun x=>⟨26,A6 0 (Ae c) (A6 1 (Em take) (A6 7 (Em take) (A6 8 (A2 take.length) (A6 9 (A2 (x:Nat)) (fun _=>.any))))),Hp,[],[],none⟩) (fun x=>x≤take.length∧∀(j:Nat) (y:Str),j<x→take[j]? = some y→L3 c take j y=true) (fun x=>take.length-x) (0) (by simp) (StLe.of_eq (by simp)) rfl (fun x hx=>?_)
 refine Z2 ?_;refine R.fin [0,1,7,8,9,10] ?_
 refine W.condX (fun ht10=>?_) (fun ht10=>?_)
 ·have hlt:x<take.length:=by simpa using ht10
  refine Mb ?_
  refine R.go (h:=Q.indexAddr (x) (A8 take[x]) (fun _=>Br hlt)) (hr:=?_)
  refine Z23 ?_;refine R.fin [0,1,5,6,7,8,9] ?_;refine Z1 ?_;refine R.call Tryz.call58 (c58 c hc _ _) ?_;refine Z29 ?_;refine G.call Tryz.call62 (fun hB=>c62 take _ ht _) ?_;refine Vn ?_;refine R.fin [0,1,7,8,9,24] ?_
  refine W.cond (fun ht24=>?_) (fun ht24=>?_)
  ·refine Z2 ?_;refine Z17 ?_;refine Z92 ?_
   exact K.fin (V.one V.tmp) ⟨by rw [show Fp c take=false from Bool.eq_false_iff.2 fun h=>by have:=takenM_true.1 h x take[x] (List.getElem?_eq_getElem hlt);unfold L3 at this;rw [ht24] at this;cases this],rfl⟩
  refine Z83 ?_;refine R.fin [0,1,7,8,9] ?_;exact K.lpN (x+1) ⟨hlt,Ls hlt hx.2 (by unfold L3;rw [ht24];rfl)⟩ (by omega) (StCut.of_eq rfl)
 refine Z66 ?_;refine Z17 ?_;exact K.fin (V.one V.tmp) ⟨by rw [takenM_true.2 (Nq (by simp at ht10;omega) hx.2)],rfl⟩

theorem AE9 (c:List Col) (hc:OkCols c) (Hp:List AObj):AFun Tryz.prog 115 [Ae c] Hp (Ao (Hy c)):=by
 refine ACall.body [.tmp 2] [0] Tryz.func115 Tryz.ntmps115 (fun d=>?_)
 refine Z46 ?_;refine Z34 ?_;refine R.fin [0,5,6,7] ?_
 refine AW.loopC (α:=Nat) (fun x=>⟨25,A6 0 (Ae c) (A6 5 (Ae c) (A6 6 (A2 c.length) (A6 7 (A2 (x:Nat)) (fun _=>.any)))),Hp,[],[],none⟩) (fun x=>x≤c.length∧∀(j:Nat) (y:Col),j<x→c[j]? = some y→Mr c j y=true) (fun x=>c.length-x) (0) (by simp) (StLe.of_eq (by simp)) rfl (fun x hx=>?_)
 refine Z2 ?_;refine R.fin [0,5,6,7,8] ?_
 refine W.condX (fun ht8=>?_) (fun ht8=>?_)
 ·have hlt:x<c.length:=by simpa using ht8
  have hcl:=hc.len
  refine Mb ?_
  refine R.go (h:=Q.indexAddr (x) (Ax c[x]) (fun _=>Br hlt)) (hr:=?_)
  refine ae ?_;refine Z36 ?_;refine R.fin [0,3,4,5,6,7] ?_;refine Z1 ?_;refine R.call Tryz.call106 (o9 _ (hc.names _ (List.getElem_mem hlt)) _) ?_;refine Z75 ?_;refine G.call Tryz.call58 (fun hB=>c58 c hc _ _) ?_;refine Vn ?_;refine R.fin [0,5,6,7,23] ?_
  refine W.cond (fun ht23=>?_) (fun ht23=>?_)
  ·rw [Cv] at ht23
   refine Z2 ?_;refine ag ?_
   exact K.fin (V.one V.tmp) ⟨by rw [show Hy c=false from Bool.eq_false_iff.2 fun h=>by have:=namedC_true.1 h x c[x] (List.getElem?_eq_getElem hlt);unfold Mr at this;rw [ht23] at this;cases this],rfl⟩
  rw [Cv] at ht23
  refine Z83 ?_;refine R.fin [0,5,6,7] ?_
  refine K.lpN (x+1) ⟨hlt,Ls hlt hx.2 (by unfold Mr;rw [ht23];rfl)⟩ (by omega) ?_
  exact StCut.take (own:=[]) (fun _=>.refl _) (by repeat (first|exact Az|refine Ay (by simp [or_imp,forall_and]) ?_)) (by simp) (by simp)
 refine Z66 ?_;refine Z4 ?_;exact K.fin (V.one V.tmp) ⟨by rw [namedC_true.2 (Nq (by simp at ht8;omega) hx.2)],rfl⟩

theorem AEa (c:List Col) (take:List Str) (Hp:List AObj):AFun Tryz.prog 114 [Ae c,Em take] Hp (.fn (.func 149) [] [.ro [Ae c],.ro [Em take]]):=by
 refine ACall.body [.tmp 4] [0,1] Tryz.func114 Tryz.ntmps114 (fun d=>?_)
 refine Z18 ?_;refine I5 ?_;refine E0 ?_;refine L8 ?_;refine nb ?_;exact aq

theorem AEb (l:Nat) (c:List Col) (take:List Str) (hc:c.length≤1048576) (ht:take.length≤1048576) (U:Nat→List AObj) (hlen:∀k,(U k).length=(U 0).length) (hll:l<(U 0).length)
  (hlw:∀k,∀x∈U k,ObjLow (U 0).length x) (hn:∀k y,c[k]? = some y→take.contains y.name=true→U (k+1)=U k)
  (hy:∀k y X,c[k]? = some y→take.contains y.name=false→AYield Tryz.prog l [Ax y] (U k++X) (fun b H'=>b=true∧H'=U (k+1)++X)):ACall Tryz.prog 149 [.yield l,.ro [Ae c],.ro [Em take]] (U 0) (fun _ H'=>H'=U c.length):=by
 refine ACall.body [] [0,1,2] Tryz.func149 Tryz.ntmps149 (fun d=>?_)
 refine Z18 ?_;refine R.fin [0,2,6,7,8] ?_
 refine AW.loopC (α:=Nat) (fun x=>⟨24,A6 0 (.yield l) (A6 2 (.ro [Em take]) (A6 6 (Ae c) (A6 7 (A2 c.length) (A6 8 (A2 (x:Nat)) (fun _=>.any))))),U x,[],[],none⟩) (fun x=>x≤c.length) (fun x=>c.length-x) (0) (Nat.zero_le _) (StLe.of_eq (by simp)) rfl (fun x hx=>?_)
 refine Z2 ?_;refine R.fin [0,2,6,7,8,9] ?_
 refine W.condX (fun ht9=>?_) (fun ht9=>?_)
 ·have hlt:x<c.length:=by simpa using ht9
  refine Su ?_
  refine R.go (h:=Q.indexAddr (x) (Ax c[x]) (fun _=>Br hlt)) (hr:=?_)
  refine Vk ?_;refine R.fin [0,2,5,6,7,8] ?_;refine Z18 ?_;refine R.call Tryz.call60 (c60 take _ ht _) ?_;refine Z29 ?_
  refine G.yield (l:=l) (C:=((!take.contains c[x].name)==true)) (args:=[Ax c[x]]) (fun hC=>hy x c[x] _ (List.getElem?_eq_getElem hlt) (by simpa using hC)) ?_
  intro b V O hV hb hb0
  have hVO:V=U (x+1)∧O=[AObj.cells 48 [A8 c[x].name,A2 c[x].kind]]∧(take.contains c[x].name=false→b=true):=by
   cases hcn:take.contains c[x].name with
   | true =>
    obtain ⟨h1,h2⟩:=hb0 (by rw [hcn];rfl)
    exact ⟨h1.trans (hn x c[x] (List.getElem?_eq_getElem hlt) hcn).symm,h2,fun e=>by cases e⟩
   | false =>
    obtain ⟨h1,h2⟩:=hb (by rw [hcn];rfl)
    have h3:=List.append_inj h2 (by rw [hV,hlen x,hlen (x+1)])
    exact ⟨h3.1,h3.2,fun _=>h1⟩
  obtain ⟨rfl,rfl,hbt⟩:=hVO
  refine ⟨fun _=>by rw [hlen (x+1)];exact hlw (x+1),fun o ho=>(by cases ho),?_⟩
  refine Pl ?_;refine R.fin [0,2,6,7,8,22] ?_
  refine W.cond (fun ht22=>?_) (fun ht22=>?_)
  ·exfalso
   have hcf:take.contains c[x].name=false:=by simp at ht22 ⊢;exact ht22.1
   rw [hbt hcf] at ht22
   simp at ht22
  refine Z83 ?_;refine R.fin [0,2,6,7,8] ?_;refine K.lpN (x+1) hlt (by omega) ?_
  exact StCut.take (own:=[]) (fun _=>.refl _) (by repeat (first|exact Az|refine Ay (by first|(simp [or_imp,forall_and];done)|(have:=hlen (x+1);simp;omega)) ?_)) (by simp) (by simp)
 have hxe:x=c.length:=by simp at ht9;omega
 refine K.lpE ?_;exact K.finN .nores (hp:=by rw [hxe])

/-! What went and came, taken back: the same columns. -/
theorem find_mem {nm:Str} {c:List Col}:¬(Bj nm c<0)↔∃(j:Nat) (y:Col),c[j]? = some y∧y.name=nm∧Bj nm c=(j:Int):=by
 unfold Bj
 cases h:c.findIdx? (fun y=>y.name==nm) with
 | none =>
  constructor
  ·intro h';exact absurd (by decide) h'
  rintro ⟨j,y,_,_,e⟩
  exact absurd (show (-1:Int)=(j:Int) from e) (by omega)
 | some i =>
  rw [List.findIdx?_eq_some_iff_getElem] at h
  obtain ⟨hi,e,_⟩:=h
  constructor
  ·intro _;exact ⟨i,c[i],List.getElem?_eq_getElem hi,by simpa using e,rfl⟩
  intro _ h'
  have:(i:Int)<0:=h'
  omega
theorem w4 {c:List Col} {take:List Str} {give:List Col} (h:(Cn c take give).2=0):C4 c=true∧Fp c take=true∧Ib (Db c take++give)=true∧(Db c take++give).length≤12∧Cn c take give=(Db c take++give,0):=by
 cases h1:C4 c with
 | false=>rw [pm h1] at h;exact absurd (show (1:Int)=0 from h) (by decide)
 | true =>
  cases h2:Fp c take with
  | false=>rw [pq h1 h2] at h;exact absurd (show (9:Int)=0 from h) (by decide)
  | true =>
   cases h3:Hy (Db c take++give) with
   | false=>rw [pt h1 h2 rfl h3] at h;exact absurd (show (9:Int)=0 from h) (by decide)
   | true =>
    cases h4:Ib (Db c take++give) with
    | false=>rw [pu h1 h2 rfl h3 h4] at h;exact absurd (show (10:Int)=0 from h) (by decide)
    | true =>
     by_cases h5:12<(Db c take++give).length
     ·rw [pv h1 h2 rfl h3 h4 h5] at h;exact absurd (show (3:Int)=0 from h) (by decide)
     exact ⟨rfl,rfl,rfl,by omega,pw h1 h2 rfl h3 h4 h5⟩
set_option maxRecDepth 8000
/-- What a node asks of its kids, and what it is. -/
structure Sign where
 kids:List Int
 own:Int
def He (s:Str):Sign:=if (s==[111,114]) || (s==[97,110,100]) then ⟨[3,3],3⟩ else if (((((s==[61]) || (s==[33,61])) || (s==[60])) || (s==[60,61])) || (s==[62])) || (s==[62,61]) then ⟨[-1, -1],3⟩ else if s==[38] then ⟨[2,2],2⟩ else ⟨[1,1],1⟩
def Fq (s:Str):Sign:=if (s==[108,101,110]) || (s==[110,117,109]) then ⟨[2],1⟩ else if s==[115,116,114] then ⟨[1],2⟩ else if (s==[108,101,102,116]) || (s==[114,105,103,104,116]) then ⟨[2,1],2⟩ else if s==[105,115,110,117,108,108] then ⟨[-2],3⟩ else if s==[110,118,108] then ⟨[-1, -1], -1⟩ else ⟨[3, -1, -1], -1⟩
def Cb (o:Int) (t:Str):Sign:=if o==3 then ⟨[1],1⟩ else if o==4 then ⟨[3],3⟩ else if o==5 then He t else Fq t
def Ci (a b:Int):Int×Bool:=if a==0 then (b,true) else if (b==0) || (a==b) then (a,true) else (0,false)
def Rg:List Int→List Int→Int→Option Int
 | _,[],c=>some c
 | [],_::_,_=>none
 | w::ws,k::ks,c=>if w == -2 then Rg ws ks c else if w == -1 then (if (Ci c k).2 then Rg ws ks (Ci c k).1 else none) else if (Ci w k).2 then Rg ws ks c else none
def Y9 (s:Sign) (ks:List Int):Int×Int:=match Rg s.kids ks 0 with|none=>(0,10)|some c=>if s.own == -1 then (c,0) else (s.own,0)
def Ya (c:List Col) (t:Str):Int×Int:=if Bj t c<0 then (0,9) else ((c.getD (Bj t c).toNat ⟨[],0⟩).kind,0)
def U5 (c:List Col) (o:Int) (t:Str) (v:Val) (ks:List (Int×Int)):Int×Int:=
 if o==1 then (v.kind,0) else if o==2 then Ya c t else match ks.find? (fun q=>q.2 != 0) with|some q=>(0,q.2)|none=>Y9 (Cb o t) (ks.map (·.1))
mutual
def Ef (c:List Col):Expr→Int×Int
 | .mk o t v k=>U5 c o t v (f9 c k)
def f9 (c:List Col):List Expr→List (Int×Int)
  | []=>[]
  | e::r=>Ef c e::f9 c r
 end
theorem U6 (c:List Col):∀l,f9 c l=l.map (Ef c)
 | []=>rfl
 | e::r=>by rw [f9,U6 c r];rfl
theorem Ms (c:List Col) (e:Expr):Ef c e=U5 c e.op e.text e.val (e.kids.map (Ef c)):=by cases e;rw [Ef,U6];rfl
/-- infer.Kind. -/
def Kg (e:Expr) (c:List Col):Int×Int:=if (!(B2 e)) || !(Qv c) then (0,1) else Ef c e
/-! The signs have as many as the nodes have kids. -/
theorem cl (s:Str):(He s).kids.length=2:=by
 unfold He;repeat' split
 all_goals rfl
theorem cm {t:Str} {n:Nat} (h:B0 t=(n:Int)):(Fq t).kids.length=n:=by
 rw [show B0 t=B0 t from rfl] at h
 by_cases hm:t∈arityList.map (·.1)
 ·have:((arityList.map (·.1)).all fun s=>decide (((Fq s).kids.length:Int)=B0 s))=true:=by kernel_rfl
  have:=of_decide_eq_true (List.all_eq_true.1 this t hm)
  omega
 have h1:B0 t = -1:=by
  unfold B0
  rw [List.find?_eq_none.2 fun p hp=>by
   simp only [beq_iff_eq]
   rintro rfl
   exact hm (List.mem_map.2 ⟨p,hp,rfl⟩)]
 omega
theorem py {e:Expr} (h:B3 e=true) (h1:(e.op==1)=false) (h2:(e.op==2)=false):(Cb e.op e.text).kids.length=e.kids.length:=by
 unfold B3 at h
 rw [h1,h2] at h
 simp only [Bool.false_eq_true,if_false] at h
 unfold Cb
 by_cases h3:(e.op==3)=true
 ·rw [h3] at h
  simp only [Bool.true_or,if_true,Bool.and_eq_true,beq_iff_eq] at h
  rw [if_pos h3]
  show 1=_
  omega
 have h3':(e.op==3)=false:=by simpa using h3
 rw [if_neg h3]
 rw [h3'] at h
 by_cases h4:(e.op==4)=true
 ·rw [h4] at h
  simp only [Bool.false_or,if_true,Bool.and_eq_true,beq_iff_eq] at h
  rw [if_pos h4]
  show 1=_
  omega
 have h4':(e.op==4)=false:=by simpa using h4
 rw [if_neg h4]
 rw [h4'] at h
 simp only [Bool.or_false,Bool.false_eq_true,if_false] at h
 by_cases h5:(e.op==5)=true
 ·rw [h5] at h
  simp only [if_true,Bool.and_eq_true,beq_iff_eq] at h
  rw [if_pos h5,cl]
  omega
 have h5':(e.op==5)=false:=by simpa using h5
 rw [if_neg h5]
 rw [h5'] at h
 simp only [Bool.false_eq_true,if_false] at h
 by_cases h6:(e.op==6)=true
 ·rw [h6] at h
  simp only [if_true,Bool.and_eq_true,beq_iff_eq] at h
  exact cm h.2
 have h6':(e.op==6)=false:=by simpa using h6
 rw [h6'] at h
 cases h
/-! More columns. -/
/-! A tree in a column's place. -/
set_option maxRecDepth 4000
abbrev pr (l:List Tok) (S:PS):AObj:=.cells 252 [.slice false 3 (l.map Ha),A2 (S.i:Int),A2 (S.nest:Int),A2 S.code,A2 S.at_]
theorem By {n:Nat} {l:List Tok} {S:PS}:ObjLow n (pr l S):=by
 show ∀y∈[AV.slice false 3 (l.map Ha),A2 (S.i:Int),A2 (S.nest:Int),A2 S.code,A2 S.at_],Low n y
 intro y hy
 simp only [List.mem_cons,List.not_mem_nil,or_false] at hy
 rcases hy with rfl|rfl|rfl|rfl|rfl
 ·simp [or_imp,forall_and]
 all_goals simp
theorem Yb (o:Int) (t:Str) (v:Val):Le (.agg [A2 o,A8 t,A2 v.kind,A2 v.n,A8 v.s,.nil]) (A7 (.mk o t v [])):=by
 rw [Ab]
 refine .agg _ _ rfl (by simp [AV.one,Value.oneCell',sv]) fun i y y' h1 h2=>?_
 match i with
 | 0=>simp at h1 h2;subst h1;subst h2;exact .inl rfl
 | 1=>simp at h1 h2;subst h1;subst h2;exact .inl rfl
 | 2=>simp at h1 h2;subst h1;subst h2;exact .inl rfl
 | 3=>simp at h1 h2;subst h1;subst h2;exact .inl rfl
 | 4=>simp at h1 h2;subst h1;subst h2;exact .inl rfl
 | 5=>simp at h1 h2;subst h1;subst h2;exact .inr ⟨rfl,6,rfl⟩
 | i+6=>simp at h1
theorem Rh:Le (.agg [A2 0,A8 [],A2 0,A2 0,A8 [],.nil]) (A7 Ah):=Yb 0 [] noV
theorem ACj (l:List Tok) (S:PS) (o:Nat) (Hp:List AObj) (ho:Hp[o]? = some (pr l S)) (hi:S.i<l.length):AFun Tryz.prog 269 [.ptr o 0] Hp (Ha (A5 l S.i)):=by
 refine ACall.body [.cell 2 130] [0] Tryz.func269 Tryz.ntmps269 (fun d=>?_)
 refine ABn ?_;refine Z56 ?_
 refine D.go (h:=Q.loadUp ho) (hr:=?_)
 refine Z56 ?_
 refine D.go (h:=Q.loadUp ho) (hr:=?_)
 refine D.tail ?_
 refine R.go (h:=Q.indexAddr (S.i) (Ha (A5 l S.i)) (fun _=>O0 hi)) (hr:=?_)
 refine R.go ?_;exact uf

theorem Yc (l:List Tok) (S:PS) (of:Str) (o:Nat) (Hp:List AObj) (ho:Hp[o]? = some (pr l S)) (hi:S.i<l.length) (hl:TokEnd l) (hof:of.length≤1048576):AFun Tryz.prog 251 [.ptr o 0,A8 of] Hp (Ao (isM l of S)):=by
 refine ACall.body [.tmp 4] [0,1] Tryz.func251 Tryz.ntmps251 (fun d=>?_)
 refine Z42 ?_;refine z6 ?_;refine Z16 ?_;refine R.fin [1,5] ?_;refine Z1 ?_;refine Z75 ?_;refine Z75 ?_;refine G.call Tryz.call120 (fun hB=>ACg (A5 l S.i).text of (hl.text _) hof _) ?_;exact uh

theorem pz (l:List Tok) (S:PS) (o:Nat) (Hp:List AObj) (ho:Hp[o]? = some (pr l S)) (hi:S.i<l.length) (hll:l.length≤1048576):ACall Tryz.prog 252 [.ptr o 0] Hp (fun r H'=>r=Ha (A5 l S.i)∧H'=Hp.set o (pr l (A3 S))):=by
 refine ACall.body [.cell 2 130] [0] Tryz.func252 Tryz.ntmps252 (fun d=>?_)
 refine Z43 ?_;refine z6 ?_;refine Xc ?_;refine Z18 ?_
 refine R.go (h:=Q.loadUp ho) (hr:=?_)
 refine Z23 ?_
 refine R.storeUp jS ho ?_ ?_
 ·simp
 refine I5 ?_;refine Z2 ?_;exact uf

theorem kc (l:List Tok) (S:PS) (e a:Int) (o:Nat) (Hp:List AObj) (ho:Hp[o]? = some (pr l S)):ACall Tryz.prog 215 [.ptr o 0,A2 e,A2 a] Hp (fun r H'=>r=A7 Ah∧H'=Hp.set o (pr l (Cl e a S))):=by
 refine ACall.body [.cell 6 103] [0,1,2] Tryz.func215 Tryz.ntmps215 (fun d=>?_)
 refine Z26 ?_;refine au ?_;refine Z91 ?_
 refine R.go (h:=Q.loadUp ho) (hr:=?_)
 refine R.go ?_;refine R.fin [0,1,2,6,12] ?_
 refine W.cond (fun ht12=>?_) (fun ht12=>?_)
 ·have e:Cl e a S=⟨S.i,S.nest,e,a⟩:=if_pos ht12
  refine Z60 ?_;refine Xh ?_;refine Z0 ?_
  refine R.storeUp jS ho ?_ ?_
  ·simp
  refine R.fin [6] ?_;refine K.thN ?_;refine yr ?_;refine R.wk 19 _ Rh ?_;refine nh ?_;exact K.fin (V.one (V.cellN jA jS)) ⟨rfl,by rw [e]⟩ (hlow:=Ad _ Ah)
 have e:Cl e a S=S:=if_neg (by rw [ht12];simp)
 refine Z9 ?_;refine yr ?_;refine R.wk 19 _ Rh ?_;refine nh ?_;exact K.fin (V.one (V.cellN jA jS)) ⟨rfl,by rw [e];exact (Ek ho).symm⟩ (hlow:=Ad _ Ah)

theorem ACk (v:Val) (Hp:List AObj):AFun Tryz.prog 285 [Vq v] Hp (A7 (F7 v)):=by
 refine ACall.body [.cell 2 103] [0] Tryz.func285 Tryz.ntmps285 (fun d=>?_)
 refine Z2 ?_;refine J8 ?_;refine R.fin [1,2] ?_;refine Z2 ?_;refine ny ?_;refine R.wk 4 _ (Yb 1 [] v) ?_;refine Z10 ?_;exact K.fin (V.one (V.cellN jA jS)) ⟨rfl,rfl⟩ (hlow:=Ad _ (F7 v))

theorem ACl (l:List Tok) (S:PS) (s:Str) (o:Nat) (Hp:List AObj) (ho:Hp[o]? = some (pr l S)) (hi:S.i<l.length) (hll:l.length≤1048576):ACall Tryz.prog 287 [.ptr o 0,A8 s] Hp (fun r H'=>r=.v (.tuple #[])∧H'=Hp.set o (pr l (Cm l s S))):=by
 refine ACall.body [] [0,1] Tryz.func287 Tryz.ntmps287 (fun d=>?_)
 refine Z91 ?_
 refine R.go (h:=Q.loadUp ho) (hr:=?_)
 refine R.go ?_;refine R.fin [0,1,10] ?_
 refine W.cond (fun ht10=>?_) (fun ht10=>?_)
 ·have e:Cm l s S=S:=if_pos ht10
  refine Z86 ?_;exact K.fin .nores (hp:=⟨rfl,by rw [e];exact (Ek ho).symm⟩)
 have e0:¬(S.code != 0)=true:=by rw [ht10];simp
 refine Z9 ?_;refine Z52 ?_;refine R.call Tryz.call269 (ACj l S o _ (A4 ho) hi) ?_;refine Z16 ?_;refine R.fin [0,1,4] ?_;refine Z1 ?_;refine Z64 ?_;refine R.go ?_;refine R.fin [0,4,21] ?_
 refine W.cond (fun ht21=>?_) (fun ht21=>?_)
 ·have e:Cm l s S=Cl 8 (A5 l S.i).at_ S:=by unfold Cm;rw [if_neg e0,if_pos ht21]
  refine ABf ?_;refine nr ?_;exact K.fin .nores (hp:=⟨rfl,by rw [e]⟩)
 have e:Cm l s S=A3 S:=by unfold Cm;rw [if_neg e0,if_neg (by rw [ht21];simp)]
 refine Z9 ?_;refine Z60 ?_
 refine R.go (h:=Q.loadUp ho) (hr:=?_)
 refine Z23 ?_
 refine R.storeUp jS ho ?_ ?_
 ·simp
 refine R.fin [] ?_;exact K.finN .nores (hp:=⟨rfl,by rw [e];rfl⟩)

/-- The contract of one of the parser's functions. -/
def PC (g:FuncId) (l:List Tok) (f:PS→Expr×PS) (n:Nat):Prop:=∀(o:Nat) (Hp:List AObj) (S:PS),Hp[o]? = some (pr l S)→S.i<l.length→S.nest=n→ACall Tryz.prog g [.ptr o 0] Hp (fun r H'=>r=A7 (f S).1∧H'=Hp.set o (pr l (f S).2))
abbrev Ij:AObj:=.cells 103 [A2 0,A8 [],A2 0,A2 0,A8 [],.nil]
theorem fe {n:Nat}:ObjLow n Ij:=by
 show ∀y∈[A2 0,A8 [],A2 0,A2 0,A8 [],AV.nil],Low n y
 simp
theorem w5 {n:Nat} (e:Expr):ObjLow n (.cells 103 (Ee e)):=by
 have h:=Ad n e
 rw [Ab] at h
 show ∀y∈Ee e,Low n y
 intro y hy
 cases h with
 | agg _ h=>exact h y hy
theorem w6 (l:List Tok) (S:PS) (a:Int) (g:FuncId) (first caps:List AV) (x:Expr) (S2:PS) (o:Nat) (Hp Hx:List AObj) (ho:Hp[o]? = some (pr l S)) (hnl:S.nest≤1048576) (hgc:∀args w,(callFunc g args).run Tryz.prog w=.ok (.enter g args) w) (hxl:Hx.length=Hp.length) (hxo:Hx[o]? = some (pr l S2)) (hn2:S2.nest=S.nest+1) (hlow:(∀y∈Hp.set o (pr l (An S)),ObjLow Hp.length y)→∀y∈Hx,ObjLow Hp.length y) (hcf:S.nest≠30→∀own,ACall Tryz.prog g (first++caps) (Hp.set o (pr l (An S))++own) (fun y H'=>y=A7 x∧H'=Hx++own)):ACall Tryz.prog 271 [.ptr o 0,A2 a,.fn (.func g) first caps] Hp (fun r H'=>(S.nest=30→r=A7 Ah∧H'=Hp.set o (pr l (Cl 18 a S)))∧(S.nest≠30→r=A7 x∧H'=Hx.set o (pr l (Lh S2)))):=by
 refine ACall.body [.cell 6 103] [0,1,2] Tryz.func271 Tryz.ntmps271 (fun d=>?_)
 refine Z26 ?_;refine au ?_;refine Z34 ?_
 refine R.go (h:=Q.loadUp ho) (hr:=?_)
 refine R.go ?_;refine R.fin [0,1,2,6,12] ?_
 refine W.cond (fun ht12=>?_) (fun ht12=>?_)
 ·have hn30:S.nest=30:=by have:=ht12;simp at this;omega
  refine Z1 ?_;refine R.callUp Tryz.call215 ho (by simp) By (kc l S 18 a o _ (A4 ho)) ?_;refine nh ?_;refine K.thR ?_;exact K.fin (V.one (V.cellN jA jS)) ⟨fun _=>⟨by rw [Ab],rfl⟩,fun h=>absurd hn30 h⟩ (hlow:=by have:=Ad Hp.length Ah;rw [Ab] at this;simpa using this)
 have hn30:S.nest≠30:=by have:=ht12;simp at this;omega
 refine Qh ?_
 refine R.go (h:=Q.loadUp ho) (hr:=?_)
 refine Z23 ?_
 refine R.storeUp jS ho ?_ ?_
 ·simp
 refine R.fin [0,2,6] ?_;refine Z2 ?_
 refine R.callVX (up':=Hx) (own':=[Ij]) hgc (hcf hn30 [Ij]) (by simpa using hxl) (by rw [List.length_set];exact hlow) ?_
 rw [←hxl]
 refine Z16 ?_;refine R.fin [0,6,7] ?_;refine Z18 ?_
 refine R.go (h:=Q.loadUp hxo) (hr:=?_)
 refine Z23 ?_
 refine R.storeUp jS hxo ?_ ?_
 ·simp
 refine R.fin [6,7] ?_;refine Z2 ?_;refine nh ?_;exact K.fin (V.one (V.cellN jA jS)) ⟨fun h=>absurd h hn30,fun _=>⟨by rw [Ab],by rw [show ((S2.nest:Int)-1)=((Lh S2).nest:Int) by show _=((S2.nest-1:Nat):Int);omega];rfl⟩⟩ (hlow:=by have:=Ad Hx.length x;rw [Ab] at this;simpa using this)

theorem ke (t:Str) (a b:Expr):Ee (Cd t a b)=[A2 5,.v (sv t),A2 0,A2 0,A8 [],.slice false 6 [A7 a,A7 b]]:=rfl
theorem w7 {n:Nat} (t:Str) (a b:Expr):ObjLow n (.cells 103 [A2 5,.v (sv t),A2 0,A2 0,A8 [],.slice false 6 [A7 a,A7 b]]):=w5 (Cd t a b)
theorem w8 {n:Nat} {U:List AObj} {i:Nat} {x:AObj} (h:∀y∈U,ObjLow n y) (hx:ObjLow n x):∀y∈U.set i x,ObjLow n y:=by
 intro y hy
 rcases List.mem_or_eq_of_mem_set hy with h1|h1
 ·exact h y h1
 rw [h1];exact hx
/-- within, with a method's value. -/
theorem q8 {g:FuncId} (hgc:∀args w,(callFunc g args).run Tryz.prog w=.ok (.enter g args) w) (l:List Tok) (S:PS) (a:Int) (f:PS→Expr×PS) (o:Nat) (Hp:List AObj) (ho:Hp[o]? = some (pr l S)) (hi:S.i<l.length) (hnl:S.nest≤30) (hf:S.nest≠30→Dp l (S.nest+1) f) (hcf:S.nest≠30→PC g l f (S.nest+1)):
  ACall Tryz.prog 271 [.ptr o 0,A2 a,.fn (.func g) [.ptr o 0] []] Hp (fun r H'=>r=A7 (Aj a f S).1∧H'=Hp.set o (pr l (Aj a f S).2)):=by
 have hlt:=(List.getElem?_eq_some_iff.1 ho).1
 by_cases h30:S.nest=30
 ·refine (w6 l S a g [.ptr o 0] [] Ah (An S) o Hp (Hp.set o (pr l (An S))) ho (by omega) hgc (by simp) (by simp [hlt]) rfl (fun h=>h) (fun h=>absurd h30 h)).mono fun r H' h=>?_
  have e:Aj a f S=(Ah,Cl 18 a S):=if_pos (by rw [h30];rfl)
  rw [e]
  exact h.1 h30
 have hq:=hf h30 (An S) hi rfl
 refine (w6 l S a g [.ptr o 0] [] (f (An S)).1 (f (An S)).2 o Hp (Hp.set o (pr l (f (An S)).2)) ho (by omega) hgc (by simp) (by simp [hlt]) hq.nest (fun h y hy=>?_) (fun _ own=>?_)).mono fun r H' h=>?_
 ·rcases List.mem_or_eq_of_mem_set hy with h1|h1
  ·obtain ⟨i,hi',rfl⟩:=List.getElem_of_mem h1
   by_cases hio:i=o
   ·subst hio
    have:Hp[i]=pr l S:=by rw [List.getElem?_eq_getElem hi'] at ho;injection ho
    rw [this];exact By
   refine h _ ?_
   rw [List.mem_iff_getElem?]
   exact ⟨i,by rw [List.getElem?_set_ne (Ne.symm hio),List.getElem?_eq_getElem hi']⟩
  rw [h1];exact By
 ·have hg:(Hp.set o (pr l (An S))++own)[o]? = some (pr l (An S)):=A4 (by simp [hlt])
  refine (hcf h30 o (Hp.set o (pr l (An S))++own) (An S) hg hi rfl).mono fun r H' h=>⟨h.1,h.2.trans ?_⟩
  rw [List.set_append_left _ _ (by simpa using hlt),List.set_set]
 have e:Aj a f S=((f (An S)).1,Lh (f (An S)).2):=if_neg (by
  show ¬(((S.nest:Int)==30)=true)
  simp
  omega)
 rw [e]
 obtain ⟨h1,h2⟩:=h.2 h30
 exact ⟨h1,by rw [h2,List.set_set]⟩
theorem c233 {g:FuncId} (hgc:∀args w,(callFunc g args).run Tryz.prog w=.ok (.enter g args) w) (l:List Tok) (S:PS) (of:Str) (hof:of.length≤1048576) (f:PS→Expr×PS) (o:Nat) (Hp:List AObj) (ho:Hp[o]? = some (pr l S)) (hi:S.i<l.length) (hl:TokEnd l) (hll:l.length≤1048576) (hf:Dp l S.nest f) (hcf:PC g l f S.nest):ACall Tryz.prog 233 [.ptr o 0,A8 of,.fn (.func g) [.ptr o 0] []] Hp (fun r H'=>r=A7 (Cs l of f S).1∧H'=Hp.set o (pr l (Cs l of f S).2)):=by
 have holt:=(List.getElem?_eq_some_iff.1 ho).1
 refine ACall.body [.cell 6 103] [0,1,2] Tryz.func233 Tryz.ntmps233 (fun d=>?_)
 refine Z26 ?_;refine au ?_;refine Z2 ?_;refine R.callVUp hgc ho (by simp) By (hcf o _ S (A4 ho) hi rfl) ?_;refine Z16 ?_;refine R.fin [0,1,2,6,7] ?_;refine W.seq ?_
 refine AW.loopC (α:=Expr×PS) (fun r=>⟨32,A6 0 (.ptr o 0) (A6 1 (A8 of) (A6 2 (.fn (.func g) [.ptr o 0] []) (A6 6 (.ptr (oid Hp.length 0) 0) (A6 7 (.ptr (oid Hp.length 1) 0) (fun _=>.any))))),Hp.set o (pr l r.2),[.cells 103 [A2 0,A8 [],A2 0,A2 0,A8 [],.nil],.cells 103 (Ee r.1)],[],none⟩) (fun r=>LeftAt l of f S r) (fun r=>l.length-r.2.i) (f S) (.start (hf S hi rfl)) (StLe.of_eq (by simp)) rfl (fun r hx=>?_)
 refine Z91 ?_
 refine R.go (h:=Q.loadUp (getset ho)) (hr:=?_)
 refine Z29 ?_;refine G.call Tryz.call251 (fun hB=>Yc l r.2 of o _ (A4 (getset ho)) hx.fact.lt hl hof) ?_;refine R.go ?_;refine R.fin [0,1,2,6,7,21] ?_
 refine W.cond (fun ht21=>?_) (fun ht21=>?_)
 ·have hon:=hx.on hl ht21 hf
  have hle:=hon.2.1.le
  have hlt0:=hx.fact.lt
  have hU1:(Hp.set o (pr l r.2)).set o (pr l (A3 r.2))=Hp.set o (pr l (A3 r.2)):=List.set_set ..
  refine Z9 ?_;refine AW.block ?_;refine Z2 ?_;refine R.callUp Tryz.call252 (getset ho) (by simp) By (pz l r.2 o _ (A4 (getset ho)) hx.fact.lt hll) ?_;refine Z16 ?_;refine R.fin [0,1,2,6,7,8] ?_;refine W.drawY0 [0,1,0,0,8,28,63,127] [4] [.q 4 [] [],.s [28] (some 0) [] [],.q 1 [0] []] (fun B=>Hp.set o (if B 0=true then pr l (f (A3 r.2)).2 else pr l (A3 r.2))) (fun _=>[.cells 103 [A2 0,A8 [],A2 0,A2 0,A8 [],.nil],.cells 103 (Ee r.1),.cells 130 [A2 (A5 l r.2.i).kind,A8 (A5 l r.2.i).text,A2 (A5 l r.2.i).at_]]) Ac (by kernel_rfl) (by simp [List.set_set]) rfl (fun B=>by simp) ?_
  apply Y.q
  case h1 =>
   intro B hT hF
   exact ni
  case hTF=>decide
  refine Y.callVUp (r:=A7 (f (A3 r.2)).1) (o:=o) (x0:=pr l (A3 r.2)) (x:=pr l (f (A3 r.2)).2) hgc (fun B hT hF hB=>⟨by simp only [hB];exact getset ho,by simp [upd],rfl,By,?_⟩) ?_
  ·simp only [hB]
   exact hcf o _ (A3 r.2) (A4 (getset ho)) hon.1 hx.fact.nest
  apply Y.q
  case h1 =>
   intro B hT hF
   exact Z33
  case hTF=>decide
  refine Y.tail (tn:=[4]) (U:=Hp.set o (pr l (f (A3 r.2)).2)) ?_;refine ABg ?_;refine R.fin [0,1,2,6,7] ?_;refine K.blN ?_
  refine K.lpN (Cd (A5 l r.2.i).text r.1 (f (A3 r.2)).1,(f (A3 r.2)).2) hon.2.2 (by show l.length-(f (A3 r.2)).2.i<l.length-r.2.i;have:r.2.i+1≤(f (A3 r.2)).2.i:=hle;omega) ?_
  simp only [ke]
  have hlow2:=fun n=>w7 (n:=n) (A5 l r.2.i).text r.1 (f (A3 r.2)).1
  simp only [Ab] at hlow2 ⊢
  exact StCut.take (fun _=>.refl _) (by repeat (first|exact Az|refine Ay (by simp [oid]<;>omega) ?_)) (by intro y hy;rcases List.mem_cons.1 hy with rfl|hy;exact fe;rw [List.mem_singleton.1 hy];exact hlow2 _) (by simp)
 have hout:=hx.out (by rw [ht21];simp)
 refine Z81 ?_;refine Z66 ?_;refine nh ?_;exact K.fin (V.one (V.cellN jA jS)) ⟨by rw [hout,Ab],by rw [hout]⟩ (hlow:=by have:=Ad (Hp.set o (pr l r.2)).length r.1;rw [Ab] at this;simpa using this)

theorem c213 (l:List Tok) (S:PS) (f:PS→Expr×PS) (o:Nat) (Hp:List AObj) (ho:Hp[o]? = some (pr l S)) (hi:S.i<l.length) (hl:TokEnd l) (hll:l.length≤1048576) (hf:Dp l S.nest f) (hcf:PC 234 l f S.nest):ACall Tryz.prog 213 [.ptr o 0] Hp (fun r H'=>r=A7 (Cs l orT f S).1∧H'=Hp.set o (pr l (Cs l orT f S).2)):=by
 refine ACall.body [.cell 2 103] [0] Tryz.func213 Tryz.ntmps213 (fun d=>?_)
 refine Z43 ?_;refine Z1 ?_;refine L8 ?_;refine R.callUp Tryz.call233 ho (by simp) By (c233 Tryz.call234 l S orT (by decide) f o _ (A4 ho) hi hl hll hf hcf) ?_;refine Z10 ?_;exact K.fin (V.one (V.cellN jA jS)) ⟨by rw [Ab],rfl⟩ (hlow:=by have:=Ad Hp.length (Cs l orT f S).1;rw [Ab] at this;simpa using this)

theorem AEc (l:List Tok) (S:PS) (f:PS→Expr×PS) (o:Nat) (Hp:List AObj) (ho:Hp[o]? = some (pr l S)) (hi:S.i<l.length) (hl:TokEnd l) (hll:l.length≤1048576) (hf:Dp l S.nest f) (hcf:PC 253 l f S.nest):ACall Tryz.prog 234 [.ptr o 0] Hp (fun r H'=>r=A7 (Cs l c7 f S).1∧H'=Hp.set o (pr l (Cs l c7 f S).2)):=by
 refine ACall.body [.cell 2 103] [0] Tryz.func234 Tryz.ntmps234 (fun d=>?_)
 refine Z43 ?_;refine Z1 ?_;refine L8 ?_;refine R.callUp Tryz.call233 ho (by simp) By (c233 Tryz.call253 l S c7 (by decide) f o _ (A4 ho) hi hl hll hf hcf) ?_;refine Z10 ?_;exact K.fin (V.one (V.cellN jA jS)) ⟨by rw [Ab],rfl⟩ (hlow:=by have:=Ad Hp.length (Cs l c7 f S).1;rw [Ab] at this;simpa using this)

theorem AEd (l:List Tok) (S:PS) (f:PS→Expr×PS) (o:Nat) (Hp:List AObj) (ho:Hp[o]? = some (pr l S)) (hi:S.i<l.length) (hl:TokEnd l) (hll:l.length≤1048576) (hf:Dp l S.nest f) (hcf:PC 282 l f S.nest):ACall Tryz.prog 279 [.ptr o 0] Hp (fun r H'=>r=A7 (Cs l cb f S).1∧H'=Hp.set o (pr l (Cs l cb f S).2)):=by
 refine ACall.body [.cell 2 103] [0] Tryz.func279 Tryz.ntmps279 (fun d=>?_)
 refine Z43 ?_;refine Z1 ?_;refine L8 ?_;refine R.callUp Tryz.call233 ho (by simp) By (c233 Tryz.call282 l S cb (by decide) f o _ (A4 ho) hi hl hll hf hcf) ?_;refine Z10 ?_;exact K.fin (V.one (V.cellN jA jS)) ⟨by rw [Ab],rfl⟩ (hlow:=by have:=Ad Hp.length (Cs l cb f S).1;rw [Ab] at this;simpa using this)

theorem AEe (l:List Tok) (S:PS) (f:PS→Expr×PS) (o:Nat) (Hp:List AObj) (ho:Hp[o]? = some (pr l S)) (hi:S.i<l.length) (hl:TokEnd l) (hll:l.length≤1048576) (hf:Dp l S.nest f) (hcf:PC 283 l f S.nest):ACall Tryz.prog 282 [.ptr o 0] Hp (fun r H'=>r=A7 (Cs l R2 f S).1∧H'=Hp.set o (pr l (Cs l R2 f S).2)):=by
 refine ACall.body [.cell 2 103] [0] Tryz.func282 Tryz.ntmps282 (fun d=>?_)
 refine Z43 ?_;refine Z1 ?_;refine L8 ?_;refine R.callUp Tryz.call233 ho (by simp) By (c233 Tryz.call283 l S R2 (by decide) f o _ (A4 ho) hi hl hll hf hcf) ?_;refine Z10 ?_;exact K.fin (V.one (V.cellN jA jS)) ⟨by rw [Ab],rfl⟩ (hlow:=by have:=Ad Hp.length (Cs l R2 f S).1;rw [Ab] at this;simpa using this)

/-- What is so of the functions one nest deeper. -/
structure DeepC (l:List Tok) (Dv:Fam) (n:Nat):Prop where
 ei:n≠30→Dp l (n+1) Dv.ei∧PC 213 l Dv.ei (n+1)
 no:n≠30→Dp l (n+1) Dv.no∧PC 253 l Dv.no (n+1)
 ne:n≠30→Dp l (n+1) Dv.ne∧PC 283 l Dv.ne (n+1)
theorem Ps (op:Int) (x:Expr):A7 (Bz op x)=.agg [A2 op,A8 [],A2 0,A2 0,A8 [],.slice false 6 [A7 x]]:=by rw [Ab];rfl
theorem ff (t:Str) (a b:Expr):A7 (Cd t a b)=.agg [A2 5,.v (sv t),A2 0,A2 0,A8 [],.slice false 6 [A7 a,A7 b]]:=by rw [Ab];rfl
theorem low_agg {n:Nat} (e:Expr):Low n (.agg [.v (.int .i64 e.op),.v (sv e.text),.v (.int .i64 e.val.kind),.v (.int .i64 e.val.n),.v (sv e.val.s),.slice false 6 (e.kids.map A7)]):=by
 have:=Ad n e
 rwa [Ab] at this
theorem AEf (l:List Tok) (S:PS) (Dv:Fam) (o:Nat) (Hp:List AObj) (ho:Hp[o]? = some (pr l S)) (hi:S.i<l.length) (hl:TokEnd l) (hll:l.length≤1048576) (hnl:S.nest≤30) (hd:DeepC l Dv S.nest) (hc:PC 284 l (Ct l Dv) S.nest):ACall Tryz.prog 283 [.ptr o 0] Hp (fun r H'=>r=A7 (I6 l Dv S).1∧H'=Hp.set o (pr l (I6 l Dv S).2)):=by
 refine ACall.body [.cell 2 103] [0] Tryz.func283 Tryz.ntmps283 (fun d=>?_)
 refine Z43 ?_;refine Z52 ?_;refine R.call Tryz.call251 (Yc l S cd o _ (A4 ho) hi hl (by decide)) ?_;refine R.go ?_;refine R.fin [0,2,6] ?_
 refine W.cond (fun ht6=>?_) (fun ht6=>?_)
 ·have e:I6 l Dv S=Ct l Dv S:=if_pos ht6
  refine Z2 ?_;refine R.callUp Tryz.call284 ho (by simp) By (hc o _ S (A4 ho) hi rfl) ?_;refine Z10 ?_;exact Z63
 have his:isM l cd S=true:=by simpa using ht6
 have hi1:(A3 S).i<l.length:=hl.stepIs hi his
 have e:I6 l Dv S=(Bz 3 (Aj (A5 l S.i).at_ Dv.ne (A3 S)).1,(Aj (A5 l S.i).at_ Dv.ne (A3 S)).2):=if_neg (by rw [ht6];simp)
 refine Z9 ?_;refine Z48 ?_;refine Xc ?_;refine Z35 ?_;refine L8 ?_;refine R.callUp Tryz.call271 (getset ho) (by simp) By (q8 Tryz.call283 l (A3 S) (A5 l S.i).at_ Dv.ne o _ (A4 (getset ho)) hi1 hnl (fun h=>(hd.ne h).1) (fun h=>(hd.ne h).2)) ?_;refine Qi ?_;refine yw ?_;exact K.fin (V.one (V.cellN jA jS)) ⟨by rw [e,Ps];simp only [Ab],by rw [e,List.set_set]⟩ (hlow:=by have:=Ad Hp.length (Bz 3 (Aj (A5 l S.i).at_ Dv.ne (A3 S)).1);rw [Ps] at this;simp only [Ab] at this;simpa only [List.length_set] using this)

theorem AEg (l:List Tok) (S:PS) (Dv:Fam) (o:Nat) (Hp:List AObj) (ho:Hp[o]? = some (pr l S)) (hi:S.i<l.length) (hl:TokEnd l) (hll:l.length≤1048576) (hnl:S.nest≤30) (hd:DeepC l Dv S.nest) (hc:PC 270 l (Bw l Dv) S.nest):ACall Tryz.prog 253 [.ptr o 0] Hp (fun r H'=>r=A7 (I7 l Dv S).1∧H'=Hp.set o (pr l (I7 l Dv S).2)):=by
 refine ACall.body [.cell 2 103] [0] Tryz.func253 Tryz.ntmps253 (fun d=>?_)
 refine Z43 ?_;refine Z52 ?_;refine R.call Tryz.call251 (Yc l S ca o _ (A4 ho) hi hl (by decide)) ?_;refine R.go ?_;refine R.fin [0,2,6] ?_
 refine W.cond (fun ht6=>?_) (fun ht6=>?_)
 ·have e:I7 l Dv S=Bw l Dv S:=if_pos ht6
  refine Z2 ?_;refine R.callUp Tryz.call270 ho (by simp) By (hc o _ S (A4 ho) hi rfl) ?_;refine Z10 ?_;exact Z63
 have his:isM l ca S=true:=by simpa using ht6
 have hi1:(A3 S).i<l.length:=hl.stepIs hi his
 have e:I7 l Dv S=(Bz 4 (Aj (A5 l S.i).at_ Dv.no (A3 S)).1,(Aj (A5 l S.i).at_ Dv.no (A3 S)).2):=if_neg (by rw [ht6];simp)
 refine Z9 ?_;refine Z48 ?_;refine Xc ?_;refine Z35 ?_;refine L8 ?_;refine R.callUp Tryz.call271 (getset ho) (by simp) By (q8 Tryz.call253 l (A3 S) (A5 l S.i).at_ Dv.no o _ (A4 (getset ho)) hi1 hnl (fun h=>(hd.no h).1) (fun h=>(hd.no h).2)) ?_;refine Qi ?_;refine yw ?_;exact K.fin (V.one (V.cellN jA jS)) ⟨by rw [e,Ps];simp only [Ab],by rw [e,List.set_set]⟩ (hlow:=by have:=Ad Hp.length (Bz 4 (Aj (A5 l S.i).at_ Dv.no (A3 S)).1);rw [Ps] at this;simp only [Ab] at this;simpa only [List.length_set] using this)

theorem AEh (l:List Tok) (S:PS) (Dv:Fam) (o:Nat) (Hp:List AObj) (ho:Hp[o]? = some (pr l S)) (hi:S.i<l.length) (hl:TokEnd l) (hll:l.length≤1048576) (hnl:S.nest≤30) (hd:DeepC l Dv S.nest) (hg:Dp l S.nest (Bo l Dv)) (hc:PC 279 l (Bo l Dv) S.nest):ACall Tryz.prog 270 [.ptr o 0] Hp (fun r H'=>r=A7 (Bw l Dv S).1∧H'=Hp.set o (pr l (Bw l Dv S).2)):=by
 have hq:=hg S hi rfl
 refine ACall.body [.cell 2 103] [0] Tryz.func270 Tryz.ntmps270 (fun d=>?_)
 refine Z43 ?_;refine Z2 ?_;refine R.callUp Tryz.call279 ho (by simp) By (hc o _ S (A4 ho) hi rfl) ?_;refine Xc ?_;refine Z91 ?_
 refine R.go (h:=Q.loadUp (getset ho)) (hr:=?_)
 refine Z0 ?_;refine G.go ?_;refine G.call Tryz.call251 (fun hB=>Yc l (Bo l Dv S).2 W6 o _ (A4 (getset ho)) hq.lt hl (by decide)) ?_;refine Pl ?_;refine R.fin [0,2,3,17] ?_
 refine W.cond (fun ht17=>?_) (fun ht17=>?_)
 ·have e:Bw l Dv S=Bo l Dv S:=if_pos ht17
  refine Z2 ?_;refine Z10 ?_;exact Z63
 have his:isM l W6 (Bo l Dv S).2=true:=by
  have:=ht17
  simp only [Bool.or_eq_false_iff,Bool.not_eq_false'] at this
  exact this.2
 have hi1:(A3 (Bo l Dv S).2).i<l.length:=hl.stepIs hq.lt his
 have e:Bw l Dv S=(Cd (A5 l (Bo l Dv S).2.i).text (Bo l Dv S).1 (Bo l Dv (A3 (Bo l Dv S).2)).1,(Bo l Dv (A3 (Bo l Dv S).2)).2):=if_neg (by rw [ht17];simp)
 refine Mc ?_;refine R.callUp Tryz.call252 (getset ho) (by simp) By (pz l (Bo l Dv S).2 o _ (A4 (getset ho)) hq.lt hll) ?_;refine Z16 ?_;refine R.fin [0,2,3,4] ?_;refine W.drawY [0,1,0,0,8,28,63,127] [4] [.q 4 [] [],.s [25] (some 0) [] [],.q 1 [0] []] (fun B=>Hp.set o (if B 0=true then pr l (Bo l Dv (A3 (Bo l Dv S).2)).2 else pr l (A3 (Bo l Dv S).2))) (fun _=>[.cells 103 [A2 0,A8 [],A2 0,A2 0,A8 [],.nil],.cells 103 (Ee (Bo l Dv S).1),.cells 130 [A2 (A5 l (Bo l Dv S).2.i).kind,A8 (A5 l (Bo l Dv S).2.i).text,A2 (A5 l (Bo l Dv S).2.i).at_]]) Ac (by kernel_rfl) (by simp [List.set_set]) rfl (fun B=>by simp) ?_
 apply Y.q
 case h1 =>
  intro B hT hF
  exact ni
 case hTF=>decide
 refine Y.callUp (r:=A7 (Bo l Dv (A3 (Bo l Dv S).2)).1) (o:=o) (x0:=pr l (A3 (Bo l Dv S).2)) (x:=pr l (Bo l Dv (A3 (Bo l Dv S).2)).2) Tryz.call279 (fun B hT hF hB=>⟨by simp only [hB];exact getset ho,by simp [upd],rfl,By,?_⟩) ?_
 ·simp only [hB]
  exact hc o _ (A3 (Bo l Dv S).2) (A4 (getset ho)) hi1 hq.nest
 apply Y.q
 case h1 =>
  intro B hT hF
  exact Z33
 case hTF=>decide
 refine Y.tail (tn:=[4]) (U:=Hp.set o (pr l (Bo l Dv (A3 (Bo l Dv S).2)).2)) ?_;refine yw ?_;exact K.fin (V.one (V.cellN jA jS)) ⟨by rw [e,ff];simp only [Ab],by rw [e]⟩ (hlow:=by have:=Ad Hp.length (Cd (A5 l (Bo l Dv S).2.i).text (Bo l Dv S).1 (Bo l Dv (A3 (Bo l Dv S).2)).1);rw [ff] at this;simp only [Ab] at this;simpa only [List.length_set] using this)

/-- The contract of the parser of calls. -/
def Yd (l:List Tok) (Dv:Fam) (n:Nat):Prop:=∀(o:Nat) (Hp:List AObj) (S:PS) (t:Tok),Hp[o]? = some (pr l S)→(A3 S).i<l.length→S.nest=n→t.text.length≤1048576→isM l opT S=true→ACall Tryz.prog 286 [.ptr o 0,Ha t] Hp (fun r H'=>r=A7 (Ez l Dv t S).1∧H'=Hp.set o (pr l (Ez l Dv t S).2))
theorem q9:A7 Ah=.agg [A2 0,A8 [],A2 0,A2 0,A8 [],.slice false 6 []]:=by rw [Ab];rfl
theorem AEi (l:List Tok) (S:PS) (Dv:Fam) (o:Nat) (Hp:List AObj) (ho:Hp[o]? = some (pr l S)) (hi:S.i<l.length) (hl:TokEnd l) (hll:l.length≤1048576) (hnl:S.nest≤30) (hd:DeepC l Dv S.nest) (hcl:Yd l Dv S.nest):ACall Tryz.prog 284 [.ptr o 0] Hp (fun r H'=>r=A7 (Ct l Dv S).1∧H'=Hp.set o (pr l (Ct l Dv S).2)):=by
 refine ACall.body [.cell 2 103] [0] Tryz.func284 Tryz.ntmps284 (fun d=>?_)
 refine Z43 ?_;refine z6 ?_;refine Xc ?_;refine Z91 ?_
 refine R.go (h:=Q.loadUp ho) (hr:=?_)
 refine R.go ?_;refine R.fin [0,2,3,14] ?_
 refine W.cond (fun ht14=>?_) (fun ht14=>?_)
 ·have e:Ct l Dv S=(Ah,S):=if_pos ht14
  refine yr ?_;refine R.wk 15 _ Rh ?_;refine Z10 ?_;refine K.thR ?_;exact K.fin (V.one (V.cellN jA jS)) ⟨by rw [e,Ab],by rw [e];exact (Ek ho).symm⟩ (hlow:=by have:=Ad Hp.length (Ah);simpa only [Ab,List.length_set] using this)
 have e0:¬(S.code != 0)=true:=by rw [ht14];simp
 refine Z9 ?_;refine Z24 ?_;refine Z35 ?_;refine G.go ?_;refine G.call Tryz.call251 (fun hB=>Yc l S Pm o _ (A4 ho) hi hl (by decide)) ?_;refine Z0 ?_;refine R.fin [0,2,3,16] ?_
 refine W.cond (fun ht16=>?_) (fun ht16=>?_)
 ·have e:Ct l Dv S=(F7 (Cp (A5 l S.i).text).1,A3 S):=by unfold Ct;rw [if_neg e0,if_pos ht16]
  refine Z48 ?_;refine R.go ?_;refine R.call Tryz.call166 (zu (A5 l S.i).text (hl.text _) _) ?_;refine jc ?_;refine nq ?_;refine R.call Tryz.call285 (ACk (Cp (A5 l S.i).text).1 _) ?_;refine Z10 ?_;refine Z5 ?_;exact K.fin (V.one (V.cellN jA jS)) ⟨by rw [e,Ab],by rw [e]⟩ (hlow:=by have:=Ad Hp.length (F7 (Cp (A5 l S.i).text).1);simpa only [Ab,List.length_set] using this)
 have e1:¬(((A5 l S.i).kind==3) || isM l Pm S)=true:=by rw [ht16];simp
 refine Z35 ?_;refine R.fin [0,2,3,33] ?_
 refine W.cond (fun ht33=>?_) (fun ht33=>?_)
 ·have e:Ct l Dv S=(F7 ⟨2,0,(A5 l S.i).text.take 200⟩,A3 S):=by unfold Ct;rw [if_neg e0,if_neg e1,if_pos ht33]
  refine Z48 ?_;refine R.go ?_;refine R.call Tryz.call208 (ACh (A5 l S.i).text _) ?_;refine R.call Tryz.call285 (ACk ⟨2,0,(A5 l S.i).text.take 200⟩ _) ?_;refine Z10 ?_;refine Z5 ?_;exact K.fin (V.one (V.cellN jA jS)) ⟨by rw [e,Ab],by rw [e]⟩ (hlow:=by have:=Ad Hp.length (F7 ⟨2,0,(A5 l S.i).text.take 200⟩);simpa only [Ab,List.length_set] using this)
 have e2:¬((A5 l S.i).kind==4)=true:=by rw [ht33];simp
 refine Z35 ?_;refine R.fin [0,2,3,42] ?_
 refine W.cond (fun ht42=>?_) (fun ht42=>?_)
 ·have hi1:(A3 S).i<l.length:=hl.step hi (by rw [beq_iff_eq] at ht42;rw [ht42];decide)
  refine Z48 ?_;refine R.fin [0,2,3] ?_;refine Z52 ?_;refine R.call Tryz.call251 (Yc l (A3 S) opT o _ (A4 (getset ho)) hi1 hl (by decide)) ?_;refine R.fin [0,2,3,49] ?_
  refine W.cond (fun ht49=>?_) (fun ht49=>?_)
  ·have e:Ct l Dv S=Ez l Dv (A5 l S.i) (A3 S):=by unfold Ct;rw [if_neg e0,if_neg e1,if_neg e2,if_pos ht42,if_pos ht49]
   have hi2:(A3 (A3 S)).i<l.length:=hl.stepIs hi1 ht49
   refine Z1 ?_;refine R.callUp Tryz.call286 (getset ho) (by simp) By (hcl o _ (A3 S) (A5 l S.i) (A4 (getset ho)) hi2 rfl (hl.text _) ht49) ?_;refine Z10 ?_;refine K.thR ?_;refine Z5 ?_;exact K.fin (V.one (V.cellN jA jS)) ⟨by rw [e,Ab],by rw [e,List.set_set]⟩ (hlow:=by have:=Ad Hp.length ((Ez l Dv (A5 l S.i) (A3 S)).1);simpa only [Ab,List.length_set] using this)
  have e:Ct l Dv S=(B7 (A5 l S.i).text,A3 S):=by unfold Ct;rw [if_neg e0,if_neg e1,if_neg e2,if_pos ht42,if_neg (by rw [ht49];simp)]
  refine Z9 ?_;refine yu ?_;refine R.wk 55 _ (Xu _) ?_;refine Z10 ?_;refine Z5 ?_;exact K.fin (V.one (V.cellN jA jS)) ⟨by rw [e,Ab],by rw [e]⟩ (hlow:=by have:=Ad Hp.length (B7 (A5 l S.i).text);simpa only [Ab,List.length_set] using this)
 have e3:¬((A5 l S.i).kind==1)=true:=by rw [ht42];simp
 refine Z2 ?_;refine R.call Tryz.call251 (Yc l S opT o _ (A4 ho) hi hl (by decide)) ?_;refine R.go ?_;refine R.fin [0,2,3,56] ?_
 refine W.cond (fun ht56=>?_) (fun ht56=>?_)
 ·have e:Ct l Dv S=((Aj (A5 l S.i).at_ Dv.ei (A3 S)).1,Cm l D6 (Aj (A5 l S.i).at_ Dv.ei (A3 S)).2):=by unfold Ct;rw [if_neg e0,if_neg e1,if_neg e2,if_neg e3,if_pos ht56]
  have hi1:(A3 S).i<l.length:=hl.stepIs hi ht56
  have hwf:=Hb (S:=A3 S) (l:=l) (f:=Dv.ei) (A5 l S.i).at_ hi1 (fun h=>(hd.ei h).1)
  refine Z48 ?_;refine R.fin [0,2,3] ?_;refine Z35 ?_;refine L8 ?_;refine R.callUp Tryz.call271 (getset ho) (by simp) By (q8 Tryz.call213 l (A3 S) (A5 l S.i).at_ Dv.ei o _ (A4 (getset ho)) hi1 hnl (fun h=>(hd.ei h).1) (fun h=>(hd.ei h).2)) ?_;refine Z16 ?_;refine R.fin [0,2,6] ?_;refine Z2 ?_;refine R.callUp Tryz.call287 (getset (getset ho)) (by simp) By (ACl l (Aj (A5 l S.i).at_ Dv.ei (A3 S)).2 D6 o _ (A4 (getset (getset ho))) hwf.lt hll) ?_;refine R.fin [2,6] ?_;refine Z2 ?_;refine Z10 ?_;refine Z5 ?_;exact K.fin (V.one (V.cellN jA jS)) ⟨by rw [e,Ab],by rw [e,List.set_set,List.set_set]⟩ (hlow:=by have:=Ad Hp.length ((Aj (A5 l S.i).at_ Dv.ei (A3 S)).1);simpa only [Ab,List.length_set] using this)
 have e:Ct l Dv S=(Ah,Cl 8 (A5 l S.i).at_ S):=by unfold Ct;rw [if_neg e0,if_neg e1,if_neg e2,if_neg e3,if_neg (by rw [ht56];simp)]
 refine Z21 ?_;refine ABf ?_;refine Z10 ?_;exact K.fin (V.one (V.cellN jA jS)) ⟨by rw [e,Ab],by rw [e]⟩ (hlow:=by have:=Ad Hp.length (Ah);simpa only [Ab,List.length_set] using this)

theorem w9 {l:List Tok} (hl:TokEnd l) (hll:l.length≤1048576) {d n:Nat} (h:n+(d+1)=31) (hp:n≠30→PC 213 l (Bu l d).ei (n+1)∧PC 253 l (Bu l d).no (n+1)∧PC 283 l (Bu l d).ne (n+1)):DeepC l (Bu l d) n:=by
 have g:n≠30→_:=fun h30=>O3 hl hll d (n+1) (by omega) (by omega)
 exact ⟨fun h=>⟨(g h).1,(hp h).1⟩,fun h=>⟨(g h).2.1,(hp h).2.1⟩,fun h=>⟨(g h).2.2,(hp h).2.2⟩⟩
/-- All functions of the parser. -/
theorem Ye {l:List Tok} (hl:TokEnd l) (hll:l.length≤1048576) (hcl:∀n Dv,n≤30→DeepC l Dv n→Yd l Dv n):∀(d n:Nat),n+d=31→n≤30→PC 213 l (Bu l d).ei n∧PC 253 l (Bu l d).no n∧PC 283 l (Bu l d).ne n
 | 0,n,h,hn=>by omega
 | d+1,n,h,hn=>by
  have hd:DeepC l (Bu l d) n:=w9 hl hll h (fun h30=>Ye hl hll hcl d (n+1) (by omega) (by omega))
  have g1:Dp l n (I6 l (Bu l d)):=O2 hl hll (fun h=>(hd.ei h).1) (fun h=>(hd.ne h).1)
  have g2:Dp l n (R3 l (Bu l d)):=F8 hl g1
  have g3:Dp l n (Bo l (Bu l d)):=F8 hl g2
  have g4:Dp l n (Bw l (Bu l d)):=Li hl hll (fun h=>(hd.ei h).1) (fun h=>(hd.ne h).1)
  have g5:Dp l n (I7 l (Bu l d)):=U1 hl hll (fun h=>(hd.ei h).1) (fun h=>(hd.ne h).1) (fun h=>(hd.no h).1)
  have g6:Dp l n (R4 l (Bu l d)):=F8 hl g5
  have p0:PC 284 l (Ct l (Bu l d)) n:=fun o Hp S ho hi hS=>by
   subst hS
   exact AEi l S (Bu l d) o Hp ho hi hl hll hn hd (hcl _ _ hn hd)
  have p1:PC 283 l (I6 l (Bu l d)) n:=fun o Hp S ho hi hS=>by
   subst hS
   exact AEf l S (Bu l d) o Hp ho hi hl hll hn hd p0
  have p2:PC 282 l (R3 l (Bu l d)) n:=fun o Hp S ho hi hS=>by
   subst hS
   exact AEe l S (I6 l (Bu l d)) o Hp ho hi hl hll g1 p1
  have p3:PC 279 l (Bo l (Bu l d)) n:=fun o Hp S ho hi hS=>by
   subst hS
   exact AEd l S (R3 l (Bu l d)) o Hp ho hi hl hll g2 p2
  have p4:PC 270 l (Bw l (Bu l d)) n:=fun o Hp S ho hi hS=>by
   subst hS
   exact AEh l S (Bu l d) o Hp ho hi hl hll hn hd g3 p3
  have p5:PC 253 l (I7 l (Bu l d)) n:=fun o Hp S ho hi hS=>by
   subst hS
   exact AEg l S (Bu l d) o Hp ho hi hl hll hn hd p4
  have p6:PC 234 l (R4 l (Bu l d)) n:=fun o Hp S ho hi hS=>by
   subst hS
   exact AEc l S (I7 l (Bu l d)) o Hp ho hi hl hll g5 p5
  have p7:PC 213 l (L2 l (Bu l d)) n:=fun o Hp S ho hi hS=>by
   subst hS
   exact c213 l S (R4 l (Bu l d)) o Hp ho hi hl hll g6 p6
  exact ⟨p7,p5,p1⟩
set_option maxRecDepth 8000
/-! The document's kinds of trees are infer's. -/
set_option maxRecDepth 4000
theorem fg {n:Nat} {U F:Nat→List AObj} {H':List AObj} (h:It (fun _=>true) U F n H'):H'=U n:=by
 rcases h with ⟨_,h⟩|⟨j,_,_,h,_⟩
 ·exact h
 cases h
theorem kg {α:Type} {l:List α} {k:Nat} {y:α} (h:l[k]? = some y):l.take (k+1)=l.take k++[y]:=by rw [List.take_add_one,h];rfl
theorem qb {L:List (Int×Expr)} {k:Nat} {it:Int×Expr} (h:L[k]? = some it):E1 0 (L.take (k+1))=if E1 0 (L.take k)<it.1 then it.1 else E1 0 (L.take k):=by
 have e:E1 0 (L.take (k+1))=max (E1 0 (L.take k)) it.1:=by
  unfold E1
  rw [kg h,List.foldl_append]
  rfl
 rw [e]
 split<;>omega
theorem U7 {n k:Nat} {o:Bool} {l:List Str}:Low n (.slice o k (l.map A8)):=by simp [or_imp,forall_and]
theorem AEj (n:Nat) (e:Expr) (hok:okE n e) (hn:n≤1048576) (hs:sizeE e≤1048576) (Hp:List AObj):AFun Tryz.prog 214 [A7 e] Hp (A2 (depthE e:Nat)):=by
 refine ACall.body [.tmp 2] [0,4] Tryz.func214 Tryz.ntmps214 (fun d=>?_)
 refine Z1 ?_;refine R.fin [1,4] ?_;refine E0 ?_;refine Z16 ?_;refine R.fin [1,3,4] ?_;refine Z57 ?_
 refine R.assumeLow (fun hlow=>?_)
 refine za ?_;refine R.fin [3,4,6] ?_;refine AW.block ?_
 refine W.rangeV (m:=1) Tryz.call118 (fun FR as' bd' hFR has hbd=>?_)
 have hFRl:∀s,Low (Hp.length+3) (FR s):=by
  intro s
  rw [hFR]
  refine Low.strip ?_
  revert s
  repeat (first|exact Az|refine Ay (by simp [oid,Ad]<;>try omega) ?_)
 have hOl:∀{k:Nat},∀x∈[AObj.cells 3 [A2 (E1 0 ((As 1 e).take k))],AObj.defs,AObj.loop LoopState.ready none FR 13 #[7,8] as' bd' (oid Hp.length 1)],ObjLow (Hp.length+3) x:=by
  intro k x hx
  simp only [List.mem_cons,List.mem_nil_iff,or_false] at hx
  rcases hx with rfl|rfl|rfl
  ·intro y hy
   rw [List.mem_singleton.1 hy]
   first|exact U7|simp
  ·trivial
  exact nw
 refine ⟨fun _ H'=>It (fun _=>true) (fun k=>Hp++[AObj.cells 3 [A2 (E1 0 ((As 1 e).take k))],AObj.defs,AObj.loop LoopState.ready none FR 13 #[7,8] as' bd' (oid Hp.length 1)]) (fun k=>Hp++[AObj.cells 3 [A2 (E1 0 ((As 1 e).take k))],AObj.defs,AObj.loop LoopState.ready none FR 13 #[7,8] as' bd' (oid Hp.length 1)]) (As 1 e).length H',zx (l:=oid Hp.length 2) (go:=fun _=>true) (U:=fun k=>Hp++[AObj.cells 3 [A2 (E1 0 ((As 1 e).take k))],AObj.defs,AObj.loop LoopState.ready none FR 13 #[7,8] as' bd' (oid Hp.length 1)]) (F:=fun k=>Hp++[AObj.cells 3 [A2 (E1 0 ((As 1 e).take k))],AObj.defs,AObj.loop LoopState.ready none FR 13 #[7,8] as' bd' (oid Hp.length 1)]) (n0:=Hp.length+3) ⟨fun k=>by simp,fun k=>by simp,fun k x hx=>?_,fun k x hx=>?_,by simp [oid],fun X k it hit hgo=>?_⟩ n hok hn,?_⟩
 ·exact nx
 ·exact nx
 ·have hklt:k<sizeE e:=by rw [←En 1 e];exact (List.getElem?_eq_some_iff.1 hit).1
  generalize hV:(Hp++[AObj.cells 3 [A2 (E1 0 ((As 1 e).take k))],AObj.defs,AObj.loop LoopState.ready none FR 13 #[7,8] as' bd' (oid Hp.length 1)]++X)=V
  have hL:V[oid Hp.length 2]? = some (AObj.loop LoopState.ready none FR 13 #[7,8] as' bd' (oid Hp.length 1)):=by rw [←hV,List.append_assoc,Al];rfl
  have hA0:V[oid Hp.length 0]? = some (AObj.cells 3 [A2 (E1 0 ((As 1 e).take k))]):=by rw [←hV,List.append_assoc,Al];rfl
  refine AYield.ofRound (pd:=none) (fr:=FR) (sz:=13) (ps:=#[7,8]) (df:=oid Hp.length 1) (asg:=as') (bd:=bd') hL rfl (by decide) (fun d=>?_)
  subst hFR has hbd
  refine W.keep [3,7,8] ?_;refine Z93 ?_;refine R.fin [3,4] ?_
  refine ⟨rfl,none,hL,?_⟩
  generalize hbz:(AObj.loop LoopState.busy _ _ _ _ _ _ _)=bz
  have hA:(V.set (oid Hp.length 2) bz)[oid Hp.length 0]? = some (AObj.cells 3 [A2 (E1 0 ((As 1 e).take k))]):=by rw [List.getElem?_set_ne (De (by decide))];exact hA0
  refine AW.block ?_;refine AW.region ?_
  refine R.go (h:=Q.loadUp hA) (hr:=?_)
  refine R.go ?_;refine R.maxI ?_
  refine R.storeUp jS hA ?_ ?_
  ·simp
  refine Z50 ?_
  subst hbz
  refine uv ?_
  refine ⟨rfl,?_⟩
  rw [if_pos rfl]
  subst hV
  simp only [List.append_assoc,E5,List.cons_append,List.nil_append,List.set_cons_succ,List.set_cons_zero]
  rw [qb hit]
 intro r H' hq
 obtain rfl:=fg hq
 refine ⟨Hp,_,_,_,rfl,rfl,fun h=>h,?_,rfl,by simp,?_⟩
 ·intro o ho
  have:o=oid Hp.length 1:=by simpa using ho
  subst this
  rw [Al]
  rfl
 refine Z12 ?_;refine Z1 ?_;refine Z4 ?_;exact K.fin (V.one V.tmp) ⟨by rw [List.take_length,P8],rfl⟩

theorem AEk (n:Nat) (e:Expr) (hok:okE n e) (hn:n≤1048576) (hs:sizeE e≤1048576) (Hp:List AObj):AFun Tryz.prog 216 [A7 e] Hp (A2 (sizeE e:Nat)):=by
 refine ACall.body [.tmp 2] [0] Tryz.func216 Tryz.ntmps216 (fun d=>?_)
 refine Z97 ?_;refine E0 ?_;refine Z16 ?_;refine R.fin [1,3] ?_;refine Z57 ?_
 refine R.assumeLow (fun hlow=>?_)
 refine za ?_;refine R.fin [3,5] ?_;refine AW.block ?_
 refine W.rangeV (m:=1) Tryz.call118 (fun FR as' bd' hFR has hbd=>?_)
 have hFRl:∀s,Low (Hp.length+3) (FR s):=by
  intro s
  rw [hFR]
  refine Low.strip ?_
  revert s
  repeat (first|exact Az|refine Ay (by simp [oid,Ad]<;>try omega) ?_)
 have hOl:∀{k:Nat},∀x∈[AObj.cells 3 [A2 ((k:Nat))],AObj.defs,AObj.loop LoopState.ready none FR 11 #[6,7] as' bd' (oid Hp.length 1)],ObjLow (Hp.length+3) x:=by
  intro k x hx
  simp only [List.mem_cons,List.mem_nil_iff,or_false] at hx
  rcases hx with rfl|rfl|rfl
  ·intro y hy
   rw [List.mem_singleton.1 hy]
   first|exact U7|simp
  ·trivial
  exact nw
 refine ⟨fun _ H'=>It (fun _=>true) (fun k=>Hp++[AObj.cells 3 [A2 ((k:Nat))],AObj.defs,AObj.loop LoopState.ready none FR 11 #[6,7] as' bd' (oid Hp.length 1)]) (fun k=>Hp++[AObj.cells 3 [A2 ((k:Nat))],AObj.defs,AObj.loop LoopState.ready none FR 11 #[6,7] as' bd' (oid Hp.length 1)]) (As 1 e).length H',zx (l:=oid Hp.length 2) (go:=fun _=>true) (U:=fun k=>Hp++[AObj.cells 3 [A2 ((k:Nat))],AObj.defs,AObj.loop LoopState.ready none FR 11 #[6,7] as' bd' (oid Hp.length 1)]) (F:=fun k=>Hp++[AObj.cells 3 [A2 ((k:Nat))],AObj.defs,AObj.loop LoopState.ready none FR 11 #[6,7] as' bd' (oid Hp.length 1)]) (n0:=Hp.length+3) ⟨fun k=>by simp,fun k=>by simp,fun k x hx=>?_,fun k x hx=>?_,by simp [oid],fun X k it hit hgo=>?_⟩ n hok hn,?_⟩
 ·exact nx
 ·exact nx
 ·have hklt:k<sizeE e:=by rw [←En 1 e];exact (List.getElem?_eq_some_iff.1 hit).1
  generalize hV:(Hp++[AObj.cells 3 [A2 ((k:Nat))],AObj.defs,AObj.loop LoopState.ready none FR 11 #[6,7] as' bd' (oid Hp.length 1)]++X)=V
  have hL:V[oid Hp.length 2]? = some (AObj.loop LoopState.ready none FR 11 #[6,7] as' bd' (oid Hp.length 1)):=by rw [←hV,List.append_assoc,Al];rfl
  have hA0:V[oid Hp.length 0]? = some (AObj.cells 3 [A2 ((k:Nat))]):=by rw [←hV,List.append_assoc,Al];rfl
  refine AYield.ofRound (pd:=none) (fr:=FR) (sz:=11) (ps:=#[6,7]) (df:=oid Hp.length 1) (asg:=as') (bd:=bd') hL rfl (by decide) (fun d=>?_)
  subst hFR has hbd
  refine W.keep [3,6,7] ?_;refine AW.skip ?_
  refine ⟨rfl,none,hL,?_⟩
  generalize hbz:(AObj.loop LoopState.busy _ _ _ _ _ _ _)=bz
  have hA:(V.set (oid Hp.length 2) bz)[oid Hp.length 0]? = some (AObj.cells 3 [A2 ((k:Nat))]):=by rw [List.getElem?_set_ne (De (by decide))];exact hA0
  refine AW.block ?_;refine AW.region ?_
  refine R.go (h:=Q.loadUp hA) (hr:=?_)
  refine R.go ?_
  refine R.storeUp jS hA ?_ ?_
  ·simp
  refine Z50 ?_
  subst hbz
  refine uv ?_
  refine ⟨rfl,?_⟩
  rw [if_pos rfl]
  subst hV
  simp only [List.append_assoc,E5,List.cons_append,List.nil_append,List.set_cons_succ,List.set_cons_zero]
  rfl
 intro r H' hq
 obtain rfl:=fg hq
 refine ⟨Hp,_,_,_,rfl,rfl,fun h=>h,?_,rfl,by simp,?_⟩
 ·intro o ho
  have:o=oid Hp.length 1:=by simpa using ho
  subst this
  rw [Al]
  rfl
 refine Z12 ?_;refine Z1 ?_;refine Z4 ?_;exact K.fin (V.one V.tmp) ⟨by rw [En],rfl⟩

set_option maxRecDepth 8000
abbrev TK:=Int×Str
/-- What stands from word i on. -/
def seg (l:List Tok) (i:Nat):List TK:=(l.drop i).map ktT
theorem Aq {l:List Tok} {i:Nat} {k:Int} {t:Str} {r:List TK} (h:seg l i=(k,t)::r):(A5 l i).kind=k∧(A5 l i).text=t∧seg l (i+1)=r∧i<l.length:=by
 unfold seg at h ⊢
 rcases Nat.lt_or_ge i l.length with hi|hi
 ·rw [List.drop_eq_getElem_cons hi,List.map_cons,List.cons.injEq] at h
  have e:A5 l i=l[i]:=by unfold A5;rw [List.getD_eq_getElem?_getD,List.getElem?_eq_getElem hi];rfl
  rw [e]
  have h1:=h.1
  unfold ktT at h1
  rw [Prod.mk.injEq] at h1
  exact ⟨h1.1,h1.2,h.2,hi⟩
 rw [List.drop_of_length_le hi] at h;cases h
theorem Cj {l:List Tok} {i:Nat} {ts rest:List TK} (h:seg l i=ts++rest):seg l (i+ts.length)=rest:=by
 unfold seg at h ⊢
 have:=congrArg (List.drop ts.length) h
 rw [List.drop_left,←List.map_drop,List.drop_drop] at this
 exact this
theorem Dm {l:List Tok} {S:PS} {of:Str} {k:Int} {t:Str} {r:List TK} (h:seg l S.i=(k,t)::r):isM l of S=(((k==5) || (k==2))&&Dl t of):=by
 unfold isM
 rw [(Aq h).1,(Aq h).2.1]
theorem W7 {l:List Tok} {S:PS} {of:Str} (h:seg l S.i=[]):isM l of S=false:=by
 unfold seg at h
 have hi:l.length≤S.i:=by simpa using h
 unfold isM A5
 rw [List.getD_eq_getElem?_getD,List.getElem?_eq_none hi]
 rfl
theorem qc {w:Str} (hw:(32:UInt8)∉w) (h0:w≠[]) (s:Str):Dl s (32::(w++[32]))=(s==w):=by
 have e:(32::(w++[32]):Str)=Ht [w]:=rfl
 rw [Hc e (fun x hx=>by rw [List.mem_singleton.1 hx];exact hw) s]
 by_cases hs:s=[]
 ·subst hs
  cases w with
  | nil=>exact absurd rfl h0
  | cons a r=>rfl
 have:(s==[])=false:=by simpa using hs
 rw [this,Bool.eq_iff_iff]
 simp
theorem Gs (s:Str):s∈levels.flatten∨(Ag s = -1∧∀l∈levels,l.contains s=false):=by
 by_cases h:s∈levels.flatten
 ·exact .inl h
 have h2:∀l∈levels,l.contains s=false:=fun l hl=>by
  rw [Bool.eq_false_iff]
  intro h3
  exact h (List.mem_flatten.2 ⟨l,hl,by simpa using h3⟩)
 refine .inr ⟨?_,h2⟩
 unfold Ag
 rw [List.findIdx?_eq_none_iff.2 fun l hl=>h2 l hl]
/-- The texts of levels of marks. -/
def ofL (k:Nat):Str:=if k=0 then orT else if k=1 then c7 else if k=3 then W6 else if k=4 then cb else R2
theorem F9 {k:Nat} (hk:k=0∨k=1∨k=3∨k=4∨k=5) (s:Str):Dl s (ofL k)=(Ag s==(k:Int)):=by
 have e:ofL k=Ht (levels.getD k []):=by rcases hk with rfl|rfl|rfl|rfl|rfl<;>kernel_rfl
 have hp:∀w∈levels.getD k [],(32:UInt8)∉w:=by rcases hk with rfl|rfl|rfl|rfl|rfl<;>decide
 have hm:levels.getD k []∈levels:=by rcases hk with rfl|rfl|rfl|rfl|rfl<;>decide
 rw [Hc e hp s]
 rcases Gs s with h|⟨h1,h2⟩
 ·have h3:(levels.flatten.all fun s=>decide ((!(s==[])&&(levels.getD k []).contains s)=(Ag s==(k:Int))))=true:=by rcases hk with rfl|rfl|rfl|rfl|rfl<;>kernel_rfl
  exact of_decide_eq_true (List.all_eq_true.1 h3 s h)
 rw [h2 _ hm,h1,Bool.and_false]
 symm
 rw [beq_eq_false_iff_ne]
 omega
theorem Mt (s:Str) : -1≤Ag s∧Ag s≤5∧Ag s≠2:=by
 rcases Gs s with h|⟨h,_⟩
 ·have h3:(levels.flatten.all fun s=>decide (-1≤Ag s∧Ag s≤5∧Ag s≠2))=true:=by kernel_rfl
  exact of_decide_eq_true (List.all_eq_true.1 h3 s h)
 omega
/-- A row of words behind which no mark of a level, or of a tighter one, stands. -/
def stops (k:Nat) (rest:List TK):Prop:=∀h r,rest=h::r→((h.1==5) || (h.1==2))=true→Ag h.2<(k:Int)∧h.2≠[40]
theorem stops.mono {k k':Nat} {rest:List TK} (h:stops k rest) (hk:k≤k'):stops k' rest:=fun a r e hm=>⟨by have:=(h a r e hm).1;omega,(h a r e hm).2⟩
theorem Hl {l:List Tok} {S:PS} {k:Nat} {rest:List TK} (h:stops k rest) (hs:seg l S.i=rest) (hk:k=0∨k=1∨k=3∨k=4∨k=5):isM l (ofL k) S=false:=by
 cases rest with
 | nil=>exact W7 hs
 | cons a r =>
  obtain ⟨ka,ta⟩:=a
  rw [Dm hs,F9 hk]
  cases hb:((ka==5) || (ka==2)) with
  | false=>rfl
  | true =>
   have:=(h _ _ rfl hb).1
   rw [Bool.true_and,beq_eq_false_iff_ne]
   show Ag ta≠_
   have:Ag ta<(k:Int):=this
   omega
def Ri:Str:=[110,111,116]
def levE (e:Expr):Nat:=if e.op==4 then 2 else if e.op==3 then 6 else if e.op==5 then (Ag e.text).toNat else 7
theorem wc (e:Expr):levE e≤7:=by
 have:=Mt e.text
 unfold levE
 repeat' split
 all_goals omega
def Dn (least:Nat) (x:Expr) (T:List TK):List TK:=if least≤levE x then T else (5,[40])::(T++[(5,[41])])
def Dw (least:Nat) (x:Expr) (n:Nat):Nat:=if least≤levE x then n else n+1
def Cw (own:Nat):Nat:=if own=3 then 4 else own
def G7 (v:Val):TK:=if v.kind==1 then (3,Bs v) else if v.kind==2 then (4,v.s) else (2,Bs v)
def opTok (t:Str):TK:=(if Ge (t.headD 0) then 2 else 5,t)
def Fx:List (List TK)→List TK
 | []=>[]
 | T::r=>(5,[44])::(T++Fx r)
def Rj (o:Int) (t:Str) (v:Val) (k:List Expr) (ts:List (List TK)):List TK:=
 if o==1 then [G7 v] else if o==2 then [(1,t)]
 else if o==3 then (5,[45])::Dn 6 (k.getD 0 Ah) (ts.getD 0 [])
 else if o==4 then (2,Ri)::Dn 2 (k.getD 0 Ah) (ts.getD 0 [])
 else if o==5 then Dn (Cw (Ag t).toNat) (k.getD 0 Ah) (ts.getD 0 [])++opTok t::Dn ((Ag t).toNat+1) (k.getD 1 Ah) (ts.getD 1 [])
 else (1,t)::(5,[40])::((Fx ts).drop 1++[(5,[41])])
mutual
def Aa:Expr→List TK
 | .mk o t v k=>Rj o t v k (Eg k)
def Eg:List Expr→List (List TK)
  | []=>[]
  | e::r=>Aa e::Eg r
 end
def cn:List Nat→Nat
 | []=>0
 | n::r=>max n (cn r)
def P9 (o:Int) (t:Str) (k:List Expr) (ns:List Nat):Nat:=
 if o==1 then 0 else if o==2 then 0
 else if o==3 then 1+Dw 6 (k.getD 0 Ah) (ns.getD 0 0)
 else if o==4 then 1+Dw 2 (k.getD 0 Ah) (ns.getD 0 0)
 else if o==5 then max (Dw (Cw (Ag t).toNat) (k.getD 0 Ah) (ns.getD 0 0)) (Dw ((Ag t).toNat+1) (k.getD 1 Ah) (ns.getD 1 0))
 else 1+cn ns
mutual
def Av:Expr→Nat
 | .mk o t v k=>P9 o t k (Kh k)
def Kh:List Expr→List Nat
  | []=>[]
  | e::r=>Av e::Kh r
 end
theorem U8:∀l,Eg l=l.map Aa
 | []=>rfl
 | e::r=>by rw [Eg,U8 r];rfl
theorem fh:∀(l:List Expr),∀y∈l,Av y≤cn (Kh l)
 | [],y,h=>by cases h
 | e::r,y,h=>by
  rw [Kh,cn]
  rcases List.mem_cons.1 h with rfl|h
  ·omega
  have:=fh r y h;omega
theorem wd {v:Val} (h:Gq v=true):v=noV:=by
 unfold Gq at h
 simp only [Bool.and_eq_true,beq_iff_eq] at h
 cases v
 simp_all [noV]
/-- What a right node is. -/
inductive NodeC:Expr→Prop
 | val (v:Val) (h:C1 v=true) (h0:0≤v.n):NodeC (F7 v)
 | name (t:Str) (h:Dr t=true):NodeC (B7 t)
 | neg (a:Expr):NodeC (Bz 3 a)
 | no (a:Expr):NodeC (Bz 4 a)
 | bin (t:Str) (a b:Expr) (h:0≤Ag t):NodeC (Cd t a b)
 | call (t:Str) (k:List Expr) (h:B0 t=(k.length:Int)):NodeC (.mk 6 t noV k)
theorem Fa (o:Int) (t:Str) (v:Val) (k:List Expr):Mq (.mk o t v k) =
 if o==1 then ((C1 v&&decide (0≤v.n))&&(t==[]))&&((k.length:Int)==0)
 else if !(Gq v) then false
 else if o==2 then Dr t&&((k.length:Int)==0)
 else if o==3 || o==4 then (t==[])&&((k.length:Int)==1)
 else if o==5 then decide (0≤Ag t)&&((k.length:Int)==2)
 else if o==6 then B0 t==(k.length:Int)
 else false:=rfl
theorem G8 {e:Expr} (h:B3 e=true):NodeC e:=by
 rw [Gr] at h
 cases e with
 | mk o t v k =>
 rw [Fa] at h
 by_cases h1:(o==1)=true
 ·rw [if_pos h1] at h
  simp only [Bool.and_eq_true,beq_iff_eq,decide_eq_true_eq] at h h1
  obtain ⟨⟨⟨a1,a2⟩,a3⟩,a4⟩:=h
  subst h1
  subst a3
  have:k=[]:=by cases k with|nil=>rfl|cons x r=>simp at a4;omega
  subst this
  exact .val v a1 a2
 rw [if_neg h1] at h
 by_cases hb:(!(Gq v))=true
 ·rw [if_pos hb] at h;cases h
 rw [if_neg hb] at h
 have hv:v=noV:=wd (by simpa using hb)
 subst hv
 by_cases h2:(o==2)=true
 ·rw [if_pos h2] at h
  simp only [Bool.and_eq_true,beq_iff_eq] at h h2
  subst h2
  have:k=[]:=by cases k with|nil=>rfl|cons x r=>have:=h.2;simp at this;omega
  subst this
  exact .name t h.1
 rw [if_neg h2] at h
 by_cases h3:(o==3 || o==4)=true
 ·rw [if_pos h3] at h
  simp only [Bool.and_eq_true,Bool.or_eq_true,beq_iff_eq] at h h3
  obtain ⟨rfl,h4⟩:=h
  match k,h4 with
  | [a],_ =>
   rcases h3 with rfl|rfl
   ·exact .neg a
   exact .no a
  | [],h4=>simp at h4
  | _::_::_,h4=>simp at h4;omega
 rw [if_neg h3] at h
 by_cases h5:(o==5)=true
 ·rw [if_pos h5] at h
  simp only [Bool.and_eq_true,beq_iff_eq,decide_eq_true_eq] at h h5
  subst h5
  match k,h.2 with
  | [a,b],_=>exact .bin t a b h.1
  | [],h4=>simp at h4
  | [_],h4=>simp at h4
  | _::_::_::_,h4=>simp at h4;omega
 rw [if_neg h5] at h
 by_cases h6:(o==6)=true
 ·rw [if_pos h6] at h
  simp only [beq_iff_eq] at h h6
  subst h6
  exact .call t k h
 rw [if_neg h6] at h;cases h
/-- The functions of the levels. -/
def pf (l:List Tok) (D:Fam):Nat→PS→Expr×PS
 | 0=>L2 l D
 | 1=>R4 l D
 | 2=>I7 l D
 | 3=>Bw l D
 | 4=>Bo l D
 | 5=>R3 l D
 | 6=>I6 l D
 | _=>Ct l D
abbrev fam (l:List Tok) (n:Nat):Fam:=Bu l (30-n)
theorem Mu {l:List Tok} {n:Nat} (h:n<30):fam l n=⟨pf l (fam l (n+1)) 0,pf l (fam l (n+1)) 2,pf l (fam l (n+1)) 6⟩:=by
 unfold fam
 rw [show 30-n=(30-(n+1))+1 by omega]
 rfl
def adv (S:PS) (n:Nat):PS:=⟨S.i+n,S.nest,S.code,S.at_⟩
theorem F3 (S:PS) (a b:Nat):adv (adv S a) b=adv S (a+b):=by unfold adv;simp [Nat.add_assoc]
theorem Gt (S:PS):A3 S=adv S 1:=rfl
/-- A level is as the tighter one, where nothing of it stands. -/
theorem we {l:List Tok} {D:Fam} {k:Nat} (hk:k≤6) {S:PS} {x:Expr} {n:Nat} {rest:List TK} (h:pf l D (k+1) S=(x,adv S n)) (h0:S.code=0) (hs:seg l (S.i+n)=rest) (hst:stops k rest) (hnot:k=2→isM l ca S=false) (hneg:k=6→isM l cd S=false):pf l D k S=(x,adv S n):=by
 have hl:∀of:Str,isM l of (adv S n)=false→∀m,Fm l of (pf l D (k+1)) m (x,adv S n)=(x,adv S n):=fun of ho m=>by
  cases m with
  | zero=>rfl
  | succ m=>rw [Fm,if_neg (by rw [ho];simp)]
 have left:∀of:Str,isM l of (adv S n)=false→Cs l of (pf l D (k+1)) S=(x,adv S n):=fun of ho=>by
  unfold Cs
  rw [h]
  exact hl of ho _
 match k,hk with
 | 0,_=>exact left orT (Hl (k:=0) hst hs (by omega))
 | 1,_=>exact left c7 (Hl (k:=1) hst hs (by omega))
 | 2,_ =>
  show I7 l D S=_
  unfold I7
  rw [hnot rfl]
  exact h
 | 3,_ =>
  show Bw l D S=_
  have h':Bo l D S=(x,adv S n):=h
  unfold Bw
  rw [h',if_pos (by rw [show isM l W6 (adv S n)=false from Hl (k:=3) hst hs (by omega)];simp)]
 | 4,_=>exact left cb (Hl (k:=4) hst hs (by omega))
 | 5,_=>exact left R2 (Hl (k:=5) hst hs (by omega))
 | 6,_ =>
  show I6 l D S=_
  unfold I6
  rw [hneg rfl]
  exact h
theorem W8 {l:List Tok} {D:Fam} {S:PS} {x:Expr} {n:Nat} {rest:List TK} (h0:S.code=0) (hs:seg l (S.i+n)=rest):∀(m k j:Nat),k+m=j→j≤7→pf l D j S=(x,adv S n)→stops k rest→(3≤j→isM l ca S=false)→(7≤j→isM l cd S=false)→pf l D k S=(x,adv S n)
 | 0,k,j,e,_,h,_,_,_=>by rw [show k=j by omega];exact h
 | m+1,k,j,e,hj,h,hst,h1,h2=>we (by omega) (W8 h0 hs m (k+1) j (by omega) hj h (hst.mono (by omega)) h1 h2) h0 hs hst (fun _=>h1 (by omega)) (fun _=>h2 (by omega))
def T1 (l:List Tok) (x:Expr):Prop:=∀(k:Nat) (S:PS) (rest:List TK),k≤levE x→S.code=0→S.nest+Av x≤30→seg l S.i=Aa x++rest→stops k rest→pf l (fam l S.nest) k S=(x,adv S (Aa x).length)
def T2 (l:List Tok) (x:Expr):Prop:=∀(k:Nat) (S:PS) (rest:List TK),(k=0∨k=1∨k=4∨k=5)→k≤levE x→S.code=0→S.nest+Av x≤30→seg l S.i=Aa x++rest→stops (k+1) rest →
 ∃n,l.length≤S.i+(Aa x).length+n∧Cs l (ofL k) (pf l (fam l S.nest) (k+1)) S=Fm l (ofL k) (pf l (fam l S.nest) (k+1)) n (x,adv S (Aa x).length)
theorem Mv (s w:Str) (h1:(32:UInt8)∉w) (h2:w≠[]) {of:Str} (h:of=32::(w++[32])):Dl s of=(s==w):=by rw [h];exact qc h1 h2 s
theorem co (s:Str):Dl s ca=(s==Ri):=Mv s Ri (by decide) (by decide) rfl
theorem cp (s:Str):Dl s cd=(s==[45]):=Mv s [45] (by decide) (by decide) rfl
theorem qd (s:Str):Dl s opT=(s==[40]):=Mv s [40] (by decide) (by decide) rfl
theorem Yf (s:Str):Dl s Kd=(s==[44]):=Mv s [44] (by decide) (by decide) rfl
def litWords:List Str:=[[116,114,117,101],[102,97,108,115,101],[110,117,108,108]]
theorem cq (s:Str):Dl s Pm=(!(s==[])&&litWords.contains s):=Hc (show Pm=Ht litWords by kernel_rfl) (by decide) s
/-- In brackets. -/
theorem qe {l:List Tok} {y:Expr} (hy:T1 l y) {S:PS} {rest:List TK} (h0:S.code=0) (hn:S.nest+(Av y+1)≤30) (hs:seg l S.i=((5,[40])::(Aa y++[(5,[41])]))++rest):
  pf l (fam l S.nest) 7 S=(y,adv S ((5,[40])::(Aa y++[((5,[41]):TK)])).length):=by
 have hs':seg l S.i=(5,[40])::(Aa y++(5,[41])::rest):=by rw [hs];simp
 obtain ⟨k1,t1,r1,i1⟩:=Aq hs'
 have e1:isM l Pm S=false:=by rw [Dm hs',cq];decide
 have e2:isM l opT S=true:=by rw [Dm hs',qd];decide
 show Ct l (fam l S.nest) S=_
 unfold Ct
 rw [if_neg (by rw [h0];decide),k1,e1,if_neg (by decide),if_neg (by decide),if_neg (by decide),if_pos e2]
 have hw:Aj (A5 l S.i).at_ (fam l S.nest).ei (A3 S)=(y,adv (A3 S) (Aa y).length):=by
  unfold Aj
  rw [if_neg (by show ¬(((S.nest:Int)==30)=true);simp;omega),Mu (by omega)]
  have:=hy 0 (An (A3 S)) ((5,[41])::rest) (Nat.zero_le _) h0 (by show S.nest+1+Av y≤30;omega) r1 (fun h r e hm=>by
   injection e with e _
   subst e
   exact ⟨by decide,by decide⟩)
  show ((pf l (fam l (S.nest+1)) 0 (An (A3 S))).1,Lh (pf l (fam l (S.nest+1)) 0 (An (A3 S))).2)=_
  have this':pf l (fam l (S.nest+1)) 0 (An (A3 S))=(y,adv (An (A3 S)) (Aa y).length):=this
  rw [this']
  rfl
 rw [hw]
 have r2:=Cj r1
 have hc:Cm l D6 (adv (A3 S) (Aa y).length)=adv (A3 S) ((Aa y).length+1):=by
  obtain ⟨k2,t2,_,_⟩:=Aq r2
  unfold Cm
  rw [if_neg (by show ¬((S.code != 0)=true);rw [h0];decide)]
  have k2':(A5 l (adv (A3 S) (Aa y).length).i).kind=5:=k2
  have t2':(A5 l (adv (A3 S) (Aa y).length).i).text=[41]:=t2
  rw [k2',t2',if_neg (by decide)]
  rfl
 show (y,Cm l D6 (adv (A3 S) (Aa y).length))=_
 rw [hc,Gt,F3]
 congr 2
 simp
 omega
/-- A kid at a level. -/
theorem O7 {l:List Tok} {y:Expr} (hy:T1 l y) {k:Nat} (hk:k≤7) {S:PS} {rest:List TK} (h0:S.code=0) (hn:S.nest+Dw k y (Av y)≤30) (hs:seg l S.i=Dn k y (Aa y)++rest) (hst:stops k rest):
  pf l (fam l S.nest) k S=(y,adv S (Dn k y (Aa y)).length):=by
 unfold Dn at hs ⊢
 unfold Dw at hn
 by_cases hl:k≤levE y
 ·rw [if_pos hl] at hs hn ⊢
  exact hy k S rest hl h0 hn hs hst
 rw [if_neg hl] at hs hn ⊢
 have hs':seg l S.i=(5,[40])::(Aa y++(5,[41])::rest):=by rw [hs];simp
 exact W8 h0 (Cj hs) (7-k) k 7 (by omega) (Nat.le_refl _) (qe hy h0 (by omega) hs) hst (fun _=>by rw [Dm hs',co];decide) (fun _=>by rw [Dm hs',cp];decide)
theorem Rk (v:Val):Aa (F7 v)=[G7 v]:=by simp [F7,Aa,Rj]
theorem O8 (t:Str):Aa (B7 t)=[(1,t)]:=by simp [B7,Aa,Rj]
theorem Rl (a:Expr):Aa (Bz 3 a)=(5,[45])::Dn 6 a (Aa a):=by simp [Bz,Aa,Eg,Rj]
theorem W9 (a:Expr):Aa (Bz 4 a)=(2,Ri)::Dn 2 a (Aa a):=by simp [Bz,Aa,Eg,Rj]
theorem Mw (t:Str) (a b:Expr):Aa (Cd t a b)=Dn (Cw (Ag t).toNat) a (Aa a)++opTok t::Dn ((Ag t).toNat+1) b (Aa b):=by simp [Cd,Aa,Eg,Rj]
theorem O9 (t:Str) (k:List Expr):Aa (.mk 6 t noV k)=(1,t)::(5,[40])::((Fx (Eg k)).drop 1++[(5,[41])]):=by simp [Aa,Rj]
theorem Yg (v:Val):Av (F7 v)=0:=by simp [F7,Av,P9]
theorem ki (t:Str):Av (B7 t)=0:=by simp [B7,Av,P9]
theorem Yh (a:Expr):Av (Bz 3 a)=1+Dw 6 a (Av a):=by simp [Bz,Av,Kh,P9]
theorem fj (a:Expr):Av (Bz 4 a)=1+Dw 2 a (Av a):=by simp [Bz,Av,Kh,P9]
theorem Mx (t:Str) (a b:Expr):Av (Cd t a b)=max (Dw (Cw (Ag t).toNat) a (Av a)) (Dw ((Ag t).toNat+1) b (Av b)):=by simp [Cd,Av,Kh,P9]
theorem U9 (t:Str) (k:List Expr):Av (.mk 6 t noV k)=1+cn (Kh k):=by simp [Av,P9]
theorem Pt (v:Val):levE (F7 v)=7:=by simp [levE,F7,Expr.op]
theorem Rm (t:Str):levE (B7 t)=7:=by simp [levE,B7,Expr.op]
theorem Pu (a:Expr):levE (Bz 3 a)=6:=by simp [levE,Bz,Expr.op]
theorem Wa (a:Expr):levE (Bz 4 a)=2:=by simp [levE,Bz,Expr.op]
theorem My (t:Str) (a b:Expr):levE (Cd t a b)=(Ag t).toNat:=by simp [levE,Cd,Expr.op,Expr.text]
theorem Rn (t:Str) (k:List Expr):levE (.mk 6 t noV k)=7:=by simp [levE,Expr.op]
/-- What a right value is. -/
theorem Ie {v:Val} (h:C1 v=true):v=⟨0,0,[]⟩∨v=⟨1,v.n,[]⟩∨(v=⟨2,0,v.s⟩∧v.s.length≤200)∨v=⟨3,0,[]⟩∨v=⟨3,1,[]⟩:=by
 obtain ⟨k,n,s⟩:=v
 unfold C1 at h
 simp only at h
 split at h
 ·rename_i h1
  simp only [Bool.and_eq_true,beq_iff_eq] at h h1
  obtain ⟨rfl,rfl⟩:=h
  subst h1
  exact .inl rfl
 split at h
 ·rename_i h1
  simp only [beq_iff_eq] at h h1
  subst h h1
  exact .inr (.inl rfl)
 split at h
 ·rename_i h1
  simp only [Bool.and_eq_true,beq_iff_eq,decide_eq_true_eq] at h h1
  obtain ⟨rfl,h3⟩:=h
  subst h1
  exact .inr (.inr (.inl ⟨rfl,by show s.length≤200;omega⟩))
 simp only [Bool.and_eq_true,beq_iff_eq,decide_eq_true_eq] at h
 obtain ⟨⟨⟨rfl,rfl⟩,h3⟩,h4⟩:=h
 have:n=0∨n=1:=by omega
 rcases this with rfl|rfl
 ·exact .inr (.inr (.inr (.inl rfl)))
 exact .inr (.inr (.inr (.inr rfl)))
def cr (h:TK) (w:Str):Bool:=((h.1==5) || (h.1==2))&&(h.2==w)
theorem Yi:∀(n:Nat) (x:Expr),sizeE x≤n→Bx B3 x=true→∃h r,Aa x=h::r∧(3≤levE x→cr h Ri=false)∧(7≤levE x→cr h [45]=false)
 | 0,x,hn,_=>by rw [Fl] at hn;omega
 | n+1,x,hn,hx=>by
  rw [Dx,Bool.and_eq_true] at hx
  obtain ⟨h1,h2⟩:=hx
  cases G8 h1 with
  | val v hv h0 =>
   rw [Rk]
   refine ⟨_,_,rfl,fun _=>?_,fun _=>?_⟩<;>rcases Ie hv with e|e|⟨e,_⟩|e|e<;>rw [e]<;>first|rfl|kernel_rfl
  | name t ht=>rw [O8];exact ⟨_,_,rfl,fun _=>rfl,fun _=>rfl⟩
  | neg a=>rw [Rl,Pu];exact ⟨_,_,rfl,fun _=>by decide,fun h=>by omega⟩
  | no a=>rw [W9,Wa];exact ⟨_,_,rfl,fun h=>by omega,fun h=>by omega⟩
  | call t k hk=>rw [O9];exact ⟨_,_,rfl,fun _=>rfl,fun _=>rfl⟩
  | bin t a b ht =>
   rw [Mw,My]
   have hlv:=Mt t
   have ha:sizeE a≤n:=by
    rw [Fl] at hn
    have:Cr [a,b]≤n:=by have:(Cd t a b).kids=[a,b]:=rfl;rw [this] at hn;omega
    simp [Cr] at this
    omega
   have hxa:Bx B3 a=true:=(Df _ _).1 h2 a (by simp [Cd,Expr.kids])
   obtain ⟨h,r,e,g1,g2⟩:=Yi n a ha hxa
   unfold Dn
   split
   ·rename_i hl
    rw [e]
    refine ⟨h,_,rfl,fun h3=>g1 ?_,fun h7=>by omega⟩
    unfold Cw at hl
    split at hl<;>omega
   exact ⟨_,_,rfl,fun _=>by decide,fun h7=>by omega⟩
theorem wg {l:List Tok} {S:PS} {x:Expr} {rest:List TK} (hx:Bx B3 x=true) (hs:seg l S.i=Aa x++rest):(3≤levE x→isM l ca S=false)∧(7≤levE x→isM l cd S=false):=by
 obtain ⟨⟨k,t⟩,r,e,g1,g2⟩:=Yi _ x (Nat.le_refl _) hx
 rw [e] at hs
 refine ⟨fun h=>?_,fun h=>?_⟩
 ·rw [Dm (r:=r++rest) hs,co];exact g1 h
 rw [Dm (r:=r++rest) hs,cp];exact g2 h
/-- From a tree's own level to all. -/
theorem kj {l:List Tok} {x:Expr} (hx:Bx B3 x=true) (hA:∀(S:PS) (rest:List TK),S.code=0→S.nest+Av x≤30→seg l S.i=Aa x++rest→stops (levE x) rest→pf l (fam l S.nest) (levE x) S=(x,adv S (Aa x).length))
  (hB:∀(S:PS) (rest:List TK),(levE x=0∨levE x=1∨levE x=4∨levE x=5)→S.code=0→S.nest+Av x≤30→seg l S.i=Aa x++rest→stops (levE x+1) rest →
   ∃n,l.length≤S.i+(Aa x).length+n∧Cs l (ofL (levE x)) (pf l (fam l S.nest) (levE x+1)) S=Fm l (ofL (levE x)) (pf l (fam l S.nest) (levE x+1)) n (x,adv S (Aa x).length)):T1 l x∧T2 l x:=by
 have h1:T1 l x:=fun k S rest hk h0 hn hs hst=>by
  obtain ⟨g1,g2⟩:=wg hx hs
  exact W8 h0 (Cj hs) (levE x-k) k (levE x) (by omega) (wc x) (hA S rest h0 hn hs (hst.mono hk)) hst g1 g2
 refine ⟨h1,fun k S rest hk hkl h0 hn hs hst=>?_⟩
 rcases Nat.lt_or_ge k (levE x) with h|h
 ·refine ⟨l.length,by omega,?_⟩
  unfold Cs
  rw [h1 (k+1) S rest h h0 hn hs hst]
 obtain rfl:k=levE x:=by omega
 exact hB S rest hk h0 hn hs hst
theorem Mz {k:Nat} (hk:k=0∨k=1∨k=4∨k=5):k=0∨k=1∨k=3∨k=4∨k=5:=by omega
theorem wh {l:List Tok} {D:Fam} {k:Nat} (hk:k=0∨k=1∨k=4∨k=5):pf l D k=Cs l (ofL k) (pf l D (k+1)):=by rcases hk with rfl|rfl|rfl|rfl<;>rfl
theorem Ro {t:Str} {k:Nat} {r:List TK} (h0:0≤Ag t) (hk:Ag t<(k:Int)):stops k (opTok t::r):=fun h r' e _=>by
 injection e with e _
 subst e
 exact ⟨hk,fun e=>by have:t=[40]:=e;subst this;revert h0;decide⟩
theorem yg {l:List Tok} {S:PS} {t:Str} {r:List TK} {of:Str} (hs:seg l S.i=opTok t::r):isM l of S=Dl t of:=by
 have:=Dm (of:=of) (k:=if Ge (t.headD 0) then 2 else 5) (t:=t) hs
 rw [this]
 split<;>simp
theorem Ua {e:Expr} {n:Nat} (h:sizeE e≤n+1) {y:Expr} (hy:y∈e.kids):sizeE y≤n:=by
 rw [Fl] at h
 obtain ⟨i,hi,rfl⟩:=List.getElem_of_mem hy
 have:=Ny e.kids hi
 omega
theorem ACm {l:List Tok} {t:Str} {a b:Expr} (ht:0≤Ag t) (hx:Bx B3 (Cd t a b)=true) (ha:T1 l a∧T2 l a) (hb:T1 l b):T1 l (Cd t a b)∧T2 l (Cd t a b):=by
 have hlv:=Mt t
 obtain ⟨own,hown⟩:∃own,own=(Ag t).toNat:=⟨_,rfl⟩
 have hoi:Ag t=(own:Int):=by omega
 have hB:∀(S:PS) (rest:List TK),(own=0∨own=1∨own=4∨own=5)→S.code=0→S.nest+Av (Cd t a b)≤30→seg l S.i=Aa (Cd t a b)++rest→stops (own+1) rest →
   ∃n,l.length≤S.i+(Aa (Cd t a b)).length+n∧Cs l (ofL own) (pf l (fam l S.nest) (own+1)) S=Fm l (ofL own) (pf l (fam l S.nest) (own+1)) n (Cd t a b,adv S (Aa (Cd t a b)).length):=by
  intro S rest hl h0 hn hs hst
  rw [Mw,←hown,show Cw own=own by unfold Cw;split<;>omega] at hs ⊢
  rw [Mx,←hown,show Cw own=own by unfold Cw;split<;>omega] at hn
  have hs':seg l S.i=Dn own a (Aa a)++(opTok t::(Dn (own+1) b (Aa b)++rest)):=by rw [hs];simp
  have hna:S.nest+Dw own a (Av a)≤30:=by omega
  have hRA:∃n,l.length≤S.i+(Dn own a (Aa a)).length+n∧Cs l (ofL own) (pf l (fam l S.nest) (own+1)) S=Fm l (ofL own) (pf l (fam l S.nest) (own+1)) n (a,adv S (Dn own a (Aa a)).length):=by
   by_cases hla:own≤levE a
   ·have e1:Dn own a (Aa a)=Aa a:=if_pos hla
    have e2:Dw own a (Av a)=Av a:=if_pos hla
    rw [e1] at hs' ⊢
    rw [e2] at hna
    exact ha.2 own S _ hl hla h0 hna hs' (Ro ht (by omega))
   have e1:Dn own a (Aa a)=Dn (own+1) a (Aa a):=by unfold Dn;rw [if_neg hla,if_neg (by omega)]
   have e2:Dw own a (Av a)=Dw (own+1) a (Av a):=by unfold Dw;rw [if_neg hla,if_neg (by omega)]
   rw [e1] at hs' ⊢
   rw [e2] at hna
   refine ⟨l.length,by omega,?_⟩
   unfold Cs
   rw [O7 ha.1 (by omega) h0 hna hs' (Ro ht (by omega))]
  obtain ⟨n,hn1,hn2⟩:=hRA
  have s1:=Cj hs'
  have s1':seg l (adv S (Dn own a (Aa a)).length).i=opTok t::(Dn (own+1) b (Aa b)++rest):=s1
  obtain ⟨_,tx,s2,i1⟩:=Aq s1'
  obtain ⟨m,rfl⟩:∃m,n=m+1:=⟨n-1,by have:S.i+(Dn own a (Aa a)).length<l.length:=i1;omega⟩
  refine ⟨m,by simp only [List.length_append,List.length_cons];omega,?_⟩
  rw [hn2,Fm,if_pos (by
   show (((adv S (Dn own a (Aa a)).length).code==0)&&isM l (ofL own) (adv S (Dn own a (Aa a)).length))=true
   rw [yg s1',F9 (Mz hl),hoi]
   show ((S.code==0)&&_)=true
   rw [h0]
   simp)]
  have hk:=O7 (l:=l) (S:=adv S ((Dn own a (Aa a)).length+1)) hb (k:=own+1) (by omega) h0 (show S.nest+Dw (own+1) b (Av b)≤30 by omega) s2 hst
  have e3:A3 (adv S (Dn own a (Aa a)).length)=adv S ((Dn own a (Aa a)).length+1):=by rw [Gt,F3]
  show Fm l (ofL own) _ m (Cd (A5 l (adv S (Dn own a (Aa a)).length).i).text a (pf l (fam l S.nest) (own+1) (A3 (adv S (Dn own a (Aa a)).length))).1,(pf l (fam l S.nest) (own+1) (A3 (adv S (Dn own a (Aa a)).length))).2)=_
  rw [e3,tx,show pf l (fam l S.nest) (own+1) (adv S ((Dn own a (Aa a)).length+1))=_ from hk,F3]
  exact congrArg (fun n=>Fm l (ofL own) (pf l (fam l S.nest) (own+1)) m (Cd t a b,adv S n)) (by simp only [List.length_append,List.length_cons];omega)
 refine kj hx ?_ ?_
 ·rw [My,←hown]
  intro S rest h0 hn hs hst
  by_cases h3:own=3
  ·subst h3
   rw [Mw,←hown] at hs ⊢
   rw [Mx,←hown] at hn
   have e4:Cw 3=4:=rfl
   rw [e4] at hs hn ⊢
   have hn4:S.nest+max (Dw 4 a (Av a)) (Dw 4 b (Av b))≤30:=hn
   have hs':seg l S.i=Dn 4 a (Aa a)++(opTok t::(Dn 4 b (Aa b)++rest)):=by rw [hs];simp
   have h1:Bo l (fam l S.nest) S=(a,adv S (Dn 4 a (Aa a)).length):=O7 (k:=4) ha.1 (by omega) h0 (by omega) hs' (Ro ht (by omega))
   have s1:seg l (adv S (Dn 4 a (Aa a)).length).i=opTok t::(Dn 4 b (Aa b)++rest):=Cj hs'
   obtain ⟨_,tx,s2,i1⟩:=Aq s1
   have h2:isM l W6 (adv S (Dn 4 a (Aa a)).length)=true:=by
    rw [yg s1,show W6=ofL 3 from rfl,F9 (by omega),hoi]
    rfl
   have h4:Bo l (fam l S.nest) (adv S ((Dn 4 a (Aa a)).length+1))=_:=O7 (l:=l) (S:=adv S ((Dn 4 a (Aa a)).length+1)) hb (k:=4) (by omega) h0 (show S.nest+Dw 4 b (Av b)≤30 by omega) s2 (hst.mono (by omega))
   show Bw l (fam l S.nest) S=_
   unfold Bw
   rw [h1,if_neg (by rw [h2];show ¬(((S.code != 0) || _)=true);rw [h0];decide),Gt,F3,h4,tx,F3]
   refine Prod.ext rfl ?_
   show adv S _=adv S (Dn 4 a (Aa a)++opTok t::Dn 4 b (Aa b)).length
   congr 1
   simp only [List.length_append,List.length_cons]
   omega
  have hl:own=0∨own=1∨own=4∨own=5:=by omega
  obtain ⟨n,_,h⟩:=hB S rest hl h0 hn hs (hst.mono (by omega))
  rw [wh hl,h]
  have hf:isM l (ofL own) (adv S (Aa (Cd t a b)).length)=false:=Hl hst (Cj hs) (Mz hl)
  cases n with
  | zero=>rfl
  | succ n=>rw [Fm,if_neg (by rw [hf];simp)]
 rw [My,←hown]
 exact hB
theorem ACn {l:List Tok} {a:Expr} (hx:Bx B3 (Bz 3 a)=true) (ha:T1 l a):T1 l (Bz 3 a)∧T2 l (Bz 3 a):=by
 refine kj hx ?_ (fun S rest h=>by rw [Pu] at h;omega)
 rw [Pu,Rl,Yh]
 intro S rest h0 hn hs hst
 obtain ⟨_,_,s1,_⟩:=Aq hs
 show I6 l (fam l S.nest) S=_
 unfold I6
 rw [if_neg (by rw [Dm hs,cp];decide)]
 have hk:=O7 (l:=l) (S:=An (A3 S)) ha (k:=6) (by omega) h0 (show S.nest+1+Dw 6 a (Av a)≤30 by omega) s1 hst
 have hw:Aj (A5 l S.i).at_ (fam l S.nest).ne (A3 S)=(a,adv (A3 S) (Dn 6 a (Aa a)).length):=by
  unfold Aj
  rw [if_neg (by show ¬(((S.nest:Int)==30)=true);simp;omega),Mu (by omega)]
  show ((pf l (fam l (S.nest+1)) 6 (An (A3 S))).1,Lh (pf l (fam l (S.nest+1)) 6 (An (A3 S))).2)=_
  rw [show pf l (fam l (S.nest+1)) 6 (An (A3 S))=_ from hk]
  rfl
 rw [hw,Gt,F3]
 exact congrArg (fun n=>(Bz 3 a,adv S n)) (by simp only [List.length_cons];omega)
theorem AEl {l:List Tok} {a:Expr} (hx:Bx B3 (Bz 4 a)=true) (ha:T1 l a):T1 l (Bz 4 a)∧T2 l (Bz 4 a):=by
 refine kj hx ?_ (fun S rest h=>by rw [Wa] at h;omega)
 rw [Wa,W9,fj]
 intro S rest h0 hn hs hst
 obtain ⟨_,_,s1,_⟩:=Aq hs
 show I7 l (fam l S.nest) S=_
 unfold I7
 rw [if_neg (by rw [Dm hs,co];decide)]
 have hk:=O7 (l:=l) (S:=An (A3 S)) ha (k:=2) (by omega) h0 (show S.nest+1+Dw 2 a (Av a)≤30 by omega) s1 hst
 have hw:Aj (A5 l S.i).at_ (fam l S.nest).no (A3 S)=(a,adv (A3 S) (Dn 2 a (Aa a)).length):=by
  unfold Aj
  rw [if_neg (by show ¬(((S.nest:Int)==30)=true);simp;omega),Mu (by omega)]
  show ((pf l (fam l (S.nest+1)) 2 (An (A3 S))).1,Lh (pf l (fam l (S.nest+1)) 2 (An (A3 S))).2)=_
  rw [show pf l (fam l (S.nest+1)) 2 (An (A3 S))=_ from hk]
  rfl
 rw [hw,Gt,F3]
 exact congrArg (fun n=>(Bz 4 a,adv S n)) (by simp only [List.length_cons];omega)
theorem AA3 {l:List Tok} {t:Str} (hx:Bx B3 (B7 t)=true):T1 l (B7 t)∧T2 l (B7 t):=by
 refine kj hx ?_ (fun S rest h=>by rw [Rm] at h;omega)
 rw [Rm,O8]
 intro S rest h0 hn hs hst
 obtain ⟨k1,t1,s1,_⟩:=Aq (show seg l S.i=(1,t)::rest from hs)
 show Ct l (fam l S.nest) S=_
 have e1:isM l Pm S=false:=by rw [Dm (show seg l S.i=(1,t)::rest from hs)];rfl
 have e2:isM l opT (A3 S)=false:=by
  cases rest with
  | nil=>exact W7 s1
  | cons h r =>
   obtain ⟨k2,t2⟩:=h
   rw [Dm (show seg l (A3 S).i=(k2,t2)::r from s1),qd]
   cases hb:((k2==5) || (k2==2)) with
   | false=>rfl
   | true =>
    have:t2≠[40]:=(hst _ _ rfl hb).2
    rw [Bool.true_and,beq_eq_false_iff_ne]
    exact this
 unfold Ct
 rw [if_neg (by rw [h0];decide),k1,e1,if_neg (by decide),if_neg (by decide),if_pos (by decide),e2,if_neg (by decide),t1]
 rfl
/-- Kids behind commas. -/
theorem qf {l:List Tok} {nst:Nat} {rest:List TK} (hst:stops 0 rest) (hc:∀h r,rest=h::r→cr h [44]=false):∀(ks:List Expr),(∀y∈ks,T1 l y)→∀(acc:List Expr) (S:PS) (n:Nat),S.nest=nst→S.code=0→(∀y∈ks,nst+Av y≤30)→seg l S.i=Fx (Eg ks)++rest→l.length≤S.i+n →
  argsF l (pf l (fam l nst) 0) n (acc,S)=(acc++ks,adv S (Fx (Eg ks)).length)
 | [],_,acc,S,n,hN,h0,_,hs,_=>by
  have hf:isM l Kd S=false:=by
   have hs':seg l S.i=rest:=hs
   cases rest with
   | nil=>exact W7 hs'
   | cons h r=>obtain ⟨k2,t2⟩:=h;rw [Dm hs',Yf];exact hc _ _ rfl
  cases n with
  | zero=>rw [argsF,List.append_nil];rfl
  | succ n=>rw [argsF,if_neg (by rw [hf];simp),List.append_nil];rfl
 | y::ks,hT,acc,S,n,hN,h0,hnd,hs,hn=>by
  have hs':seg l S.i=(5,[44])::(Aa y++(Fx (Eg ks)++rest)):=by rw [hs];simp [Eg,Fx]
  obtain ⟨_,_,s1,i1⟩:=Aq hs'
  obtain ⟨m,rfl⟩:∃m,n=m+1:=⟨n-1,by omega⟩
  have hy:=hT y (by simp) 0 (A3 S) (Fx (Eg ks)++rest) (Nat.zero_le _) h0 (by have:=hnd y (by simp);show S.nest+_≤30;omega) s1 (by
   cases ks with
   | nil=>exact hst
   | cons z ks =>
    intro h r e _
    injection e with e _
    subst e
    exact ⟨by decide,by decide⟩)
  have hy':pf l (fam l nst) 0 (A3 S)=(y,adv (A3 S) (Aa y).length):=by rw [←hN];exact hy
  rw [argsF,if_pos (by
   show ((S.code==0)&&isM l Kd S)=true
   rw [h0,Dm hs',Yf]
   decide)]
  show argsF l (pf l (fam l nst) 0) m (acc++[(pf l (fam l nst) 0 (A3 S)).1],(pf l (fam l nst) 0 (A3 S)).2)=_
  rw [hy']
  show argsF l (pf l (fam l nst) 0) m (acc++[y],adv (A3 S) (Aa y).length)=_
  rw [qf hst hc ks (fun z hz=>hT z (by simp [hz])) (acc++[y]) (adv (A3 S) (Aa y).length) m hN h0 (fun z hz=>hnd z (by simp [hz])) (Cj s1) (by show l.length≤S.i+1+(Aa y).length+m;omega)]
  rw [Gt,F3,F3,show acc++[y]++ks=acc++y::ks by simp]
  exact congrArg (fun n=>(acc++y::ks,adv S n)) (by simp only [Eg,Fx,List.length_cons,List.length_append];omega)
theorem qg (T:List TK) (r:List (List TK)):(Fx (T::r)).drop 1=T++Fx r:=rfl
theorem AA4 {l:List Tok} {t:Str} {k:List Expr} (hx:Bx B3 (.mk 6 t noV k)=true) (ha:B0 t=(k.length:Int)) (h1:1≤k.length) (hT:∀y∈k,T1 l y):T1 l (.mk 6 t noV k)∧T2 l (.mk 6 t noV k):=by
 refine kj hx ?_ (fun S rest h=>by rw [Rn] at h;omega)
 rw [Rn,O9,U9]
 intro S rest h0 hn hs hst
 match k,h1,ha,hT,hn,hs with
 | y::ks,_,ha,hT,hn,hs =>
 rw [Eg,qg] at hs ⊢
 have hs':seg l S.i=(1,t)::((5,[40])::(Aa y++(Fx (Eg ks)++((5,[41])::rest)))):=by rw [hs];simp
 obtain ⟨k1,t1,s1,i1⟩:=Aq hs'
 have s1':seg l (A3 S).i=(5,[40])::(Aa y++(Fx (Eg ks)++((5,[41])::rest))):=s1
 obtain ⟨k2,t2,s2,i2⟩:=Aq s1'
 have hmax:=fh (y::ks)
 have hz:stops 0 (((5,[41]):TK)::rest):=fun h r e _=>by
  injection e with e _
  subst e
  exact ⟨by decide,by decide⟩
 have hy:=hT y (by simp) 0 (An (A3 (A3 S))) (Fx (Eg ks)++((5,[41])::rest)) (Nat.zero_le _) h0 (by have:=hmax y (by simp);show S.nest+1+_≤30;omega) s2 (by
  cases ks with
  | nil=>exact hz
  | cons z ks =>
   intro h r e _
   injection e with e _
   subst e
   exact ⟨by decide,by decide⟩)
 have hy':pf l (fam l (S.nest+1)) 0 (An (A3 (A3 S)))=(y,adv (An (A3 (A3 S))) (Aa y).length):=hy
 have hargs:=qf (l:=l) (nst:=S.nest+1) hz (fun h r e=>by
  injection e with e _
  subst e
  decide) ks (fun z hz=>hT z (by simp [hz])) [y] (adv (An (A3 (A3 S))) (Aa y).length) l.length rfl h0 (fun z hz=>by have:=hmax z (by simp [hz]);omega) (Cj s2) (by omega)
 have hk:Bf l (fam l S.nest) (A3 S)=(y::ks,adv (A3 (A3 S)) ((Aa y).length+(Fx (Eg ks)).length)):=by
  unfold Bf Hw
  rw [if_neg (by show ¬(((S.nest:Int)==30)=true);simp;omega),Mu (by omega)]
  unfold Ey
  show ((argsF l (pf l (fam l (S.nest+1)) 0) l.length ([(pf l (fam l (S.nest+1)) 0 (An (A3 (A3 S)))).1],(pf l (fam l (S.nest+1)) 0 (An (A3 (A3 S)))).2)).1,Lh (argsF l (pf l (fam l (S.nest+1)) 0) l.length ([(pf l (fam l (S.nest+1)) 0 (An (A3 (A3 S)))).1],(pf l (fam l (S.nest+1)) 0 (An (A3 (A3 S)))).2)).2)=_
  rw [hy',hargs,F3]
  rfl
 have s3:=Cj (Cj s2)
 have hw:Cm l D6 (Bf l (fam l S.nest) (A3 S)).2=adv (A3 (A3 S)) ((Aa y).length+(Fx (Eg ks)).length+1):=by
  rw [hk]
  have s3':seg l (adv (A3 (A3 S)) ((Aa y).length+(Fx (Eg ks)).length)).i=(5,[41])::rest:=by
   show seg l ((A3 S).i+1+((Aa y).length+(Fx (Eg ks)).length))=_
   rw [←Nat.add_assoc]
   exact s3
  obtain ⟨k3,t3,_,_⟩:=Aq s3'
  show Cm l D6 (adv (A3 (A3 S)) ((Aa y).length+(Fx (Eg ks)).length))=_
  unfold Cm
  rw [if_neg (by show ¬((S.code != 0)=true);rw [h0];decide),k3,t3,if_neg (by decide)]
  rfl
 have e1:isM l Pm S=false:=by rw [Dm hs'];rfl
 have e2:isM l opT (A3 S)=true:=by rw [Dm s1',qd];decide
 show Ct l (fam l S.nest) S=_
 unfold Ct
 rw [if_neg (by rw [h0];decide),k1,e1,if_neg (by decide),if_neg (by decide),if_pos (by decide),if_pos e2]
 unfold Ez
 rw [t1,if_neg (by rw [ha];omega),if_neg (by rw [hk,ha];simp),hw,hk]
 refine Prod.ext rfl ?_
 show adv (A3 (A3 S)) ((Aa y).length+(Fx (Eg ks)).length+1)=adv S _
 rw [Gt,Gt,F3,F3]
 congr 1
 simp only [List.length_cons,List.length_append,List.length_nil]
 omega
theorem fk:∀d,d<10→digs.contains (UInt8.ofNat (48+d))=true:=by decide
theorem wi:∀d,d<10→(UInt8.ofNat (48+d)).toNat=48+d:=by decide
theorem AA5:∀d,d<10→1≤d→UInt8.ofNat (48+d)≠48:=by decide
theorem Rp {u:Nat} (h:¬u<10):Lib.decDigits u=Lib.decDigits (u / 10)++[UInt8.ofNat (48+u % 10)]:=by rw [Lib.decDigits,dif_neg h]
theorem N0:∀(u:Nat),∀c∈Lib.decDigits u,digs.contains c=true:=by
 intro u
 induction u using Nat.strongRecOn with
 | _ u ih =>
  intro c hc
  by_cases h:u<10
  ·rw [Lib.decDigits_one h,List.mem_singleton] at hc
   subst hc
   exact fk u h
  rw [Rp h] at hc
  rcases List.mem_append.1 hc with hc|hc
  ·exact ih (u / 10) (by omega) c hc
  rw [List.mem_singleton.1 hc]
  exact fk _ (Nat.mod_lt _ (by decide))
theorem N1:∀(u:Nat),∃c r,Lib.decDigits u=c::r∧(1≤u→c≠48):=by
 intro u
 induction u using Nat.strongRecOn with
 | _ u ih =>
  by_cases h:u<10
  ·exact ⟨_,_,Lib.decDigits_one h,fun h1=>AA5 u h h1⟩
  obtain ⟨c,r,e,h1⟩:=ih (u / 10) (by omega)
  exact ⟨c,r++[UInt8.ofNat (48+u % 10)],by rw [Rp h,e];rfl,fun _=>h1 (by omega)⟩
theorem Lj (M:Nat):∀(a:Str) (acc v:Nat) (b:Str),Lib.parseUintM M acc a=.ok v→Lib.parseUintM M acc (a++b)=Lib.parseUintM M v b
 | [],acc,v,b,h=>by
  rw [Lib.parseUintM] at h
  injection h with h
  subst h
  rfl
 | c::r,acc,v,b,h=>by
  rw [List.cons_append,Lib.parseUintM]
  rw [Lib.parseUintM] at h
  split at h
  ·rename_i h1
   rw [if_pos h1]
   split at h
   ·cases h
   rename_i h2
   rw [if_neg h2]
   split at h
   ·cases h
   rename_i h3
   rw [if_neg h3]
   exact Lj M r _ v b h
  cases h
theorem ct {M:Nat} (hM:M≤18446744073709551615):∀(u:Nat),u≤M→Lib.parseUintM M 0 (Lib.decDigits u)=.ok u:=by
 intro u
 induction u using Nat.strongRecOn with
 | _ u ih =>
  intro hu
  have one:∀acc d,d<10→acc≤1844674407370955161→acc*10+d≤M→Lib.parseUintM M acc [UInt8.ofNat (48+d)]=.ok (acc*10+d):=fun acc d hd ha hm=>by
   have e:=wi d hd
   rw [Lib.parseUintM,e,if_pos (by omega),if_neg (by omega),if_neg (by omega),Lib.parseUintM]
   congr 1
   omega
  by_cases h:u<10
  ·rw [Lib.decDigits_one h,one 0 u h (by omega) (by omega)]
   congr 1
   omega
  rw [Rp h,Lj M _ 0 (u / 10) _ (ih (u / 10) (by omega) (by omega)),one (u / 10) (u % 10) (Nat.mod_lt _ (by decide)) (by omega) (by omega)]
  congr 1
  omega
theorem Rq:∀c:UInt8,digs.contains c=true→c≠45∧c≠43∧c≠39∧c≠110∧c≠116∧c≠102:=by
 have h:((List.range 256).all fun n => !digs.contains (UInt8.ofNat n) || decide (UInt8.ofNat n≠45∧UInt8.ofNat n≠43∧UInt8.ofNat n≠39∧UInt8.ofNat n≠110∧UInt8.ofNat n≠116∧UInt8.ofNat n≠102))=true:=by kernel_rfl
 intro c hc
 have:=List.all_eq_true.1 h c.toNat (List.mem_range.2 c.toNat_lt)
 rw [show UInt8.ofNat c.toNat=c by simp,hc] at this
 simpa using this
theorem wj (u:Nat) (h1:u≤9223372036854775807):Ch (Lib.decDigits u)=((u:Int),0):=by
 obtain ⟨c,r,e,h0⟩:=N1 u
 have hc:digs.contains c=true:=N0 u c (by rw [e];simp)
 obtain ⟨n45,n43,_⟩:=Rq c hc
 have hds:Lf (Lib.decDigits u)=Lib.decDigits u:=by
  unfold Lf Lib.trimPrefix
  rw [if_neg]
  rw [e]
  unfold Lib.hasPrefix
  simp [Ne.symm n45]
 have hb:F6 (Lib.decDigits u)=false:=by
  unfold F6
  rw [hds]
  have a1:(Lib.decDigits u==[])=false:=by rw [e];rfl
  have a2:Lib.trimS (Lib.decDigits u) digs=[]:=by
   unfold Lib.trimS Lib.trimRightS
   have:(Lib.decDigits u).reverse.dropWhile (fun x=>digs.contains x)=[]:=by
    rw [ay]
    intro b hb
    exact N0 u b (by simpa using hb)
   rw [this]
   rfl
  have a3:(((Lib.decDigits u).headD 0==48)&&decide (1<(Lib.decDigits u).length))=false:=by
   by_cases hu:u<10
   ·rw [Lib.decDigits_one hu];simp
   rw [e]
   have:(c==48)=false:=by simpa using h0 (by omega)
   simp [this]
  rw [a1,a2,a3]
  rfl
 have hp:Lib.parseIntB 64 (Lib.decDigits u)=.ok (u:Int):=by
  have hu:Lib.parseUintB 64 (Lib.decDigits u)=.ok u:=by
   unfold Lib.parseUintB
   rw [if_neg (by rw [e];simp)]
   exact ct (by decide) u (by
    have:(2:Nat) ^ 64-1=18446744073709551615:=by decide
    omega)
  have n45':c.toNat≠45:=fun h=>n45 (UInt8.toNat_inj.1 (by rw [h];rfl))
  have n43':c.toNat≠43:=fun h=>n43 (UInt8.toNat_inj.1 (by rw [h];rfl))
  have e63:(2:Nat) ^ (64-1)=9223372036854775808:=by decide
  rw [e] at hu ⊢
  simp only [Lib.parseIntB,n43',n45',or_self,if_false,hu,e63]
  simp
  omega
 unfold Ch
 rw [hb,hp]
 rfl
theorem Yj {n:Int} (h0:0≤n) (h1:n≤9223372036854775807):Cp (Lib.itoa n)=(⟨1,n,[]⟩,0):=by
 obtain ⟨u,rfl⟩:∃u:Nat,n=(u:Int):=⟨n.toNat,by omega⟩
 have e0:Lib.itoa (u:Int)=Lib.decDigits u:=by unfold Lib.itoa;rw [if_neg (by omega)];simp
 rw [e0]
 obtain ⟨c,r,e,_⟩:=N1 u
 have hc:digs.contains c=true:=N0 u c (by rw [e];simp)
 obtain ⟨_,_,n39,n110,n116,n102⟩:=Rq c hc
 unfold Cp
 have b1:(Lib.decDigits u==[110,117,108,108])=false:=by rw [e];simp [n110]
 have b2:(Lib.decDigits u==[116,114,117,101])=false:=by rw [e];simp [n116]
 have b3:(Lib.decDigits u==[102,97,108,115,101])=false:=by rw [e];simp [n102]
 have b4:Jp (Lib.decDigits u)=false:=by
  unfold Jp Lib.hasPrefix
  rw [e]
  simp [Ne.symm n39]
 rw [b1,b2,b3,b4,wj u (by omega)]
 rfl
/-- What is printed is read: of values. -/
theorem Rr {v:Val} (h:C1 v=true) (h2:(v.kind==2)=false) (h0:0≤v.n) (h1:v.n≤9223372036854775807):Cp (Bs v)=(v,0):=by
 obtain ⟨k,n,s⟩:=v
 unfold Bs
 rw [h]
 unfold C1 at h
 simp only at h h2 h0 h1 ⊢
 by_cases e0:k=0
 ·subst e0
  simp at h
  obtain ⟨rfl,rfl⟩:=h
  kernel_rfl
 by_cases e1:k=1
 ·subst e1
  simp at h
  subst h
  simpa using Yj h0 h1
 have e2:k≠2:=by simpa using h2
 simp [e0,e1,e2] at h
 obtain ⟨⟨⟨rfl,rfl⟩,_⟩,h4⟩:=h
 have:n=0∨n=1:=by omega
 rcases this with rfl|rfl
 ·rfl
 rfl
theorem ACo {l:List Tok} {v:Val} (hx:Bx B3 (F7 v)=true) (hp:C1 v=true) (hv0:0≤v.n) (hv1:v.n≤9223372036854775807):T1 l (F7 v)∧T2 l (F7 v):=by
 refine kj hx ?_ (fun S rest h=>by rw [Pt] at h;omega)
 rw [Pt,Rk]
 intro S rest h0 hn hs hst
 show Ct l (fam l S.nest) S=_
 unfold Ct
 rw [if_neg (by rw [h0];decide)]
 cases hk1:v.kind==1 with
 | true =>
  have e:G7 v=(3,Bs v):=by unfold G7;rw [hk1];rfl
  rw [e] at hs
  obtain ⟨k1,t1,_,_⟩:=Aq (show seg l S.i=(3,Bs v)::rest from hs)
  have hk2:(v.kind==2)=false:=by
   have:v.kind=1:=by simpa using hk1
   rw [this];rfl
  rw [k1,if_pos (by simp),t1,Rr hp hk2 hv0 hv1]
  rfl
 | false =>
  cases hk2:v.kind==2 with
  | true =>
   have e:G7 v=(4,v.s):=by unfold G7;rw [hk1,hk2];rfl
   rw [e] at hs
   have hs':seg l S.i=(4,v.s)::rest:=hs
   obtain ⟨k1,t1,_,_⟩:=Aq hs'
   have e1:isM l Pm S=false:=by rw [Dm hs'];rfl
   rw [k1,e1,if_neg (by decide),if_pos (by decide),t1]
   have hv:v=⟨2,0,v.s⟩∧v.s.length≤200:=by
    rcases Ie hp with e|e|e|e|e
    ·rw [e] at hk2;cases hk2
    ·rw [e] at hk2;cases hk2
    ·exact e
    ·rw [e] at hk2;cases hk2
    rw [e] at hk2;cases hk2
   rw [List.take_of_length_le hv.2,←hv.1]
   rfl
  | false =>
   have e:G7 v=(2,Bs v):=by unfold G7;rw [hk1,hk2];rfl
   rw [e] at hs
   have hs':seg l S.i=(2,Bs v)::rest:=hs
   obtain ⟨k1,t1,_,_⟩:=Aq hs'
   have hw:Dl (Bs v) Pm=true:=by
    rw [cq]
    rcases Ie hp with e|e|e|e|e
    ·rw [e];kernel_rfl
    ·rw [e] at hk1;cases hk1
    ·rw [e.1] at hk2;cases hk2
    ·rw [e];kernel_rfl
    rw [e];kernel_rfl
   have e1:isM l Pm S=true:=by rw [Dm hs',hw];rfl
   rw [e1,if_pos (by simp),t1,Rr hp hk2 hv0 hv1]
   rfl
theorem Ub (t:Str):B0 t = -1∨1≤B0 t:=by
 unfold B0
 cases h:arityList.find? (fun p=>p.1==t) with
 | none=>exact .inl rfl
 | some p =>
  have hm:=List.mem_of_find?_eq_some h
  have ha:(arityList.all fun p=>decide (1≤od p))=true:=by kernel_rfl
  exact .inr (of_decide_eq_true (List.all_eq_true.1 ha p hm))
theorem Rt (l:List Tok):∀(n:Nat) (x:Expr),sizeE x≤n→Bx B3 x=true→Bx Ew x=true→T1 l x∧T2 l x
 | 0,x,hn,_,_=>by rw [Fl] at hn;omega
 | n+1,x,hn,hx,hr=>by
  have hx0:=hx
  have hr0:=hr
  rw [Dx,Bool.and_eq_true] at hx0 hr0
  have ih:∀y∈x.kids,T1 l y∧T2 l y:=fun y hy=>Rt l n y (Ua hn hy) ((Df _ _).1 hx0.2 y hy) ((Df _ _).1 hr0.2 y hy)
  cases G8 hx0.1 with
  | val v hv h0 =>
   have:=hr0.1
   unfold Ew at this
   simp only [Bool.and_eq_true,decide_eq_true_eq] at this
   exact ACo hx hv h0 this.2
  | name t ht=>exact AA3 hx
  | neg a=>exact ACn hx (ih a (by simp [Bz,Expr.kids])).1
  | no a=>exact AEl hx (ih a (by simp [Bz,Expr.kids])).1
  | bin t a b ht=>exact ACm ht hx (ih a (by simp [Cd,Expr.kids])) (ih b (by simp [Cd,Expr.kids])).1
  | call t k hk =>
   refine AA4 hx hk ?_ (fun y hy=>(ih y hy).1)
   have:=Ub t
   omega
/-! The parser from a word on, and of a source. -/
def atS (l:List Tok) (i:Nat) (r:Expr×PS):PS:=if r.2.code != 0 then r.2 else if decide ((30:Int)<depthE r.1) then Cl 18 (A5 l i).at_ r.2 else if decide ((300:Int)<sizeE r.1) then Cl 3 (A5 l i).at_ r.2 else r.2
def atR (l:List Tok) (i:Nat):Expr×PS:=L2 l (Bu l 30) ⟨i,0,0,0⟩
/-- The tree, the word behind it, the fault. -/
def atM (l:List Tok) (i:Nat):Expr×Int×Int×Int:=if (atS l i (atR l i)).code != 0 then (Ah,0,(atS l i (atR l i)).code,(atS l i (atR l i)).at_) else ((atR l i).1,((atS l i (atR l i)).i:Int),0,0)
set_option maxRecDepth 4000
theorem Ru {l:List Tok} (hl:TokEnd l) (hll:l.length≤1048576) {i:Nat} (hi:i<l.length):Fact l ⟨i,0,0,0⟩ (atR l i):=(O3 hl hll 31 0 rfl (by decide)).1 ⟨i,0,0,0⟩ hi rfl
theorem AA6 {l:List Tok} {i:Nat} (hi:i<l.length) (hl:TokEnd l) (hll:l.length≤1048576) (hcl:∀n Dv,n≤30→DeepC l Dv n→Yd l Dv n) (o:Nat) (Hp:List AObj) (ho:Hp[o]? = some (pr l ⟨i,0,0,0⟩)):ACall Tryz.prog 213 [.ptr o 0] Hp (fun r H'=>r=A7 (atR l i).1∧H'=Hp.set o (pr l (atR l i).2)):=(Ye hl hll hcl 31 0 rfl (by decide)).1 o Hp ⟨i,0,0,0⟩ ho hi rfl
theorem Yk {l:List Tok} (hl:TokEnd l):(A5 l (l.length-1)).kind=0:=by
 obtain ⟨L,z,rfl,hz,_⟩:=hl.split
 unfold A5
 simp [hz]
theorem AEm (l:List Tok) (i:Nat) (hi:i<l.length) (hl:TokEnd l) (hll:l.length≤500000) (hcl:∀n Dv,n≤30→DeepC l Dv n→Yd l Dv n) (Hp:List AObj):AFun Tryz.prog 191 [el l,A2 (i:Int)] Hp (.tup [A7 (atM l i).1,A2 (atM l i).2.1,.agg [A2 (atM l i).2.2.1,A2 (atM l i).2.2.2]]):=by
 have hmap:(l.map Ha).length=l.length:=List.length_map ..
 have hll1:l.length≤1048576:=by omega
 have hq:=Ru hl hll1 hi
 have hlast:=Yk hl
 have hpos:=hl.pos
 have hqlt:=hq.lt
 have hqs:=hq.sz
 have hok0:okE 1048576 (atR l i).1:=Fo (by have:=hq.lt;omega) hq.ok
 have hsz0:sizeE (atR l i).1≤1048576:=by have:=hq.sz;have:=hq.lt;omega
 refine ACall.body [.cell 4 103,.tmp 5,.cell 6 59] [0,1] Tryz.func191 Tryz.ntmps191 (fun d=>?_)
 refine Z26 ?_;refine ae ?_;refine R.fin [0,1,4,6] ?_;refine Z34 ?_;refine Z76 ?_;refine Z64 ?_
 refine G.go (h:=Q.indexAddr ((l.length-1)) (Ha (A5 l (l.length-1))) (fun _=>O0 (by omega))) (hr:=?_)
 refine Z7 ?_;refine Pl ?_;refine R.fin [0,1,4,6,26] ?_
 refine W.cond (fun ht26=>?_) (fun ht26=>?_)
 ·simp only [Bool.or_eq_true,decide_eq_true_eq,bne_iff_ne,ne_eq] at ht26
  rcases ht26 with (h|h)|h
  ·omega
  ·simp at h;omega
  exact absurd hlast h
 refine Z9 ?_;refine Z1 ?_;refine R.build (places:=#[(0,1),(1,1),(2,1),(3,2)]) jU (fun w=>by simp) jZ ?_;refine R.box ?_;refine R.go ?_;refine R.fin [0,1,4,6,7] ?_;refine Z2 ?_
 refine R.callOwn (n:=2) (x:=pr l (atR l i).2) Tryz.call213 (AA6 hi hl hll1 hcl (oid Hp.length 2) _ (by rw [Al];rfl)) ?_
 refine Z16 ?_;refine R.fin [0,1,4,6,7,8] ?_
 refine W.join ⟨81,A6 4 (.ptr (oid Hp.length 0) 0) (A6 6 (.ptr (oid Hp.length 1) 0) (A6 7 (.ptr (oid Hp.length 2) 0) (A6 8 (.ptr (oid Hp.length 3) 0) (fun _=>.any)))),Hp,[.cells 103 [A2 0,A8 [],A2 0,A2 0,A8 [],.nil],.cells 59 [A2 0,A2 0],pr l (atS l i (atR l i)),.cells 103 (Ee (atR l i).1)],[],none⟩ ?_ ?_
 ·refine AW.block ?_;refine Z35 ?_;refine Z23 ?_;refine R.fin [0,1,4,6,7,8,35] ?_
  refine W.cond (fun ht35=>?_) (fun ht35=>?_)
  ·have e:atS l i (atR l i)=(atR l i).2:=if_pos ht35
   refine W.keep [4,6,7,8] ?_;refine AW.skip ?_;exact uj
  have e0:¬((atR l i).2.code != 0)=true:=by rw [ht35];simp
  refine Z2 ?_;refine R.call Tryz.call214 (AEj 1048576 _ hok0 (Nat.le_refl _) hsz0 _) ?_;refine Z0 ?_;refine R.fin [0,1,4,6,7,8,42] ?_
  refine W.cond (fun ht42=>?_) (fun ht42=>?_)
  ·have e:atS l i (atR l i)=Cl 18 (A5 l i).at_ (atR l i).2:=by unfold atS;rw [if_neg e0,if_pos ht42]
   refine Z60 ?_
   refine R.go (h:=Q.indexAddr (i) (Ha (A5 l i)) (fun _=>O0 hi)) (hr:=?_)
   refine Z0 ?_
   refine R.callOwn (n:=2) (x:=pr l (Cl 18 (A5 l i).at_ (atR l i).2)) Tryz.call215 (kc l (atR l i).2 18 (A5 l i).at_ (oid Hp.length 2) _ (by rw [Al];rfl)) ?_
   refine R.fin [4,6,7,8] ?_;exact uj
  have e1:¬decide ((30:Int)<depthE (atR l i).1)=true:=by rw [ht42];simp
  refine Z2 ?_;refine R.call Tryz.call216 (AEk 1048576 _ hok0 (Nat.le_refl _) hsz0 _) ?_;refine Z0 ?_;refine R.fin [0,1,4,6,7,8,53] ?_
  refine W.cond (fun ht53=>?_) (fun ht53=>?_)
  ·have e:atS l i (atR l i)=Cl 3 (A5 l i).at_ (atR l i).2:=by unfold atS;rw [if_neg e0,if_neg e1,if_pos ht53]
   refine Z60 ?_
   refine R.go (h:=Q.indexAddr (i) (Ha (A5 l i)) (fun _=>O0 hi)) (hr:=?_)
   refine Z0 ?_
   refine R.callOwn (n:=2) (x:=pr l (Cl 3 (A5 l i).at_ (atR l i).2)) Tryz.call215 (kc l (atR l i).2 3 (A5 l i).at_ (oid Hp.length 2) _ (by rw [Al];rfl)) ?_
   refine R.fin [4,6,7,8] ?_;exact uj
  have e:atS l i (atR l i)=(atR l i).2:=by unfold atS;rw [if_neg e0,if_neg e1,if_neg (by rw [ht53];simp)]
  refine W.keep [4,6,7,8] ?_;refine AW.skip ?_;exact uj
 refine Z11 ?_;refine Z72 ?_;refine R.fin [4,6,7,8,69] ?_
 refine W.cond (fun ht69=>?_) (fun ht69=>?_)
 ·have e:atM l i=(Ah,0,(atS l i (atR l i)).code,(atS l i (atR l i)).at_):=if_pos ht69
  refine W.drawY [0,0,2,6,14,1,33,127] [5] [.q 5 [] [],.s [] (some 0) [] [],.q 1 [0] []] (fun _=>Hp) (fun _=>[.cells 103 [A2 0,A8 [],A2 0,A2 0,A8 [],.nil],.cells 59 [A2 0,A2 0],pr l (atS l i (atR l i)),.cells 103 (Ee (atR l i).1)]) Ac (by kernel_rfl) rfl rfl (fun _=>rfl) ?_
  apply Y.q
  case h1 =>
   intro B hT hF
   refine D.build (places:=#[(0,1),(1,1),(2,3),(5,1)]) jU (fun w=>by simp) jZ ?_;exact ni
  case hTF=>decide
  refine Y.storeOwn (u:=Hp.length) (n:=0) (t':=103) (cs:=[A2 0,A8 [],A2 0,A2 0,A8 [],.nil]) (cs':=[A2 0,A8 [],A2 0,A2 0,A8 [],.nil]) Tryz.sizeOf103 (fun B hB=>⟨rfl,rfl,rfl,rfl⟩) ?_
  apply Y.q
  case h1 =>
   intro B hT hF
   exact Z44
  case hTF=>decide
  refine Y.tail (tn:=[5])  ?_;refine R.nilCell 0 5 6 ?_;refine Fi ?_;refine R.fin [4,5,6] ?_;refine Z86 ?_;exact K.fin (V.three (V.cellN jA jS) V.tmp (V.cellN jA jS)) ⟨by rw [e,q9]<;>rfl,rfl⟩
 have e:atM l i=((atR l i).1,((atS l i (atR l i)).i:Int),0,0):=if_neg (by rw [ht69];simp)
 refine Z9 ?_;refine W.drawY [0,0,2,6,14,0,1,95,255] [6] [.q 6 [] [],.s [] (some 0) [] [],.q 1 [0] []] (fun _=>Hp) (fun B=>[.cells 103 (if B 0=true then Ee (atR l i).1 else [A2 0,A8 [],A2 0,A2 0,A8 [],.nil]),.cells 59 [A2 0,A2 0],pr l (atS l i (atR l i)),.cells 103 (Ee (atR l i).1)]) Ac (by kernel_rfl) rfl rfl (fun _=>rfl) ?_
 apply Y.q
 case h1 =>
  intro B hT hF
  refine ak ?_;exact AB8
 case hTF=>decide
 refine Y.storeOwn (u:=Hp.length) (n:=0) (t':=103) (cs:=[A2 0,A8 [],A2 0,A2 0,A8 [],.nil]) (cs':=Ee (atR l i).1) Tryz.sizeOf103 (fun B hB=>⟨rfl,by simp only [hB];rfl,by simp [upd],rfl⟩) ?_
 apply Y.q
 case h1 =>
  intro B hT hF
  exact Z44
 case hTF=>decide
 refine Y.tail (tn:=[6]) (O:=[.cells 103 (Ee (atR l i).1),.cells 59 [A2 0,A2 0],pr l (atS l i (atR l i)),.cells 103 (Ee (atR l i).1)]) ?_;refine Fi ?_;refine R.fin [4,5,6] ?_;refine AW.ret ?_;exact K.fin (V.three (V.cellN jA jS) V.tmp (V.cellN jA jS)) ⟨by rw [e,Ab]<;>rfl,rfl⟩ (hlow:=by have:=low_agg (n:=Hp.length) (atR l i).1;simp at this ⊢;exact this)

theorem fl {s:Str} (h:(D5 s).2.1=0):(D5 s).1.length≤4002:=by
 obtain ⟨h1,_,h3⟩:=W5 h
 have h2:=Ly s
 rw [h3]
 simp only [List.length_append,List.length_map,List.length_cons,List.length_nil]
 omega
theorem wl {l:List Tok} (hl:TokEnd l) (hll:l.length≤1048576) {i:Nat} (hi:i<l.length) (h:(atM l i).2.2.1=0):∃k:Nat,(atM l i).2.1=(k:Int)∧k<l.length:=by
 have hq:=Ru hl hll hi
 unfold atM at h ⊢
 split at h
 ·rename_i h1
  have:(atS l i (atR l i)).code=0:=h
  rw [this] at h1
  cases h1
 rename_i h1
 rw [if_neg h1]
 refine ⟨(atS l i (atR l i)).i,rfl,?_⟩
 have e:(atS l i (atR l i)).i=(atR l i).2.i:=by
  unfold atS
  repeat' split
  all_goals first|rfl|exact failM_i.1
 rw [e]
 exact hq.lt
theorem Ta {α:Type} {a b:List α} (hl:a.length=b.length) (h:∀(j:Nat) (y:α),j<a.length→a[j]? = some y→b[j]? = some y):a=b:=by
 apply List.ext_getElem hl
 intro j h1 h2
 have:=h j a[j] h1 (List.getElem?_eq_getElem h1)
 rw [List.getElem?_eq_getElem h2] at this
 injection this with this
 exact this.symm
theorem Dc {n k:Nat} {o:Bool} {l:List Expr}:Low n (.slice o k (l.map A7)):=low_slice.2 fun y hy=>by
 obtain ⟨a,_,rfl⟩:=List.mem_map.1 hy
 exact Ad _ a
theorem qh {a b:List Expr} (hl:a.length=b.length) (h:∀(j:Nat) (y z:Expr),j<a.length→a[j]? = some y→b[j]? = some z→eqE y z=true):eqL a b=true:=by
 rw [Mp]
 refine Ta hl fun j y hj hy=>?_
 have hjb:j<b.length:=by omega
 have:=h j y b[j] hj hy (List.getElem?_eq_getElem hjb)
 rw [List.getElem?_eq_getElem hjb,(Mo _ _).1 this]
theorem AA7 {a b:List Expr} (h:eqL a b=true) {j:Nat} (hj:j<a.length) (hb:j<b.length):eqE a[j] b[j]=true:=by
 have e:=(Mp _ _).1 h
 subst e
 exact Rf _
theorem AA8 {a b:List Expr} {j:Nat} (hj:j<a.length) (hb:j<b.length) (h:eqE a[j] b[j]=false):eqL a b=false:=by
 rw [Bool.eq_false_iff]
 intro h2
 rw [AA7 h2 hj hb] at h
 cases h
theorem wm {a b:List Expr} (h:a.length≠b.length):eqL a b=false:=by
 rw [Bool.eq_false_iff]
 exact fun h2=>h (vu h2)
theorem ACp {a b:List Expr} {x:Nat} (hx:x<a.length) (hb:x<b.length) (h:∀(j:Nat) (y z:Expr),j<x→a[j]? = some y→b[j]? = some z→eqE y z=true) (he:eqE a[x] b[x]=true):∀(j:Nat) (y z:Expr),j<x+1→a[j]? = some y→b[j]? = some z→eqE y z=true:=by
 intro j y z hj h1 h2
 rcases Nat.lt_or_ge j x with h3|h3
 ·exact h j y z h3 h1 h2
 have:j=x:=by omega
 subst this
 rw [List.getElem?_eq_getElem hx] at h1
 rw [List.getElem?_eq_getElem hb] at h2
 injection h1 with h1
 injection h2 with h2
 rw [←h1,←h2]
 exact he
theorem AEn (n:Nat) (a b:List Expr) (ha:a.length≤1048576) (hok:∀y∈a,okE n y) (ih:∀(x:Expr),okE n x→∀(y:Expr) (Hp:List AObj),AFun Tryz.prog 111 [A7 x,A7 y] Hp (Ao (eqE x y))) (Hp:List AObj):AFun Tryz.prog 148 [.slice false 6 (a.map A7),.slice false 6 (b.map A7),.fn (.func 111) [] []] Hp (Ao (eqL a b)):=by
 refine ACall.body [.tmp 6] [0,1,2] Tryz.func148 Tryz.ntmps148 (fun d=>?_)
 refine Z2 ?_;refine R.fin [0,1,2] ?_;refine Z11 ?_;refine Z23 ?_;refine R.fin [0,1,2,14] ?_
 refine W.cond (fun ht14=>?_) (fun ht14=>?_)
 ·have hf:eqL a b=false:=wm (by have:=ht14;simp at this;omega)
  refine an ?_;refine K.thR ?_;exact K.fin (V.one V.tmp) ⟨by rw [hf],rfl⟩
 have hlen:a.length=b.length:=by have:=ht14;simp at this;omega
 refine Z9 ?_;refine Z34 ?_;refine R.fin [1,2,15,16,17] ?_
 refine AW.loopC (α:=Nat) (fun i=>⟨32,A6 1 (.slice false 6 (b.map A7)) (A6 2 (.fn (.func 111) [] []) (A6 15 (.slice false 6 (a.map A7)) (A6 16 (A2 (a.length:Nat)) (A6 17 (A2 (i:Nat)) (fun _=>.any))))),Hp,[],[],none⟩) (fun i=>i≤a.length∧∀(j:Nat) (y z:Expr),j<i→a[j]? = some y→b[j]? = some z→eqE y z=true) (fun i=>a.length-i) (0) ⟨Nat.zero_le _,fun j y z h=>by omega⟩ (StLe.of_eq (by simp)) rfl (fun i hi=>?_)
 refine Z2 ?_;refine R.fin [1,2,15,16,17,18] ?_
 refine W.condX (fun ht18=>?_) (fun ht18=>?_)
 ·have hlt:i<a.length:=by simpa using ht18
  have hlb:i<b.length:=by omega
  refine Mb ?_
  refine R.go (h:=Q.indexAddr (i) (A7 a[i]) (fun _=>Br hlt)) (hr:=?_)
  refine ae ?_;refine Z36 ?_;refine R.fin [1,2,7,8,15,16,17] ?_;refine Z1 ?_
  refine R.go (h:=Q.indexAddr (i) (A7 b[i]) (fun _=>Br hlb)) (hr:=?_)
  refine Vk ?_;refine R.fin [1,2,8,9,15,16,17] ?_;refine Z18 ?_;refine R.callV Tryz.call111 (ih a[i] (hok _ (List.getElem_mem hlt)) b[i] _) ?_;refine R.go ?_;refine R.fin [1,2,15,16,17,30] ?_
  refine W.cond (fun ht30=>?_) (fun ht30=>?_)
  ·have hf:eqL a b=false:=AA8 hlt hlb (by simpa using ht30)
   refine an ?_;refine Z92 ?_;exact K.fin (V.one V.tmp) ⟨by rw [hf],rfl⟩
  have he:eqE a[i] b[i]=true:=by simpa using ht30
  refine Z83 ?_;refine R.fin [1,2,15,16,17] ?_;refine K.lpN (i+1) ⟨hlt,ACp hlt hlb hi.2 he⟩ (by omega) ?_
  exact StCut.take (own:=[]) (fun _=>.refl _) (by repeat (first|exact Az|refine Ay (by first|exact Dc|(simp;done)) ?_)) (by simp) (by simp)
 have hxe:a.length≤i:=by simpa using ht18
 refine Z66 ?_;refine Z49 ?_;exact K.fin (V.one V.tmp) ⟨by rw [qh hlen (fun j y z hj=>hi.2 j y z (by omega))],rfl⟩

theorem ACq:∀(n:Nat) (x:Expr),okE n x→∀(y:Expr) (Hp:List AObj),AFun Tryz.prog 111 [A7 x,A7 y] Hp (Ao (eqE x y)):=by
 intro n
 induction n with
 | zero=>exact fun x h=>h.elim
 | succ n ih =>
 intro x hok y Hp
 refine ACall.body [.tmp 4] [0,1] Tryz.func111 Tryz.ntmps111 (fun d=>?_)
 refine Z18 ?_;refine I5 ?_;refine Z35 ?_;refine Z64 ?_;refine G.go ?_;refine Z64 ?_
 refine G.go (h:=Q.eqlAgg zm (fun w=>Vr x.val.kind x.val.n y.val.kind y.val.n x.val.s y.val.s w)) (hr:=?_)
 refine Z64 ?_;refine G.call Tryz.call148 (fun hB=>AEn n x.kids y.kids hok.2.1 hok.2.2 ih _) ?_;refine Z98 ?_;exact K.fin (V.one V.tmp) ⟨by rw [AA1],rfl⟩

set_option maxRecDepth 8000
/-! Moves: what mig.Right, sound.* and the document's layers 18, 19 answer. -/
structure Mov where
 kind:Int
 take:List Str
 give:List Col
 ahead:List Expr
 back:List Expr
abbrev Je (l:List Expr):AV:=.slice false 6 (l.map A7)
abbrev cu (m:Mov):List AV:=[A2 m.kind,Em m.take,Ae m.give,Je m.ahead,Je m.back]
abbrev Gu (m:Mov):AV:=.agg (cu m)
abbrev Fs (l:List Mov):AV:=.slice false 5 (l.map Gu)
/-- Trees that may be walked. -/
structure OkEs (l:List Expr):Prop where
 len:l.length≤1048576
 ok:∀e∈l,okE 61 e
 size:∀e∈l,sizeE e≤1048576
 rng:∀e∈l,Bx Ew e=true
structure OkMov (m:Mov):Prop where
 takes:m.take.length≤1048576
 names:∀s∈m.take,s.length≤1048576
 gives:OkCols m.give
 gives2:m.give.length≤1000000
 ahead:OkEs m.ahead
 back:OkEs m.back
structure OkMovs (l:List Mov):Prop where
 len:l.length≤1048576
 each:∀m∈l,OkMov m
def C9 (m:Mov):Bool:=
 if ((m.ahead.length:Int) != (m.give.length:Int)) || ((m.back.length:Int) != (m.take.length:Int)) then false
 else if m.kind==1 then ((m.take.length:Int)==0)&&((m.give.length:Int)==1)
 else if m.kind==2 then ((m.take.length:Int)==1)&&((m.give.length:Int)==0)
 else if (m.kind==3) || (m.kind==6) then ((m.take.length:Int)==1)&&((m.give.length:Int)==1)
 else if m.kind==4 then ((m.take.length:Int)==1)&&decide ((1:Int)<(m.give.length:Int))
 else if m.kind==5 then decide ((1:Int)<(m.take.length:Int))&&((m.give.length:Int)==1)
 else false
def G9 (m:Mov) (c:Col):Bool:=C3 c.name&&(((Ai c.kind==[])==(m.kind==3)) && !((m.kind==3)&&(c.kind != 0)))
def Fb (m:Mov):Bool:=
 if m.kind==3 then eqE (m.ahead.getD 0 Ah) (B7 (m.take.getD 0 []))&&eqE (m.back.getD 0 Ah) (B7 (m.give.getD 0 ⟨[],0⟩).name)
 else if m.kind==6 then m.take.getD 0 []==(m.give.getD 0 ⟨[],0⟩).name else true
def Eu (m:Mov):Bool:=(((((C9 m&&m.give.all (G9 m))&&m.take.all C3)&&m.ahead.all B2)&&m.back.all B2)&&Fb m)
def N2 (l:List Mov):Bool:=decide ((l.length:Int)≤8)&&l.all Eu
/-! Columns behind moves. -/
def qi (e:Expr) (c:List Col) (w:Int):Bool:=((Kg e c).2==0)&&(((Kg e c).1==w) || ((Kg e c).1==0))
def Ba (c:List Col) (m:Mov):List Col:=
 if m.kind==3 then (if Bj (m.take.getD 0 []) c<0 then m.give else match m.give with
  | []=>[]
  | y::r=>⟨y.name,(c.getD (Bj (m.take.getD 0 []) c).toNat ⟨[],0⟩).kind⟩::r)
 else m.give
def Wb (e:Expr) (c:List Col) (w:Int):Int:=if (Kg e c).2 != 0 then (Kg e c).2 else if !qi e c w then 10 else 0
def Dg (over:List Col):List Expr→List Col→Int
 | x::r,w::ws=>if Wb x over w.kind != 0 then Wb x over w.kind else Dg over r ws
 | _,_=>0
def Jf (c:List Col) (m:Mov):List Col:=m.take.map fun s=>c.getD (Bj s c).toNat ⟨[],0⟩
def Bl (c:List Col) (m:Mov):List Col×Int:=
 if (Cn c m.take (Ba c m)).2 != 0 then ([],(Cn c m.take (Ba c m)).2)
 else if Dg c m.ahead (Ba c m) != 0 then ([],Dg c m.ahead (Ba c m))
 else if Dg (Cn c m.take (Ba c m)).1 m.back (Jf c m) != 0 then ([],Dg (Cn c m.take (Ba c m)).1 m.back (Jf c m))
 else ((Cn c m.take (Ba c m)).1,0)
/-- The columns ahead of each move and behind the last one, till one is wrong; the error. -/
def At (c:List Col):List Mov→List (List Col)×Int
 | []=>([c],0)
 | m::r=>if (Bl c m).2 != 0 then ([c],(Bl c m).2) else (c::(At (Bl c m).1 r).1,(At (Bl c m).1 r).2)
def Ik (c:List Col) (l:List Mov):Bool:=C4 c&&N2 l
/-- ref19.Steps. -/
def Ft (c:List Col) (l:List Mov):List (List Col)×Int:=if Ik c l then At c l else ([],1)
/-- sound.Steps. -/
def Ce (c:List Col) (l:List Mov):List (List Col)×Int:=if (Ft c l).2 != 0 then ([],(Ft c l).2) else Ft c l
def Gv (c:List Col) (l:List Mov):List Col×Int:=if (Ce c l).2 != 0 then ([],(Ce c l).2) else ((Ce c l).1.getLastD [],0)
theorem Iu {m:Mov} (h:Eu m=true):C9 m=true:=by
 unfold Eu at h
 simp only [Bool.and_eq_true] at h
 exact h.1.1.1.1.1
theorem Eo {m:Mov} (h:C9 m=true):m.ahead.length=m.give.length∧m.back.length=m.take.length:=by
 unfold C9 at h
 split at h
 ·cases h
 rename_i h1
 simp only [Bool.or_eq_true,bne_iff_ne,ne_eq,not_or,Classical.not_not] at h1
 omega
theorem Ki {m:Mov} (h:C9 m=true) (h3:((m.kind==3) || (m.kind==6))=true):m.take.length=1∧m.give.length=1:=by
 unfold C9 at h
 split at h
 ·cases h
 have h1:(m.kind==1)=false:=by simp at h3 ⊢;omega
 have h2:(m.kind==2)=false:=by simp at h3 ⊢;omega
 simp only [h1,h2,h3,if_true,if_false,Bool.false_eq_true,Bool.and_eq_true,beq_iff_eq] at h
 omega
theorem L4 (c:List Col) (m:Mov):(Ba c m).length=m.give.length:=by
 unfold Ba
 split
 ·split
  ·rfl
  split<;>simp_all
 rfl
set_option maxRecDepth 4000
/-! mig.Parse: the first fault is F5. -/
inductive PR (α:Type) where
 | ok (r:α) (i:Nat)
 | bad (e a:Int)
def PR.bind {α β:Type} (x:PR α) (f:α→Nat→PR β):PR β:=match x with
 | .ok r i=>f r i
 | .bad e a=>.bad e a
def Uc {α:Type} (L:List Tok) (i:Nat) (e:Int):PR α:=.bad e (A5 L i).at_
def isP (L:List Tok) (s:Str) (i:Nat):Bool:=(((A5 L i).kind==5) || ((A5 L i).kind==2))&&((A5 L i).text==s)
def Be (L:List Tok) (s:Str) (i:Nat):PR Unit:=if isP L s i then .ok () (i+1) else Uc L i 8
def Dt (L:List Tok) (i:Nat):PR Str:=if (A5 L i).kind != 1 then Uc L i 8 else .ok (A5 L i).text (i+1)
def Pa (L:List Tok) (nm:Str) (j:Nat):PR Col:=if ((A5 L j).kind != 2) || (Ic (A5 L j).text==0) then Uc L j 8 else .ok ⟨nm,Ic (A5 L j).text⟩ (j+1)
def Fu (L:List Tok) (i:Nat):PR Col:=(Dt L i).bind (Pa L)
def Gw (L:List Tok) (i:Nat):PR Expr:=if (atM L i).2.2.1 != 0 then .bad (atM L i).2.2.1 (atM L i).2.2.2 else .ok (atM L i).1 (atM L i).2.1.toNat
def Bm (m:Mov) (c:Col):Mov:={ m with give:=m.give++[c] }
def Lk (m:Mov) (x:Expr):Mov:={ m with ahead:=m.ahead++[x] }
def Cc (L:List Tok) (m:Mov) (i:Nat):PR Mov:=(Fu L i).bind fun c j=>(Be L [61] j).bind fun _ j=>(Gw L j).bind fun x j=>.ok (Lk (Bm m c) x) j
def If (L:List Tok) (n:Int) (k:Nat) (i:Nat):Bool:=decide ((k:Int)<n) || ((n==0)&&(decide ((k:Int)<2) || isP L [44] i))
/-- Things with commas between, behind the first k. -/
def H7 (L:List Tok) (n:Int) (one:Mov→Nat→PR Mov):Nat→Nat→Mov→Nat→PR Mov
 | 0,_,m,i=>.ok m i
 | f+1,k,m,i=>if If L n k i then (Be L [44] i).bind fun _ j=>(one m j).bind fun m j=>H7 L n one f (k+1) m j else .ok m i
def Dz (L:List Tok) (n:Int) (one:Mov→Nat→PR Mov) (m:Mov) (i:Nat):PR Mov:=(one m i).bind fun m j=>H7 L n one (L.length+1) 1 m j
def backW:Str:=[98,97,99,107]
def intoW:Str:=[105,110,116,111]
def toW:Str:=[116,111]
def Rv (m:Mov) (x:Expr):Mov:={ m with back:=m.back++[x] }
def Kj (L:List Tok) (m:Mov) (i:Nat):PR Mov:=(Gw L i).bind fun x j=>.ok (Rv m x) j
def Cz (L:List Tok) (m:Mov) (i:Nat):PR Mov:=(Be L backW i).bind fun _ j=>Dz L m.take.length (Kj L) m j
def Hf (L:List Tok) (m:Mov) (i:Nat):PR Mov:=(Dt L i).bind fun s j=>(Be L toW j).bind fun _ j=>(Dt L j).bind fun t j=>.ok ⟨m.kind,[s],[⟨t,0⟩],[B7 s],[B7 t]⟩ j
def takeS (m:Mov) (s:Str):Mov:={ m with take:=[s] }
def Rw (m:Mov) (s:Str):Mov:={ m with take:=m.take++[s] }
def Iv (L:List Tok) (m:Mov) (i:Nat):PR Mov:=(Dt L i).bind fun s j=>.ok (Rw m s) j
def Ev (L:List Tok) (m:Mov) (i:Nat):PR Mov:=
 if m.kind==1 then Cc L m i
 else if m.kind==2 then (Dt L i).bind fun s j=>Cz L (takeS m s) j
 else if m.kind==3 then Hf L m i
 else if m.kind==4 then (Dt L i).bind fun s j=>(Be L intoW j).bind fun _ j=>(Dz L 0 (Cc L) (takeS m s) j).bind fun m j=>Cz L m j
 else if m.kind==5 then (Dz L 0 (Iv L) m i).bind fun m j=>(Be L intoW j).bind fun _ j=>(Cc L m j).bind fun m j=>Cz L m j
 else if m.kind==6 then (Cc L m i).bind fun m j=>Cz L (takeS m (m.give.getD 0 ⟨[],0⟩).name) j
 else .ok m i
def migWords:List Str:=[[],[97,100,100],[100,114,111,112],[114,101,110,97,109,101],[115,112,108,105,116],[109,101,114,103,101],[114,101,116,121,112,101]]
def B9 (k:Int):Str:=if (decide (k<1) || decide (6<k))=true then [] else migWords.getD k.toNat []
def D7 (s:Str):Int:=if B9 1==s then 1 else if B9 2==s then 2 else if B9 3==s then 3 else if B9 4==s then 4 else if B9 5==s then 5 else if B9 6==s then 6 else 0
def Fv (L:List Tok) (i:Nat):PR Mov:=
 if ((A5 L i).kind != 2) || (D7 (A5 L i).text==0) then Uc L i 8
 else (Ev L ⟨D7 (A5 L i).text,[],[],[],[]⟩ (i+1)).bind fun m j=>(Be L [59] j).bind fun _ j=>.ok m j
/-- Moves, behind some. -/
def Dh (L:List Tok):Nat→List Mov→Nat→PR (List Mov)
 | 0,l,i=>.ok l i
 | f+1,l,i=>if (A5 L i).kind != 0 then (if (l.length:Int)==8 then Uc L i 3 else (Fv L i).bind fun m j=>Dh L f (l++[m]) j) else .ok l i
def Ga (L:List Tok):PR (List Mov):=Dh L 9 [] 0
/-- The moves; the fault's code and place. -/
def F0 (s:Str):List Mov×Int×Int:=
 if (D5 s).2.1 != 0 then ([],(D5 s).2.1,(D5 s).2.2)
 else match Ga (D5 s).1 with
  | .ok l _=>(l,0,0)
  | .bad e a=>([],e,a)
/-! Where the parser of moves comes to. -/
def PR.In {α:Type} (x:PR α) (i n:Nat):Prop:=∀r j,x=.ok r j→i<j∧j<n
theorem PR.bind_ok {α β:Type} {x:PR α} {f:α→Nat→PR β} {r:β} {j:Nat} (h:x.bind f=.ok r j):∃a k,x=.ok a k∧f a k=.ok r j:=by
 cases x with
 | ok a k=>exact ⟨a,k,rfl,h⟩
 | bad e a=>cases h
theorem wn {L:List Tok} {s:Str} {i:Nat} (h:isP L s i=true):(A5 L i).kind≠0:=by
 unfold isP at h
 simp only [Bool.and_eq_true,Bool.or_eq_true,beq_iff_eq] at h
 rcases h.1 with h|h<;>rw [h]<;>decide
theorem D8 {L:List Tok} (hl:TokEnd L) {s:Str} {i:Nat} (hi:i<L.length):(Be L s i).In i L.length:=by
 intro r j h
 unfold Be at h
 split at h
 ·rename_i h1
  injection h with _ h
  subst h
  exact ⟨Nat.lt_succ_self i,hl.step hi (wn h1)⟩
 cases h
theorem Eh {L:List Tok} (hl:TokEnd L) {i:Nat} (hi:i<L.length):(Dt L i).In i L.length:=by
 intro r j h
 unfold Dt at h
 split at h
 ·cases h
 rename_i h1
 injection h with _ h
 subst h
 have hk:(A5 L i).kind=1:=by simpa using h1
 exact ABz
theorem wo {L:List Tok} (hl:TokEnd L) {nm:Str} {i:Nat} (hi:i<L.length):(Pa L nm i).In i L.length:=by
 intro r j h
 unfold Pa at h
 split at h
 ·cases h
 rename_i h1
 injection h with _ h
 subst h
 have hk:(A5 L i).kind=2:=by simp only [Bool.not_eq_true,Bool.or_eq_false_iff,bne_eq_false_iff_eq] at h1;exact h1.1
 exact ABz
theorem Oa {L:List Tok} (hl:TokEnd L) {i:Nat} (hi:i<L.length):(Fu L i).In i L.length:=by
 intro r j h
 obtain ⟨a,k,h1,h2⟩:=PR.bind_ok h
 obtain ⟨a1,a2⟩:=Eh hl hi _ _ h1
 obtain ⟨b1,b2⟩:=wo hl a2 _ _ h2
 exact ⟨by omega,b2⟩
theorem Jg {L:List Tok} (hl:TokEnd L) (hll:L.length≤500000) {i:Nat} (hi:i<L.length) {x:Expr} {k:Nat} (h:Gw L i=.ok x k):i≤k∧k<L.length:=by
 unfold Gw at h
 split at h
 ·cases h
 rename_i h0
 injection h with _ h
 subst h
 have h0:(atM L i).2.2.1=0:=by simpa using h0
 have hq:=Ru hl (by omega:L.length≤1048576) hi
 unfold atM at h0 ⊢
 split at h0
 ·rename_i h1
  have:(atS L i (atR L i)).code=0:=h0
  rw [this] at h1
  cases h1
 rename_i h1
 rw [if_neg h1]
 have e:(atS L i (atR L i)).i=(atR L i).2.i:=by
  unfold atS
  repeat' split
  all_goals first|rfl|exact failM_i.1
 show i≤((atS L i (atR L i)).i:Int).toNat∧((atS L i (atR L i)).i:Int).toNat<_
 rw [Int.toNat_natCast,e]
 exact ⟨hq.le,hq.lt⟩
/-- A move has no more parts than so many. -/
structure MvLe (m:Mov) (n:Nat):Prop where
 take:m.take.length≤n
 give:m.give.length≤n
 ahead:m.ahead.length≤n
 back:m.back.length≤n
theorem MvLe.mono {m:Mov} {i j:Nat} (h:MvLe m i) (hij:i≤j):MvLe m j:=⟨Nat.le_trans h.take hij,Nat.le_trans h.give hij,Nat.le_trans h.ahead hij,Nat.le_trans h.back hij⟩
/-- What a part of a move comes to. -/
def AA9 (x:PR Mov) (i n:Nat):Prop:=∀m j,x=.ok m j→i≤j∧j<n∧MvLe m (2*j)
/-- A part of a move that goes on from i. -/
def Tb (L:List Tok) (one:Mov→Nat→PR Mov):Prop:=∀m i,MvLe m (2*i-1)→0<i→i<L.length→AA9 (one m i) i L.length
theorem Hg {L:List Tok} (hl:TokEnd L) (hll:L.length≤500000):Tb L (Cc L):=by
 intro m i hm _ hi m' k h
 obtain ⟨c,j,h1,h2⟩:=PR.bind_ok h
 obtain ⟨u,j2,h3,h4⟩:=PR.bind_ok h2
 obtain ⟨x,j3,h5,h6⟩:=PR.bind_ok h4
 injection h6 with h6 h7
 subst h6;subst h7
 have a1:=Oa hl hi _ _ h1
 have a2:=D8 hl a1.2 _ _ h3
 have a3:=Jg hl hll a2.2 h5
 obtain ⟨b1,b2,b3,b4⟩:=hm
 exact ⟨by omega,a3.2,by show m.take.length≤_;omega,by show (m.give++[c]).length≤_;rw [List.length_append,List.length_singleton];omega,by show (m.ahead++[x]).length≤_;rw [List.length_append,List.length_singleton];omega,by show m.back.length≤_;omega⟩
theorem Rx {L:List Tok} (hl:TokEnd L) (hll:L.length≤500000):Tb L (Kj L):=by
 intro m i hm h0 hi m' k h
 obtain ⟨x,j,h1,h2⟩:=PR.bind_ok h
 injection h2 with h6 h7
 subst h6;subst h7
 have a3:=Jg hl hll hi h1
 obtain ⟨b1,b2,b3,b4⟩:=hm
 exact ⟨by omega,a3.2,by show m.take.length≤_;omega,by show m.give.length≤_;omega,by show m.ahead.length≤_;omega,by show (m.back++[x]).length≤_;rw [List.length_append,List.length_singleton];omega⟩
theorem N3 {L:List Tok} (hl:TokEnd L):Tb L (Iv L):=by
 intro m i hm _ hi m' k h
 obtain ⟨s,j,h1,h2⟩:=PR.bind_ok h
 injection h2 with h6 h7
 subst h6;subst h7
 have a1:=Eh hl hi _ _ h1
 obtain ⟨b1,b2,b3,b4⟩:=hm
 exact ⟨by omega,a1.2,by show (m.take++[s]).length≤_;rw [List.length_append,List.length_singleton];omega,by show m.give.length≤_;omega,by show m.ahead.length≤_;omega,by show m.back.length≤_;omega⟩
theorem Hz {L:List Tok} {s:Str} {i:Nat} {u:Unit} {j:Nat} (h:Be L s i=.ok u j):j=i+1:=by
 unfold Be at h
 split at h
 ·injection h with _ h;exact h.symm
 cases h
theorem Yl {L:List Tok} (hl:TokEnd L) {n:Int} {one:Mov→Nat→PR Mov} (hP:Tb L one):∀(f k:Nat) (m:Mov) (i:Nat),MvLe m (2*i)→0<i→i<L.length→AA9 (H7 L n one f k m i) i L.length
 | 0,k,m,i,hm,h0,hi=>fun m' j h=>by
  injection h with h1 h2
  subst h1;subst h2
  exact ⟨Nat.le_refl _,hi,hm⟩
 | f+1,k,m,i,hm,h0,hi=>fun m' j h=>by
  rw [H7] at h
  split at h
  ·obtain ⟨u,j1,h1,h2⟩:=PR.bind_ok h
   obtain ⟨m1,j2,h3,h4⟩:=PR.bind_ok h2
   have e:=Hz h1
   have a1:=D8 hl hi _ _ h1
   obtain ⟨b1,b2,b3⟩:=hP m j1 (hm.mono (by omega)) (by omega) a1.2 _ _ h3
   obtain ⟨c1,c2,c3⟩:=Yl hl hP f (k+1) m1 j2 b3 (by omega) b2 _ _ h4
   exact av
  injection h with h1 h2
  subst h1;subst h2
  exact ⟨Nat.le_refl _,hi,hm⟩
theorem N4 {L:List Tok} (hl:TokEnd L) {n:Int} {one:Mov→Nat→PR Mov} (hP:Tb L one):Tb L (Dz L n one):=by
 intro m i hm h0 hi m' k h
 obtain ⟨m1,j,h1,h2⟩:=PR.bind_ok h
 obtain ⟨b1,b2,b3⟩:=hP m i hm h0 hi _ _ h1
 obtain ⟨c1,c2,c3⟩:=Yl hl hP _ _ m1 j b3 (by omega) b2 _ _ h2
 exact av
theorem Pv {L:List Tok} (hl:TokEnd L) (hll:L.length≤500000) {m:Mov} {i:Nat} (hm:MvLe m (2*i)) (hi:i<L.length):AA9 (Cz L m i) i L.length:=by
 intro m' k h
 obtain ⟨u,j,h1,h2⟩:=PR.bind_ok h
 have e:=Hz h1
 have a1:=D8 hl hi _ _ h1
 obtain ⟨c1,c2,c3⟩:=N4 hl (Rx hl hll) m j (hm.mono (by omega)) (by omega) a1.2 _ _ h2
 exact av
theorem km {L:List Tok} (hl:TokEnd L):Tb L (Hf L):=by
 intro m i hm h0 hi m' k h
 obtain ⟨s,j,h1,h2⟩:=PR.bind_ok h
 obtain ⟨u,j2,h3,h4⟩:=PR.bind_ok h2
 obtain ⟨t,j3,h5,h6⟩:=PR.bind_ok h4
 injection h6 with h6 h7
 subst h6;subst h7
 have a1:=Eh hl hi _ _ h1
 have a2:=D8 hl a1.2 _ _ h3
 have a3:=Eh hl a2.2 _ _ h5
 exact ⟨by omega,a3.2,by show 1≤_;omega,by show 1≤_;omega,by show 1≤_;omega,by show 1≤_;omega⟩
theorem MvLe.takeS {m:Mov} {n:Nat} (h:MvLe m n) {s:Str} (h1:1≤n):MvLe (takeS m s) n:=⟨h1,h.give,h.ahead,h.back⟩
theorem Wc {L:List Tok} (hl:TokEnd L) (hll:L.length≤500000):Tb L (Ev L):=by
 intro m i hm h0 hi m' k h
 unfold Ev at h
 split at h
 ·exact Hg hl hll m i hm h0 hi _ _ h
 split at h
 ·obtain ⟨s,j,h1,h2⟩:=PR.bind_ok h
  have a1:=Eh hl hi _ _ h1
  obtain ⟨c1,c2,c3⟩:=Pv hl hll ((hm.mono (by omega:2*i-1≤2*j)).takeS (by omega)) a1.2 _ _ h2
  exact av
 split at h
 ·exact km hl m i hm h0 hi _ _ h
 split at h
 ·obtain ⟨s,j,h1,h2⟩:=PR.bind_ok h
  obtain ⟨u,j2,h3,h4⟩:=PR.bind_ok h2
  obtain ⟨m1,j3,h5,h6⟩:=PR.bind_ok h4
  have a1:=Eh hl hi _ _ h1
  have a2:=D8 hl a1.2 _ _ h3
  obtain ⟨b1,b2,b3⟩:=N4 hl (Hg hl hll) (takeS m s) j2 ((hm.mono (by omega:2*i-1≤2*j2-1)).takeS (by omega)) (by omega) a2.2 _ _ h5
  obtain ⟨c1,c2,c3⟩:=Pv hl hll b3 b2 _ _ h6
  exact av
 split at h
 ·obtain ⟨m1,j,h1,h2⟩:=PR.bind_ok h
  obtain ⟨u,j2,h3,h4⟩:=PR.bind_ok h2
  obtain ⟨m2,j3,h5,h6⟩:=PR.bind_ok h4
  obtain ⟨b1,b2,b3⟩:=N4 hl (N3 hl) m i hm h0 hi _ _ h1
  have e:=Hz h3
  have a2:=D8 hl b2 _ _ h3
  obtain ⟨d1,d2,d3⟩:=Hg hl hll m1 j2 (b3.mono (by omega)) (by omega) a2.2 _ _ h5
  obtain ⟨c1,c2,c3⟩:=Pv hl hll d3 d2 _ _ h6
  exact av
 split at h
 ·obtain ⟨m1,j,h1,h2⟩:=PR.bind_ok h
  obtain ⟨d1,d2,d3⟩:=Hg hl hll m i hm h0 hi _ _ h1
  obtain ⟨c1,c2,c3⟩:=Pv hl hll (d3.takeS (by omega)) d2 _ _ h2
  exact av
 injection h with h1 h2
 subst h1;subst h2
 exact ⟨Nat.le_refl _,hi,hm.mono (by omega)⟩
set_option maxRecDepth 8000
/-! The words of a print. -/
/-- This text, before that one, is these words. -/
def Lx (u:Str) (T:List TK) (R:Str):Prop:=∀f q,(u++R).length<f→∃M:List Tok,M.map ktT=T∧Jr f q (u++R)=M.map (fun t=>(t,0))++Jr f (q+u.length) R
theorem Lx.nil (R:Str):Lx [] [] R:=fun f q _=>⟨[],rfl,by simp⟩
theorem Lx.app {u v:Str} {T V:List TK} {R:Str} (h1:Lx u T (v++R)) (h2:Lx v V R):Lx (u++v) (T++V) R:=fun f q hf=>by
 obtain ⟨M,hM,e1⟩:=h1 f q (by simpa using hf)
 obtain ⟨N,hN,e2⟩:=h2 f (q+u.length) (by simp at hf ⊢;omega)
 refine ⟨M++N,by rw [List.map_append,hM,hN],?_⟩
 rw [List.append_assoc,e1,e2,List.map_append,List.append_assoc,List.length_append,Nat.add_assoc]
theorem kn {f f' q:Nat} {s:Str} (h1:s.length<f) (h2:s.length<f'):Jr f q s=Jr f' q s:=by
 have:=Vz s
 unfold Jr
 exact P7 f f' _ _ (by rw [List.length_drop];omega) (by rw [List.length_drop];omega)
theorem Lx.blank (R:Str):Lx [32] [] R:=fun f q _=>⟨[],rfl,by simpa using bx f q R⟩
/-- One word, that starts at once. -/
theorem Lx.word {u R:Str} {k:Int} {t:Str} (hu:u≠[]) (hb:blanks.contains (u.headD 0)=false) (h35:u.headD 0≠35) (hw:Au (u++R)=(k,t,(u.length:Int),0)):Lx u [(k,t)] R:=fun f q hf=>by
 cases u with
 | nil=>exact absurd rfl hu
 | cons c v =>
  have hg:gapM (c::v++R)=0:=by
   unfold gapM
   rw [List.cons_append,Ds,if_neg (by rw [show (c::v).headD 0=c from rfl] at hb;rw [hb];simp),if_neg (by rw [show (c::v).headD 0=c from rfl] at h35;simpa using h35)]
   simp
  cases f with
  | zero=>omega
  | succ f =>
   refine ⟨[⟨k,t,q⟩],rfl,?_⟩
   have hne:(c::v++R==[])=false:=rfl
   have e:Jr (f+1) q (c::v++R)=(⟨k,t,q⟩,0)::Jr f (q+(c::v).length) R:=by
    have hd:(c::v++R).drop (c::v).length=R:=List.drop_left
    unfold Jr
    rw [hg,List.drop_zero,Nat.add_zero,E6,hne,if_neg (by simp),hw]
    simp only [beq_self_eq_true,if_true,Int.toNat_natCast,hd,Nat.add_zero]
   rw [e]
   show _=[((⟨k,t,q⟩:Tok),(0:Int))]++_
   have hl:R.length<f:=by simp at hf;omega
   rw [List.singleton_append,kn hl (show R.length<f+1 by omega)]
/-- What may stand behind a tree, or a name. -/
def Do (R:Str):Prop:=∀c r,R=c::r→c=32∨c=40∨c=41∨c=44∨c=59
theorem Ym {p:UInt8→Bool} {u R:Str} (h:∀c∈u,p c=true) (hR:∀c r,R=c::r→p c=false):(u++R).takeWhile p=u:=by
 induction u with
 | nil =>
  cases R with
  | nil=>rfl
  | cons c r=>rw [List.nil_append,List.takeWhile_cons,hR c r rfl];rfl
 | cons a u ih =>
  rw [List.cons_append,List.takeWhile_cons,h a List.mem_cons_self,if_pos rfl,ih (fun c hc=>h c (List.mem_cons_of_mem _ hc))]
theorem cv {R:Str} (h:Do R):∀c r,R=c::r→tails.contains c=false:=fun c r e=>by
 rcases h c r e with rfl|rfl|rfl|rfl|rfl<;>kernel_rfl
theorem ko {R:Str} (h:Do R):∀c r,R=c::r→digs.contains c=false:=fun c r e=>by
 rcases h c r e with rfl|rfl|rfl|rfl|rfl<;>kernel_rfl
/-- A word of letters. -/
theorem Ry {u R:Str} (hl:letters.contains (u.headD 0)=true) (hu:u≠[]) (ha:∀c∈u,tails.contains c=true) (hR:Do R):Au (u++R)=if Co u then (2,u,(u.length:Int),0) else if !C3 u then (0,[],0,3) else (1,u,(u.length:Int),0):=by
 have hw:Bd (u++R) tails=u:=by rw [Hj];exact Ym ha (cv hR)
 cases u with
 | nil=>exact absurd rfl hu
 | cons c v =>
  have h1:decide (0<H5 ((c::v++R).take 1) letters)=true:=by
   have e:(c::v++R).take 1=[c]:=rfl
   have e2:Bd [c] letters=[c]:=by rw [Hj,List.takeWhile_cons,show letters.contains c=true from hl];rfl
   have e3:=Mf [c] letters
   have e4:runN [c] letters=1:=by
    have:(Bd [c] letters).length=1:=by rw [e2];rfl
    unfold Bd at this
    rw [List.length_take] at this
    have hle:runN [c] letters≤1:=Nat.sub_le _ _
    simp at this
    omega
   rw [e,e3,e4]
   rfl
  unfold Au
  rw [if_pos h1]
  unfold Jb
  rw [hw]
theorem cw:(letters.all fun c => !(blanks.contains c) && !(c==35) && !(c==39) && !(c==61))=true:=by kernel_rfl
theorem N5 {c:UInt8} (h:letters.contains c=true):blanks.contains c=false:=by
 have:=List.all_eq_true.1 cw c (by simpa using h)
 simp only [Bool.and_eq_true,Bool.not_eq_true'] at this
 exact this.1.1.1
theorem Rz {t R:Str} (h:Dr t=true) (hR:Do R):Lx t [(1,t)] R:=by
 have h0:=h
 rw [Xj] at h
 simp only [Bool.and_eq_true,Bool.not_eq_true',Bool.or_eq_false_iff,beq_eq_false_iff_ne,decide_eq_false_iff_not,Bool.not_eq_false] at h
 obtain ⟨⟨⟨⟨h1,h2⟩,h3⟩,h4⟩,h5⟩:=h
 have hu:t≠[]:=by rintro rfl;simp at h1
 have hl:letters.contains (t.headD 0)=true:=by rw [Mk];simpa using h3
 have hr:Co t=false:=by
  have:=Cv t
  rw [h0] at this
  unfold C3 at this
  simp only [Bool.and_eq_true,Bool.not_eq_true'] at this
  exact this.2
 refine Lx.word hu ?_ ?_ ?_
 ·exact N5 hl
 ·intro e;rw [e] at hl;revert hl;decide
 rw [Ry hl hu (fun c hc=>by rw [Qy];exact List.all_eq_true.1 h5 c hc) hR,hr,Cv,h0]
 rfl
theorem Jh (c:UInt8) (of:Str):H5 [c] of=if of.contains c then 1 else 0:=by
 have e2:=Hj [c] of
 have e3:=Mf [c] of
 have hle:runN [c] of≤1:=Nat.sub_le _ _
 have hlen:(Bd [c] of).length=runN [c] of:=by unfold Bd;rw [List.length_take];simp;omega
 rw [e3,←hlen,e2,List.takeWhile_cons]
 cases of.contains c<;>rfl
/-- A word that no letter begins, and no digit. -/
theorem Ud {c:UInt8} {R:Str} (hl:letters.contains c=false) (hd:digs.contains c=false) (h39:c≠39):Au (c::R)=K9 (c::R):=by
 have h1:¬(decide (0<H5 ((c::R).take 1) letters)=true):=by
  rw [show (c::R).take 1=[c] from rfl,Jh,hl];simp
 have h2:¬(decide (0<H5 ((c::R).take 1) digs)=true):=by
  rw [show (c::R).take 1=[c] from rfl,Jh,hd];simp
 have h3:¬(((((c::R).getD 0 0).toNat:Int)==39)=true):=by
  rw [show (c::R).getD 0 0=c from rfl,beq_iff_eq]
  intro h
  exact h39 (UInt8.toNat_inj.1 (by rw [show (39:UInt8).toNat=39 from rfl];omega))
 unfold Au
 rw [if_neg h1,if_neg h2,if_neg h3]
/-- A mark of one sign. -/
theorem Ji {c:UInt8} {R:Str} (hc:(!(letters.contains c) && !(digs.contains c) && !(c==39) && !(blanks.contains c) && !(c==35)&&Lib.contains Vx [c])=true) (hR:∀d r,R=d::r→d≠61):Lx [c] [(5,[c])] R:=by
 simp only [Bool.and_eq_true,Bool.not_eq_true',beq_eq_false_iff_ne] at hc
 obtain ⟨⟨⟨⟨⟨h1,h2⟩,h3⟩,h4⟩,h5⟩,h6⟩:=hc
 refine Lx.word (by simp) h4 h5 ?_
 rw [List.singleton_append,Ud h1 h2 h3]
 have hx:(((((c::R).getD 1 0).toNat:Int)==61))=false:=by
  cases R with
  | nil=>rfl
  | cons d r =>
   rw [show (c::d::r).getD 1 0=d from rfl,beq_eq_false_iff_ne]
   intro h
   exact hR d r rfl (UInt8.toNat_inj.1 (by rw [show (61:UInt8).toNat=61 from rfl];omega))
 unfold K9
 rw [hx,Bool.and_false,if_neg (by simp),if_pos (by rw [show (c::R).take 1=[c] from rfl];exact h6)]
 rfl
/-- A mark of two signs. -/
theorem Wd {c:UInt8} {R:Str} (hc:(!(letters.contains c) && !(digs.contains c) && !(c==39) && !(blanks.contains c) && !(c==35)&&Lib.contains Vw [c,61])=true):Lx [c,61] [(5,[c,61])] R:=by
 simp only [Bool.and_eq_true,Bool.not_eq_true',beq_eq_false_iff_ne] at hc
 obtain ⟨⟨⟨⟨⟨h1,h2⟩,h3⟩,h4⟩,h5⟩,h6⟩:=hc
 refine Lx.word (by simp) h4 h5 ?_
 rw [show [c,61]++R=c::61::R from rfl,Ud h1 h2 h3]
 unfold K9
 have hl:decide ((1:Int)<((c::61::R).length:Int))=true:=by simp;omega
 rw [if_pos (by rw [hl,show (c::61::R).take 2=[c,61] from rfl,h6];rfl)]
 rfl
/-- A reserved word. -/
theorem S1 {u R:Str} (hu:(!(u==[])&&letters.contains (u.headD 0)&&(u.all fun c=>tails.contains c)&&Co u)=true) (hR:Do R):Lx u [(2,u)] R:=by
 simp only [Bool.and_eq_true,Bool.not_eq_true',beq_eq_false_iff_ne] at hu
 obtain ⟨⟨⟨h1,h2⟩,h3⟩,h4⟩:=hu
 refine Lx.word h1 (N5 h2) (fun e=>by rw [e] at h2;revert h2;decide) ?_
 rw [Ry h2 h1 (fun c hc=>List.all_eq_true.1 h3 c hc) hR,h4]
 rfl
/-- A number. -/
theorem ACr {n:Int} (h0:0≤n) (h1:n≤9223372036854775807) {R:Str} (hR:Do R):Lx (Lib.itoa n) [(3,Lib.itoa n)] R:=by
 obtain ⟨u,rfl⟩:∃u:Nat,n=(u:Int):=⟨n.toNat,by omega⟩
 have e0:Lib.itoa (u:Int)=Lib.decDigits u:=by unfold Lib.itoa;rw [if_neg (by omega)];simp
 have hr:=Yj h0 h1
 rw [e0] at hr ⊢
 obtain ⟨c,r,hcr,_⟩:=N1 u
 have hall:=N0 u
 have hcd:digs.contains c=true:=hall c (by rw [hcr];exact List.mem_cons_self)
 have hda:(digs.all fun c => !(letters.contains c) && !(blanks.contains c) && !(c==35))=true:=by kernel_rfl
 have hc:=List.all_eq_true.1 hda c (by simpa using hcd)
 simp only [Bool.and_eq_true,Bool.not_eq_true',beq_eq_false_iff_ne] at hc
 have hw:Bd (Lib.decDigits u++R) digs=Lib.decDigits u:=by rw [Hj];exact Ym hall (ko hR)
 refine Lx.word (by rw [hcr];simp) (by rw [hcr];exact hc.1.2) (by rw [hcr];exact hc.2) ?_
 have h1':¬(decide (0<H5 ((Lib.decDigits u++R).take 1) letters)=true):=by
  rw [hcr,show (c::r++R).take 1=[c] from rfl,Jh,hc.1.1];simp
 have h2':decide (0<H5 ((Lib.decDigits u++R).take 1) digs)=true:=by
  rw [hcr,show (c::r++R).take 1=[c] from rfl,Jh,hcd];simp
 unfold Au
 rw [if_neg h1',if_pos h2']
 unfold Mg
 rw [hw,hr]
/-! What a tree comes to: eval's model. -/
abbrev Rs:=Val×Int
def S3 (e:Int):Rs:=(noV,e)
def ACs (s:Str):Val:=⟨2,0,s.take 200⟩
def I0 (r:Rs):Rs:=if (r.2==0)&&(r.1.kind != 0)&&(r.1.kind != 3) then S3 10 else r
def qj (strong:Val) (a b:Rs):Rs:=if ((I0 a).2 != 0) || ((I0 a).1==strong) then I0 a else if (((I0 b).2 != 0) || ((I0 b).1==strong)) || ((I0 a).1.kind != 0) then I0 b else ((I0 a).1,0)
def ifW:Str:=[105,102]
def wq:Str:=[110,118,108]
def N6:Str:=[105,115,110,117,108,108]
def ACt (t:Str) (a b c:Rs):Rs:=
 if t==ifW then (if (I0 a).2 != 0 then S3 (I0 a).2 else if (I0 a).1==Xl true then b else c)
 else if a.2 != 0 then S3 a.2 else if t==N6 then (Xl (a.1.kind==0),0) else if a.1.kind != 0 then (a.1,0) else b
def AEo (strict:List Val→Rs) (l:List Rs):Rs:=match l.find? (fun q=>q.2 != 0) with|some q=>S3 q.2|none=>if l.any (fun q=>q.1.kind==0) then (noV,0) else strict (l.map (·.1))
def S4 (c:List Col) (l:List Val) (t:Str):Rs:=if Bj t c<0 then S3 9 else (l.getD (Bj t c).toNat noV,0)
def orW:Str:=[111,114]
def AEp:Str:=[97,110,100]
/-- A node, of what its kids come to; what a strict node comes to is a parameter. -/
def yh (strict:Int→Str→List Val→Rs) (c:List Col) (l:List Val) (o:Int) (t:Str) (v:Val) (ks:List Rs):Rs:=
 if o==1 then (v,0) else if o==2 then S4 c l t
 else if (o==5)&&(t==orW) then qj (Xl true) (ks.getD 0 (noV,0)) (ks.getD 1 (noV,0))
 else if (o==5)&&(t==AEp) then qj (Xl false) (ks.getD 0 (noV,0)) (ks.getD 1 (noV,0))
 else if (o==6)&&(((t==ifW) || (t==wq)) || (t==N6)) then ACt t (ks.getD 0 (noV,0)) (ks.getD 1 (noV,0)) (ks.getD 2 (noV,0))
 else AEo (strict o t) ks
mutual
def Pb (strict:Int→Str→List Val→Rs) (c:List Col) (l:List Val):Expr→Rs
 | .mk o t v k=>yh strict c l o t v (Ue strict c l k)
def Ue (strict:Int→Str→List Val→Rs) (c:List Col) (l:List Val):List Expr→List Rs
  | []=>[]
  | e::r=>Pb strict c l e::Ue strict c l r
 end
/-! A tree in a column's place comes to what its value would there. -/
mutual
theorem eval_put {f:Int→Str→List Val→Rs} {c:List Col} {l m:List Val} {s:Str} {y:Expr} (hs:S4 c m s=Pb f c l y) (ho:∀t,t≠s→S4 c m t=S4 c l t):∀x:Expr,Pb f c l (AA0 s y x)=Pb f c m x
 | .mk o t v k=>by
  rw [AA0]
  split
  ·rename_i h
   rw [Bool.and_eq_true,beq_iff_eq,beq_iff_eq] at h
   obtain ⟨rfl,rfl⟩:=h
   rw [←hs,Pb]
   rfl
  rename_i h
  rw [Pb,Pb,Uf hs ho k]
  unfold yh
  by_cases h2:(o==2)=true
  ·have:t≠s:=fun e=>h (by rw [h2,e];simp)
   rw [ho t this]
  rw [if_neg h2,if_neg h2]
theorem Uf {f:Int→Str→List Val→Rs} {c:List Col} {l m:List Val} {s:Str} {y:Expr} (hs:S4 c m s=Pb f c l y) (ho:∀t,t≠s→S4 c m t=S4 c l t):∀k:List Expr,Ue f c l (vt s y k)=Ue f c m k
  | []=>rfl
  | e::r=>by rw [vt,Ue,Ue,eval_put hs ho e,Uf hs ho r]
 end
/-! Who is not named plays no part. -/
/-! What a strict node comes to. -/
/-! Values are plain, and their numbers have 64 bits. -/
structure Fine (v:Val):Prop where
 plain:C1 v=true
 lo : -9223372036854775808≤v.n
 hi:v.n≤9223372036854775807
theorem ql (s:Str):Fine (ACs s):=⟨by
 unfold C1 ACs
 simp only [show ((2:Int)==0)=false from rfl,show ((2:Int)==1)=false from rfl,show ((2:Int)==2)=true from rfl,Bool.false_eq_true,if_false,if_true,show ((0:Int)==0)=true from rfl,Bool.true_and,decide_eq_true_eq,List.length_take]
 omega,by show -9223372036854775808≤(0:Int);decide,by show (0:Int)≤9223372036854775807;decide⟩
/-! A text between marks. -/
theorem Ob {R:Str} (hR:∀c r,R=c::r→c≠39):∀t:Str,Bk (C2 t++39::R)=some ((C2 t).length+1)
 | []=>by
  show Bk (39::R)=some 1
  cases R with
  | nil=>rfl
  | cons d r =>
   have:(d==39)=false:=by simpa using hR d r rfl
   rw [Bk,if_pos (by decide),this]
   rfl
 | c::t=>by
  rw [G6]
  by_cases hc:c=39
  ·subst hc
   rw [show R1 39=[39,39] from rfl]
   show Bk (39::39::(C2 t++39::R))=_
   rw [Bk,if_pos (by decide),if_pos (by decide),Ob hR t]
   simp
  rw [show R1 c=[c] from if_neg hc]
  show Bk (c::(C2 t++39::R))=_
  rw [K8 (by simpa using hc),Ob hR t]
  simp
theorem qm:∀t:Str,(Lib.index (C2 t) [39,39] = -1∧C2 t=t)∨∃i:Nat,Lib.index (C2 t) [39,39]=(i:Int)∧i<t.length∧(C2 t).take i=t.take i∧(C2 t).drop (i+2)=C2 (t.drop (i+1))∧t=t.take i++[39]++t.drop (i+1)
 | []=>.inl ⟨rfl,rfl⟩
 | b::l=>by
  by_cases hb:b=39
  ·subst hb
   refine .inr ⟨0,?_,by simp,rfl,?_,by simp⟩
   ·rw [G6]
    show Lib.index (39::39::C2 l) [39,39]=0
    rw [Lib.index,if_pos (by simp [List.isPrefixOf])]
   rw [G6]
   rfl
  have hd:C2 (b::l)=b::C2 l:=by
   rw [G6,R1,if_neg hb]
   rfl
  have hp:([39,39]:Str).isPrefixOf (b::C2 l)=false:=by
   simp [List.isPrefixOf,Ne.symm hb]
  rcases qm l with ⟨h1,h2⟩|⟨i,h1,h2,h3,h4,h5⟩
  ·refine .inl ⟨?_,by rw [hd,h2]⟩
   rw [hd,Lib.index,hp,h1];rfl
  refine .inr ⟨i+1,?_,by simp;omega,?_,?_,?_⟩
  ·rw [hd,Lib.index,hp,h1,if_neg (by simp),if_neg (by simp)]
   rfl
  ·rw [hd,List.take_succ_cons,List.take_succ_cons,h3]
  ·rw [hd,show i+1+2=(i+2)+1 by omega,List.drop_succ_cons,List.drop_succ_cons,h4]
  rw [List.take_succ_cons,List.drop_succ_cons,List.cons_append,List.cons_append,←h5]
theorem Pc:∀(n:Nat) (t:Str),t.length≤n→Lib.replaceK [39,39] [39] (Lib.count (C2 t) [39,39]) (C2 t)=t
 | n,t,hn=>by
  rcases qm t with ⟨h1,h2⟩|⟨i,h1,h2,h3,h4,h5⟩
  ·rw [Lib.count_miss h1];exact h2
  cases n with
  | zero=>omega
  | succ n =>
   rw [Lib.count_hit (by decide) h1,Nat.add_comm,Lib.replaceK_hit _ _ _ _ i h1]
   have e:i+([39,39]:Str).length=i+2:=rfl
   rw [e,h4,Pc n (t.drop (i+1)) (by rw [List.length_drop];omega),h3]
   exact h5.symm
theorem cx (t:Str):Lib.replaceAll (C2 t) [39,39] [39]=t:=by
 unfold Lib.replaceAll Lib.replace
 rw [if_neg (by decide)]
 have e:Lib.replaceNum (C2 t) [39,39] (-1)=Lib.count (C2 t) [39,39]:=by unfold Lib.replaceNum;rw [if_pos (.inl (by decide))]
 rw [e]
 exact Pc _ t (Nat.le_refl _)
theorem kp {t:Str} (h:t.length≤200):Cp ([39]++C2 t++[39])=(⟨2,0,t⟩,0):=by
 have hin:Vs ([39]++C2 t++[39])=t:=by
  unfold Vs
  have:(([39]++C2 t++[39]:Str).take (([39]++C2 t++[39]:Str).length-1)).drop 1=C2 t:=by
   rw [show ([39]++C2 t++[39]:Str).length-1=([39]++C2 t:Str).length by simp,List.take_left]
   rfl
  rw [this]
  exact cx t
 have ht:Me ([39]++C2 t++[39])=⟨2,0,t⟩:=by
  unfold Me
  rw [hin,List.take_of_length_le h]
 have hp:C1 ⟨2,0,t⟩=true:=by
  unfold C1
  simp
  omega
 have hpr:Bs ⟨2,0,t⟩=[39]++C2 t++[39]:=by
  unfold Bs
  rw [hp,Id]
  rfl
 have hq:Jp ([39]++C2 t++[39])=true:=by
  unfold Jp
  simp [Lib.hasPrefix,Lib.hasSuffix,List.isPrefixOf]
  omega
 unfold Cp
 have n1:(([39]++C2 t++[39]:Str)==[110,117,108,108])=false:=by rw [beq_eq_false_iff_ne];intro e;injection e with e;exact absurd e (by decide)
 have n2:(([39]++C2 t++[39]:Str)==[116,114,117,101])=false:=by rw [beq_eq_false_iff_ne];intro e;injection e with e;exact absurd e (by decide)
 have n3:(([39]++C2 t++[39]:Str)==[102,97,108,115,101])=false:=by rw [beq_eq_false_iff_ne];intro e;injection e with e;exact absurd e (by decide)
 rw [n1,n2,n3,hq]
 simp only [Bool.false_eq_true,if_false,Bool.or_self,if_true]
 unfold Tq
 rw [ht,hpr]
 simp
theorem AAa {t R:Str} (h:t.length≤200) (hR:Do R):Lx ([39]++C2 t++[39]) [(4,t)] R:=by
 have h39:∀c r,R=c::r→c≠39:=fun c r e=>by rcases hR c r e with rfl|rfl|rfl|rfl|rfl<;>decide
 refine Lx.word (by simp) (by show blanks.contains 39=false;kernel_rfl) (by show (39:UInt8)≠35;decide) ?_
 have e:[39]++C2 t++[39]++R=39::(C2 t++39::R):=by simp
 rw [e]
 have h1:¬(decide (0<H5 ((39::(C2 t++39::R)).take 1) letters)=true):=by
  rw [show (39::(C2 t++39::R)).take 1=[39] from rfl,Jh,show letters.contains 39=false by kernel_rfl];simp
 have h2:¬(decide (0<H5 ((39::(C2 t++39::R)).take 1) digs)=true):=by
  rw [show (39::(C2 t++39::R)).take 1=[39] from rfl,Jh,show digs.contains 39=false by kernel_rfl];simp
 unfold Au
 rw [if_neg h1,if_neg h2,if_pos (by rfl)]
 unfold Gi
 rw [show (39::(C2 t++39::R)).drop 1=C2 t++39::R from rfl,Ob h39 t]
 have ht:(39::(C2 t++39::R)).take ((C2 t).length+1+1)=[39]++C2 t++[39]:=by
  rw [←e,show (C2 t).length+1+1=([39]++C2 t++[39]:Str).length by simp]
  exact List.take_left
 simp only [ht,kp h]
 simp
set_option maxRecDepth 4000
theorem We (o:Int) (t:Str) (v:Val) (k:List Expr):A7 (.mk o t v k)=.agg [A2 o,.v (sv t),A2 v.kind,A2 v.n,.v (sv v.s),.slice false 6 (k.map A7)]:=by rw [Ab];rfl
set_option maxRecDepth 8000
/-! Who decides decides: the law's sources, columns and truths. -/
/-! Rows. -/
/-! Rows that differ in what is not named. -/
/-! Who has a kind comes to it. -/
theorem M0 {t:Str} {n:Nat} (h:B0 t=(n:Int)):(t=[108,101,110]∧n=1)∨(t=[115,116,114]∧n=1)∨(t=[110,117,109]∧n=1)∨(t=N6∧n=1)∨(t=wq∧n=2)∨(t=[108,101,102,116]∧n=2)∨(t=[114,105,103,104,116]∧n=2)∨(t=ifW∧n=3):=by
 by_cases hm:t∈arityList.map (·.1)
 ·have ha:∀s∈arityList.map (·.1),(s=[108,101,110]∧B0 s=1)∨(s=[115,116,114]∧B0 s=1)∨(s=[110,117,109]∧B0 s=1)∨(s=N6∧B0 s=1)∨(s=wq∧B0 s=2)∨(s=[108,101,102,116]∧B0 s=2)∨(s=[114,105,103,104,116]∧B0 s=2)∨(s=ifW∧B0 s=3):=by
   have:((arityList.map (·.1)).all fun s=>decide ((s=[108,101,110]∧B0 s=1)∨(s=[115,116,114]∧B0 s=1)∨(s=[110,117,109]∧B0 s=1)∨(s=N6∧B0 s=1)∨(s=wq∧B0 s=2)∨(s=[108,101,102,116]∧B0 s=2)∨(s=[114,105,103,104,116]∧B0 s=2)∨(s=ifW∧B0 s=3)))=true:=by kernel_rfl
   exact fun s hs=>of_decide_eq_true (List.all_eq_true.1 this s hs)
  have:=ha t hm
  rw [h] at this
  rcases this with ⟨e,h2⟩|⟨e,h2⟩|⟨e,h2⟩|⟨e,h2⟩|⟨e,h2⟩|⟨e,h2⟩|⟨e,h2⟩|⟨e,h2⟩
  ·exact .inl ⟨e,by omega⟩
  ·exact .inr (.inl ⟨e,by omega⟩)
  ·exact .inr (.inr (.inl ⟨e,by omega⟩))
  ·exact .inr (.inr (.inr (.inl ⟨e,by omega⟩)))
  ·exact .inr (.inr (.inr (.inr (.inl ⟨e,by omega⟩))))
  ·exact .inr (.inr (.inr (.inr (.inr (.inl ⟨e,by omega⟩)))))
  ·exact .inr (.inr (.inr (.inr (.inr (.inr (.inl ⟨e,by omega⟩))))))
  exact .inr (.inr (.inr (.inr (.inr (.inr (.inr ⟨e,by omega⟩))))))
 have h1:B0 t = -1:=by
  unfold B0
  rw [List.find?_eq_none.2 fun p hp=>by
   simp only [beq_iff_eq]
   rintro rfl
   exact hm (List.mem_map.2 ⟨p,hp,rfl⟩)]
 omega
/-! The print of a tree, and its words. -/
def I8 (least:Nat) (x:Expr) (s:Str):Str:=if least≤levE x then s else 40::(s++[41])
def E7:List Str→Str
 | []=>[]
 | s::r=>44::32::(s++E7 r)
def N7 (o:Int) (t:Str) (v:Val) (k:List Expr) (ss:List Str):Str:=
 if o==1 then Bs v else if o==2 then t
 else if o==3 then 45::I8 6 (k.getD 0 Ah) (ss.getD 0 [])
 else if o==4 then Ri++32::I8 2 (k.getD 0 Ah) (ss.getD 0 [])
 else if o==5 then I8 (Cw (Ag t).toNat) (k.getD 0 Ah) (ss.getD 0 [])++32::(t++32::I8 ((Ag t).toNat+1) (k.getD 1 Ah) (ss.getD 1 []))
 else t++40::((E7 ss).drop 2++[41])
mutual
def A9:Expr→Str
 | .mk o t v k=>N7 o t v k (Kk k)
def Kk:List Expr→List Str
  | []=>[]
  | e::r=>A9 e::Kk r
 end
theorem Jj:∀l,Kk l=l.map A9
 | []=>rfl
 | e::r=>by rw [Kk,Jj r];rfl
theorem qn (v:Val):A9 (F7 v)=Bs v:=by simp [F7,A9,N7]
theorem fm (t:Str):A9 (B7 t)=t:=by simp [B7,A9,N7]
theorem qo (a:Expr):A9 (Bz 3 a)=45::I8 6 a (A9 a):=by simp [Bz,A9,Kk,N7]
theorem yi (a:Expr):A9 (Bz 4 a)=Ri++32::I8 2 a (A9 a):=by simp [Bz,A9,Kk,N7]
theorem qq (t:Str) (a b:Expr):A9 (Cd t a b)=I8 (Cw (Ag t).toNat) a (A9 a)++32::(t++32::I8 ((Ag t).toNat+1) b (A9 b)):=by simp [Cd,A9,Kk,N7]
theorem fp (t:Str) (k:List Expr):A9 (.mk 6 t noV k)=t++40::((E7 (Kk k)).drop 2++[41]):=by simp [A9,N7]
/-- A text that something begins, and no equals sign. -/
def Hd (s:Str):Prop:=∃c r,s=c::r∧c≠61
theorem Hd.not61 {s:Str} (h:Hd s) (Z:Str):∀d r,s++Z=d::r→d≠61:=fun d r e=>by
 obtain ⟨c,q,rfl,hc⟩:=h
 injection e with e1 e2
 rw [←e1]
 exact hc
theorem Hd.app {s:Str} (h:Hd s) (Z:Str):Hd (s++Z):=by
 obtain ⟨c,q,rfl,hc⟩:=h
 exact ⟨c,q++Z,rfl,hc⟩
theorem Hd.brk {k:Nat} {x:Expr} {s:Str} (h:Hd s):Hd (I8 k x s):=by
 unfold I8
 split
 ·exact h
 exact ⟨40,_,rfl,by decide⟩
theorem S5 {R:Str} (h:Do R):∀d r,R=d::r→d≠61:=fun d r e=>by
 rcases h d r e with rfl|rfl|rfl|rfl|rfl<;>decide
theorem Et (Z:Str):Do (32::Z):=fun c r e=>by injection e with e1 e2;exact .inl e1.symm
theorem wr (Z:Str):Do (40::Z):=fun c r e=>by injection e with e1 e2;exact .inr (.inl e1.symm)
theorem fq (Z:Str):Do (41::Z):=fun c r e=>by injection e with e1 e2;exact .inr (.inr (.inl e1.symm))
theorem fu (Z:Str):Do (44::Z):=fun c r e=>by injection e with e1 e2;exact .inr (.inr (.inr (.inl e1.symm)))
theorem wt (Z:Str):Do (59::Z):=fun c r e=>by injection e with e1 e2;exact .inr (.inr (.inr (.inr e1.symm)))
theorem qr {R:Str} (hR:∀d r,R=d::r→d≠61):Lx [40] [(5,[40])] R:=Ji (by kernel_rfl) hR
theorem fw {R:Str} (hR:∀d r,R=d::r→d≠61):Lx [41] [(5,[41])] R:=Ji (by kernel_rfl) hR
theorem fx (R:Str):Lx [44,32] [(5,[44])] R:=by
 have:=Lx.app (R:=R) (Ji (c:=44) (by kernel_rfl) (fun d r e=>by injection e with e1 e2;rw [←e1];decide):Lx [44] [(5,[44])] ([32]++R)) (Lx.blank R)
 simpa using this
theorem Pw {u R:Str} {T:List TK} (h:Lx u T R):Lx (32::u) T R:=by
 have:=Lx.app (Lx.blank (u++R)) h
 simpa using this
theorem AEq {t R:Str} (ht:0≤Ag t):Lx t [opTok t] (32::R):=by
 have hmem:t∈levels.flatten:=by
  rcases Gs t with h|h
  ·exact h
  omega
 have h61:∀d r,(32::R:Str)=d::r→d≠61:=fun d r e=>by injection e with e1 e2;rw [←e1];decide
 simp only [levels,List.flatten_cons,List.flatten_nil,List.cons_append,List.nil_append,List.append_nil,List.mem_cons,List.not_mem_nil,or_false] at hmem
 rcases hmem with rfl|rfl|rfl|rfl|rfl|rfl|rfl|rfl|rfl|rfl|rfl|rfl|rfl|rfl
 ·exact S1 (by kernel_rfl) (Et R)
 ·exact S1 (by kernel_rfl) (Et R)
 ·exact Vo
 ·exact Wd (by kernel_rfl)
 ·exact Vo
 ·exact Wd (by kernel_rfl)
 ·exact Vo
 ·exact Wd (by kernel_rfl)
 ·exact Vo
 ·exact Vo
 ·exact Vo
 ·exact Vo
 ·exact Vo
 exact Vo
theorem ACu {v:Val} (hp:C1 v=true) (h0:0≤v.n) (h1:v.n≤9223372036854775807):(∀R,Do R→Lx (Bs v) [G7 v] R)∧Hd (Bs v):=by
 have hc:=Ie hp
 rcases hc with e|e|⟨e,hs⟩|e|e
 ·rw [e]
  exact ⟨fun R hR=>S1 (by kernel_rfl) hR,⟨110,[117,108,108],by kernel_rfl,by decide⟩⟩
 ·have hpr:Bs v=Lib.itoa v.n:=by
   unfold Bs
   rw [hp,e]
   rfl
  have hv:G7 v=(3,Bs v):=by unfold G7;rw [show v.kind=1 by rw [e]];rfl
  rw [hv,hpr]
  refine ⟨fun R hR=>ACr h0 h1 hR,?_⟩
  obtain ⟨u,hu⟩:∃u:Nat,v.n=(u:Int):=⟨v.n.toNat,by omega⟩
  have e0:Lib.itoa (u:Int)=Lib.decDigits u:=by unfold Lib.itoa;rw [if_neg (by omega)];simp
  rw [hu,e0]
  obtain ⟨c,r,hcr,_⟩:=N1 u
  have hall:=N0 u c (by rw [hcr];exact List.mem_cons_self)
  exact ⟨c,r,hcr,by rintro rfl;revert hall;decide⟩
 ·have hpr:Bs v=[39]++C2 v.s++[39]:=by
   unfold Bs
   rw [hp,e]
   simp only [Bool.not_true,Bool.false_eq_true,if_false,show ((2:Int)==1)=false from rfl,show ((2:Int)==2)=true from rfl,if_true,Id]
  have hv:G7 v=(4,v.s):=by unfold G7;rw [show v.kind=2 by rw [e]];rfl
  rw [hv,hpr]
  exact ⟨fun R hR=>AAa hs hR,⟨39,_,rfl,by decide⟩⟩
 ·rw [e]
  exact ⟨fun R hR=>S1 (by kernel_rfl) hR,⟨102,[97,108,115,101],by kernel_rfl,by decide⟩⟩
 rw [e]
 exact ⟨fun R hR=>S1 (by kernel_rfl) hR,⟨116,[114,117,101],by kernel_rfl,by decide⟩⟩
/-- A tree's print is its words, before what may stand there. -/
def PL (x:Expr):Prop:=(∀R,Do R→Lx (A9 x) (Aa x) R)∧Hd (A9 x)
theorem g7 {x:Expr} (h:PL x) (k:Nat) {R:Str} (hR:Do R):Lx (I8 k x (A9 x)) (Dn k x (Aa x)) R:=by
 unfold I8 Dn
 split
 ·exact h.1 R hR
 have h1:=Lx.app (Lx.app (qr (R:=A9 x++([41]++R)) (h.2.not61 _)) (h.1 ([41]++R) (fq R))) (fw (R:=R) (S5 hR))
 simpa using h1
theorem qt:∀(k:List Expr),(∀y∈k,PL y)→∀R,Do R→Lx (E7 (k.map A9)) (Fx (k.map Aa)) R∧Do (E7 (k.map A9)++R)
 | [],_,R,hR=>⟨Lx.nil R,hR⟩
 | x::r,h,R,hR=>by
  obtain ⟨h1,h2⟩:=qt r (fun y hy=>h y (List.mem_cons_of_mem _ hy)) R hR
  have hx:=(h x List.mem_cons_self).1 _ h2
  refine ⟨?_,fu _⟩
  have h3:Lx ([44,32]++(A9 x++E7 (r.map A9))) ([(5,[44])]++(Aa x++Fx (r.map Aa))) R:=Lx.app (fx _) (Lx.app hx h1)
  simpa [E7,Fx] using h3
theorem g8 {t:Str} (h:Dr t=true):Hd t:=by
 rw [Xj] at h
 simp only [Bool.and_eq_true,Bool.not_eq_true',Bool.or_eq_false_iff,beq_eq_false_iff_ne,decide_eq_false_iff_not] at h
 cases t with
 | nil=>simp at h
 | cons c r =>
  refine ⟨c,r,rfl,?_⟩
  rintro rfl
  have h2:(!Ge 61)=false:=h.1.1.2
  exact absurd h2 (by decide)
theorem cy {t:Str} {n:Nat} (h:B0 t=(n:Int)):Dr t=true:=by
 rcases M0 h with ⟨rfl,_⟩|⟨rfl,_⟩|⟨rfl,_⟩|⟨rfl,_⟩|⟨rfl,_⟩|⟨rfl,_⟩|⟨rfl,_⟩|⟨rfl,_⟩<;>kernel_rfl
theorem Yn:∀(n:Nat) (x:Expr),sizeE x≤n→Bx B3 x=true→Bx Ew x=true→PL x
 | 0,x,hn,_,_=>by have:=Fl x;omega
 | n+1,x,hn,hnd,hrg=>by
  have hnd0:=hnd
  have hrg0:=hrg
  rw [Dx,Bool.and_eq_true] at hnd0 hrg0
  have ih:∀y∈x.kids,PL y:=fun y hy=>Yn n y (Ua hn hy) ((Df _ _).1 hnd0.2 y hy) ((Df _ _).1 hrg0.2 y hy)
  have hNC:=G8 hnd0.1
  cases hNC with
  | val v hp h0 =>
   have hr:=hrg0.1
   unfold Ew at hr
   simp only [Bool.and_eq_true,decide_eq_true_eq] at hr
   unfold PL
   rw [qn,Rk]
   exact ACu hp h0 hr.2
  | name t ht =>
   unfold PL
   rw [fm,O8]
   exact ⟨fun R hR=>Rz ht hR,g8 ht⟩
  | neg a =>
   have ha:=ih a (by simp [Bz,Expr.kids])
   unfold PL
   rw [qo,Rl]
   exact ⟨fun R hR=>Lx.app (u:=[45]) (T:=[(5,[45])]) (Ji (by kernel_rfl) (ha.2.brk.not61 R)) (g7 ha 6 hR),⟨45,_,rfl,by decide⟩⟩
  | no a =>
   have ha:=ih a (by simp [Bz,Expr.kids])
   unfold PL
   rw [yi,W9]
   exact ⟨fun R hR=>Lx.app (T:=[(2,Ri)]) (S1 (by kernel_rfl) (Et _)) (Pw (g7 ha 2 hR)),⟨110,_,rfl,by decide⟩⟩
  | bin t a b ht =>
   have ha:=ih a (by simp [Cd,Expr.kids])
   have hb:=ih b (by simp [Cd,Expr.kids])
   unfold PL
   rw [qq,Mw]
   refine ⟨fun R hR=>Lx.app (g7 ha _ (Et _)) (Pw ?_),ha.2.brk.app _⟩
   exact Lx.app (T:=[opTok t]) (AEq ht) (Pw (g7 hb _ hR))
  | call t k ht =>
   have hk:∀y∈k,PL y:=fun y hy=>ih y (by simpa [Expr.kids] using hy)
   have hnm:=cy ht
   unfold PL
   rw [fp,O9,Jj,U8]
   refine ⟨fun R hR=>?_,(g8 hnm).app _⟩
   match k,hk,ht with
   | [],_,ht =>
    exfalso
    have:=Ub t
    simp at ht
    omega
   | x::r,hk,_ =>
    have hx:=hk x List.mem_cons_self
    obtain ⟨h1,h2⟩:=qt r (fun y hy=>hk y (List.mem_cons_of_mem _ hy)) ([41]++R) (fq R)
    have hin:Lx (A9 x++E7 (r.map A9)) (Aa x++Fx (r.map Aa)) ([41]++R):=Lx.app (hx.1 _ h2) h1
    have hcl:Lx ((A9 x++E7 (r.map A9))++[41]) ((Aa x++Fx (r.map Aa))++[(5,[41])]) R:=Lx.app hin (fw (S5 hR))
    have hop:Lx ([40]++((A9 x++E7 (r.map A9))++[41])) ([(5,[40])]++((Aa x++Fx (r.map Aa))++[(5,[41])])) R:=Lx.app (qr ((((hx.2.app _).app _)).not61 R)) hcl
    have hnl:Lx (t++([40]++((A9 x++E7 (r.map A9))++[41]))) ([(1,t)]++([(5,[40])]++((Aa x++Fx (r.map Aa))++[(5,[41])]))) R:=Lx.app (Rz hnm (wr _)) hop
    simpa [E7,Fx] using hnl
/-! What was parsed nests no deeper than may be. -/
structure NB (N k:Nat) (r:Expr×PS):Prop where
 nest:r.2.nest=N
 need:r.2.code=0→N+Dw k r.1 (Av r.1)≤30
def NF (N k:Nat) (f:PS→Expr×PS):Prop:=∀S:PS,S.nest=N→NB N k (f S)
theorem kq {k k':Nat} (h:k≤k') (x:Expr) (n:Nat):Dw k x n≤Dw k' x n:=by
 unfold Dw
 split
 ·split<;>omega
 rw [if_neg (by omega)];exact Nat.le_refl _
theorem N8 (k:Nat) (x:Expr) (n:Nat):n≤Dw k x n∧Dw k x n≤n+1:=by unfold Dw;split<;>omega
theorem NB.down {N k k':Nat} {r:Expr×PS} (h:NB N k' r) (hk:k≤k'):NB N k r:=⟨h.nest,fun h0=>by
 have:=h.need h0
 have:=kq hk r.1 (Av r.1)
 omega⟩
theorem L5 (e a:Int) (S:PS):(Cl e a S).nest=S.nest:=by unfold Cl;split<;>rfl
theorem Hm {e a:Int} (he:e≠0) (S:PS):(Cl e a S).code≠0:=by
 unfold Cl
 split
 ·exact he
 rename_i h;simpa using h
theorem Oc (l:List Tok) (s:Str) (S:PS):(Cm l s S).nest=S.nest:=by
 unfold Cm
 split
 ·rfl
 split
 ·exact L5 _ _ _
 rfl
theorem Iw {l:List Tok} {s:Str} {S:PS} (h:(Cm l s S).code=0):S.code=0:=by
 unfold Cm at h
 split at h
 ·exact h
 rename_i h0;simpa using h0
theorem Od {N k:Nat} {a:Int} {f:PS→Expr×PS} (hN:N≤30) (hf:N<30→NF (N+1) k f) {S:PS} (hS:S.nest=N):(Aj a f S).2.nest=N∧((Aj a f S).2.code=0→N+1+Dw k (Aj a f S).1 (Av (Aj a f S).1)≤30):=by
 unfold Aj
 split
 ·exact AC0
 rename_i h
 have hlt:N<30:=by simp at h;omega
 have:=hf hlt (An S) (by show S.nest+1=N+1;omega)
 refine ⟨?_,fun h0=>this.need h0⟩
 show (f (An S)).2.nest-1=N
 rw [this.nest]
 rfl
theorem g9 {N:Nat} {l:List Tok} {f:PS→Expr×PS} (hf:NF N 0 f):∀(n:Nat) (r:List Expr×PS),r.2.nest=N→(r.2.code=0→∀y∈r.1,N+Av y≤30)→(argsF l f n r).2.nest=N∧((argsF l f n r).2.code=0→∀y∈(argsF l f n r).1,N+Av y≤30)
 | 0,r,h1,h2=>⟨h1,h2⟩
 | n+1,r,h1,h2=>by
  rw [argsF]
  split
  ·rename_i hc
   simp only [Bool.and_eq_true,beq_iff_eq] at hc
   have hq:=hf (A3 r.2) h1
   refine g9 hf n _ hq.nest (fun h0 y hy=>?_)
   rcases List.mem_append.1 hy with hy|hy
   ·exact h2 hc.1 y hy
   rw [List.mem_singleton.1 hy]
   have:=hq.need h0
   have:=(N8 0 (f (A3 r.2)).1 (Av (f (A3 r.2)).1)).1
   omega
  exact ⟨h1,h2⟩
theorem wu {l:List Expr} {m:Nat} (h:∀y∈l,Av y≤m):cn (Kh l)≤m:=by
 induction l with
 | nil=>exact Nat.zero_le _
 | cons a r ih =>
  rw [Kh,cn]
  have h1:=h a List.mem_cons_self
  have h2:=ih fun y hy=>h y (List.mem_cons_of_mem _ hy)
  omega
theorem wv {N:Nat} {l:List Tok} {a:Int} {f:PS→Expr×PS} (hN:N≤30) (hf:N<30→NF (N+1) 0 f) {S:PS} (hS:S.nest=N):(Hw l a f S).2.nest=N∧((Hw l a f S).2.code=0→∀y∈(Hw l a f S).1,N+1+Av y≤30):=by
 unfold Hw
 split
 ·exact AC0
 rename_i h
 have hlt:N<30:=by simp at h;omega
 have hq:=hf hlt (An S) (by show S.nest+1=N+1;omega)
 obtain ⟨h1,h2⟩:=g9 (l:=l) (hf hlt) l.length ([(f (An S)).1],(f (An S)).2) hq.nest (fun h0 y hy=>by
  rw [List.mem_singleton.1 hy]
  have:=hq.need h0
  have:=(N8 0 (f (An S)).1 (Av (f (An S)).1)).1
  omega)
 refine ⟨?_,h2⟩
 show (Ey l f (An S)).2.nest-1=N
 unfold Ey
 rw [h1]
 rfl
theorem ww {N:Nat} {l:List Tok} {D:Fam} (hN:N≤30) (hD:N<30→NF (N+1) 0 D.ei):NF N 7 (Ct l D):=fun S hS=>by
 have leaf:∀(x:Expr) (S':PS),S'.nest=N→Av x=0→levE x=7→NB N 7 (x,S'):=fun x S' h1 h2 h3=>⟨h1,fun _=>by
  show N+Dw 7 x (Av x)≤30
  unfold Dw
  rw [h3,h2,if_pos (by decide)]
  omega⟩
 have bad:∀(x:Expr) (S':PS),S'.nest=N→S'.code≠0→NB N 7 (x,S'):=fun x S' h1 h2=>⟨h1,fun h=>absurd h h2⟩
 unfold Ct
 split
 ·rename_i h;exact bad _ _ hS (by simpa using h)
 split
 ·exact leaf _ _ hS (Yg _) (Pt _)
 split
 ·exact leaf _ _ hS (Yg _) (Pt _)
 split
 ·split
  ·unfold Ez
   split
   ·exact AC1
   have hk:=wv (l:=l) (a:=(A5 l (A3 S).i).at_) hN hD (show (A3 (A3 S)).nest=N from hS)
   split
   ·exact bad _ _ ((L5 _ _ _).trans ((Oc _ _ _).trans hk.1)) (Hm (by decide) _)
   refine ⟨(Oc _ _ _).trans hk.1,fun h0=>?_⟩
   have hkk:=hk.2 (Iw h0)
   show N+Dw 7 (.mk 6 _ noV (Bf l D (A3 S)).1) (Av (.mk 6 _ noV (Bf l D (A3 S)).1))≤30
   rw [U9]
   unfold Dw
   rw [Rn,if_pos (by decide)]
   by_cases hlt:N<30
   ·have:=wu (l:=(Bf l D (A3 S)).1) (m:=30-N-1) (fun y hy=>by have:=hkk y hy;omega)
    omega
   exfalso
   have hc:=Iw h0
   unfold Bf Hw at hc
   rw [if_pos (by show ((S.nest:Int)==30)=true;simp;omega)] at hc
   exact Hm (by decide) _ hc
  exact leaf _ _ hS (ki _) (Rm _)
 split
 ·have hw:=Od (a:=(A5 l S.i).at_) hN hD (show (A3 S).nest=N from hS)
  refine ⟨(Oc _ _ _).trans hw.1,fun h0=>?_⟩
  have h1:=hw.2 (Iw h0)
  have h2:=(N8 0 (Aj (A5 l S.i).at_ D.ei (A3 S)).1 (Av (Aj (A5 l S.i).at_ D.ei (A3 S)).1)).1
  have h3:=(N8 7 (Aj (A5 l S.i).at_ D.ei (A3 S)).1 (Av (Aj (A5 l S.i).at_ D.ei (A3 S)).1)).2
  show N+Dw 7 (Aj (A5 l S.i).at_ D.ei (A3 S)).1 (Av (Aj (A5 l S.i).at_ D.ei (A3 S)).1)≤30
  omega
 exact AC1
theorem qu {N:Nat} {l:List Tok} {D:Fam} (hN:N≤30) (hD:N<30→NF (N+1) 0 D.ei) (hn:N<30→NF (N+1) 6 D.ne):NF N 6 (I6 l D):=fun S hS=>by
 unfold I6
 split
 ·exact (ww hN hD S hS).down (by decide)
 have hw:=Od (a:=(A5 l S.i).at_) hN hn (show (A3 S).nest=N from hS)
 refine ⟨hw.1,fun h0=>?_⟩
 have h1:=hw.2 h0
 show N+Dw 6 (Bz 3 (Aj (A5 l S.i).at_ D.ne (A3 S)).1) _≤30
 unfold Dw
 rw [Pu,if_pos (by decide),Yh]
 omega
theorem Jk {N k:Nat} {l:List Tok} {f:PS→Expr×PS} (hk:k=0∨k=1∨k=4∨k=5) (hf:NF N (k+1) f):NF N k (Cs l (ofL k) f):=by
 have hloop:∀(n:Nat) (r:Expr×PS),NB N k r→NB N k (Fm l (ofL k) f n r):=by
  intro n
  induction n with
  | zero=>exact fun r h=>h
  | succ n ih =>
   intro r h
   rw [Fm]
   split
   ·rename_i hc
    simp only [Bool.and_eq_true,beq_iff_eq] at hc
    have hq:=hf (A3 r.2) h.nest
    refine ih _ ⟨hq.nest,fun h0=>?_⟩
    have hlv:Ag (A5 l r.2.i).text=(k:Int):=by
     have hm:=hc.2
     unfold isM at hm
     rw [Bool.and_eq_true] at hm
     have:=hm.2
     rw [F9 (Mz hk)] at this
     simpa using this
    have h1:=h.need hc.1
    have h2:=hq.need h0
    have hfl:Cw k=k:=by unfold Cw;rw [if_neg (by omega)]
    show N+Dw k (Cd (A5 l r.2.i).text r.1 (f (A3 r.2)).1) (Av (Cd (A5 l r.2.i).text r.1 (f (A3 r.2)).1))≤30
    rw [Mx,hlv]
    rw [show Dw k (Cd (A5 l r.2.i).text r.1 (f (A3 r.2)).1) _=_ from if_pos (by rw [My,hlv];simp)]
    rw [Int.toNat_natCast,hfl]
    omega
   exact h
 exact fun S hS=>hloop _ _ ((hf S hS).down (Nat.le_succ k))
theorem qv {N:Nat} {l:List Tok} {D:Fam} (hf:NF N 4 (Bo l D)):NF N 3 (Bw l D):=fun S hS=>by
 unfold Bw
 split
 ·exact (hf S hS).down (by decide)
 rename_i hc
 simp only [Bool.or_eq_true,not_or,bne_iff_ne,ne_eq,Decidable.not_not,Bool.not_eq_true',Bool.not_eq_false] at hc
 have hx:=hf S hS
 have hq:=hf (A3 (Bo l D S).2) hx.nest
 refine ⟨hq.nest,fun h0=>?_⟩
 have hlv:Ag (A5 l (Bo l D S).2.i).text=((3:Nat):Int):=by
  have hm:=hc.2
  unfold isM at hm
  rw [Bool.and_eq_true] at hm
  have:=hm.2
  rw [show W6=ofL 3 from rfl,F9 (.inr (.inr (.inl rfl)))] at this
  simpa using this
 have h1:=hx.need hc.1
 have h2:=hq.need h0
 show N+Dw 3 (Cd (A5 l (Bo l D S).2.i).text (Bo l D S).1 (Bo l D (A3 (Bo l D S).2)).1) (Av (Cd (A5 l (Bo l D S).2.i).text (Bo l D S).1 (Bo l D (A3 (Bo l D S).2)).1))≤30
 rw [Mx,hlv]
 rw [show Dw 3 (Cd (A5 l (Bo l D S).2.i).text (Bo l D S).1 (Bo l D (A3 (Bo l D S).2)).1) _=_ from if_pos (by rw [My,hlv];simp)]
 rw [Int.toNat_natCast,show Cw 3=4 from rfl,show 3+1=4 from rfl]
 omega
theorem qw {N:Nat} {l:List Tok} {D:Fam} (hN:N≤30) (hf:NF N 3 (Bw l D)) (hn:N<30→NF (N+1) 2 D.no):NF N 2 (I7 l D):=fun S hS=>by
 unfold I7
 split
 ·exact (hf S hS).down (by decide)
 have hw:=Od (a:=(A5 l S.i).at_) hN hn (show (A3 S).nest=N from hS)
 refine ⟨hw.1,fun h0=>?_⟩
 have h1:=hw.2 h0
 show N+Dw 2 (Bz 4 (Aj (A5 l S.i).at_ D.no (A3 S)).1) _≤30
 unfold Dw
 rw [Wa,if_pos (by decide),fj]
 omega
theorem cz (l:List Tok):∀(d N:Nat),N+d=30→NF N 0 (L2 l (Bu l d))∧NF N 2 (I7 l (Bu l d))∧NF N 6 (I6 l (Bu l d))
 | d,N,h=>by
  have ih:N<30→NF (N+1) 0 (Bu l d).ei∧NF (N+1) 2 (Bu l d).no∧NF (N+1) 6 (Bu l d).ne:=fun hlt=>by
   match d,h with
   | 0,h=>omega
   | d+1,h=>exact cz l d (N+1) (by omega)
  have hneg:=qu (l:=l) (D:=Bu l d) (by omega) (fun h=>(ih h).1) (fun h=>(ih h).2.2)
  have hsum:NF N 4 (Bo l (Bu l d)):=Jk (k:=4) (by decide) (Jk (k:=5) (by decide) hneg)
  have hno:=qw (by omega) (qv hsum) (fun h=>(ih h).2.1)
  exact ⟨Jk (k:=0) (by decide) (Jk (k:=1) (by decide) hno),hno,hneg⟩
theorem kr:Av Ah≤30:=by decide
/-! What nests too deep is told to be too deep. -/
def F2 (l:List Tok) (x:Expr):Prop:=∀(k:Nat) (S:PS) (rest:List TK),(k=0∨k=1∨k=4∨k=5)→k≤levE x→S.code=0→S.nest≤30→30<S.nest+Av x→seg l S.i=Aa x++rest→stops (k+1) rest→(Cs l (ofL k) (pf l (fam l S.nest) (k+1)) S).2.code=18
/-! What was parsed is right, where the words are the lexer's. -/
/-- What the lexer's words are. -/
structure WordOk (t:Tok):Prop where
 name:t.kind=1→Dr t.text=true
 num:t.kind=3→C1 (Cp t.text).1=true∧0≤(Cp t.text).1.n∧(Cp t.text).1.n≤9223372036854775807
def RB (r:Expr×PS):Prop:=r.2.code=0→Bx B3 r.1=true∧Bx Ew r.1=true
def RF (N:Nat) (f:PS→Expr×PS):Prop:=∀S:PS,S.nest=N→RB (f S)
theorem qx {t:Str} {x y:Expr} (ht:0≤Ag t):B3 (Cd t x y)=true:=by
 rw [Gr,Cd,Fa]
 simp [ht,show Gq noV=true from rfl]
theorem kt (x:Expr):B3 (Bz 3 x)=true:=by rw [Gr,Bz,Fa];simp [show Gq noV=true from rfl]
theorem ku (x:Expr):B3 (Bz 4 x)=true:=by rw [Gr,Bz,Fa];simp [show Gq noV=true from rfl]
theorem kv {v:Val} (h:C1 v=true) (h0:0≤v.n):B3 (F7 v)=true:=by rw [Gr,F7,Fa];simp [h,h0]
theorem d7 {t:Str} (h:Dr t=true):B3 (B7 t)=true:=by rw [Gr,B7,Fa];simp [h,show Gq ⟨0,0,[]⟩=true from rfl]
theorem kw {t:Str} {k:List Expr} (h:B0 t=(k.length:Int)):B3 (.mk 6 t noV k)=true:=by rw [Gr,Fa];simp [h,show Gq noV=true from rfl]
theorem qy {t:Str} {x y:Expr} (ht:0≤Ag t) (hx:Bx B3 x=true∧Bx Ew x=true) (hy:Bx B3 y=true∧Bx Ew y=true):Bx B3 (Cd t x y)=true∧Bx Ew (Cd t x y)=true:=by
 rw [Dx,Dx]
 refine ⟨?_,?_⟩
 ·rw [qx ht]
  show (true&&(Bx B3 x&&(Bx B3 y&&true)))=true
  rw [hx.1,hy.1];rfl
 show (Ew (Cd t x y)&&(Bx Ew x&&(Bx Ew y&&true)))=true
 rw [hx.2,hy.2];rfl
theorem qz {o:Int} {x:Expr} (ho:B3 (Bz o x)=true) (hx:Bx B3 x=true∧Bx Ew x=true):Bx B3 (Bz o x)=true∧Bx Ew (Bz o x)=true:=by
 rw [Dx,Dx]
 refine ⟨?_,?_⟩
 ·rw [ho]
  show (true&&(Bx B3 x&&true))=true
  rw [hx.1];rfl
 show (Ew (Bz o x)&&(Bx Ew x&&true))=true
 rw [hx.2];rfl
theorem ga {x:Expr} (hn:B3 x=true) (hr:Ew x=true) (hk:x.kids=[]):Bx B3 x=true∧Bx Ew x=true:=by
 rw [Dx,Dx,hk,hn,hr]
 exact ⟨rfl,rfl⟩
theorem Oe {N:Nat} {a:Int} {f:PS→Expr×PS} (hN:N≤30) (hf:N<30→RF (N+1) f) {S:PS} (hS:S.nest=N):RB (Aj a f S):=by
 unfold Aj
 split
 ·exact uw
 rename_i h
 exact hf (by simp at h;omega) (An S) (by show S.nest+1=N+1;omega)
theorem gc {N:Nat} {l:List Tok} {f:PS→Expr×PS} (hn:NF N 0 f) (hf:RF N f):∀(n:Nat) (r:List Expr×PS),r.2.nest=N→(r.2.code=0→∀y∈r.1,Bx B3 y=true∧Bx Ew y=true)→((argsF l f n r).2.code=0→∀y∈(argsF l f n r).1,Bx B3 y=true∧Bx Ew y=true)
 | 0,r,h1,h2=>h2
 | n+1,r,h1,h2=>by
  rw [argsF]
  split
  ·rename_i hc
   simp only [Bool.and_eq_true,beq_iff_eq] at hc
   refine gc hn hf n _ (hn (A3 r.2) h1).nest (fun h0 y hy=>?_)
   rcases List.mem_append.1 hy with hy|hy
   ·exact h2 hc.1 y hy
   rw [List.mem_singleton.1 hy]
   exact hf (A3 r.2) h1 h0
  exact h2
theorem wx {t:Str} (h:Dl t Pm=true):C1 (Cp t).1=true∧0≤(Cp t).1.n∧(Cp t).1.n≤9223372036854775807:=by
 rw [cq] at h
 simp only [Bool.and_eq_true,litWords,List.contains_cons,List.contains_nil,Bool.or_false,Bool.or_eq_true,beq_iff_eq] at h
 rcases h.2 with rfl|rfl|rfl
 ·exact zd
 ·exact zd
 exact zd
theorem wy {v:Val} (h0:0≤v.n) (h1:v.n≤9223372036854775807):Ew (F7 v)=true:=by
 show (decide (-9223372036854775808≤v.n)&&decide (v.n≤9223372036854775807))=true
 simp only [Bool.and_eq_true,decide_eq_true_eq]
 omega
theorem wz {N:Nat} {l:List Tok} {D:Fam} (hw:∀i,WordOk (A5 l i)) (hN:N≤30) (hD:N<30→NF (N+1) 0 D.ei) (hR:N<30→RF (N+1) D.ei):RF N (Ct l D):=fun S hS=>by
 have val:∀(v:Val) (S':PS),C1 v=true→0≤v.n→v.n≤9223372036854775807→RB (F7 v,S'):=fun v S' h1 h2 h3 _=>ga (kv h1 h2) (wy h2 h3) rfl
 unfold Ct
 split
 ·rename_i h;exact fun h0=>absurd h0 (by simpa using h)
 split
 ·rename_i h1 h2
  rw [Bool.or_eq_true] at h2
  rcases h2 with h2|h2
  ·obtain ⟨a,b,c⟩:=(hw S.i).num (by simpa using h2)
   exact val _ _ a b c
  unfold isM at h2
  rw [Bool.and_eq_true] at h2
  obtain ⟨a,b,c⟩:=wx h2.2
  exact val _ _ a b c
 split
 ·refine val _ _ ?_ (by show (0:Int)≤0;decide) (by show (0:Int)≤9223372036854775807;decide)
  exact (ql _).plain
 split
 ·rename_i h1
  have hnm:=(hw S.i).name (by simpa using h1)
  split
  ·unfold Ez
   split
   ·exact uw
   split
   ·exact uw
   rename_i h2 h3
   intro h0
   have h0':(Cm l D6 (Bf l D (A3 S)).2).code=0:=h0
   have hlen:((Bf l D (A3 S)).1.length:Int)=B0 (A5 l S.i).text:=by
    rw [h0'] at h3
    simpa using h3
   have hc:=Iw h0'
   have hkids:∀y∈(Bf l D (A3 S)).1,Bx B3 y=true∧Bx Ew y=true:=by
    unfold Bf Hw at hc ⊢
    by_cases h30:((A3 (A3 S)).nest:Int)==30
    ·rw [if_pos h30] at hc
     exact ze
    rw [if_neg h30] at hc ⊢
    have hlt:N<30:=by
     have:(A3 (A3 S)).nest=N:=hS
     rw [this] at h30
     simp at h30
     omega
    have hd:(An (A3 (A3 S))).nest=N+1:=by show S.nest+1=N+1;omega
    exact gc (l:=l) (hD hlt) (hR hlt) l.length ([(D.ei (An (A3 (A3 S)))).1],(D.ei (An (A3 (A3 S)))).2) (hD hlt _ hd).nest (fun h0 y hy=>by rw [List.mem_singleton.1 hy];exact hR hlt _ hd h0) hc
   show Bx B3 (.mk 6 _ noV _)=true∧Bx Ew (.mk 6 _ noV _)=true
   rw [Dx,Dx,kw hlen.symm]
   exact ⟨by rw [Bool.true_and];exact (Df _ _).2 fun y hy=>(hkids y hy).1,by
    rw [Bool.and_eq_true]
    exact ⟨rfl,(Df _ _).2 fun y hy=>(hkids y hy).2⟩⟩
  exact fun _=>ga (d7 hnm) rfl rfl
 split
 ·intro h0
  exact Oe hN hR (show (A3 S).nest=N from hS) (Iw h0)
 exact uw
theorem Px {N k:Nat} {l:List Tok} {f:PS→Expr×PS} (hk:k=0∨k=1∨k=4∨k=5) (hn:NF N (k+1) f) (hf:RF N f):RF N (Cs l (ofL k) f):=by
 have hloop:∀(n:Nat) (r:Expr×PS),r.2.nest=N→RB r→RB (Fm l (ofL k) f n r):=by
  intro n
  induction n with
  | zero=>exact fun r _ h=>h
  | succ n ih =>
   intro r hr h
   rw [Fm]
   split
   ·rename_i hc
    simp only [Bool.and_eq_true,beq_iff_eq] at hc
    refine ih _ (hn (A3 r.2) hr).nest (fun h0=>?_)
    have hlv:Ag (A5 l r.2.i).text=(k:Int):=by
     have hm:=hc.2
     unfold isM at hm
     rw [Bool.and_eq_true] at hm
     have:=hm.2
     rw [F9 (Mz hk)] at this
     simpa using this
    exact qy (by omega) (h hc.1) (hf (A3 r.2) hr h0)
   exact h
 exact fun S hS=>hloop _ _ (hn S hS).nest (hf S hS)
theorem AAb {N:Nat} {l:List Tok} {D:Fam} (hn:NF N 4 (Bo l D)) (hf:RF N (Bo l D)):RF N (Bw l D):=fun S hS=>by
 unfold Bw
 split
 ·exact hf S hS
 rename_i hc
 simp only [Bool.or_eq_true,not_or,bne_iff_ne,ne_eq,Decidable.not_not,Bool.not_eq_true',Bool.not_eq_false] at hc
 intro h0
 have hlv:Ag (A5 l (Bo l D S).2.i).text=((3:Nat):Int):=by
  have hm:=hc.2
  unfold isM at hm
  rw [Bool.and_eq_true] at hm
  have:=hm.2
  rw [show W6=ofL 3 from rfl,F9 (.inr (.inr (.inl rfl)))] at this
  simpa using this
 exact qy (by omega) (hf S hS hc.1) (hf (A3 (Bo l D S).2) (hn S hS).nest h0)
theorem r6 (l:List Tok) (hw:∀i,WordOk (A5 l i)):∀(d N:Nat),N+d=30→RF N (L2 l (Bu l d))∧RF N (I7 l (Bu l d))∧RF N (I6 l (Bu l d))
 | d,N,h=>by
  have ihn:N<30→NF (N+1) 0 (Bu l d).ei∧NF (N+1) 2 (Bu l d).no∧NF (N+1) 6 (Bu l d).ne:=fun hlt=>by
   match d,h with
   | 0,h=>omega
   | d+1,h=>exact cz l d (N+1) (by omega)
  have ih:N<30→RF (N+1) (Bu l d).ei∧RF (N+1) (Bu l d).no∧RF (N+1) (Bu l d).ne:=fun hlt=>by
   match d,h with
   | 0,h=>omega
   | d+1,h=>exact r6 l hw d (N+1) (by omega)
  have hN:N≤30:=by omega
  have hnegN:=qu (l:=l) (D:=Bu l d) hN (fun h=>(ihn h).1) (fun h=>(ihn h).2.2)
  have hneg:RF N (I6 l (Bu l d)):=fun S hS=>by
   unfold I6
   split
   ·exact wz hw hN (fun h=>(ihn h).1) (fun h=>(ih h).1) S hS
   exact fun h0=>qz (kt _) (Oe hN (fun h=>(ih h).2.2) (show (A3 S).nest=N from hS) h0)
  have hprodN:NF N 5 (R3 l (Bu l d)):=Jk (k:=5) (by decide) hnegN
  have hprod:RF N (R3 l (Bu l d)):=Px (k:=5) (by decide) hnegN hneg
  have hsumN:NF N 4 (Bo l (Bu l d)):=Jk (k:=4) (by decide) hprodN
  have hsum:RF N (Bo l (Bu l d)):=Px (k:=4) (by decide) hprodN hprod
  have hcmpN:=qv hsumN
  have hcmp:=AAb hsumN hsum
  have hnoN:=qw (l:=l) (D:=Bu l d) hN hcmpN (fun h=>(ihn h).2.1)
  have hno:RF N (I7 l (Bu l d)):=fun S hS=>by
   unfold I7
   split
   ·exact hcmp S hS
   exact fun h0=>qz (ku _) (Oe hN (fun h=>(ih h).2.1) (show (A3 S).nest=N from hS) h0)
  have hboN:NF N 1 (R4 l (Bu l d)):=Jk (k:=1) (by decide) hnoN
  have hbo:RF N (R4 l (Bu l d)):=Px (k:=1) (by decide) hnoN hno
  exact ⟨Px (k:=0) (by decide) hboN hbo,hno,hneg⟩
/-! The lexer's words. -/
theorem r7 {c:UInt8} {r of:Str} (h:decide (0<H5 ((c::r).take 1) of)=true):of.contains c=true:=by
 rw [show (c::r).take 1=[c] from rfl,Jh] at h
 cases hc:of.contains c with
 | true=>rfl
 | false=>rw [hc] at h;simp at h
theorem r8 {q:Str} (h0:q≠[]) (ha:∀c∈q,digs.contains c=true) (he:(Cp q).2=0):C1 (Cp q).1=true∧0≤(Cp q).1.n∧(Cp q).1.n≤9223372036854775807:=by
 cases q with
 | nil=>exact absurd rfl h0
 | cons c r =>
 have hc:=ha c List.mem_cons_self
 have hn:=Rq c hc
 have n1:((c::r:Str)==[110,117,108,108])=false:=by rw [beq_eq_false_iff_ne];intro e;injection e with e;exact hn.2.2.2.1 e
 have n2:((c::r:Str)==[116,114,117,101])=false:=by rw [beq_eq_false_iff_ne];intro e;injection e with e;exact hn.2.2.2.2.1 e
 have n3:((c::r:Str)==[102,97,108,115,101])=false:=by rw [beq_eq_false_iff_ne];intro e;injection e with e;exact hn.2.2.2.2.2 e
 have hq:Jp (c::r)=false:=by
  unfold Jp
  have:Lib.hasPrefix (c::r) [39]=false:=by simp [Lib.hasPrefix,List.isPrefixOf,Ne.symm hn.2.2.1]
  rw [this]
  simp
 unfold Cp at he ⊢
 rw [n1,n2,n3,hq] at he ⊢
 simp only [Bool.false_eq_true,if_false,Bool.or_self] at he ⊢
 split at he
 ·rename_i h1
  rw [if_pos h1]
  have hb:F6 (c::r)=false:=by
   cases hb:F6 (c::r) with
   | false=>rfl
   | true=>unfold Ch at h1;rw [hb] at h1;simp at h1
  unfold Ch at h1 ⊢
  rw [hb] at h1 ⊢
  simp only [Bool.false_eq_true,if_false] at h1 ⊢
  have h43:c.toNat≠43:=fun e=>hn.2.1 (UInt8.toNat_inj.1 (by rw [e];rfl))
  have h45:c.toNat≠45:=fun e=>hn.1 (UInt8.toNat_inj.1 (by rw [e];rfl))
  have hp:=Lib.parseIntB_plain 64 c r h43 h45
  cases hv:Lib.parseIntB 64 (c::r) with
  | ok v =>
   have hb:=Lib.parseIntB_bounds hv
   simp only [show ((2 ^ (64-1):Nat):Int)=9223372036854775808 by decide] at hb
   rw [hp] at hv
   have h0:0≤v:=by
    cases hu:Lib.parseUintB 64 (c::r) with
    | ok u =>
     rw [hu] at hv
     have e:Lib.signlessC (2 ^ (64-1)) (.ok u)=if 2 ^ (64-1)≤u then .range else .ok (u:Int):=rfl
     rw [e] at hv
     split at hv
     ·cases hv
     injection hv with hv
     omega
    | _=>rw [hu] at hv;cases hv
   exact ⟨rfl,h0,by show v≤9223372036854775807;omega⟩
  | _=>first|(rw [hv] at h1;simp at h1;done)|(exact ⟨rfl,Int.le_refl 0,by show (0:Int)≤9223372036854775807;decide⟩)
 rename_i h1
 split at he
 ·simp at he
 simp at he
theorem Yo {p:UInt8→Bool}:∀{l:Str} {b:UInt8},b∈l.takeWhile p→p b=true
 | [],_,h=>by cases h
 | a::r,b,h=>by
  rw [List.takeWhile_cons] at h
  by_cases ha:p a=true
  ·rw [if_pos ha] at h
   rcases List.mem_cons.1 h with rfl|h
   ·exact ha
   exact Yo h
  rw [if_neg ha] at h
  cases h
theorem kx {s:Str} {n:Nat} (h0:s≠[]) (he:(Au s).2.2.2=0):WordOk ⟨(Au s).1,(Au s).2.1,n⟩:=by
 cases s with
 | nil=>exact absurd rfl h0
 | cons c r =>
 unfold Au at he ⊢
 by_cases h1:decide (0<H5 ((c::r).take 1) letters)=true
 ·rw [if_pos h1] at he
  simp only [if_pos h1]
  unfold Jb at he ⊢
  by_cases r1:Co (Bd (c::r) tails)=true
  ·simp only [if_pos r1]
   exact aw
  rw [if_neg r1] at he
  simp only [if_neg r1]
  by_cases r2:(!C3 (Bd (c::r) tails))=true
  ·rw [if_pos r2] at he;simp at he
  simp only [if_neg r2]
  exact ⟨fun _=>by rw [←Cv];simpa using r2,fun h=>by cases h⟩
 rw [if_neg h1] at he
 simp only [if_neg h1]
 by_cases h2:decide (0<H5 ((c::r).take 1) digs)=true
 ·rw [if_pos h2] at he
  simp only [if_pos h2]
  unfold Mg at he ⊢
  refine ⟨(fun h=>by cases h),fun _=>r8 ?_ (fun b hb=>?_) he⟩
  ·show Bd (c::r) digs≠[]
   rw [Hj,List.takeWhile_cons,r7 h2]
   simp
  have hb:b∈Bd (c::r) digs:=hb
  rw [Hj] at hb
  exact Yo hb
 rw [if_neg h2] at he
 simp only [if_neg h2]
 by_cases h3:((((c::r).getD 0 0).toNat:Int)==39)=true
 ·rw [if_pos h3] at he
  simp only [if_pos h3]
  unfold Gi at he ⊢
  split
  ·exact aw
  split
  ·exact aw
  exact aw
 simp only [if_neg h3]
 unfold K9
 split
 ·exact aw
 split
 ·exact aw
 exact aw
theorem Yp:∀(f q:Nat) (s:Str),∀it∈E6 f q s,it.2=0→WordOk it.1
 | 0,_,_,it,h,_=>by cases h
 | f+1,q,s,it,h,h0=>by
  rw [E6] at h
  split at h
  ·cases h
  rename_i hs
  have hne:s≠[]:=by rintro rfl;exact hs rfl
  rcases List.mem_cons.1 h with rfl|h
  ·exact kx hne h0
  split at h
  ·exact Yp f _ _ it h h0
  cases h
theorem AAc (n:Nat):WordOk ⟨0,[],n⟩:=⟨(fun h=>by cases h),(fun h=>by cases h)⟩
set_option maxRecDepth 4000
end Go.SX.Nb
