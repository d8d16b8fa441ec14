/- Texts on the way to this: SoundTexts answers true for whatever it is handed: of any columns and any source that is a migration: printed, and parsed again, it is sound, or is not, at the same move, for the same reason (up to 50 columns, 3000 bytes). (part 7) -/
import Derived.ReadAgain
import Derived.ChangeSame
import Derived.ChangeArms
import Derived.ChangeOld
import Derived.ChangeFn
import Derived.MapPlaces
import Derived.DataReads
import Derived.OpenShut
import Derived.RowKit
import Derived.Deep.DeepHandedRow
import Derived.Test.YtlafnblklafbkaaGreatDoorCards
import Derived.Test.YtlafnblklafbkaaGreatDoorTie
import Derived.Lay
import Derived.Lib.LaidTab
import Derived.Stop.LaidErr
import Derived.Shelf.Vars
import Derived.ChangeBears
import Derived.Lib.ParseIntBTie
import Derived.Test.YtlafnblklafbkaaGreatDoorSoundTextsCardSaidPart6
set_option linter.all false
namespace Go.SX
variable [GI:GlobInv]
open Classical Go.RowKit Go.ChangeShapes
section
variable {P:Program} {H:Type} {enc:TypeId×Value→H}

/-- The first ghost: whatever lies there is read for good. -/
noncomputable def G0 (W:World):Gh:=⟨fun b o=>if (W.cell? ⟨b,o,none⟩).isSome then .fix else .free,fun _=>0,0⟩
theorem wt {W:World} {b o:Nat} {u:Value} (h:W.cell? ⟨b,o,none⟩=some u):(G0 W).tag b o=.fix:=by simp [G0,h]
theorem Na {W:World} {b:Nat} (h:b<W.heap.size):Gk (G0 W) W b:=⟨h,fun o=>by simp only [G0];split<;>simp,fun i hi=>absurd hi (Nat.not_lt_zero _)⟩
theorem rq (W:World):HeapRel (G0 W) [] W:=⟨fun i x h=>by simp at h,rfl,fun i j hi=>absurd hi (Nat.not_lt_zero _)⟩
theorem rr {W:World} (h:Gp W):TagOK (G0 W) W:=by
 refine ⟨fun b o hb=>?_,fun b o i hb=>?_,fun b o L hb=>?_,fun x hx=>?_⟩
 ·simp only [G0] at hb
  split at hb
  ·rename_i hs;exact Option.isSome_iff_exists.1 hs
  exact absurd rfl hb
 ·simp only [G0] at hb;split at hb<;>cases hb
 ·simp only [G0] at hb;split at hb<;>cases hb
 obtain ⟨v,h1,h2⟩:=h x hx
 exact ⟨Na (Array.getElem?_eq_some_iff.1 h1).1,v,h1,h2⟩

/-- What a datum of a plain type AAr as. -/
inductive DRep (P:Program):TypeId→DataW H→AV→Prop
 | int {t:TypeId} {k:IntKind} {n:Int} (hu:P.underlying t=some (.int k)) (wf:(Lit.int k n).wf=true):DRep P t (.lit (.int k n)) (.v (.int k n))
 | bool {t:TypeId} {b:Bool} (hu:P.underlying t=some .bool):DRep P t (.lit (.bool b)) (.v (.bool b))
 | str {t:TypeId} {bs:List UInt8} (hu:P.underlying t=some .string):DRep P t (.lit (.string bs)) (.v (sv bs))
 | nil {t e:TypeId} (hu:P.underlying t=some (.slice e)):DRep P t .nil (.slice false (P.cellsOf e) [])
 | slice {t e:TypeId} {elems spare:List (DataW H)} {ys:List AV} (hu:P.underlying t=some (.slice e)) (hn:ys.length=elems.length)
   (h:∀(i:Nat) (d:DataW H) (y:AV),elems[i]? = some d→ys[i]? = some y→DRep P e d y):DRep P t (.slice elems spare) (.slice false (P.cellsOf e) ys)
 | struct {t:TypeId} {fs:Array Field} {parts:List (DataW H)} {ys:List AV} (hu:P.underlying t=some (.struct fs)) (hn:parts.length=fs.size) (hn':ys.length=fs.size)
   (h:∀(i:Nat) (f:Field) (d:DataW H) (y:AV),fs[i]? = some f→parts[i]? = some d→ys[i]? = some y→DRep P f.type d y):DRep P t (.agg parts) (.agg (ys.flatMap AV.cells))

/-- Types that are made of numbers, texts, bools, slices and structs alone. -/
structure PlainT (P:Program) (T:TypeId→Prop):Prop where
 look:∀t,T t→(P.cellsOf t=1∧((∃k,P.underlying t=some (.int k))∨P.underlying t=some .bool∨P.underlying t=some .string∨(∃e,P.underlying t=some (.slice e)∧T e∧0<P.cellsOf e))) ∨
  (∃fs,P.underlying t=some (.struct fs)∧(∀f∈fs.toList,T f.type)∧P.cellsOf t=(fs.toList.map fun f=>P.cellsOf f.type).sum ∧
   ∀(j:Nat) (f:Field),fs.toList[j]? = some f→f.offset=((fs.toList.take j).map fun f=>P.cellsOf f.type).sum)

/-- The reading of a row of cells. -/
def CRep (W:World) (y:AV) (cs:List Value):Prop:=
 y.cells.length=cs.length∧(∀c∈y.cells,c.one=true)∧∀(j:Nat) (c:AV) (v:Value),y.cells[j]? = some c→cs[j]? = some v→Rep (G0 W) W none c v

theorem CRep.v1 {W:World} {x:Value} (h:x.oneCell'=true):CRep W (.v x) [x]:=
 ⟨rfl,by simp [AV.cells,AV.one,h],fun j c v h1 h2=>by
  match j with
  | 0=>simp [AV.cells] at h1 h2;subst h1;subst h2;exact .v _ _
  | j+1=>simp [AV.cells] at h1⟩

theorem Wr {f:AV→List AV}:∀(ys:List AV) (j:Nat) (c:AV),(ys.flatMap f)[j]? = some c→∃(i:Nat) (y:AV) (q:Nat),ys[i]? = some y∧(f y)[q]? = some c∧j=((ys.take i).map fun y=>(f y).length).sum+q
 | [],j,c,h=>by simp at h
 | y::r,j,c,h=>by
  rw [List.flatMap_cons] at h
  rcases Nat.lt_or_ge j (f y).length with h'|h'
  ·rw [List.getElem?_append_left h'] at h
   exact ⟨0,y,j,rfl,h,by simp⟩
  rw [List.getElem?_append_right h'] at h
  obtain ⟨i,z,q,h1,h2,h3⟩:=Wr r _ c h
  exact ⟨i+1,z,q,h1,h2,by simp only [List.take_succ_cons,List.map_cons,List.sum_cons];omega⟩
theorem Jq {α:Type} {R:Nat→α→Prop}:∀(n:Nat),(∀i,i<n→∃y,R i y)→∃ys:List α,ys.length=n∧∀(i:Nat) (y:α),ys[i]? = some y→R i y
 | 0,_=>⟨[],rfl,fun i y h=>by simp at h⟩
 | n+1,h=>by
  obtain ⟨ys,h1,h2⟩:=Jq n (fun i hi=>h i (by omega))
  obtain ⟨y,hy⟩:=h n (by omega)
  refine ⟨ys++[y],by simp [h1],fun i z hz=>?_⟩
  rcases Nat.lt_or_ge i n with h'|h'
  ·rw [List.getElem?_append_left (by omega)] at hz;exact h2 i z hz
  rw [List.getElem?_append_right (by omega)] at hz
  have:i=n:=by
   have:=(List.getElem?_eq_some_iff.1 hz).1
   simp at this;omega
  subst this
  rw [h1] at hz
  simp at hz
  exact hz ▸ hy
theorem Lc {α β:Type} {f:α→Nat} {g:β→Nat}:∀(l:List α) (m:List β),l.length=m.length→(∀(i:Nat) (a:α) (b:β),l[i]? = some a→m[i]? = some b→f a=g b)→(l.map f).sum=(m.map g).sum
 | [],[],_,_=>rfl
 | [],b::m,h,_=>by simp at h
 | a::l,[],h,_=>by simp at h
 | a::l,b::m,h,hh=>by
  simp only [List.map_cons,List.sum_cons]
  rw [hh 0 a b rfl rfl,Lc l m (by simpa using h) (fun i a b h1 h2=>hh (i+1) a b h1 h2)]

theorem mu {T:TypeId→Prop} (PT:PlainT P T) {W:World}:∀(n:Nat) (t:TypeId) (cs:List Value) (x:DataW H×List MemPlace),T t→DataW.trod enc P W 0 (fun _=>true) true n t cs=some x →
  ∃y,DRep P t x.1 y∧CRep W y cs∧cs.length=P.cellsOf t:=by
 intro n
 induction n with
 | zero=>intro t cs x _ h;simp [DataW.trod] at h
 | succ n ih =>
  intro t cs x hT h
  rcases PT.look t hT with ⟨hc1,⟨k,hu⟩|hu|hu|⟨e,hu,he,hz⟩⟩|⟨fs,hu,hf,hsum,hoff⟩
  ·obtain ⟨m,rfl,rfl,hw⟩:=DataW.trod_int hu h
   exact ⟨_,.int hu hw,.v1 rfl,hc1.symm⟩
  ·obtain ⟨b,rfl,rfl⟩:=DataW.trod_bool hu h
   exact ⟨_,.bool hu,.v1 rfl,hc1.symm⟩
  ·obtain ⟨s,rfl,rfl,_⟩:=DataW.trod_string hu h
   exact ⟨_,.str hu,.v1 rfl,hc1.symm⟩
  ·rcases DataW.trod_slice hu h with ⟨rfl,rfl⟩|⟨a,len,cap,elems,rest,m,hm,rfl,rfl,hb,hlc,hcm,hel,hE,_,_⟩
   ·refine ⟨_,.nil hu,⟨rfl,by simp [AV.cells,AV.one],fun j c v h1 h2=>?_⟩,hc1.symm⟩
    match j with
    | 0=>simp [AV.cells] at h1 h2;subst h1;subst h2;exact .slice0 _ _ _
    | j+1=>simp [AV.cells] at h1
   injection hm with hm
   subst hm
   subst hel
   have hEi:∀i,i<elems.length→∃y,(∀d,elems[i]? = some d→DRep P e d.1 y)∧∃ci,W.cells? 0 (a.add (i*P.cellsOf e)) (P.cellsOf e)=some ci∧CRep W y ci:=fun i hi=>by
    have h1:=hE i hi
    rw [List.getElem?_eq_getElem hi,Option.bind_eq_some_iff] at h1
    obtain ⟨ci,h2,h3⟩:=h1
    obtain ⟨y,h4,h5,_⟩:=ih e ci _ he h3
    exact ⟨y,fun d hd=>by rw [List.getElem?_eq_getElem hi] at hd;injection hd with hd;subst hd;exact h4,ci,h2,h5⟩
   obtain ⟨ys,hyl,hys⟩:=Jq elems.length hEi
   refine ⟨.slice false (P.cellsOf e) ys,.slice hu (by simp [hyl]) (fun i d y hd hy=>?_),⟨rfl,by simp [AV.cells,AV.one],fun j c v h1 h2=>?_⟩,hc1.symm⟩
   ·rw [List.getElem?_map,Option.map_eq_some_iff] at hd
    obtain ⟨d',hd',rfl⟩:=hd
    exact (hys i y hy).1 d' hd'
   match j with
   | j+1=>simp [AV.cells] at h1
   | 0 =>
    simp [AV.cells] at h1 h2
    subst h1;subst h2
    by_cases h0:elems.length=0
    ·have:ys=[]:=List.eq_nil_of_length_eq_zero (by omega)
     subst this
     rw [h0]
     exact .sliceE _ _ _ _
    have hspot:a.spot=none:=by
     obtain ⟨ci,hci,_⟩:=(hys 0 ys[0] (List.getElem?_eq_getElem (by omega))).2
     obtain ⟨_,g1,g2⟩:=World.cells?_some hci
     have g3:=g2 0 hz
     rw [List.getElem?_eq_getElem (by omega)] at g3
     simp only [Nat.zero_mul,Addr.add,if_true] at g3
     unfold World.cell? at g3
     split at g3
     ·split at g3
      ·cases g3
      rename_i hs;simpa using hs
     cases g3
    refine .slice _ false _ ys a _ cap (fun i j=>(W.cell? ⟨a.block,a.off+i*P.cellsOf e+j,none⟩).getD undef) hspot hyl.symm hlc (fun x hx=>?_) (fun x hx=>?_) (fun i x j y hx hy=>?_) (fun i x j y hx hy=>?_) (fun h=>by cases h)
    ·obtain ⟨i,hi⟩:=List.getElem?_of_mem hx
     obtain ⟨ci,hci,hcr⟩:=(hys i x hi).2
     rw [hcr.1]
     exact (World.cells?_some hci).2.1
    ·obtain ⟨i,hi⟩:=List.getElem?_of_mem hx
     obtain ⟨ci,hci,hcr⟩:=(hys i x hi).2
     exact hcr.2.1
    ·obtain ⟨ci,hci,hcr⟩:=(hys i x hx).2
     obtain ⟨_,g1,g2⟩:=World.cells?_some hci
     have hj:j<P.cellsOf e:=by
      have:=(List.getElem?_eq_some_iff.1 hy).1
      rw [hcr.1] at this;omega
     have g3:=g2 j hj
     rw [List.getElem?_eq_getElem (by omega),Bd hspot,Bd rfl] at g3
     exact ⟨wt g3,by rw [g3];rfl⟩
    obtain ⟨ci,hci,hcr⟩:=(hys i x hx).2
    obtain ⟨_,g1,g2⟩:=World.cells?_some hci
    have hj:j<P.cellsOf e:=by
     have:=(List.getElem?_eq_some_iff.1 hy).1
     rw [hcr.1] at this;omega
    have g3:=g2 j hj
    rw [List.getElem?_eq_getElem (by omega),Bd hspot,Bd rfl] at g3
    simp only at g3
    rw [g3]
    exact hcr.2.2 j y _ hy (List.getElem?_eq_getElem (by omega))
  obtain ⟨xs,m,hm,rfl,hcl,hxl,hX⟩:=DataW.trod_struct hu h
  injection hm with hm
  subst hm
  have hXi:∀i,i<fs.size→∃y,∀(f:Field),fs[i]? = some f→(∀d,xs[i]? = some d→DRep P f.type d.1 y)∧CRep W y ((cs.drop f.offset).take (P.cellsOf f.type))∧y.cells.length=P.cellsOf f.type:=fun i hi=>by
   have h1:=hX i fs[i] (Array.getElem?_eq_getElem hi)
   rw [List.getElem?_eq_getElem (by omega)] at h1
   obtain ⟨y,h2,h3,h4⟩:=ih _ _ _ (hf _ (by simp)) h1
   refine ⟨y,fun f hf'=>?_⟩
   rw [Array.getElem?_eq_getElem hi] at hf'
   injection hf' with hf'
   subst hf'
   exact ⟨fun d hd=>by rw [List.getElem?_eq_getElem (by omega)] at hd;injection hd with hd;subst hd;exact h2,h3,by rw [h3.1,h4]⟩
  obtain ⟨ys,hyl,hys⟩:=Jq fs.size hXi
  have hlenI:∀(i:Nat),((ys.take i).map fun y=>y.cells.length).sum=((fs.toList.take i).map fun f=>P.cellsOf f.type).sum:=fun i=>by
   refine Lc _ _ (by simp [hyl]) (fun j y f h1 h2=>?_)
   rw [List.getElem?_take] at h1 h2
   split at h1
   ·rename_i hj
    rw [if_pos hj] at h2
    exact (hys j y h1 f (by simpa using h2)).2.2
   cases h1
  have htot:(ys.flatMap AV.cells).length=cs.length:=by
   rw [List.length_flatMap,hcl,hsum]
   refine Lc _ _ (by simp [hyl]) (fun j y f h1 h2=>(hys j y h1 f (by simpa using h2)).2.2)
  refine ⟨.agg (ys.flatMap AV.cells),.struct hu (by simp [hxl]) hyl (fun i f d y hf' hd hy=>?_),⟨htot,fun c hc=>?_,fun j c v h1 h2=>?_⟩,hcl⟩
  ·rw [List.getElem?_map,Option.map_eq_some_iff] at hd
   obtain ⟨d',hd',rfl⟩:=hd
   exact (hys i y hy f hf').1 d' hd'
  ·obtain ⟨y,hy,hcy⟩:=List.mem_flatMap.1 hc
   obtain ⟨i,hi⟩:=List.getElem?_of_mem hy
   have hlt:i<fs.size:=by rw [←hyl];exact (List.getElem?_eq_some_iff.1 hi).1
   exact ((hys i y hi fs[i] (Array.getElem?_eq_getElem hlt)).2.1).2.1 c hcy
  obtain ⟨i,y,q,g1,g2,rfl⟩:=Wr ys j c h1
  have hlt:i<fs.size:=by rw [←hyl];exact (List.getElem?_eq_some_iff.1 g1).1
  obtain ⟨_,k2,k3⟩:=hys i y g1 fs[i] (Array.getElem?_eq_getElem hlt)
  have hq:q<P.cellsOf (fs[i]).type:=by have:=(List.getElem?_eq_some_iff.1 g2).1;omega
  refine k2.2.2 q c v g2 ?_
  rw [List.getElem?_take,if_pos hq,List.getElem?_drop,hoff i fs[i] (by simp [hlt]),←hlenI i]
  exact h2

/-- A measure of data. -/
structure Bulk (B:DataW H→Nat):Prop where
 str:∀bs,bs.length≤B (.lit (.string bs))
 slice:∀elems spare,elems.length≤B (.slice elems spare)∧∀d∈elems,B d≤B (.slice elems spare)
 agg:∀parts,∀d∈parts,B d≤B (.agg parts)
theorem DRep.int' {t:TypeId} {k:IntKind} {d:DataW H} {y:AV} (hu:P.underlying t=some (.int k)) (h:DRep P t d y):∃n,d=.lit (.int k n)∧y=.v (.int k n)∧k.min≤n∧n≤k.max:=by
 cases h with
 | int hu' wf=>rw [hu] at hu';injection hu' with e;injection e with e;subst e;exact ⟨_,rfl,rfl,by simpa [Lit.wf] using wf⟩
 | _ hu'=>rw [hu] at hu';cases hu'
theorem DRep.str' {t:TypeId} {d:DataW H} {y:AV} (hu:P.underlying t=some .string) (h:DRep P t d y):∃s,d=.lit (.string s)∧y=.v (sv s):=by
 cases h with
 | str hu'=>exact ⟨_,rfl,rfl⟩
 | _ hu'=>rw [hu] at hu';cases hu'
theorem DRep.slice' {t e:TypeId} {d:DataW H} {y:AV} {B:DataW H→Nat} (hB:Bulk B) {α:Type} (A:α→AV) (R:α→Prop) {b:Nat} (hu:P.underlying t=some (.slice e)) (h:DRep P t d y) (hb:B d≤b)
  (hE:∀d y,B d≤b→DRep P e d y→∃x,y=A x∧R x):∃l:List α,y=.slice false (P.cellsOf e) (l.map A)∧l.length≤b∧∀x∈l,R x:=by
 cases h with
 | nil hu'=>rw [hu] at hu';injection hu' with e';injection e' with e';subst e';exact ⟨[],rfl,Nat.zero_le _,fun x hx=>by cases hx⟩
 | slice hu' hn hh =>
  rw [hu] at hu';injection hu' with e';injection e' with e';subst e'
  rename_i elems spare ys
  obtain ⟨h1,h2⟩:=hB.slice elems spare
  have key:∀(ys:List AV) (es:List (DataW H)),ys.length=es.length→(∀d∈es,B d≤b)→(∀(i:Nat) (d:DataW H) (y:AV),es[i]? = some d→ys[i]? = some y→DRep P e d y)→∃l:List α,ys=l.map A∧∀x∈l,R x:=by
   intro ys
   induction ys with
   | nil=>exact fun es _ _ _=>⟨[],rfl,fun x hx=>by cases hx⟩
   | cons y ys ih =>
    intro es hl hb2 hr
    cases es with
    | nil=>simp at hl
    | cons d es =>
     obtain ⟨x,rfl,hx⟩:=hE d y (hb2 d (by simp)) (hr 0 d y rfl rfl)
     obtain ⟨l,rfl,hR⟩:=ih es (by simpa using hl) (fun d hd=>hb2 d (by simp [hd])) (fun i d y a c=>hr (i+1) d y a c)
     exact ⟨x::l,rfl,fun z hz=>by
      rcases List.mem_cons.1 hz with rfl|hz
      ·exact hx
      exact hR z hz⟩
  obtain ⟨l,rfl,hR⟩:=key ys elems hn (fun d hd=>Nat.le_trans (h2 d hd) hb) hh
  exact ⟨l,rfl,by simp at hn;omega,hR⟩
 | _ hu'=>rw [hu] at hu';cases hu'
theorem DRep.struct' {t:TypeId} {fs:Array Field} {d:DataW H} {y:AV} {B:DataW H→Nat} (hB:Bulk B) (hu:P.underlying t=some (.struct fs)) (h:DRep P t d y):
  ∃ys:List AV,ys.length=fs.size∧y=.agg (ys.flatMap AV.cells)∧∀(i:Nat) (f:Field) (z:AV),fs[i]? = some f→ys[i]? = some z→∃d',B d'≤B d∧DRep P f.type d' z:=by
 cases h with
 | struct hu' hn hn' hh =>
  rw [hu] at hu';injection hu' with e';injection e' with e';subst e'
  rename_i parts ys
  refine ⟨ys,hn',rfl,fun i f z h1 h2=>?_⟩
  have hlt:i<parts.length:=by rw [hn];exact (Array.getElem?_eq_some_iff.1 h1).1
  exact ⟨parts[i],hB.agg parts _ (List.getElem_mem hlt),hh i f parts[i] z h1 (List.getElem?_eq_getElem hlt) h2⟩
 | _ hu'=>rw [hu] at hu';cases hu'

/-- An argument's reading. -/
theorem rt {T:TypeId→Prop} (PT:PlainT P T) {W:World} {t:TypeId} {v:Value} {d:DataW H} {ps:List MemPlace} {b0:Nat} (hT:T t) (hok:Value.okWide P W .any b0 t v) (h:DataW.Trod enc P W 0 (fun _=>true) true t v d ps):
  ∃y,DRep P t d y∧Rep (G0 W) W none y v:=by
 obtain ⟨n,hn⟩:=h
 obtain ⟨y,h1,h2,h3⟩:=mu PT n t _ _ hT hn
 refine ⟨y,h1,?_⟩
 rcases PT.look t hT with ⟨hc1,hone⟩|⟨fs,hu,_⟩
 ·have hva:∀cs,v≠.agg cs:=fun cs e=>by
   subst e
   rcases hone with ⟨k,hu⟩|hu|hu|⟨e,hu,he,hz⟩<;>simp [Value.okWide,hu,Cell.okWide,Cell.ok] at hok
  have hvc:v.cells=#[v]:=by cases v<;>first|rfl|exact absurd rfl (hva _)
  have hyc:y.cells=[y]:=by
   cases h1 with
   | struct hu=>rcases hone with ⟨k,hu'⟩|hu'|hu'|⟨e,hu',he,hz⟩<;>rw [hu] at hu'<;>cases hu'
   | _=>rfl
  have:=h2.2.2 0 y v (by rw [hyc];rfl) (by rw [hvc];rfl)
  exact this
 obtain ⟨cs,rfl,hsz,_⟩:∃cs,v=.agg cs∧cs.size=P.cellsOf t∧Row.okWide P W .any b0 t cs:=by
  simp only [Value.okWide,hu] at hok
  exact hok
 cases h1 with
 | struct hu' hn1 hn2 hh =>
  refine .agg _ _ _ (by have:=h2.1;simp only [AV.cells,Value.cells,Array.length_toList] at this;exact this.symm) h2.2.1 (fun i c u a b=>h2.2.2 i c u a (by simpa [Value.cells] using b))
 | int hu'=>rw [hu] at hu';cases hu'
 | bool hu'=>rw [hu] at hu';cases hu'
 | str hu'=>rw [hu] at hu';cases hu'
 | nil hu'=>rw [hu] at hu';cases hu'
 | slice hu'=>rw [hu] at hu';cases hu'

def DReps (P:Program):List TypeId→List (DataW H)→List AV→Prop
 | [],[],[]=>True
 | t::ts,d::ds,y::ys=>DRep P t d y∧DReps P ts ds ys
 | _,_,_=>False

theorem DReps.cons' {t:TypeId} {ts:List TypeId} {ds:List (DataW H)} {ys:List AV} (h:DReps P (t::ts) ds ys):∃d ds' y ys',ds=d::ds'∧ys=y::ys'∧DRep P t d y∧DReps P ts ds' ys':=by
 match ds,ys,h with
 | d::ds',y::ys',⟨h1,h2⟩=>exact ⟨d,ds',y,ys',rfl,rfl,h1,h2⟩
 | [],_,h=>simp [DReps] at h
 | _::_,[],h=>simp [DReps] at h
theorem DReps.nil' {ds:List (DataW H)} {ys:List AV} (h:DReps P [] ds ys):ds=[]∧ys=[]:=by
 match ds,ys,h with
 | [],[],_=>exact ⟨rfl,rfl⟩
 | [],_::_,h=>simp [DReps] at h
 | _::_,_,h=>simp [DReps] at h
theorem Sr {T:TypeId→Prop} (PT:PlainT P T) {W:World} {b0:Nat}:∀(ts:List TypeId) (vs:List Value) (ds:List (DataW H)) (ps:List MemPlace),(∀t∈ts,T t) →
  (∀(j:Nat) t v,ts[j]? = some t→vs[j]? = some v→Value.okWide P W .any b0 t v)→DataW.TrodAll enc P W 0 (fun _=>true) true ts vs ds ps →
  ∃ys,DReps P ts ds ys∧ys.length=vs.length∧∀(i:Nat) (y:AV) (u:Value),ys[i]? = some y→vs[i]? = some u→Rep (G0 W) W none y u
 | [],[],[],_,_,_,_=>⟨[],trivial,rfl,fun i y u h=>by simp at h⟩
 | t::ts,v::vs,d::ds,ps,hT,hok,⟨p,q,h1,h2,_⟩=>by
  obtain ⟨y,k1,k2⟩:=rt PT (hT t (by simp)) (hok 0 t v rfl rfl) h1
  obtain ⟨ys,k3,k4,k5⟩:=Sr PT ts vs ds q (fun t ht=>hT t (by simp [ht])) (fun j t v a b=>hok (j+1) t v a b) h2
  refine ⟨y::ys,⟨k1,k3⟩,by simp [k4],fun i z u a b=>?_⟩
  match i with
  | 0=>simp at a b;subst a;subst b;exact k2
  | i+1=>exact k5 i z u a b
 | [],_::_,_,_,_,_,h=>by simp [DataW.TrodAll] at h
 | [],[],_::_,_,_,_,h=>by simp [DataW.TrodAll] at h
 | _::_,[],_,_,_,_,h=>by simp [DataW.TrodAll] at h
 | _::_,_::_,[],_,_,_,h=>by simp [DataW.TrodAll] at h

theorem Oa {W:World} {sp:Nat→Bool} {hd:Bool}:∀{ts:List TypeId} {vs:List Value} {ds:List (DataW H)} {ps:List MemPlace},DataW.TrodAll enc P W 0 sp hd ts vs ds ps→ds.length=ts.length
 | [],[],[],_,_=>rfl
 | _::_,_::_,_::_,_,⟨_,_,_,h,_⟩=>by rw [List.length_cons,List.length_cons,Oa h]
 | [],_::_,_,_,h=>by simp [DataW.TrodAll] at h
 | [],[],_::_,_,h=>by simp [DataW.TrodAll] at h
 | _::_,[],_,_,h=>by simp [DataW.TrodAll] at h
 | _::_,_::_,[],_,h=>by simp [DataW.TrodAll] at h
theorem Jr {W W':World} {sp:Nat→Bool}:∀{ts:List TypeId} {vs:List Value} {ds:List (DataW H)} {ps:List MemPlace},DataW.TrodAll enc P W 0 sp true ts vs ds ps→(∀p∈ps,W.sameAt W' p)→DataW.TrodAll enc P W' 0 sp true ts vs ds ps
 | [],[],[],_,h,_=>h
 | _::_,_::_,_::_,_,⟨p,q,⟨n,hn⟩,h2,e⟩,hs=>⟨p,q,⟨n,DataW.trod_carry n _ _ _ hn (fun x hx=>hs x (by rw [e];exact List.mem_append_left _ hx))⟩,Jr h2 (fun x hx=>hs x (by rw [e];exact List.mem_append_right _ hx)),e⟩
 | [],_::_,_,_,h,_=>by simp [DataW.TrodAll] at h
 | [],[],_::_,_,h,_=>by simp [DataW.TrodAll] at h
 | _::_,[],_,_,h,_=>by simp [DataW.TrodAll] at h
 | _::_,_::_,[],_,h,_=>by simp [DataW.TrodAll] at h

/-- **A law that answers true, for whatever can be read.** -/
theorem h9 {f:FuncId} {fn:Func} {s:ChangeSpec} {T:TypeId→Prop} {tb:TypeId} {W:World} {base:Nat} {args:Array Value} {ds gs:List (DataW H)} {before:List MemPlace} (K:Kids P (·<P.types.size)) (hz:∀t e,t<P.types.size→P.underlying t=some (.slice e)→0<P.cellsOf e)
  (PT:PlainT P T) (hT:∀t∈fn.params.toList,T t∧t<P.types.size) (hb:P.underlying tb=some .bool) (hres:fn.resultTypes=#[tb]) (hvars:s.vars=[])
  (hspec:∀ds:List (DataW H),ds.length=fn.params.size→s.fn H ds={ results:=[.lit (.bool true)],args:=ds })
  (hval:∀(j:Nat) t v,fn.params[j]? = some t→args[j]? = some v→Value.okWide P W .any base t v) (hW:DataW.Whole enc P fn.params.toList s.vars false W args.toList ds gs before)
  (hglob:Gp W)
  (main:∀ys:List AV,DReps P fn.params.toList ds ys→AFun P f ys [] (.v (.bool true))) (hbd:GI.bd≤0:=by exact Nat.le_refl 0):
  Calls P f args W (fun e W'=>∃v,e=.returned v∧s.post enc P fn false true false false W args v W'):=by
 have hW0:=hW
 obtain ⟨p,q,hA,hV,hpq,hfz,hnd⟩:=hW
 rw [hvars] at hV
 obtain ⟨rfl,rfl⟩:=trodVars_none hV
 rw [List.append_nil] at hpq
 subst hpq
 obtain ⟨ys,h1,h2,h3⟩:=Sr PT _ _ _ _ (fun t ht=>(hT t ht).1) (fun j t v a b=>hval j t v (by simpa using a) (by simpa using b)) hA
 have hlen:=Oa hA
 have hc:=main ys h1 0 (G0 W) W args (by simpa using h2.symm) (fun i y u a b=>(h3 i y u a (by simpa using b)).lift) (rq W) (rr hglob)
 refine (callsIn_wide.1 (hc hbd)).mono ?_
 rintro e W' ⟨v,G',r,H',rfl,hr,hH,hTg,hk,hl,rfl,rfl⟩
 have hv:=I4 hr
 subst hv
 refine ⟨_,rfl,ds,[],before,[],before,[],hW0,?_,?_,?_,?_,fun h=>by cases h⟩
 ·rw [hres,List.append_nil,hspec ds (by simpa using hlen)]
  exact trodAll_cons_mk (p:=[]) (shut_bool hb true) trodAll_mk0
 ·rw [List.append_nil,hspec ds (by simpa using hlen)]
  refine Jr (DataW.TrodAll.respare K hz (fun t ht=>(hT t ht).2) hA (fun p hp=>by simpa using hW0.lt p hp)) (fun p hp=>?_)
  have hlt:=hW0.lt p hp
  have hb:=(hk.old _ (Na hlt)).1
  cases p with
  | cell b o=>exact D0 hb
  | map b=>exact hb
 ·rw [hvars,List.append_nil,hspec ds (by simpa using hlen)]
  rfl
 refine ⟨hk.os,hk.output,fun i hi=>?_⟩
 have hb:=(hk.old i (Na hi)).1
 rw [hb]
 cases ho:W.heap[i]? with
 | none=>simp
 | some o=>cases o<;>simp
end
end Go.SX
namespace Go.Proofs.YtlafnblklafbkaaGreatDoor
open Go Go.SX Go.SX.Nb Go.ChangeShapes Go.RowKit
set_option maxRecDepth 100000

theorem own:ownKnob Tryz.prog.godebug=none:=by kernel_rfl
theorem kids:Kids Tryz.prog (·<Tryz.prog.types.size):=kids_rows (by kernel_rfl) (by kernel_rfl)
theorem full:∀t e,t<Tryz.prog.types.size→Tryz.prog.underlying t=some (.slice e)→0<Tryz.prog.cellsOf e:=slices_full_of Tryz.prog (by kernel_rfl)
theorem mv {H:Type}:∀d:DataW H,1≤Rows.uptoBulk d
 | .lit (.string b)=>by rw [Rows.uptoBulk];omega
 | .lit (.bool _)=>by simp [Rows.uptoBulk]
 | .lit (.int _ _)=>by simp [Rows.uptoBulk]
 | .lit (.float _ _)=>by simp [Rows.uptoBulk]
 | .lit .nil=>by simp [Rows.uptoBulk]
 | .nil=>by simp [Rows.uptoBulk]
 | .ptr d=>by rw [Rows.uptoBulk];omega
 | .slice a b=>by rw [Rows.uptoBulk];omega
 | .agg a=>by rw [Rows.uptoBulk];omega
 | .iface _ d=>by rw [Rows.uptoBulk];omega
 | .map a=>by rw [Rows.uptoBulk];omega
 | .held _=>by simp [Rows.uptoBulk]
theorem Q3 {H:Type}:∀l:List (DataW H),l.length≤Rows.uptoBulkAll l∧∀d∈l,Rows.uptoBulk d≤Rows.uptoBulkAll l
 | []=>⟨Nat.zero_le _,fun d h=>by cases h⟩
 | d::r=>by
  obtain ⟨h1,h2⟩:=Q3 r
  have:=mv d
  rw [Rows.uptoBulkAll,List.length_cons]
  refine ⟨by omega,fun x hx=>?_⟩
  rcases List.mem_cons.1 hx with rfl|hx
  ·omega
  have:=h2 x hx;omega
theorem AA0 {H:Type}:Bulk (Rows.uptoBulk (H:=H)) where
 str:=fun bs=>by rw [Rows.uptoBulk];omega
 slice:=fun elems spare=>by
  obtain ⟨h1,h2⟩:=Q3 elems
  rw [Rows.uptoBulk]
  exact ⟨by omega,fun d hd=>by have:=h2 d hd;omega⟩
 agg:=fun parts d hd=>by
  have:=(Q3 parts).2 d hd
  rw [Rows.uptoBulk]
  omega

/-- What the rows of this seat list. -/
def mw:List (String×DataW Unit):=Rows.migJoinsUptoRow.laid
theorem i6:∀u,Tryz.prog.typeName? 3 u=some "*errors.errorString" → u=271:=by
 intro u hu
 exact typeName_ptr_named (nm := "errors.errorString") (by kernel_rfl) (by kernel_rfl) (by decide) u hu
theorem ru {W:World} (h:laidMet Tryz.prog mw W):∃a:Addr,W.var? Tryz.prog "strconv.ErrRange" = some #[.iface 271 (.pointer (some a))]:=by
 have h':=h.tail.tail.tail.tail
 obtain ⟨a,s,h1,_⟩:=laid_sentinel (g:=3) (ti:=77) (tp:=271) (te:=273) (ts:=9) h' (by kernel_rfl) (by kernel_rfl) Tryz.underlying77 i6 Tryz.underlying271 Tryz.underlying273 rfl rfl Tryz.underlying9 (by kernel_rfl) (by kernel_rfl)
 exact ⟨a,h1⟩
theorem rx {W:World} (h:laidMet Tryz.prog mw W):Lib.TabIs Tryz.prog W "internal/strconv.uint64pow10" .u64 Lib.pow10Tab:=
 Lib.tabIs_of_head (g:=5) (t:=268) (e:=126) (n:=20) (by kernel_rfl) (by kernel_rfl) (by kernel_rfl) (by kernel_rfl) (by kernel_rfl) (by kernel_rfl) h.tail.tail
theorem Ss {P:Program} {W:World} {n:String} {g:Nat} {cs:Array Value} (hg:P.globalNamed n=some g) (h:W.var? P n=some cs):∃t f,W.heap[g]? = some (.cells cs t f):=by
 unfold World.var? at h
 rw [hg] at h
 simp only [Option.bind_some] at h
 split at h
 ·rename_i cs' t f e
  injection h with h
  subst h
  exact ⟨t,f,e⟩
 cases h
theorem glob {W:World} [E:ErrAt] (h:W.ShapedOpen Tryz.prog) (hl:laidMet Tryz.prog mw W) (he:W.var? Tryz.prog "strconv.ErrRange" = some #[.iface 271 (.pointer (some E.b))]):Gp W:=by
 intro x hx
 have hx':x∈Se:=hx
 unfold Se at hx'
 simp only [List.mem_cons,List.mem_nil_iff,or_false] at hx'
 rcases hx' with rfl|rfl|rfl
 ·obtain ⟨m,hm⟩:=cell_of_shapedOpen_int (g:=0) (t:=3) (zero:=#[.int .i64 0]) (k:=.i64) h (of_decide_eq_true (by kernel_rfl)) (by kernel_rfl) rfl (by kernel_rfl) (by kernel_rfl) Tryz.underlying3
  obtain ⟨cs,hh,hs,_⟩:=h.1 0 #[.int .i64 0] 3 (of_decide_eq_true (by kernel_rfl)) (by kernel_rfl)
  have hs':cs.size=1:=hs
  have h1:0<cs.size:=by omega
  have hc:cs[0]=.int .i64 m:=by
   simp [World.cell?,hh,h1] at hm
   exact hm
  have:cs=#[.int .i64 m]:=by
   apply Array.ext
   ·simpa using hs'
   intro i h1 h2
   have:i=0:=by omega
   subst this
   simpa using hc
  rw [this] at hh
  exact ⟨_,hh,m,3,_,rfl⟩
 ·obtain ⟨t,f,e⟩:=Ss (g:=3) (by kernel_rfl) he
  exact ⟨_,e,t,f,rfl⟩
 obtain ⟨t,f,e⟩:=Ss (g:=5) (by kernel_rfl) (rx hl)
 exact ⟨_,e,t,f,rfl⟩
end Go.Proofs.YtlafnblklafbkaaGreatDoor
namespace Go.SX.Nb
open Go Go.SX Go.Proofs
variable [ErrAt]
set_option maxRecDepth 4000
/-- The lexer from a place between two words on. -/
def J7 (f q:Nat) (s:Str):List (Tok×Int):=Dx f (q+gapM s) (s.drop (gapM s))
theorem mx (s:Str):Ax s=J7 (s.length+1) 0 s:=by unfold Ax J7;rw [Nat.zero_add]
theorem Ws {f q:Nat} {s:Str} (h:s≠[]):∃(n:Nat),Dx (f+1) q s=(⟨(As s).1,(As s).2.1,q⟩,(As s).2.2.2)::(if (As s).2.2.2=0 then J7 f (q+n) (s.drop n) else [])∧((As s).2.2.2=0→(As s).2.2.1=(n:Int)∧1≤n∧n≤s.length):=by
 refine ⟨(As s).2.2.1.toNat,?_,fun he=>?_⟩
 ·rw [G9 h]
  simp only [beq_iff_eq]
  rfl
 obtain ⟨n,h1,h2,h3⟩:=Ut (s:=s) (by cases s with|nil=>exact absurd rfl h|cons c r=>simp) he
 rw [h1]
 exact ⟨rfl,by simpa using h2,by simpa using h3⟩
theorem Ob:∀(f f' q:Nat) (s:Str),s.length<f→s.length<f'→Dx f q s=Dx f' q s
 | 0,_,_,_,h,_=>by omega
 | _+1,0,_,_,_,h=>by omega
 | f+1,g+1,q,s,h1,h2=>by
  by_cases hs:s=[]
  ·subst hs;rfl
  rw [G9 hs,G9 hs]
  congr 1
  by_cases he:(As s).2.2.2=0
  ·obtain ⟨n,hn,k1,k2⟩:=Ut (s:=s) (by cases s with|nil=>exact absurd rfl hs|cons c r=>simp) he
   rw [he]
   simp only [beq_self_eq_true,if_true]
   rw [hn,Int.toNat_natCast]
   exact Ob f g _ _ (by simp only [List.length_drop];omega) (by simp only [List.length_drop];omega)
  rw [if_neg (by simpa using he),if_neg (by simpa using he)]
/-! ### Gaps -/
/-! ### Words -/
theorem H3 (s of:Str):Ba s of=s.takeWhile (of.contains ·):=Wf s of
theorem Uz {s:Str} (h:(Cv s).2.1=0):s.length≤4000∧(∀it∈Ax s,it.2=0)∧Cv s=((Ax s).map (·.1)++[⟨0,[],s.length⟩],0,0):=by
 unfold Cv at h ⊢
 split at h
 ·exact absurd h (show ¬(3:Int)=0 by decide)
 rename_i hl
 rw [if_neg hl]
 cases hf:(Ax s).find? (fun it=>it.2 != 0) with
 | some it =>
  rw [hf] at h
  have:=List.find?_some hf
  simp at this
  exact absurd h this
 | none =>
  rw [List.find?_eq_none] at hf
  refine ⟨by omega,fun it hit=>by simpa using hf it hit,rfl⟩
theorem ry {s:Str} (hl:s.length≤4000) (h:∀it∈Ax s,it.2=0):Cv s=((Ax s).map (·.1)++[⟨0,[],s.length⟩],0,0):=by
 unfold Cv
 rw [if_neg (by omega),Wi h]
theorem Ly (k:Int):(Ah k).length≤4:=by
 unfold Ah
 split
 ·simp
 rename_i h
 have hk:k=1∨k=2∨k=3:=by omega
 rcases hk with rfl|rfl|rfl<;>decide
def Hs (s:Str):Int:=if Ah 1==s then 1 else if Ah 2==s then 2 else if Ah 3==s then 3 else 0
structure KindUpto (s:Str) (x:Nat):Prop where
 le:x≤3
 a:1≤x→(Ah 1==s)=false
 b:2≤x→(Ah 2==s)=false
 c:3≤x→(Ah 3==s)=false
theorem rz {s:Str} {x:Nat} (h:KindUpto s x) (hx:x<3) (e:(Ah ((x:Int)+1)==s)=true):Hs s=(x:Int)+1:=by
 have h3:x=0∨x=1∨x=2:=by omega
 unfold Hs
 rcases h3 with rfl|rfl|rfl
 ·have e:(Ah 1==s)=true:=e
  rw [if_pos e];rfl
 ·have e:(Ah 2==s)=true:=e
  rw [if_neg (by rw [h.a (by omega)];simp),if_pos e];rfl
 have e:(Ah 3==s)=true:=e
 rw [if_neg (by rw [h.a (by omega)];simp),if_neg (by rw [h.b (by omega)];simp),if_pos e];rfl
theorem s6 {s:Str} {x:Nat} (h:KindUpto s x) (hx:x<3) (e:(Ah ((x:Int)+1)==s)=false):KindUpto s (x+1):=by
 have h3:x=0∨x=1∨x=2:=by omega
 rcases h3 with rfl|rfl|rfl
 ·exact ⟨by omega,fun _=>e,fun h=>by omega,fun h=>by omega⟩
 ·exact ⟨by omega,fun _=>h.a (by omega),fun _=>e,fun h=>by omega⟩
 exact ⟨by omega,fun _=>h.a (by omega),fun _=>h.b (by omega),fun _=>e⟩
theorem s7 {s:Str} {x:Nat} (h:KindUpto s x) (hx:3≤x):Hs s=0:=by
 unfold Hs
 rw [if_neg (by rw [h.a (by omega)];simp),if_neg (by rw [h.b (by omega)];simp),if_neg (by rw [h.c (by omega)];simp)]
theorem ABm (s:Str) (Hp:List AObj):AFun Tryz.prog 191 [A8 s] Hp (A2 (Hs s)):=by
 refine ACall.body [.tmp 2] [0] Tryz.func191 Tryz.ntmps191 (fun d=>?_)
 refine Z48 ?_;refine Z46 ?_;refine Kn ?_
 refine AW.loopC (α:=Nat) (fun x=>⟨13,A6 0 (A8 s) (A6 3 (A2 ((x:Nat)+1)) (fun _=>.any)),Hp,[],[],none⟩) (fun x=>KindUpto s x) (fun x=>3-x) (0) ⟨by omega,fun h=>by omega,fun h=>by omega,fun h=>by omega⟩ (StLe.refl _) rfl (fun x hx=>?_)
 refine Z21 ?_;refine R.fin [0,3,5] ?_
 refine W.cond (fun ht5=>?_) (fun ht5=>?_)
 ·have hx3:x<3:=by simp at ht5;omega
  refine Z8 ?_;refine Z92 ?_;refine R.call Tryz.call68 (c68 _ _) ?_;refine Z0 ?_;refine R.fin [0,3,11] ?_
  refine W.cond (fun ht11=>?_) (fun ht11=>?_)
  ·refine Z1 ?_;refine Yq ?_;exact K.fin (V.one V.tmp) ⟨by rw [rz hx hx3 (by simpa using ht11)],rfl⟩
  refine Z20 ?_;refine Z58 ?_;refine Kn ?_;exact K.lpN (x+1) (s6 hx hx3 (by simpa using ht11)) (by omega) (StCut.of_eq (by simp))
 have hx3:3≤x:=by simp at ht5;omega
 refine Z79 ?_;refine Z63 ?_;refine Z4 ?_;exact K.fin (V.one V.tmp) ⟨by rw [s7 hx hx3],rfl⟩

def Q4 (c:UInt8):Str:=if c=39 then [39,39] else [c]
def Bz (t:Str):Str:=t.flatMap Q4
theorem Wt:∀t:Str,(Bz t).length≤2*t.length
 | []=>Nat.le_refl _
 | c::r=>by
  have:=Wt r
  unfold Bz at this ⊢
  rw [List.flatMap_cons,List.length_append,List.length_cons]
  have h:(Q4 c).length≤2:=by unfold Q4;split<;>simp
  omega
theorem Fo (c:UInt8) (r:Str):Bz (c::r)=Q4 c++Bz r:=by unfold Bz;rw [List.flatMap_cons]
theorem cl:∀s:Str,(Lib.index s [39] = -1∧Bz s=s)∨∃i:Nat,Lib.index s [39]=(i:Int)∧i<s.length∧Bz s=s.take i++[39,39]++Bz (s.drop (i+1))
 | []=>.inl ⟨rfl,rfl⟩
 | b::l=>by
  by_cases hb:b=39
  ·subst hb
   refine .inr ⟨0,by simp [Lib.index,List.isPrefixOf],by simp,?_⟩
   rw [Fo]
   simp [Q4]
  have hp:([39]:Str).isPrefixOf (b::l)=false:=by
   simp [List.isPrefixOf,Ne.symm hb]
  have hd:Bz (b::l)=b::Bz l:=by
   rw [Fo,Q4,if_neg hb]
   rfl
  rcases cl l with ⟨h1,h2⟩|⟨i,h1,h2,h3⟩
  ·refine .inl ⟨?_,by rw [hd,h2]⟩
   rw [Lib.index,hp,h1];rfl
  refine .inr ⟨i+1,?_,by simp;omega,?_⟩
  ·rw [Lib.index,hp,h1,if_neg (by simp),if_neg (by simp)]
   rfl
  rw [hd,h3]
  simp
theorem Lz:∀(n:Nat) (s:Str),s.length≤n→Lib.replaceK [39] [39,39] (Lib.count s [39]) s=Bz s
 | n,s,hn=>by
  rcases cl s with ⟨h1,h2⟩|⟨i,h1,h2,h3⟩
  ·rw [Lib.count_miss h1,h2];rfl
  cases n with
  | zero=>omega
  | succ n =>
   rw [Lib.count_hit (by decide) h1,Nat.add_comm,Lib.replaceK_hit _ _ _ _ i h1]
   have e:i+([39]:Str).length=i+1:=rfl
   rw [e,Lz n (s.drop (i+1)) (by rw [List.length_drop];omega),h3]
theorem Ht (s:Str):Lib.replaceAll s [39] [39,39]=Bz s:=by
 unfold Lib.replaceAll Lib.replace
 rw [if_neg (by decide)]
 have e:Lib.replaceNum s [39] (-1)=Lib.count s [39]:=by unfold Lib.replaceNum;rw [if_pos (.inl (by decide))]
 rw [e]
 exact Lz _ s (Nat.le_refl _)
def cm (t:Tok):Str:=if t.kind=4 then [39]++Bz t.text++[39] else t.text
theorem Zq {q:Str} (h0:q.headD 0=39) (h1:1≤q.length) (h:(Cl q).2=0):[39]++Bz (Cl q).1.s++[39]=q:=by
 cases q with
 | nil=>simp at h1
 | cons c r =>
  have hc:c=39:=h0
  subst hc
  unfold Cl at h ⊢
  have n1:((39::r:Str)==[110,117,108,108])=false:=by rw [beq_eq_false_iff_ne];intro e;injection e with e;exact absurd e (by decide)
  have n2:((39::r:Str)==[116,114,117,101])=false:=by rw [beq_eq_false_iff_ne];intro e;injection e with e;exact absurd e (by decide)
  have n3:((39::r:Str)==[102,97,108,115,101])=false:=by rw [beq_eq_false_iff_ne];intro e;injection e with e;exact absurd e (by decide)
  rw [n1,n2,n3] at h ⊢
  simp only [Bool.false_eq_true,if_false,Bool.or_self] at h ⊢
  by_cases hq:J5 (39::r)=true
  ·rw [if_pos hq] at h ⊢
   unfold Sk at h ⊢
   split at h
   ·exact absurd h (show ¬(7:Int)=0 by decide)
   rename_i hp
   rw [if_neg hp]
   have hp':Bq (Lq (39::r))=39::r:=by simpa using hp
   have hk:(Lq (39::r)).kind=2:=rfl
   show [39]++Bz (Lq (39::r)).s++[39]=39::r
   generalize Lq (39::r)=v at hp' hk
   have hne:Bq v≠[]:=by rw [hp'];simp
   rw [←hp']
   unfold Bq at hne ⊢
   split at hne
   ·exact absurd rfl hne
   rename_i hpl
   rw [if_neg hpl,hk,if_neg (by decide),if_pos (by decide),Ht]
  rw [if_neg hq] at h
  have hd:Ev (39::r)=true:=by
   unfold Ev
   have e:Ks (39::r)=39::r:=by
    rcases O5 (39::r) with ⟨_,h4⟩|⟨r',h3,_⟩
    ·exact h4
    injection h3 with h3;exact absurd h3 (by decide)
   rw [e]
   have:(Lib.trimS (39::r) digs==[])=false:=by
    rw [beq_eq_false_iff_ne]
    intro e
    rw [Sf] at e
    exact absurd (e 39 (by simp)) (by decide)
   rw [this]
   simp
  have hn:Cd (39::r)=(0,6):=by unfold Cd;rw [if_pos hd]
  rw [hn] at h
  simp at h
theorem S3 (s:Str) (m:Nat):s.take (s.take m).length=s.take m:=by
 rw [List.length_take]
 rcases Nat.le_total m s.length with h|h
 ·rw [Nat.min_eq_left h]
 rw [Nat.min_eq_right h,List.take_of_length_le (Nat.le_refl _),List.take_of_length_le h]
theorem Js (s of:Str):s.take (Ba s of).length=Ba s of:=by
 unfold Ba
 exact S3 s _
/-- What a word's print spells is what was read. -/
theorem Zr {s:Str} {n p:Nat} (h0:1≤s.length) (he:(As s).2.2.2=0) (hn:(As s).2.2.1=(n:Int)):cm ⟨(As s).1,(As s).2.1,p⟩=s.take n:=by
 cases s with
 | nil=>simp at h0
 | cons c r =>
  unfold As at he hn ⊢
  by_cases c1:decide (0<Gq ((c::r).take 1) letters)=true
  ·rw [if_pos c1] at he hn
   simp only [if_pos c1]
   unfold Ir at he hn ⊢
   by_cases r1:Ck (Ba (c::r) tails)=true
   ·rw [if_pos r1] at hn
    simp only [if_pos r1]
    have hn':(((Ba (c::r) tails).length:Nat):Int)=n:=hn
    have e:n=(Ba (c::r) tails).length:=by omega
    rw [e,Js]
    rfl
   rw [if_neg r1] at he hn
   simp only [if_neg r1]
   by_cases r2:(!C5 (Ba (c::r) tails))=true
   ·rw [if_pos r2] at he;exact absurd he (show ¬(3:Int)=0 by decide)
   rw [if_neg r2] at hn
   simp only [if_neg r2]
   have hn':(((Ba (c::r) tails).length:Nat):Int)=n:=hn
   have e:n=(Ba (c::r) tails).length:=by omega
   rw [e,Js]
   rfl
  rw [if_neg c1] at he hn
  simp only [if_neg c1]
  by_cases c2:decide (0<Gq ((c::r).take 1) digs)=true
  ·rw [if_pos c2] at he hn
   simp only [if_pos c2]
   have hn':(((Ba (c::r) digs).length:Nat):Int)=n:=hn
   have e:n=(Ba (c::r) digs).length:=by omega
   rw [e,Js]
   rfl
  rw [if_neg c2] at he hn
  simp only [if_neg c2]
  by_cases c3:(((((c::r)).getD 0 0).toNat:Int)==39)=true
  ·rw [if_pos c3] at he hn
   simp only [if_pos c3]
   have hc:c=39:=by
    have c3':((c.toNat:Int)==39)=true:=c3
    exact UInt8.toNat_inj.1 (by have:(39:UInt8).toNat=39:=rfl;simp at c3';omega)
   unfold G5 at he hn ⊢
   cases hq:Bg ((c::r).drop 1) with
   | none=>rw [hq] at he;exact absurd he (show ¬(7:Int)=0 by decide)
   | some m =>
    rw [hq] at he hn
    simp only at he hn ⊢
    split at he
    ·exact absurd he (show ¬(3:Int)=0 by decide)
    rename_i hr
    rw [if_neg hr] at hn
    simp only [if_neg hr]
    have hm':(((m+1:Nat)):Int)=n:=hn
    have hm:n=m+1:=by omega
    subst hm
    have hr':(Cl ((c::r).take (m+1))).2=0:=by simpa using hr
    have:=Zq (q:=(c::r).take (m+1)) (by rw [hc];rfl) (by simp) hr'
    unfold cm
    rw [if_pos rfl]
    exact this
  rw [if_neg c3] at he hn
  simp only [if_neg c3]
  unfold Jp at he hn ⊢
  split at hn
  ·rename_i h2
   simp only [if_pos h2]
   have hn':(2:Int)=n:=hn
   have:n=2:=by omega
   subst this
   rfl
  rename_i h2
  rw [if_neg h2] at he
  simp only [if_neg h2]
  split at hn
  ·rename_i h3
   simp only [if_pos h3]
   have hn':(1:Int)=n:=hn
   have:n=1:=by omega
   subst this
   rfl
  rename_i h3
  rw [if_neg h3] at he
  exact absurd he (show ¬(7:Int)=0 by decide)
theorem Zs (f q:Nat) (J:Str):J7 f q (32::J)=J7 f (q+1) J:=by
 have h:gapM (32::J)=gapM J+1:=by
  have:=Ke J false
  unfold gapM
  rw [Di,if_pos (by decide),List.length_cons]
  omega
 unfold J7
 rw [h,List.drop_succ_cons,show q+(gapM J+1)=q+1+gapM J by omega]
theorem my {s:Str} (h:(Cv s).2.1=0):1≤(Cv s).1.length∧(Cv s).1.length≤s.length+2:=by
 obtain ⟨_,_,hl⟩:=Uz h
 rw [hl]
 have:=La s
 simp
 omega
theorem cn:∀t:Str,t.length≤(Bz t).length
 | []=>Nat.le_refl _
 | c::r=>by
  have:=cn r
  rw [Fo,List.length_append,List.length_cons]
  have h:1≤(Q4 c).length:=by unfold Q4;split<;>simp
  omega
theorem s8 (t:Tok):t.text.length≤(cm t).length:=by
 unfold cm
 split
 ·have:=cn t.text
  simp only [List.length_append,List.length_cons,List.length_nil]
  omega
 exact Nat.le_refl _
/-- Words with an end. -/
structure TokEnd (l:List Tok):Prop where
 split:∃L z,l=L++[z]∧z.kind=0∧∀t∈L,t.kind≠0
 texts:∀t∈l,t.text.length≤1048576
theorem TokEnd.pos {l:List Tok} (h:TokEnd l):1≤l.length:=by
 obtain ⟨L,z,rfl,_,_⟩:=h.split
 simp
theorem TokEnd.text {l:List Tok} (h:TokEnd l) (i:Nat):(A5 l i).text.length≤1048576:=by
 unfold A5
 rcases Nat.lt_or_ge i l.length with hi|hi
 ·rw [List.getD_eq_getElem?_getD,List.getElem?_eq_getElem hi]
  exact h.texts _ (List.getElem_mem hi)
 rw [List.getD_eq_getElem?_getD,List.getElem?_eq_none hi]
 exact Nat.zero_le _
theorem s9 (s:Str) (he:(As s).2.2.2=0):(As s).1≠0:=by
 revert he
 unfold As Ir Ls G5 Jp
 repeat' split
 all_goals simp
theorem Wu:∀(f q:Nat) (s:Str),(∀it∈Dx f q s,it.2=0)→∀it∈Dx f q s,it.1.kind≠0∧it.1.text.length≤s.length
 | 0,_,_,_,it,hm=>by cases hm
 | f+1,q,s,h,it,hm=>by
  by_cases hs:s=[]
  ·subst hs;cases hm
  obtain ⟨n,h1,h2⟩:=Ws (f:=f) (q:=q) hs
  rw [h1] at hm h
  have h0:(As s).2.2.2=0:=h (⟨(As s).1,(As s).2.1,q⟩,(As s).2.2.2) (List.mem_cons_self ..)
  obtain ⟨hn,hn1,hn2⟩:=h2 h0
  rw [if_pos h0] at hm h
  rcases List.mem_cons.1 hm with rfl|hm
  ·refine ⟨s9 s h0,?_⟩
   have hs1:1≤s.length:=by cases s with|nil=>exact absurd rfl hs|cons c r=>simp
   have:=Zr (p:=q) hs1 h0 hn
   have h3:=s8 ⟨(As s).1,(As s).2.1,q⟩
   rw [this] at h3
   simp only [List.length_take] at h3
   show (As s).2.1.length≤s.length
   omega
  have:=Wu f _ _ (fun it hit=>h it (List.mem_cons_of_mem _ hit)) it hm
  simp only [List.length_drop] at this
  exact ⟨this.1,by omega⟩
theorem co {s:Str} (h:(Cv s).2.1=0):TokEnd (Cv s).1:=by
 by_cases h4:4000<s.length
 ·unfold Cv at h
  rw [if_pos h4] at h
  exact lx
 have e:Cv s=((Ax s).map (·.1)++[⟨0,[],s.length⟩],0,0)∧∀it∈Ax s,it.2=0:=by
  unfold Cv at h ⊢
  rw [if_neg h4] at h ⊢
  cases hf:(Ax s).find? (fun it=>it.2 != 0) with
  | none =>
   rw [List.find?_eq_none] at hf
   exact ⟨rfl,fun it hit=>by simpa using hf it hit⟩
  | some it =>
   rw [hf] at h
   have:=List.find?_some hf
   simp only [bne_iff_ne] at this
   exact absurd h this
 obtain ⟨e,hz⟩:=e
 have hnz:=Wu _ _ _ hz
 rw [e]
 refine ⟨⟨_,_,rfl,rfl,fun t ht=>?_⟩,fun t ht=>?_⟩
 ·obtain ⟨it,hit,rfl⟩:=List.mem_map.1 ht
  exact (hnz it hit).1
 rcases List.mem_append.1 ht with ht|ht
 ·obtain ⟨it,hit,rfl⟩:=List.mem_map.1 ht
  have:=(hnz it hit).2
  simp only [List.length_drop] at this
  omega
 have e:t=⟨0,[],s.length⟩:=by simpa using ht
 subst e
 exact Nat.zero_le _
/-- Where a parser of expressions stands: its word, its nest, its fault. -/
structure PS where
 i:Nat
 nest:Nat
 code:Int
 at_:Int
def noV:Val:=⟨0,0,[]⟩
def Ag:Expr:=.mk 0 [] noV []
def Ci (e a:Int) (S:PS):PS:=if S.code==0 then ⟨S.i,S.nest,e,a⟩ else S
def isM (l:List Tok) (of:Str) (S:PS):Bool:=(((A5 l S.i).kind==5) || ((A5 l S.i).kind==2))&&Dc (A5 l S.i).text of
def A3 (S:PS):PS:=⟨S.i+1,S.nest,S.code,S.at_⟩
def Al (S:PS):PS:=⟨S.i,S.nest+1,S.code,S.at_⟩
def Ku (S:PS):PS:=⟨S.i,S.nest-1,S.code,S.at_⟩
def Cj (l:List Tok) (s:Str) (S:PS):PS:=if S.code != 0 then S else if ((A5 l S.i).kind != 5) || !((A5 l S.i).text==s) then Ci 8 (A5 l S.i).at_ S else A3 S
/-- What stands one nest deeper. -/
structure Fam where
 ei:PS→Expr×PS
 no:PS→Expr×PS
 ne:PS→Expr×PS
def Ai (a:Int) (f:PS→Expr×PS) (S:PS):Expr×PS:=if (S.nest:Int)==30 then (Ag,Ci 18 a S) else ((f (Al S)).1,Ku (f (Al S)).2)
def Ca (t:Str) (x y:Expr):Expr:=.mk 5 t noV [x,y]
def Fc (l:List Tok) (of:Str) (f:PS→Expr×PS):Nat→Expr×PS→Expr×PS
 | 0,r=>r
 | n+1,r=>if (r.2.code==0)&&isM l of r.2 then Fc l of f n (Ca (A5 l r.2.i).text r.1 (f (A3 r.2)).1,(f (A3 r.2)).2) else r
def Cm (l:List Tok) (of:Str) (f:PS→Expr×PS) (S:PS):Expr×PS:=Fc l of f l.length (f S)
def Jt:Str:=[32,44,32]
def argsF (l:List Tok) (f:PS→Expr×PS):Nat→List Expr×PS→List Expr×PS
 | 0,r=>r
 | n+1,r=>if (r.2.code==0)&&isM l Jt r.2 then argsF l f n (r.1++[(f (A3 r.2)).1],(f (A3 r.2)).2) else r
def En (l:List Tok) (f:PS→Expr×PS) (S:PS):List Expr×PS:=argsF l f l.length ([(f S).1],(f S).2)
def Hf (l:List Tok) (a:Int) (f:PS→Expr×PS) (S:PS):List Expr×PS:=if (S.nest:Int)==30 then ([],Ci 18 a S) else ((En l f (Al S)).1,Ku (En l f (Al S)).2)
def Cw:Str:=[41]
def Bc (l:List Tok) (D:Fam) (S:PS):List Expr×PS:=Hf l (A5 l S.i).at_ D.ei (A3 S)
def Eo (l:List Tok) (D:Fam) (t:Tok) (S:PS):Expr×PS:=
 if Aw t.text<0 then (Ag,Ci 9 t.at_ S)
 else if ((Cj l Cw (Bc l D S).2).code==0) && !(((Bc l D S).1.length:Int)==Aw t.text) then (Ag,Ci 8 t.at_ (Cj l Cw (Bc l D S).2))
 else (.mk 6 t.text noV (Bc l D S).1,Cj l Cw (Bc l D S).2)
def orT:Str:=[32,111,114,32]
def Zt:Str:=[32,97,110,100,32]
def Zu:Str:=[32,110,111,116,32]
def V0:Str:=[32,61,32,33,61,32,60,32,60,61,32,62,32,62,61,32]
def Zv:Str:=[32,43,32,45,32,38,32]
def Q5:Str:=[32,42,32,47,32,37,32]
def Zw:Str:=[32,45,32]
def opT:Str:=[32,40,32]
def Oq:Str:=[32,116,114,117,101,32,102,97,108,115,101,32,110,117,108,108,32]
def Ex (v:Val):Expr:=.mk 1 [] v []
def Cn (l:List Tok) (D:Fam) (S:PS):Expr×PS:=
 if S.code != 0 then (Ag,S)
 else if ((A5 l S.i).kind==3) || isM l Oq S then (Ex (Cl (A5 l S.i).text).1,A3 S)
 else if (A5 l S.i).kind==4 then (Ex ⟨2,0,(A5 l S.i).text.take 200⟩,A3 S)
 else if (A5 l S.i).kind==1 then (if isM l opT (A3 S) then Eo l D (A5 l S.i) (A3 S) else (B3 (A5 l S.i).text,A3 S))
 else if isM l opT S then ((Ai (A5 l S.i).at_ D.ei (A3 S)).1,Cj l Cw (Ai (A5 l S.i).at_ D.ei (A3 S)).2)
 else (Ag,Ci 8 (A5 l S.i).at_ S)
def Bw (op:Int) (x:Expr):Expr:=.mk op [] noV [x]
def Hm (l:List Tok) (D:Fam) (S:PS):Expr×PS:=if !isM l Zw S then Cn l D S else (Bw 3 (Ai (A5 l S.i).at_ D.ne (A3 S)).1,(Ai (A5 l S.i).at_ D.ne (A3 S)).2)
def Q6 (l:List Tok) (D:Fam):PS→Expr×PS:=Cm l Q5 (Hm l D)
def Bm (l:List Tok) (D:Fam):PS→Expr×PS:=Cm l Zv (Q6 l D)
def Bu (l:List Tok) (D:Fam) (S:PS):Expr×PS:=
 if ((Bm l D S).2.code != 0) || !isM l V0 (Bm l D S).2 then Bm l D S
 else (Ca (A5 l (Bm l D S).2.i).text (Bm l D S).1 (Bm l D (A3 (Bm l D S).2)).1,(Bm l D (A3 (Bm l D S).2)).2)
def Hn (l:List Tok) (D:Fam) (S:PS):Expr×PS:=if !isM l Zu S then Bu l D S else (Bw 4 (Ai (A5 l S.i).at_ D.no (A3 S)).1,(Ai (A5 l S.i).at_ D.no (A3 S)).2)
def Q7 (l:List Tok) (D:Fam):PS→Expr×PS:=Cm l Zt (Hn l D)
def Kh (l:List Tok) (D:Fam):PS→Expr×PS:=Cm l orT (Q7 l D)
def Bs (l:List Tok):Nat→Fam
 | 0=>⟨fun S=>(Ag,S),fun S=>(Ag,S),fun S=>(Ag,S)⟩
 | d+1=>⟨Kh l (Bs l d),Hn l (Bs l d),Hm l (Bs l d)⟩

/-! What is so of them. -/
theorem Fd:∀{n m:Nat},n≤m→∀{e:Expr},okE n e→okE m e
 | 0,_,_,_,h=>h.elim
 | n+1,0,h,_,_=>by omega
 | n+1,m+1,h,_,ho=>⟨ho.1,ho.2.1,fun y hy=>Fd (by omega) (ho.2.2 y hy)⟩
theorem Q8:sizeE Ag=1:=rfl
theorem i7 (t:Str) (a b:Expr):sizeE (Ca t a b)=1+(sizeE a+(sizeE b+0)):=by rw [Ca,sizeE,Bk,Bk,Bk]
theorem i8 (o:Int) (a:Expr):sizeE (Bw o a)=1+(sizeE a+0):=by rw [Bw,sizeE,Bk,Bk]
theorem Su:∀a b:List Expr,Bk (a++b)=Bk a+Bk b
 | [],b=>by rw [List.nil_append,Bk,Nat.zero_add]
 | e::r,b=>by rw [List.cons_append,Bk,Bk,Su r b,Nat.add_assoc]
theorem Wv {n:Nat} (h:1≤n):okE n Ag:=Fd h ⟨by decide,by decide,fun y hy=>by cases hy⟩
theorem cp {n:Nat} (h:1≤n) (v:Val):okE n (Ex v):=Fd h ⟨by simp [Ex,Expr.text],by simp [Ex,Expr.kids],fun y hy=>by cases hy⟩
structure Fact (l:List Tok) (S:PS) (r:Expr×PS):Prop where
 le:S.i≤r.2.i
 lt:r.2.i<l.length
 nest:r.2.nest=S.nest
 ok:okE (2*(r.2.i-S.i)+1) r.1
 sz:sizeE r.1≤2*(r.2.i-S.i)+1
def Dg (l:List Tok) (n:Nat) (f:PS→Expr×PS):Prop:=∀S,S.i<l.length→S.nest=n→Fact l S (f S)
theorem TokEnd.step {l:List Tok} (h:TokEnd l) {i:Nat} (hi:i<l.length) (hk:(A5 l i).kind≠0):i+1<l.length:=by
 obtain ⟨L,z,rfl,hz,_⟩:=h.split
 rcases Nat.lt_or_ge i L.length with h1|h1
 ·simp only [List.length_append,List.length_cons,List.length_nil];omega
 have:i=L.length:=by simp only [List.length_append,List.length_cons,List.length_nil] at hi;omega
 subst this
 exact absurd (by unfold A5;simpa using hz) hk
theorem mz {l:List Tok} {of:Str} {S:PS} (h:isM l of S=true):(A5 l S.i).kind≠0:=by
 unfold isM at h
 simp only [Bool.and_eq_true,Bool.or_eq_true,beq_iff_eq] at h
 omega
theorem TokEnd.stepIs {l:List Tok} (h:TokEnd l) {of:Str} {S:PS} (hi:S.i<l.length) (hk:isM l of S=true):(A3 S).i<l.length:=h.step hi (mz hk)
theorem failM_i {e a:Int} {S:PS}:(Ci e a S).i=S.i∧(Ci e a S).nest=S.nest:=by unfold Ci;split<;>exact ⟨rfl,rfl⟩
theorem cq {l:List Tok} (hl:TokEnd l) {s:Str} {S:PS} (hi:S.i<l.length):S.i≤(Cj l s S).i∧(Cj l s S).i<l.length∧(Cj l s S).nest=S.nest:=by
 unfold Cj
 split
 ·exact ⟨Nat.le_refl _,hi,rfl⟩
 split
 ·rw [failM_i.1,failM_i.2];exact ⟨Nat.le_refl _,hi,rfl⟩
 rename_i h
 simp only [Bool.or_eq_true,bne_iff_ne,ne_eq,not_or,Classical.not_not] at h
 have:=hl.step hi (by rw [h.1];decide)
 exact ⟨Nat.le_succ _,this,rfl⟩
theorem M0 {l:List Tok} {S S0:PS} (h0:S0.i≤S.i) (h1:S.i<l.length) (h2:S.nest=S0.nest) (e a:Int):Fact l S0 (Ag,Ci e a S):=by
 refine ⟨?_,?_,?_,Wv (by omega),by rw [Q8];omega⟩
 ·show _≤(Ci e a S).i;rw [failM_i.1];exact h0
 ·show (Ci e a S).i<_;rw [failM_i.1];exact h1
 show (Ci e a S).nest=_;rw [failM_i.2];exact h2
/-- A state of a loop of marks. -/
structure LeftAt (l:List Tok) (of:Str) (f:PS→Expr×PS) (S:PS) (r:Expr×PS):Prop where
 fact:Fact l S r
 eq:∃n,l.length≤r.2.i+n∧Cm l of f S=Fc l of f n r
theorem LeftAt.start {l:List Tok} {of:Str} {f:PS→Expr×PS} {S:PS} (h:Fact l S (f S)):LeftAt l of f S (f S):=⟨h,l.length,by omega,rfl⟩
theorem cr {l:List Tok} {S:PS} {r q:Expr×PS} (h:Fact l S r) (hq:Fact l (A3 r.2) q) (hl:TokEnd l):Fact l S (Ca (A5 l r.2.i).text r.1 q.1,q.2):=by
 have h1:=h.le
 have h2:r.2.i+1≤q.2.i:=hq.le
 refine ⟨by show S.i≤q.2.i;omega,hq.lt,by show q.2.nest=S.nest;rw [hq.nest];exact h.nest,?_,?_⟩
 rotate_left
 ·have s1:=h.sz
  have s2:sizeE q.1≤2*(q.2.i-(r.2.i+1))+1:=hq.sz
  show sizeE (Ca _ r.1 q.1)≤2*(q.2.i-S.i)+1
  rw [i7]
  omega
 show okE (2*(q.2.i-S.i)+1) _
 refine ⟨hl.text _,by simp [Ca,Expr.kids],fun y hy=>?_⟩
 have hy':y=r.1∨y=q.1:=by simpa [Ca,Expr.kids] using hy
 rcases hy' with rfl|rfl
 ·exact Fd (by omega) h.ok
 exact Fd (by show 2*(q.2.i-(r.2.i+1))+1≤_;omega) hq.ok
theorem LeftAt.on {l:List Tok} {of:Str} {f:PS→Expr×PS} {S:PS} {r:Expr×PS} (hl:TokEnd l) (h:LeftAt l of f S r) (hc:((r.2.code==0)&&isM l of r.2)=true) (hf:Dg l S.nest f):(A3 r.2).i<l.length∧Fact l (A3 r.2) (f (A3 r.2))∧LeftAt l of f S (Ca (A5 l r.2.i).text r.1 (f (A3 r.2)).1,(f (A3 r.2)).2):=by
 have hi:=hl.stepIs h.fact.lt (Bool.and_eq_true_iff.1 hc).2
 have hq:=hf (A3 r.2) hi h.fact.nest
 obtain ⟨n,hn,e⟩:=h.eq
 have h1:=h.fact.lt
 have h2:r.2.i+1≤(f (A3 r.2)).2.i:=hq.le
 obtain ⟨m,rfl⟩:∃m,n=m+1:=⟨n-1,by omega⟩
 refine ⟨hi,hq,cr h.fact hq hl,m,by show l.length≤(f (A3 r.2)).2.i+m;omega,?_⟩
 rw [e,Fc,if_pos hc]
theorem LeftAt.out {l:List Tok} {of:Str} {f:PS→Expr×PS} {S:PS} {r:Expr×PS} (h:LeftAt l of f S r) (hc:¬((r.2.code==0)&&isM l of r.2)=true):Cm l of f S=r:=by
 obtain ⟨n,hn,e⟩:=h.eq
 have h1:=h.fact.lt
 obtain ⟨m,rfl⟩:∃m,n=m+1:=⟨n-1,by omega⟩
 rw [e,Fc,if_neg hc]
theorem Ww {l:List Tok} {of:Str} {f:PS→Expr×PS} {S:PS} (hl:TokEnd l) (hf:Dg l S.nest f):∀(k:Nat) (r:Expr×PS),l.length-r.2.i≤k→LeftAt l of f S r→Fact l S (Cm l of f S)
 | 0,r,hk,h=>by have:=h.fact.lt;omega
 | k+1,r,hk,h=>by
  by_cases hc:((r.2.code==0)&&isM l of r.2)=true
  ·obtain ⟨h1,h2,h3⟩:=h.on hl hc hf
   have h4:r.2.i+1≤(f (A3 r.2)).2.i:=h2.le
   exact Ww hl hf k _ (by show l.length-(f (A3 r.2)).2.i≤k;have:=h.fact.lt;omega) h3
  rw [h.out hc];exact h.fact
theorem Ey {l:List Tok} {of:Str} {f:PS→Expr×PS} {n:Nat} (hl:TokEnd l) (hf:Dg l n f):Dg l n (Cm l of f):=fun S hi hn=>Ww hl (hn ▸ hf) l.length (f S) (by omega) (.start (hf S hi hn))
theorem Gw {l:List Tok} {f:PS→Expr×PS} {S:PS} (a:Int) (hi:S.i<l.length) (hf:S.nest≠30→Dg l (S.nest+1) f):Fact l S (Ai a f S):=by
 unfold Ai
 split
 ·exact M0 (Nat.le_refl _) hi rfl _ _
 rename_i h
 have h30:S.nest≠30:=fun e=>h (by rw [e];rfl)
 have:=hf h30 (Al S) hi rfl
 refine ⟨this.le,this.lt,?_,this.ok,this.sz⟩
 show (f (Al S)).2.nest-1=S.nest
 rw [this.nest]
 rfl
/-- What is so of some kids. -/
structure KFact (l:List Tok) (S:PS) (r:List Expr×PS):Prop where
 le:S.i≤r.2.i
 lt:r.2.i<l.length
 nest:r.2.nest=S.nest
 len:r.1.length≤r.2.i-S.i+1
 ok:∀y∈r.1,okE (2*(r.2.i-S.i)+1) y
 sz:Bk r.1≤2*(r.2.i-S.i)+1
structure ArgsAt (l:List Tok) (f:PS→Expr×PS) (S:PS) (r:List Expr×PS):Prop where
 fact:KFact l S r
 eq:∃n,l.length≤r.2.i+n∧En l f S=argsF l f n r
theorem ArgsAt.start {l:List Tok} {f:PS→Expr×PS} {S:PS} (h:Fact l S (f S)):ArgsAt l f S ([(f S).1],(f S).2):=⟨⟨h.le,h.lt,h.nest,by simp,fun y hy=>by rw [List.mem_singleton.1 hy];exact h.ok,by have:=h.sz;show sizeE (f S).1+0≤_;exact this⟩,l.length,by omega,rfl⟩
theorem ArgsAt.on {l:List Tok} {f:PS→Expr×PS} {S:PS} {r:List Expr×PS} (hl:TokEnd l) (h:ArgsAt l f S r) (hc:((r.2.code==0)&&isM l Jt r.2)=true) (hf:Dg l S.nest f):(A3 r.2).i<l.length∧Fact l (A3 r.2) (f (A3 r.2))∧ArgsAt l f S (r.1++[(f (A3 r.2)).1],(f (A3 r.2)).2):=by
 have hi:=hl.stepIs h.fact.lt (Bool.and_eq_true_iff.1 hc).2
 have hq:=hf (A3 r.2) hi h.fact.nest
 obtain ⟨n,hn,e⟩:=h.eq
 have h1:=h.fact.lt
 have h0:=h.fact.le
 have h2:r.2.i+1≤(f (A3 r.2)).2.i:=hq.le
 obtain ⟨m,rfl⟩:∃m,n=m+1:=⟨n-1,by omega⟩
 refine ⟨hi,hq,⟨by show S.i≤(f (A3 r.2)).2.i;omega,hq.lt,by show (f (A3 r.2)).2.nest=_;rw [hq.nest];exact h.fact.nest,?_,fun y hy=>?_,?_⟩,m,by show l.length≤(f (A3 r.2)).2.i+m;omega,?_⟩
 ·have:=h.fact.len
  show (r.1++_).length≤(f (A3 r.2)).2.i-S.i+1
  simp only [List.length_append,List.length_cons,List.length_nil]
  omega
 ·show okE (2*((f (A3 r.2)).2.i-S.i)+1) y
  rcases List.mem_append.1 hy with hy|hy
  ·exact Fd (by omega) (h.fact.ok y hy)
  rw [List.mem_singleton.1 hy]
  exact Fd (by show 2*((f (A3 r.2)).2.i-(r.2.i+1))+1≤_;omega) hq.ok
 ·have s1:=h.fact.sz
  have s2:sizeE (f (A3 r.2)).1≤2*((f (A3 r.2)).2.i-(r.2.i+1))+1:=hq.sz
  show Bk (r.1++[(f (A3 r.2)).1])≤2*((f (A3 r.2)).2.i-S.i)+1
  rw [Su,Bk,Bk]
  omega
 rw [e,argsF,if_pos hc]
theorem ArgsAt.out {l:List Tok} {f:PS→Expr×PS} {S:PS} {r:List Expr×PS} (h:ArgsAt l f S r) (hc:¬((r.2.code==0)&&isM l Jt r.2)=true):En l f S=r:=by
 obtain ⟨n,hn,e⟩:=h.eq
 have h1:=h.fact.lt
 obtain ⟨m,rfl⟩:∃m,n=m+1:=⟨n-1,by omega⟩
 rw [e,argsF,if_neg hc]
theorem Wx {l:List Tok} {f:PS→Expr×PS} {S:PS} (hl:TokEnd l) (hf:Dg l S.nest f):∀(k:Nat) (r:List Expr×PS),l.length-r.2.i≤k→ArgsAt l f S r→KFact l S (En l f S)
 | 0,r,hk,h=>by have:=h.fact.lt;omega
 | k+1,r,hk,h=>by
  by_cases hc:((r.2.code==0)&&isM l Jt r.2)=true
  ·obtain ⟨h1,h2,h3⟩:=h.on hl hc hf
   have h4:r.2.i+1≤(f (A3 r.2)).2.i:=h2.le
   exact Wx hl hf k _ (by show l.length-(f (A3 r.2)).2.i≤k;have:=h.fact.lt;omega) h3
  rw [h.out hc];exact h.fact
theorem Q9 {l:List Tok} {f:PS→Expr×PS} {S:PS} (hl:TokEnd l) (hi:S.i<l.length) (hf:Dg l S.nest f):KFact l S (En l f S):=Wx hl hf l.length _ (by show l.length-(f S).2.i≤_;omega) (.start (hf S hi rfl))
theorem Qa {l:List Tok} {f:PS→Expr×PS} {S:PS} (hl:TokEnd l) (a:Int) (hi:S.i<l.length) (hf:S.nest≠30→Dg l (S.nest+1) f):KFact l S (Hf l a f S):=by
 unfold Hf
 split
 ·refine ⟨?_,?_,?_,by simp,fun y hy=>(by cases hy),by simp [Bk]⟩
  ·show _≤(Ci _ _ S).i;rw [failM_i.1];exact Nat.le_refl _
  ·show (Ci _ _ S).i<_;rw [failM_i.1];exact hi
  show (Ci _ _ S).nest=_;rw [failM_i.2]
 rename_i h
 have h30:S.nest≠30:=fun e=>h (by rw [e];rfl)
 have:=Q9 (S:=Al S) hl hi (hf h30)
 refine ⟨this.le,this.lt,?_,this.len,this.ok,this.sz⟩
 show (En l f (Al S)).2.nest-1=S.nest
 rw [this.nest]
 rfl
theorem Zx {l:List Tok} {D:Fam} {S:PS} (hl:TokEnd l) (hll:l.length≤1048576) {t:Tok} (ht:t.text.length≤1048576) (hi:(A3 S).i<l.length) (hf:S.nest≠30→Dg l (S.nest+1) D.ei):Fact l S (Eo l D t S):=by
 have hk:KFact l (A3 S) (Bc l D S):=Qa hl _ hi hf
 have h1:S.i+1≤(Bc l D S).2.i:=hk.le
 obtain ⟨w1,w2,w3⟩:=cq (s:=Cw) hl hk.lt
 unfold Eo
 split
 ·exact M0 (Nat.le_refl _) (by show S.i<_;have:S.i+1<l.length:=hi;omega) rfl _ _
 split
 ·exact M0 (show S.i≤(Cj l Cw (Bc l D S).2).i by omega) w2 (w3.trans hk.nest) 8 t.at_
 refine ⟨by show S.i≤(Cj l Cw (Bc l D S).2).i;omega,w2,w3.trans hk.nest,?_,?_⟩
 rotate_left
 ·have s1:Bk (Bc l D S).1≤2*((Bc l D S).2.i-(S.i+1))+1:=hk.sz
  show sizeE (.mk 6 t.text noV (Bc l D S).1)≤2*((Cj l Cw (Bc l D S).2).i-S.i)+1
  rw [sizeE]
  omega
 show okE (2*((Cj l Cw (Bc l D S).2).i-S.i)+1) _
 refine ⟨ht,?_,fun y hy=>?_⟩
 ·have h5:(Bc l D S).1.length≤(Bc l D S).2.i-(A3 S).i+1:=hk.len
  have h6:=hk.lt
  show (Bc l D S).1.length≤1048576
  omega
 exact Fd (by show 2*((Bc l D S).2.i-(S.i+1))+1≤_;omega) (hk.ok y hy)
theorem Zy {l:List Tok} {D:Fam} {n:Nat} (hl:TokEnd l) (hll:l.length≤1048576) (hf:n≠30→Dg l (n+1) D.ei):Dg l n (Cn l D):=by
 intro S hi hn
 subst hn
 unfold Cn
 have leaf:∀e:Expr,okE 1 e→sizeE e=1→(A5 l S.i).kind≠0→Fact l S (e,A3 S):=fun e he hs hk=>⟨Nat.le_succ _,hl.step hi hk,rfl,Fd (by omega) he,by show sizeE e≤_;omega⟩
 split
 ·exact ⟨Nat.le_refl _,hi,rfl,Wv (by omega),by show sizeE Ag≤_;rw [Q8];omega⟩
 split
 ·rename_i h
  refine leaf _ (cp (Nat.le_refl _) _) rfl ?_
  rcases Bool.or_eq_true_iff.1 h with h|h
  ·rw [beq_iff_eq] at h;rw [h];decide
  exact mz h
 split
 ·rename_i h
  rw [beq_iff_eq] at h
  exact leaf _ (cp (Nat.le_refl _) _) rfl (by rw [h];decide)
 split
 ·rename_i h
  rw [beq_iff_eq] at h
  have hk:(A5 l S.i).kind≠0:=by rw [h];decide
  split
  ·rename_i h2
   have hi1:(A3 S).i<l.length:=hl.step hi hk
   have:=Zx (S:=A3 S) (D:=D) hl hll (hl.text S.i) (hl.stepIs hi1 h2) hf
   have h3:S.i+1≤(Eo l D (A5 l S.i) (A3 S)).2.i:=this.le
   have h4:sizeE (Eo l D (A5 l S.i) (A3 S)).1≤2*((Eo l D (A5 l S.i) (A3 S)).2.i-(S.i+1))+1:=this.sz
   exact ⟨by omega,this.lt,this.nest,Fd (by show 2*((Eo l D (A5 l S.i) (A3 S)).2.i-(S.i+1))+1≤_;omega) this.ok,by omega⟩
  exact leaf _ (Wn _ (hl.text _)) rfl hk
 split
 ·rename_i h
  have hi1:(A3 S).i<l.length:=hl.stepIs hi h
  have:=Gw (S:=A3 S) (l:=l) (f:=D.ei) (A5 l S.i).at_ hi1 hf
  obtain ⟨w1,w2,w3⟩:=cq (s:=Cw) hl this.lt
  have h3:S.i+1≤(Ai (A5 l S.i).at_ D.ei (A3 S)).2.i:=this.le
  have h4:sizeE (Ai (A5 l S.i).at_ D.ei (A3 S)).1≤2*((Ai (A5 l S.i).at_ D.ei (A3 S)).2.i-(S.i+1))+1:=this.sz
  refine ⟨by show S.i≤(Cj l Cw _).i;omega,w2,w3.trans this.nest,Fd ?_ this.ok,by show sizeE (Ai (A5 l S.i).at_ D.ei (A3 S)).1≤2*((Cj l Cw (Ai (A5 l S.i).at_ D.ei (A3 S)).2).i-S.i)+1;omega⟩
  show 2*((Ai (A5 l S.i).at_ D.ei (A3 S)).2.i-(S.i+1))+1≤2*((Cj l Cw (Ai (A5 l S.i).at_ D.ei (A3 S)).2).i-S.i)+1
  omega
 exact M0 (Nat.le_refl _) hi rfl _ _
theorem ct {l:List Tok} {S:PS} {r:Expr×PS} (h:Fact l (A3 S) r) (op:Int):Fact l S (Bw op r.1,r.2):=by
 have h1:S.i+1≤r.2.i:=h.le
 refine ⟨by show S.i≤r.2.i;omega,h.lt,h.nest,?_,?_⟩
 rotate_left
 ·have s1:sizeE r.1≤2*(r.2.i-(S.i+1))+1:=h.sz
  show sizeE (Bw op r.1)≤2*(r.2.i-S.i)+1
  rw [i8]
  omega
 show okE (2*(r.2.i-S.i)+1) _
 refine ⟨by simp [Bw,Expr.text],by simp [Bw,Expr.kids],fun y hy=>?_⟩
 have hy':y=r.1:=by simpa [Bw,Expr.kids] using hy
 subst hy'
 exact Fd (by show 2*(r.2.i-(S.i+1))+1≤_;omega) h.ok
theorem Nc {l:List Tok} {D:Fam} {n:Nat} (hl:TokEnd l) (hll:l.length≤1048576) (hf:n≠30→Dg l (n+1) D.ei) (hg:n≠30→Dg l (n+1) D.ne):Dg l n (Hm l D):=by
 intro S hi hn
 unfold Hm
 split
 ·exact Zy hl hll hf S hi hn
 rename_i h
 subst hn
 exact ct (Gw (S:=A3 S) _ (hl.stepIs hi (by simpa using h)) hg) 3
theorem Sv {l:List Tok} {D:Fam} {n:Nat} (hl:TokEnd l) (hll:l.length≤1048576) (hf:n≠30→Dg l (n+1) D.ei) (hg:n≠30→Dg l (n+1) D.ne):Dg l n (Bm l D):=Ey hl (Ey hl (Nc hl hll hf hg))
theorem Kv {l:List Tok} {D:Fam} {n:Nat} (hl:TokEnd l) (hll:l.length≤1048576) (hf:n≠30→Dg l (n+1) D.ei) (hg:n≠30→Dg l (n+1) D.ne):Dg l n (Bu l D):=by
 intro S hi hn
 have h1:=Sv hl hll hf hg S hi hn
 unfold Bu
 split
 ·exact h1
 rename_i h
 simp only [Bool.or_eq_true,not_or,Bool.not_eq_true,Bool.not_eq_false'] at h
 exact cr h1 (Sv hl hll hf hg _ (hl.stepIs h1.lt h.2) (h1.nest.trans hn)) hl
theorem Sw {l:List Tok} {D:Fam} {n:Nat} (hl:TokEnd l) (hll:l.length≤1048576) (hf:n≠30→Dg l (n+1) D.ei) (hg:n≠30→Dg l (n+1) D.ne) (hh:n≠30→Dg l (n+1) D.no):Dg l n (Hn l D):=by
 intro S hi hn
 unfold Hn
 split
 ·exact Kv hl hll hf hg S hi hn
 rename_i h
 subst hn
 exact ct (Gw (S:=A3 S) _ (hl.stepIs hi (by simpa using h)) hh) 4
theorem Nd {l:List Tok} (hl:TokEnd l) (hll:l.length≤1048576):∀(d n:Nat),n+d=31→n≠31→Dg l n (Bs l d).ei∧Dg l n (Bs l d).no∧Dg l n (Bs l d).ne
 | 0,n,h,h2=>by omega
 | d+1,n,h,_=>by
  have ih:n≠30→_:=fun h30=>Nd hl hll d (n+1) (by omega) (by omega)
  have hn:=Sw (D:=Bs l d) (n:=n) hl hll (fun h=>(ih h).1) (fun h=>(ih h).2.2) (fun h=>(ih h).2.1)
  exact ⟨Ey hl (Ey hl hn),hn,Nc hl hll (fun h=>(ih h).1) (fun h=>(ih h).2.2)⟩
mutual
def depthE:Expr→Nat
 | .mk _ _ _ k=>Ju k+1
def Ju:List Expr→Nat
  | []=>0
  | e::r=>max (depthE e) (Ju r)
 end
mutual
def Bl (p:Expr→Bool):Expr→Bool
 | .mk o t v k=>p (.mk o t v k)&&Wy p k
def Wy (p:Expr→Bool):List Expr→Bool
  | []=>true
  | e::r=>Bl p e&&Wy p r
 end
mutual
def Qb:Expr→List Expr
 | .mk o t v k=>.mk o t v k::Nf k
def Nf:List Expr→List Expr
  | []=>[]
  | e::r=>Qb e++Nf r
 end
theorem Sx (e:Expr):depthE e=Ju e.kids+1:=by cases e;rfl
theorem Dj (p:Expr→Bool) (e:Expr):Bl p e=(p e&&Wy p e.kids):=by cases e;rfl
theorem M1:∀a b,Bk (a++b)=Bk a+Bk b
 | [],b=>by rw [List.nil_append,Bk,Nat.zero_add]
 | e::r,b=>by rw [List.cons_append,Bk,Bk,M1 r b,Nat.add_assoc]
theorem Cr (p:Expr→Bool):∀l:List Expr,Wy p l=true↔∀y∈l,Bl p y=true
 | []=>by simp [Wy]
 | e::r=>by rw [Wy,Bool.and_eq_true,Cr p r];simp
mutual
theorem Ee:∀(d:Int) (e:Expr),(Ap d e).length=sizeE e
 | d,.mk o t v k=>by rw [Ap,sizeE,List.length_cons,Qc (d+1) k,Nat.add_comm]
theorem Qc:∀(d:Int) (l:List Expr),(Am d l).length=Bk l
  | d,[]=>rfl
  | d,e::r=>by rw [Am,Bk,List.length_append,Ee d e,Qc d r]
 end
mutual
theorem Qd:∀(d:Int) (e:Expr),(Ap d e).map (·.2)=Qb e
 | d,.mk o t v k=>by rw [Ap,Qb,List.map_cons,Qe (d+1) k]
theorem Qe:∀(d:Int) (l:List Expr),(Am d l).map (·.2)=Nf l
  | d,[]=>rfl
  | d,e::r=>by rw [Am,Nf,List.map_append,Qd d e,Qe d r]
 end
mutual
theorem Sy (p:Expr→Bool):∀e:Expr,(Qb e).all p=Bl p e
 | .mk o t v k=>by rw [Qb,Bl,List.all_cons,Qf p k]
theorem Qf (p:Expr→Bool):∀l:List Expr,(Nf l).all p=Wy p l
  | []=>rfl
  | e::r=>by rw [Nf,Wy,List.all_append,Sy p e,Qf p r]
 end
theorem ib (p:Expr→Bool) (d:Int) (e:Expr):((Ap d e).all fun it=>p it.2)=Bl p e:=by
 rw [←Sy p e,←Qd d e,List.all_map]
 rfl
def Ds (m:Int) (L:List (Int×Expr)):Int:=L.foldl (fun m it=>max m it.1) m
mutual
theorem Qg:∀(d m:Int) (e:Expr),Ds m (Ap d e)=max m (d-1+depthE e)
 | d,m,.mk o t v k=>by
  rw [Ap,depthE]
  show Ds (max m d) (Am (d+1) k)=_
  rw [Qh (d+1) (max m d) k (by omega)]
  omega
theorem Qh:∀(d m:Int) (l:List Expr),d-1≤m→Ds m (Am d l)=max m (d-1+Ju l)
  | d,m,[],h=>by
    rw [Am,Ju]
    show m=_
    omega
  | d,m,e::r,h=>by
    rw [Am,Ju]
    unfold Ds
    rw [List.foldl_append]
    show Ds (Ds m (Ap d e)) (Am d r)=_
    rw [Qg d m e,Qh d _ r (by omega)]
    omega
 end
theorem Oc (e:Expr):Ds 0 (Ap 1 e)=depthE e:=by rw [Qg];omega
theorem Wz:∀(L:List (Int×Expr)) (m b:Int),m≤b→(Ds m L≤b↔∀it∈L,it.1≤b)
 | [],m,b,h=>by simp [Ds,h]
 | it::r,m,b,h=>by
  show Ds (max m it.1) r≤b↔_
  rcases Decidable.em (it.1≤b) with h1|h1
  ·rw [Wz r (max m it.1) b (by omega)]
   simp [h1]
  constructor
  ·intro h2
   have:∀(r:List (Int×Expr)) (m:Int),m≤Ds m r:=by
    intro r
    induction r with
    | nil=>intro m;exact Int.le_refl _
    | cons a r ih=>intro m;have:=ih (max m a.1);show m≤Ds (max m a.1) r;omega
   have:=this r (max m it.1)
   omega
  intro h2
  exact absurd (h2 it (by simp)) h1
theorem sa (e:Expr) {b:Nat}:(∀it∈Ap 1 e,it.1≤(b:Int))↔depthE e≤b:=by
 rw [←Wz (Ap 1 e) 0 b (by omega),Oc]
 omega
def Ch (e:Expr):Bool:=(decide (depthE e≤30)&&decide (sizeE e≤300))&&Bl B1 e
theorem Ei (e:Expr):Ay e=Ch e:=by
 have hpos:1≤sizeE e:=by rw [Em];omega
 rw [Bool.eq_iff_iff]
 unfold Ay Ch
 rw [List.all_eq_true]
 simp only [Bool.and_eq_true,decide_eq_true_eq,List.mem_range,Ee]
 rw [←sa e,←ib B1 1 e,List.all_eq_true]
 constructor
 ·intro h
  have key:∀(k:Nat) (hk:k<(Ap 1 e).length),B1 (Ap 1 e)[k].2=true∧(Ap 1 e)[k].1≤30∧(k:Int)+1≤300:=fun k hk=>by
   have:=h k (by rw [Ee] at hk;exact hk)
   rw [Uv (List.getElem?_eq_getElem hk)] at this
   simp only [Bool.not_eq_true',Bool.or_eq_false_iff,Bool.not_eq_false',decide_eq_false_iff_not] at this
   exact ⟨this.1.1,by have:=this.1.2;omega,by have:=this.2;omega⟩
  refine ⟨⟨fun it hit=>?_,?_⟩,fun it hit=>?_⟩
  ·obtain ⟨k,hk,rfl⟩:=List.getElem_of_mem hit
   exact (key k hk).2.1
  ·have:=(key (sizeE e-1) (by rw [Ee];omega)).2.2
   omega
  obtain ⟨k,hk,rfl⟩:=List.getElem_of_mem hit
  exact (key k hk).1
 rintro ⟨⟨h1,h2⟩,h3⟩ k hk
 have hk':k<(Ap 1 e).length:=by rw [Ee];exact hk
 rw [Uv (List.getElem?_eq_getElem hk')]
 have a1:=h1 _ (List.getElem_mem hk')
 have a3:=h3 _ (List.getElem_mem hk')
 have a3':B1 (Ap 1 e)[k].2=true:=a3
 rw [a3']
 simp only [Bool.not_eq_true',Bool.or_eq_false_iff,Bool.not_true,decide_eq_false_iff_not]
 exact ⟨⟨trivial,by have:(Ap 1 e)[k].1≤(30:Int):=a1;omega⟩,by omega⟩
/-- Its number is one of 64 bits. -/
def E8 (e:Expr):Bool:=decide (-9223372036854775808≤e.val.n)&&decide (e.val.n≤9223372036854775807)
/-! Names. -/
mutual
def wu (s:Str) (y:Expr):Expr→Expr
 | .mk o t v k=>if (o==2)&&(t==s) then y else .mk o t v (sb s y k)
def sb (s:Str) (y:Expr):List Expr→List Expr
  | []=>[]
  | e::r=>wu s y e::sb s y r
 end
mutual
def eqE:Expr→Expr→Bool
 | .mk o t v k,.mk o' t' v' k'=>((((o==o')&&(t==t'))&&((v.kind==v'.kind&&v.n==v'.n)&&v.s==v'.s)))&&eqL k k'
def eqL:List Expr→List Expr→Bool
  | [],[]=>true
  | e::r,e'::r'=>eqE e e'&&eqL r r'
  | _,_=>false
 end
theorem wv (x y:Expr):eqE x y=((((x.op==y.op)&&(x.text==y.text))&&((x.val.kind==y.val.kind&&x.val.n==y.val.n)&&x.val.s==y.val.s))&&eqL x.kids y.kids):=by
 cases x;cases y;rw [eqE];rfl
mutual
theorem M2:∀x y:Expr,eqE x y=true↔x=y
 | .mk o t v k,.mk o' t' v' k'=>by
  rw [eqE]
  simp only [Bool.and_eq_true,beq_iff_eq,M3 k k',Expr.mk.injEq]
  constructor
  ·rintro ⟨⟨⟨rfl,rfl⟩,⟨h1,h2⟩,h3⟩,rfl⟩
   refine ⟨rfl,rfl,?_,rfl⟩
   cases v;cases v'
   simp_all
  rintro ⟨rfl,rfl,rfl,rfl⟩
  exact ⟨⟨⟨rfl,rfl⟩,⟨rfl,rfl⟩,rfl⟩,rfl⟩
theorem M3:∀x y:List Expr,eqL x y=true↔x=y
  | [],[]=>by simp [eqL]
  | [],e::r=>by simp [eqL]
  | e::r,[]=>by simp [eqL]
  | e::r,e'::r'=>by rw [eqL,Bool.and_eq_true,M2 e e',M3 r r',List.cons.injEq]
 end
theorem sc:∀{x y:List Expr},eqL x y=true→x.length=y.length:=fun h=>by rw [(M3 _ _).1 h]
theorem Qi (x:Expr):eqE x x=true:=(M2 x x).2 rfl
/-! A node by itself, and marks. -/
theorem Gx {of:Str} {ws:List Str} (h:of=Hc ws) (hp:∀w∈ws,(32:UInt8)∉w) (s:Str):Dc s of=(!(s==[])&&ws.contains s):=by
 unfold Dc
 rw [Wq]
 cases hb:s.contains 32 with
 | false =>
  have h2:(32:UInt8)∉s:=by simpa using hb
  rw [h,He s h2 ws hp,Bool.not_false,Bool.and_true]
  congr 1
  rw [List.contains_eq_any_beq]
  congr 1
  funext w
  rw [Bool.eq_iff_iff,beq_iff_eq,beq_iff_eq]
  exact eq_comm
 | true =>
  have h2:(32:UInt8)∈s:=by simpa using hb
  have h3:ws.contains s=false:=by
   rw [Bool.eq_false_iff]
   intro h4
   exact hp s (by simpa using h4) h2
  rw [h3]
  simp
def levels:List (List Str):=[[[111,114]],[[97,110,100]],[],[[61],[33,61],[60],[60,61],[62],[62,61]],[[43],[45],[38]],[[42],[47],[37]]]
def Af (s:Str):Int:=match levels.findIdx? (fun l=>l.contains s) with|some i=>i|none => -1
def Ng:List Str:=[[111,114],[],[97,110,100],[],[61],[33,61],[60],[60,61],[62],[62,61],[],[43],[45],[38],[],[42],[47],[37]]
theorem Zz:Kf=Hc Ng:=by kernel_rfl
theorem X0:∀w∈Ng,(32:UInt8)∉w:=by decide
theorem aa (s:Str):Dc s Kf=decide (0≤Af s):=by
 rw [Gx Zz X0 s]
 have h1:decide (0≤Af s)=levels.any (fun l=>l.contains s):=by
  unfold Af
  cases h:levels.findIdx? (fun l=>l.contains s) with
  | some i =>
   have:levels.any (fun l=>l.contains s)=true:=by
    have:=List.findIdx?_eq_some_iff_getElem.1 h
    obtain ⟨hi,hp,_⟩:=this
    exact List.any_eq_true.2 ⟨_,List.getElem_mem hi,hp⟩
   rw [this]
   simp
  | none =>
   have:=List.findIdx?_eq_none_iff.1 h
   have e:levels.any (fun l=>l.contains s)=false:=by
    rw [List.any_eq_false]
    intro l hl
    rw [this l hl]
    simp
   rw [e]
   rfl
 rw [h1]
 by_cases h0:s=[]
 ·subst h0;rfl
 have:(s==[])=false:=by simpa using h0
 rw [this,Bool.not_false,Bool.true_and]
 simp [levels,Ng,h0,Bool.or_assoc]
def M4 (e:Expr):Bool:=
 if e.op==1 then ((By e.val&&decide (0≤e.val.n))&&(e.text==[]))&&((e.kids.length:Int)==0)
 else if !(Ga e.val) then false
 else if e.op==2 then Dn e.text&&((e.kids.length:Int)==0)
 else if e.op==3 || e.op==4 then (e.text==[])&&((e.kids.length:Int)==1)
 else if e.op==5 then decide (0≤Af e.text)&&((e.kids.length:Int)==2)
 else if e.op==6 then Aw e.text==(e.kids.length:Int)
 else false
theorem Gb (e:Expr):B1 e=M4 e:=by
 unfold B1 M4
 rw [aa,Dm]
 cases Ga e.val<;>simp
/-! What is wide. -/
def ac (e:Expr):Bool:=((decide ((100:Int)<e.text.length) || decide ((400:Int)<e.val.s.length)) || decide ((100:Int)<e.kids.length))
/-- Among trees, when n have been seen: is one too much? -/
def cu (l:List Expr) (n:Nat):Bool:=decide (500<n+l.length) || l.any ac
def M5:Nat→List Expr→Nat→Bool
 | 0,l,n => !l.isEmpty
 | f+1,l,n=>if l.isEmpty then false else if cu l n then true else if decide ((500:Int)<(l.flatMap Expr.kids).length) then true else M5 f (l.flatMap Expr.kids) (n+l.length)
theorem Qj:∀l:List Expr,Bk l=l.length+Bk (l.flatMap Expr.kids)
 | []=>rfl
 | e::r=>by
  rw [Bk,Em,List.flatMap_cons,M1,Qj r,List.length_cons]
  omega
theorem Qk {l:List Expr} {n:Nat} (h:cu l n=false):n+l.length≤500∧∀e∈l,ac e=false:=by
 unfold cu at h
 simp only [Bool.or_eq_false_iff,decide_eq_false_iff_not,List.any_eq_false,Bool.not_eq_true] at h
 exact ⟨by omega,h.2⟩
theorem sd {e:Expr} (h:ac e=false):e.text.length≤100∧e.val.s.length≤400∧e.kids.length≤100:=by
 unfold ac at h
 simp only [Bool.or_eq_false_iff,decide_eq_false_iff_not] at h
 omega
theorem Sz {f:Nat} {l:List Expr} {n:Nat} (h:M5 (f+1) l n=false) (hl:l.isEmpty=false):cu l n=false∧(l.flatMap Expr.kids).length≤500∧M5 f (l.flatMap Expr.kids) (n+l.length)=false:=by
 rw [M5,if_neg (by rw [hl];simp)] at h
 split at h
 ·cases h
 rename_i h1
 split at h
 ·cases h
 rename_i h2
 simp only [decide_eq_true_eq] at h2
 exact ⟨by simpa using h1,by omega,h⟩
theorem cv:∀(f:Nat) (l:List Expr) (n:Nat),M5 f l n=false→∀e∈l,okE f e∧Bl (fun y => !ac y) e=true
 | 0,l,n,h,e,he=>by
  have:l=[]:=by simpa [M5] using h
  subst this
  cases he
 | f+1,l,n,h,e,he=>by
  have hl:l.isEmpty=false:=by cases l<;>simp_all
  obtain ⟨h1,h2,h3⟩:=Sz h hl
  have h4:=sd ((Qk h1).2 e he)
  have ih:=cv f _ _ h3
  have hk:∀y∈e.kids,okE f y∧Bl (fun y => !ac y) y=true:=fun y hy=>ih y (List.mem_flatMap.2 ⟨e,he,hy⟩)
  refine ⟨⟨by omega,by omega,fun y hy=>(hk y hy).1⟩,?_⟩
  rw [Dj,(Qk h1).2 e he,(Cr _ _).2 fun y hy=>(hk y hy).2]
  rfl
theorem T0:∀(f:Nat) (l:List Expr) (n:Nat),n≤500→M5 f l n=false→n+Bk l≤500
 | 0,l,n,hn,h=>by
  have:l=[]:=by simpa [M5] using h
  subst this
  simpa [Bk] using hn
 | f+1,l,n,hn,h=>by
  by_cases hl:l.isEmpty=true
  ·have:l=[]:=by simpa using hl
   subst this
   simpa [Bk] using hn
  have hl':l.isEmpty=false:=by simpa using hl
  obtain ⟨h1,h2,h3⟩:=Sz h hl'
  have:=T0 f _ _ (Qk h1).1 h3
  rw [Qj l]
  omega
def cw (e:Expr):Bool:=M5 61 [e] 0
/-- A tree that is gone through. -/
structure Slim (e:Expr):Prop where
 ok:okE 61 e
 size:sizeE e≤500
 slim:Bl (fun y => !ac y) e=true
theorem se {e:Expr} (h:cw e=false):Slim e:=by
 obtain ⟨h1,h2⟩:=cv _ _ _ h e (by simp)
 have:=T0 _ _ _ (by decide) h
 exact ⟨h1,by simpa [Bk] using this,h2⟩
/-! What is printed of columns, word by word. -/
theorem ae {k:Int} (h1:1≤k) (h3:k≤3):k=1∨k=2∨k=3:=by omega
def ktT (t:Tok):Int×Str:=(t.kind,t.text)
/-! What is printed of a schema is read. -/
theorem ic {k:Int} (h1:1≤k) (h3:k≤3):Hs (Ah k)=k:=by
 rcases ae h1 h3 with rfl|rfl|rfl<;>kernel_rfl
theorem ABn (c:List Col) (Hp:List AObj):AFun Tryz.prog 20 [Ar c] Hp (B2 (I8 c)):=by
 refine ACall.body [.tmp 2] [0] Tryz.func20 Tryz.ntmps20 (fun d=>?_)
 refine Z48 ?_;refine Z35 ?_;refine R.fin [0,6] ?_
 refine W.cond (fun ht6=>?_) (fun ht6=>?_)
 ·refine Z94 ?_;refine K.thR ?_;exact K.fin (V.one V.tmp) ⟨by simp [I8] at ht6 ⊢;omega,rfl⟩
 refine Z8 ?_;refine Z46 ?_;refine Kn ?_
 refine AW.loopC (α:=Nat) (fun x=>⟨20,A6 0 (Ar c) (A6 3 (A2 (x:Nat)) (fun _=>.any)),Hp,[],[],none⟩) (fun x=>x≤c.length∧∀(j:Nat) (y:Col),j<x→c[j]? = some y→decide ((100:Int)<y.name.length)=false) (fun x=>c.length-x) (0) (by simp) (StLe.refl _) rfl (fun x hx=>?_)
 refine Z77 ?_;refine R.fin [0,3,10] ?_
 refine W.cond (fun ht10=>?_) (fun ht10=>?_)
 ·have hlt:x<c.length:=by simpa using ht10
  have hcl:c.length≤50:=by simp at ht6;omega
  refine Z8 ?_;refine Yu ?_
  refine R.go (h:=Q.indexAddr (x) (Av c[x]) (fun _=>C4 hlt)) (hr:=?_)
  refine Z62 ?_;refine R.fin [0,3,19] ?_
  refine W.cond (fun ht19=>?_) (fun ht19=>?_)
  ·refine Z3 ?_;refine Yq ?_;exact K.fin (V.one V.tmp) ⟨by rw [show I8 c=true from by unfold I8;rw [wg (p:=fun y:Col=>decide ((100:Int)<y.name.length)) hlt ht19,Bool.or_true]],rfl⟩
  refine Z20 ?_;refine Z58 ?_;refine Kn ?_;exact K.lpN (x+1) ⟨hlt,Eh hlt hx.2 ht19⟩ (by omega) (StCut.of_eq rfl)
 refine Z79 ?_;refine Z63 ?_;refine Z4 ?_;exact K.fin (V.one V.tmp) ⟨by rw [show I8 c=false from by unfold I8;rw [mc (Lo (by simp at ht10;omega) hx.2)];simpa using ht6],rfl⟩
theorem cx {c:List Col} (h:I8 c=false):OkCols c:=by
 unfold I8 at h
 simp only [Bool.or_eq_false_iff,decide_eq_false_iff_not,List.any_eq_false,decide_eq_true_eq] at h
 refine ⟨by omega,fun y hy=>?_⟩
 have:=h.2 y hy
 omega
def X1 {α:Type} [BEq α] (v:α) (l:List α):Int:=match l.findIdx? (·==v) with|some i=>i|none => -1
theorem ww {α:Type} [BEq α] [LawfulBEq α] {v:α} {l:List α} {x:Nat} (h:x<l.length) (h1:l[x]=v) (h2:∀(j:Nat) (y:α),j<x→l[j]? = some y→¬(y=v)):X1 v l=x:=by
 have:l.findIdx? (·==v)=some x:=by
  rw [List.findIdx?_eq_some_iff_getElem]
  exact ⟨h,by simpa using h1,fun j hj=>by simpa using h2 j l[j] hj (List.getElem?_eq_getElem _)⟩
 simp [X1,this]
theorem n5 {α:Type} [BEq α] [LawfulBEq α] {v:α} {l:List α} (h:∀(j:Nat) (y:α),l[j]? = some y→¬(y=v)):X1 v l = -1:=by
 have:l.findIdx? (·==v)=none:=by
  rw [List.findIdx?_eq_none_iff]
  intro y hy
  obtain ⟨j,hj⟩:=List.getElem?_of_mem hy
  simpa using h j y hj
 simp [X1,this]
theorem sg {α:Type} [BEq α] [LawfulBEq α] (v:α) (l:List α):decide (0≤X1 v l)=l.contains v:=by
 unfold X1
 cases h:l.findIdx? (·==v) with
 | none =>
  rw [List.findIdx?_eq_none_iff] at h
  have:l.contains v=false:=by
   rw [Bool.eq_false_iff]
   intro hc
   have:=h v (by simpa using hc)
   simp at this
  rw [this];rfl
 | some i =>
  rw [List.findIdx?_eq_some_iff_getElem] at h
  obtain ⟨hi,e,_⟩:=h
  have:l.contains v=true:=by
   have:l[i]=v:=by simpa using e
   rw [←this]
   simp
  rw [this]
  simp only [decide_eq_true_eq]
  omega
theorem AA1 (l:List Str) (v:Str) (hl:l.length≤1048576) (Hp:List AObj):AFun Tryz.prog 180 [Ed l,A8 v] Hp (A2 (X1 v l)):=by
 refine ACall.body [.tmp 4] [0,1] Tryz.func180 Tryz.ntmps180 (fun d=>?_)
 refine Z53 ?_;refine lf ?_
 refine AW.loopC (α:=Nat) (fun x=>⟨19,A6 0 (Ed l) (A6 1 (A8 v) (A6 7 (A2 l.length) (A6 8 (A2 (x:Nat)) (fun _=>.any)))),Hp,[],[],none⟩) (fun x=>x≤l.length∧∀(j:Nat) (y:Str),j<x→l[j]? = some y→¬(y=v)) (fun x=>l.length-x) (0) (by simp) (StLe.of_eq (by simp)) rfl (fun x hx=>?_)
 refine lb ?_
 refine W.condX (fun ht9=>?_) (fun ht9=>?_)
 ·have hlt:x<l.length:=by simpa using ht9
  refine Yu ?_;refine l9 ?_
  refine R.go (h:=Q.indexAddr (x) (A8 l[x]) (fun _=>C4 hlt)) (hr:=?_)
  refine Z0 ?_;refine lw ?_
  refine W.cond (fun ht16=>?_) (fun ht16=>?_)
  ·refine Yt ?_;refine Z80 ?_;exact K.fin (V.one V.tmp) ⟨by rw [ww hlt (by simpa using (Eq.symm (by simpa using ht16):l[x]=v)) hx.2],rfl⟩
  refine Z75 ?_;refine R.fin [0,1,7,8] ?_;exact K.lpN (x+1) ⟨hlt,Eh hlt hx.2 (fun e=>by rw [e] at ht16;simp at ht16)⟩ (by omega) (StCut.of_eq rfl)
 refine Z63 ?_;refine Z27 ?_;exact K.fin (V.one V.tmp) ⟨by rw [n5 (Lo (by simp at ht9;omega) hx.2)],rfl⟩

theorem ABo (l:List Str) (v:Str) (hl:l.length≤1048576) (Hp:List AObj):AFun Tryz.prog 182 [Ed l,A8 v] Hp (B2 (l.contains v)):=by
 refine ACall.body [.tmp 4] [0,1] Tryz.func182 Tryz.ntmps182 (fun d=>?_)
 refine Z53 ?_;refine Z1 ?_;refine R.call Tryz.call180 (AA1 l v hl _) ?_;refine Z0 ?_;refine Z27 ?_;exact K.fin (V.one V.tmp) ⟨by rw [sg],rfl⟩

theorem ie {n k:Nat} {o:Bool} {l:List Col} {z:Col}:Low n (.slice o k (l.map Av++[Av z])):=by
 refine .slice _ _ _ (fun y hy=>?_)
 have key:∀c:Col,∀w∈(Av c).cells,Low n w:=by
  intro c w hw
  have hw':w∈[AV.v (sv c.name),AV.v (.int .i64 c.kind)]:=hw
  simp only [List.mem_cons,List.not_mem_nil,or_false] at hw'
  rcases hw' with rfl|rfl
  ·exact .v _
  exact .v _
 rcases List.mem_append.1 hy with hy|hy
 ·obtain ⟨a,_,rfl⟩:=List.mem_map.1 hy
  exact key a
 rw [List.mem_singleton.1 hy]
 exact key z
def Ki (c:List Col) (take:List Str) (j:Nat) (nm:Str):Bool := !(decide (Bh nm c<0) || (X1 nm take != (j:Int)))
def Gr (c:List Col) (take:List Str):Bool:=take.zipIdx.all fun x=>Ki c take x.2 x.1
theorem takenM_true {c:List Col} {take:List Str}:Gr c take=true↔∀(j:Nat) (y:Str),take[j]? = some y→Ki c take j y=true:=L6
def M6 (c:List Col) (x:Nat) (y:Col):Bool := !((!Dn y.name) || (Bh y.name c != (x:Int)))
def I0 (c:List Col):Bool:=c.zipIdx.all fun x=>M6 c x.2 x.1
theorem namedC_true {c:List Col}:I0 c=true↔∀(j:Nat) (y:Col),c[j]? = some y→M6 c j y=true:=L6
def E4 (c:List Col) (take:List Str):List Col:=c.filter fun y => !take.contains y.name
theorem sh {c:List Col} {take:List Str} {k:Nat} {y:Col} (h:c[k]? = some y) (hn:take.contains y.name=false):E4 (c.take (k+1)) take=E4 (c.take k) take++[y]:=by
 unfold E4
 have e:c.take (k+1)=c.take k++[y]:=by rw [List.take_succ,h];rfl
 have hm:¬y.name∈take:=by simpa using hn
 rw [e,List.filter_append]
 simp [List.filter_cons,hm]
theorem ig {c:List Col} {take:List Str} {k:Nat} {y:Col} (h:c[k]? = some y) (hn:take.contains y.name=true):E4 (c.take (k+1)) take=E4 (c.take k) take:=by
 unfold E4
 have e:c.take (k+1)=c.take k++[y]:=by rw [List.take_succ,h];rfl
 have hm:y.name∈take:=by simpa using hn
 rw [e,List.filter_append]
 simp [List.filter_cons,hm]
theorem Jv (c:List Col) (take:List Str):(E4 c take).length≤c.length:=List.length_filter_le _ _
def Cs (c:List Col) (take:List Str) (give:List Col):List Col×Int:=
 if Ew c=false then ([],1) else if Gr c take=false then ([],9) else if I0 (E4 c take++give)=false then ([],9)
 else if Lp (E4 c take++give)=false then ([],10) else if 12<(E4 c take++give).length then ([],3) else (E4 c take++give,0)
theorem wx {c:List Col} {take:List Str} {give:List Col} (h:Ew c=false):Cs c take give=([],1):=by unfold Cs;rw [if_pos h]
theorem wy {c:List Col} {take:List Str} {give:List Col} (h:Ew c=true) (h2:Gr c take=false):Cs c take give=([],9):=by unfold Cs;rw [if_neg (by rw [h];simp),if_pos h2]
theorem wz {c:List Col} {take:List Str} {give out:List Col} (h:Ew c=true) (h2:Gr c take=true) (ho:E4 c take++give=out) (h3:I0 out=false):Cs c take give=([],9):=by
 unfold Cs;rw [ho,if_neg (by rw [h];simp),if_neg (by rw [h2];simp),if_pos h3]
theorem x5 {c:List Col} {take:List Str} {give out:List Col} (h:Ew c=true) (h2:Gr c take=true) (ho:E4 c take++give=out) (h3:I0 out=true) (h4:Lp out=false):Cs c take give=([],10):=by
 unfold Cs;rw [ho,if_neg (by rw [h];simp),if_neg (by rw [h2];simp),if_neg (by rw [h3];simp),if_pos h4]
theorem x6 {c:List Col} {take:List Str} {give out:List Col} (h:Ew c=true) (h2:Gr c take=true) (ho:E4 c take++give=out) (h3:I0 out=true) (h4:Lp out=true) (h5:12<out.length):Cs c take give=([],3):=by
 unfold Cs;rw [ho,if_neg (by rw [h];simp),if_neg (by rw [h2];simp),if_neg (by rw [h3];simp),if_neg (by rw [h4];simp),if_pos h5]
theorem x7 {c:List Col} {take:List Str} {give out:List Col} (h:Ew c=true) (h2:Gr c take=true) (ho:E4 c take++give=out) (h3:I0 out=true) (h4:Lp out=true) (h5:¬12<out.length):Cs c take give=(out,0):=by
 unfold Cs;rw [ho,if_neg (by rw [h];simp),if_neg (by rw [h2];simp),if_neg (by rw [h3];simp),if_neg (by rw [h4];simp),if_neg h5]
theorem Nh {c:List Col} (h:Ew c=true):c.length≤12:=by
 unfold Ew at h
 simp at h
 omega
theorem n6 {c give:List Col} {take:List Str} {out:List Col} (hc:OkCols c) (h:Ew c=true) (hg:OkCols give) (hg2:give.length≤1000000) (ho:E4 c take++give=out):OkCols out:=by
 subst ho
 have h1:=Jv c take
 have h2:=Nh h
 refine ⟨by simp only [List.length_append];omega,fun y hy=>?_⟩
 rcases List.mem_append.1 hy with hy|hy
 ·exact hc.2 y ((List.mem_filter.1 hy).1)
 exact hg.2 y hy
theorem ABp (c:List Col) (hc:OkCols c) (take:List Str) (ht:take.length≤1048576) (Hp:List AObj):AFun Tryz.prog 151 [Ar c,Ed take] Hp (B2 (Gr c take)):=by
 refine ACall.body [.tmp 4] [0,1] Tryz.func151 Tryz.ntmps151 (fun d=>?_)
 refine Z53 ?_;refine Z35 ?_;refine R.fin [0,1,7,8,9] ?_
 refine AW.loopC (α:=Nat) (fun x=>⟨26,A6 0 (Ar c) (A6 1 (Ed take) (A6 7 (Ed take) (A6 8 (A2 take.length) (A6 9 (A2 (x:Nat)) (fun _=>.any))))),Hp,[],[],none⟩) (fun x=>x≤take.length∧∀(j:Nat) (y:Str),j<x→take[j]? = some y→Ki c take j y=true) (fun x=>take.length-x) (0) (by simp) (StLe.of_eq (by simp)) rfl (fun x hx=>?_)
 refine Z3 ?_;refine R.fin [0,1,7,8,9,10] ?_
 refine W.condX (fun ht10=>?_) (fun ht10=>?_)
 ·have hlt:x<take.length:=by simpa using ht10
  refine Z92 ?_
  refine R.go (h:=Q.indexAddr (x) (A8 take[x]) (fun _=>C4 hlt)) (hr:=?_)
  refine Z19 ?_;refine R.fin [0,1,5,6,7,8,9] ?_;refine Z1 ?_;refine R.call Tryz.call149 (gi c hc _ _) ?_;refine Z42 ?_;refine G.call Tryz.call180 (fun hB=>AA1 take _ ht _) ?_;refine Rr ?_;refine R.fin [0,1,7,8,9,24] ?_
  refine W.cond (fun ht24=>?_) (fun ht24=>?_)
  ·refine Z3 ?_;refine Z27 ?_;refine Z80 ?_
   exact K.fin (V.one V.tmp) ⟨by rw [show Gr c take=false from Bool.eq_false_iff.2 fun h=>by have:=takenM_true.1 h x take[x] (List.getElem?_eq_getElem hlt);unfold Ki at this;rw [ht24] at this;cases this],rfl⟩
  refine Z75 ?_;refine R.fin [0,1,7,8,9] ?_;exact K.lpN (x+1) ⟨hlt,L5 hlt hx.2 (by unfold Ki;rw [ht24];rfl)⟩ (by omega) (StCut.of_eq rfl)
 refine Z63 ?_;refine Z27 ?_;exact K.fin (V.one V.tmp) ⟨by rw [takenM_true.2 (Mz (by simp at ht10;omega) hx.2)],rfl⟩

theorem ABq (c:List Col) (hc:OkCols c) (Hp:List AObj):AFun Tryz.prog 153 [Ar c] Hp (B2 (I0 c)):=by
 refine ACall.body [.tmp 2] [0] Tryz.func153 Tryz.ntmps153 (fun d=>?_)
 refine Z48 ?_;refine Z35 ?_;refine R.fin [0,5,6,7] ?_
 refine AW.loopC (α:=Nat) (fun x=>⟨25,A6 0 (Ar c) (A6 5 (Ar c) (A6 6 (A2 c.length) (A6 7 (A2 (x:Nat)) (fun _=>.any)))),Hp,[],[],none⟩) (fun x=>x≤c.length∧∀(j:Nat) (y:Col),j<x→c[j]? = some y→M6 c j y=true) (fun x=>c.length-x) (0) (by simp) (StLe.of_eq (by simp)) rfl (fun x hx=>?_)
 refine Z3 ?_;refine R.fin [0,5,6,7,8] ?_
 refine W.condX (fun ht8=>?_) (fun ht8=>?_)
 ·have hlt:x<c.length:=by simpa using ht8
  have hcl:=hc.len
  refine Z92 ?_
  refine R.go (h:=Q.indexAddr (x) (Av c[x]) (fun _=>C4 hlt)) (hr:=?_)
  refine R.go ?_;refine Z87 ?_;refine R.fin [0,3,4,5,6,7] ?_;refine Z1 ?_;refine R.call Tryz.call67 (c67 _ (hc.names _ (List.getElem_mem hlt)) _) ?_;refine g9 ?_;refine G.call Tryz.call149 (fun hB=>gi c hc _ _) ?_;refine Rr ?_;refine R.fin [0,5,6,7,23] ?_
  refine W.cond (fun ht23=>?_) (fun ht23=>?_)
  ·rw [Dm] at ht23
   refine Z3 ?_;refine Yq ?_
   exact K.fin (V.one V.tmp) ⟨by rw [show I0 c=false from Bool.eq_false_iff.2 fun h=>by have:=namedC_true.1 h x c[x] (List.getElem?_eq_getElem hlt);unfold M6 at this;rw [ht23] at this;cases this],rfl⟩
  rw [Dm] at ht23
  refine Z75 ?_;refine R.fin [0,5,6,7] ?_
  refine K.lpN (x+1) ⟨hlt,L5 hlt hx.2 (by unfold M6;rw [ht23];rfl)⟩ (by omega) ?_
  exact StCut.take (own:=[]) (fun _=>.refl _) (by repeat (first|exact B0|refine Az (by simp [or_imp,forall_and]) ?_)) (by simp) (by simp)
 refine Z63 ?_;refine Z4 ?_;exact K.fin (V.one V.tmp) ⟨by rw [namedC_true.2 (Mz (by simp at ht8;omega) hx.2)],rfl⟩

theorem ABr (c:List Col) (take:List Str) (Hp:List AObj):AFun Tryz.prog 152 [Ar c,Ed take] Hp (.fn (.func 181) [] [.ro [Ar c],.ro [Ed take]]):=by
 refine ACall.body [.tmp 4] [0,1] Tryz.func152 Tryz.ntmps152 (fun d=>?_)
 refine Z13 ?_;refine Gn ?_;refine Dq ?_;refine Km ?_;refine R.go ?_;exact Z82

theorem ABs (l:Nat) (c:List Col) (take:List Str) (hc:c.length≤1048576) (ht:take.length≤1048576) (U:Nat→List AObj) (hlen:∀k,(U k).length=(U 0).length) (hll:l<(U 0).length)
  (hlw:∀k,∀x∈U k,ObjLow (U 0).length x) (hn:∀k y,c[k]? = some y→take.contains y.name=true→U (k+1)=U k)
  (hy:∀k y X,c[k]? = some y→take.contains y.name=false→AYield Tryz.prog l [Av y] (U k++X) (fun b H'=>b=true∧H'=U (k+1)++X)):ACall Tryz.prog 181 [.yield l,.ro [Ar c],.ro [Ed take]] (U 0) (fun _ H'=>H'=U c.length):=by
 refine ACall.body [] [0,1,2] Tryz.func181 Tryz.ntmps181 (fun d=>?_)
 refine Z13 ?_;refine R.fin [0,2,6,7,8] ?_
 refine AW.loopC (α:=Nat) (fun x=>⟨24,A6 0 (.yield l) (A6 2 (.ro [Ed take]) (A6 6 (Ar c) (A6 7 (A2 c.length) (A6 8 (A2 (x:Nat)) (fun _=>.any))))),U x,[],[],none⟩) (fun x=>x≤c.length) (fun x=>c.length-x) (0) (Nat.zero_le _) (StLe.of_eq (by simp)) rfl (fun x hx=>?_)
 refine Z3 ?_;refine R.fin [0,2,6,7,8,9] ?_
 refine W.condX (fun ht9=>?_) (fun ht9=>?_)
 ·have hlt:x<c.length:=by simpa using ht9
  refine Z88 ?_
  refine R.go (h:=Q.indexAddr (x) (Av c[x]) (fun _=>C4 hlt)) (hr:=?_)
  refine Uh ?_;refine R.fin [0,2,5,6,7,8] ?_;refine Z13 ?_;refine R.call Tryz.call182 (ABo take _ ht _) ?_;refine Z42 ?_
  refine G.yield (l:=l) (C:=((!take.contains c[x].name)==true)) (args:=[Av c[x]]) (fun hC=>hy x c[x] _ (List.getElem?_eq_getElem hlt) (by simpa using hC)) ?_
  intro b V O hV hb hb0
  have hVO:V=U (x+1)∧O=[AObj.cells 64 [A8 c[x].name,A2 c[x].kind]]∧(take.contains c[x].name=false→b=true):=by
   cases hcn:take.contains c[x].name with
   | true =>
    obtain ⟨h1,h2⟩:=hb0 (by rw [hcn];rfl)
    exact ⟨h1.trans (hn x c[x] (List.getElem?_eq_getElem hlt) hcn).symm,h2,fun e=>by cases e⟩
   | false =>
    obtain ⟨h1,h2⟩:=hb (by rw [hcn];rfl)
    have h3:=List.append_inj h2 (by rw [hV,hlen x,hlen (x+1)])
    exact ⟨h3.1,h3.2,fun _=>h1⟩
  obtain ⟨rfl,rfl,hbt⟩:=hVO
  refine ⟨fun _=>by rw [hlen (x+1)];exact hlw (x+1),fun o ho=>(by cases ho),?_⟩
  refine W6 ?_;refine R.fin [0,2,6,7,8,22] ?_
  refine W.cond (fun ht22=>?_) (fun ht22=>?_)
  ·exfalso
   have hcf:take.contains c[x].name=false:=by simp at ht22 ⊢;exact ht22.1
   rw [hbt hcf] at ht22
   simp at ht22
  refine Z75 ?_;refine R.fin [0,2,6,7,8] ?_;refine K.lpN (x+1) hlt (by omega) ?_
  exact StCut.take (own:=[]) (fun _=>.refl _) (by repeat (first|exact B0|refine Az (by first|(simp [or_imp,forall_and];done)|(have:=hlen (x+1);simp;omega)) ?_)) (by simp) (by simp)
 have hxe:x=c.length:=by simp at ht9;omega
 refine K.lpE ?_;exact K.finN .nores (hp:=by rw [hxe])

/-! What went and came, taken back: the same columns. -/
theorem find_mem {nm:Str} {c:List Col}:¬(Bh nm c<0)↔∃(j:Nat) (y:Col),c[j]? = some y∧y.name=nm∧Bh nm c=(j:Int):=by
 unfold Bh
 cases h:c.findIdx? (fun y=>y.name==nm) with
 | none =>
  constructor
  ·intro h';exact absurd (by decide) h'
  rintro ⟨j,y,_,_,e⟩
  exact absurd (show (-1:Int)=(j:Int) from e) (by omega)
 | some i =>
  rw [List.findIdx?_eq_some_iff_getElem] at h
  obtain ⟨hi,e,_⟩:=h
  constructor
  ·intro _;exact ⟨i,c[i],List.getElem?_eq_getElem hi,by simpa using e,rfl⟩
  intro _ h'
  have:(i:Int)<0:=h'
  omega
set_option maxRecDepth 8000
/-- What a node asks of its kids, and what it is. -/
structure Sign where
 kids:List Int
 own:Int
def Gy (s:Str):Sign:=if (s==[111,114]) || (s==[97,110,100]) then ⟨[3,3],3⟩ else if (((((s==[61]) || (s==[33,61])) || (s==[60])) || (s==[60,61])) || (s==[62])) || (s==[62,61]) then ⟨[-1, -1],3⟩ else if s==[38] then ⟨[2,2],2⟩ else ⟨[1,1],1⟩
def Fe (s:Str):Sign:=if (s==[108,101,110]) || (s==[110,117,109]) then ⟨[2],1⟩ else if s==[115,116,114] then ⟨[1],2⟩ else if (s==[108,101,102,116]) || (s==[114,105,103,104,116]) then ⟨[2,1],2⟩ else if s==[105,115,110,117,108,108] then ⟨[-2],3⟩ else if s==[110,118,108] then ⟨[-1, -1], -1⟩ else ⟨[3, -1, -1], -1⟩
def C8 (o:Int) (t:Str):Sign:=if o==3 then ⟨[1],1⟩ else if o==4 then ⟨[3],3⟩ else if o==5 then Gy t else Fe t
def Ce (a b:Int):Int×Bool:=if a==0 then (b,true) else if (b==0) || (a==b) then (a,true) else (0,false)
def Ql:List Int→List Int→Int→Option Int
 | _,[],c=>some c
 | [],_::_,_=>none
 | w::ws,k::ks,c=>if w == -2 then Ql ws ks c else if w == -1 then (if (Ce c k).2 then Ql ws ks (Ce c k).1 else none) else if (Ce w k).2 then Ql ws ks c else none
def X2 (s:Sign) (ks:List Int):Int×Int:=match Ql s.kids ks 0 with|none=>(0,10)|some c=>if s.own == -1 then (c,0) else (s.own,0)
def X3 (c:List Col) (t:Str):Int×Int:=if Bh t c<0 then (0,9) else ((c.getD (Bh t c).toNat ⟨[],0⟩).kind,0)
def T3 (c:List Col) (o:Int) (t:Str) (v:Val) (ks:List (Int×Int)):Int×Int:=
 if o==1 then (v.kind,0) else if o==2 then X3 c t else match ks.find? (fun q=>q.2 != 0) with|some q=>(0,q.2)|none=>X2 (C8 o t) (ks.map (·.1))
mutual
def E5 (c:List Col):Expr→Int×Int
 | .mk o t v k=>T3 c o t v (cy c k)
def cy (c:List Col):List Expr→List (Int×Int)
  | []=>[]
  | e::r=>E5 c e::cy c r
 end
theorem T5 (c:List Col):∀l,cy c l=l.map (E5 c)
 | []=>rfl
 | e::r=>by rw [cy,T5 c r];rfl
theorem M7 (c:List Col) (e:Expr):E5 c e=T3 c e.op e.text e.val (e.kids.map (E5 c)):=by cases e;rw [E5,T5];rfl
/-- infer.Kind. -/
def Jw (e:Expr) (c:List Col):Int×Int:=if (!(Ay e)) || !(Pw c) then (0,1) else E5 c e
/-! The signs have as many as the nodes have kids. -/
theorem af (s:Str):(Gy s).kids.length=2:=by
 unfold Gy;repeat' split
 all_goals rfl
theorem ag {t:Str} {n:Nat} (h:Aw t=(n:Int)):(Fe t).kids.length=n:=by
 rw [show Aw t=Aw t from rfl] at h
 by_cases hm:t∈arityList.map (·.1)
 ·have:((arityList.map (·.1)).all fun s=>decide (((Fe s).kids.length:Int)=Aw s))=true:=by kernel_rfl
  have:=of_decide_eq_true (List.all_eq_true.1 this t hm)
  omega
 have h1:Aw t = -1:=by
  unfold Aw
  rw [List.find?_eq_none.2 fun p hp=>by
   simp only [beq_iff_eq]
   rintro rfl
   exact hm (List.mem_map.2 ⟨p,hp,rfl⟩)]
 omega
theorem n7 {e:Expr} (h:B1 e=true) (h1:(e.op==1)=false) (h2:(e.op==2)=false):(C8 e.op e.text).kids.length=e.kids.length:=by
 unfold B1 at h
 rw [h1,h2] at h
 simp only [Bool.false_eq_true,if_false] at h
 unfold C8
 by_cases h3:(e.op==3)=true
 ·rw [h3] at h
  simp only [Bool.true_or,if_true,Bool.and_eq_true,beq_iff_eq] at h
  rw [if_pos h3]
  show 1=_
  omega
 have h3':(e.op==3)=false:=by simpa using h3
 rw [if_neg h3]
 rw [h3'] at h
 by_cases h4:(e.op==4)=true
 ·rw [h4] at h
  simp only [Bool.false_or,if_true,Bool.and_eq_true,beq_iff_eq] at h
  rw [if_pos h4]
  show 1=_
  omega
 have h4':(e.op==4)=false:=by simpa using h4
 rw [if_neg h4]
 rw [h4'] at h
 simp only [Bool.or_false,Bool.false_eq_true,if_false] at h
 by_cases h5:(e.op==5)=true
 ·rw [h5] at h
  simp only [if_true,Bool.and_eq_true,beq_iff_eq] at h
  rw [if_pos h5,af]
  omega
 have h5':(e.op==5)=false:=by simpa using h5
 rw [if_neg h5]
 rw [h5'] at h
 simp only [Bool.false_eq_true,if_false] at h
 by_cases h6:(e.op==6)=true
 ·rw [h6] at h
  simp only [if_true,Bool.and_eq_true,beq_iff_eq] at h
  exact ag h.2
 have h6':(e.op==6)=false:=by simpa using h6
 rw [h6'] at h
 cases h
/-! More columns. -/
/-! A tree in a column's place. -/
set_option maxRecDepth 4000
abbrev pr (l:List Tok) (S:PS):AObj:=.cells 223 [.slice false 3 (l.map Gv),A2 (S.i:Int),A2 (S.nest:Int),A2 S.code,A2 S.at_]
theorem Bv {n:Nat} {l:List Tok} {S:PS}:ObjLow n (pr l S):=by
 show ∀y∈[AV.slice false 3 (l.map Gv),A2 (S.i:Int),A2 (S.nest:Int),A2 S.code,A2 S.at_],Low n y
 intro y hy
 simp only [List.mem_cons,List.not_mem_nil,or_false] at hy
 rcases hy with rfl|rfl|rfl|rfl|rfl
 ·simp [or_imp,forall_and]
 all_goals simp
theorem X4 (o:Int) (t:Str) (v:Val):Le (.agg [A2 o,A8 t,A2 v.kind,A2 v.n,A8 v.s,.nil]) (A7 (.mk o t v [])):=by
 rw [Ab]
 refine .agg _ _ rfl (by simp [AV.one,Value.oneCell',sv]) fun i y y' h1 h2=>?_
 match i with
 | 0=>simp at h1 h2;subst h1;subst h2;exact .inl rfl
 | 1=>simp at h1 h2;subst h1;subst h2;exact .inl rfl
 | 2=>simp at h1 h2;subst h1;subst h2;exact .inl rfl
 | 3=>simp at h1 h2;subst h1;subst h2;exact .inl rfl
 | 4=>simp at h1 h2;subst h1;subst h2;exact .inl rfl
 | 5=>simp at h1 h2;subst h1;subst h2;exact .inr ⟨rfl,6,rfl⟩
 | i+6=>simp at h1
theorem Qm:Le (.agg [A2 0,A8 [],A2 0,A2 0,A8 [],.nil]) (A7 Ag):=X4 0 [] noV
theorem AA2 (l:List Tok) (S:PS) (o:Nat) (Hp:List AObj) (ho:Hp[o]? = some (pr l S)) (hi:S.i<l.length):AFun Tryz.prog 257 [.ptr o 0] Hp (Gv (A5 l S.i)):=by
 refine ACall.body [.cell 2 59] [0] Tryz.func257 Tryz.ntmps257 (fun d=>?_)
 refine z7 ?_;refine Z54 ?_
 refine D.go (h:=Q.loadUp ho) (hr:=?_)
 refine Z54 ?_
 refine D.go (h:=Q.loadUp ho) (hr:=?_)
 refine D.tail ?_
 refine R.go (h:=Q.indexAddr (S.i) (Gv (A5 l S.i)) (fun _=>N9 hi)) (hr:=?_)
 refine R.go ?_;exact r8

theorem X5 (l:List Tok) (S:PS) (of:Str) (o:Nat) (Hp:List AObj) (ho:Hp[o]? = some (pr l S)) (hi:S.i<l.length) (hl:TokEnd l) (hof:of.length≤1048576):AFun Tryz.prog 244 [.ptr o 0,A8 of] Hp (B2 (isM l of S)):=by
 refine ACall.body [.tmp 4] [0,1] Tryz.func244 Tryz.ntmps244 (fun d=>?_)
 refine Z53 ?_;refine vz ?_;refine Z16 ?_;refine R.fin [1,5] ?_;refine Z28 ?_;refine Z65 ?_;refine g9 ?_;refine G.call Tryz.call144 (fun hB=>zy (A5 l S.i).text of (hl.text _) hof _) ?_;refine Z0 ?_;exact Z82

theorem n8 (l:List Tok) (S:PS) (o:Nat) (Hp:List AObj) (ho:Hp[o]? = some (pr l S)) (hi:S.i<l.length) (hll:l.length≤1048576):ACall Tryz.prog 245 [.ptr o 0] Hp (fun r H'=>r=Gv (A5 l S.i)∧H'=Hp.set o (pr l (A3 S))):=by
 refine ACall.body [.cell 2 59] [0] Tryz.func245 Tryz.ntmps245 (fun d=>?_)
 refine Z38 ?_;refine vz ?_;refine Z83 ?_;refine Z13 ?_
 refine R.go (h:=Q.loadUp ho) (hr:=?_)
 refine Z19 ?_
 refine R.storeUp jS ho ?_ ?_
 ·simp
 refine Gn ?_;refine Z3 ?_;exact r8

theorem ii (l:List Tok) (S:PS) (e a:Int) (o:Nat) (Hp:List AObj) (ho:Hp[o]? = some (pr l S)):ACall Tryz.prog 217 [.ptr o 0,A2 e,A2 a] Hp (fun r H'=>r=A7 Ag∧H'=Hp.set o (pr l (Ci e a S))):=by
 refine ACall.body [.cell 6 69] [0,1,2] Tryz.func217 Tryz.ntmps217 (fun d=>?_)
 refine Z23 ?_;refine Yv ?_;refine Z77 ?_
 refine R.go (h:=Q.loadUp ho) (hr:=?_)
 refine R.go ?_;refine R.fin [0,1,2,6,12] ?_
 refine W.cond (fun ht12=>?_) (fun ht12=>?_)
 ·have e:Ci e a S=⟨S.i,S.nest,e,a⟩:=if_pos ht12
  refine Z58 ?_;refine W9 ?_;refine Z0 ?_
  refine R.storeUp jS ho ?_ ?_
  ·simp
  refine R.fin [6] ?_;refine K.thN ?_;refine Z81 ?_;refine R.wk 19 _ Qm ?_;refine Fk ?_;refine Z96 ?_;exact K.fin (V.one (V.cellN jA jS)) ⟨rfl,by rw [e]⟩ (hlow:=Ad _ Ag)
 have e:Ci e a S=S:=if_neg (by rw [ht12];simp)
 refine Z8 ?_;refine Z81 ?_;refine R.wk 19 _ Qm ?_;refine Fk ?_;refine Z96 ?_;exact K.fin (V.one (V.cellN jA jS)) ⟨rfl,by rw [e];exact (Eb ho).symm⟩ (hlow:=Ad _ Ag)

theorem AA3 (v:Val) (Hp:List AObj):AFun Tryz.prog 272 [Um v] Hp (A7 (Ex v)):=by
 refine ACall.body [.cell 2 69] [0] Tryz.func272 Tryz.ntmps272 (fun d=>?_)
 refine Z3 ?_;refine R.alloc jZ ?_;refine R.fin [1,2] ?_;refine Z3 ?_;refine m0 ?_;refine R.wk 4 _ (X4 1 [] v) ?_;refine Z7 ?_;exact K.fin (V.one (V.cellN jA jS)) ⟨rfl,rfl⟩ (hlow:=Ad _ (Ex v))

theorem AA4 (l:List Tok) (S:PS) (s:Str) (o:Nat) (Hp:List AObj) (ho:Hp[o]? = some (pr l S)) (hi:S.i<l.length) (hll:l.length≤1048576):ACall Tryz.prog 274 [.ptr o 0,A8 s] Hp (fun r H'=>r=.v (.tuple #[])∧H'=Hp.set o (pr l (Cj l s S))):=by
 refine ACall.body [] [0,1] Tryz.func274 Tryz.ntmps274 (fun d=>?_)
 refine Z77 ?_
 refine R.go (h:=Q.loadUp ho) (hr:=?_)
 refine R.go ?_;refine R.fin [0,1,10] ?_
 refine W.cond (fun ht10=>?_) (fun ht10=>?_)
 ·have e:Cj l s S=S:=if_pos ht10
  refine Z22 ?_;exact K.fin .nores (hp:=⟨rfl,by rw [e];exact (Eb ho).symm⟩)
 have e0:¬(S.code != 0)=true:=by rw [ht10];simp
 refine Z8 ?_;refine Z46 ?_;refine R.call Tryz.call257 (AA2 l S o _ (A4 ho) hi) ?_;refine Z16 ?_;refine R.fin [0,1,4] ?_;refine Z28 ?_;refine Z9 ?_;refine Rr ?_;refine R.fin [0,4,21] ?_
 refine W.cond (fun ht21=>?_) (fun ht21=>?_)
 ·have e:Cj l s S=Ci 8 (A5 l S.i).at_ S:=by unfold Cj;rw [if_neg e0,if_pos ht21]
  refine yu ?_;refine R.fin [] ?_;refine Z22 ?_;exact K.fin .nores (hp:=⟨rfl,by rw [e]⟩)
 have e:Cj l s S=A3 S:=by unfold Cj;rw [if_neg e0,if_neg (by rw [ht21];simp)]
 refine Z8 ?_;refine Z58 ?_
 refine R.go (h:=Q.loadUp ho) (hr:=?_)
 refine Z19 ?_
 refine R.storeUp jS ho ?_ ?_
 ·simp
 refine R.fin [] ?_;exact K.finN .nores (hp:=⟨rfl,by rw [e];rfl⟩)

/-- The contract of one of the parser's functions. -/
def PC (g:FuncId) (l:List Tok) (f:PS→Expr×PS) (n:Nat):Prop:=∀(o:Nat) (Hp:List AObj) (S:PS),Hp[o]? = some (pr l S)→S.i<l.length→S.nest=n→ACall Tryz.prog g [.ptr o 0] Hp (fun r H'=>r=A7 (f S).1∧H'=Hp.set o (pr l (f S).2))
abbrev I1:AObj:=.cells 69 [A2 0,A8 [],A2 0,A2 0,A8 [],.nil]
theorem cz {n:Nat}:ObjLow n I1:=by
 show ∀y∈[A2 0,A8 [],A2 0,A2 0,A8 [],AV.nil],Low n y
 simp
theorem si {n:Nat} (e:Expr):ObjLow n (.cells 69 (E3 e)):=by
 have h:=Ad n e
 rw [Ab] at h
 show ∀y∈E3 e,Low n y
 intro y hy
 cases h with
 | agg _ h=>exact h y hy
theorem sj (l:List Tok) (S:PS) (a:Int) (g:FuncId) (first caps:List AV) (x:Expr) (S2:PS) (o:Nat) (Hp Hx:List AObj) (ho:Hp[o]? = some (pr l S)) (hnl:S.nest≤1048576) (hgc:∀args w,(callFunc g args).run Tryz.prog w=.ok (.enter g args) w) (hxl:Hx.length=Hp.length) (hxo:Hx[o]? = some (pr l S2)) (hn2:S2.nest=S.nest+1) (hlow:(∀y∈Hp.set o (pr l (Al S)),ObjLow Hp.length y)→∀y∈Hx,ObjLow Hp.length y) (hcf:S.nest≠30→∀own,ACall Tryz.prog g (first++caps) (Hp.set o (pr l (Al S))++own) (fun y H'=>y=A7 x∧H'=Hx++own)):ACall Tryz.prog 259 [.ptr o 0,A2 a,.fn (.func g) first caps] Hp (fun r H'=>(S.nest=30→r=A7 Ag∧H'=Hp.set o (pr l (Ci 18 a S)))∧(S.nest≠30→r=A7 x∧H'=Hx.set o (pr l (Ku S2)))):=by
 refine ACall.body [.cell 6 69] [0,1,2] Tryz.func259 Tryz.ntmps259 (fun d=>?_)
 refine Z23 ?_;refine Yv ?_;refine Z35 ?_
 refine R.go (h:=Q.loadUp ho) (hr:=?_)
 refine R.go ?_;refine R.fin [0,1,2,6,12] ?_
 refine W.cond (fun ht12=>?_) (fun ht12=>?_)
 ·have hn30:S.nest=30:=by have:=ht12;simp at this;omega
  refine Z1 ?_;refine R.callUp Tryz.call217 ho (by simp) Bv (ii l S 18 a o _ (A4 ho)) ?_;refine Fk ?_;refine R.fin [6] ?_;refine Z22 ?_;exact K.fin (V.one (V.cellN jA jS)) ⟨fun _=>⟨by rw [Ab],rfl⟩,fun h=>absurd hn30 h⟩ (hlow:=by have:=Ad Hp.length Ag;rw [Ab] at this;simpa using this)
 have hn30:S.nest≠30:=by have:=ht12;simp at this;omega
 refine Uj ?_
 refine R.go (h:=Q.loadUp ho) (hr:=?_)
 refine Z19 ?_
 refine R.storeUp jS ho ?_ ?_
 ·simp
 refine R.fin [0,2,6] ?_;refine Z3 ?_
 refine R.callVX (up':=Hx) (own':=[I1]) hgc (hcf hn30 [I1]) (by simpa using hxl) (by rw [List.length_set];exact hlow) ?_
 rw [←hxl]
 refine Z16 ?_;refine R.fin [0,6,7] ?_;refine Z13 ?_
 refine R.go (h:=Q.loadUp hxo) (hr:=?_)
 refine Z19 ?_
 refine R.storeUp jS hxo ?_ ?_
 ·simp
 refine R.fin [6,7] ?_;refine Z3 ?_;refine Fk ?_;refine Z96 ?_;exact K.fin (V.one (V.cellN jA jS)) ⟨fun h=>absurd h hn30,fun _=>⟨by rw [Ab],by rw [show ((S2.nest:Int)-1)=((Ku S2).nest:Int) by show _=((S2.nest-1:Nat):Int);omega];rfl⟩⟩ (hlow:=by have:=Ad Hx.length x;rw [Ab] at this;simpa using this)

theorem ij (t:Str) (a b:Expr):E3 (Ca t a b)=[A2 5,.v (sv t),A2 0,A2 0,A8 [],.slice false 6 [A7 a,A7 b]]:=rfl
theorem sk {n:Nat} (t:Str) (a b:Expr):ObjLow n (.cells 69 [A2 5,.v (sv t),A2 0,A2 0,A8 [],.slice false 6 [A7 a,A7 b]]):=si (Ca t a b)
theorem sm {n:Nat} {U:List AObj} {i:Nat} {x:AObj} (h:∀y∈U,ObjLow n y) (hx:ObjLow n x):∀y∈U.set i x,ObjLow n y:=by
 intro y hy
 rcases List.mem_or_eq_of_mem_set hy with h1|h1
 ·exact h y h1
 rw [h1];exact hx
/-- within, with a method's value. -/
theorem n9 {g:FuncId} (hgc:∀args w,(callFunc g args).run Tryz.prog w=.ok (.enter g args) w) (l:List Tok) (S:PS) (a:Int) (f:PS→Expr×PS) (o:Nat) (Hp:List AObj) (ho:Hp[o]? = some (pr l S)) (hi:S.i<l.length) (hnl:S.nest≤30) (hf:S.nest≠30→Dg l (S.nest+1) f) (hcf:S.nest≠30→PC g l f (S.nest+1)):
  ACall Tryz.prog 259 [.ptr o 0,A2 a,.fn (.func g) [.ptr o 0] []] Hp (fun r H'=>r=A7 (Ai a f S).1∧H'=Hp.set o (pr l (Ai a f S).2)):=by
 have hlt:=(List.getElem?_eq_some_iff.1 ho).1
 by_cases h30:S.nest=30
 ·refine (sj l S a g [.ptr o 0] [] Ag (Al S) o Hp (Hp.set o (pr l (Al S))) ho (by omega) hgc (by simp) (by simp [hlt]) rfl (fun h=>h) (fun h=>absurd h30 h)).mono fun r H' h=>?_
  have e:Ai a f S=(Ag,Ci 18 a S):=if_pos (by rw [h30];rfl)
  rw [e]
  exact h.1 h30
 have hq:=hf h30 (Al S) hi rfl
 refine (sj l S a g [.ptr o 0] [] (f (Al S)).1 (f (Al S)).2 o Hp (Hp.set o (pr l (f (Al S)).2)) ho (by omega) hgc (by simp) (by simp [hlt]) hq.nest (fun h y hy=>?_) (fun _ own=>?_)).mono fun r H' h=>?_
 ·rcases List.mem_or_eq_of_mem_set hy with h1|h1
  ·obtain ⟨i,hi',rfl⟩:=List.getElem_of_mem h1
   by_cases hio:i=o
   ·subst hio
    have:Hp[i]=pr l S:=by rw [List.getElem?_eq_getElem hi'] at ho;injection ho
    rw [this];exact Bv
   refine h _ ?_
   rw [List.mem_iff_getElem?]
   exact ⟨i,by rw [List.getElem?_set_ne (Ne.symm hio),List.getElem?_eq_getElem hi']⟩
  rw [h1];exact Bv
 ·have hg:(Hp.set o (pr l (Al S))++own)[o]? = some (pr l (Al S)):=A4 (by simp [hlt])
  refine (hcf h30 o (Hp.set o (pr l (Al S))++own) (Al S) hg hi rfl).mono fun r H' h=>⟨h.1,h.2.trans ?_⟩
  rw [List.set_append_left _ _ (by simpa using hlt),List.set_set]
 have e:Ai a f S=((f (Al S)).1,Ku (f (Al S)).2):=if_neg (by
  show ¬(((S.nest:Int)==30)=true)
  simp
  omega)
 rw [e]
 obtain ⟨h1,h2⟩:=h.2 h30
 exact ⟨h1,by rw [h2,List.set_set]⟩
theorem so {g:FuncId} (hgc:∀args w,(callFunc g args).run Tryz.prog w=.ok (.enter g args) w) (l:List Tok) (S:PS) (of:Str) (hof:of.length≤1048576) (f:PS→Expr×PS) (o:Nat) (Hp:List AObj) (ho:Hp[o]? = some (pr l S)) (hi:S.i<l.length) (hl:TokEnd l) (hll:l.length≤1048576) (hf:Dg l S.nest f) (hcf:PC g l f S.nest):ACall Tryz.prog 234 [.ptr o 0,A8 of,.fn (.func g) [.ptr o 0] []] Hp (fun r H'=>r=A7 (Cm l of f S).1∧H'=Hp.set o (pr l (Cm l of f S).2)):=by
 have holt:=(List.getElem?_eq_some_iff.1 ho).1
 refine ACall.body [.cell 6 69] [0,1,2] Tryz.func234 Tryz.ntmps234 (fun d=>?_)
 refine Z23 ?_;refine Yv ?_;refine Z3 ?_;refine R.callVUp hgc ho (by simp) Bv (hcf o _ S (A4 ho) hi rfl) ?_;refine Z16 ?_;refine R.fin [0,1,2,6,7] ?_;refine W.seq ?_
 refine AW.loopC (α:=Expr×PS) (fun r=>⟨32,A6 0 (.ptr o 0) (A6 1 (A8 of) (A6 2 (.fn (.func g) [.ptr o 0] []) (A6 6 (.ptr (oid Hp.length 0) 0) (A6 7 (.ptr (oid Hp.length 1) 0) (fun _=>.any))))),Hp.set o (pr l r.2),[.cells 69 [A2 0,A8 [],A2 0,A2 0,A8 [],.nil],.cells 69 (E3 r.1)],[],none⟩) (fun r=>LeftAt l of f S r) (fun r=>l.length-r.2.i) (f S) (.start (hf S hi rfl)) (StLe.of_eq (by simp)) rfl (fun r hx=>?_)
 refine Z77 ?_
 refine R.go (h:=Q.loadUp (getset ho)) (hr:=?_)
 refine Z42 ?_;refine G.call Tryz.call244 (fun hB=>X5 l r.2 of o _ (A4 (getset ho)) hx.fact.lt hl hof) ?_;refine R.go ?_;refine R.fin [0,1,2,6,7,21] ?_
 refine W.cond (fun ht21=>?_) (fun ht21=>?_)
 ·have hon:=hx.on hl ht21 hf
  have hle:=hon.2.1.le
  have hlt0:=hx.fact.lt
  have hU1:(Hp.set o (pr l r.2)).set o (pr l (A3 r.2))=Hp.set o (pr l (A3 r.2)):=List.set_set ..
  refine Z8 ?_;refine AW.block ?_;refine Z3 ?_;refine R.callUp Tryz.call245 (getset ho) (by simp) Bv (n8 l r.2 o _ (A4 (getset ho)) hx.fact.lt hll) ?_;refine Z16 ?_;refine R.fin [0,1,2,6,7,8] ?_;refine W.drawY0 [0,1,0,0,8,28,63,127] [4] [.q 4 [] [],.s [28] (some 0) [] [],.q 1 [0] []] (fun B=>Hp.set o (if B 0=true then pr l (f (A3 r.2)).2 else pr l (A3 r.2))) (fun _=>[.cells 69 [A2 0,A8 [],A2 0,A2 0,A8 [],.nil],.cells 69 (E3 r.1),.cells 59 [A2 (A5 l r.2.i).kind,A8 (A5 l r.2.i).text,A2 (A5 l r.2.i).at_]]) Ac (by kernel_rfl) (by simp [List.set_set]) rfl (fun B=>by simp) ?_
  apply Y.q
  case h1 =>
   intro B hT hF
   exact lh
  case hTF=>decide
  refine Y.callVUp (r:=A7 (f (A3 r.2)).1) (o:=o) (x0:=pr l (A3 r.2)) (x:=pr l (f (A3 r.2)).2) hgc (fun B hT hF hB=>⟨by simp only [hB];exact getset ho,by simp [upd],rfl,Bv,?_⟩) ?_
  ·simp only [hB]
   exact hcf o _ (A3 r.2) (A4 (getset ho)) hon.1 hx.fact.nest
  apply Y.q
  case h1 =>
   intro B hT hF
   exact Z31
  case hTF=>decide
  refine Y.tail (tn:=[4]) (U:=Hp.set o (pr l (f (A3 r.2)).2)) ?_;refine yw ?_;refine R.fin [0,1,2,6,7] ?_;refine K.blN ?_
  refine K.lpN (Ca (A5 l r.2.i).text r.1 (f (A3 r.2)).1,(f (A3 r.2)).2) hon.2.2 (by show l.length-(f (A3 r.2)).2.i<l.length-r.2.i;have:r.2.i+1≤(f (A3 r.2)).2.i:=hle;omega) ?_
  simp only [ij]
  have hlow2:=fun n=>sk (n:=n) (A5 l r.2.i).text r.1 (f (A3 r.2)).1
  simp only [Ab] at hlow2 ⊢
  exact StCut.take (fun _=>.refl _) (by repeat (first|exact B0|refine Az (by simp [oid]<;>omega) ?_)) (by intro y hy;rcases List.mem_cons.1 hy with rfl|hy;exact cz;rw [List.mem_singleton.1 hy];exact hlow2 _) (by simp)
 have hout:=hx.out (by rw [ht21];simp)
 refine Z79 ?_;refine Z63 ?_;refine Fk ?_;refine Z96 ?_;exact K.fin (V.one (V.cellN jA jS)) ⟨by rw [hout,Ab],by rw [hout]⟩ (hlow:=by have:=Ad (Hp.set o (pr l r.2)).length r.1;rw [Ab] at this;simpa using this)

theorem ABt (l:List Tok) (S:PS) (f:PS→Expr×PS) (o:Nat) (Hp:List AObj) (ho:Hp[o]? = some (pr l S)) (hi:S.i<l.length) (hl:TokEnd l) (hll:l.length≤1048576) (hf:Dg l S.nest f) (hcf:PC 235 l f S.nest):ACall Tryz.prog 215 [.ptr o 0] Hp (fun r H'=>r=A7 (Cm l orT f S).1∧H'=Hp.set o (pr l (Cm l orT f S).2)):=by
 refine ACall.body [.cell 2 69] [0] Tryz.func215 Tryz.ntmps215 (fun d=>?_)
 refine Z38 ?_;refine Z1 ?_;refine Km ?_;refine R.callUp Tryz.call234 ho (by simp) Bv (so Tryz.call235 l S orT (by decide) f o _ (A4 ho) hi hl hll hf hcf) ?_;refine Z7 ?_;exact K.fin (V.one (V.cellN jA jS)) ⟨by rw [Ab],rfl⟩ (hlow:=by have:=Ad Hp.length (Cm l orT f S).1;rw [Ab] at this;simpa using this)

theorem ABu (l:List Tok) (S:PS) (f:PS→Expr×PS) (o:Nat) (Hp:List AObj) (ho:Hp[o]? = some (pr l S)) (hi:S.i<l.length) (hl:TokEnd l) (hll:l.length≤1048576) (hf:Dg l S.nest f) (hcf:PC 246 l f S.nest):ACall Tryz.prog 235 [.ptr o 0] Hp (fun r H'=>r=A7 (Cm l Zt f S).1∧H'=Hp.set o (pr l (Cm l Zt f S).2)):=by
 refine ACall.body [.cell 2 69] [0] Tryz.func235 Tryz.ntmps235 (fun d=>?_)
 refine Z38 ?_;refine Z1 ?_;refine Km ?_;refine R.callUp Tryz.call234 ho (by simp) Bv (so Tryz.call246 l S Zt (by decide) f o _ (A4 ho) hi hl hll hf hcf) ?_;refine Z7 ?_;exact K.fin (V.one (V.cellN jA jS)) ⟨by rw [Ab],rfl⟩ (hlow:=by have:=Ad Hp.length (Cm l Zt f S).1;rw [Ab] at this;simpa using this)

theorem ABv (l:List Tok) (S:PS) (f:PS→Expr×PS) (o:Nat) (Hp:List AObj) (ho:Hp[o]? = some (pr l S)) (hi:S.i<l.length) (hl:TokEnd l) (hll:l.length≤1048576) (hf:Dg l S.nest f) (hcf:PC 269 l f S.nest):ACall Tryz.prog 266 [.ptr o 0] Hp (fun r H'=>r=A7 (Cm l Zv f S).1∧H'=Hp.set o (pr l (Cm l Zv f S).2)):=by
 refine ACall.body [.cell 2 69] [0] Tryz.func266 Tryz.ntmps266 (fun d=>?_)
 refine Z38 ?_;refine Z1 ?_;refine Km ?_;refine R.callUp Tryz.call234 ho (by simp) Bv (so Tryz.call269 l S Zv (by decide) f o _ (A4 ho) hi hl hll hf hcf) ?_;refine Z7 ?_;exact K.fin (V.one (V.cellN jA jS)) ⟨by rw [Ab],rfl⟩ (hlow:=by have:=Ad Hp.length (Cm l Zv f S).1;rw [Ab] at this;simpa using this)

theorem ABw (l:List Tok) (S:PS) (f:PS→Expr×PS) (o:Nat) (Hp:List AObj) (ho:Hp[o]? = some (pr l S)) (hi:S.i<l.length) (hl:TokEnd l) (hll:l.length≤1048576) (hf:Dg l S.nest f) (hcf:PC 270 l f S.nest):ACall Tryz.prog 269 [.ptr o 0] Hp (fun r H'=>r=A7 (Cm l Q5 f S).1∧H'=Hp.set o (pr l (Cm l Q5 f S).2)):=by
 refine ACall.body [.cell 2 69] [0] Tryz.func269 Tryz.ntmps269 (fun d=>?_)
 refine Z38 ?_;refine Z1 ?_;refine Km ?_;refine R.callUp Tryz.call234 ho (by simp) Bv (so Tryz.call270 l S Q5 (by decide) f o _ (A4 ho) hi hl hll hf hcf) ?_;refine Z7 ?_;exact K.fin (V.one (V.cellN jA jS)) ⟨by rw [Ab],rfl⟩ (hlow:=by have:=Ad Hp.length (Cm l Q5 f S).1;rw [Ab] at this;simpa using this)

/-- What is so of the functions one nest deeper. -/
structure DeepC (l:List Tok) (Dv:Fam) (n:Nat):Prop where
 ei:n≠30→Dg l (n+1) Dv.ei∧PC 215 l Dv.ei (n+1)
 no:n≠30→Dg l (n+1) Dv.no∧PC 246 l Dv.no (n+1)
 ne:n≠30→Dg l (n+1) Dv.ne∧PC 270 l Dv.ne (n+1)
theorem Ox (op:Int) (x:Expr):A7 (Bw op x)=.agg [A2 op,A8 [],A2 0,A2 0,A8 [],.slice false 6 [A7 x]]:=by rw [Ab];rfl
theorem d7 (t:Str) (a b:Expr):A7 (Ca t a b)=.agg [A2 5,.v (sv t),A2 0,A2 0,A8 [],.slice false 6 [A7 a,A7 b]]:=by rw [Ab];rfl
theorem low_agg {n:Nat} (e:Expr):Low n (.agg [.v (.int .i64 e.op),.v (sv e.text),.v (.int .i64 e.val.kind),.v (.int .i64 e.val.n),.v (sv e.val.s),.slice false 6 (e.kids.map A7)]):=by
 have:=Ad n e
 rwa [Ab] at this
theorem ABx (l:List Tok) (S:PS) (Dv:Fam) (o:Nat) (Hp:List AObj) (ho:Hp[o]? = some (pr l S)) (hi:S.i<l.length) (hl:TokEnd l) (hll:l.length≤1048576) (hnl:S.nest≤30) (hd:DeepC l Dv S.nest) (hc:PC 271 l (Cn l Dv) S.nest):ACall Tryz.prog 270 [.ptr o 0] Hp (fun r H'=>r=A7 (Hm l Dv S).1∧H'=Hp.set o (pr l (Hm l Dv S).2)):=by
 refine ACall.body [.cell 2 69] [0] Tryz.func270 Tryz.ntmps270 (fun d=>?_)
 refine Z38 ?_;refine Z46 ?_;refine R.call Tryz.call244 (X5 l S Zw o _ (A4 ho) hi hl (by decide)) ?_;refine R.go ?_;refine R.fin [0,2,6] ?_
 refine W.cond (fun ht6=>?_) (fun ht6=>?_)
 ·have e:Hm l Dv S=Cn l Dv S:=if_pos ht6
  refine Z3 ?_;refine R.callUp Tryz.call271 ho (by simp) Bv (hc o _ S (A4 ho) hi rfl) ?_;refine Z7 ?_;exact Z68
 have his:isM l Zw S=true:=by simpa using ht6
 have hi1:(A3 S).i<l.length:=hl.stepIs hi his
 have e:Hm l Dv S=(Bw 3 (Ai (A5 l S.i).at_ Dv.ne (A3 S)).1,(Ai (A5 l S.i).at_ Dv.ne (A3 S)).2):=if_neg (by rw [ht6];simp)
 refine Z8 ?_;refine Z41 ?_;refine Z83 ?_;refine Z28 ?_;refine Km ?_;refine R.callUp Tryz.call259 (getset ho) (by simp) Bv (n9 Tryz.call270 l (A3 S) (A5 l S.i).at_ Dv.ne o _ (A4 (getset ho)) hi1 hnl (fun h=>(hd.ne h).1) (fun h=>(hd.ne h).2)) ?_;refine Ru ?_;refine Z93 ?_;exact K.fin (V.one (V.cellN jA jS)) ⟨by rw [e,Ox];simp only [Ab],by rw [e,List.set_set]⟩ (hlow:=by have:=Ad Hp.length (Bw 3 (Ai (A5 l S.i).at_ Dv.ne (A3 S)).1);rw [Ox] at this;simp only [Ab] at this;simpa only [List.length_set] using this)

theorem ABy (l:List Tok) (S:PS) (Dv:Fam) (o:Nat) (Hp:List AObj) (ho:Hp[o]? = some (pr l S)) (hi:S.i<l.length) (hl:TokEnd l) (hll:l.length≤1048576) (hnl:S.nest≤30) (hd:DeepC l Dv S.nest) (hc:PC 258 l (Bu l Dv) S.nest):ACall Tryz.prog 246 [.ptr o 0] Hp (fun r H'=>r=A7 (Hn l Dv S).1∧H'=Hp.set o (pr l (Hn l Dv S).2)):=by
 refine ACall.body [.cell 2 69] [0] Tryz.func246 Tryz.ntmps246 (fun d=>?_)
 refine Z38 ?_;refine Z46 ?_;refine R.call Tryz.call244 (X5 l S Zu o _ (A4 ho) hi hl (by decide)) ?_;refine R.go ?_;refine R.fin [0,2,6] ?_
 refine W.cond (fun ht6=>?_) (fun ht6=>?_)
 ·have e:Hn l Dv S=Bu l Dv S:=if_pos ht6
  refine Z3 ?_;refine R.callUp Tryz.call258 ho (by simp) Bv (hc o _ S (A4 ho) hi rfl) ?_;refine Z7 ?_;exact Z68
 have his:isM l Zu S=true:=by simpa using ht6
 have hi1:(A3 S).i<l.length:=hl.stepIs hi his
 have e:Hn l Dv S=(Bw 4 (Ai (A5 l S.i).at_ Dv.no (A3 S)).1,(Ai (A5 l S.i).at_ Dv.no (A3 S)).2):=if_neg (by rw [ht6];simp)
 refine Z8 ?_;refine Z41 ?_;refine Z83 ?_;refine Z28 ?_;refine Km ?_;refine R.callUp Tryz.call259 (getset ho) (by simp) Bv (n9 Tryz.call246 l (A3 S) (A5 l S.i).at_ Dv.no o _ (A4 (getset ho)) hi1 hnl (fun h=>(hd.no h).1) (fun h=>(hd.no h).2)) ?_;refine Ru ?_;refine Z93 ?_;exact K.fin (V.one (V.cellN jA jS)) ⟨by rw [e,Ox];simp only [Ab],by rw [e,List.set_set]⟩ (hlow:=by have:=Ad Hp.length (Bw 4 (Ai (A5 l S.i).at_ Dv.no (A3 S)).1);rw [Ox] at this;simp only [Ab] at this;simpa only [List.length_set] using this)

theorem ABz (l:List Tok) (S:PS) (Dv:Fam) (o:Nat) (Hp:List AObj) (ho:Hp[o]? = some (pr l S)) (hi:S.i<l.length) (hl:TokEnd l) (hll:l.length≤1048576) (hnl:S.nest≤30) (hd:DeepC l Dv S.nest) (hg:Dg l S.nest (Bm l Dv)) (hc:PC 266 l (Bm l Dv) S.nest):ACall Tryz.prog 258 [.ptr o 0] Hp (fun r H'=>r=A7 (Bu l Dv S).1∧H'=Hp.set o (pr l (Bu l Dv S).2)):=by
 have hq:=hg S hi rfl
 refine ACall.body [.cell 2 69] [0] Tryz.func258 Tryz.ntmps258 (fun d=>?_)
 refine Z38 ?_;refine Z3 ?_;refine R.callUp Tryz.call266 ho (by simp) Bv (hc o _ S (A4 ho) hi rfl) ?_;refine Z83 ?_;refine Z77 ?_
 refine R.go (h:=Q.loadUp (getset ho)) (hr:=?_)
 refine Ui ?_;refine G.call Tryz.call244 (fun hB=>X5 l (Bm l Dv S).2 V0 o _ (A4 (getset ho)) hq.lt hl (by decide)) ?_;refine W6 ?_;refine R.fin [0,2,3,17] ?_
 refine W.cond (fun ht17=>?_) (fun ht17=>?_)
 ·have e:Bu l Dv S=Bm l Dv S:=if_pos ht17
  refine Z3 ?_;refine Z7 ?_;exact Z68
 have his:isM l V0 (Bm l Dv S).2=true:=by
  have:=ht17
  simp only [Bool.or_eq_false_iff,Bool.not_eq_false'] at this
  exact this.2
 have hi1:(A3 (Bm l Dv S).2).i<l.length:=hl.stepIs hq.lt his
 have e:Bu l Dv S=(Ca (A5 l (Bm l Dv S).2.i).text (Bm l Dv S).1 (Bm l Dv (A3 (Bm l Dv S).2)).1,(Bm l Dv (A3 (Bm l Dv S).2)).2):=if_neg (by rw [ht17];simp)
 refine Rt ?_;refine R.callUp Tryz.call245 (getset ho) (by simp) Bv (n8 l (Bm l Dv S).2 o _ (A4 (getset ho)) hq.lt hll) ?_;refine Z16 ?_;refine R.fin [0,2,3,4] ?_;refine W.drawY [0,1,0,0,8,28,63,127] [4] [.q 4 [] [],.s [25] (some 0) [] [],.q 1 [0] []] (fun B=>Hp.set o (if B 0=true then pr l (Bm l Dv (A3 (Bm l Dv S).2)).2 else pr l (A3 (Bm l Dv S).2))) (fun _=>[.cells 69 [A2 0,A8 [],A2 0,A2 0,A8 [],.nil],.cells 69 (E3 (Bm l Dv S).1),.cells 59 [A2 (A5 l (Bm l Dv S).2.i).kind,A8 (A5 l (Bm l Dv S).2.i).text,A2 (A5 l (Bm l Dv S).2.i).at_]]) Ac (by kernel_rfl) (by simp [List.set_set]) rfl (fun B=>by simp) ?_
 apply Y.q
 case h1 =>
  intro B hT hF
  exact lh
 case hTF=>decide
 refine Y.callUp (r:=A7 (Bm l Dv (A3 (Bm l Dv S).2)).1) (o:=o) (x0:=pr l (A3 (Bm l Dv S).2)) (x:=pr l (Bm l Dv (A3 (Bm l Dv S).2)).2) Tryz.call266 (fun B hT hF hB=>⟨by simp only [hB];exact getset ho,by simp [upd],rfl,Bv,?_⟩) ?_
 ·simp only [hB]
  exact hc o _ (A3 (Bm l Dv S).2) (A4 (getset ho)) hi1 hq.nest
 apply Y.q
 case h1 =>
  intro B hT hF
  exact Z31
 case hTF=>decide
 refine Y.tail (tn:=[4]) (U:=Hp.set o (pr l (Bm l Dv (A3 (Bm l Dv S).2)).2)) ?_;refine Z93 ?_;exact K.fin (V.one (V.cellN jA jS)) ⟨by rw [e,d7];simp only [Ab],by rw [e]⟩ (hlow:=by have:=Ad Hp.length (Ca (A5 l (Bm l Dv S).2.i).text (Bm l Dv S).1 (Bm l Dv (A3 (Bm l Dv S).2)).1);rw [d7] at this;simp only [Ab] at this;simpa only [List.length_set] using this)

/-- The contract of the parser of calls. -/
def X6 (l:List Tok) (Dv:Fam) (n:Nat):Prop:=∀(o:Nat) (Hp:List AObj) (S:PS) (t:Tok),Hp[o]? = some (pr l S)→(A3 S).i<l.length→S.nest=n→t.text.length≤1048576→isM l opT S=true→ACall Tryz.prog 273 [.ptr o 0,Gv t] Hp (fun r H'=>r=A7 (Eo l Dv t S).1∧H'=Hp.set o (pr l (Eo l Dv t S).2))
theorem na:A7 Ag=.agg [A2 0,A8 [],A2 0,A2 0,A8 [],.slice false 6 []]:=by rw [Ab];rfl
theorem AC0 (l:List Tok) (S:PS) (Dv:Fam) (o:Nat) (Hp:List AObj) (ho:Hp[o]? = some (pr l S)) (hi:S.i<l.length) (hl:TokEnd l) (hll:l.length≤1048576) (hnl:S.nest≤30) (hd:DeepC l Dv S.nest) (hcl:X6 l Dv S.nest):ACall Tryz.prog 271 [.ptr o 0] Hp (fun r H'=>r=A7 (Cn l Dv S).1∧H'=Hp.set o (pr l (Cn l Dv S).2)):=by
 refine ACall.body [.cell 2 69] [0] Tryz.func271 Tryz.ntmps271 (fun d=>?_)
 refine Z38 ?_;refine vz ?_;refine Z83 ?_;refine Z77 ?_
 refine R.go (h:=Q.loadUp ho) (hr:=?_)
 refine R.go ?_;refine R.fin [0,2,3,14] ?_
 refine W.cond (fun ht14=>?_) (fun ht14=>?_)
 ·have e:Cn l Dv S=(Ag,S):=if_pos ht14
  refine Z81 ?_;refine R.wk 15 _ Qm ?_;refine Z7 ?_;refine K.thR ?_;exact K.fin (V.one (V.cellN jA jS)) ⟨by rw [e,Ab],by rw [e];exact (Eb ho).symm⟩ (hlow:=by have:=Ad Hp.length (Ag);simpa only [Ab,List.length_set] using this)
 have e0:¬(S.code != 0)=true:=by rw [ht14];simp
 refine Z8 ?_;refine Z24 ?_;refine Z28 ?_;refine G.go ?_;refine G.call Tryz.call244 (fun hB=>X5 l S Oq o _ (A4 ho) hi hl (by decide)) ?_;refine Z0 ?_;refine R.fin [0,2,3,16] ?_
 refine W.cond (fun ht16=>?_) (fun ht16=>?_)
 ·have e:Cn l Dv S=(Ex (Cl (A5 l S.i).text).1,A3 S):=by unfold Cn;rw [if_neg e0,if_pos ht16]
  refine Z41 ?_;refine R.go ?_;refine R.call Tryz.call157 (wl (A5 l S.i).text (hl.text _) _) ?_;refine Z19 ?_;refine Z16 ?_;refine R.go ?_;refine R.fin [2,4] ?_;refine Z3 ?_;refine R.call Tryz.call272 (AA3 (Cl (A5 l S.i).text).1 _) ?_;refine Z7 ?_;refine Z10 ?_;exact K.fin (V.one (V.cellN jA jS)) ⟨by rw [e,Ab],by rw [e]⟩ (hlow:=by have:=Ad Hp.length (Ex (Cl (A5 l S.i).text).1);simpa only [Ab,List.length_set] using this)
 have e1:¬(((A5 l S.i).kind==3) || isM l Oq S)=true:=by rw [ht16];simp
 refine Z28 ?_;refine R.fin [0,2,3,33] ?_
 refine W.cond (fun ht33=>?_) (fun ht33=>?_)
 ·have e:Cn l Dv S=(Ex ⟨2,0,(A5 l S.i).text.take 200⟩,A3 S):=by unfold Cn;rw [if_neg e0,if_neg e1,if_pos ht33]
  refine Z41 ?_;refine R.go ?_;refine R.call Tryz.call210 (c210 (A5 l S.i).text _) ?_;refine R.call Tryz.call272 (AA3 ⟨2,0,(A5 l S.i).text.take 200⟩ _) ?_;refine Z7 ?_;refine Z10 ?_;exact K.fin (V.one (V.cellN jA jS)) ⟨by rw [e,Ab],by rw [e]⟩ (hlow:=by have:=Ad Hp.length (Ex ⟨2,0,(A5 l S.i).text.take 200⟩);simpa only [Ab,List.length_set] using this)
 have e2:¬((A5 l S.i).kind==4)=true:=by rw [ht33];simp
 refine Z28 ?_;refine R.fin [0,2,3,42] ?_
 refine W.cond (fun ht42=>?_) (fun ht42=>?_)
 ·have hi1:(A3 S).i<l.length:=hl.step hi (by rw [beq_iff_eq] at ht42;rw [ht42];decide)
  refine Z41 ?_;refine R.fin [0,2,3] ?_;refine Z46 ?_;refine R.call Tryz.call244 (X5 l (A3 S) opT o _ (A4 (getset ho)) hi1 hl (by decide)) ?_;refine R.fin [0,2,3,49] ?_
  refine W.cond (fun ht49=>?_) (fun ht49=>?_)
  ·have e:Cn l Dv S=Eo l Dv (A5 l S.i) (A3 S):=by unfold Cn;rw [if_neg e0,if_neg e1,if_neg e2,if_pos ht42,if_pos ht49]
   have hi2:(A3 (A3 S)).i<l.length:=hl.stepIs hi1 ht49
   refine Z1 ?_;refine R.callUp Tryz.call273 (getset ho) (by simp) Bv (hcl o _ (A3 S) (A5 l S.i) (A4 (getset ho)) hi2 rfl (hl.text _) ht49) ?_;refine Z7 ?_;refine K.thR ?_;refine Z10 ?_;exact K.fin (V.one (V.cellN jA jS)) ⟨by rw [e,Ab],by rw [e,List.set_set]⟩ (hlow:=by have:=Ad Hp.length ((Eo l Dv (A5 l S.i) (A3 S)).1);simpa only [Ab,List.length_set] using this)
  have e:Cn l Dv S=(B3 (A5 l S.i).text,A3 S):=by unfold Cn;rw [if_neg e0,if_neg e1,if_neg e2,if_pos ht42,if_neg (by rw [ht49];simp)]
  refine Z8 ?_;refine Z90 ?_;refine R.wk 55 _ (Wm _) ?_;refine Z7 ?_;refine Z10 ?_;exact K.fin (V.one (V.cellN jA jS)) ⟨by rw [e,Ab],by rw [e]⟩ (hlow:=by have:=Ad Hp.length (B3 (A5 l S.i).text);simpa only [Ab,List.length_set] using this)
 have e3:¬((A5 l S.i).kind==1)=true:=by rw [ht42];simp
 refine Z3 ?_;refine R.call Tryz.call244 (X5 l S opT o _ (A4 ho) hi hl (by decide)) ?_;refine R.go ?_;refine R.fin [0,2,3,56] ?_
 refine W.cond (fun ht56=>?_) (fun ht56=>?_)
 ·have e:Cn l Dv S=((Ai (A5 l S.i).at_ Dv.ei (A3 S)).1,Cj l Cw (Ai (A5 l S.i).at_ Dv.ei (A3 S)).2):=by unfold Cn;rw [if_neg e0,if_neg e1,if_neg e2,if_neg e3,if_pos ht56]
  have hi1:(A3 S).i<l.length:=hl.stepIs hi ht56
  have hwf:=Gw (S:=A3 S) (l:=l) (f:=Dv.ei) (A5 l S.i).at_ hi1 (fun h=>(hd.ei h).1)
  refine Z41 ?_;refine R.fin [0,2,3] ?_;refine Z28 ?_;refine Km ?_;refine R.callUp Tryz.call259 (getset ho) (by simp) Bv (n9 Tryz.call215 l (A3 S) (A5 l S.i).at_ Dv.ei o _ (A4 (getset ho)) hi1 hnl (fun h=>(hd.ei h).1) (fun h=>(hd.ei h).2)) ?_;refine Z16 ?_;refine R.fin [0,2,6] ?_;refine Z3 ?_;refine R.callUp Tryz.call274 (getset (getset ho)) (by simp) Bv (AA4 l (Ai (A5 l S.i).at_ Dv.ei (A3 S)).2 Cw o _ (A4 (getset (getset ho))) hwf.lt hll) ?_;refine R.fin [2,6] ?_;refine Z3 ?_;refine Z7 ?_;refine Z10 ?_;exact K.fin (V.one (V.cellN jA jS)) ⟨by rw [e,Ab],by rw [e,List.set_set,List.set_set]⟩ (hlow:=by have:=Ad Hp.length ((Ai (A5 l S.i).at_ Dv.ei (A3 S)).1);simpa only [Ab,List.length_set] using this)
 have e:Cn l Dv S=(Ag,Ci 8 (A5 l S.i).at_ S):=by unfold Cn;rw [if_neg e0,if_neg e1,if_neg e2,if_neg e3,if_neg (by rw [ht56];simp)]
 refine Z20 ?_;refine yu ?_;refine Z7 ?_;exact K.fin (V.one (V.cellN jA jS)) ⟨by rw [e,Ab],by rw [e]⟩ (hlow:=by have:=Ad Hp.length (Ag);simpa only [Ab,List.length_set] using this)

theorem sq {l:List Tok} (hl:TokEnd l) (hll:l.length≤1048576) {d n:Nat} (h:n+(d+1)=31) (hp:n≠30→PC 215 l (Bs l d).ei (n+1)∧PC 246 l (Bs l d).no (n+1)∧PC 270 l (Bs l d).ne (n+1)):DeepC l (Bs l d) n:=by
 have g:n≠30→_:=fun h30=>Nd hl hll d (n+1) (by omega) (by omega)
 exact ⟨fun h=>⟨(g h).1,(hp h).1⟩,fun h=>⟨(g h).2.1,(hp h).2.1⟩,fun h=>⟨(g h).2.2,(hp h).2.2⟩⟩
/-- All functions of the parser. -/
theorem X7 {l:List Tok} (hl:TokEnd l) (hll:l.length≤1048576) (hcl:∀n Dv,n≤30→DeepC l Dv n→X6 l Dv n):∀(d n:Nat),n+d=31→n≤30→PC 215 l (Bs l d).ei n∧PC 246 l (Bs l d).no n∧PC 270 l (Bs l d).ne n
 | 0,n,h,hn=>by omega
 | d+1,n,h,hn=>by
  have hd:DeepC l (Bs l d) n:=sq hl hll h (fun h30=>X7 hl hll hcl d (n+1) (by omega) (by omega))
  have g1:Dg l n (Hm l (Bs l d)):=Nc hl hll (fun h=>(hd.ei h).1) (fun h=>(hd.ne h).1)
  have g2:Dg l n (Q6 l (Bs l d)):=Ey hl g1
  have g3:Dg l n (Bm l (Bs l d)):=Ey hl g2
  have g4:Dg l n (Bu l (Bs l d)):=Kv hl hll (fun h=>(hd.ei h).1) (fun h=>(hd.ne h).1)
  have g5:Dg l n (Hn l (Bs l d)):=Sw hl hll (fun h=>(hd.ei h).1) (fun h=>(hd.ne h).1) (fun h=>(hd.no h).1)
  have g6:Dg l n (Q7 l (Bs l d)):=Ey hl g5
  have p0:PC 271 l (Cn l (Bs l d)) n:=fun o Hp S ho hi hS=>by
   subst hS
   exact AC0 l S (Bs l d) o Hp ho hi hl hll hn hd (hcl _ _ hn hd)
  have p1:PC 270 l (Hm l (Bs l d)) n:=fun o Hp S ho hi hS=>by
   subst hS
   exact ABx l S (Bs l d) o Hp ho hi hl hll hn hd p0
  have p2:PC 269 l (Q6 l (Bs l d)) n:=fun o Hp S ho hi hS=>by
   subst hS
   exact ABw l S (Hm l (Bs l d)) o Hp ho hi hl hll g1 p1
  have p3:PC 266 l (Bm l (Bs l d)) n:=fun o Hp S ho hi hS=>by
   subst hS
   exact ABv l S (Q6 l (Bs l d)) o Hp ho hi hl hll g2 p2
  have p4:PC 258 l (Bu l (Bs l d)) n:=fun o Hp S ho hi hS=>by
   subst hS
   exact ABz l S (Bs l d) o Hp ho hi hl hll hn hd g3 p3
  have p5:PC 246 l (Hn l (Bs l d)) n:=fun o Hp S ho hi hS=>by
   subst hS
   exact ABy l S (Bs l d) o Hp ho hi hl hll hn hd p4
  have p6:PC 235 l (Q7 l (Bs l d)) n:=fun o Hp S ho hi hS=>by
   subst hS
   exact ABu l S (Hn l (Bs l d)) o Hp ho hi hl hll g5 p5
  have p7:PC 215 l (Kh l (Bs l d)) n:=fun o Hp S ho hi hS=>by
   subst hS
   exact ABt l S (Q7 l (Bs l d)) o Hp ho hi hl hll g6 p6
  exact ⟨p7,p5,p1⟩
set_option maxRecDepth 8000
/-! The document's kinds of trees are infer's. -/
set_option maxRecDepth 4000
theorem d8 {n:Nat} {U F:Nat→List AObj} {H':List AObj} (h:Ia (fun _=>true) U F n H'):H'=U n:=by
 rcases h with ⟨_,h⟩|⟨j,_,_,h,_⟩
 ·exact h
 cases h
theorem ik {α:Type} {l:List α} {k:Nat} {y:α} (h:l[k]? = some y):l.take (k+1)=l.take k++[y]:=by rw [List.take_add_one,h];rfl
theorem nb {L:List (Int×Expr)} {k:Nat} {it:Int×Expr} (h:L[k]? = some it):Ds 0 (L.take (k+1))=if Ds 0 (L.take k)<it.1 then it.1 else Ds 0 (L.take k):=by
 have e:Ds 0 (L.take (k+1))=max (Ds 0 (L.take k)) it.1:=by
  unfold Ds
  rw [ik h,List.foldl_append]
  rfl
 rw [e]
 split<;>omega
theorem T6 {n k:Nat} {o:Bool} {l:List Str}:Low n (.slice o k (l.map A8)):=by simp [or_imp,forall_and]
theorem AC1 (n:Nat) (e:Expr) (hok:okE n e) (hn:n≤1048576) (hs:sizeE e≤1048576) (Hp:List AObj):AFun Tryz.prog 216 [A7 e] Hp (A2 (depthE e:Nat)):=by
 refine ACall.body [.tmp 2] [0,4] Tryz.func216 Tryz.ntmps216 (fun d=>?_)
 refine Z1 ?_;refine R.fin [1,4] ?_;refine Dq ?_;refine Z16 ?_;refine R.fin [1,3,4] ?_;refine Z49 ?_
 refine R.assumeLow (fun hlow=>?_)
 refine w5 ?_;refine R.fin [3,4,6] ?_;refine AW.block ?_
 refine W.rangeV (m:=1) Tryz.call141 (fun FR as' bd' hFR has hbd=>?_)
 have hFRl:∀s,Low (Hp.length+3) (FR s):=by
  intro s
  rw [hFR]
  refine Low.strip ?_
  revert s
  repeat (first|exact B0|refine Az (by simp [oid,Ad]<;>try omega) ?_)
 have hOl:∀{k:Nat},∀x∈[AObj.cells 3 [A2 (Ds 0 ((Ap 1 e).take k))],AObj.defs,AObj.loop LoopState.ready none FR 13 #[7,8] as' bd' (oid Hp.length 1)],ObjLow (Hp.length+3) x:=by
  intro k x hx
  simp only [List.mem_cons,List.mem_nil_iff,or_false] at hx
  rcases hx with rfl|rfl|rfl
  ·intro y hy
   rw [List.mem_singleton.1 hy]
   first|exact T6|simp
  ·trivial
  exact ly
 refine ⟨fun _ H'=>Ia (fun _=>true) (fun k=>Hp++[AObj.cells 3 [A2 (Ds 0 ((Ap 1 e).take k))],AObj.defs,AObj.loop LoopState.ready none FR 13 #[7,8] as' bd' (oid Hp.length 1)]) (fun k=>Hp++[AObj.cells 3 [A2 (Ds 0 ((Ap 1 e).take k))],AObj.defs,AObj.loop LoopState.ready none FR 13 #[7,8] as' bd' (oid Hp.length 1)]) (Ap 1 e).length H',wo (l:=oid Hp.length 2) (go:=fun _=>true) (U:=fun k=>Hp++[AObj.cells 3 [A2 (Ds 0 ((Ap 1 e).take k))],AObj.defs,AObj.loop LoopState.ready none FR 13 #[7,8] as' bd' (oid Hp.length 1)]) (F:=fun k=>Hp++[AObj.cells 3 [A2 (Ds 0 ((Ap 1 e).take k))],AObj.defs,AObj.loop LoopState.ready none FR 13 #[7,8] as' bd' (oid Hp.length 1)]) (n0:=Hp.length+3) ⟨fun k=>by simp,fun k=>by simp,fun k x hx=>?_,fun k x hx=>?_,by simp [oid],fun X k it hit hgo=>?_⟩ n hok hn,?_⟩
 ·exact lz
 ·exact lz
 ·have hklt:k<sizeE e:=by rw [←Ee 1 e];exact (List.getElem?_eq_some_iff.1 hit).1
  generalize hV:(Hp++[AObj.cells 3 [A2 (Ds 0 ((Ap 1 e).take k))],AObj.defs,AObj.loop LoopState.ready none FR 13 #[7,8] as' bd' (oid Hp.length 1)]++X)=V
  have hL:V[oid Hp.length 2]? = some (AObj.loop LoopState.ready none FR 13 #[7,8] as' bd' (oid Hp.length 1)):=by rw [←hV,List.append_assoc,Aq];rfl
  have hA0:V[oid Hp.length 0]? = some (AObj.cells 3 [A2 (Ds 0 ((Ap 1 e).take k))]):=by rw [←hV,List.append_assoc,Aq];rfl
  refine AYield.ofRound (pd:=none) (fr:=FR) (sz:=13) (ps:=#[7,8]) (df:=oid Hp.length 1) (asg:=as') (bd:=bd') hL rfl (by decide) (fun d=>?_)
  subst hFR has hbd
  refine W.keep [3,7,8] ?_;refine Z86 ?_;refine R.fin [3,4] ?_
  refine ⟨rfl,none,hL,?_⟩
  generalize hbz:(AObj.loop LoopState.busy _ _ _ _ _ _ _)=bz
  have hA:(V.set (oid Hp.length 2) bz)[oid Hp.length 0]? = some (AObj.cells 3 [A2 (Ds 0 ((Ap 1 e).take k))]):=by rw [List.getElem?_set_ne (D5 (by decide))];exact hA0
  refine AW.block ?_;refine AW.region ?_
  refine R.go (h:=Q.loadUp hA) (hr:=?_)
  refine R.go ?_;refine R.maxI ?_
  refine R.storeUp jS hA ?_ ?_
  ·simp
  refine Z43 ?_
  subst hbz
  refine rf ?_
  refine ⟨rfl,?_⟩
  rw [if_pos rfl]
  subst hV
  simp only [List.append_assoc,Er,List.cons_append,List.nil_append,List.set_cons_succ,List.set_cons_zero]
  rw [nb hit]
 intro r H' hq
 obtain rfl:=d8 hq
 refine ⟨Hp,_,_,_,rfl,rfl,fun h=>h,?_,rfl,by simp,?_⟩
 ·intro o ho
  have:o=oid Hp.length 1:=by simpa using ho
  subst this
  rw [Aq]
  rfl
 refine Z14 ?_;refine Z1 ?_;refine Z4 ?_;exact K.fin (V.one V.tmp) ⟨by rw [List.take_length,Oc],rfl⟩

theorem AC2 (n:Nat) (e:Expr) (hok:okE n e) (hn:n≤1048576) (hs:sizeE e≤1048576) (Hp:List AObj):AFun Tryz.prog 218 [A7 e] Hp (A2 (sizeE e:Nat)):=by
 refine ACall.body [.tmp 2] [0] Tryz.func218 Tryz.ntmps218 (fun d=>?_)
 refine Z89 ?_;refine Dq ?_;refine Z16 ?_;refine R.fin [1,3] ?_;refine Z49 ?_
 refine R.assumeLow (fun hlow=>?_)
 refine w5 ?_;refine R.fin [3,5] ?_;refine AW.block ?_
 refine W.rangeV (m:=1) Tryz.call141 (fun FR as' bd' hFR has hbd=>?_)
 have hFRl:∀s,Low (Hp.length+3) (FR s):=by
  intro s
  rw [hFR]
  refine Low.strip ?_
  revert s
  repeat (first|exact B0|refine Az (by simp [oid,Ad]<;>try omega) ?_)
 have hOl:∀{k:Nat},∀x∈[AObj.cells 3 [A2 ((k:Nat))],AObj.defs,AObj.loop LoopState.ready none FR 11 #[6,7] as' bd' (oid Hp.length 1)],ObjLow (Hp.length+3) x:=by
  intro k x hx
  simp only [List.mem_cons,List.mem_nil_iff,or_false] at hx
  rcases hx with rfl|rfl|rfl
  ·intro y hy
   rw [List.mem_singleton.1 hy]
   first|exact T6|simp
  ·trivial
  exact ly
 refine ⟨fun _ H'=>Ia (fun _=>true) (fun k=>Hp++[AObj.cells 3 [A2 ((k:Nat))],AObj.defs,AObj.loop LoopState.ready none FR 11 #[6,7] as' bd' (oid Hp.length 1)]) (fun k=>Hp++[AObj.cells 3 [A2 ((k:Nat))],AObj.defs,AObj.loop LoopState.ready none FR 11 #[6,7] as' bd' (oid Hp.length 1)]) (Ap 1 e).length H',wo (l:=oid Hp.length 2) (go:=fun _=>true) (U:=fun k=>Hp++[AObj.cells 3 [A2 ((k:Nat))],AObj.defs,AObj.loop LoopState.ready none FR 11 #[6,7] as' bd' (oid Hp.length 1)]) (F:=fun k=>Hp++[AObj.cells 3 [A2 ((k:Nat))],AObj.defs,AObj.loop LoopState.ready none FR 11 #[6,7] as' bd' (oid Hp.length 1)]) (n0:=Hp.length+3) ⟨fun k=>by simp,fun k=>by simp,fun k x hx=>?_,fun k x hx=>?_,by simp [oid],fun X k it hit hgo=>?_⟩ n hok hn,?_⟩
 ·exact lz
 ·exact lz
 ·have hklt:k<sizeE e:=by rw [←Ee 1 e];exact (List.getElem?_eq_some_iff.1 hit).1
  generalize hV:(Hp++[AObj.cells 3 [A2 ((k:Nat))],AObj.defs,AObj.loop LoopState.ready none FR 11 #[6,7] as' bd' (oid Hp.length 1)]++X)=V
  have hL:V[oid Hp.length 2]? = some (AObj.loop LoopState.ready none FR 11 #[6,7] as' bd' (oid Hp.length 1)):=by rw [←hV,List.append_assoc,Aq];rfl
  have hA0:V[oid Hp.length 0]? = some (AObj.cells 3 [A2 ((k:Nat))]):=by rw [←hV,List.append_assoc,Aq];rfl
  refine AYield.ofRound (pd:=none) (fr:=FR) (sz:=11) (ps:=#[6,7]) (df:=oid Hp.length 1) (asg:=as') (bd:=bd') hL rfl (by decide) (fun d=>?_)
  subst hFR has hbd
  refine W.keep [3,6,7] ?_;refine AW.skip ?_
  refine ⟨rfl,none,hL,?_⟩
  generalize hbz:(AObj.loop LoopState.busy _ _ _ _ _ _ _)=bz
  have hA:(V.set (oid Hp.length 2) bz)[oid Hp.length 0]? = some (AObj.cells 3 [A2 ((k:Nat))]):=by rw [List.getElem?_set_ne (D5 (by decide))];exact hA0
  refine AW.block ?_;refine AW.region ?_
  refine R.go (h:=Q.loadUp hA) (hr:=?_)
  refine R.go ?_
  refine R.storeUp jS hA ?_ ?_
  ·simp
  refine Z43 ?_
  subst hbz
  refine rf ?_
  refine ⟨rfl,?_⟩
  rw [if_pos rfl]
  subst hV
  simp only [List.append_assoc,Er,List.cons_append,List.nil_append,List.set_cons_succ,List.set_cons_zero]
  rfl
 intro r H' hq
 obtain rfl:=d8 hq
 refine ⟨Hp,_,_,_,rfl,rfl,fun h=>h,?_,rfl,by simp,?_⟩
 ·intro o ho
  have:o=oid Hp.length 1:=by simpa using ho
  subst this
  rw [Aq]
  rfl
 refine Z14 ?_;refine Z1 ?_;refine Z4 ?_;exact K.fin (V.one V.tmp) ⟨by rw [Ee],rfl⟩

set_option maxRecDepth 8000
abbrev TK:=Int×Str
/-- What stands from word i on. -/
def seg (l:List Tok) (i:Nat):List TK:=(l.drop i).map ktT
theorem An {l:List Tok} {i:Nat} {k:Int} {t:Str} {r:List TK} (h:seg l i=(k,t)::r):(A5 l i).kind=k∧(A5 l i).text=t∧seg l (i+1)=r∧i<l.length:=by
 unfold seg at h ⊢
 rcases Nat.lt_or_ge i l.length with hi|hi
 ·rw [List.drop_eq_getElem_cons hi,List.map_cons,List.cons.injEq] at h
  have e:A5 l i=l[i]:=by unfold A5;rw [List.getD_eq_getElem?_getD,List.getElem?_eq_getElem hi];rfl
  rw [e]
  have h1:=h.1
  unfold ktT at h1
  rw [Prod.mk.injEq] at h1
  exact ⟨h1.1,h1.2,h.2,hi⟩
 rw [List.drop_of_length_le hi] at h;cases h
theorem Cf {l:List Tok} {i:Nat} {ts rest:List TK} (h:seg l i=ts++rest):seg l (i+ts.length)=rest:=by
 unfold seg at h ⊢
 have:=congrArg (List.drop ts.length) h
 rw [List.drop_left,←List.map_drop,List.drop_drop] at this
 exact this
theorem Dd {l:List Tok} {S:PS} {of:Str} {k:Int} {t:Str} {r:List TK} (h:seg l S.i=(k,t)::r):isM l of S=(((k==5) || (k==2))&&Dc t of):=by
 unfold isM
 rw [(An h).1,(An h).2.1]
theorem V1 {l:List Tok} {S:PS} {of:Str} (h:seg l S.i=[]):isM l of S=false:=by
 unfold seg at h
 have hi:l.length≤S.i:=by simpa using h
 unfold isM A5
 rw [List.getD_eq_getElem?_getD,List.getElem?_eq_none hi]
 rfl
theorem nd {w:Str} (hw:(32:UInt8)∉w) (h0:w≠[]) (s:Str):Dc s (32::(w++[32]))=(s==w):=by
 have e:(32::(w++[32]):Str)=Hc [w]:=rfl
 rw [Gx e (fun x hx=>by rw [List.mem_singleton.1 hx];exact hw) s]
 by_cases hs:s=[]
 ·subst hs
  cases w with
  | nil=>exact absurd rfl h0
  | cons a r=>rfl
 have:(s==[])=false:=by simpa using hs
 rw [this,Bool.eq_iff_iff]
 simp
theorem Gc (s:Str):s∈levels.flatten∨(Af s = -1∧∀l∈levels,l.contains s=false):=by
 by_cases h:s∈levels.flatten
 ·exact .inl h
 have h2:∀l∈levels,l.contains s=false:=fun l hl=>by
  rw [Bool.eq_false_iff]
  intro h3
  exact h (List.mem_flatten.2 ⟨l,hl,by simpa using h3⟩)
 refine .inr ⟨?_,h2⟩
 unfold Af
 rw [List.findIdx?_eq_none_iff.2 fun l hl=>h2 l hl]
/-- The texts of levels of marks. -/
def ofL (k:Nat):Str:=if k=0 then orT else if k=1 then Zt else if k=3 then V0 else if k=4 then Zv else Q5
theorem Ez {k:Nat} (hk:k=0∨k=1∨k=3∨k=4∨k=5) (s:Str):Dc s (ofL k)=(Af s==(k:Int)):=by
 have e:ofL k=Hc (levels.getD k []):=by rcases hk with rfl|rfl|rfl|rfl|rfl<;>kernel_rfl
 have hp:∀w∈levels.getD k [],(32:UInt8)∉w:=by rcases hk with rfl|rfl|rfl|rfl|rfl<;>decide
 have hm:levels.getD k []∈levels:=by rcases hk with rfl|rfl|rfl|rfl|rfl<;>decide
 rw [Gx e hp s]
 rcases Gc s with h|⟨h1,h2⟩
 ·have h3:(levels.flatten.all fun s=>decide ((!(s==[])&&(levels.getD k []).contains s)=(Af s==(k:Int))))=true:=by rcases hk with rfl|rfl|rfl|rfl|rfl<;>kernel_rfl
  exact of_decide_eq_true (List.all_eq_true.1 h3 s h)
 rw [h2 _ hm,h1,Bool.and_false]
 symm
 rw [beq_eq_false_iff_ne]
 omega
theorem M8 (s:Str) : -1≤Af s∧Af s≤5∧Af s≠2:=by
 rcases Gc s with h|⟨h,_⟩
 ·have h3:(levels.flatten.all fun s=>decide (-1≤Af s∧Af s≤5∧Af s≠2))=true:=by kernel_rfl
  exact of_decide_eq_true (List.all_eq_true.1 h3 s h)
 omega
/-- A row of words behind which no mark of a level, or of a tighter one, stands. -/
def stops (k:Nat) (rest:List TK):Prop:=∀h r,rest=h::r→((h.1==5) || (h.1==2))=true→Af h.2<(k:Int)∧h.2≠[40]
theorem stops.mono {k k':Nat} {rest:List TK} (h:stops k rest) (hk:k≤k'):stops k' rest:=fun a r e hm=>⟨by have:=(h a r e hm).1;omega,(h a r e hm).2⟩
theorem H4 {l:List Tok} {S:PS} {k:Nat} {rest:List TK} (h:stops k rest) (hs:seg l S.i=rest) (hk:k=0∨k=1∨k=3∨k=4∨k=5):isM l (ofL k) S=false:=by
 cases rest with
 | nil=>exact V1 hs
 | cons a r =>
  obtain ⟨ka,ta⟩:=a
  rw [Dd hs,Ez hk]
  cases hb:((ka==5) || (ka==2)) with
  | false=>rfl
  | true =>
   have:=(h _ _ rfl hb).1
   rw [Bool.true_and,beq_eq_false_iff_ne]
   show Af ta≠_
   have:Af ta<(k:Int):=this
   omega
def Qn:Str:=[110,111,116]
def levE (e:Expr):Nat:=if e.op==4 then 2 else if e.op==3 then 6 else if e.op==5 then (Af e.text).toNat else 7
theorem sr (e:Expr):levE e≤7:=by
 have:=M8 e.text
 unfold levE
 repeat' split
 all_goals omega
def De (least:Nat) (x:Expr) (T:List TK):List TK:=if least≤levE x then T else (5,[40])::(T++[(5,[41])])
def Do (least:Nat) (x:Expr) (n:Nat):Nat:=if least≤levE x then n else n+1
def Cp (own:Nat):Nat:=if own=3 then 4 else own
def Fp (v:Val):TK:=if v.kind==1 then (3,Bq v) else if v.kind==2 then (4,v.s) else (2,Bq v)
def opTok (t:Str):TK:=(if Fx (t.headD 0) then 2 else 5,t)
def Fi:List (List TK)→List TK
 | []=>[]
 | T::r=>(5,[44])::(T++Fi r)
def Qo (o:Int) (t:Str) (v:Val) (k:List Expr) (ts:List (List TK)):List TK:=
 if o==1 then [Fp v] else if o==2 then [(1,t)]
 else if o==3 then (5,[45])::De 6 (k.getD 0 Ag) (ts.getD 0 [])
 else if o==4 then (2,Qn)::De 2 (k.getD 0 Ag) (ts.getD 0 [])
 else if o==5 then De (Cp (Af t).toNat) (k.getD 0 Ag) (ts.getD 0 [])++opTok t::De ((Af t).toNat+1) (k.getD 1 Ag) (ts.getD 1 [])
 else (1,t)::(5,[40])::((Fi ts).drop 1++[(5,[41])])
mutual
def Aa:Expr→List TK
 | .mk o t v k=>Qo o t v k (E6 k)
def E6:List Expr→List (List TK)
  | []=>[]
  | e::r=>Aa e::E6 r
 end
def ai:List Nat→Nat
 | []=>0
 | n::r=>max n (ai r)
def Od (o:Int) (t:Str) (k:List Expr) (ns:List Nat):Nat:=
 if o==1 then 0 else if o==2 then 0
 else if o==3 then 1+Do 6 (k.getD 0 Ag) (ns.getD 0 0)
 else if o==4 then 1+Do 2 (k.getD 0 Ag) (ns.getD 0 0)
 else if o==5 then max (Do (Cp (Af t).toNat) (k.getD 0 Ag) (ns.getD 0 0)) (Do ((Af t).toNat+1) (k.getD 1 Ag) (ns.getD 1 0))
 else 1+ai ns
mutual
def At:Expr→Nat
 | .mk o t v k=>Od o t k (Jx k)
def Jx:List Expr→List Nat
  | []=>[]
  | e::r=>At e::Jx r
 end
theorem T7:∀l,E6 l=l.map Aa
 | []=>rfl
 | e::r=>by rw [E6,T7 r];rfl
theorem d9:∀(l:List Expr),∀y∈l,At y≤ai (Jx l)
 | [],y,h=>by cases h
 | e::r,y,h=>by
  rw [Jx,ai]
  rcases List.mem_cons.1 h with rfl|h
  ·omega
  have:=d9 r y h;omega
theorem su {v:Val} (h:Ga v=true):v=noV:=by
 unfold Ga at h
 simp only [Bool.and_eq_true,beq_iff_eq] at h
 cases v
 simp_all [noV]
/-- What a right node is. -/
inductive NodeC:Expr→Prop
 | val (v:Val) (h:By v=true) (h0:0≤v.n):NodeC (Ex v)
 | name (t:Str) (h:Dn t=true):NodeC (B3 t)
 | neg (a:Expr):NodeC (Bw 3 a)
 | no (a:Expr):NodeC (Bw 4 a)
 | bin (t:Str) (a b:Expr) (h:0≤Af t):NodeC (Ca t a b)
 | call (t:Str) (k:List Expr) (h:Aw t=(k.length:Int)):NodeC (.mk 6 t noV k)
theorem F0 (o:Int) (t:Str) (v:Val) (k:List Expr):M4 (.mk o t v k) =
 if o==1 then ((By v&&decide (0≤v.n))&&(t==[]))&&((k.length:Int)==0)
 else if !(Ga v) then false
 else if o==2 then Dn t&&((k.length:Int)==0)
 else if o==3 || o==4 then (t==[])&&((k.length:Int)==1)
 else if o==5 then decide (0≤Af t)&&((k.length:Int)==2)
 else if o==6 then Aw t==(k.length:Int)
 else false:=rfl
theorem Fq {e:Expr} (h:B1 e=true):NodeC e:=by
 rw [Gb] at h
 cases e with
 | mk o t v k =>
 rw [F0] at h
 by_cases h1:(o==1)=true
 ·rw [if_pos h1] at h
  simp only [Bool.and_eq_true,beq_iff_eq,decide_eq_true_eq] at h h1
  obtain ⟨⟨⟨a1,a2⟩,a3⟩,a4⟩:=h
  subst h1
  subst a3
  have:k=[]:=by cases k with|nil=>rfl|cons x r=>simp at a4;omega
  subst this
  exact .val v a1 a2
 rw [if_neg h1] at h
 by_cases hb:(!(Ga v))=true
 ·rw [if_pos hb] at h;cases h
 rw [if_neg hb] at h
 have hv:v=noV:=su (by simpa using hb)
 subst hv
 by_cases h2:(o==2)=true
 ·rw [if_pos h2] at h
  simp only [Bool.and_eq_true,beq_iff_eq] at h h2
  subst h2
  have:k=[]:=by cases k with|nil=>rfl|cons x r=>have:=h.2;simp at this;omega
  subst this
  exact .name t h.1
 rw [if_neg h2] at h
 by_cases h3:(o==3 || o==4)=true
 ·rw [if_pos h3] at h
  simp only [Bool.and_eq_true,Bool.or_eq_true,beq_iff_eq] at h h3
  obtain ⟨rfl,h4⟩:=h
  match k,h4 with
  | [a],_ =>
   rcases h3 with rfl|rfl
   ·exact .neg a
   exact .no a
  | [],h4=>simp at h4
  | _::_::_,h4=>simp at h4;omega
 rw [if_neg h3] at h
 by_cases h5:(o==5)=true
 ·rw [if_pos h5] at h
  simp only [Bool.and_eq_true,beq_iff_eq,decide_eq_true_eq] at h h5
  subst h5
  match k,h.2 with
  | [a,b],_=>exact .bin t a b h.1
  | [],h4=>simp at h4
  | [_],h4=>simp at h4
  | _::_::_::_,h4=>simp at h4;omega
 rw [if_neg h5] at h
 by_cases h6:(o==6)=true
 ·rw [if_pos h6] at h
  simp only [beq_iff_eq] at h h6
  subst h6
  exact .call t k h
 rw [if_neg h6] at h;cases h
/-- The functions of the levels. -/
def pf (l:List Tok) (D:Fam):Nat→PS→Expr×PS
 | 0=>Kh l D
 | 1=>Q7 l D
 | 2=>Hn l D
 | 3=>Bu l D
 | 4=>Bm l D
 | 5=>Q6 l D
 | 6=>Hm l D
 | _=>Cn l D
abbrev fam (l:List Tok) (n:Nat):Fam:=Bs l (30-n)
theorem M9 {l:List Tok} {n:Nat} (h:n<30):fam l n=⟨pf l (fam l (n+1)) 0,pf l (fam l (n+1)) 2,pf l (fam l (n+1)) 6⟩:=by
 unfold fam
 rw [show 30-n=(30-(n+1))+1 by omega]
 rfl
def adv (S:PS) (n:Nat):PS:=⟨S.i+n,S.nest,S.code,S.at_⟩
theorem Es (S:PS) (a b:Nat):adv (adv S a) b=adv S (a+b):=by unfold adv;simp [Nat.add_assoc]
theorem Gd (S:PS):A3 S=adv S 1:=rfl
/-- A level is as the tighter one, where nothing of it stands. -/
theorem sw {l:List Tok} {D:Fam} {k:Nat} (hk:k≤6) {S:PS} {x:Expr} {n:Nat} {rest:List TK} (h:pf l D (k+1) S=(x,adv S n)) (h0:S.code=0) (hs:seg l (S.i+n)=rest) (hst:stops k rest) (hnot:k=2→isM l Zu S=false) (hneg:k=6→isM l Zw S=false):pf l D k S=(x,adv S n):=by
 have hl:∀of:Str,isM l of (adv S n)=false→∀m,Fc l of (pf l D (k+1)) m (x,adv S n)=(x,adv S n):=fun of ho m=>by
  cases m with
  | zero=>rfl
  | succ m=>rw [Fc,if_neg (by rw [ho];simp)]
 have left:∀of:Str,isM l of (adv S n)=false→Cm l of (pf l D (k+1)) S=(x,adv S n):=fun of ho=>by
  unfold Cm
  rw [h]
  exact hl of ho _
 match k,hk with
 | 0,_=>exact left orT (H4 (k:=0) hst hs (by omega))
 | 1,_=>exact left Zt (H4 (k:=1) hst hs (by omega))
 | 2,_ =>
  show Hn l D S=_
  unfold Hn
  rw [hnot rfl]
  exact h
 | 3,_ =>
  show Bu l D S=_
  have h':Bm l D S=(x,adv S n):=h
  unfold Bu
  rw [h',if_pos (by rw [show isM l V0 (adv S n)=false from H4 (k:=3) hst hs (by omega)];simp)]
 | 4,_=>exact left Zv (H4 (k:=4) hst hs (by omega))
 | 5,_=>exact left Q5 (H4 (k:=5) hst hs (by omega))
 | 6,_ =>
  show Hm l D S=_
  unfold Hm
  rw [hneg rfl]
  exact h
theorem V2 {l:List Tok} {D:Fam} {S:PS} {x:Expr} {n:Nat} {rest:List TK} (h0:S.code=0) (hs:seg l (S.i+n)=rest):∀(m k j:Nat),k+m=j→j≤7→pf l D j S=(x,adv S n)→stops k rest→(3≤j→isM l Zu S=false)→(7≤j→isM l Zw S=false)→pf l D k S=(x,adv S n)
 | 0,k,j,e,_,h,_,_,_=>by rw [show k=j by omega];exact h
 | m+1,k,j,e,hj,h,hst,h1,h2=>sw (by omega) (V2 h0 hs m (k+1) j (by omega) hj h (hst.mono (by omega)) h1 h2) h0 hs hst (fun _=>h1 (by omega)) (fun _=>h2 (by omega))
def T1 (l:List Tok) (x:Expr):Prop:=∀(k:Nat) (S:PS) (rest:List TK),k≤levE x→S.code=0→S.nest+At x≤30→seg l S.i=Aa x++rest→stops k rest→pf l (fam l S.nest) k S=(x,adv S (Aa x).length)
def T2 (l:List Tok) (x:Expr):Prop:=∀(k:Nat) (S:PS) (rest:List TK),(k=0∨k=1∨k=4∨k=5)→k≤levE x→S.code=0→S.nest+At x≤30→seg l S.i=Aa x++rest→stops (k+1) rest →
 ∃n,l.length≤S.i+(Aa x).length+n∧Cm l (ofL k) (pf l (fam l S.nest) (k+1)) S=Fc l (ofL k) (pf l (fam l S.nest) (k+1)) n (x,adv S (Aa x).length)
theorem Ma (s w:Str) (h1:(32:UInt8)∉w) (h2:w≠[]) {of:Str} (h:of=32::(w++[32])):Dc s of=(s==w):=by rw [h];exact nd h1 h2 s
theorem aj (s:Str):Dc s Zu=(s==Qn):=Ma s Qn (by decide) (by decide) rfl
theorem ak (s:Str):Dc s Zw=(s==[45]):=Ma s [45] (by decide) (by decide) rfl
theorem nf (s:Str):Dc s opT=(s==[40]):=Ma s [40] (by decide) (by decide) rfl
theorem X8 (s:Str):Dc s Jt=(s==[44]):=Ma s [44] (by decide) (by decide) rfl
def litWords:List Str:=[[116,114,117,101],[102,97,108,115,101],[110,117,108,108]]
theorem al (s:Str):Dc s Oq=(!(s==[])&&litWords.contains s):=Gx (show Oq=Hc litWords by kernel_rfl) (by decide) s
/-- In brackets. -/
theorem ng {l:List Tok} {y:Expr} (hy:T1 l y) {S:PS} {rest:List TK} (h0:S.code=0) (hn:S.nest+(At y+1)≤30) (hs:seg l S.i=((5,[40])::(Aa y++[(5,[41])]))++rest):
  pf l (fam l S.nest) 7 S=(y,adv S ((5,[40])::(Aa y++[((5,[41]):TK)])).length):=by
 have hs':seg l S.i=(5,[40])::(Aa y++(5,[41])::rest):=by rw [hs];simp
 obtain ⟨k1,t1,r1,i1⟩:=An hs'
 have e1:isM l Oq S=false:=by rw [Dd hs',al];decide
 have e2:isM l opT S=true:=by rw [Dd hs',nf];decide
 show Cn l (fam l S.nest) S=_
 unfold Cn
 rw [if_neg (by rw [h0];decide),k1,e1,if_neg (by decide),if_neg (by decide),if_neg (by decide),if_pos e2]
 have hw:Ai (A5 l S.i).at_ (fam l S.nest).ei (A3 S)=(y,adv (A3 S) (Aa y).length):=by
  unfold Ai
  rw [if_neg (by show ¬(((S.nest:Int)==30)=true);simp;omega),M9 (by omega)]
  have:=hy 0 (Al (A3 S)) ((5,[41])::rest) (Nat.zero_le _) h0 (by show S.nest+1+At y≤30;omega) r1 (fun h r e hm=>by
   injection e with e _
   subst e
   exact ⟨by decide,by decide⟩)
  show ((pf l (fam l (S.nest+1)) 0 (Al (A3 S))).1,Ku (pf l (fam l (S.nest+1)) 0 (Al (A3 S))).2)=_
  have this':pf l (fam l (S.nest+1)) 0 (Al (A3 S))=(y,adv (Al (A3 S)) (Aa y).length):=this
  rw [this']
  rfl
 rw [hw]
 have r2:=Cf r1
 have hc:Cj l Cw (adv (A3 S) (Aa y).length)=adv (A3 S) ((Aa y).length+1):=by
  obtain ⟨k2,t2,_,_⟩:=An r2
  unfold Cj
  rw [if_neg (by show ¬((S.code != 0)=true);rw [h0];decide)]
  have k2':(A5 l (adv (A3 S) (Aa y).length).i).kind=5:=k2
  have t2':(A5 l (adv (A3 S) (Aa y).length).i).text=[41]:=t2
  rw [k2',t2',if_neg (by decide)]
  rfl
 show (y,Cj l Cw (adv (A3 S) (Aa y).length))=_
 rw [hc,Gd,Es]
 congr 2
 simp
 omega
/-- A kid at a level. -/
theorem Ni {l:List Tok} {y:Expr} (hy:T1 l y) {k:Nat} (hk:k≤7) {S:PS} {rest:List TK} (h0:S.code=0) (hn:S.nest+Do k y (At y)≤30) (hs:seg l S.i=De k y (Aa y)++rest) (hst:stops k rest):
  pf l (fam l S.nest) k S=(y,adv S (De k y (Aa y)).length):=by
 unfold De at hs ⊢
 unfold Do at hn
 by_cases hl:k≤levE y
 ·rw [if_pos hl] at hs hn ⊢
  exact hy k S rest hl h0 hn hs hst
 rw [if_neg hl] at hs hn ⊢
 have hs':seg l S.i=(5,[40])::(Aa y++(5,[41])::rest):=by rw [hs];simp
 exact V2 h0 (Cf hs) (7-k) k 7 (by omega) (Nat.le_refl _) (ng hy h0 (by omega) hs) hst (fun _=>by rw [Dd hs',aj];decide) (fun _=>by rw [Dd hs',ak];decide)
theorem Qp (v:Val):Aa (Ex v)=[Fp v]:=by simp [Ex,Aa,Qo]
theorem Nj (t:Str):Aa (B3 t)=[(1,t)]:=by simp [B3,Aa,Qo]
theorem Qq (a:Expr):Aa (Bw 3 a)=(5,[45])::De 6 a (Aa a):=by simp [Bw,Aa,E6,Qo]
theorem V3 (a:Expr):Aa (Bw 4 a)=(2,Qn)::De 2 a (Aa a):=by simp [Bw,Aa,E6,Qo]
theorem Mb (t:Str) (a b:Expr):Aa (Ca t a b)=De (Cp (Af t).toNat) a (Aa a)++opTok t::De ((Af t).toNat+1) b (Aa b):=by simp [Ca,Aa,E6,Qo]
theorem Nk (t:Str) (k:List Expr):Aa (.mk 6 t noV k)=(1,t)::(5,[40])::((Fi (E6 k)).drop 1++[(5,[41])]):=by simp [Aa,Qo]
theorem X9 (v:Val):At (Ex v)=0:=by simp [Ex,At,Od]
theorem il (t:Str):At (B3 t)=0:=by simp [B3,At,Od]
theorem Xa (a:Expr):At (Bw 3 a)=1+Do 6 a (At a):=by simp [Bw,At,Jx,Od]
theorem da (a:Expr):At (Bw 4 a)=1+Do 2 a (At a):=by simp [Bw,At,Jx,Od]
theorem Mc (t:Str) (a b:Expr):At (Ca t a b)=max (Do (Cp (Af t).toNat) a (At a)) (Do ((Af t).toNat+1) b (At b)):=by simp [Ca,At,Jx,Od]
theorem T8 (t:Str) (k:List Expr):At (.mk 6 t noV k)=1+ai (Jx k):=by simp [At,Od]
theorem Oy (v:Val):levE (Ex v)=7:=by simp [levE,Ex,Expr.op]
theorem Qr (t:Str):levE (B3 t)=7:=by simp [levE,B3,Expr.op]
theorem Oz (a:Expr):levE (Bw 3 a)=6:=by simp [levE,Bw,Expr.op]
theorem V4 (a:Expr):levE (Bw 4 a)=2:=by simp [levE,Bw,Expr.op]
theorem Md (t:Str) (a b:Expr):levE (Ca t a b)=(Af t).toNat:=by simp [levE,Ca,Expr.op,Expr.text]
theorem Qs (t:Str) (k:List Expr):levE (.mk 6 t noV k)=7:=by simp [levE,Expr.op]
/-- What a right value is. -/
theorem Hu {v:Val} (h:By v=true):v=⟨0,0,[]⟩∨v=⟨1,v.n,[]⟩∨(v=⟨2,0,v.s⟩∧v.s.length≤200)∨v=⟨3,0,[]⟩∨v=⟨3,1,[]⟩:=by
 obtain ⟨k,n,s⟩:=v
 unfold By at h
 simp only at h
 split at h
 ·rename_i h1
  simp only [Bool.and_eq_true,beq_iff_eq] at h h1
  obtain ⟨rfl,rfl⟩:=h
  subst h1
  exact .inl rfl
 split at h
 ·rename_i h1
  simp only [beq_iff_eq] at h h1
  subst h h1
  exact .inr (.inl rfl)
 split at h
 ·rename_i h1
  simp only [Bool.and_eq_true,beq_iff_eq,decide_eq_true_eq] at h h1
  obtain ⟨rfl,h3⟩:=h
  subst h1
  exact .inr (.inr (.inl ⟨rfl,by show s.length≤200;omega⟩))
 simp only [Bool.and_eq_true,beq_iff_eq,decide_eq_true_eq] at h
 obtain ⟨⟨⟨rfl,rfl⟩,h3⟩,h4⟩:=h
 have:n=0∨n=1:=by omega
 rcases this with rfl|rfl
 ·exact .inr (.inr (.inr (.inl rfl)))
 exact .inr (.inr (.inr (.inr rfl)))
def am (h:TK) (w:Str):Bool:=((h.1==5) || (h.1==2))&&(h.2==w)
theorem Xb:∀(n:Nat) (x:Expr),sizeE x≤n→Bl B1 x=true→∃h r,Aa x=h::r∧(3≤levE x→am h Qn=false)∧(7≤levE x→am h [45]=false)
 | 0,x,hn,_=>by rw [Em] at hn;omega
 | n+1,x,hn,hx=>by
  rw [Dj,Bool.and_eq_true] at hx
  obtain ⟨h1,h2⟩:=hx
  cases Fq h1 with
  | val v hv h0 =>
   rw [Qp]
   refine ⟨_,_,rfl,fun _=>?_,fun _=>?_⟩<;>rcases Hu hv with e|e|⟨e,_⟩|e|e<;>rw [e]<;>first|rfl|kernel_rfl
  | name t ht=>rw [Nj];exact ⟨_,_,rfl,fun _=>rfl,fun _=>rfl⟩
  | neg a=>rw [Qq,Oz];exact ⟨_,_,rfl,fun _=>by decide,fun h=>by omega⟩
  | no a=>rw [V3,V4];exact ⟨_,_,rfl,fun h=>by omega,fun h=>by omega⟩
  | call t k hk=>rw [Nk];exact ⟨_,_,rfl,fun _=>rfl,fun _=>rfl⟩
  | bin t a b ht =>
   rw [Mb,Md]
   have hlv:=M8 t
   have ha:sizeE a≤n:=by
    rw [Em] at hn
    have:Bk [a,b]≤n:=by have:(Ca t a b).kids=[a,b]:=rfl;rw [this] at hn;omega
    simp [Bk] at this
    omega
   have hxa:Bl B1 a=true:=(Cr _ _).1 h2 a (by simp [Ca,Expr.kids])
   obtain ⟨h,r,e,g1,g2⟩:=Xb n a ha hxa
   unfold De
   split
   ·rename_i hl
    rw [e]
    refine ⟨h,_,rfl,fun h3=>g1 ?_,fun h7=>by omega⟩
    unfold Cp at hl
    split at hl<;>omega
   exact ⟨_,_,rfl,fun _=>by decide,fun h7=>by omega⟩
theorem sx {l:List Tok} {S:PS} {x:Expr} {rest:List TK} (hx:Bl B1 x=true) (hs:seg l S.i=Aa x++rest):(3≤levE x→isM l Zu S=false)∧(7≤levE x→isM l Zw S=false):=by
 obtain ⟨⟨k,t⟩,r,e,g1,g2⟩:=Xb _ x (Nat.le_refl _) hx
 rw [e] at hs
 refine ⟨fun h=>?_,fun h=>?_⟩
 ·rw [Dd (r:=r++rest) hs,aj];exact g1 h
 rw [Dd (r:=r++rest) hs,ak];exact g2 h
/-- From a tree's own level to all. -/
theorem im {l:List Tok} {x:Expr} (hx:Bl B1 x=true) (hA:∀(S:PS) (rest:List TK),S.code=0→S.nest+At x≤30→seg l S.i=Aa x++rest→stops (levE x) rest→pf l (fam l S.nest) (levE x) S=(x,adv S (Aa x).length))
  (hB:∀(S:PS) (rest:List TK),(levE x=0∨levE x=1∨levE x=4∨levE x=5)→S.code=0→S.nest+At x≤30→seg l S.i=Aa x++rest→stops (levE x+1) rest →
   ∃n,l.length≤S.i+(Aa x).length+n∧Cm l (ofL (levE x)) (pf l (fam l S.nest) (levE x+1)) S=Fc l (ofL (levE x)) (pf l (fam l S.nest) (levE x+1)) n (x,adv S (Aa x).length)):T1 l x∧T2 l x:=by
 have h1:T1 l x:=fun k S rest hk h0 hn hs hst=>by
  obtain ⟨g1,g2⟩:=sx hx hs
  exact V2 h0 (Cf hs) (levE x-k) k (levE x) (by omega) (sr x) (hA S rest h0 hn hs (hst.mono hk)) hst g1 g2
 refine ⟨h1,fun k S rest hk hkl h0 hn hs hst=>?_⟩
 rcases Nat.lt_or_ge k (levE x) with h|h
 ·refine ⟨l.length,by omega,?_⟩
  unfold Cm
  rw [h1 (k+1) S rest h h0 hn hs hst]
 obtain rfl:k=levE x:=by omega
 exact hB S rest hk h0 hn hs hst
theorem Me {k:Nat} (hk:k=0∨k=1∨k=4∨k=5):k=0∨k=1∨k=3∨k=4∨k=5:=by omega
theorem sy {l:List Tok} {D:Fam} {k:Nat} (hk:k=0∨k=1∨k=4∨k=5):pf l D k=Cm l (ofL k) (pf l D (k+1)):=by rcases hk with rfl|rfl|rfl|rfl<;>rfl
theorem Qt {t:Str} {k:Nat} {r:List TK} (h0:0≤Af t) (hk:Af t<(k:Int)):stops k (opTok t::r):=fun h r' e _=>by
 injection e with e _
 subst e
 exact ⟨hk,fun e=>by have:t=[40]:=e;subst this;revert h0;decide⟩
theorem vh {l:List Tok} {S:PS} {t:Str} {r:List TK} {of:Str} (hs:seg l S.i=opTok t::r):isM l of S=Dc t of:=by
 have:=Dd (of:=of) (k:=if Fx (t.headD 0) then 2 else 5) (t:=t) hs
 rw [this]
 split<;>simp
theorem T9 {e:Expr} {n:Nat} (h:sizeE e≤n+1) {y:Expr} (hy:y∈e.kids):sizeE y≤n:=by
 rw [Em] at h
 obtain ⟨i,hi,rfl⟩:=List.getElem_of_mem hy
 have:=N7 e.kids hi
 omega
theorem AA5 {l:List Tok} {t:Str} {a b:Expr} (ht:0≤Af t) (hx:Bl B1 (Ca t a b)=true) (ha:T1 l a∧T2 l a) (hb:T1 l b):T1 l (Ca t a b)∧T2 l (Ca t a b):=by
 have hlv:=M8 t
 obtain ⟨own,hown⟩:∃own,own=(Af t).toNat:=⟨_,rfl⟩
 have hoi:Af t=(own:Int):=by omega
 have hB:∀(S:PS) (rest:List TK),(own=0∨own=1∨own=4∨own=5)→S.code=0→S.nest+At (Ca t a b)≤30→seg l S.i=Aa (Ca t a b)++rest→stops (own+1) rest →
   ∃n,l.length≤S.i+(Aa (Ca t a b)).length+n∧Cm l (ofL own) (pf l (fam l S.nest) (own+1)) S=Fc l (ofL own) (pf l (fam l S.nest) (own+1)) n (Ca t a b,adv S (Aa (Ca t a b)).length):=by
  intro S rest hl h0 hn hs hst
  rw [Mb,←hown,show Cp own=own by unfold Cp;split<;>omega] at hs ⊢
  rw [Mc,←hown,show Cp own=own by unfold Cp;split<;>omega] at hn
  have hs':seg l S.i=De own a (Aa a)++(opTok t::(De (own+1) b (Aa b)++rest)):=by rw [hs];simp
  have hna:S.nest+Do own a (At a)≤30:=by omega
  have hRA:∃n,l.length≤S.i+(De own a (Aa a)).length+n∧Cm l (ofL own) (pf l (fam l S.nest) (own+1)) S=Fc l (ofL own) (pf l (fam l S.nest) (own+1)) n (a,adv S (De own a (Aa a)).length):=by
   by_cases hla:own≤levE a
   ·have e1:De own a (Aa a)=Aa a:=if_pos hla
    have e2:Do own a (At a)=At a:=if_pos hla
    rw [e1] at hs' ⊢
    rw [e2] at hna
    exact ha.2 own S _ hl hla h0 hna hs' (Qt ht (by omega))
   have e1:De own a (Aa a)=De (own+1) a (Aa a):=by unfold De;rw [if_neg hla,if_neg (by omega)]
   have e2:Do own a (At a)=Do (own+1) a (At a):=by unfold Do;rw [if_neg hla,if_neg (by omega)]
   rw [e1] at hs' ⊢
   rw [e2] at hna
   refine ⟨l.length,by omega,?_⟩
   unfold Cm
   rw [Ni ha.1 (by omega) h0 hna hs' (Qt ht (by omega))]
  obtain ⟨n,hn1,hn2⟩:=hRA
  have s1:=Cf hs'
  have s1':seg l (adv S (De own a (Aa a)).length).i=opTok t::(De (own+1) b (Aa b)++rest):=s1
  obtain ⟨_,tx,s2,i1⟩:=An s1'
  obtain ⟨m,rfl⟩:∃m,n=m+1:=⟨n-1,by have:S.i+(De own a (Aa a)).length<l.length:=i1;omega⟩
  refine ⟨m,by simp only [List.length_append,List.length_cons];omega,?_⟩
  rw [hn2,Fc,if_pos (by
   show (((adv S (De own a (Aa a)).length).code==0)&&isM l (ofL own) (adv S (De own a (Aa a)).length))=true
   rw [vh s1',Ez (Me hl),hoi]
   show ((S.code==0)&&_)=true
   rw [h0]
   simp)]
  have hk:=Ni (l:=l) (S:=adv S ((De own a (Aa a)).length+1)) hb (k:=own+1) (by omega) h0 (show S.nest+Do (own+1) b (At b)≤30 by omega) s2 hst
  have e3:A3 (adv S (De own a (Aa a)).length)=adv S ((De own a (Aa a)).length+1):=by rw [Gd,Es]
  show Fc l (ofL own) _ m (Ca (A5 l (adv S (De own a (Aa a)).length).i).text a (pf l (fam l S.nest) (own+1) (A3 (adv S (De own a (Aa a)).length))).1,(pf l (fam l S.nest) (own+1) (A3 (adv S (De own a (Aa a)).length))).2)=_
  rw [e3,tx,show pf l (fam l S.nest) (own+1) (adv S ((De own a (Aa a)).length+1))=_ from hk,Es]
  exact congrArg (fun n=>Fc l (ofL own) (pf l (fam l S.nest) (own+1)) m (Ca t a b,adv S n)) (by simp only [List.length_append,List.length_cons];omega)
 refine im hx ?_ ?_
 ·rw [Md,←hown]
  intro S rest h0 hn hs hst
  by_cases h3:own=3
  ·subst h3
   rw [Mb,←hown] at hs ⊢
   rw [Mc,←hown] at hn
   have e4:Cp 3=4:=rfl
   rw [e4] at hs hn ⊢
   have hn4:S.nest+max (Do 4 a (At a)) (Do 4 b (At b))≤30:=hn
   have hs':seg l S.i=De 4 a (Aa a)++(opTok t::(De 4 b (Aa b)++rest)):=by rw [hs];simp
   have h1:Bm l (fam l S.nest) S=(a,adv S (De 4 a (Aa a)).length):=Ni (k:=4) ha.1 (by omega) h0 (by omega) hs' (Qt ht (by omega))
   have s1:seg l (adv S (De 4 a (Aa a)).length).i=opTok t::(De 4 b (Aa b)++rest):=Cf hs'
   obtain ⟨_,tx,s2,i1⟩:=An s1
   have h2:isM l V0 (adv S (De 4 a (Aa a)).length)=true:=by
    rw [vh s1,show V0=ofL 3 from rfl,Ez (by omega),hoi]
    rfl
   have h4:Bm l (fam l S.nest) (adv S ((De 4 a (Aa a)).length+1))=_:=Ni (l:=l) (S:=adv S ((De 4 a (Aa a)).length+1)) hb (k:=4) (by omega) h0 (show S.nest+Do 4 b (At b)≤30 by omega) s2 (hst.mono (by omega))
   show Bu l (fam l S.nest) S=_
   unfold Bu
   rw [h1,if_neg (by rw [h2];show ¬(((S.code != 0) || _)=true);rw [h0];decide),Gd,Es,h4,tx,Es]
   refine Prod.ext rfl ?_
   show adv S _=adv S (De 4 a (Aa a)++opTok t::De 4 b (Aa b)).length
   congr 1
   simp only [List.length_append,List.length_cons]
   omega
  have hl:own=0∨own=1∨own=4∨own=5:=by omega
  obtain ⟨n,_,h⟩:=hB S rest hl h0 hn hs (hst.mono (by omega))
  rw [sy hl,h]
  have hf:isM l (ofL own) (adv S (Aa (Ca t a b)).length)=false:=H4 hst (Cf hs) (Me hl)
  cases n with
  | zero=>rfl
  | succ n=>rw [Fc,if_neg (by rw [hf];simp)]
 rw [Md,←hown]
 exact hB
theorem AA6 {l:List Tok} {a:Expr} (hx:Bl B1 (Bw 3 a)=true) (ha:T1 l a):T1 l (Bw 3 a)∧T2 l (Bw 3 a):=by
 refine im hx ?_ (fun S rest h=>by rw [Oz] at h;omega)
 rw [Oz,Qq,Xa]
 intro S rest h0 hn hs hst
 obtain ⟨_,_,s1,_⟩:=An hs
 show Hm l (fam l S.nest) S=_
 unfold Hm
 rw [if_neg (by rw [Dd hs,ak];decide)]
 have hk:=Ni (l:=l) (S:=Al (A3 S)) ha (k:=6) (by omega) h0 (show S.nest+1+Do 6 a (At a)≤30 by omega) s1 hst
 have hw:Ai (A5 l S.i).at_ (fam l S.nest).ne (A3 S)=(a,adv (A3 S) (De 6 a (Aa a)).length):=by
  unfold Ai
  rw [if_neg (by show ¬(((S.nest:Int)==30)=true);simp;omega),M9 (by omega)]
  show ((pf l (fam l (S.nest+1)) 6 (Al (A3 S))).1,Ku (pf l (fam l (S.nest+1)) 6 (Al (A3 S))).2)=_
  rw [show pf l (fam l (S.nest+1)) 6 (Al (A3 S))=_ from hk]
  rfl
 rw [hw,Gd,Es]
 exact congrArg (fun n=>(Bw 3 a,adv S n)) (by simp only [List.length_cons];omega)
theorem AC3 {l:List Tok} {a:Expr} (hx:Bl B1 (Bw 4 a)=true) (ha:T1 l a):T1 l (Bw 4 a)∧T2 l (Bw 4 a):=by
 refine im hx ?_ (fun S rest h=>by rw [V4] at h;omega)
 rw [V4,V3,da]
 intro S rest h0 hn hs hst
 obtain ⟨_,_,s1,_⟩:=An hs
 show Hn l (fam l S.nest) S=_
 unfold Hn
 rw [if_neg (by rw [Dd hs,aj];decide)]
 have hk:=Ni (l:=l) (S:=Al (A3 S)) ha (k:=2) (by omega) h0 (show S.nest+1+Do 2 a (At a)≤30 by omega) s1 hst
 have hw:Ai (A5 l S.i).at_ (fam l S.nest).no (A3 S)=(a,adv (A3 S) (De 2 a (Aa a)).length):=by
  unfold Ai
  rw [if_neg (by show ¬(((S.nest:Int)==30)=true);simp;omega),M9 (by omega)]
  show ((pf l (fam l (S.nest+1)) 2 (Al (A3 S))).1,Ku (pf l (fam l (S.nest+1)) 2 (Al (A3 S))).2)=_
  rw [show pf l (fam l (S.nest+1)) 2 (Al (A3 S))=_ from hk]
  rfl
 rw [hw,Gd,Es]
 exact congrArg (fun n=>(Bw 4 a,adv S n)) (by simp only [List.length_cons];omega)
theorem x8 {l:List Tok} {t:Str} (hx:Bl B1 (B3 t)=true):T1 l (B3 t)∧T2 l (B3 t):=by
 refine im hx ?_ (fun S rest h=>by rw [Qr] at h;omega)
 rw [Qr,Nj]
 intro S rest h0 hn hs hst
 obtain ⟨k1,t1,s1,_⟩:=An (show seg l S.i=(1,t)::rest from hs)
 show Cn l (fam l S.nest) S=_
 have e1:isM l Oq S=false:=by rw [Dd (show seg l S.i=(1,t)::rest from hs)];rfl
 have e2:isM l opT (A3 S)=false:=by
  cases rest with
  | nil=>exact V1 s1
  | cons h r =>
   obtain ⟨k2,t2⟩:=h
   rw [Dd (show seg l (A3 S).i=(k2,t2)::r from s1),nf]
   cases hb:((k2==5) || (k2==2)) with
   | false=>rfl
   | true =>
    have:t2≠[40]:=(hst _ _ rfl hb).2
    rw [Bool.true_and,beq_eq_false_iff_ne]
    exact this
 unfold Cn
 rw [if_neg (by rw [h0];decide),k1,e1,if_neg (by decide),if_neg (by decide),if_pos (by decide),e2,if_neg (by decide),t1]
 rfl
/-- Kids behind commas. -/
theorem nh {l:List Tok} {nst:Nat} {rest:List TK} (hst:stops 0 rest) (hc:∀h r,rest=h::r→am h [44]=false):∀(ks:List Expr),(∀y∈ks,T1 l y)→∀(acc:List Expr) (S:PS) (n:Nat),S.nest=nst→S.code=0→(∀y∈ks,nst+At y≤30)→seg l S.i=Fi (E6 ks)++rest→l.length≤S.i+n →
  argsF l (pf l (fam l nst) 0) n (acc,S)=(acc++ks,adv S (Fi (E6 ks)).length)
 | [],_,acc,S,n,hN,h0,_,hs,_=>by
  have hf:isM l Jt S=false:=by
   have hs':seg l S.i=rest:=hs
   cases rest with
   | nil=>exact V1 hs'
   | cons h r=>obtain ⟨k2,t2⟩:=h;rw [Dd hs',X8];exact hc _ _ rfl
  cases n with
  | zero=>rw [argsF,List.append_nil];rfl
  | succ n=>rw [argsF,if_neg (by rw [hf];simp),List.append_nil];rfl
 | y::ks,hT,acc,S,n,hN,h0,hnd,hs,hn=>by
  have hs':seg l S.i=(5,[44])::(Aa y++(Fi (E6 ks)++rest)):=by rw [hs];simp [E6,Fi]
  obtain ⟨_,_,s1,i1⟩:=An hs'
  obtain ⟨m,rfl⟩:∃m,n=m+1:=⟨n-1,by omega⟩
  have hy:=hT y (by simp) 0 (A3 S) (Fi (E6 ks)++rest) (Nat.zero_le _) h0 (by have:=hnd y (by simp);show S.nest+_≤30;omega) s1 (by
   cases ks with
   | nil=>exact hst
   | cons z ks =>
    intro h r e _
    injection e with e _
    subst e
    exact ⟨by decide,by decide⟩)
  have hy':pf l (fam l nst) 0 (A3 S)=(y,adv (A3 S) (Aa y).length):=by rw [←hN];exact hy
  rw [argsF,if_pos (by
   show ((S.code==0)&&isM l Jt S)=true
   rw [h0,Dd hs',X8]
   decide)]
  show argsF l (pf l (fam l nst) 0) m (acc++[(pf l (fam l nst) 0 (A3 S)).1],(pf l (fam l nst) 0 (A3 S)).2)=_
  rw [hy']
  show argsF l (pf l (fam l nst) 0) m (acc++[y],adv (A3 S) (Aa y).length)=_
  rw [nh hst hc ks (fun z hz=>hT z (by simp [hz])) (acc++[y]) (adv (A3 S) (Aa y).length) m hN h0 (fun z hz=>hnd z (by simp [hz])) (Cf s1) (by show l.length≤S.i+1+(Aa y).length+m;omega)]
  rw [Gd,Es,Es,show acc++[y]++ks=acc++y::ks by simp]
  exact congrArg (fun n=>(acc++y::ks,adv S n)) (by simp only [E6,Fi,List.length_cons,List.length_append];omega)
theorem ni (T:List TK) (r:List (List TK)):(Fi (T::r)).drop 1=T++Fi r:=rfl
theorem x9 {l:List Tok} {t:Str} {k:List Expr} (hx:Bl B1 (.mk 6 t noV k)=true) (ha:Aw t=(k.length:Int)) (h1:1≤k.length) (hT:∀y∈k,T1 l y):T1 l (.mk 6 t noV k)∧T2 l (.mk 6 t noV k):=by
 refine im hx ?_ (fun S rest h=>by rw [Qs] at h;omega)
 rw [Qs,Nk,T8]
 intro S rest h0 hn hs hst
 match k,h1,ha,hT,hn,hs with
 | y::ks,_,ha,hT,hn,hs =>
 rw [E6,ni] at hs ⊢
 have hs':seg l S.i=(1,t)::((5,[40])::(Aa y++(Fi (E6 ks)++((5,[41])::rest)))):=by rw [hs];simp
 obtain ⟨k1,t1,s1,i1⟩:=An hs'
 have s1':seg l (A3 S).i=(5,[40])::(Aa y++(Fi (E6 ks)++((5,[41])::rest))):=s1
 obtain ⟨k2,t2,s2,i2⟩:=An s1'
 have hmax:=d9 (y::ks)
 have hz:stops 0 (((5,[41]):TK)::rest):=fun h r e _=>by
  injection e with e _
  subst e
  exact ⟨by decide,by decide⟩
 have hy:=hT y (by simp) 0 (Al (A3 (A3 S))) (Fi (E6 ks)++((5,[41])::rest)) (Nat.zero_le _) h0 (by have:=hmax y (by simp);show S.nest+1+_≤30;omega) s2 (by
  cases ks with
  | nil=>exact hz
  | cons z ks =>
   intro h r e _
   injection e with e _
   subst e
   exact ⟨by decide,by decide⟩)
 have hy':pf l (fam l (S.nest+1)) 0 (Al (A3 (A3 S)))=(y,adv (Al (A3 (A3 S))) (Aa y).length):=hy
 have hargs:=nh (l:=l) (nst:=S.nest+1) hz (fun h r e=>by
  injection e with e _
  subst e
  decide) ks (fun z hz=>hT z (by simp [hz])) [y] (adv (Al (A3 (A3 S))) (Aa y).length) l.length rfl h0 (fun z hz=>by have:=hmax z (by simp [hz]);omega) (Cf s2) (by omega)
 have hk:Bc l (fam l S.nest) (A3 S)=(y::ks,adv (A3 (A3 S)) ((Aa y).length+(Fi (E6 ks)).length)):=by
  unfold Bc Hf
  rw [if_neg (by show ¬(((S.nest:Int)==30)=true);simp;omega),M9 (by omega)]
  unfold En
  show ((argsF l (pf l (fam l (S.nest+1)) 0) l.length ([(pf l (fam l (S.nest+1)) 0 (Al (A3 (A3 S)))).1],(pf l (fam l (S.nest+1)) 0 (Al (A3 (A3 S)))).2)).1,Ku (argsF l (pf l (fam l (S.nest+1)) 0) l.length ([(pf l (fam l (S.nest+1)) 0 (Al (A3 (A3 S)))).1],(pf l (fam l (S.nest+1)) 0 (Al (A3 (A3 S)))).2)).2)=_
  rw [hy',hargs,Es]
  rfl
 have s3:=Cf (Cf s2)
 have hw:Cj l Cw (Bc l (fam l S.nest) (A3 S)).2=adv (A3 (A3 S)) ((Aa y).length+(Fi (E6 ks)).length+1):=by
  rw [hk]
  have s3':seg l (adv (A3 (A3 S)) ((Aa y).length+(Fi (E6 ks)).length)).i=(5,[41])::rest:=by
   show seg l ((A3 S).i+1+((Aa y).length+(Fi (E6 ks)).length))=_
   rw [←Nat.add_assoc]
   exact s3
  obtain ⟨k3,t3,_,_⟩:=An s3'
  show Cj l Cw (adv (A3 (A3 S)) ((Aa y).length+(Fi (E6 ks)).length))=_
  unfold Cj
  rw [if_neg (by show ¬((S.code != 0)=true);rw [h0];decide),k3,t3,if_neg (by decide)]
  rfl
 have e1:isM l Oq S=false:=by rw [Dd hs'];rfl
 have e2:isM l opT (A3 S)=true:=by rw [Dd s1',nf];decide
 show Cn l (fam l S.nest) S=_
 unfold Cn
 rw [if_neg (by rw [h0];decide),k1,e1,if_neg (by decide),if_neg (by decide),if_pos (by decide),if_pos e2]
 unfold Eo
 rw [t1,if_neg (by rw [ha];omega),if_neg (by rw [hk,ha];simp),hw,hk]
 refine Prod.ext rfl ?_
 show adv (A3 (A3 S)) ((Aa y).length+(Fi (E6 ks)).length+1)=adv S _
 rw [Gd,Gd,Es,Es]
 congr 1
 simp only [List.length_cons,List.length_append,List.length_nil]
 omega
theorem db:∀d,d<10→digs.contains (UInt8.ofNat (48+d))=true:=by decide
theorem t6:∀d,d<10→(UInt8.ofNat (48+d)).toNat=48+d:=by decide
theorem xa:∀d,d<10→1≤d→UInt8.ofNat (48+d)≠48:=by decide
theorem Qu {u:Nat} (h:¬u<10):Lib.decDigits u=Lib.decDigits (u / 10)++[UInt8.ofNat (48+u % 10)]:=by rw [Lib.decDigits,dif_neg h]
theorem Mf:∀(u:Nat),∀c∈Lib.decDigits u,digs.contains c=true:=by
 intro u
 induction u using Nat.strongRecOn with
 | _ u ih =>
  intro c hc
  by_cases h:u<10
  ·rw [Lib.decDigits_one h,List.mem_singleton] at hc
   subst hc
   exact db u h
  rw [Qu h] at hc
  rcases List.mem_append.1 hc with hc|hc
  ·exact ih (u / 10) (by omega) c hc
  rw [List.mem_singleton.1 hc]
  exact db _ (Nat.mod_lt _ (by decide))
theorem Mg:∀(u:Nat),∃c r,Lib.decDigits u=c::r∧(1≤u→c≠48):=by
 intro u
 induction u using Nat.strongRecOn with
 | _ u ih =>
  by_cases h:u<10
  ·exact ⟨_,_,Lib.decDigits_one h,fun h1=>xa u h h1⟩
  obtain ⟨c,r,e,h1⟩:=ih (u / 10) (by omega)
  exact ⟨c,r++[UInt8.ofNat (48+u % 10)],by rw [Qu h,e];rfl,fun _=>h1 (by omega)⟩
theorem Kw (M:Nat):∀(a:Str) (acc v:Nat) (b:Str),Lib.parseUintM M acc a=.ok v→Lib.parseUintM M acc (a++b)=Lib.parseUintM M v b
 | [],acc,v,b,h=>by
  rw [Lib.parseUintM] at h
  injection h with h
  subst h
  rfl
 | c::r,acc,v,b,h=>by
  rw [List.cons_append,Lib.parseUintM]
  rw [Lib.parseUintM] at h
  split at h
  ·rename_i h1
   rw [if_pos h1]
   split at h
   ·cases h
   rename_i h2
   rw [if_neg h2]
   split at h
   ·cases h
   rename_i h3
   rw [if_neg h3]
   exact Kw M r _ v b h
  cases h
theorem an {M:Nat} (hM:M≤18446744073709551615):∀(u:Nat),u≤M→Lib.parseUintM M 0 (Lib.decDigits u)=.ok u:=by
 intro u
 induction u using Nat.strongRecOn with
 | _ u ih =>
  intro hu
  have one:∀acc d,d<10→acc≤1844674407370955161→acc*10+d≤M→Lib.parseUintM M acc [UInt8.ofNat (48+d)]=.ok (acc*10+d):=fun acc d hd ha hm=>by
   have e:=t6 d hd
   rw [Lib.parseUintM,e,if_pos (by omega),if_neg (by omega),if_neg (by omega),Lib.parseUintM]
   congr 1
   omega
  by_cases h:u<10
  ·rw [Lib.decDigits_one h,one 0 u h (by omega) (by omega)]
   congr 1
   omega
  rw [Qu h,Kw M _ 0 (u / 10) _ (ih (u / 10) (by omega) (by omega)),one (u / 10) (u % 10) (Nat.mod_lt _ (by decide)) (by omega) (by omega)]
  congr 1
  omega
theorem Qv:∀c:UInt8,digs.contains c=true→c≠45∧c≠43∧c≠39∧c≠110∧c≠116∧c≠102:=by
 have h:((List.range 256).all fun n => !digs.contains (UInt8.ofNat n) || decide (UInt8.ofNat n≠45∧UInt8.ofNat n≠43∧UInt8.ofNat n≠39∧UInt8.ofNat n≠110∧UInt8.ofNat n≠116∧UInt8.ofNat n≠102))=true:=by kernel_rfl
 intro c hc
 have:=List.all_eq_true.1 h c.toNat (List.mem_range.2 c.toNat_lt)
 rw [show UInt8.ofNat c.toNat=c by simp,hc] at this
 simpa using this
theorem t7 (u:Nat) (h1:u≤9223372036854775807):Cd (Lib.decDigits u)=((u:Int),0):=by
 obtain ⟨c,r,e,h0⟩:=Mg u
 have hc:digs.contains c=true:=Mf u c (by rw [e];simp)
 obtain ⟨n45,n43,_⟩:=Qv c hc
 have hds:Ks (Lib.decDigits u)=Lib.decDigits u:=by
  unfold Ks Lib.trimPrefix
  rw [if_neg]
  rw [e]
  unfold Lib.hasPrefix
  simp [Ne.symm n45]
 have hb:Ev (Lib.decDigits u)=false:=by
  unfold Ev
  rw [hds]
  have a1:(Lib.decDigits u==[])=false:=by rw [e];rfl
  have a2:Lib.trimS (Lib.decDigits u) digs=[]:=by
   unfold Lib.trimS Lib.trimRightS
   have:(Lib.decDigits u).reverse.dropWhile (fun x=>digs.contains x)=[]:=by
    rw [Yz]
    intro b hb
    exact Mf u b (by simpa using hb)
   rw [this]
   rfl
  have a3:(((Lib.decDigits u).headD 0==48)&&decide (1<(Lib.decDigits u).length))=false:=by
   by_cases hu:u<10
   ·rw [Lib.decDigits_one hu];simp
   rw [e]
   have:(c==48)=false:=by simpa using h0 (by omega)
   simp [this]
  rw [a1,a2,a3]
  rfl
 have hp:Lib.parseIntB 64 (Lib.decDigits u)=.ok (u:Int):=by
  have hu:Lib.parseUintB 64 (Lib.decDigits u)=.ok u:=by
   unfold Lib.parseUintB
   rw [if_neg (by rw [e];simp)]
   exact an (by decide) u (by
    have:(2:Nat) ^ 64-1=18446744073709551615:=by decide
    omega)
  have n45':c.toNat≠45:=fun h=>n45 (UInt8.toNat_inj.1 (by rw [h];rfl))
  have n43':c.toNat≠43:=fun h=>n43 (UInt8.toNat_inj.1 (by rw [h];rfl))
  have e63:(2:Nat) ^ (64-1)=9223372036854775808:=by decide
  rw [e] at hu ⊢
  simp only [Lib.parseIntB,n43',n45',or_self,if_false,hu,e63]
  simp
  omega
 unfold Cd
 rw [hb,hp]
 rfl
theorem Xc {n:Int} (h0:0≤n) (h1:n≤9223372036854775807):Cl (Lib.itoa n)=(⟨1,n,[]⟩,0):=by
 obtain ⟨u,rfl⟩:∃u:Nat,n=(u:Int):=⟨n.toNat,by omega⟩
 have e0:Lib.itoa (u:Int)=Lib.decDigits u:=by unfold Lib.itoa;rw [if_neg (by omega)];simp
 rw [e0]
 obtain ⟨c,r,e,_⟩:=Mg u
 have hc:digs.contains c=true:=Mf u c (by rw [e];simp)
 obtain ⟨_,_,n39,n110,n116,n102⟩:=Qv c hc
 unfold Cl
 have b1:(Lib.decDigits u==[110,117,108,108])=false:=by rw [e];simp [n110]
 have b2:(Lib.decDigits u==[116,114,117,101])=false:=by rw [e];simp [n116]
 have b3:(Lib.decDigits u==[102,97,108,115,101])=false:=by rw [e];simp [n102]
 have b4:J5 (Lib.decDigits u)=false:=by
  unfold J5 Lib.hasPrefix
  rw [e]
  simp [Ne.symm n39]
 rw [b1,b2,b3,b4,t7 u (by omega)]
 rfl
/-- What is printed is read: of values. -/
theorem Qw {v:Val} (h:By v=true) (h2:(v.kind==2)=false) (h0:0≤v.n) (h1:v.n≤9223372036854775807):Cl (Bq v)=(v,0):=by
 obtain ⟨k,n,s⟩:=v
 unfold Bq
 rw [h]
 unfold By at h
 simp only at h h2 h0 h1 ⊢
 by_cases e0:k=0
 ·subst e0
  simp at h
  obtain ⟨rfl,rfl⟩:=h
  kernel_rfl
 by_cases e1:k=1
 ·subst e1
  simp at h
  subst h
  simpa using Xc h0 h1
 have e2:k≠2:=by simpa using h2
 simp [e0,e1,e2] at h
 obtain ⟨⟨⟨rfl,rfl⟩,_⟩,h4⟩:=h
 have:n=0∨n=1:=by omega
 rcases this with rfl|rfl
 ·rfl
 rfl
theorem AA7 {l:List Tok} {v:Val} (hx:Bl B1 (Ex v)=true) (hp:By v=true) (hv0:0≤v.n) (hv1:v.n≤9223372036854775807):T1 l (Ex v)∧T2 l (Ex v):=by
 refine im hx ?_ (fun S rest h=>by rw [Oy] at h;omega)
 rw [Oy,Qp]
 intro S rest h0 hn hs hst
 show Cn l (fam l S.nest) S=_
 unfold Cn
 rw [if_neg (by rw [h0];decide)]
 cases hk1:v.kind==1 with
 | true =>
  have e:Fp v=(3,Bq v):=by unfold Fp;rw [hk1];rfl
  rw [e] at hs
  obtain ⟨k1,t1,_,_⟩:=An (show seg l S.i=(3,Bq v)::rest from hs)
  have hk2:(v.kind==2)=false:=by
   have:v.kind=1:=by simpa using hk1
   rw [this];rfl
  rw [k1,if_pos (by simp),t1,Qw hp hk2 hv0 hv1]
  rfl
 | false =>
  cases hk2:v.kind==2 with
  | true =>
   have e:Fp v=(4,v.s):=by unfold Fp;rw [hk1,hk2];rfl
   rw [e] at hs
   have hs':seg l S.i=(4,v.s)::rest:=hs
   obtain ⟨k1,t1,_,_⟩:=An hs'
   have e1:isM l Oq S=false:=by rw [Dd hs'];rfl
   rw [k1,e1,if_neg (by decide),if_pos (by decide),t1]
   have hv:v=⟨2,0,v.s⟩∧v.s.length≤200:=by
    rcases Hu hp with e|e|e|e|e
    ·rw [e] at hk2;cases hk2
    ·rw [e] at hk2;cases hk2
    ·exact e
    ·rw [e] at hk2;cases hk2
    rw [e] at hk2;cases hk2
   rw [List.take_of_length_le hv.2,←hv.1]
   rfl
  | false =>
   have e:Fp v=(2,Bq v):=by unfold Fp;rw [hk1,hk2];rfl
   rw [e] at hs
   have hs':seg l S.i=(2,Bq v)::rest:=hs
   obtain ⟨k1,t1,_,_⟩:=An hs'
   have hw:Dc (Bq v) Oq=true:=by
    rw [al]
    rcases Hu hp with e|e|e|e|e
    ·rw [e];kernel_rfl
    ·rw [e] at hk1;cases hk1
    ·rw [e.1] at hk2;cases hk2
    ·rw [e];kernel_rfl
    rw [e];kernel_rfl
   have e1:isM l Oq S=true:=by rw [Dd hs',hw];rfl
   rw [e1,if_pos (by simp),t1,Qw hp hk2 hv0 hv1]
   rfl
theorem Ta (t:Str):Aw t = -1∨1≤Aw t:=by
 unfold Aw
 cases h:arityList.find? (fun p=>p.1==t) with
 | none=>exact .inl rfl
 | some p =>
  have hm:=List.mem_of_find?_eq_some h
  have ha:(arityList.all fun p=>decide (1≤mg p))=true:=by kernel_rfl
  exact .inr (of_decide_eq_true (List.all_eq_true.1 ha p hm))
theorem Qx (l:List Tok):∀(n:Nat) (x:Expr),sizeE x≤n→Bl B1 x=true→Bl E8 x=true→T1 l x∧T2 l x
 | 0,x,hn,_,_=>by rw [Em] at hn;omega
 | n+1,x,hn,hx,hr=>by
  have hx0:=hx
  have hr0:=hr
  rw [Dj,Bool.and_eq_true] at hx0 hr0
  have ih:∀y∈x.kids,T1 l y∧T2 l y:=fun y hy=>Qx l n y (T9 hn hy) ((Cr _ _).1 hx0.2 y hy) ((Cr _ _).1 hr0.2 y hy)
  cases Fq hx0.1 with
  | val v hv h0 =>
   have:=hr0.1
   unfold E8 at this
   simp only [Bool.and_eq_true,decide_eq_true_eq] at this
   exact AA7 hx hv h0 this.2
  | name t ht=>exact x8 hx
  | neg a=>exact AA6 hx (ih a (by simp [Bw,Expr.kids])).1
  | no a=>exact AC3 hx (ih a (by simp [Bw,Expr.kids])).1
  | bin t a b ht=>exact AA5 ht hx (ih a (by simp [Ca,Expr.kids])) (ih b (by simp [Ca,Expr.kids])).1
  | call t k hk =>
   refine x9 hx hk ?_ (fun y hy=>(ih y hy).1)
   have:=Ta t
   omega
/-! The parser from a word on, and of a source. -/
def atS (l:List Tok) (i:Nat) (r:Expr×PS):PS:=if r.2.code != 0 then r.2 else if decide ((30:Int)<depthE r.1) then Ci 18 (A5 l i).at_ r.2 else if decide ((300:Int)<sizeE r.1) then Ci 3 (A5 l i).at_ r.2 else r.2
def atR (l:List Tok) (i:Nat):Expr×PS:=Kh l (Bs l 30) ⟨i,0,0,0⟩
/-- The tree, the word behind it, the fault. -/
def atM (l:List Tok) (i:Nat):Expr×Int×Int×Int:=if (atS l i (atR l i)).code != 0 then (Ag,0,(atS l i (atR l i)).code,(atS l i (atR l i)).at_) else ((atR l i).1,((atS l i (atR l i)).i:Int),0,0)
set_option maxRecDepth 4000
theorem Qy {l:List Tok} (hl:TokEnd l) (hll:l.length≤1048576) {i:Nat} (hi:i<l.length):Fact l ⟨i,0,0,0⟩ (atR l i):=(Nd hl hll 31 0 rfl (by decide)).1 ⟨i,0,0,0⟩ hi rfl
theorem xb {l:List Tok} {i:Nat} (hi:i<l.length) (hl:TokEnd l) (hll:l.length≤1048576) (hcl:∀n Dv,n≤30→DeepC l Dv n→X6 l Dv n) (o:Nat) (Hp:List AObj) (ho:Hp[o]? = some (pr l ⟨i,0,0,0⟩)):ACall Tryz.prog 215 [.ptr o 0] Hp (fun r H'=>r=A7 (atR l i).1∧H'=Hp.set o (pr l (atR l i).2)):=(X7 hl hll hcl 31 0 rfl (by decide)).1 o Hp ⟨i,0,0,0⟩ ho hi rfl
theorem Xd {l:List Tok} (hl:TokEnd l):(A5 l (l.length-1)).kind=0:=by
 obtain ⟨L,z,rfl,hz,_⟩:=hl.split
 unfold A5
 simp [hz]
theorem AC4 (l:List Tok) (i:Nat) (hi:i<l.length) (hl:TokEnd l) (hll:l.length≤500000) (hcl:∀n Dv,n≤30→DeepC l Dv n→X6 l Dv n) (Hp:List AObj):AFun Tryz.prog 192 [cg l,A2 (i:Int)] Hp (.tup [A7 (atM l i).1,A2 (atM l i).2.1,.agg [A2 (atM l i).2.2.1,A2 (atM l i).2.2.2]]):=by
 have hmap:(l.map Gv).length=l.length:=List.length_map ..
 have hll1:l.length≤1048576:=by omega
 have hq:=Qy hl hll1 hi
 have hlast:=Xd hl
 have hpos:=hl.pos
 have hqlt:=hq.lt
 have hqs:=hq.sz
 have hok0:okE 1048576 (atR l i).1:=Fd (by have:=hq.lt;omega) hq.ok
 have hsz0:sizeE (atR l i).1≤1048576:=by have:=hq.sz;have:=hq.lt;omega
 refine ACall.body [.cell 4 69,.tmp 5,.cell 6 26] [0,1] Tryz.func192 Tryz.ntmps192 (fun d=>?_)
 refine Z23 ?_;refine R.go ?_;refine R.alloc jZ ?_;refine R.fin [0,1,4,6] ?_;refine Z35 ?_;refine Z9 ?_;refine Z9 ?_;refine Z42 ?_;refine Z9 ?_
 refine G.go (h:=Q.indexAddr ((l.length-1)) (Gv (A5 l (l.length-1))) (fun _=>N9 (by omega))) (hr:=?_)
 refine ga ?_;refine R.fin [0,1,4,6,26] ?_
 refine W.cond (fun ht26=>?_) (fun ht26=>?_)
 ·simp only [Bool.or_eq_true,decide_eq_true_eq,bne_iff_ne,ne_eq] at ht26
  rcases ht26 with (h|h)|h
  ·omega
  ·simp at h;omega
  exact absurd hlast h
 refine Z8 ?_;refine Z1 ?_;refine R.build (places:=#[(0,1),(1,1),(2,1),(3,2)]) jU (fun w=>by simp) jZ ?_;refine R.box ?_;refine R.go ?_;refine R.fin [0,1,4,6,7] ?_;refine Z3 ?_
 refine R.callOwn (n:=2) (x:=pr l (atR l i).2) Tryz.call215 (xb hi hl hll1 hcl (oid Hp.length 2) _ (by rw [Aq];rfl)) ?_
 refine Z16 ?_;refine R.fin [0,1,4,6,7,8] ?_
 refine W.join ⟨81,A6 4 (.ptr (oid Hp.length 0) 0) (A6 6 (.ptr (oid Hp.length 1) 0) (A6 7 (.ptr (oid Hp.length 2) 0) (A6 8 (.ptr (oid Hp.length 3) 0) (fun _=>.any)))),Hp,[.cells 69 [A2 0,A8 [],A2 0,A2 0,A8 [],.nil],.cells 26 [A2 0,A2 0],pr l (atS l i (atR l i)),.cells 69 (E3 (atR l i).1)],[],none⟩ ?_ ?_
 ·refine AW.block ?_;refine Z28 ?_;refine Z19 ?_;refine R.fin [0,1,4,6,7,8,35] ?_
  refine W.cond (fun ht35=>?_) (fun ht35=>?_)
  ·have e:atS l i (atR l i)=(atR l i).2:=if_pos ht35
   refine W.keep [4,6,7,8] ?_;refine AW.skip ?_;exact ra
  have e0:¬((atR l i).2.code != 0)=true:=by rw [ht35];simp
  refine Z3 ?_;refine R.call Tryz.call216 (AC1 1048576 _ hok0 (Nat.le_refl _) hsz0 _) ?_;refine Z0 ?_;refine R.fin [0,1,4,6,7,8,42] ?_
  refine W.cond (fun ht42=>?_) (fun ht42=>?_)
  ·have e:atS l i (atR l i)=Ci 18 (A5 l i).at_ (atR l i).2:=by unfold atS;rw [if_neg e0,if_pos ht42]
   refine Z58 ?_
   refine R.go (h:=Q.indexAddr (i) (Gv (A5 l i)) (fun _=>N9 hi)) (hr:=?_)
   refine Z0 ?_
   refine R.callOwn (n:=2) (x:=pr l (Ci 18 (A5 l i).at_ (atR l i).2)) Tryz.call217 (ii l (atR l i).2 18 (A5 l i).at_ (oid Hp.length 2) _ (by rw [Aq];rfl)) ?_
   refine R.fin [4,6,7,8] ?_;exact ra
  have e1:¬decide ((30:Int)<depthE (atR l i).1)=true:=by rw [ht42];simp
  refine Z3 ?_;refine R.call Tryz.call218 (AC2 1048576 _ hok0 (Nat.le_refl _) hsz0 _) ?_;refine Z0 ?_;refine R.fin [0,1,4,6,7,8,53] ?_
  refine W.cond (fun ht53=>?_) (fun ht53=>?_)
  ·have e:atS l i (atR l i)=Ci 3 (A5 l i).at_ (atR l i).2:=by unfold atS;rw [if_neg e0,if_neg e1,if_pos ht53]
   refine Z58 ?_
   refine R.go (h:=Q.indexAddr (i) (Gv (A5 l i)) (fun _=>N9 hi)) (hr:=?_)
   refine Z0 ?_
   refine R.callOwn (n:=2) (x:=pr l (Ci 3 (A5 l i).at_ (atR l i).2)) Tryz.call217 (ii l (atR l i).2 3 (A5 l i).at_ (oid Hp.length 2) _ (by rw [Aq];rfl)) ?_
   refine R.fin [4,6,7,8] ?_;exact ra
  have e:atS l i (atR l i)=(atR l i).2:=by unfold atS;rw [if_neg e0,if_neg e1,if_neg (by rw [ht53];simp)]
  refine W.keep [4,6,7,8] ?_;refine AW.skip ?_;exact ra
 refine Z21 ?_;refine Z62 ?_;refine R.fin [4,6,7,8,69] ?_
 refine W.cond (fun ht69=>?_) (fun ht69=>?_)
 ·have e:atM l i=(Ag,0,(atS l i (atR l i)).code,(atS l i (atR l i)).at_):=if_pos ht69
  refine W.drawY [0,0,2,6,14,1,33,127] [5] [.q 5 [] [],.s [] (some 0) [] [],.q 1 [0] []] (fun _=>Hp) (fun _=>[.cells 69 [A2 0,A8 [],A2 0,A2 0,A8 [],.nil],.cells 26 [A2 0,A2 0],pr l (atS l i (atR l i)),.cells 69 (E3 (atR l i).1)]) Ac (by kernel_rfl) rfl rfl (fun _=>rfl) ?_
  apply Y.q
  case h1 =>
   intro B hT hF
   refine D.build (places:=#[(0,1),(1,1),(2,3),(5,1)]) jU (fun w=>by simp) jZ ?_;exact lh
  case hTF=>decide
  refine Y.storeOwn (u:=Hp.length) (n:=0) (t':=69) (cs:=[A2 0,A8 [],A2 0,A2 0,A8 [],.nil]) (cs':=[A2 0,A8 [],A2 0,A2 0,A8 [],.nil]) Tryz.sizeOf69 (fun B hB=>⟨rfl,rfl,rfl,rfl⟩) ?_
  apply Y.q
  case h1 =>
   intro B hT hF
   exact Z47
  case hTF=>decide
  refine Y.tail (tn:=[5])  ?_;refine R.nilCell 0 5 6 ?_;refine Fk ?_;refine R.fin [4,5,6] ?_;refine Z22 ?_;exact K.fin (V.three (V.cellN jA jS) V.tmp (V.cellN jA jS)) ⟨by rw [e,na]<;>rfl,rfl⟩
 have e:atM l i=((atR l i).1,((atS l i (atR l i)).i:Int),0,0):=if_neg (by rw [ht69];simp)
 refine Z8 ?_;refine W.drawY [0,0,2,6,14,0,1,95,255] [6] [.q 6 [] [],.s [] (some 0) [] [],.q 1 [0] []] (fun _=>Hp) (fun B=>[.cells 69 (if B 0=true then E3 (atR l i).1 else [A2 0,A8 [],A2 0,A2 0,A8 [],.nil]),.cells 26 [A2 0,A2 0],pr l (atS l i (atR l i)),.cells 69 (E3 (atR l i).1)]) Ac (by kernel_rfl) rfl rfl (fun _=>rfl) ?_
 apply Y.q
 case h1 =>
  intro B hT hF
  refine Ys ?_;exact yo
 case hTF=>decide
 refine Y.storeOwn (u:=Hp.length) (n:=0) (t':=69) (cs:=[A2 0,A8 [],A2 0,A2 0,A8 [],.nil]) (cs':=E3 (atR l i).1) Tryz.sizeOf69 (fun B hB=>⟨rfl,by simp only [hB];rfl,by simp [upd],rfl⟩) ?_
 apply Y.q
 case h1 =>
  intro B hT hF
  exact Z47
 case hTF=>decide
 refine Y.tail (tn:=[6]) (O:=[.cells 69 (E3 (atR l i).1),.cells 26 [A2 0,A2 0],pr l (atS l i (atR l i)),.cells 69 (E3 (atR l i).1)]) ?_;refine Fk ?_;refine R.fin [4,5,6] ?_;refine AW.ret ?_;exact K.fin (V.three (V.cellN jA jS) V.tmp (V.cellN jA jS)) ⟨by rw [e,Ab]<;>rfl,rfl⟩ (hlow:=by have:=low_agg (n:=Hp.length) (atR l i).1;simp at this ⊢;exact this)

theorem dc {s:Str} (h:(Cv s).2.1=0):(Cv s).1.length≤4002:=by
 obtain ⟨h1,_,h3⟩:=Uz h
 have h2:=La s
 rw [h3]
 simp only [List.length_append,List.length_map,List.length_cons,List.length_nil]
 omega
theorem t8 {l:List Tok} (hl:TokEnd l) (hll:l.length≤1048576) {i:Nat} (hi:i<l.length) (h:(atM l i).2.2.1=0):∃k:Nat,(atM l i).2.1=(k:Int)∧k<l.length:=by
 have hq:=Qy hl hll hi
 unfold atM at h ⊢
 split at h
 ·rename_i h1
  have:(atS l i (atR l i)).code=0:=h
  rw [this] at h1
  cases h1
 rename_i h1
 rw [if_neg h1]
 refine ⟨(atS l i (atR l i)).i,rfl,?_⟩
 have e:(atS l i (atR l i)).i=(atR l i).2.i:=by
  unfold atS
  repeat' split
  all_goals first|rfl|exact failM_i.1
 rw [e]
 exact hq.lt
theorem S4 {α:Type} {a b:List α} (hl:a.length=b.length) (h:∀(j:Nat) (y:α),j<a.length→a[j]? = some y→b[j]? = some y):a=b:=by
 apply List.ext_getElem hl
 intro j h1 h2
 have:=h j a[j] h1 (List.getElem?_eq_getElem h1)
 rw [List.getElem?_eq_getElem h2] at this
 injection this with this
 exact this.symm
theorem D3 {n k:Nat} {o:Bool} {l:List Expr}:Low n (.slice o k (l.map A7)):=low_slice.2 fun y hy=>by
 obtain ⟨a,_,rfl⟩:=List.mem_map.1 hy
 exact Ad _ a
theorem nj {a b:List Expr} (hl:a.length=b.length) (h:∀(j:Nat) (y z:Expr),j<a.length→a[j]? = some y→b[j]? = some z→eqE y z=true):eqL a b=true:=by
 rw [M3]
 refine S4 hl fun j y hj hy=>?_
 have hjb:j<b.length:=by omega
 have:=h j y b[j] hj hy (List.getElem?_eq_getElem hjb)
 rw [List.getElem?_eq_getElem hjb,(M2 _ _).1 this]
theorem xc {a b:List Expr} (h:eqL a b=true) {j:Nat} (hj:j<a.length) (hb:j<b.length):eqE a[j] b[j]=true:=by
 have e:=(M3 _ _).1 h
 subst e
 exact Qi _
theorem xd {a b:List Expr} {j:Nat} (hj:j<a.length) (hb:j<b.length) (h:eqE a[j] b[j]=false):eqL a b=false:=by
 rw [Bool.eq_false_iff]
 intro h2
 rw [xc h2 hj hb] at h
 cases h
theorem tc {a b:List Expr} (h:a.length≠b.length):eqL a b=false:=by
 rw [Bool.eq_false_iff]
 exact fun h2=>h (sc h2)
theorem AA8 {a b:List Expr} {x:Nat} (hx:x<a.length) (hb:x<b.length) (h:∀(j:Nat) (y z:Expr),j<x→a[j]? = some y→b[j]? = some z→eqE y z=true) (he:eqE a[x] b[x]=true):∀(j:Nat) (y z:Expr),j<x+1→a[j]? = some y→b[j]? = some z→eqE y z=true:=by
 intro j y z hj h1 h2
 rcases Nat.lt_or_ge j x with h3|h3
 ·exact h j y z h3 h1 h2
 have:j=x:=by omega
 subst this
 rw [List.getElem?_eq_getElem hx] at h1
 rw [List.getElem?_eq_getElem hb] at h2
 injection h1 with h1
 injection h2 with h2
 rw [←h1,←h2]
 exact he
theorem c81 (n:Nat) (a b:List Expr) (ha:a.length≤1048576) (hok:∀y∈a,okE n y) (ih:∀(x:Expr),okE n x→∀(y:Expr) (Hp:List AObj),AFun Tryz.prog 74 [A7 x,A7 y] Hp (B2 (eqE x y))) (Hp:List AObj):AFun Tryz.prog 81 [.slice false 6 (a.map A7),.slice false 6 (b.map A7),.fn (.func 74) [] []] Hp (B2 (eqL a b)):=by
 refine ACall.body [.tmp 6] [0,1,2] Tryz.func81 Tryz.ntmps81 (fun d=>?_)
 refine Z3 ?_;refine R.fin [0,1,2] ?_;refine Z21 ?_;refine Z19 ?_;refine R.fin [0,1,2,14] ?_
 refine W.cond (fun ht14=>?_) (fun ht14=>?_)
 ·have hf:eqL a b=false:=tc (by have:=ht14;simp at this;omega)
  refine ls ?_;refine Z22 ?_;exact K.fin (V.one V.tmp) ⟨by rw [hf],rfl⟩
 have hlen:a.length=b.length:=by have:=ht14;simp at this;omega
 refine Z8 ?_;refine Z35 ?_;refine R.fin [1,2,15,16,17] ?_
 refine AW.loopC (α:=Nat) (fun i=>⟨32,A6 1 (.slice false 6 (b.map A7)) (A6 2 (.fn (.func 74) [] []) (A6 15 (.slice false 6 (a.map A7)) (A6 16 (A2 (a.length:Nat)) (A6 17 (A2 (i:Nat)) (fun _=>.any))))),Hp,[],[],none⟩) (fun i=>i≤a.length∧∀(j:Nat) (y z:Expr),j<i→a[j]? = some y→b[j]? = some z→eqE y z=true) (fun i=>a.length-i) (0) ⟨Nat.zero_le _,fun j y z h=>by omega⟩ (StLe.of_eq (by simp)) rfl (fun i hi=>?_)
 refine Z3 ?_;refine R.fin [1,2,15,16,17,18] ?_
 refine W.condX (fun ht18=>?_) (fun ht18=>?_)
 ·have hlt:i<a.length:=by simpa using ht18
  have hlb:i<b.length:=by omega
  refine Z92 ?_
  refine R.go (h:=Q.indexAddr (i) (A7 a[i]) (fun _=>C4 hlt)) (hr:=?_)
  refine R.go ?_;refine Z87 ?_;refine R.fin [1,2,7,8,15,16,17] ?_;refine Z1 ?_
  refine R.go (h:=Q.indexAddr (i) (A7 b[i]) (fun _=>C4 hlb)) (hr:=?_)
  refine Uh ?_;refine R.fin [1,2,8,9,15,16,17] ?_;refine Z13 ?_;refine R.callV Tryz.call74 (ih a[i] (hok _ (List.getElem_mem hlt)) b[i] _) ?_;refine R.go ?_;refine R.fin [1,2,15,16,17,30] ?_
  refine W.cond (fun ht30=>?_) (fun ht30=>?_)
  ·have hf:eqL a b=false:=xd hlt hlb (by simpa using ht30)
   refine ls ?_;refine Z55 ?_;refine Z39 ?_;exact K.fin (V.one V.tmp) ⟨by rw [hf],rfl⟩
  have he:eqE a[i] b[i]=true:=by simpa using ht30
  refine Z75 ?_;refine R.fin [1,2,15,16,17] ?_;refine K.lpN (i+1) ⟨hlt,AA8 hlt hlb hi.2 he⟩ (by omega) ?_
  exact StCut.take (own:=[]) (fun _=>.refl _) (by repeat (first|exact B0|refine Az (by first|exact D3|(simp;done)) ?_)) (by simp) (by simp)
 have hxe:a.length≤i:=by simpa using ht18
 refine Z63 ?_;refine Z96 ?_;exact K.fin (V.one V.tmp) ⟨by rw [nj hlen (fun j y z hj=>hi.2 j y z (by omega))],rfl⟩

theorem c74:∀(n:Nat) (x:Expr),okE n x→∀(y:Expr) (Hp:List AObj),AFun Tryz.prog 74 [A7 x,A7 y] Hp (B2 (eqE x y)):=by
 intro n
 induction n with
 | zero=>exact fun x h=>h.elim
 | succ n ih =>
 intro x hok y Hp
 refine ACall.body [.tmp 4] [0,1] Tryz.func74 Tryz.ntmps74 (fun d=>?_)
 refine Z13 ?_;refine Gn ?_;refine Z28 ?_;refine Z42 ?_;refine Z65 ?_;refine Z42 ?_;refine Z9 ?_
 refine G.go (h:=Q.eqlAgg wd (fun w=>Un x.val.kind x.val.n y.val.kind y.val.n x.val.s y.val.s w)) (hr:=?_)
 refine Z42 ?_;refine Z9 ?_;refine G.call Tryz.call81 (fun hB=>c81 n x.kids y.kids hok.2.1 hok.2.2 ih _) ?_;refine Z0 ?_;refine Z27 ?_;exact K.fin (V.one V.tmp) ⟨by rw [wv],rfl⟩

set_option maxRecDepth 8000
/-! Moves: what mig.Right, sound.* and the document's layers 18, 19 answer. -/
structure Mov where
 kind:Int
 take:List Str
 give:List Col
 ahead:List Expr
 back:List Expr
abbrev It (l:List Expr):AV:=.slice false 6 (l.map A7)
abbrev aq (m:Mov):List AV:=[A2 m.kind,Ed m.take,Ar m.give,It m.ahead,It m.back]
abbrev Ge (m:Mov):AV:=.agg (aq m)
abbrev Gs (l:List Mov):AV:=.slice false 5 (l.map Ge)
/-- Trees that may be walked. -/
structure OkEs (l:List Expr):Prop where
 len:l.length≤1048576
 ok:∀e∈l,okE 61 e
 size:∀e∈l,sizeE e≤1048576
 rng:∀e∈l,Bl E8 e=true
structure OkMov (m:Mov):Prop where
 takes:m.take.length≤1048576
 names:∀s∈m.take,s.length≤1048576
 gives:OkCols m.give
 gives2:m.give.length≤1000000
 ahead:OkEs m.ahead
 back:OkEs m.back
structure OkMovs (l:List Mov):Prop where
 len:l.length≤1048576
 each:∀m∈l,OkMov m
def C6 (m:Mov):Bool:=
 if ((m.ahead.length:Int) != (m.give.length:Int)) || ((m.back.length:Int) != (m.take.length:Int)) then false
 else if m.kind==1 then ((m.take.length:Int)==0)&&((m.give.length:Int)==1)
 else if m.kind==2 then ((m.take.length:Int)==1)&&((m.give.length:Int)==0)
 else if (m.kind==3) || (m.kind==6) then ((m.take.length:Int)==1)&&((m.give.length:Int)==1)
 else if m.kind==4 then ((m.take.length:Int)==1)&&decide ((1:Int)<(m.give.length:Int))
 else if m.kind==5 then decide ((1:Int)<(m.take.length:Int))&&((m.give.length:Int)==1)
 else false
def Fs (m:Mov) (c:Col):Bool:=C5 c.name&&(((Ah c.kind==[])==(m.kind==3)) && !((m.kind==3)&&(c.kind != 0)))
def F1 (m:Mov):Bool:=
 if m.kind==3 then eqE (m.ahead.getD 0 Ag) (B3 (m.take.getD 0 []))&&eqE (m.back.getD 0 Ag) (B3 (m.give.getD 0 ⟨[],0⟩).name)
 else if m.kind==6 then m.take.getD 0 []==(m.give.getD 0 ⟨[],0⟩).name else true
def Ek (m:Mov):Bool:=(((((C6 m&&m.give.all (Fs m))&&m.take.all C5)&&m.ahead.all Ay)&&m.back.all Ay)&&F1 m)
def Nl (l:List Mov):Bool:=decide ((l.length:Int)≤8)&&l.all Ek
/-! Columns behind moves. -/
def nk (e:Expr) (c:List Col) (w:Int):Bool:=((Jw e c).2==0)&&(((Jw e c).1==w) || ((Jw e c).1==0))
def Be (c:List Col) (m:Mov):List Col:=
 if m.kind==3 then (if Bh (m.take.getD 0 []) c<0 then m.give else match m.give with
  | []=>[]
  | y::r=>⟨y.name,(c.getD (Bh (m.take.getD 0 []) c).toNat ⟨[],0⟩).kind⟩::r)
 else m.give
def V5 (e:Expr) (c:List Col) (w:Int):Int:=if (Jw e c).2 != 0 then (Jw e c).2 else if !nk e c w then 10 else 0
def D6 (over:List Col):List Expr→List Col→Int
 | x::r,w::ws=>if V5 x over w.kind != 0 then V5 x over w.kind else D6 over r ws
 | _,_=>0
def Iu (c:List Col) (m:Mov):List Col:=m.take.map fun s=>c.getD (Bh s c).toNat ⟨[],0⟩
def Cg (c:List Col) (m:Mov):List Col×Int:=
 if (Cs c m.take (Be c m)).2 != 0 then ([],(Cs c m.take (Be c m)).2)
 else if D6 c m.ahead (Be c m) != 0 then ([],D6 c m.ahead (Be c m))
 else if D6 (Cs c m.take (Be c m)).1 m.back (Iu c m) != 0 then ([],D6 (Cs c m.take (Be c m)).1 m.back (Iu c m))
 else ((Cs c m.take (Be c m)).1,0)
/-- The columns ahead of each move and behind the last one, till one is wrong; the error. -/
def D7 (c:List Col):List Mov→List (List Col)×Int
 | []=>([c],0)
 | m::r=>if (Cg c m).2 != 0 then ([c],(Cg c m).2) else (c::(D7 (Cg c m).1 r).1,(D7 (Cg c m).1 r).2)
def V6 (c:List Col) (l:List Mov):Bool:=Ew c&&Nl l
theorem Ib {m:Mov} (h:Ek m=true):C6 m=true:=by
 unfold Ek at h
 simp only [Bool.and_eq_true] at h
 exact h.1.1.1.1.1
theorem Ef {m:Mov} (h:C6 m=true):m.ahead.length=m.give.length∧m.back.length=m.take.length:=by
 unfold C6 at h
 split at h
 ·cases h
 rename_i h1
 simp only [Bool.or_eq_true,bne_iff_ne,ne_eq,not_or,Classical.not_not] at h1
 omega
theorem Jy {m:Mov} (h:C6 m=true) (h3:((m.kind==3) || (m.kind==6))=true):m.take.length=1∧m.give.length=1:=by
 unfold C6 at h
 split at h
 ·cases h
 have h1:(m.kind==1)=false:=by simp at h3 ⊢;omega
 have h2:(m.kind==2)=false:=by simp at h3 ⊢;omega
 simp only [h1,h2,h3,if_true,if_false,Bool.false_eq_true,Bool.and_eq_true,beq_iff_eq] at h
 omega
theorem Kj (c:List Col) (m:Mov):(Be c m).length=m.give.length:=by
 unfold Be
 split
 ·split
  ·rfl
  split<;>simp_all
 rfl
set_option maxRecDepth 4000
/-! mig.Parse: the first fault is Eu. -/
inductive PR (α:Type) where
 | ok (r:α) (i:Nat)
 | bad (e a:Int)
def PR.bind {α β:Type} (x:PR α) (f:α→Nat→PR β):PR β:=match x with
 | .ok r i=>f r i
 | .bad e a=>.bad e a
def Tb {α:Type} (L:List Tok) (i:Nat) (e:Int):PR α:=.bad e (A5 L i).at_
def isP (L:List Tok) (s:Str) (i:Nat):Bool:=(((A5 L i).kind==5) || ((A5 L i).kind==2))&&((A5 L i).text==s)
def Bb (L:List Tok) (s:Str) (i:Nat):PR Unit:=if isP L s i then .ok () (i+1) else Tb L i 8
def Dk (L:List Tok) (i:Nat):PR Str:=if (A5 L i).kind != 1 then Tb L i 8 else .ok (A5 L i).text (i+1)
def Oe (L:List Tok) (nm:Str) (j:Nat):PR Col:=if ((A5 L j).kind != 2) || (Hs (A5 L j).text==0) then Tb L j 8 else .ok ⟨nm,Hs (A5 L j).text⟩ (j+1)
def Ff (L:List Tok) (i:Nat):PR Col:=(Dk L i).bind (Oe L)
def Gf (L:List Tok) (i:Nat):PR Expr:=if (atM L i).2.2.1 != 0 then .bad (atM L i).2.2.1 (atM L i).2.2.2 else .ok (atM L i).1 (atM L i).2.1.toNat
def Bi (m:Mov) (c:Col):Mov:={ m with give:=m.give++[c] }
def Kx (m:Mov) (x:Expr):Mov:={ m with ahead:=m.ahead++[x] }
def C9 (L:List Tok) (m:Mov) (i:Nat):PR Mov:=(Ff L i).bind fun c j=>(Bb L [61] j).bind fun _ j=>(Gf L j).bind fun x j=>.ok (Kx (Bi m c) x) j
def Hv (L:List Tok) (n:Int) (k:Nat) (i:Nat):Bool:=decide ((k:Int)<n) || ((n==0)&&(decide ((k:Int)<2) || isP L [44] i))
/-- Things with commas between, behind the first k. -/
def Gt (L:List Tok) (n:Int) (one:Mov→Nat→PR Mov):Nat→Nat→Mov→Nat→PR Mov
 | 0,_,m,i=>.ok m i
 | f+1,k,m,i=>if Hv L n k i then (Bb L [44] i).bind fun _ j=>(one m j).bind fun m j=>Gt L n one f (k+1) m j else .ok m i
def Dr (L:List Tok) (n:Int) (one:Mov→Nat→PR Mov) (m:Mov) (i:Nat):PR Mov:=(one m i).bind fun m j=>Gt L n one (L.length+1) 1 m j
def backW:Str:=[98,97,99,107]
def intoW:Str:=[105,110,116,111]
def toW:Str:=[116,111]
def Qz (m:Mov) (x:Expr):Mov:={ m with back:=m.back++[x] }
def Jz (L:List Tok) (m:Mov) (i:Nat):PR Mov:=(Gf L i).bind fun x j=>.ok (Qz m x) j
def Ct (L:List Tok) (m:Mov) (i:Nat):PR Mov:=(Bb L backW i).bind fun _ j=>Dr L m.take.length (Jz L) m j
def Gz (L:List Tok) (m:Mov) (i:Nat):PR Mov:=(Dk L i).bind fun s j=>(Bb L toW j).bind fun _ j=>(Dk L j).bind fun t j=>.ok ⟨m.kind,[s],[⟨t,0⟩],[B3 s],[B3 t]⟩ j
def takeS (m:Mov) (s:Str):Mov:={ m with take:=[s] }
def R0 (m:Mov) (s:Str):Mov:={ m with take:=m.take++[s] }
def Ic (L:List Tok) (m:Mov) (i:Nat):PR Mov:=(Dk L i).bind fun s j=>.ok (R0 m s) j
def El (L:List Tok) (m:Mov) (i:Nat):PR Mov:=
 if m.kind==1 then C9 L m i
 else if m.kind==2 then (Dk L i).bind fun s j=>Ct L (takeS m s) j
 else if m.kind==3 then Gz L m i
 else if m.kind==4 then (Dk L i).bind fun s j=>(Bb L intoW j).bind fun _ j=>(Dr L 0 (C9 L) (takeS m s) j).bind fun m j=>Ct L m j
 else if m.kind==5 then (Dr L 0 (Ic L) m i).bind fun m j=>(Bb L intoW j).bind fun _ j=>(C9 L m j).bind fun m j=>Ct L m j
 else if m.kind==6 then (C9 L m i).bind fun m j=>Ct L (takeS m (m.give.getD 0 ⟨[],0⟩).name) j
 else .ok m i
def migWords:List Str:=[[],[97,100,100],[100,114,111,112],[114,101,110,97,109,101],[115,112,108,105,116],[109,101,114,103,101],[114,101,116,121,112,101]]
def B7 (k:Int):Str:=if (decide (k<1) || decide (6<k))=true then [] else migWords.getD k.toNat []
def Cx (s:Str):Int:=if B7 1==s then 1 else if B7 2==s then 2 else if B7 3==s then 3 else if B7 4==s then 4 else if B7 5==s then 5 else if B7 6==s then 6 else 0
def Fg (L:List Tok) (i:Nat):PR Mov:=
 if ((A5 L i).kind != 2) || (Cx (A5 L i).text==0) then Tb L i 8
 else (El L ⟨Cx (A5 L i).text,[],[],[],[]⟩ (i+1)).bind fun m j=>(Bb L [59] j).bind fun _ j=>.ok m j
/-- Moves, behind some. -/
def D8 (L:List Tok):Nat→List Mov→Nat→PR (List Mov)
 | 0,l,i=>.ok l i
 | f+1,l,i=>if (A5 L i).kind != 0 then (if (l.length:Int)==8 then Tb L i 3 else (Fg L i).bind fun m j=>D8 L f (l++[m]) j) else .ok l i
def Ft (L:List Tok):PR (List Mov):=D8 L 9 [] 0
/-- The moves; the fault's code and place. -/
def Ko (s:Str):List Mov×Int×Int:=
 if (Cv s).2.1 != 0 then ([],(Cv s).2.1,(Cv s).2.2)
 else match Ft (Cv s).1 with
  | .ok l _=>(l,0,0)
  | .bad e a=>([],e,a)
/-! Where the parser of moves comes to. -/
def PR.In {α:Type} (x:PR α) (i n:Nat):Prop:=∀r j,x=.ok r j→i<j∧j<n
theorem PR.bind_ok {α β:Type} {x:PR α} {f:α→Nat→PR β} {r:β} {j:Nat} (h:x.bind f=.ok r j):∃a k,x=.ok a k∧f a k=.ok r j:=by
 cases x with
 | ok a k=>exact ⟨a,k,rfl,h⟩
 | bad e a=>cases h
theorem td {L:List Tok} {s:Str} {i:Nat} (h:isP L s i=true):(A5 L i).kind≠0:=by
 unfold isP at h
 simp only [Bool.and_eq_true,Bool.or_eq_true,beq_iff_eq] at h
 rcases h.1 with h|h<;>rw [h]<;>decide
theorem Cy {L:List Tok} (hl:TokEnd L) {s:Str} {i:Nat} (hi:i<L.length):(Bb L s i).In i L.length:=by
 intro r j h
 unfold Bb at h
 split at h
 ·rename_i h1
  injection h with _ h
  subst h
  exact ⟨Nat.lt_succ_self i,hl.step hi (td h1)⟩
 cases h
theorem E7 {L:List Tok} (hl:TokEnd L) {i:Nat} (hi:i<L.length):(Dk L i).In i L.length:=by
 intro r j h
 unfold Dk at h
 split at h
 ·cases h
 rename_i h1
 injection h with _ h
 subst h
 have hk:(A5 L i).kind=1:=by simpa using h1
 exact zg
theorem tg {L:List Tok} (hl:TokEnd L) {nm:Str} {i:Nat} (hi:i<L.length):(Oe L nm i).In i L.length:=by
 intro r j h
 unfold Oe at h
 split at h
 ·cases h
 rename_i h1
 injection h with _ h
 subst h
 have hk:(A5 L i).kind=2:=by simp only [Bool.not_eq_true,Bool.or_eq_false_iff,bne_eq_false_iff_eq] at h1;exact h1.1
 exact zg
theorem Nm {L:List Tok} (hl:TokEnd L) {i:Nat} (hi:i<L.length):(Ff L i).In i L.length:=by
 intro r j h
 obtain ⟨a,k,h1,h2⟩:=PR.bind_ok h
 obtain ⟨a1,a2⟩:=E7 hl hi _ _ h1
 obtain ⟨b1,b2⟩:=tg hl a2 _ _ h2
 exact ⟨by omega,b2⟩
theorem Iv {L:List Tok} (hl:TokEnd L) (hll:L.length≤500000) {i:Nat} (hi:i<L.length) {x:Expr} {k:Nat} (h:Gf L i=.ok x k):i≤k∧k<L.length:=by
 unfold Gf at h
 split at h
 ·cases h
 rename_i h0
 injection h with _ h
 subst h
 have h0:(atM L i).2.2.1=0:=by simpa using h0
 have hq:=Qy hl (by omega:L.length≤1048576) hi
 unfold atM at h0 ⊢
 split at h0
 ·rename_i h1
  have:(atS L i (atR L i)).code=0:=h0
  rw [this] at h1
  cases h1
 rename_i h1
 rw [if_neg h1]
 have e:(atS L i (atR L i)).i=(atR L i).2.i:=by
  unfold atS
  repeat' split
  all_goals first|rfl|exact failM_i.1
 show i≤((atS L i (atR L i)).i:Int).toNat∧((atS L i (atR L i)).i:Int).toNat<_
 rw [Int.toNat_natCast,e]
 exact ⟨hq.le,hq.lt⟩
/-- A move has no more parts than so many. -/
structure MvLe (m:Mov) (n:Nat):Prop where
 take:m.take.length≤n
 give:m.give.length≤n
 ahead:m.ahead.length≤n
 back:m.back.length≤n
theorem MvLe.mono {m:Mov} {i j:Nat} (h:MvLe m i) (hij:i≤j):MvLe m j:=⟨Nat.le_trans h.take hij,Nat.le_trans h.give hij,Nat.le_trans h.ahead hij,Nat.le_trans h.back hij⟩
/-- What a part of a move comes to. -/
def xe (x:PR Mov) (i n:Nat):Prop:=∀m j,x=.ok m j→i≤j∧j<n∧MvLe m (2*j)
/-- A part of a move that goes on from i. -/
def S5 (L:List Tok) (one:Mov→Nat→PR Mov):Prop:=∀m i,MvLe m (2*i-1)→0<i→i<L.length→xe (one m i) i L.length
theorem H0 {L:List Tok} (hl:TokEnd L) (hll:L.length≤500000):S5 L (C9 L):=by
 intro m i hm _ hi m' k h
 obtain ⟨c,j,h1,h2⟩:=PR.bind_ok h
 obtain ⟨u,j2,h3,h4⟩:=PR.bind_ok h2
 obtain ⟨x,j3,h5,h6⟩:=PR.bind_ok h4
 injection h6 with h6 h7
 subst h6;subst h7
 have a1:=Nm hl hi _ _ h1
 have a2:=Cy hl a1.2 _ _ h3
 have a3:=Iv hl hll a2.2 h5
 obtain ⟨b1,b2,b3,b4⟩:=hm
 exact ⟨by omega,a3.2,by show m.take.length≤_;omega,by show (m.give++[c]).length≤_;rw [List.length_append,List.length_singleton];omega,by show (m.ahead++[x]).length≤_;rw [List.length_append,List.length_singleton];omega,by show m.back.length≤_;omega⟩
theorem R1 {L:List Tok} (hl:TokEnd L) (hll:L.length≤500000):S5 L (Jz L):=by
 intro m i hm h0 hi m' k h
 obtain ⟨x,j,h1,h2⟩:=PR.bind_ok h
 injection h2 with h6 h7
 subst h6;subst h7
 have a3:=Iv hl hll hi h1
 obtain ⟨b1,b2,b3,b4⟩:=hm
 exact ⟨by omega,a3.2,by show m.take.length≤_;omega,by show m.give.length≤_;omega,by show m.ahead.length≤_;omega,by show (m.back++[x]).length≤_;rw [List.length_append,List.length_singleton];omega⟩
theorem Mh {L:List Tok} (hl:TokEnd L):S5 L (Ic L):=by
 intro m i hm _ hi m' k h
 obtain ⟨s,j,h1,h2⟩:=PR.bind_ok h
 injection h2 with h6 h7
 subst h6;subst h7
 have a1:=E7 hl hi _ _ h1
 obtain ⟨b1,b2,b3,b4⟩:=hm
 exact ⟨by omega,a1.2,by show (m.take++[s]).length≤_;rw [List.length_append,List.length_singleton];omega,by show m.give.length≤_;omega,by show m.ahead.length≤_;omega,by show m.back.length≤_;omega⟩
theorem Hg {L:List Tok} {s:Str} {i:Nat} {u:Unit} {j:Nat} (h:Bb L s i=.ok u j):j=i+1:=by
 unfold Bb at h
 split at h
 ·injection h with _ h;exact h.symm
 cases h
theorem Xe {L:List Tok} (hl:TokEnd L) {n:Int} {one:Mov→Nat→PR Mov} (hP:S5 L one):∀(f k:Nat) (m:Mov) (i:Nat),MvLe m (2*i)→0<i→i<L.length→xe (Gt L n one f k m i) i L.length
 | 0,k,m,i,hm,h0,hi=>fun m' j h=>by
  injection h with h1 h2
  subst h1;subst h2
  exact ⟨Nat.le_refl _,hi,hm⟩
 | f+1,k,m,i,hm,h0,hi=>fun m' j h=>by
  rw [Gt] at h
  split at h
  ·obtain ⟨u,j1,h1,h2⟩:=PR.bind_ok h
   obtain ⟨m1,j2,h3,h4⟩:=PR.bind_ok h2
   have e:=Hg h1
   have a1:=Cy hl hi _ _ h1
   obtain ⟨b1,b2,b3⟩:=hP m j1 (hm.mono (by omega)) (by omega) a1.2 _ _ h3
   obtain ⟨c1,c2,c3⟩:=Xe hl hP f (k+1) m1 j2 b3 (by omega) b2 _ _ h4
   exact Yw
  injection h with h1 h2
  subst h1;subst h2
  exact ⟨Nat.le_refl _,hi,hm⟩
theorem Mi {L:List Tok} (hl:TokEnd L) {n:Int} {one:Mov→Nat→PR Mov} (hP:S5 L one):S5 L (Dr L n one):=by
 intro m i hm h0 hi m' k h
 obtain ⟨m1,j,h1,h2⟩:=PR.bind_ok h
 obtain ⟨b1,b2,b3⟩:=hP m i hm h0 hi _ _ h1
 obtain ⟨c1,c2,c3⟩:=Xe hl hP _ _ m1 j b3 (by omega) b2 _ _ h2
 exact Yw
theorem P0 {L:List Tok} (hl:TokEnd L) (hll:L.length≤500000) {m:Mov} {i:Nat} (hm:MvLe m (2*i)) (hi:i<L.length):xe (Ct L m i) i L.length:=by
 intro m' k h
 obtain ⟨u,j,h1,h2⟩:=PR.bind_ok h
 have e:=Hg h1
 have a1:=Cy hl hi _ _ h1
 obtain ⟨c1,c2,c3⟩:=Mi hl (R1 hl hll) m j (hm.mono (by omega)) (by omega) a1.2 _ _ h2
 exact Yw
theorem io {L:List Tok} (hl:TokEnd L):S5 L (Gz L):=by
 intro m i hm h0 hi m' k h
 obtain ⟨s,j,h1,h2⟩:=PR.bind_ok h
 obtain ⟨u,j2,h3,h4⟩:=PR.bind_ok h2
 obtain ⟨t,j3,h5,h6⟩:=PR.bind_ok h4
 injection h6 with h6 h7
 subst h6;subst h7
 have a1:=E7 hl hi _ _ h1
 have a2:=Cy hl a1.2 _ _ h3
 have a3:=E7 hl a2.2 _ _ h5
 exact ⟨by omega,a3.2,by show 1≤_;omega,by show 1≤_;omega,by show 1≤_;omega,by show 1≤_;omega⟩
theorem MvLe.takeS {m:Mov} {n:Nat} (h:MvLe m n) {s:Str} (h1:1≤n):MvLe (takeS m s) n:=⟨h1,h.give,h.ahead,h.back⟩
theorem V7 {L:List Tok} (hl:TokEnd L) (hll:L.length≤500000):S5 L (El L):=by
 intro m i hm h0 hi m' k h
 unfold El at h
 split at h
 ·exact H0 hl hll m i hm h0 hi _ _ h
 split at h
 ·obtain ⟨s,j,h1,h2⟩:=PR.bind_ok h
  have a1:=E7 hl hi _ _ h1
  obtain ⟨c1,c2,c3⟩:=P0 hl hll ((hm.mono (by omega:2*i-1≤2*j)).takeS (by omega)) a1.2 _ _ h2
  exact Yw
 split at h
 ·exact io hl m i hm h0 hi _ _ h
 split at h
 ·obtain ⟨s,j,h1,h2⟩:=PR.bind_ok h
  obtain ⟨u,j2,h3,h4⟩:=PR.bind_ok h2
  obtain ⟨m1,j3,h5,h6⟩:=PR.bind_ok h4
  have a1:=E7 hl hi _ _ h1
  have a2:=Cy hl a1.2 _ _ h3
  obtain ⟨b1,b2,b3⟩:=Mi hl (H0 hl hll) (takeS m s) j2 ((hm.mono (by omega:2*i-1≤2*j2-1)).takeS (by omega)) (by omega) a2.2 _ _ h5
  obtain ⟨c1,c2,c3⟩:=P0 hl hll b3 b2 _ _ h6
  exact Yw
 split at h
 ·obtain ⟨m1,j,h1,h2⟩:=PR.bind_ok h
  obtain ⟨u,j2,h3,h4⟩:=PR.bind_ok h2
  obtain ⟨m2,j3,h5,h6⟩:=PR.bind_ok h4
  obtain ⟨b1,b2,b3⟩:=Mi hl (Mh hl) m i hm h0 hi _ _ h1
  have e:=Hg h3
  have a2:=Cy hl b2 _ _ h3
  obtain ⟨d1,d2,d3⟩:=H0 hl hll m1 j2 (b3.mono (by omega)) (by omega) a2.2 _ _ h5
  obtain ⟨c1,c2,c3⟩:=P0 hl hll d3 d2 _ _ h6
  exact Yw
 split at h
 ·obtain ⟨m1,j,h1,h2⟩:=PR.bind_ok h
  obtain ⟨d1,d2,d3⟩:=H0 hl hll m i hm h0 hi _ _ h1
  obtain ⟨c1,c2,c3⟩:=P0 hl hll (d3.takeS (by omega)) d2 _ _ h2
  exact Yw
 injection h with h1 h2
 subst h1;subst h2
 exact ⟨Nat.le_refl _,hi,hm.mono (by omega)⟩
set_option maxRecDepth 8000
/-! The words of a print. -/
/-- This text, before that one, is these words. -/
def Lx (u:Str) (T:List TK) (R:Str):Prop:=∀f q,(u++R).length<f→∃M:List Tok,M.map ktT=T∧J7 f q (u++R)=M.map (fun t=>(t,0))++J7 f (q+u.length) R
theorem Lx.nil (R:Str):Lx [] [] R:=fun f q _=>⟨[],rfl,by simp⟩
theorem Lx.app {u v:Str} {T V:List TK} {R:Str} (h1:Lx u T (v++R)) (h2:Lx v V R):Lx (u++v) (T++V) R:=fun f q hf=>by
 obtain ⟨M,hM,e1⟩:=h1 f q (by simpa using hf)
 obtain ⟨N,hN,e2⟩:=h2 f (q+u.length) (by simp at hf ⊢;omega)
 refine ⟨M++N,by rw [List.map_append,hM,hN],?_⟩
 rw [List.append_assoc,e1,e2,List.map_append,List.append_assoc,List.length_append,Nat.add_assoc]
theorem ip {f f' q:Nat} {s:Str} (h1:s.length<f) (h2:s.length<f'):J7 f q s=J7 f' q s:=by
 have:=Uu s
 unfold J7
 exact Ob f f' _ _ (by rw [List.length_drop];omega) (by rw [List.length_drop];omega)
theorem Lx.blank (R:Str):Lx [32] [] R:=fun f q _=>⟨[],rfl,by simpa using Zs f q R⟩
/-- One word, that starts at once. -/
theorem Lx.word {u R:Str} {k:Int} {t:Str} (hu:u≠[]) (hb:blanks.contains (u.headD 0)=false) (h35:u.headD 0≠35) (hw:As (u++R)=(k,t,(u.length:Int),0)):Lx u [(k,t)] R:=fun f q hf=>by
 cases u with
 | nil=>exact absurd rfl hu
 | cons c v =>
  have hg:gapM (c::v++R)=0:=by
   unfold gapM
   rw [List.cons_append,Di,if_neg (by rw [show (c::v).headD 0=c from rfl] at hb;rw [hb];simp),if_neg (by rw [show (c::v).headD 0=c from rfl] at h35;simpa using h35)]
   simp
  cases f with
  | zero=>omega
  | succ f =>
   refine ⟨[⟨k,t,q⟩],rfl,?_⟩
   have hne:(c::v++R==[])=false:=rfl
   have e:J7 (f+1) q (c::v++R)=(⟨k,t,q⟩,0)::J7 f (q+(c::v).length) R:=by
    have hd:(c::v++R).drop (c::v).length=R:=List.drop_left
    unfold J7
    rw [hg,List.drop_zero,Nat.add_zero,Dx,hne,if_neg (by simp),hw]
    simp only [beq_self_eq_true,if_true,Int.toNat_natCast,hd,Nat.add_zero]
   rw [e]
   show _=[((⟨k,t,q⟩:Tok),(0:Int))]++_
   have hl:R.length<f:=by simp at hf;omega
   rw [List.singleton_append,ip hl (show R.length<f+1 by omega)]
/-- What may stand behind a tree, or a name. -/
def Df (R:Str):Prop:=∀c r,R=c::r→c=32∨c=40∨c=41∨c=44∨c=59
theorem Xf {p:UInt8→Bool} {u R:Str} (h:∀c∈u,p c=true) (hR:∀c r,R=c::r→p c=false):(u++R).takeWhile p=u:=by
 induction u with
 | nil =>
  cases R with
  | nil=>rfl
  | cons c r=>rw [List.nil_append,List.takeWhile_cons,hR c r rfl];rfl
 | cons a u ih =>
  rw [List.cons_append,List.takeWhile_cons,h a List.mem_cons_self,if_pos rfl,ih (fun c hc=>h c (List.mem_cons_of_mem _ hc))]
theorem ar {R:Str} (h:Df R):∀c r,R=c::r→tails.contains c=false:=fun c r e=>by
 rcases h c r e with rfl|rfl|rfl|rfl|rfl<;>kernel_rfl
theorem iq {R:Str} (h:Df R):∀c r,R=c::r→digs.contains c=false:=fun c r e=>by
 rcases h c r e with rfl|rfl|rfl|rfl|rfl<;>kernel_rfl
/-- A word of letters. -/
theorem R2 {u R:Str} (hl:letters.contains (u.headD 0)=true) (hu:u≠[]) (ha:∀c∈u,tails.contains c=true) (hR:Df R):As (u++R)=if Ck u then (2,u,(u.length:Int),0) else if !C5 u then (0,[],0,3) else (1,u,(u.length:Int),0):=by
 have hw:Ba (u++R) tails=u:=by rw [H3];exact Xf ha (ar hR)
 cases u with
 | nil=>exact absurd rfl hu
 | cons c v =>
  have h1:decide (0<Gq ((c::v++R).take 1) letters)=true:=by
   have e:(c::v++R).take 1=[c]:=rfl
   have e2:Ba [c] letters=[c]:=by rw [H3,List.takeWhile_cons,show letters.contains c=true from hl];rfl
   have e3:=Lr [c] letters
   have e4:runN [c] letters=1:=by
    have:(Ba [c] letters).length=1:=by rw [e2];rfl
    unfold Ba at this
    rw [List.length_take] at this
    have hle:runN [c] letters≤1:=Nat.sub_le _ _
    simp at this
    omega
   rw [e,e3,e4]
   rfl
  unfold As
  rw [if_pos h1]
  unfold Ir
  rw [hw]
theorem au:(letters.all fun c => !(blanks.contains c) && !(c==35) && !(c==39) && !(c==61))=true:=by kernel_rfl
theorem Mj {c:UInt8} (h:letters.contains c=true):blanks.contains c=false:=by
 have:=List.all_eq_true.1 au c (by simpa using h)
 simp only [Bool.and_eq_true,Bool.not_eq_true'] at this
 exact this.1.1.1
theorem R3 {t R:Str} (h:Dn t=true) (hR:Df R):Lx t [(1,t)] R:=by
 have h0:=h
 rw [Wb] at h
 simp only [Bool.and_eq_true,Bool.not_eq_true',Bool.or_eq_false_iff,beq_eq_false_iff_ne,decide_eq_false_iff_not,Bool.not_eq_false] at h
 obtain ⟨⟨⟨⟨h1,h2⟩,h3⟩,h4⟩,h5⟩:=h
 have hu:t≠[]:=by rintro rfl;simp at h1
 have hl:letters.contains (t.headD 0)=true:=by rw [Lw];simpa using h3
 have hr:Ck t=false:=by
  have:=Dm t
  rw [h0] at this
  unfold C5 at this
  simp only [Bool.and_eq_true,Bool.not_eq_true'] at this
  exact this.2
 refine Lx.word hu ?_ ?_ ?_
 ·exact Mj hl
 ·intro e;rw [e] at hl;revert hl;decide
 rw [R2 hl hu (fun c hc=>by rw [Py];exact List.all_eq_true.1 h5 c hc) hR,hr,Dm,h0]
 rfl
theorem Iw (c:UInt8) (of:Str):Gq [c] of=if of.contains c then 1 else 0:=by
 have e2:=H3 [c] of
 have e3:=Lr [c] of
 have hle:runN [c] of≤1:=Nat.sub_le _ _
 have hlen:(Ba [c] of).length=runN [c] of:=by unfold Ba;rw [List.length_take];simp;omega
 rw [e3,←hlen,e2,List.takeWhile_cons]
 cases of.contains c<;>rfl
/-- A word that no letter begins, and no digit. -/
theorem Tc {c:UInt8} {R:Str} (hl:letters.contains c=false) (hd:digs.contains c=false) (h39:c≠39):As (c::R)=Jp (c::R):=by
 have h1:¬(decide (0<Gq ((c::R).take 1) letters)=true):=by
  rw [show (c::R).take 1=[c] from rfl,Iw,hl];simp
 have h2:¬(decide (0<Gq ((c::R).take 1) digs)=true):=by
  rw [show (c::R).take 1=[c] from rfl,Iw,hd];simp
 have h3:¬(((((c::R).getD 0 0).toNat:Int)==39)=true):=by
  rw [show (c::R).getD 0 0=c from rfl,beq_iff_eq]
  intro h
  exact h39 (UInt8.toNat_inj.1 (by rw [show (39:UInt8).toNat=39 from rfl];omega))
 unfold As
 rw [if_neg h1,if_neg h2,if_neg h3]
/-- A mark of one sign. -/
theorem Ix {c:UInt8} {R:Str} (hc:(!(letters.contains c) && !(digs.contains c) && !(c==39) && !(blanks.contains c) && !(c==35)&&Lib.contains Us [c])=true) (hR:∀d r,R=d::r→d≠61):Lx [c] [(5,[c])] R:=by
 simp only [Bool.and_eq_true,Bool.not_eq_true',beq_eq_false_iff_ne] at hc
 obtain ⟨⟨⟨⟨⟨h1,h2⟩,h3⟩,h4⟩,h5⟩,h6⟩:=hc
 refine Lx.word (by simp) h4 h5 ?_
 rw [List.singleton_append,Tc h1 h2 h3]
 have hx:(((((c::R).getD 1 0).toNat:Int)==61))=false:=by
  cases R with
  | nil=>rfl
  | cons d r =>
   rw [show (c::d::r).getD 1 0=d from rfl,beq_eq_false_iff_ne]
   intro h
   exact hR d r rfl (UInt8.toNat_inj.1 (by rw [show (61:UInt8).toNat=61 from rfl];omega))
 unfold Jp
 rw [hx,Bool.and_false,if_neg (by simp),if_pos (by rw [show (c::R).take 1=[c] from rfl];exact h6)]
 rfl
/-- A mark of two signs. -/
theorem V8 {c:UInt8} {R:Str} (hc:(!(letters.contains c) && !(digs.contains c) && !(c==39) && !(blanks.contains c) && !(c==35)&&Lib.contains Ur [c,61])=true):Lx [c,61] [(5,[c,61])] R:=by
 simp only [Bool.and_eq_true,Bool.not_eq_true',beq_eq_false_iff_ne] at hc
 obtain ⟨⟨⟨⟨⟨h1,h2⟩,h3⟩,h4⟩,h5⟩,h6⟩:=hc
 refine Lx.word (by simp) h4 h5 ?_
 rw [show [c,61]++R=c::61::R from rfl,Tc h1 h2 h3]
 unfold Jp
 have hl:decide ((1:Int)<((c::61::R).length:Int))=true:=by simp;omega
 rw [if_pos (by rw [hl,show (c::61::R).take 2=[c,61] from rfl,h6];rfl)]
 rfl
/-- A reserved word. -/
theorem R4 {u R:Str} (hu:(!(u==[])&&letters.contains (u.headD 0)&&(u.all fun c=>tails.contains c)&&Ck u)=true) (hR:Df R):Lx u [(2,u)] R:=by
 simp only [Bool.and_eq_true,Bool.not_eq_true',beq_eq_false_iff_ne] at hu
 obtain ⟨⟨⟨h1,h2⟩,h3⟩,h4⟩:=hu
 refine Lx.word h1 (Mj h2) (fun e=>by rw [e] at h2;revert h2;decide) ?_
 rw [R2 h2 h1 (fun c hc=>List.all_eq_true.1 h3 c hc) hR,h4]
 rfl
/-- A number. -/
theorem AA9 {n:Int} (h0:0≤n) (h1:n≤9223372036854775807) {R:Str} (hR:Df R):Lx (Lib.itoa n) [(3,Lib.itoa n)] R:=by
 obtain ⟨u,rfl⟩:∃u:Nat,n=(u:Int):=⟨n.toNat,by omega⟩
 have e0:Lib.itoa (u:Int)=Lib.decDigits u:=by unfold Lib.itoa;rw [if_neg (by omega)];simp
 have hr:=Xc h0 h1
 rw [e0] at hr ⊢
 obtain ⟨c,r,hcr,_⟩:=Mg u
 have hall:=Mf u
 have hcd:digs.contains c=true:=hall c (by rw [hcr];exact List.mem_cons_self)
 have hda:(digs.all fun c => !(letters.contains c) && !(blanks.contains c) && !(c==35))=true:=by kernel_rfl
 have hc:=List.all_eq_true.1 hda c (by simpa using hcd)
 simp only [Bool.and_eq_true,Bool.not_eq_true',beq_eq_false_iff_ne] at hc
 have hw:Ba (Lib.decDigits u++R) digs=Lib.decDigits u:=by rw [H3];exact Xf hall (iq hR)
 refine Lx.word (by rw [hcr];simp) (by rw [hcr];exact hc.1.2) (by rw [hcr];exact hc.2) ?_
 have h1':¬(decide (0<Gq ((Lib.decDigits u++R).take 1) letters)=true):=by
  rw [hcr,show (c::r++R).take 1=[c] from rfl,Iw,hc.1.1];simp
 have h2':decide (0<Gq ((Lib.decDigits u++R).take 1) digs)=true:=by
  rw [hcr,show (c::r++R).take 1=[c] from rfl,Iw,hcd];simp
 unfold As
 rw [if_neg h1',if_pos h2']
 unfold Ls
 rw [hw,hr]
/-! What a tree comes to: eval's model. -/
abbrev Rs:=Val×Int
def R5 (e:Int):Rs:=(noV,e)
def AAa (s:Str):Val:=⟨2,0,s.take 200⟩
def Hh (r:Rs):Rs:=if (r.2==0)&&(r.1.kind != 0)&&(r.1.kind != 3) then R5 10 else r
def nn (strong:Val) (a b:Rs):Rs:=if ((Hh a).2 != 0) || ((Hh a).1==strong) then Hh a else if (((Hh b).2 != 0) || ((Hh b).1==strong)) || ((Hh a).1.kind != 0) then Hh b else ((Hh a).1,0)
def ifW:Str:=[105,102]
def th:Str:=[110,118,108]
def Mk:Str:=[105,115,110,117,108,108]
def AAb (t:Str) (a b c:Rs):Rs:=
 if t==ifW then (if (Hh a).2 != 0 then R5 (Hh a).2 else if (Hh a).1==Wd true then b else c)
 else if a.2 != 0 then R5 a.2 else if t==Mk then (Wd (a.1.kind==0),0) else if a.1.kind != 0 then (a.1,0) else b
def AC5 (strict:List Val→Rs) (l:List Rs):Rs:=match l.find? (fun q=>q.2 != 0) with|some q=>R5 q.2|none=>if l.any (fun q=>q.1.kind==0) then (noV,0) else strict (l.map (·.1))
def R6 (c:List Col) (l:List Val) (t:Str):Rs:=if Bh t c<0 then R5 9 else (l.getD (Bh t c).toNat noV,0)
def orW:Str:=[111,114]
def AC6:Str:=[97,110,100]
/-- A node, of what its kids come to; what a strict node comes to is a parameter. -/
def vi (strict:Int→Str→List Val→Rs) (c:List Col) (l:List Val) (o:Int) (t:Str) (v:Val) (ks:List Rs):Rs:=
 if o==1 then (v,0) else if o==2 then R6 c l t
 else if (o==5)&&(t==orW) then nn (Wd true) (ks.getD 0 (noV,0)) (ks.getD 1 (noV,0))
 else if (o==5)&&(t==AC6) then nn (Wd false) (ks.getD 0 (noV,0)) (ks.getD 1 (noV,0))
 else if (o==6)&&(((t==ifW) || (t==th)) || (t==Mk)) then AAb t (ks.getD 0 (noV,0)) (ks.getD 1 (noV,0)) (ks.getD 2 (noV,0))
 else AC5 (strict o t) ks
mutual
def Of (strict:Int→Str→List Val→Rs) (c:List Col) (l:List Val):Expr→Rs
 | .mk o t v k=>vi strict c l o t v (Td strict c l k)
def Td (strict:Int→Str→List Val→Rs) (c:List Col) (l:List Val):List Expr→List Rs
  | []=>[]
  | e::r=>Of strict c l e::Td strict c l r
 end
/-! A tree in a column's place comes to what its value would there. -/
mutual
theorem eval_put {f:Int→Str→List Val→Rs} {c:List Col} {l m:List Val} {s:Str} {y:Expr} (hs:R6 c m s=Of f c l y) (ho:∀t,t≠s→R6 c m t=R6 c l t):∀x:Expr,Of f c l (wu s y x)=Of f c m x
 | .mk o t v k=>by
  rw [wu]
  split
  ·rename_i h
   rw [Bool.and_eq_true,beq_iff_eq,beq_iff_eq] at h
   obtain ⟨rfl,rfl⟩:=h
   rw [←hs,Of]
   rfl
  rename_i h
  rw [Of,Of,Te hs ho k]
  unfold vi
  by_cases h2:(o==2)=true
  ·have:t≠s:=fun e=>h (by rw [h2,e];simp)
   rw [ho t this]
  rw [if_neg h2,if_neg h2]
theorem Te {f:Int→Str→List Val→Rs} {c:List Col} {l m:List Val} {s:Str} {y:Expr} (hs:R6 c m s=Of f c l y) (ho:∀t,t≠s→R6 c m t=R6 c l t):∀k:List Expr,Td f c l (sb s y k)=Td f c m k
  | []=>rfl
  | e::r=>by rw [sb,Td,Td,eval_put hs ho e,Te hs ho r]
 end
/-! Who is not named plays no part. -/
/-! What a strict node comes to. -/
/-! Values are plain, and their numbers have 64 bits. -/
structure Fine (v:Val):Prop where
 plain:By v=true
 lo : -9223372036854775808≤v.n
 hi:v.n≤9223372036854775807
theorem np (s:Str):Fine (AAa s):=⟨by
 unfold By AAa
 simp only [show ((2:Int)==0)=false from rfl,show ((2:Int)==1)=false from rfl,show ((2:Int)==2)=true from rfl,Bool.false_eq_true,if_false,if_true,show ((0:Int)==0)=true from rfl,Bool.true_and,decide_eq_true_eq,List.length_take]
 omega,by show -9223372036854775808≤(0:Int);decide,by show (0:Int)≤9223372036854775807;decide⟩
/-! A text between marks. -/
theorem Nn {R:Str} (hR:∀c r,R=c::r→c≠39):∀t:Str,Bg (Bz t++39::R)=some ((Bz t).length+1)
 | []=>by
  show Bg (39::R)=some 1
  cases R with
  | nil=>rfl
  | cons d r =>
   have:(d==39)=false:=by simpa using hR d r rfl
   rw [Bg,if_pos (by decide),this]
   rfl
 | c::t=>by
  rw [Fo]
  by_cases hc:c=39
  ·subst hc
   rw [show Q4 39=[39,39] from rfl]
   show Bg (39::39::(Bz t++39::R))=_
   rw [Bg,if_pos (by decide),if_pos (by decide),Nn hR t]
   simp
  rw [show Q4 c=[c] from if_neg hc]
  show Bg (c::(Bz t++39::R))=_
  rw [Jo (by simpa using hc),Nn hR t]
  simp
theorem nq:∀t:Str,(Lib.index (Bz t) [39,39] = -1∧Bz t=t)∨∃i:Nat,Lib.index (Bz t) [39,39]=(i:Int)∧i<t.length∧(Bz t).take i=t.take i∧(Bz t).drop (i+2)=Bz (t.drop (i+1))∧t=t.take i++[39]++t.drop (i+1)
 | []=>.inl ⟨rfl,rfl⟩
 | b::l=>by
  by_cases hb:b=39
  ·subst hb
   refine .inr ⟨0,?_,by simp,rfl,?_,by simp⟩
   ·rw [Fo]
    show Lib.index (39::39::Bz l) [39,39]=0
    rw [Lib.index,if_pos (by simp [List.isPrefixOf])]
   rw [Fo]
   rfl
  have hd:Bz (b::l)=b::Bz l:=by
   rw [Fo,Q4,if_neg hb]
   rfl
  have hp:([39,39]:Str).isPrefixOf (b::Bz l)=false:=by
   simp [List.isPrefixOf,Ne.symm hb]
  rcases nq l with ⟨h1,h2⟩|⟨i,h1,h2,h3,h4,h5⟩
  ·refine .inl ⟨?_,by rw [hd,h2]⟩
   rw [hd,Lib.index,hp,h1];rfl
  refine .inr ⟨i+1,?_,by simp;omega,?_,?_,?_⟩
  ·rw [hd,Lib.index,hp,h1,if_neg (by simp),if_neg (by simp)]
   rfl
  ·rw [hd,List.take_succ_cons,List.take_succ_cons,h3]
  ·rw [hd,show i+1+2=(i+2)+1 by omega,List.drop_succ_cons,List.drop_succ_cons,h4]
  rw [List.take_succ_cons,List.drop_succ_cons,List.cons_append,List.cons_append,←h5]
theorem Og:∀(n:Nat) (t:Str),t.length≤n→Lib.replaceK [39,39] [39] (Lib.count (Bz t) [39,39]) (Bz t)=t
 | n,t,hn=>by
  rcases nq t with ⟨h1,h2⟩|⟨i,h1,h2,h3,h4,h5⟩
  ·rw [Lib.count_miss h1];exact h2
  cases n with
  | zero=>omega
  | succ n =>
   rw [Lib.count_hit (by decide) h1,Nat.add_comm,Lib.replaceK_hit _ _ _ _ i h1]
   have e:i+([39,39]:Str).length=i+2:=rfl
   rw [e,h4,Og n (t.drop (i+1)) (by rw [List.length_drop];omega),h3]
   exact h5.symm
theorem av (t:Str):Lib.replaceAll (Bz t) [39,39] [39]=t:=by
 unfold Lib.replaceAll Lib.replace
 rw [if_neg (by decide)]
 have e:Lib.replaceNum (Bz t) [39,39] (-1)=Lib.count (Bz t) [39,39]:=by unfold Lib.replaceNum;rw [if_pos (.inl (by decide))]
 rw [e]
 exact Og _ t (Nat.le_refl _)
theorem ir {t:Str} (h:t.length≤200):Cl ([39]++Bz t++[39])=(⟨2,0,t⟩,0):=by
 have hin:Uo ([39]++Bz t++[39])=t:=by
  unfold Uo
  have:(([39]++Bz t++[39]:Str).take (([39]++Bz t++[39]:Str).length-1)).drop 1=Bz t:=by
   rw [show ([39]++Bz t++[39]:Str).length-1=([39]++Bz t:Str).length by simp,List.take_left]
   rfl
  rw [this]
  exact av t
 have ht:Lq ([39]++Bz t++[39])=⟨2,0,t⟩:=by
  unfold Lq
  rw [hin,List.take_of_length_le h]
 have hp:By ⟨2,0,t⟩=true:=by
  unfold By
  simp
  omega
 have hpr:Bq ⟨2,0,t⟩=[39]++Bz t++[39]:=by
  unfold Bq
  rw [hp,Ht]
  rfl
 have hq:J5 ([39]++Bz t++[39])=true:=by
  unfold J5
  simp [Lib.hasPrefix,Lib.hasSuffix,List.isPrefixOf]
  omega
 unfold Cl
 have n1:(([39]++Bz t++[39]:Str)==[110,117,108,108])=false:=by rw [beq_eq_false_iff_ne];intro e;injection e with e;exact absurd e (by decide)
 have n2:(([39]++Bz t++[39]:Str)==[116,114,117,101])=false:=by rw [beq_eq_false_iff_ne];intro e;injection e with e;exact absurd e (by decide)
 have n3:(([39]++Bz t++[39]:Str)==[102,97,108,115,101])=false:=by rw [beq_eq_false_iff_ne];intro e;injection e with e;exact absurd e (by decide)
 rw [n1,n2,n3,hq]
 simp only [Bool.false_eq_true,if_false,Bool.or_self,if_true]
 unfold Sk
 rw [ht,hpr]
 simp
theorem xf {t R:Str} (h:t.length≤200) (hR:Df R):Lx ([39]++Bz t++[39]) [(4,t)] R:=by
 have h39:∀c r,R=c::r→c≠39:=fun c r e=>by rcases hR c r e with rfl|rfl|rfl|rfl|rfl<;>decide
 refine Lx.word (by simp) (by show blanks.contains 39=false;kernel_rfl) (by show (39:UInt8)≠35;decide) ?_
 have e:[39]++Bz t++[39]++R=39::(Bz t++39::R):=by simp
 rw [e]
 have h1:¬(decide (0<Gq ((39::(Bz t++39::R)).take 1) letters)=true):=by
  rw [show (39::(Bz t++39::R)).take 1=[39] from rfl,Iw,show letters.contains 39=false by kernel_rfl];simp
 have h2:¬(decide (0<Gq ((39::(Bz t++39::R)).take 1) digs)=true):=by
  rw [show (39::(Bz t++39::R)).take 1=[39] from rfl,Iw,show digs.contains 39=false by kernel_rfl];simp
 unfold As
 rw [if_neg h1,if_neg h2,if_pos (by rfl)]
 unfold G5
 rw [show (39::(Bz t++39::R)).drop 1=Bz t++39::R from rfl,Nn h39 t]
 have ht:(39::(Bz t++39::R)).take ((Bz t).length+1+1)=[39]++Bz t++[39]:=by
  rw [←e,show (Bz t).length+1+1=([39]++Bz t++[39]:Str).length by simp]
  exact List.take_left
 simp only [ht,ir h]
 simp
set_option maxRecDepth 4000
theorem V9 (o:Int) (t:Str) (v:Val) (k:List Expr):A7 (.mk o t v k)=.agg [A2 o,.v (sv t),A2 v.kind,A2 v.n,.v (sv v.s),.slice false 6 (k.map A7)]:=by rw [Ab];rfl
set_option maxRecDepth 8000
/-! Who decides decides: the law's sources, columns and truths. -/
/-! Rows. -/
/-! Rows that differ in what is not named. -/
/-! Who has a kind comes to it. -/
theorem Ld {t:Str} {n:Nat} (h:Aw t=(n:Int)):(t=[108,101,110]∧n=1)∨(t=[115,116,114]∧n=1)∨(t=[110,117,109]∧n=1)∨(t=Mk∧n=1)∨(t=th∧n=2)∨(t=[108,101,102,116]∧n=2)∨(t=[114,105,103,104,116]∧n=2)∨(t=ifW∧n=3):=by
 by_cases hm:t∈arityList.map (·.1)
 ·have ha:∀s∈arityList.map (·.1),(s=[108,101,110]∧Aw s=1)∨(s=[115,116,114]∧Aw s=1)∨(s=[110,117,109]∧Aw s=1)∨(s=Mk∧Aw s=1)∨(s=th∧Aw s=2)∨(s=[108,101,102,116]∧Aw s=2)∨(s=[114,105,103,104,116]∧Aw s=2)∨(s=ifW∧Aw s=3):=by
   have:((arityList.map (·.1)).all fun s=>decide ((s=[108,101,110]∧Aw s=1)∨(s=[115,116,114]∧Aw s=1)∨(s=[110,117,109]∧Aw s=1)∨(s=Mk∧Aw s=1)∨(s=th∧Aw s=2)∨(s=[108,101,102,116]∧Aw s=2)∨(s=[114,105,103,104,116]∧Aw s=2)∨(s=ifW∧Aw s=3)))=true:=by kernel_rfl
   exact fun s hs=>of_decide_eq_true (List.all_eq_true.1 this s hs)
  have:=ha t hm
  rw [h] at this
  rcases this with ⟨e,h2⟩|⟨e,h2⟩|⟨e,h2⟩|⟨e,h2⟩|⟨e,h2⟩|⟨e,h2⟩|⟨e,h2⟩|⟨e,h2⟩
  ·exact .inl ⟨e,by omega⟩
  ·exact .inr (.inl ⟨e,by omega⟩)
  ·exact .inr (.inr (.inl ⟨e,by omega⟩))
  ·exact .inr (.inr (.inr (.inl ⟨e,by omega⟩)))
  ·exact .inr (.inr (.inr (.inr (.inl ⟨e,by omega⟩))))
  ·exact .inr (.inr (.inr (.inr (.inr (.inl ⟨e,by omega⟩)))))
  ·exact .inr (.inr (.inr (.inr (.inr (.inr (.inl ⟨e,by omega⟩))))))
  exact .inr (.inr (.inr (.inr (.inr (.inr (.inr ⟨e,by omega⟩))))))
 have h1:Aw t = -1:=by
  unfold Aw
  rw [List.find?_eq_none.2 fun p hp=>by
   simp only [beq_iff_eq]
   rintro rfl
   exact hm (List.mem_map.2 ⟨p,hp,rfl⟩)]
 omega
/-! The print of a tree, and its words. -/
def Ho (least:Nat) (x:Expr) (s:Str):Str:=if least≤levE x then s else 40::(s++[41])
def Dy:List Str→Str
 | []=>[]
 | s::r=>44::32::(s++Dy r)
def Ml (o:Int) (t:Str) (v:Val) (k:List Expr) (ss:List Str):Str:=
 if o==1 then Bq v else if o==2 then t
 else if o==3 then 45::Ho 6 (k.getD 0 Ag) (ss.getD 0 [])
 else if o==4 then Qn++32::Ho 2 (k.getD 0 Ag) (ss.getD 0 [])
 else if o==5 then Ho (Cp (Af t).toNat) (k.getD 0 Ag) (ss.getD 0 [])++32::(t++32::Ho ((Af t).toNat+1) (k.getD 1 Ag) (ss.getD 1 []))
 else t++40::((Dy ss).drop 2++[41])
mutual
def A9:Expr→Str
 | .mk o t v k=>Ml o t v k (K1 k)
def K1:List Expr→List Str
  | []=>[]
  | e::r=>A9 e::K1 r
 end
theorem Iy:∀l,K1 l=l.map A9
 | []=>rfl
 | e::r=>by rw [K1,Iy r];rfl
theorem nr (v:Val):A9 (Ex v)=Bq v:=by simp [Ex,A9,Ml]
theorem dd (t:Str):A9 (B3 t)=t:=by simp [B3,A9,Ml]
theorem nt (a:Expr):A9 (Bw 3 a)=45::Ho 6 a (A9 a):=by simp [Bw,A9,K1,Ml]
theorem vj (a:Expr):A9 (Bw 4 a)=Qn++32::Ho 2 a (A9 a):=by simp [Bw,A9,K1,Ml]
theorem nu (t:Str) (a b:Expr):A9 (Ca t a b)=Ho (Cp (Af t).toNat) a (A9 a)++32::(t++32::Ho ((Af t).toNat+1) b (A9 b)):=by simp [Ca,A9,K1,Ml]
theorem de (t:Str) (k:List Expr):A9 (.mk 6 t noV k)=t++40::((Dy (K1 k)).drop 2++[41]):=by simp [A9,Ml]
/-- A text that something begins, and no equals sign. -/
def Hd (s:Str):Prop:=∃c r,s=c::r∧c≠61
theorem Hd.not61 {s:Str} (h:Hd s) (Z:Str):∀d r,s++Z=d::r→d≠61:=fun d r e=>by
 obtain ⟨c,q,rfl,hc⟩:=h
 injection e with e1 e2
 rw [←e1]
 exact hc
theorem Hd.app {s:Str} (h:Hd s) (Z:Str):Hd (s++Z):=by
 obtain ⟨c,q,rfl,hc⟩:=h
 exact ⟨c,q++Z,rfl,hc⟩
theorem Hd.brk {k:Nat} {x:Expr} {s:Str} (h:Hd s):Hd (Ho k x s):=by
 unfold Ho
 split
 ·exact h
 exact ⟨40,_,rfl,by decide⟩
theorem R7 {R:Str} (h:Df R):∀d r,R=d::r→d≠61:=fun d r e=>by
 rcases h d r e with rfl|rfl|rfl|rfl|rfl<;>decide
theorem Ej (Z:Str):Df (32::Z):=fun c r e=>by injection e with e1 e2;exact .inl e1.symm
theorem tj (Z:Str):Df (40::Z):=fun c r e=>by injection e with e1 e2;exact .inr (.inl e1.symm)
theorem dg (Z:Str):Df (41::Z):=fun c r e=>by injection e with e1 e2;exact .inr (.inr (.inl e1.symm))
theorem dh (Z:Str):Df (44::Z):=fun c r e=>by injection e with e1 e2;exact .inr (.inr (.inr (.inl e1.symm)))
theorem tm (Z:Str):Df (59::Z):=fun c r e=>by injection e with e1 e2;exact .inr (.inr (.inr (.inr e1.symm)))
theorem nv {R:Str} (hR:∀d r,R=d::r→d≠61):Lx [40] [(5,[40])] R:=Ix (by kernel_rfl) hR
theorem di {R:Str} (hR:∀d r,R=d::r→d≠61):Lx [41] [(5,[41])] R:=Ix (by kernel_rfl) hR
theorem dj (R:Str):Lx [44,32] [(5,[44])] R:=by
 have:=Lx.app (R:=R) (Ix (c:=44) (by kernel_rfl) (fun d r e=>by injection e with e1 e2;rw [←e1];decide):Lx [44] [(5,[44])] ([32]++R)) (Lx.blank R)
 simpa using this
theorem P1 {u R:Str} {T:List TK} (h:Lx u T R):Lx (32::u) T R:=by
 have:=Lx.app (Lx.blank (u++R)) h
 simpa using this
theorem AC7 {t R:Str} (ht:0≤Af t):Lx t [opTok t] (32::R):=by
 have hmem:t∈levels.flatten:=by
  rcases Gc t with h|h
  ·exact h
  omega
 have h61:∀d r,(32::R:Str)=d::r→d≠61:=fun d r e=>by injection e with e1 e2;rw [←e1];decide
 simp only [levels,List.flatten_cons,List.flatten_nil,List.cons_append,List.nil_append,List.append_nil,List.mem_cons,List.not_mem_nil,or_false] at hmem
 rcases hmem with rfl|rfl|rfl|rfl|rfl|rfl|rfl|rfl|rfl|rfl|rfl|rfl|rfl|rfl
 ·exact R4 (by kernel_rfl) (Ej R)
 ·exact R4 (by kernel_rfl) (Ej R)
 ·exact Uk
 ·exact V8 (by kernel_rfl)
 ·exact Uk
 ·exact V8 (by kernel_rfl)
 ·exact Uk
 ·exact V8 (by kernel_rfl)
 ·exact Uk
 ·exact Uk
 ·exact Uk
 ·exact Uk
 ·exact Uk
 exact Uk
theorem AAc {v:Val} (hp:By v=true) (h0:0≤v.n) (h1:v.n≤9223372036854775807):(∀R,Df R→Lx (Bq v) [Fp v] R)∧Hd (Bq v):=by
 have hc:=Hu hp
 rcases hc with e|e|⟨e,hs⟩|e|e
 ·rw [e]
  exact ⟨fun R hR=>R4 (by kernel_rfl) hR,⟨110,[117,108,108],by kernel_rfl,by decide⟩⟩
 ·have hpr:Bq v=Lib.itoa v.n:=by
   unfold Bq
   rw [hp,e]
   rfl
  have hv:Fp v=(3,Bq v):=by unfold Fp;rw [show v.kind=1 by rw [e]];rfl
  rw [hv,hpr]
  refine ⟨fun R hR=>AA9 h0 h1 hR,?_⟩
  obtain ⟨u,hu⟩:∃u:Nat,v.n=(u:Int):=⟨v.n.toNat,by omega⟩
  have e0:Lib.itoa (u:Int)=Lib.decDigits u:=by unfold Lib.itoa;rw [if_neg (by omega)];simp
  rw [hu,e0]
  obtain ⟨c,r,hcr,_⟩:=Mg u
  have hall:=Mf u c (by rw [hcr];exact List.mem_cons_self)
  exact ⟨c,r,hcr,by rintro rfl;revert hall;decide⟩
 ·have hpr:Bq v=[39]++Bz v.s++[39]:=by
   unfold Bq
   rw [hp,e]
   simp only [Bool.not_true,Bool.false_eq_true,if_false,show ((2:Int)==1)=false from rfl,show ((2:Int)==2)=true from rfl,if_true,Ht]
  have hv:Fp v=(4,v.s):=by unfold Fp;rw [show v.kind=2 by rw [e]];rfl
  rw [hv,hpr]
  exact ⟨fun R hR=>xf hs hR,⟨39,_,rfl,by decide⟩⟩
 ·rw [e]
  exact ⟨fun R hR=>R4 (by kernel_rfl) hR,⟨102,[97,108,115,101],by kernel_rfl,by decide⟩⟩
 rw [e]
 exact ⟨fun R hR=>R4 (by kernel_rfl) hR,⟨116,[114,117,101],by kernel_rfl,by decide⟩⟩
/-- A tree's print is its words, before what may stand there. -/
def PL (x:Expr):Prop:=(∀R,Df R→Lx (A9 x) (Aa x) R)∧Hd (A9 x)
theorem dk {x:Expr} (h:PL x) (k:Nat) {R:Str} (hR:Df R):Lx (Ho k x (A9 x)) (De k x (Aa x)) R:=by
 unfold Ho De
 split
 ·exact h.1 R hR
 have h1:=Lx.app (Lx.app (nv (R:=A9 x++([41]++R)) (h.2.not61 _)) (h.1 ([41]++R) (dg R))) (di (R:=R) (R7 hR))
 simpa using h1
theorem nw:∀(k:List Expr),(∀y∈k,PL y)→∀R,Df R→Lx (Dy (k.map A9)) (Fi (k.map Aa)) R∧Df (Dy (k.map A9)++R)
 | [],_,R,hR=>⟨Lx.nil R,hR⟩
 | x::r,h,R,hR=>by
  obtain ⟨h1,h2⟩:=nw r (fun y hy=>h y (List.mem_cons_of_mem _ hy)) R hR
  have hx:=(h x List.mem_cons_self).1 _ h2
  refine ⟨?_,dh _⟩
  have h3:Lx ([44,32]++(A9 x++Dy (r.map A9))) ([(5,[44])]++(Aa x++Fi (r.map Aa))) R:=Lx.app (dj _) (Lx.app hx h1)
  simpa [Dy,Fi] using h3
theorem dl {t:Str} (h:Dn t=true):Hd t:=by
 rw [Wb] at h
 simp only [Bool.and_eq_true,Bool.not_eq_true',Bool.or_eq_false_iff,beq_eq_false_iff_ne,decide_eq_false_iff_not] at h
 cases t with
 | nil=>simp at h
 | cons c r =>
  refine ⟨c,r,rfl,?_⟩
  rintro rfl
  have h2:(!Fx 61)=false:=h.1.1.2
  exact absurd h2 (by decide)
theorem aw {t:Str} {n:Nat} (h:Aw t=(n:Int)):Dn t=true:=by
 rcases Ld h with ⟨rfl,_⟩|⟨rfl,_⟩|⟨rfl,_⟩|⟨rfl,_⟩|⟨rfl,_⟩|⟨rfl,_⟩|⟨rfl,_⟩|⟨rfl,_⟩<;>kernel_rfl
theorem Xg:∀(n:Nat) (x:Expr),sizeE x≤n→Bl B1 x=true→Bl E8 x=true→PL x
 | 0,x,hn,_,_=>by have:=Em x;omega
 | n+1,x,hn,hnd,hrg=>by
  have hnd0:=hnd
  have hrg0:=hrg
  rw [Dj,Bool.and_eq_true] at hnd0 hrg0
  have ih:∀y∈x.kids,PL y:=fun y hy=>Xg n y (T9 hn hy) ((Cr _ _).1 hnd0.2 y hy) ((Cr _ _).1 hrg0.2 y hy)
  have hNC:=Fq hnd0.1
  cases hNC with
  | val v hp h0 =>
   have hr:=hrg0.1
   unfold E8 at hr
   simp only [Bool.and_eq_true,decide_eq_true_eq] at hr
   unfold PL
   rw [nr,Qp]
   exact AAc hp h0 hr.2
  | name t ht =>
   unfold PL
   rw [dd,Nj]
   exact ⟨fun R hR=>R3 ht hR,dl ht⟩
  | neg a =>
   have ha:=ih a (by simp [Bw,Expr.kids])
   unfold PL
   rw [nt,Qq]
   exact ⟨fun R hR=>Lx.app (u:=[45]) (T:=[(5,[45])]) (Ix (by kernel_rfl) (ha.2.brk.not61 R)) (dk ha 6 hR),⟨45,_,rfl,by decide⟩⟩
  | no a =>
   have ha:=ih a (by simp [Bw,Expr.kids])
   unfold PL
   rw [vj,V3]
   exact ⟨fun R hR=>Lx.app (T:=[(2,Qn)]) (R4 (by kernel_rfl) (Ej _)) (P1 (dk ha 2 hR)),⟨110,_,rfl,by decide⟩⟩
  | bin t a b ht =>
   have ha:=ih a (by simp [Ca,Expr.kids])
   have hb:=ih b (by simp [Ca,Expr.kids])
   unfold PL
   rw [nu,Mb]
   refine ⟨fun R hR=>Lx.app (dk ha _ (Ej _)) (P1 ?_),ha.2.brk.app _⟩
   exact Lx.app (T:=[opTok t]) (AC7 ht) (P1 (dk hb _ hR))
  | call t k ht =>
   have hk:∀y∈k,PL y:=fun y hy=>ih y (by simpa [Expr.kids] using hy)
   have hnm:=aw ht
   unfold PL
   rw [de,Nk,Iy,T7]
   refine ⟨fun R hR=>?_,(dl hnm).app _⟩
   match k,hk,ht with
   | [],_,ht =>
    exfalso
    have:=Ta t
    simp at ht
    omega
   | x::r,hk,_ =>
    have hx:=hk x List.mem_cons_self
    obtain ⟨h1,h2⟩:=nw r (fun y hy=>hk y (List.mem_cons_of_mem _ hy)) ([41]++R) (dg R)
    have hin:Lx (A9 x++Dy (r.map A9)) (Aa x++Fi (r.map Aa)) ([41]++R):=Lx.app (hx.1 _ h2) h1
    have hcl:Lx ((A9 x++Dy (r.map A9))++[41]) ((Aa x++Fi (r.map Aa))++[(5,[41])]) R:=Lx.app hin (di (R7 hR))
    have hop:Lx ([40]++((A9 x++Dy (r.map A9))++[41])) ([(5,[40])]++((Aa x++Fi (r.map Aa))++[(5,[41])])) R:=Lx.app (nv ((((hx.2.app _).app _)).not61 R)) hcl
    have hnl:Lx (t++([40]++((A9 x++Dy (r.map A9))++[41]))) ([(1,t)]++([(5,[40])]++((Aa x++Fi (r.map Aa))++[(5,[41])]))) R:=Lx.app (R3 hnm (tj _)) hop
    simpa [Dy,Fi] using hnl
/-! What was parsed nests no deeper than may be. -/
structure NB (N k:Nat) (r:Expr×PS):Prop where
 nest:r.2.nest=N
 need:r.2.code=0→N+Do k r.1 (At r.1)≤30
def NF (N k:Nat) (f:PS→Expr×PS):Prop:=∀S:PS,S.nest=N→NB N k (f S)
theorem iu {k k':Nat} (h:k≤k') (x:Expr) (n:Nat):Do k x n≤Do k' x n:=by
 unfold Do
 split
 ·split<;>omega
 rw [if_neg (by omega)];exact Nat.le_refl _
theorem Mm (k:Nat) (x:Expr) (n:Nat):n≤Do k x n∧Do k x n≤n+1:=by unfold Do;split<;>omega
theorem NB.down {N k k':Nat} {r:Expr×PS} (h:NB N k' r) (hk:k≤k'):NB N k r:=⟨h.nest,fun h0=>by
 have:=h.need h0
 have:=iu hk r.1 (At r.1)
 omega⟩
theorem Kk (e a:Int) (S:PS):(Ci e a S).nest=S.nest:=by unfold Ci;split<;>rfl
theorem H5 {e a:Int} (he:e≠0) (S:PS):(Ci e a S).code≠0:=by
 unfold Ci
 split
 ·exact he
 rename_i h;simpa using h
theorem No (l:List Tok) (s:Str) (S:PS):(Cj l s S).nest=S.nest:=by
 unfold Cj
 split
 ·rfl
 split
 ·exact Kk _ _ _
 rfl
theorem Id {l:List Tok} {s:Str} {S:PS} (h:(Cj l s S).code=0):S.code=0:=by
 unfold Cj at h
 split at h
 ·exact h
 rename_i h0;simpa using h0
theorem Np {N k:Nat} {a:Int} {f:PS→Expr×PS} (hN:N≤30) (hf:N<30→NF (N+1) k f) {S:PS} (hS:S.nest=N):(Ai a f S).2.nest=N∧((Ai a f S).2.code=0→N+1+Do k (Ai a f S).1 (At (Ai a f S).1)≤30):=by
 unfold Ai
 split
 ·exact zh
 rename_i h
 have hlt:N<30:=by simp at h;omega
 have:=hf hlt (Al S) (by show S.nest+1=N+1;omega)
 refine ⟨?_,fun h0=>this.need h0⟩
 show (f (Al S)).2.nest-1=N
 rw [this.nest]
 rfl
theorem dm {N:Nat} {l:List Tok} {f:PS→Expr×PS} (hf:NF N 0 f):∀(n:Nat) (r:List Expr×PS),r.2.nest=N→(r.2.code=0→∀y∈r.1,N+At y≤30)→(argsF l f n r).2.nest=N∧((argsF l f n r).2.code=0→∀y∈(argsF l f n r).1,N+At y≤30)
 | 0,r,h1,h2=>⟨h1,h2⟩
 | n+1,r,h1,h2=>by
  rw [argsF]
  split
  ·rename_i hc
   simp only [Bool.and_eq_true,beq_iff_eq] at hc
   have hq:=hf (A3 r.2) h1
   refine dm hf n _ hq.nest (fun h0 y hy=>?_)
   rcases List.mem_append.1 hy with hy|hy
   ·exact h2 hc.1 y hy
   rw [List.mem_singleton.1 hy]
   have:=hq.need h0
   have:=(Mm 0 (f (A3 r.2)).1 (At (f (A3 r.2)).1)).1
   omega
  exact ⟨h1,h2⟩
theorem tq {l:List Expr} {m:Nat} (h:∀y∈l,At y≤m):ai (Jx l)≤m:=by
 induction l with
 | nil=>exact Nat.zero_le _
 | cons a r ih =>
  rw [Jx,ai]
  have h1:=h a List.mem_cons_self
  have h2:=ih fun y hy=>h y (List.mem_cons_of_mem _ hy)
  omega
theorem tr {N:Nat} {l:List Tok} {a:Int} {f:PS→Expr×PS} (hN:N≤30) (hf:N<30→NF (N+1) 0 f) {S:PS} (hS:S.nest=N):(Hf l a f S).2.nest=N∧((Hf l a f S).2.code=0→∀y∈(Hf l a f S).1,N+1+At y≤30):=by
 unfold Hf
 split
 ·exact zh
 rename_i h
 have hlt:N<30:=by simp at h;omega
 have hq:=hf hlt (Al S) (by show S.nest+1=N+1;omega)
 obtain ⟨h1,h2⟩:=dm (l:=l) (hf hlt) l.length ([(f (Al S)).1],(f (Al S)).2) hq.nest (fun h0 y hy=>by
  rw [List.mem_singleton.1 hy]
  have:=hq.need h0
  have:=(Mm 0 (f (Al S)).1 (At (f (Al S)).1)).1
  omega)
 refine ⟨?_,h2⟩
 show (En l f (Al S)).2.nest-1=N
 unfold En
 rw [h1]
 rfl
theorem tt {N:Nat} {l:List Tok} {D:Fam} (hN:N≤30) (hD:N<30→NF (N+1) 0 D.ei):NF N 7 (Cn l D):=fun S hS=>by
 have leaf:∀(x:Expr) (S':PS),S'.nest=N→At x=0→levE x=7→NB N 7 (x,S'):=fun x S' h1 h2 h3=>⟨h1,fun _=>by
  show N+Do 7 x (At x)≤30
  unfold Do
  rw [h3,h2,if_pos (by decide)]
  omega⟩
 have bad:∀(x:Expr) (S':PS),S'.nest=N→S'.code≠0→NB N 7 (x,S'):=fun x S' h1 h2=>⟨h1,fun h=>absurd h h2⟩
 unfold Cn
 split
 ·rename_i h;exact bad _ _ hS (by simpa using h)
 split
 ·exact leaf _ _ hS (X9 _) (Oy _)
 split
 ·exact leaf _ _ hS (X9 _) (Oy _)
 split
 ·split
  ·unfold Eo
   split
   ·exact zi
   have hk:=tr (l:=l) (a:=(A5 l (A3 S).i).at_) hN hD (show (A3 (A3 S)).nest=N from hS)
   split
   ·exact bad _ _ ((Kk _ _ _).trans ((No _ _ _).trans hk.1)) (H5 (by decide) _)
   refine ⟨(No _ _ _).trans hk.1,fun h0=>?_⟩
   have hkk:=hk.2 (Id h0)
   show N+Do 7 (.mk 6 _ noV (Bc l D (A3 S)).1) (At (.mk 6 _ noV (Bc l D (A3 S)).1))≤30
   rw [T8]
   unfold Do
   rw [Qs,if_pos (by decide)]
   by_cases hlt:N<30
   ·have:=tq (l:=(Bc l D (A3 S)).1) (m:=30-N-1) (fun y hy=>by have:=hkk y hy;omega)
    omega
   exfalso
   have hc:=Id h0
   unfold Bc Hf at hc
   rw [if_pos (by show ((S.nest:Int)==30)=true;simp;omega)] at hc
   exact H5 (by decide) _ hc
  exact leaf _ _ hS (il _) (Qr _)
 split
 ·have hw:=Np (a:=(A5 l S.i).at_) hN hD (show (A3 S).nest=N from hS)
  refine ⟨(No _ _ _).trans hw.1,fun h0=>?_⟩
  have h1:=hw.2 (Id h0)
  have h2:=(Mm 0 (Ai (A5 l S.i).at_ D.ei (A3 S)).1 (At (Ai (A5 l S.i).at_ D.ei (A3 S)).1)).1
  have h3:=(Mm 7 (Ai (A5 l S.i).at_ D.ei (A3 S)).1 (At (Ai (A5 l S.i).at_ D.ei (A3 S)).1)).2
  show N+Do 7 (Ai (A5 l S.i).at_ D.ei (A3 S)).1 (At (Ai (A5 l S.i).at_ D.ei (A3 S)).1)≤30
  omega
 exact zi
theorem nx {N:Nat} {l:List Tok} {D:Fam} (hN:N≤30) (hD:N<30→NF (N+1) 0 D.ei) (hn:N<30→NF (N+1) 6 D.ne):NF N 6 (Hm l D):=fun S hS=>by
 unfold Hm
 split
 ·exact (tt hN hD S hS).down (by decide)
 have hw:=Np (a:=(A5 l S.i).at_) hN hn (show (A3 S).nest=N from hS)
 refine ⟨hw.1,fun h0=>?_⟩
 have h1:=hw.2 h0
 show N+Do 6 (Bw 3 (Ai (A5 l S.i).at_ D.ne (A3 S)).1) _≤30
 unfold Do
 rw [Oz,if_pos (by decide),Xa]
 omega
theorem Iz {N k:Nat} {l:List Tok} {f:PS→Expr×PS} (hk:k=0∨k=1∨k=4∨k=5) (hf:NF N (k+1) f):NF N k (Cm l (ofL k) f):=by
 have hloop:∀(n:Nat) (r:Expr×PS),NB N k r→NB N k (Fc l (ofL k) f n r):=by
  intro n
  induction n with
  | zero=>exact fun r h=>h
  | succ n ih =>
   intro r h
   rw [Fc]
   split
   ·rename_i hc
    simp only [Bool.and_eq_true,beq_iff_eq] at hc
    have hq:=hf (A3 r.2) h.nest
    refine ih _ ⟨hq.nest,fun h0=>?_⟩
    have hlv:Af (A5 l r.2.i).text=(k:Int):=by
     have hm:=hc.2
     unfold isM at hm
     rw [Bool.and_eq_true] at hm
     have:=hm.2
     rw [Ez (Me hk)] at this
     simpa using this
    have h1:=h.need hc.1
    have h2:=hq.need h0
    have hfl:Cp k=k:=by unfold Cp;rw [if_neg (by omega)]
    show N+Do k (Ca (A5 l r.2.i).text r.1 (f (A3 r.2)).1) (At (Ca (A5 l r.2.i).text r.1 (f (A3 r.2)).1))≤30
    rw [Mc,hlv]
    rw [show Do k (Ca (A5 l r.2.i).text r.1 (f (A3 r.2)).1) _=_ from if_pos (by rw [Md,hlv];simp)]
    rw [Int.toNat_natCast,hfl]
    omega
   exact h
 exact fun S hS=>hloop _ _ ((hf S hS).down (Nat.le_succ k))
theorem ny {N:Nat} {l:List Tok} {D:Fam} (hf:NF N 4 (Bm l D)):NF N 3 (Bu l D):=fun S hS=>by
 unfold Bu
 split
 ·exact (hf S hS).down (by decide)
 rename_i hc
 simp only [Bool.or_eq_true,not_or,bne_iff_ne,ne_eq,Decidable.not_not,Bool.not_eq_true',Bool.not_eq_false] at hc
 have hx:=hf S hS
 have hq:=hf (A3 (Bm l D S).2) hx.nest
 refine ⟨hq.nest,fun h0=>?_⟩
 have hlv:Af (A5 l (Bm l D S).2.i).text=((3:Nat):Int):=by
  have hm:=hc.2
  unfold isM at hm
  rw [Bool.and_eq_true] at hm
  have:=hm.2
  rw [show V0=ofL 3 from rfl,Ez (.inr (.inr (.inl rfl)))] at this
  simpa using this
 have h1:=hx.need hc.1
 have h2:=hq.need h0
 show N+Do 3 (Ca (A5 l (Bm l D S).2.i).text (Bm l D S).1 (Bm l D (A3 (Bm l D S).2)).1) (At (Ca (A5 l (Bm l D S).2.i).text (Bm l D S).1 (Bm l D (A3 (Bm l D S).2)).1))≤30
 rw [Mc,hlv]
 rw [show Do 3 (Ca (A5 l (Bm l D S).2.i).text (Bm l D S).1 (Bm l D (A3 (Bm l D S).2)).1) _=_ from if_pos (by rw [Md,hlv];simp)]
 rw [Int.toNat_natCast,show Cp 3=4 from rfl,show 3+1=4 from rfl]
 omega
theorem nz {N:Nat} {l:List Tok} {D:Fam} (hN:N≤30) (hf:NF N 3 (Bu l D)) (hn:N<30→NF (N+1) 2 D.no):NF N 2 (Hn l D):=fun S hS=>by
 unfold Hn
 split
 ·exact (hf S hS).down (by decide)
 have hw:=Np (a:=(A5 l S.i).at_) hN hn (show (A3 S).nest=N from hS)
 refine ⟨hw.1,fun h0=>?_⟩
 have h1:=hw.2 h0
 show N+Do 2 (Bw 4 (Ai (A5 l S.i).at_ D.no (A3 S)).1) _≤30
 unfold Do
 rw [V4,if_pos (by decide),da]
 omega
theorem ax (l:List Tok):∀(d N:Nat),N+d=30→NF N 0 (Kh l (Bs l d))∧NF N 2 (Hn l (Bs l d))∧NF N 6 (Hm l (Bs l d))
 | d,N,h=>by
  have ih:N<30→NF (N+1) 0 (Bs l d).ei∧NF (N+1) 2 (Bs l d).no∧NF (N+1) 6 (Bs l d).ne:=fun hlt=>by
   match d,h with
   | 0,h=>omega
   | d+1,h=>exact ax l d (N+1) (by omega)
  have hneg:=nx (l:=l) (D:=Bs l d) (by omega) (fun h=>(ih h).1) (fun h=>(ih h).2.2)
  have hsum:NF N 4 (Bm l (Bs l d)):=Iz (k:=4) (by decide) (Iz (k:=5) (by decide) hneg)
  have hno:=nz (by omega) (ny hsum) (fun h=>(ih h).2.1)
  exact ⟨Iz (k:=0) (by decide) (Iz (k:=1) (by decide) hno),hno,hneg⟩
theorem iv:At Ag≤30:=by decide
/-! What nests too deep is told to be too deep. -/
def F2 (l:List Tok) (x:Expr):Prop:=∀(k:Nat) (S:PS) (rest:List TK),(k=0∨k=1∨k=4∨k=5)→k≤levE x→S.code=0→S.nest≤30→30<S.nest+At x→seg l S.i=Aa x++rest→stops (k+1) rest→(Cm l (ofL k) (pf l (fam l S.nest) (k+1)) S).2.code=18
/-! What was parsed is right, where the words are the lexer's. -/
/-- What the lexer's words are. -/
structure WordOk (t:Tok):Prop where
 name:t.kind=1→Dn t.text=true
 num:t.kind=3→By (Cl t.text).1=true∧0≤(Cl t.text).1.n∧(Cl t.text).1.n≤9223372036854775807
def RB (r:Expr×PS):Prop:=r.2.code=0→Bl B1 r.1=true∧Bl E8 r.1=true
def RF (N:Nat) (f:PS→Expr×PS):Prop:=∀S:PS,S.nest=N→RB (f S)
theorem o4 {t:Str} {x y:Expr} (ht:0≤Af t):B1 (Ca t x y)=true:=by
 rw [Gb,Ca,F0]
 simp [ht,show Ga noV=true from rfl]
theorem iw (x:Expr):B1 (Bw 3 x)=true:=by rw [Gb,Bw,F0];simp [show Ga noV=true from rfl]
theorem ix (x:Expr):B1 (Bw 4 x)=true:=by rw [Gb,Bw,F0];simp [show Ga noV=true from rfl]
theorem iy {v:Val} (h:By v=true) (h0:0≤v.n):B1 (Ex v)=true:=by rw [Gb,Ex,F0];simp [h,h0]
theorem ay {t:Str} (h:Dn t=true):B1 (B3 t)=true:=by rw [Gb,B3,F0];simp [h,show Ga ⟨0,0,[]⟩=true from rfl]
theorem iz {t:Str} {k:List Expr} (h:Aw t=(k.length:Int)):B1 (.mk 6 t noV k)=true:=by rw [Gb,F0];simp [h,show Ga noV=true from rfl]
theorem o5 {t:Str} {x y:Expr} (ht:0≤Af t) (hx:Bl B1 x=true∧Bl E8 x=true) (hy:Bl B1 y=true∧Bl E8 y=true):Bl B1 (Ca t x y)=true∧Bl E8 (Ca t x y)=true:=by
 rw [Dj,Dj]
 refine ⟨?_,?_⟩
 ·rw [o4 ht]
  show (true&&(Bl B1 x&&(Bl B1 y&&true)))=true
  rw [hx.1,hy.1];rfl
 show (E8 (Ca t x y)&&(Bl E8 x&&(Bl E8 y&&true)))=true
 rw [hx.2,hy.2];rfl
theorem o6 {o:Int} {x:Expr} (ho:B1 (Bw o x)=true) (hx:Bl B1 x=true∧Bl E8 x=true):Bl B1 (Bw o x)=true∧Bl E8 (Bw o x)=true:=by
 rw [Dj,Dj]
 refine ⟨?_,?_⟩
 ·rw [ho]
  show (true&&(Bl B1 x&&true))=true
  rw [hx.1];rfl
 show (E8 (Bw o x)&&(Bl E8 x&&true))=true
 rw [hx.2];rfl
theorem dn {x:Expr} (hn:B1 x=true) (hr:E8 x=true) (hk:x.kids=[]):Bl B1 x=true∧Bl E8 x=true:=by
 rw [Dj,Dj,hk,hn,hr]
 exact ⟨rfl,rfl⟩
theorem Nq {N:Nat} {a:Int} {f:PS→Expr×PS} (hN:N≤30) (hf:N<30→RF (N+1) f) {S:PS} (hS:S.nest=N):RB (Ai a f S):=by
 unfold Ai
 split
 ·exact rg
 rename_i h
 exact hf (by simp at h;omega) (Al S) (by show S.nest+1=N+1;omega)
theorem dp {N:Nat} {l:List Tok} {f:PS→Expr×PS} (hn:NF N 0 f) (hf:RF N f):∀(n:Nat) (r:List Expr×PS),r.2.nest=N→(r.2.code=0→∀y∈r.1,Bl B1 y=true∧Bl E8 y=true)→((argsF l f n r).2.code=0→∀y∈(argsF l f n r).1,Bl B1 y=true∧Bl E8 y=true)
 | 0,r,h1,h2=>h2
 | n+1,r,h1,h2=>by
  rw [argsF]
  split
  ·rename_i hc
   simp only [Bool.and_eq_true,beq_iff_eq] at hc
   refine dp hn hf n _ (hn (A3 r.2) h1).nest (fun h0 y hy=>?_)
   rcases List.mem_append.1 hy with hy|hy
   ·exact h2 hc.1 y hy
   rw [List.mem_singleton.1 hy]
   exact hf (A3 r.2) h1 h0
  exact h2
theorem tw {t:Str} (h:Dc t Oq=true):By (Cl t).1=true∧0≤(Cl t).1.n∧(Cl t).1.n≤9223372036854775807:=by
 rw [al] at h
 simp only [Bool.and_eq_true,litWords,List.contains_cons,List.contains_nil,Bool.or_false,Bool.or_eq_true,beq_iff_eq] at h
 rcases h.2 with rfl|rfl|rfl
 ·exact w7
 ·exact w7
 exact w7
theorem tz {v:Val} (h0:0≤v.n) (h1:v.n≤9223372036854775807):E8 (Ex v)=true:=by
 show (decide (-9223372036854775808≤v.n)&&decide (v.n≤9223372036854775807))=true
 simp only [Bool.and_eq_true,decide_eq_true_eq]
 omega
theorem u6 {N:Nat} {l:List Tok} {D:Fam} (hw:∀i,WordOk (A5 l i)) (hN:N≤30) (hD:N<30→NF (N+1) 0 D.ei) (hR:N<30→RF (N+1) D.ei):RF N (Cn l D):=fun S hS=>by
 have val:∀(v:Val) (S':PS),By v=true→0≤v.n→v.n≤9223372036854775807→RB (Ex v,S'):=fun v S' h1 h2 h3 _=>dn (iy h1 h2) (tz h2 h3) rfl
 unfold Cn
 split
 ·rename_i h;exact fun h0=>absurd h0 (by simpa using h)
 split
 ·rename_i h1 h2
  rw [Bool.or_eq_true] at h2
  rcases h2 with h2|h2
  ·obtain ⟨a,b,c⟩:=(hw S.i).num (by simpa using h2)
   exact val _ _ a b c
  unfold isM at h2
  rw [Bool.and_eq_true] at h2
  obtain ⟨a,b,c⟩:=tw h2.2
  exact val _ _ a b c
 split
 ·refine val _ _ ?_ (by show (0:Int)≤0;decide) (by show (0:Int)≤9223372036854775807;decide)
  exact (np _).plain
 split
 ·rename_i h1
  have hnm:=(hw S.i).name (by simpa using h1)
  split
  ·unfold Eo
   split
   ·exact rg
   split
   ·exact rg
   rename_i h2 h3
   intro h0
   have h0':(Cj l Cw (Bc l D (A3 S)).2).code=0:=h0
   have hlen:((Bc l D (A3 S)).1.length:Int)=Aw (A5 l S.i).text:=by
    rw [h0'] at h3
    simpa using h3
   have hc:=Id h0'
   have hkids:∀y∈(Bc l D (A3 S)).1,Bl B1 y=true∧Bl E8 y=true:=by
    unfold Bc Hf at hc ⊢
    by_cases h30:((A3 (A3 S)).nest:Int)==30
    ·rw [if_pos h30] at hc
     exact w8
    rw [if_neg h30] at hc ⊢
    have hlt:N<30:=by
     have:(A3 (A3 S)).nest=N:=hS
     rw [this] at h30
     simp at h30
     omega
    have hd:(Al (A3 (A3 S))).nest=N+1:=by show S.nest+1=N+1;omega
    exact dp (l:=l) (hD hlt) (hR hlt) l.length ([(D.ei (Al (A3 (A3 S)))).1],(D.ei (Al (A3 (A3 S)))).2) (hD hlt _ hd).nest (fun h0 y hy=>by rw [List.mem_singleton.1 hy];exact hR hlt _ hd h0) hc
   show Bl B1 (.mk 6 _ noV _)=true∧Bl E8 (.mk 6 _ noV _)=true
   rw [Dj,Dj,iz hlen.symm]
   exact ⟨by rw [Bool.true_and];exact (Cr _ _).2 fun y hy=>(hkids y hy).1,by
    rw [Bool.and_eq_true]
    exact ⟨rfl,(Cr _ _).2 fun y hy=>(hkids y hy).2⟩⟩
  exact fun _=>dn (ay hnm) rfl rfl
 split
 ·intro h0
  exact Nq hN hR (show (A3 S).nest=N from hS) (Id h0)
 exact rg
theorem P2 {N k:Nat} {l:List Tok} {f:PS→Expr×PS} (hk:k=0∨k=1∨k=4∨k=5) (hn:NF N (k+1) f) (hf:RF N f):RF N (Cm l (ofL k) f):=by
 have hloop:∀(n:Nat) (r:Expr×PS),r.2.nest=N→RB r→RB (Fc l (ofL k) f n r):=by
  intro n
  induction n with
  | zero=>exact fun r _ h=>h
  | succ n ih =>
   intro r hr h
   rw [Fc]
   split
   ·rename_i hc
    simp only [Bool.and_eq_true,beq_iff_eq] at hc
    refine ih _ (hn (A3 r.2) hr).nest (fun h0=>?_)
    have hlv:Af (A5 l r.2.i).text=(k:Int):=by
     have hm:=hc.2
     unfold isM at hm
     rw [Bool.and_eq_true] at hm
     have:=hm.2
     rw [Ez (Me hk)] at this
     simpa using this
    exact o5 (by omega) (h hc.1) (hf (A3 r.2) hr h0)
   exact h
 exact fun S hS=>hloop _ _ (hn S hS).nest (hf S hS)
theorem xg {N:Nat} {l:List Tok} {D:Fam} (hn:NF N 4 (Bm l D)) (hf:RF N (Bm l D)):RF N (Bu l D):=fun S hS=>by
 unfold Bu
 split
 ·exact hf S hS
 rename_i hc
 simp only [Bool.or_eq_true,not_or,bne_iff_ne,ne_eq,Decidable.not_not,Bool.not_eq_true',Bool.not_eq_false] at hc
 intro h0
 have hlv:Af (A5 l (Bm l D S).2.i).text=((3:Nat):Int):=by
  have hm:=hc.2
  unfold isM at hm
  rw [Bool.and_eq_true] at hm
  have:=hm.2
  rw [show V0=ofL 3 from rfl,Ez (.inr (.inr (.inl rfl)))] at this
  simpa using this
 exact o5 (by omega) (hf S hS hc.1) (hf (A3 (Bm l D S).2) (hn S hS).nest h0)
theorem o7 (l:List Tok) (hw:∀i,WordOk (A5 l i)):∀(d N:Nat),N+d=30→RF N (Kh l (Bs l d))∧RF N (Hn l (Bs l d))∧RF N (Hm l (Bs l d))
 | d,N,h=>by
  have ihn:N<30→NF (N+1) 0 (Bs l d).ei∧NF (N+1) 2 (Bs l d).no∧NF (N+1) 6 (Bs l d).ne:=fun hlt=>by
   match d,h with
   | 0,h=>omega
   | d+1,h=>exact ax l d (N+1) (by omega)
  have ih:N<30→RF (N+1) (Bs l d).ei∧RF (N+1) (Bs l d).no∧RF (N+1) (Bs l d).ne:=fun hlt=>by
   match d,h with
   | 0,h=>omega
   | d+1,h=>exact o7 l hw d (N+1) (by omega)
  have hN:N≤30:=by omega
  have hnegN:=nx (l:=l) (D:=Bs l d) hN (fun h=>(ihn h).1) (fun h=>(ihn h).2.2)
  have hneg:RF N (Hm l (Bs l d)):=fun S hS=>by
   unfold Hm
   split
   ·exact u6 hw hN (fun h=>(ihn h).1) (fun h=>(ih h).1) S hS
   exact fun h0=>o6 (iw _) (Nq hN (fun h=>(ih h).2.2) (show (A3 S).nest=N from hS) h0)
  have hprodN:NF N 5 (Q6 l (Bs l d)):=Iz (k:=5) (by decide) hnegN
  have hprod:RF N (Q6 l (Bs l d)):=P2 (k:=5) (by decide) hnegN hneg
  have hsumN:NF N 4 (Bm l (Bs l d)):=Iz (k:=4) (by decide) hprodN
  have hsum:RF N (Bm l (Bs l d)):=P2 (k:=4) (by decide) hprodN hprod
  have hcmpN:=ny hsumN
  have hcmp:=xg hsumN hsum
  have hnoN:=nz (l:=l) (D:=Bs l d) hN hcmpN (fun h=>(ihn h).2.1)
  have hno:RF N (Hn l (Bs l d)):=fun S hS=>by
   unfold Hn
   split
   ·exact hcmp S hS
   exact fun h0=>o6 (ix _) (Nq hN (fun h=>(ih h).2.1) (show (A3 S).nest=N from hS) h0)
  have hboN:NF N 1 (Q7 l (Bs l d)):=Iz (k:=1) (by decide) hnoN
  have hbo:RF N (Q7 l (Bs l d)):=P2 (k:=1) (by decide) hnoN hno
  exact ⟨P2 (k:=0) (by decide) hboN hbo,hno,hneg⟩
/-! The lexer's words. -/
theorem o8 {c:UInt8} {r of:Str} (h:decide (0<Gq ((c::r).take 1) of)=true):of.contains c=true:=by
 rw [show (c::r).take 1=[c] from rfl,Iw] at h
 cases hc:of.contains c with
 | true=>rfl
 | false=>rw [hc] at h;simp at h
theorem o9 {q:Str} (h0:q≠[]) (ha:∀c∈q,digs.contains c=true) (he:(Cl q).2=0):By (Cl q).1=true∧0≤(Cl q).1.n∧(Cl q).1.n≤9223372036854775807:=by
 cases q with
 | nil=>exact absurd rfl h0
 | cons c r =>
 have hc:=ha c List.mem_cons_self
 have hn:=Qv c hc
 have n1:((c::r:Str)==[110,117,108,108])=false:=by rw [beq_eq_false_iff_ne];intro e;injection e with e;exact hn.2.2.2.1 e
 have n2:((c::r:Str)==[116,114,117,101])=false:=by rw [beq_eq_false_iff_ne];intro e;injection e with e;exact hn.2.2.2.2.1 e
 have n3:((c::r:Str)==[102,97,108,115,101])=false:=by rw [beq_eq_false_iff_ne];intro e;injection e with e;exact hn.2.2.2.2.2 e
 have hq:J5 (c::r)=false:=by
  unfold J5
  have:Lib.hasPrefix (c::r) [39]=false:=by simp [Lib.hasPrefix,List.isPrefixOf,Ne.symm hn.2.2.1]
  rw [this]
  simp
 unfold Cl at he ⊢
 rw [n1,n2,n3,hq] at he ⊢
 simp only [Bool.false_eq_true,if_false,Bool.or_self] at he ⊢
 split at he
 ·rename_i h1
  rw [if_pos h1]
  have hb:Ev (c::r)=false:=by
   cases hb:Ev (c::r) with
   | false=>rfl
   | true=>unfold Cd at h1;rw [hb] at h1;simp at h1
  unfold Cd at h1 ⊢
  rw [hb] at h1 ⊢
  simp only [Bool.false_eq_true,if_false] at h1 ⊢
  have h43:c.toNat≠43:=fun e=>hn.2.1 (UInt8.toNat_inj.1 (by rw [e];rfl))
  have h45:c.toNat≠45:=fun e=>hn.1 (UInt8.toNat_inj.1 (by rw [e];rfl))
  have hp:=Lib.parseIntB_plain 64 c r h43 h45
  cases hv:Lib.parseIntB 64 (c::r) with
  | ok v =>
   have hb:=Lib.parseIntB_bounds hv
   simp only [show ((2 ^ (64-1):Nat):Int)=9223372036854775808 by decide] at hb
   rw [hp] at hv
   have h0:0≤v:=by
    cases hu:Lib.parseUintB 64 (c::r) with
    | ok u =>
     rw [hu] at hv
     have e:Lib.signlessC (2 ^ (64-1)) (.ok u)=if 2 ^ (64-1)≤u then .range else .ok (u:Int):=rfl
     rw [e] at hv
     split at hv
     ·cases hv
     injection hv with hv
     omega
    | _=>rw [hu] at hv;cases hv
   exact ⟨rfl,h0,by show v≤9223372036854775807;omega⟩
  | _=>first|(rw [hv] at h1;simp at h1;done)|(exact ⟨rfl,Int.le_refl 0,by show (0:Int)≤9223372036854775807;decide⟩)
 rename_i h1
 split at he
 ·simp at he
 simp at he
theorem Xh {p:UInt8→Bool}:∀{l:Str} {b:UInt8},b∈l.takeWhile p→p b=true
 | [],_,h=>by cases h
 | a::r,b,h=>by
  rw [List.takeWhile_cons] at h
  by_cases ha:p a=true
  ·rw [if_pos ha] at h
   rcases List.mem_cons.1 h with rfl|h
   ·exact ha
   exact Xh h
  rw [if_neg ha] at h
  cases h
theorem j4 {s:Str} {n:Nat} (h0:s≠[]) (he:(As s).2.2.2=0):WordOk ⟨(As s).1,(As s).2.1,n⟩:=by
 cases s with
 | nil=>exact absurd rfl h0
 | cons c r =>
 unfold As at he ⊢
 by_cases h1:decide (0<Gq ((c::r).take 1) letters)=true
 ·rw [if_pos h1] at he
  simp only [if_pos h1]
  unfold Ir at he ⊢
  by_cases r1:Ck (Ba (c::r) tails)=true
  ·simp only [if_pos r1]
   exact Yx
  rw [if_neg r1] at he
  simp only [if_neg r1]
  by_cases r2:(!C5 (Ba (c::r) tails))=true
  ·rw [if_pos r2] at he;simp at he
  simp only [if_neg r2]
  exact ⟨fun _=>by rw [←Dm];simpa using r2,fun h=>by cases h⟩
 rw [if_neg h1] at he
 simp only [if_neg h1]
 by_cases h2:decide (0<Gq ((c::r).take 1) digs)=true
 ·rw [if_pos h2] at he
  simp only [if_pos h2]
  unfold Ls at he ⊢
  refine ⟨(fun h=>by cases h),fun _=>o9 ?_ (fun b hb=>?_) he⟩
  ·show Ba (c::r) digs≠[]
   rw [H3,List.takeWhile_cons,o8 h2]
   simp
  have hb:b∈Ba (c::r) digs:=hb
  rw [H3] at hb
  exact Xh hb
 rw [if_neg h2] at he
 simp only [if_neg h2]
 by_cases h3:((((c::r).getD 0 0).toNat:Int)==39)=true
 ·rw [if_pos h3] at he
  simp only [if_pos h3]
  unfold G5 at he ⊢
  split
  ·exact Yx
  split
  ·exact Yx
  exact Yx
 simp only [if_neg h3]
 unfold Jp
 split
 ·exact Yx
 split
 ·exact Yx
 exact Yx
theorem Xi:∀(f q:Nat) (s:Str),∀it∈Dx f q s,it.2=0→WordOk it.1
 | 0,_,_,it,h,_=>by cases h
 | f+1,q,s,it,h,h0=>by
  rw [Dx] at h
  split at h
  ·cases h
  rename_i hs
  have hne:s≠[]:=by rintro rfl;exact hs rfl
  rcases List.mem_cons.1 h with rfl|h
  ·exact j4 hne h0
  split at h
  ·exact Xi f _ _ it h h0
  cases h
theorem xh (n:Nat):WordOk ⟨0,[],n⟩:=⟨(fun h=>by cases h),(fun h=>by cases h)⟩
set_option maxRecDepth 4000
end Go.SX.Nb
