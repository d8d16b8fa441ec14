/- On the way (part 6). -/
import Derived.ReadAgain
import Derived.ChangeSame
import Derived.ChangeArms
import Derived.ChangeOld
import Derived.ChangeFn
import Derived.MapPlaces
import Derived.DataReads
import Derived.OpenShut
import Derived.RowKit
import Derived.Deep.DeepHandedRow
import Derived.Test.YtekiioamifokoaaGreatDoorCards
import Derived.Test.YtekiioamifokoaaGreatDoorTie
import Derived.Lay
import Derived.Lib.LaidTab
import Derived.Stop.LaidErr
import Derived.Shelf.Vars
import Derived.ChangeBears
import Derived.Lib.ParseIntBTie
import Derived.Lib.AtoiAllCases
import Derived.Lib.AtoiTie
import Derived.Test.YtekiioamifokoaaGreatDoorRewriteTellsCardSaidPart5
set_option linter.all false
namespace Go.SX
variable [GI:GlobInv]
open Classical Go.RowKit Go.ChangeShapes
section
variable {P:Program} {H:Type} {enc:TypeId×Value→H}

/-- The first ghost: whatever lies there is read for good. -/
noncomputable def G0 (W:World):Gh:=⟨fun b o=>if (W.cell? ⟨b,o,none⟩).isSome then .fix else .free,fun _=>0,0⟩
theorem AHw {W:World} {b o:Nat} {u:Value} (h:W.cell? ⟨b,o,none⟩=some u):(G0 W).tag b o=.fix:=by simp [G0,h]
theorem U7 {W:World} {b:Nat} (h:b<W.heap.size):Mj (G0 W) W b:=⟨h,fun o=>by simp only [G0];split<;>simp,fun i hi=>absurd hi (Nat.not_lt_zero _)⟩
theorem ADp (W:World):HeapRel (G0 W) [] W:=⟨fun i x h=>by simp at h,rfl,fun i j hi=>absurd hi (Nat.not_lt_zero _)⟩
theorem ADq {W:World} (h:Jv W):TagOK (G0 W) W:=by
 refine ⟨fun b o hb=>?_,fun b o i hb=>?_,fun b o L hb=>?_,fun x hx=>?_⟩
 ·simp only [G0] at hb
  split at hb
  ·rename_i hs;exact Option.isSome_iff_exists.1 hs
  exact absurd rfl hb
 ·simp only [G0] at hb;split at hb<;>cases hb
 ·simp only [G0] at hb;split at hb<;>cases hb
 obtain ⟨v,h1,h2⟩:=h x hx
 exact ⟨U7 (O8.1 h1).1,v,h1,h2⟩

/-- What a datum of a AMx type AMy as. -/
inductive DRep (P:Program):TypeId→DataW H→AV→Prop
 | int {t:TypeId} {k:IntKind} {n:Int} (hu:P.underlying t=some (.int k)) (wf:(Lit.int k n).wf=true):DRep P t (.lit (.int k n)) (.v (.int k n))
 | bool {t:TypeId} {b:Bool} (hu:P.underlying t=some .bool):DRep P t (.lit (.bool b)) (.v (.bool b))
 | str {t:TypeId} {bs:List UInt8} (hu:P.underlying t=some .string):DRep P t (.lit (.string bs)) (.v (sv bs))
 | nil {t e:TypeId} (hu:P.underlying t=some (.slice e)):DRep P t .nil (.slice false (P.cellsOf e) [])
 | slice {t e:TypeId} {elems spare:List (DataW H)} {ys:List AV} (hu:P.underlying t=some (.slice e)) (hn:ys.length=elems.length)
   (h:∀(i:Nat) (d:DataW H) (y:AV),elems[i]? = some d→ys[i]? = some y→DRep P e d y):DRep P t (.slice elems spare) (.slice false (P.cellsOf e) ys)
 | struct {t:TypeId} {fs:Array Field} {parts:List (DataW H)} {ys:List AV} (hu:P.underlying t=some (.struct fs)) (hn:parts.length=fs.size) (hn':ys.length=fs.size)
   (h:∀(i:Nat) (f:Field) (d:DataW H) (y:AV),fs[i]? = some f→parts[i]? = some d→ys[i]? = some y→DRep P f.type d y):DRep P t (.agg parts) (.agg (ys.flatMap AV.cells))

/-- Types that are made of numbers, texts, bools, slices and structs alone. -/
structure PlainT (P:Program) (T:TypeId→Prop):Prop where
 look:∀t,T t→(P.cellsOf t=1∧((∃k,P.underlying t=some (.int k))∨P.underlying t=some .bool∨P.underlying t=some .string∨(∃e,P.underlying t=some (.slice e)∧T e∧0<P.cellsOf e))) ∨
  (∃fs,P.underlying t=some (.struct fs)∧(∀f∈fs.toList,T f.type)∧P.cellsOf t=(fs.toList.map fun f=>P.cellsOf f.type).sum ∧
   ∀(j:Nat) (f:Field),fs.toList[j]? = some f→f.offset=((fs.toList.take j).map fun f=>P.cellsOf f.type).sum)

/-- The reading of a row of cells. -/
def CRep (W:World) (y:AV) (cs:List Value):Prop:=
 y.cells.length=cs.length∧(∀c∈y.cells,c.one=true)∧∀(j:Nat) (c:AV) (v:Value),y.cells[j]? = some c→cs[j]? = some v→Rep (G0 W) W none c v

theorem CRep.v1 {W:World} {x:Value} (h:x.oneCell'=true):CRep W (.v x) [x]:=
 ⟨rfl,by simp [AV.cells,AV.one,h],fun j c v h1 h2=>by
  match j with
  | 0=>simp [AV.cells] at h1 h2;subst h1;subst h2;exact .v _ _
  | j+1=>simp [AV.cells] at h1⟩

theorem jm {f:AV→List AV}:∀(ys:List AV) (j:Nat) (c:AV),(ys.flatMap f)[j]? = some c→∃(i:Nat) (y:AV) (q:Nat),ys[i]? = some y∧(f y)[q]? = some c∧j=((ys.take i).map fun y=>(f y).length).sum+q
 | [],j,c,h=>by simp at h
 | y::r,j,c,h=>by
  rw [d8] at h
  rcases C0 j (f y).length with h'|h'
  ·rw [Dw h'] at h
   exact ⟨0,y,j,rfl,h,by simp⟩
  rw [Dx h'] at h
  obtain ⟨i,z,q,h1,h2,h3⟩:=jm r _ c h
  exact ⟨i+1,z,q,h1,h2,by simp only [List.take_succ_cons,Br,List.sum_cons];omega⟩
theorem Pe {α:Type} {R:Nat→α→Prop}:∀(n:Nat),(∀i,i<n→∃y,R i y)→∃ys:List α,ys.length=n∧∀(i:Nat) (y:α),ys[i]? = some y→R i y
 | 0,_=>⟨[],rfl,fun i y h=>by simp at h⟩
 | n+1,h=>by
  obtain ⟨ys,h1,h2⟩:=Pe n (fun i hi=>h i (by omega))
  obtain ⟨y,hy⟩:=h n (by omega)
  refine ⟨ys++[y],by simp [h1],fun i z hz=>?_⟩
  rcases C0 i n with h'|h'
  ·rw [Dw (by omega)] at hz;exact h2 i z hz
  rw [Dx (by omega)] at hz
  have:i=n:=by
   have:=(Ae.1 hz).1
   simp at this;omega
  subst this
  rw [h1] at hz
  simp at hz
  exact hz ▸ hy
theorem Rk {α β:Type} {f:α→Nat} {g:β→Nat}:∀(l:List α) (m:List β),l.length=m.length→(∀(i:Nat) (a:α) (b:β),l[i]? = some a→m[i]? = some b→f a=g b)→(l.map f).sum=(m.map g).sum
 | [],[],_,_=>rfl
 | [],b::m,h,_=>by simp at h
 | a::l,[],h,_=>by simp at h
 | a::l,b::m,h,hh=>by
  simp only [Br,List.sum_cons]
  rw [hh 0 a b rfl rfl,Rk l m (by simpa using h) (fun i a b h1 h2=>hh (i+1) a b h1 h2)]

theorem AAr {T:TypeId→Prop} (PT:PlainT P T) {W:World}:∀(n:Nat) (t:TypeId) (cs:List Value) (x:DataW H×List MemPlace),T t→DataW.trod enc P W 0 (fun _=>true) true n t cs=some x →
  ∃y,DRep P t x.1 y∧CRep W y cs∧cs.length=P.cellsOf t:=by
 intro n
 induction n with
 | zero=>intro t cs x _ h;simp [DataW.trod] at h
 | succ n ih =>
  intro t cs x hT h
  rcases PT.look t hT with ⟨hc1,⟨k,hu⟩|hu|hu|⟨e,hu,he,hz⟩⟩|⟨fs,hu,hf,hsum,hoff⟩
  ·obtain ⟨m,rfl,rfl,hw⟩:=DataW.trod_int hu h
   exact ⟨_,.int hu hw,.v1 rfl,hc1.symm⟩
  ·obtain ⟨b,rfl,rfl⟩:=DataW.trod_bool hu h
   exact ⟨_,.bool hu,.v1 rfl,hc1.symm⟩
  ·obtain ⟨s,rfl,rfl,_⟩:=DataW.trod_string hu h
   exact ⟨_,.str hu,.v1 rfl,hc1.symm⟩
  ·rcases DataW.trod_slice hu h with ⟨rfl,rfl⟩|⟨a,len,cap,elems,rest,m,hm,rfl,rfl,hb,hlc,hcm,hel,hE,_,_⟩
   ·refine ⟨_,.nil hu,⟨rfl,by simp [AV.cells,AV.one],fun j c v h1 h2=>?_⟩,hc1.symm⟩
    match j with
    | 0=>simp [AV.cells] at h1 h2;subst h1;subst h2;exact .slice0 _ _ _
    | j+1=>simp [AV.cells] at h1
   injection hm with hm
   subst hm
   subst hel
   have hEi:∀i,i<elems.length→∃y,(∀d,elems[i]? = some d→DRep P e d.1 y)∧∃ci,W.cells? 0 (a.add (i*P.cellsOf e)) (P.cellsOf e)=some ci∧CRep W y ci:=fun i hi=>by
    have h1:=hE i hi
    rw [Ac hi,Option.bind_eq_some_iff] at h1
    obtain ⟨ci,h2,h3⟩:=h1
    obtain ⟨y,h4,h5,_⟩:=ih e ci _ he h3
    exact ⟨y,fun d hd=>by rw [Ac hi] at hd;injection hd with hd;subst hd;exact h4,ci,h2,h5⟩
   obtain ⟨ys,hyl,hys⟩:=Pe elems.length hEi
   refine ⟨.slice false (P.cellsOf e) ys,.slice hu (by simp [hyl]) (fun i d y hd hy=>?_),⟨rfl,by simp [AV.cells,AV.one],fun j c v h1 h2=>?_⟩,hc1.symm⟩
   ·rw [Ch,Ek] at hd
    obtain ⟨d',hd',rfl⟩:=hd
    exact (hys i y hy).1 d' hd'
   match j with
   | j+1=>simp [AV.cells] at h1
   | 0 =>
    simp [AV.cells] at h1 h2
    subst h1;subst h2
    by_cases h0:elems.length=0
    ·have:ys=[]:=Wb (by omega)
     subst this
     rw [h0]
     exact .sliceE _ _ _ _
    have hspot:a.spot=none:=by
     obtain ⟨ci,hci,_⟩:=(hys 0 ys[0] (Ac (by omega))).2
     obtain ⟨_,g1,g2⟩:=World.cells?_some hci
     have g3:=g2 0 hz
     rw [Ac (by omega)] at g3
     simp only [Nat.zero_mul,Addr.add,if_true] at g3
     unfold World.cell? at g3
     split at g3
     ·split at g3
      ·cases g3
      rename_i hs;simpa using hs
     cases g3
    refine .slice _ false _ ys a _ cap (fun i j=>(W.cell? ⟨a.block,a.off+i*P.cellsOf e+j,none⟩).getD undef) hspot hyl.symm hlc (fun x hx=>?_) (fun x hx=>?_) (fun i x j y hx hy=>?_) (fun i x j y hx hy=>?_) (fun h=>by cases h)
    ·obtain ⟨i,hi⟩:=C9 hx
     obtain ⟨ci,hci,hcr⟩:=(hys i x hi).2
     rw [hcr.1]
     exact (World.cells?_some hci).2.1
    ·obtain ⟨i,hi⟩:=C9 hx
     obtain ⟨ci,hci,hcr⟩:=(hys i x hi).2
     exact hcr.2.1
    ·obtain ⟨ci,hci,hcr⟩:=(hys i x hx).2
     obtain ⟨_,g1,g2⟩:=World.cells?_some hci
     have hj:j<P.cellsOf e:=by
      have:=(Ae.1 hy).1
      rw [hcr.1] at this;omega
     have g3:=g2 j hj
     rw [Ac (by omega),Cw hspot,Cw rfl] at g3
     exact ⟨AHw g3,by rw [g3];rfl⟩
    obtain ⟨ci,hci,hcr⟩:=(hys i x hx).2
    obtain ⟨_,g1,g2⟩:=World.cells?_some hci
    have hj:j<P.cellsOf e:=by
     have:=(Ae.1 hy).1
     rw [hcr.1] at this;omega
    have g3:=g2 j hj
    rw [Ac (by omega),Cw hspot,Cw rfl] at g3
    simp only at g3
    rw [g3]
    exact hcr.2.2 j y _ hy (Ac (by omega))
  obtain ⟨xs,m,hm,rfl,hcl,hxl,hX⟩:=DataW.trod_struct hu h
  injection hm with hm
  subst hm
  have hXi:∀i,i<fs.size→∃y,∀(f:Field),fs[i]? = some f→(∀d,xs[i]? = some d→DRep P f.type d.1 y)∧CRep W y ((cs.drop f.offset).take (P.cellsOf f.type))∧y.cells.length=P.cellsOf f.type:=fun i hi=>by
   have h1:=hX i fs[i] (Eb hi)
   rw [Ac (by omega)] at h1
   obtain ⟨y,h2,h3,h4⟩:=ih _ _ _ (hf _ (by simp)) h1
   refine ⟨y,fun f hf'=>?_⟩
   rw [Eb hi] at hf'
   injection hf' with hf'
   subst hf'
   exact ⟨fun d hd=>by rw [Ac (by omega)] at hd;injection hd with hd;subst hd;exact h2,h3,by rw [h3.1,h4]⟩
  obtain ⟨ys,hyl,hys⟩:=Pe fs.size hXi
  have hlenI:∀(i:Nat),((ys.take i).map fun y=>y.cells.length).sum=((fs.toList.take i).map fun f=>P.cellsOf f.type).sum:=fun i=>by
   refine Rk _ _ (by simp [hyl]) (fun j y f h1 h2=>?_)
   rw [Hb] at h1 h2
   split at h1
   ·rename_i hj
    rw [if_pos hj] at h2
    exact (hys j y h1 f (by simpa using h2)).2.2
   cases h1
  have htot:(ys.flatMap AV.cells).length=cs.length:=by
   rw [List.length_flatMap,hcl,hsum]
   refine Rk _ _ (by simp [hyl]) (fun j y f h1 h2=>(hys j y h1 f (by simpa using h2)).2.2)
  refine ⟨.agg (ys.flatMap AV.cells),.struct hu (by simp [hxl]) hyl (fun i f d y hf' hd hy=>?_),⟨htot,fun c hc=>?_,fun j c v h1 h2=>?_⟩,hcl⟩
  ·rw [Ch,Ek] at hd
   obtain ⟨d',hd',rfl⟩:=hd
   exact (hys i y hy f hf').1 d' hd'
  ·obtain ⟨y,hy,hcy⟩:=List.mem_flatMap.1 hc
   obtain ⟨i,hi⟩:=C9 hy
   have hlt:i<fs.size:=by rw [←hyl];exact (Ae.1 hi).1
   exact ((hys i y hi fs[i] (Eb hlt)).2.1).2.1 c hcy
  obtain ⟨i,y,q,g1,g2,rfl⟩:=jm ys j c h1
  have hlt:i<fs.size:=by rw [←hyl];exact (Ae.1 g1).1
  obtain ⟨_,k2,k3⟩:=hys i y g1 fs[i] (Eb hlt)
  have hq:q<P.cellsOf (fs[i]).type:=by have:=(Ae.1 g2).1;omega
  refine k2.2.2 q c v g2 ?_
  rw [Hb,if_pos hq,G8,hoff i fs[i] (by simp [hlt]),←hlenI i]
  exact h2

/-- A measure of data. -/
structure Bulk (B:DataW H→Nat):Prop where
 str:∀bs,bs.length≤B (.lit (.string bs))
 slice:∀elems spare,elems.length≤B (.slice elems spare)∧∀d∈elems,B d≤B (.slice elems spare)
 agg:∀parts,∀d∈parts,B d≤B (.agg parts)
theorem DRep.int' {t:TypeId} {k:IntKind} {d:DataW H} {y:AV} (hu:P.underlying t=some (.int k)) (h:DRep P t d y):∃n,d=.lit (.int k n)∧y=.v (.int k n)∧k.min≤n∧n≤k.max:=by
 cases h with
 | int hu' wf=>rw [hu] at hu';injection hu' with e;injection e with e;subst e;exact ⟨_,rfl,rfl,by simpa [Lit.wf] using wf⟩
 | _ hu'=>rw [hu] at hu';cases hu'
theorem DRep.bool' {t:TypeId} {d:DataW H} {y:AV} (hu:P.underlying t=some .bool) (h:DRep P t d y):∃b,d=.lit (.bool b)∧y=.v (.bool b):=by
 cases h with
 | bool hu'=>exact ⟨_,rfl,rfl⟩
 | _ hu'=>rw [hu] at hu';cases hu'
theorem DRep.str' {t:TypeId} {d:DataW H} {y:AV} (hu:P.underlying t=some .string) (h:DRep P t d y):∃s,d=.lit (.string s)∧y=.v (sv s):=by
 cases h with
 | str hu'=>exact ⟨_,rfl,rfl⟩
 | _ hu'=>rw [hu] at hu';cases hu'
theorem DRep.slice' {t e:TypeId} {d:DataW H} {y:AV} {B:DataW H→Nat} (hB:Bulk B) {α:Type} (A:α→AV) (R:α→Prop) {b:Nat} (hu:P.underlying t=some (.slice e)) (h:DRep P t d y) (hb:B d≤b)
  (hE:∀d y,B d≤b→DRep P e d y→∃x,y=A x∧R x):∃l:List α,y=.slice false (P.cellsOf e) (l.map A)∧l.length≤b∧∀x∈l,R x:=by
 cases h with
 | nil hu'=>rw [hu] at hu';injection hu' with e';injection e' with e';subst e';exact ⟨[],rfl,Ao _,fun x hx=>by cases hx⟩
 | slice hu' hn hh =>
  rw [hu] at hu';injection hu' with e';injection e' with e';subst e'
  rename_i elems spare ys
  obtain ⟨h1,h2⟩:=hB.slice elems spare
  have key:∀(ys:List AV) (es:List (DataW H)),ys.length=es.length→(∀d∈es,B d≤b)→(∀(i:Nat) (d:DataW H) (y:AV),es[i]? = some d→ys[i]? = some y→DRep P e d y)→∃l:List α,ys=l.map A∧∀x∈l,R x:=by
   intro ys
   induction ys with
   | nil=>exact fun es _ _ _=>⟨[],rfl,fun x hx=>by cases hx⟩
   | cons y ys ih =>
    intro es hl hb2 hr
    cases es with
    | nil=>simp at hl
    | cons d es =>
     obtain ⟨x,rfl,hx⟩:=hE d y (hb2 d (by simp)) (hr 0 d y rfl rfl)
     obtain ⟨l,rfl,hR⟩:=ih es (by simpa using hl) (fun d hd=>hb2 d (by simp [hd])) (fun i d y a c=>hr (i+1) d y a c)
     exact ⟨x::l,rfl,fun z hz=>by
      rcases B3.1 hz with rfl|hz
      ·exact hx
      exact hR z hz⟩
  obtain ⟨l,rfl,hR⟩:=key ys elems hn (fun d hd=>K9 (h2 d hd) hb) hh
  exact ⟨l,rfl,by simp at hn;omega,hR⟩
 | _ hu'=>rw [hu] at hu';cases hu'
theorem DRep.struct' {t:TypeId} {fs:Array Field} {d:DataW H} {y:AV} {B:DataW H→Nat} (hB:Bulk B) (hu:P.underlying t=some (.struct fs)) (h:DRep P t d y):
  ∃ys:List AV,ys.length=fs.size∧y=.agg (ys.flatMap AV.cells)∧∀(i:Nat) (f:Field) (z:AV),fs[i]? = some f→ys[i]? = some z→∃d',B d'≤B d∧DRep P f.type d' z:=by
 cases h with
 | struct hu' hn hn' hh =>
  rw [hu] at hu';injection hu' with e';injection e' with e';subst e'
  rename_i parts ys
  refine ⟨ys,hn',rfl,fun i f z h1 h2=>?_⟩
  have hlt:i<parts.length:=by rw [hn];exact (O8.1 h1).1
  exact ⟨parts[i],hB.agg parts _ (As hlt),hh i f parts[i] z h1 (Ac hlt) h2⟩
 | _ hu'=>rw [hu] at hu';cases hu'

/-- An argument's reading. -/
theorem ADr {T:TypeId→Prop} (PT:PlainT P T) {W:World} {t:TypeId} {v:Value} {d:DataW H} {ps:List MemPlace} {b0:Nat} (hT:T t) (hok:Value.okWide P W .any b0 t v) (h:DataW.Trod enc P W 0 (fun _=>true) true t v d ps):
  ∃y,DRep P t d y∧Rep (G0 W) W none y v:=by
 obtain ⟨n,hn⟩:=h
 obtain ⟨y,h1,h2,h3⟩:=AAr PT n t _ _ hT hn
 refine ⟨y,h1,?_⟩
 rcases PT.look t hT with ⟨hc1,hone⟩|⟨fs,hu,_⟩
 ·have hva:∀cs,v≠.agg cs:=fun cs e=>by
   subst e
   rcases hone with ⟨k,hu⟩|hu|hu|⟨e,hu,he,hz⟩<;>simp [Value.okWide,hu,Cell.okWide,Cell.ok] at hok
  have hvc:v.cells=#[v]:=by cases v<;>first|rfl|exact absurd rfl (hva _)
  have hyc:y.cells=[y]:=by
   cases h1 with
   | struct hu=>rcases hone with ⟨k,hu'⟩|hu'|hu'|⟨e,hu',he,hz⟩<;>rw [hu] at hu'<;>cases hu'
   | _=>rfl
  have:=h2.2.2 0 y v (by rw [hyc];rfl) (by rw [hvc];rfl)
  exact this
 obtain ⟨cs,rfl,hsz,_⟩:∃cs,v=.agg cs∧cs.size=P.cellsOf t∧Row.okWide P W .any b0 t cs:=by
  simp only [Value.okWide,hu] at hok
  exact hok
 cases h1 with
 | struct hu' hn1 hn2 hh =>
  refine .agg _ _ _ (by have:=h2.1;simp only [AV.cells,Value.cells,Array.length_toList] at this;exact this.symm) h2.2.1 (fun i c u a b=>h2.2.2 i c u a (by simpa [Value.cells] using b))
 | int hu'=>rw [hu] at hu';cases hu'
 | bool hu'=>rw [hu] at hu';cases hu'
 | str hu'=>rw [hu] at hu';cases hu'
 | nil hu'=>rw [hu] at hu';cases hu'
 | slice hu'=>rw [hu] at hu';cases hu'

def DReps (P:Program):List TypeId→List (DataW H)→List AV→Prop
 | [],[],[]=>True
 | t::ts,d::ds,y::ys=>DRep P t d y∧DReps P ts ds ys
 | _,_,_=>False

theorem DReps.cons' {t:TypeId} {ts:List TypeId} {ds:List (DataW H)} {ys:List AV} (h:DReps P (t::ts) ds ys):∃d ds' y ys',ds=d::ds'∧ys=y::ys'∧DRep P t d y∧DReps P ts ds' ys':=by
 match ds,ys,h with
 | d::ds',y::ys',⟨h1,h2⟩=>exact ⟨d,ds',y,ys',rfl,rfl,h1,h2⟩
 | [],_,h=>simp [DReps] at h
 | _::_,[],h=>simp [DReps] at h
theorem DReps.nil' {ds:List (DataW H)} {ys:List AV} (h:DReps P [] ds ys):ds=[]∧ys=[]:=by
 match ds,ys,h with
 | [],[],_=>exact ⟨rfl,rfl⟩
 | [],_::_,h=>simp [DReps] at h
 | _::_,_,h=>simp [DReps] at h
theorem ay {T:TypeId→Prop} (PT:PlainT P T) {W:World} {b0:Nat}:∀(ts:List TypeId) (vs:List Value) (ds:List (DataW H)) (ps:List MemPlace),(∀t∈ts,T t) →
  (∀(j:Nat) t v,ts[j]? = some t→vs[j]? = some v→Value.okWide P W .any b0 t v)→DataW.TrodAll enc P W 0 (fun _=>true) true ts vs ds ps →
  ∃ys,DReps P ts ds ys∧ys.length=vs.length∧∀(i:Nat) (y:AV) (u:Value),ys[i]? = some y→vs[i]? = some u→Rep (G0 W) W none y u
 | [],[],[],_,_,_,_=>⟨[],trivial,rfl,fun i y u h=>by simp at h⟩
 | t::ts,v::vs,d::ds,ps,hT,hok,⟨p,q,h1,h2,_⟩=>by
  obtain ⟨y,k1,k2⟩:=ADr PT (hT t (by simp)) (hok 0 t v rfl rfl) h1
  obtain ⟨ys,k3,k4,k5⟩:=ay PT ts vs ds q (fun t ht=>hT t (by simp [ht])) (fun j t v a b=>hok (j+1) t v a b) h2
  refine ⟨y::ys,⟨k1,k3⟩,by simp [k4],fun i z u a b=>?_⟩
  match i with
  | 0=>simp at a b;subst a;subst b;exact k2
  | i+1=>exact k5 i z u a b
 | [],_::_,_,_,_,_,h=>by simp [DataW.TrodAll] at h
 | [],[],_::_,_,_,_,h=>by simp [DataW.TrodAll] at h
 | _::_,[],_,_,_,_,h=>by simp [DataW.TrodAll] at h
 | _::_,_::_,[],_,_,_,h=>by simp [DataW.TrodAll] at h

theorem V2 {W:World} {sp:Nat→Bool} {hd:Bool}:∀{ts:List TypeId} {vs:List Value} {ds:List (DataW H)} {ps:List MemPlace},DataW.TrodAll enc P W 0 sp hd ts vs ds ps→ds.length=ts.length
 | [],[],[],_,_=>rfl
 | _::_,_::_,_::_,_,⟨_,_,_,h,_⟩=>by rw [B8,B8,V2 h]
 | [],_::_,_,_,h=>by simp [DataW.TrodAll] at h
 | [],[],_::_,_,h=>by simp [DataW.TrodAll] at h
 | _::_,[],_,_,h=>by simp [DataW.TrodAll] at h
 | _::_,_::_,[],_,h=>by simp [DataW.TrodAll] at h
theorem Pf {W W':World} {sp:Nat→Bool}:∀{ts:List TypeId} {vs:List Value} {ds:List (DataW H)} {ps:List MemPlace},DataW.TrodAll enc P W 0 sp true ts vs ds ps→(∀p∈ps,W.sameAt W' p)→DataW.TrodAll enc P W' 0 sp true ts vs ds ps
 | [],[],[],_,h,_=>h
 | _::_,_::_,_::_,_,⟨p,q,⟨n,hn⟩,h2,e⟩,hs=>⟨p,q,⟨n,DataW.trod_carry n _ _ _ hn (fun x hx=>hs x (by rw [e];exact db _ hx))⟩,Pf h2 (fun x hx=>hs x (by rw [e];exact S5 _ hx)),e⟩
 | [],_::_,_,_,h,_=>by simp [DataW.TrodAll] at h
 | [],[],_::_,_,h,_=>by simp [DataW.TrodAll] at h
 | _::_,[],_,_,h,_=>by simp [DataW.TrodAll] at h
 | _::_,_::_,[],_,h,_=>by simp [DataW.TrodAll] at h

/-- **A law that answers true, for whatever can be read.** -/
theorem we {f:FuncId} {fn:Func} {s:ChangeSpec} {T:TypeId→Prop} {tb:TypeId} {W:World} {base:Nat} {args:Array Value} {ds gs:List (DataW H)} {before:List MemPlace} (K:Kids P (·<P.types.size)) (hz:∀t e,t<P.types.size→P.underlying t=some (.slice e)→0<P.cellsOf e)
  (PT:PlainT P T) (hT:∀t∈fn.params.toList,T t∧t<P.types.size) (hb:P.underlying tb=some .bool) (hres:fn.resultTypes=#[tb]) (hvars:s.vars=[])
  (hspec:∀ds:List (DataW H),ds.length=fn.params.size→s.fn H ds={ results:=[.lit (.bool true)],args:=ds })
  (hval:∀(j:Nat) t v,fn.params[j]? = some t→args[j]? = some v→Value.okWide P W .any base t v) (hW:DataW.Whole enc P fn.params.toList s.vars false W args.toList ds gs before)
  (hglob:Jv W)
  (main:∀ys:List AV,DReps P fn.params.toList ds ys→AFun P f ys [] (.v (.bool true))) (hbd:GI.bd≤0:=by exact An 0):
  Calls P f args W (fun e W'=>∃v,e=.returned v∧s.post enc P fn false true false false W args v W'):=by
 have hW0:=hW
 obtain ⟨p,q,hA,hV,hpq,hfz,hnd⟩:=hW
 rw [hvars] at hV
 obtain ⟨rfl,rfl⟩:=trodVars_none hV
 rw [Ha] at hpq
 subst hpq
 obtain ⟨ys,h1,h2,h3⟩:=ay PT _ _ _ _ (fun t ht=>(hT t ht).1) (fun j t v a b=>hval j t v (by simpa using a) (by simpa using b)) hA
 have hlen:=V2 hA
 have hc:=main ys h1 0 (G0 W) W args (by simpa using h2.symm) (fun i y u a b=>(h3 i y u a (by simpa using b)).lift) (ADp W) (ADq hglob)
 refine (callsIn_wide.1 (hc hbd)).mono ?_
 rintro e W' ⟨v,G',r,H',rfl,hr,hH,hTg,hk,hl,rfl,rfl⟩
 have hv:=Qk hr
 subst hv
 refine ⟨_,rfl,ds,[],before,[],before,[],hW0,?_,?_,?_,?_,fun h=>by cases h⟩
 ·rw [hres,Ha,hspec ds (by simpa using hlen)]
  exact trodAll_cons_mk (p:=[]) (shut_bool hb true) trodAll_mk0
 ·rw [Ha,hspec ds (by simpa using hlen)]
  refine Pf (DataW.TrodAll.respare K hz (fun t ht=>(hT t ht).2) hA (fun p hp=>by simpa using hW0.lt p hp)) (fun p hp=>?_)
  have hlt:=hW0.lt p hp
  have hb:=(hk.old _ (U7 hlt)).1
  cases p with
  | cell b o=>exact Kg hb
  | map b=>exact hb
 ·rw [hvars,Ha,hspec ds (by simpa using hlen)]
  rfl
 refine ⟨hk.os,hk.output,fun i hi=>?_⟩
 have hb:=(hk.old i (U7 hi)).1
 rw [hb]
 cases ho:W.heap[i]? with
 | none=>simp
 | some o=>cases o<;>simp
end
end Go.SX
namespace Go.Proofs.YtekiioamifokoaaGreatDoor
open Go Go.SX Go.SX.Nb Go.ChangeShapes Go.RowKit
set_option maxRecDepth 100000

theorem own:ownKnob Tryz.prog.godebug=none:=by kernel_rfl
theorem kids:Kids Tryz.prog (·<Tryz.prog.types.size):=kids_rows (by kernel_rfl) (by kernel_rfl)
theorem full:∀t e,t<Tryz.prog.types.size→Tryz.prog.underlying t=some (.slice e)→0<Tryz.prog.cellsOf e:=slices_full_of Tryz.prog (by kernel_rfl)
theorem AAs {H:Type}:∀d:DataW H,1≤Rows.uptoBulk d
 | .lit (.string b)=>by rw [Rows.uptoBulk];omega
 | .lit (.bool _)=>by simp [Rows.uptoBulk]
 | .lit (.int _ _)=>by simp [Rows.uptoBulk]
 | .lit (.float _ _)=>by simp [Rows.uptoBulk]
 | .lit .nil=>by simp [Rows.uptoBulk]
 | .nil=>by simp [Rows.uptoBulk]
 | .ptr d=>by rw [Rows.uptoBulk];omega
 | .slice a b=>by rw [Rows.uptoBulk];omega
 | .agg a=>by rw [Rows.uptoBulk];omega
 | .iface _ d=>by rw [Rows.uptoBulk];omega
 | .map a=>by rw [Rows.uptoBulk];omega
 | .held _=>by simp [Rows.uptoBulk]
theorem Xn {H:Type}:∀l:List (DataW H),l.length≤Rows.uptoBulkAll l∧∀d∈l,Rows.uptoBulk d≤Rows.uptoBulkAll l
 | []=>⟨Nat.zero_le _,fun d h=>by cases h⟩
 | d::r=>by
  obtain ⟨h1,h2⟩:=Xn r
  have:=AAs d
  rw [Rows.uptoBulkAll,List.length_cons]
  refine ⟨by omega,fun x hx=>?_⟩
  rcases List.mem_cons.1 hx with rfl|hx
  ·omega
  have:=h2 x hx;omega
theorem oz {H:Type}:Bulk (Rows.uptoBulk (H:=H)) where
 str:=fun bs=>by rw [Rows.uptoBulk];omega
 slice:=fun elems spare=>by
  obtain ⟨h1,h2⟩:=Xn elems
  rw [Rows.uptoBulk]
  exact ⟨by omega,fun d hd=>by have:=h2 d hd;omega⟩
 agg:=fun parts d hd=>by
  have:=(Xn parts).2 d hd
  rw [Rows.uptoBulk]
  omega

/-- What the rows of this seat list. -/
def rr:List (String×DataW Unit):=Rows.rewriteTellsUptoRow.laid
theorem az:∀u,Tryz.prog.typeName? 3 u=some "*errors.errorString" → u=267:=by
 intro u hu
 exact typeName_ptr_named (nm := "errors.errorString") (by kernel_rfl) (by kernel_rfl) (by decide) u hu
theorem ADs {W:World} (h:laidMet Tryz.prog rr W):∃a:Addr,W.var? Tryz.prog "strconv.ErrRange" = some #[.iface 267 (.pointer (some a))]:=by
 have h':=h.tail.tail.tail.tail
 obtain ⟨a,s,h1,_⟩:=laid_sentinel (g:=1) (ti:=164) (tp:=267) (te:=269) (ts:=9) h' (by kernel_rfl) (by kernel_rfl) Tryz.underlying164 az Tryz.underlying267 Tryz.underlying269 rfl rfl Tryz.underlying9 (by kernel_rfl) (by kernel_rfl)
 exact ⟨a,h1⟩
theorem AAt {W:World} (h:laidMet Tryz.prog rr W):∃a:Addr,W.var? Tryz.prog "strconv.ErrSyntax" = some #[.iface 267 (.pointer (some a))]:=by
 have h':=h.tail.tail.tail.tail.tail
 obtain ⟨a,s,h1,_⟩:=laid_sentinel (g:=0) (ti:=164) (tp:=267) (te:=269) (ts:=9) h' (by kernel_rfl) (by kernel_rfl) Tryz.underlying164 az Tryz.underlying267 Tryz.underlying269 rfl rfl Tryz.underlying9 (by kernel_rfl) (by kernel_rfl)
 exact ⟨a,h1⟩
theorem ADt {W:World} (h:laidMet Tryz.prog rr W):Lib.TabIs Tryz.prog W "internal/strconv.uint64pow10" .u64 Lib.pow10Tab:=
 Lib.tabIs_of_head (g:=5) (t:=327) (e:=249) (n:=20) (by kernel_rfl) (by kernel_rfl) (by kernel_rfl) (by kernel_rfl) (by kernel_rfl) (by kernel_rfl) h.tail.tail
theorem U8 {P:Program} {W:World} {n:String} {g:Nat} {cs:Array Value} (hg:P.globalNamed n=some g) (h:W.var? P n=some cs):∃t f,W.heap[g]? = some (.cells cs t f):=by
 unfold World.var? at h
 rw [hg] at h
 simp only [Option.bind_some] at h
 split at h
 ·rename_i cs' t f e
  injection h with h
  subst h
  exact ⟨t,f,e⟩
 cases h
theorem glob {W:World} [E:ErrAt] (h:W.ShapedOpen Tryz.prog) (hl:laidMet Tryz.prog rr W) (he:W.var? Tryz.prog "strconv.ErrRange" = some #[.iface 267 (.pointer (some E.b))]) (he2:W.var? Tryz.prog "strconv.ErrSyntax" = some #[.iface 267 (.pointer (some E.bs))]):Jv W:=by
 intro x hx
 have hx':x∈X3:=hx
 unfold X3 at hx'
 simp only [List.mem_cons,List.mem_nil_iff,or_false] at hx'
 rcases hx' with rfl|rfl|rfl|rfl
 ·obtain ⟨m,hm⟩:=cell_of_shapedOpen_int (g:=2) (t:=3) (zero:=#[.int .i64 0]) (k:=.i64) h (of_decide_eq_true (by kernel_rfl)) (by kernel_rfl) rfl (by kernel_rfl) (by kernel_rfl) Tryz.underlying3
  obtain ⟨cs,hh,hs,_⟩:=h.1 2 #[.int .i64 0] 3 (of_decide_eq_true (by kernel_rfl)) (by kernel_rfl)
  have hs':cs.size=1:=hs
  have h1:0<cs.size:=by omega
  have hc:cs[0]=.int .i64 m:=by
   simp [World.cell?,hh,h1] at hm
   exact hm
  have:cs=#[.int .i64 m]:=by
   apply Array.ext
   ·simpa using hs'
   intro i h1 h2
   have:i=0:=by omega
   subst this
   simpa using hc
  rw [this] at hh
  exact ⟨_,hh,m,3,_,rfl⟩
 ·obtain ⟨t,f,e⟩:=U8 (g:=1) (by kernel_rfl) he
  exact ⟨_,e,t,f,rfl⟩
 ·obtain ⟨t,f,e⟩:=U8 (g:=0) (by kernel_rfl) he2
  exact ⟨_,e,t,f,rfl⟩
 obtain ⟨t,f,e⟩:=U8 (g:=5) (by kernel_rfl) (ADt hl)
 exact ⟨_,e,t,f,rfl⟩
end Go.Proofs.YtekiioamifokoaaGreatDoor
namespace Go.SX.Nb
open Go Go.SX Go.Proofs
variable [ErrAt]
set_option maxRecDepth 4000
mutual
def depthE:Expr→Nat
 | .mk _ _ _ k=>Ei k+1
def Ei:List Expr→Nat
  | []=>0
  | e::r=>max (depthE e) (Ei r)
 end
mutual
def F7 (p:Expr→Bool):Expr→Bool
 | .mk o t v k=>p (.mk o t v k)&&Km p k
def Km (p:Expr→Bool):List Expr→Bool
  | []=>true
  | e::r=>F7 p e&&Km p r
 end
mutual
def Kv:Expr→List Expr
 | .mk o t v k=>.mk o t v k::Fp k
def Fp:List Expr→List Expr
  | []=>[]
  | e::r=>Kv e++Fp r
 end
theorem Q9 (e:Expr):depthE e=Ei e.kids+1:=by cases e;rfl
theorem Ht (p:Expr→Bool) (e:Expr):F7 p e=(p e&&Km p e.kids):=by cases e;rfl
theorem b6 (e:Expr):Kv e=e::Fp e.kids:=by cases e;rfl
theorem Qp:∀a b,Ei (a++b)=max (Ei a) (Ei b)
 | [],b=>by rw [E3,Ei,Nat.zero_max]
 | e::r,b=>by rw [E8,Ei,Ei,Qp r b,Nat.max_assoc]
theorem L5:∀a b,Bv (a++b)=Bv a+Bv b
 | [],b=>by rw [E3,Bv,By]
 | e::r,b=>by rw [E8,Bv,Bv,L5 r b,L3]
theorem V3 (p:Expr→Bool):∀a b,Km p (a++b)=(Km p a&&Km p b)
 | [],b=>by rw [E3,Km,Fb]
 | e::r,b=>by rw [E8,Km,Km,V3 p r b,Bool.and_assoc]
theorem Qq:∀a b,Fp (a++b)=Fp a++Fp b
 | [],b=>rfl
 | e::r,b=>by rw [E8,Fp,Fp,Qq r b,Bp]
theorem V4 (l:List Expr) {x:Nat} (h:x<l.length):Ei (l.take (x+1))=max (Ei (l.take x)) (depthE l[x]):=by
 rw [Id h,Qp,Ei,Ei,Nat.max_zero]
theorem p8 (l:List Expr) {x:Nat} (h:x<l.length):Bv (l.take (x+1))=Bv (l.take x)+sizeE l[x]:=by
 rw [Id h,L5,Bv,Bv,Nat.add_zero]
theorem J7 (p:Expr→Bool):∀l:List Expr,Km p l=true↔∀y∈l,F7 p y=true
 | []=>by simp [Km]
 | e::r=>by rw [Km,Az,J7 p r];simp
mutual
theorem Gi:∀(d:Int) (e:Expr),(C4 d e).length=sizeE e
 | d,.mk o t v k=>by rw [C4,sizeE,B8,Xo (d+1) k,Nat.add_comm]
theorem Xo:∀(d:Int) (l:List Expr),(Bz d l).length=Bv l
  | d,[]=>rfl
  | d,e::r=>by rw [Bz,Bv,Ax,Gi d e,Xo d r]
 end
mutual
theorem Rl:∀(d:Int) (e:Expr),(C4 d e).map (·.2)=Kv e
 | d,.mk o t v k=>by rw [C4,Kv,Br,Xp (d+1) k]
theorem Xp:∀(d:Int) (l:List Expr),(Bz d l).map (·.2)=Fp l
  | d,[]=>rfl
  | d,e::r=>by rw [Bz,Fp,Bn,Rl d e,Xp d r]
 end
mutual
theorem b7 (p:Expr→Bool):∀e:Expr,(Kv e).all p=F7 p e
 | .mk o t v k=>by rw [Kv,F7,List.all_cons,Xq p k]
theorem Xq (p:Expr→Bool):∀l:List Expr,(Fp l).all p=Km p l
  | []=>rfl
  | e::r=>by rw [Fp,Km,List.all_append,b7 p e,Xq p r]
 end
theorem wg (p:Expr→Bool) (d:Int) (e:Expr):((C4 d e).all fun it=>p it.2)=F7 p e:=by
 rw [←b7 p e,←Rl d e,List.all_map]
 rfl
def G6 (m:Int) (L:List (Int×Expr)):Int:=L.foldl (fun m it=>max m it.1) m
mutual
theorem Xr:∀(d m:Int) (e:Expr),G6 m (C4 d e)=max m (d-1+depthE e)
 | d,m,.mk o t v k=>by
  rw [C4,depthE]
  show G6 (max m d) (Bz (d+1) k)=_
  rw [Xs (d+1) (max m d) k (by omega)]
  omega
theorem Xs:∀(d m:Int) (l:List Expr),d-1≤m→G6 m (Bz d l)=max m (d-1+Ei l)
  | d,m,[],h=>by
    rw [Bz,Ei]
    show m=_
    omega
  | d,m,e::r,h=>by
    rw [Bz,Ei]
    unfold G6
    rw [mj]
    show G6 (G6 m (C4 d e)) (Bz d r)=_
    rw [Xr d m e,Xs d _ r (by omega)]
    omega
 end
theorem V5 (e:Expr):G6 0 (C4 1 e)=depthE e:=by rw [Xr];omega
theorem jn:∀(L:List (Int×Expr)) (m b:Int),m≤b→(G6 m L≤b↔∀it∈L,it.1≤b)
 | [],m,b,h=>by simp [G6,h]
 | it::r,m,b,h=>by
  show G6 (max m it.1) r≤b↔_
  rcases Decidable.em (it.1≤b) with h1|h1
  ·rw [jn r (max m it.1) b (by omega)]
   simp [h1]
  constructor
  ·intro h2
   have:∀(r:List (Int×Expr)) (m:Int),m≤G6 m r:=by
    intro r
    induction r with
    | nil=>intro m;exact Int.le_refl _
    | cons a r ih=>intro m;have:=ih (max m a.1);show m≤G6 (max m a.1) r;omega
   have:=this r (max m it.1)
   omega
  intro h2
  exact absurd (h2 it (by simp)) h1
theorem ADu (e:Expr) {b:Nat}:(∀it∈C4 1 e,it.1≤(b:Int))↔depthE e≤b:=by
 rw [←jn (C4 1 e) 0 b (by omega),V5]
 omega
def B2 (e:Expr):Bool:=(decide (depthE e≤30)&&decide (sizeE e≤300))&&F7 E5 e
theorem D6 (e:Expr):Bc e=B2 e:=by
 have hpos:1≤sizeE e:=by rw [Lt];omega
 rw [Tg]
 unfold Bc B2
 rw [B1]
 simp only [Az,decide_eq_true_eq,Pv,Gi]
 rw [←ADu e,←wg E5 1 e,B1]
 constructor
 ·intro h
  have key:∀(k:Nat) (hk:k<(C4 1 e).length),E5 (C4 1 e)[k].2=true∧(C4 1 e)[k].1≤30∧(k:Int)+1≤300:=fun k hk=>by
   have:=h k (by rw [Gi] at hk;exact hk)
   rw [f6 (Ac hk)] at this
   simp only [Kq,Dn,Mh,decide_eq_false_iff_not] at this
   exact ⟨this.1.1,by have:=this.1.2;omega,by have:=this.2;omega⟩
  refine ⟨⟨fun it hit=>?_,?_⟩,fun it hit=>?_⟩
  ·obtain ⟨k,hk,rfl⟩:=Wd hit
   exact (key k hk).2.1
  ·have:=(key (sizeE e-1) (by rw [Gi];omega)).2.2
   omega
  obtain ⟨k,hk,rfl⟩:=Wd hit
  exact (key k hk).1
 rintro ⟨⟨h1,h2⟩,h3⟩ k hk
 have hk':k<(C4 1 e).length:=by rw [Gi];exact hk
 rw [f6 (Ac hk')]
 have a1:=h1 _ (As hk')
 have a3:=h3 _ (As hk')
 have a3':E5 (C4 1 e)[k].2=true:=a3
 rw [a3']
 simp only [Kq,Dn,Kr,decide_eq_false_iff_not]
 exact ⟨⟨trivial,by have:(C4 1 e)[k].1≤(30:Int):=a1;omega⟩,by omega⟩
/-- Its number is one of 64 bits. -/
def Lv (e:Expr):Bool:=decide (-9223372036854775808≤e.val.n)&&decide (e.val.n≤9223372036854775807)
/-! Names. -/
def Gj (l:List Str) (e:Expr):List Str:=if (e.op==2) && !l.contains e.text then l++[e.text] else l
def Cb (e:Expr):List Str:=(Kv e).foldl Gj []
def named (s:Str) (e:Expr):Bool:=(Kv e).any fun y=>(y.op==2)&&(y.text==s)
def H0 (s:Str) (l:List Expr):Bool:=(Fp l).any fun y=>(y.op==2)&&(y.text==s)
theorem Gq (s:Str) (e:Expr):named s e=(((e.op==2)&&(e.text==s)) || H0 s e.kids):=by unfold named H0;rw [b6,List.any_cons]
theorem Ew (s:Str) (e:Expr) (r:List Expr):H0 s (e::r)=(named s e || H0 s r):=by unfold named H0;rw [Fp,List.any_append]
theorem ADv (s:Str) (l:List Str) (e:Expr):s∈Gj l e↔s∈l∨((e.op==2)&&(e.text==s))=true:=by
 unfold Gj
 split
 ·rename_i h
  simp only [Az,beq_iff_eq] at h ⊢
  simp only [Ds,B3,Ed,or_false]
  constructor
  ·rintro (h1|h1)
   ·exact .inl h1
   exact .inr ⟨h.1,h1.symm⟩
  rintro (h1|h1)
  ·exact .inl h1
  exact .inr h1.2.symm
 rename_i h
 simp only [Az,beq_iff_eq,not_and,Kq,ma,R0] at h ⊢
 constructor
 ·exact .inl
 rintro (h1|⟨h1,rfl⟩)
 ·exact h1
 exact h h1
theorem jo (s:Str):∀(L:List Expr) (l:List Str),s∈L.foldl Gj l↔s∈l∨(L.any fun y=>(y.op==2)&&(y.text==s))=true
 | [],l=>by simp
 | e::r,l=>by
  rw [List.foldl_cons,jo s r,ADv,List.any_cons,Dg,or_assoc]
theorem U9 (s:Str) (e:Expr):(Cb e).contains s=named s e:=by
 rw [Tg,R0]
 unfold Cb named
 rw [jo]
 simp
theorem rt (l:List Str) (e:Expr):(Gj l e).length≤l.length+1:=by
 unfold Gj;split<;>simp
theorem jp:∀(L:List Expr) (l:List Str),(L.foldl Gj l).length≤l.length+L.length
 | [],l=>by simp
 | e::r,l=>by
  have h1:=jp r (Gj l e)
  have h2:=rt l e
  rw [List.foldl_cons,B8]
  omega
theorem wh (e:Expr):(Kv e).length=sizeE e:=by rw [←Rl 1 e,Ag,Gi]
mutual
def Ik (s:Str) (y:Expr):Expr→Expr
 | .mk o t v k=>if (o==2)&&(t==s) then y else .mk o t v (jq s y k)
def jq (s:Str) (y:Expr):List Expr→List Expr
  | []=>[]
  | e::r=>Ik s y e::jq s y r
 end
theorem jr (s:Str) (y:Expr):∀l,jq s y l=l.map (Ik s y)
 | []=>rfl
 | e::r=>by rw [jq,jr s y r];rfl
theorem ru (s:Str) (y e:Expr):Ik s y e=if (e.op==2)&&(e.text==s) then y else .mk e.op e.text e.val (e.kids.map (Ik s y)):=by
 cases e with
 | mk o t v k=>rw [Ik,jr];rfl
mutual
def eqE:Expr→Expr→Bool
 | .mk o t v k,.mk o' t' v' k'=>((((o==o')&&(t==t'))&&((v.kind==v'.kind&&v.n==v'.n)&&v.s==v'.s)))&&eqL k k'
def eqL:List Expr→List Expr→Bool
  | [],[]=>true
  | e::r,e'::r'=>eqE e e'&&eqL r r'
  | _,_=>false
 end
theorem AAu (x y:Expr):eqE x y=((((x.op==y.op)&&(x.text==y.text))&&((x.val.kind==y.val.kind&&x.val.n==y.val.n)&&x.val.s==y.val.s))&&eqL x.kids y.kids):=by
 cases x;cases y;rw [eqE];rfl
mutual
theorem fe:∀x y:Expr,eqE x y=true↔x=y
 | .mk o t v k,.mk o' t' v' k'=>by
  rw [eqE]
  simp only [Az,beq_iff_eq,Sr k k',Expr.mk.injEq]
  constructor
  ·rintro ⟨⟨⟨rfl,rfl⟩,⟨h1,h2⟩,h3⟩,rfl⟩
   refine ⟨rfl,rfl,?_,rfl⟩
   cases v;cases v'
   simp_all
  rintro ⟨rfl,rfl,rfl,rfl⟩
  exact ⟨⟨⟨rfl,rfl⟩,⟨rfl,rfl⟩,rfl⟩,rfl⟩
theorem Sr:∀x y:List Expr,eqL x y=true↔x=y
  | [],[]=>by simp [eqL]
  | [],e::r=>by simp [eqL]
  | e::r,[]=>by simp [eqL]
  | e::r,e'::r'=>by rw [eqL,Az,fe e e',Sr r r',Qz]
 end
theorem ADw:∀{x y:List Expr},eqL x y=true→x.length=y.length:=fun h=>by rw [(Sr _ _).1 h]
theorem Xt (x:Expr):eqE x x=true:=(fe x x).2 rfl
mutual
theorem put_none (s:Str) (y:Expr):∀x:Expr,named s x=false→Ik s y x=x
 | .mk o t v k,h=>by
  rw [Gq,Dn] at h
  have h1:((o==2)&&(t==s))=false:=h.1
  rw [Ik,if_neg (by rw [h1];simp),b8 s y k h.2]
theorem b8 (s:Str) (y:Expr):∀l:List Expr,H0 s l=false→jq s y l=l
  | [],h=>rfl
  | e::r,h=>by
    rw [Ew,Dn] at h
    rw [jq,put_none s y e h.1,b8 s y r h.2]
 end
/-! A node by itself, and marks. -/
theorem ff {of:Str} {ws:List Str} (h:of=Pd ws) (hp:∀w∈ws,(32:UInt8)∉w) (s:Str):Q7 s of=(!(s==[])&&ws.contains s):=by
 unfold Q7
 rw [jl]
 cases hb:s.contains 32 with
 | false =>
  have h2:(32:UInt8)∉s:=by simpa using hb
  rw [h,Lu s h2 ws hp,Th,Tf]
  congr 1
  rw [List.contains_eq_any_beq]
  congr 1
  funext w
  rw [Tg,beq_iff_eq,beq_iff_eq]
  exact eq_comm
 | true =>
  have h2:(32:UInt8)∈s:=by simpa using hb
  have h3:ws.contains s=false:=by
   rw [G7]
   intro h4
   exact hp s (by simpa using h4) h2
  rw [h3]
  simp
def levels:List (List Str):=[[[111,114]],[[97,110,100]],[],[[61],[33,61],[60],[60,61],[62],[62,61]],[[43],[45],[38]],[[42],[47],[37]]]
def Hn (s:Str):Int:=match levels.findIdx? (fun l=>l.contains s) with|some i=>i|none => -1
def Ua:List Str:=[[111,114],[],[97,110,100],[],[61],[33,61],[60],[60,61],[62],[62,61],[],[43],[45],[38],[],[42],[47],[37]]
theorem p9:Q8=Pd Ua:=by kernel_rfl
theorem js:∀w∈Ua,(32:UInt8)∉w:=by decide
theorem pc (s:Str):Q7 s Q8=decide (0≤Hn s):=by
 rw [ff p9 js s]
 have h1:decide (0≤Hn s)=levels.any (fun l=>l.contains s):=by
  unfold Hn
  cases h:levels.findIdx? (fun l=>l.contains s) with
  | some i =>
   have:levels.any (fun l=>l.contains s)=true:=by
    have:=Ll.1 h
    obtain ⟨hi,hp,_⟩:=this
    exact E7.2 ⟨_,As hi,hp⟩
   rw [this]
   simp
  | none =>
   have:=R3.1 h
   have e:levels.any (fun l=>l.contains s)=false:=by
    rw [Jq]
    intro l hl
    rw [this l hl]
    simp
   rw [e]
   rfl
 rw [h1]
 by_cases h0:s=[]
 ·subst h0;rfl
 have:(s==[])=false:=by simpa using h0
 rw [this,Th,Fb]
 simp [levels,Ua,h0,Bool.or_assoc]
def I7 (e:Expr):Bool:=
 if e.op==1 then ((Hm e.val&&decide (0≤e.val.n))&&(e.text==[]))&&((e.kids.length:Int)==0)
 else if !(N0 e.val) then false
 else if e.op==2 then Hl e.text&&((e.kids.length:Int)==0)
 else if e.op==3 || e.op==4 then (e.text==[])&&((e.kids.length:Int)==1)
 else if e.op==5 then decide (0≤Hn e.text)&&((e.kids.length:Int)==2)
 else if e.op==6 then Ci e.text==(e.kids.length:Int)
 else false
theorem jt (e:Expr):E5 e=I7 e:=by
 unfold E5 I7
 rw [pc,Eh]
 cases N0 e.val<;>simp
/-! What is wide. -/
def Ub (e:Expr):Bool:=((decide ((100:Int)<e.text.length) || decide ((400:Int)<e.val.s.length)) || decide ((100:Int)<e.kids.length))
/-- Among trees, when n have been seen: is one too much? -/
def Qr (l:List Expr) (n:Nat):Bool:=decide (500<n+l.length) || l.any Ub
def I8:Nat→List Expr→Nat→Bool
 | 0,l,n => !l.isEmpty
 | f+1,l,n=>if l.isEmpty then false else if Qr l n then true else if decide ((500:Int)<(l.flatMap Expr.kids).length) then true else I8 f (l.flatMap Expr.kids) (n+l.length)
theorem Nw:∀l:List Expr,Bv l=l.length+Bv (l.flatMap Expr.kids)
 | []=>rfl
 | e::r=>by
  rw [Bv,Lt,d8,L5,Nw r,B8]
  omega
theorem Xu {l:List Expr} {n:Nat} (h:Qr l n=false):n+l.length≤500∧∀e∈l,Ub e=false:=by
 unfold Qr at h
 simp only [Dn,decide_eq_false_iff_not,Jq,Ol] at h
 exact ⟨by omega,h.2⟩
theorem fg {e:Expr} (h:Ub e=false):e.text.length≤100∧e.val.s.length≤400∧e.kids.length≤100:=by
 unfold Ub at h
 simp only [Dn,decide_eq_false_iff_not] at h
 omega
theorem b9 {f:Nat} {l:List Expr} {n:Nat} (h:I8 (f+1) l n=false) (hl:l.isEmpty=false):Qr l n=false∧(l.flatMap Expr.kids).length≤500∧I8 f (l.flatMap Expr.kids) (n+l.length)=false:=by
 rw [I8,if_neg (by rw [hl];simp)] at h
 split at h
 ·cases h
 rename_i h1
 split at h
 ·cases h
 rename_i h2
 simp only [decide_eq_true_eq] at h2
 exact ⟨by simpa using h1,by omega,h⟩
theorem rx:∀(f:Nat) (l:List Expr) (n:Nat),I8 f l n=false→∀e∈l,okE f e∧F7 (fun y => !Ub y) e=true
 | 0,l,n,h,e,he=>by
  have:l=[]:=by simpa [I8] using h
  subst this
  cases he
 | f+1,l,n,h,e,he=>by
  have hl:l.isEmpty=false:=by cases l<;>simp_all
  obtain ⟨h1,h2,h3⟩:=b9 h hl
  have h4:=fg ((Xu h1).2 e he)
  have ih:=rx f _ _ h3
  have hk:∀y∈e.kids,okE f y∧F7 (fun y => !Ub y) y=true:=fun y hy=>ih y (List.mem_flatMap.2 ⟨e,he,hy⟩)
  refine ⟨⟨by omega,by omega,fun y hy=>(hk y hy).1⟩,?_⟩
  rw [Ht,(Xu h1).2 e he,(J7 _ _).2 fun y hy=>(hk y hy).2]
  rfl
theorem ba:∀(f:Nat) (l:List Expr) (n:Nat),n≤500→I8 f l n=false→n+Bv l≤500
 | 0,l,n,hn,h=>by
  have:l=[]:=by simpa [I8] using h
  subst this
  simpa [Bv] using hn
 | f+1,l,n,hn,h=>by
  by_cases hl:l.isEmpty=true
  ·have:l=[]:=by simpa using hl
   subst this
   simpa [Bv] using hn
  have hl':l.isEmpty=false:=by simpa using hl
  obtain ⟨h1,h2,h3⟩:=b9 h hl'
  have:=ba f _ _ (Xu h1).1 h3
  rw [Nw l]
  omega
def Pg (e:Expr):Bool:=I8 61 [e] 0
/-- A tree that is gone through. -/
structure Slim (e:Expr):Prop where
 ok:okE 61 e
 size:sizeE e≤500
 slim:F7 (fun y => !Ub y) e=true
theorem ry {e:Expr} (h:Pg e=false):Slim e:=by
 obtain ⟨h1,h2⟩:=rx _ _ _ h e (by simp)
 have:=ba _ _ _ (by decide) h
 exact ⟨h1,by simpa [Bv] using this,h2⟩
end Go.SX.Nb
namespace Go.Proofs.YtekiioamifokoaaGreatDoor
open Go Go.SX Go.SX.Nb Go.ChangeShapes Go.RowKit
set_option maxRecDepth 100000
theorem pe {ys:List AV} (h:∀(i:Nat) (y:AV),ys[i]? = some y→∃e:Nb.Expr,y=A7 e∧F7 Lv e=true):∃l:List Nb.Expr,ys=l.map A7∧Km Lv l=true:=by
 induction ys with
 | nil=>exact ⟨[],rfl,rfl⟩
 | cons y ys ih =>
  obtain ⟨e,rfl,he⟩:=h 0 y rfl
  obtain ⟨l,rfl,hl⟩:=ih (fun i z hz=>h (i+1) z hz)
  exact ⟨e::l,rfl,by rw [Km,he,hl];rfl⟩
theorem ADx {H:Type} [ErrAt] (d:DataW H) (y:AV) (h:DRep Tryz.prog 24 d y):∃v:Val,y=X4 v ∧ -9223372036854775808≤v.n∧v.n≤9223372036854775807:=by
 obtain ⟨ys,hn,rfl,hh⟩:=h.struct' oz Tryz.underlying24
 match ys,hn with
 | [y0,y1,y2],_ =>
  obtain ⟨d0,b0,h0⟩:=hh 0 _ y0 rfl rfl
  obtain ⟨d1,b1,h1⟩:=hh 1 _ y1 rfl rfl
  obtain ⟨d2,b2,h2⟩:=hh 2 _ y2 rfl rfl
  obtain ⟨k,rfl,rfl,_⟩:=h0.int' Tryz.underlying3
  obtain ⟨n,rfl,rfl,hn1,hn2⟩:=h1.int' Tryz.underlying2
  obtain ⟨s,rfl,rfl⟩:=h2.str' Tryz.underlying9
  exact ⟨⟨k,n,s⟩,rfl,hn1,hn2⟩
theorem ju {H:Type} [ErrAt] {t:TypeId} {d:DataW H} {y:AV} (h:DRep Tryz.prog t d y):(t=27→∃e:Nb.Expr,y=A7 e∧F7 Lv e=true)∧(t=25→∃l:List Nb.Expr,y=.slice false 6 (l.map A7)∧Km Lv l=true):=by
 induction h with
 | int hu _=>exact ⟨fun e=>(by subst e;rw [Tryz.underlying27] at hu;cases hu),fun e=>by subst e;rw [Tryz.underlying25] at hu;cases hu⟩
 | bool hu=>exact ⟨fun e=>(by subst e;rw [Tryz.underlying27] at hu;cases hu),fun e=>by subst e;rw [Tryz.underlying25] at hu;cases hu⟩
 | str hu=>exact ⟨fun e=>(by subst e;rw [Tryz.underlying27] at hu;cases hu),fun e=>by subst e;rw [Tryz.underlying25] at hu;cases hu⟩
 | nil hu =>
  refine ⟨fun e=>(by subst e;rw [Tryz.underlying27] at hu;cases hu),fun e=>?_⟩
  subst e
  rw [Tryz.underlying25] at hu
  injection hu with hu
  injection hu with hu
  subst hu
  exact ⟨[],by rw [show Tryz.prog.cellsOf 27=6 by kernel_rfl];rfl,rfl⟩
 | slice hu hn hh ih =>
  refine ⟨fun e=>(by subst e;rw [Tryz.underlying27] at hu;cases hu),fun e=>?_⟩
  subst e
  rw [Tryz.underlying25] at hu
  injection hu with hu
  injection hu with hu
  subst hu
  rename_i elems spare ys
  obtain ⟨l,rfl,hl⟩:=pe (ys:=ys) (fun i y hy=>by
   have hlt:i<elems.length:=by rw [←hn];exact (List.getElem?_eq_some_iff.1 hy).1
   exact (ih i elems[i] y (List.getElem?_eq_getElem hlt) hy).1 rfl)
  exact ⟨l,by rw [show Tryz.prog.cellsOf 27=6 by kernel_rfl],hl⟩
 | struct hu hn hn' hh ih =>
  refine ⟨fun e=>?_,fun e=>by subst e;rw [Tryz.underlying25] at hu;cases hu⟩
  subst e
  rw [Tryz.underlying27] at hu
  injection hu with hu
  injection hu with hu
  subst hu
  rename_i parts ys
  match parts,hn,ys,hn' with
  | [p0,p1,p2,p3],_,[y0,y1,y2,y3],_ =>
   obtain ⟨o,rfl,rfl,_⟩:=(hh 0 _ p0 y0 rfl rfl rfl).int' Tryz.underlying3
   obtain ⟨s,rfl,rfl⟩:=(hh 1 _ p1 y1 rfl rfl rfl).str' Tryz.underlying9
   obtain ⟨v,rfl,hv1,hv2⟩:=ADx p2 y2 (hh 2 _ p2 y2 rfl rfl rfl)
   obtain ⟨l,rfl,hl⟩:=(ih 3 _ p3 y3 rfl rfl rfl).2 rfl
   refine ⟨.mk o s v l,?_,?_⟩
   ·rw [Al];rfl
   rw [F7,hl,Bool.and_true]
   show (decide (-9223372036854775808≤v.n)&&decide (v.n≤9223372036854775807))=true
   simp [hv1,hv2]
theorem AAv {H:Type} [ErrAt] (d:DataW H) (y:AV) (h:DRep Tryz.prog 27 d y):∃e:Nb.Expr,y=A7 e∧F7 Lv e=true:=(ju h).1 rfl
end Go.Proofs.YtekiioamifokoaaGreatDoor
namespace Go.SX.Nb
open Go Go.SX Go.Proofs
variable [ErrAt]
set_option maxRecDepth 4000
/-- The lexer from a place between two words on. -/
def AO4 (f q:Nat) (s:Str):List (Tok×Int):=Jy f (q+gapM s) (s.drop (gapM s))
theorem jv {f q:Nat} {s:Str} (h:s≠[]):∃(n:Nat),Jy (f+1) q s=(⟨(Cp s).1,(Cp s).2.1,q⟩,(Cp s).2.2.2)::(if (Cp s).2.2.2=0 then AO4 f (q+n) (s.drop n) else [])∧((Cp s).2.2.2=0→(Cp s).2.2.1=(n:Int)∧1≤n∧n≤s.length):=by
 refine ⟨(Cp s).2.2.1.toNat,?_,fun he=>?_⟩
 ·rw [Pb h]
  simp only [beq_iff_eq]
  rfl
 obtain ⟨n,h1,h2,h3⟩:=rp (s:=s) (by cases s with|nil=>exact absurd rfl h|cons c r=>simp) he
 rw [h1]
 exact ⟨rfl,by simpa using h2,by simpa using h3⟩
/-! ### Gaps -/
/-! ### Words -/
theorem ADy {s:Str} (h:(Bu s).2.1=0):s.length≤4000∧(∀it∈Cm s,it.2=0)∧Bu s=((Cm s).map (·.1)++[⟨0,[],s.length⟩],0,0):=by
 unfold Bu at h ⊢
 split at h
 ·exact absurd h (show ¬(3:Int)=0 by decide)
 rename_i hl
 rw [if_neg hl]
 cases hf:(Cm s).find? (fun it=>it.2 != 0) with
 | some it =>
  rw [hf] at h
  have:=List.find?_some hf
  simp at this
  exact absurd h this
 | none =>
  rw [R2] at hf
  refine ⟨by omega,fun it hit=>by simpa using hf it hit,rfl⟩
def V6 (s:Str):Int:=if C8 1==s then 1 else if C8 2==s then 2 else if C8 3==s then 3 else 0
structure KindUpto (s:Str) (x:Nat):Prop where
 le:x≤3
 a:1≤x→(C8 1==s)=false
 b:2≤x→(C8 2==s)=false
 c:3≤x→(C8 3==s)=false
theorem ADz {s:Str} {x:Nat} (h:KindUpto s x) (hx:x<3) (e:(C8 ((x:Int)+1)==s)=true):V6 s=(x:Int)+1:=by
 have h3:x=0∨x=1∨x=2:=by omega
 unfold V6
 rcases h3 with rfl|rfl|rfl
 ·have e:(C8 1==s)=true:=e
  rw [if_pos e];rfl
 ·have e:(C8 2==s)=true:=e
  rw [if_neg (by rw [h.a (by omega)];simp),if_pos e];rfl
 have e:(C8 3==s)=true:=e
 rw [if_neg (by rw [h.a (by omega)];simp),if_neg (by rw [h.b (by omega)];simp),if_pos e];rfl
theorem AE0 {s:Str} {x:Nat} (h:KindUpto s x) (hx:x<3) (e:(C8 ((x:Int)+1)==s)=false):KindUpto s (x+1):=by
 have h3:x=0∨x=1∨x=2:=by omega
 rcases h3 with rfl|rfl|rfl
 ·exact ⟨by omega,fun _=>e,fun h=>by omega,fun h=>by omega⟩
 ·exact ⟨by omega,fun _=>h.a (by omega),fun _=>e,fun h=>by omega⟩
 exact ⟨by omega,fun _=>h.a (by omega),fun _=>h.b (by omega),fun _=>e⟩
theorem AE1 {s:Str} {x:Nat} (h:KindUpto s x) (hx:3≤x):V6 s=0:=by
 unfold V6
 rw [if_neg (by rw [h.a (by omega)];simp),if_neg (by rw [h.b (by omega)];simp),if_neg (by rw [h.c (by omega)];simp)]
theorem AO5 (s:Str) (Hp:List AObj):AFun Tryz.prog 254 [Ab s] Hp (A4 (V6 s)):=by
 refine Ah [.tmp 2] [0] Tryz.func254 Tryz.ntmps254 (fun d=>?_)
 refine nk ?_;refine Mn ?_
 refine Bg (α:=Nat) (fun x=>⟨13,A6 0 (Ab s) (A6 3 (A4 ((x:Nat)+1)) (fun _=>.any)),Hp,[],[],none⟩) (fun x=>KindUpto s x) (fun x=>3-x) (0) ⟨by omega,fun h=>by omega,fun h=>by omega,fun h=>by omega⟩ (Em _) rfl (fun x hx=>?_)
 refine Z7 ?_;refine A2 [0,3,5] ?_
 refine A3 (fun ht5=>?_) (fun ht5=>?_)
 ·have hx3:x<3:=by simp at ht5;omega
  refine Z35 ?_;refine Z2 ?_;refine Aa Tryz.call97 (c97 _ _) ?_;refine Z0 ?_;refine A2 [0,3,11] ?_
  refine A3 (fun ht11=>?_) (fun ht11=>?_)
  ·refine iz ?_;refine Z28 ?_;exact A9 (Aj A8) ⟨by rw [ADz hx hx3 (by simpa using ht11)],rfl⟩
  refine vf ?_;exact Au (x+1) (AE0 hx hx3 (by simpa using ht11)) (by omega) (Bk (by simp))
 have hx3:3≤x:=by simp at ht5;omega
 refine iy ?_;exact A9 (Aj A8) ⟨by rw [AE1 hx hx3],rfl⟩

def wi (c:UInt8):Str:=if c=39 then [39,39] else [c]
def Ss (t:Str):Str:=t.flatMap wi
theorem Uc (c:UInt8) (r:Str):Ss (c::r)=wi c++Ss r:=by unfold Ss;rw [d8]
theorem rz:∀s:Str,(Lib.index s [39] = -1∧Ss s=s)∨∃i:Nat,Lib.index s [39]=(i:Int)∧i<s.length∧Ss s=s.take i++[39,39]++Ss (s.drop (i+1))
 | []=>.inl ⟨rfl,rfl⟩
 | b::l=>by
  by_cases hb:b=39
  ·subst hb
   refine .inr ⟨0,by simp [Lib.index,List.isPrefixOf],by simp,?_⟩
   rw [Uc]
   simp [wi]
  have hp:([39]:Str).isPrefixOf (b::l)=false:=by
   simp [List.isPrefixOf,Ne.symm hb]
  have hd:Ss (b::l)=b::Ss l:=by
   rw [Uc,wi,if_neg hb]
   rfl
  rcases rz l with ⟨h1,h2⟩|⟨i,h1,h2,h3⟩
  ·refine .inl ⟨?_,by rw [hd,h2]⟩
   rw [Lib.index,hp,h1];rfl
  refine .inr ⟨i+1,?_,by simp;omega,?_⟩
  ·rw [Lib.index,hp,h1,if_neg (by simp),if_neg (by simp)]
   rfl
  rw [hd,h3]
  simp
theorem Su:∀(n:Nat) (s:Str),s.length≤n→Lib.replaceK [39] [39,39] (Lib.count s [39]) s=Ss s
 | n,s,hn=>by
  rcases rz s with ⟨h1,h2⟩|⟨i,h1,h2,h3⟩
  ·rw [Lib.count_miss h1,h2];rfl
  cases n with
  | zero=>omega
  | succ n =>
   rw [Lib.count_hit (by decide) h1,Nat.add_comm,Lib.replaceK_hit _ _ _ _ i h1]
   have e:i+([39]:Str).length=i+1:=rfl
   rw [e,Su n (s.drop (i+1)) (by rw [H4];omega),h3]
theorem jx (s:Str):Lib.replaceAll s [39] [39,39]=Ss s:=by
 unfold Lib.replaceAll Lib.replace
 rw [if_neg (by decide)]
 have e:Lib.replaceNum s [39] (-1)=Lib.count s [39]:=by unfold Lib.replaceNum;rw [if_pos (.inl (by decide))]
 rw [e]
 exact Su _ s (An _)
def s6 (t:Tok):Str:=if t.kind=4 then [39]++Ss t.text++[39] else t.text
theorem pg {q:Str} (h0:q.headD 0=39) (h1:1≤q.length) (h:(J5 q).2=0):[39]++Ss (J5 q).1.s++[39]=q:=by
 cases q with
 | nil=>simp at h1
 | cons c r =>
  have hc:c=39:=h0
  subst hc
  unfold J5 at h ⊢
  have n1:((39::r:Str)==[110,117,108,108])=false:=by rw [beq_eq_false_iff_ne];intro e;injection e with e;exact absurd e (by decide)
  have n2:((39::r:Str)==[116,114,117,101])=false:=by rw [beq_eq_false_iff_ne];intro e;injection e with e;exact absurd e (by decide)
  have n3:((39::r:Str)==[102,97,108,115,101])=false:=by rw [beq_eq_false_iff_ne];intro e;injection e with e;exact absurd e (by decide)
  rw [n1,n2,n3] at h ⊢
  simp only [Ay,if_false,Bool.or_self] at h ⊢
  by_cases hq:an (39::r)=true
  ·rw [if_pos hq] at h ⊢
   unfold ja at h ⊢
   split at h
   ·exact absurd h (show ¬(7:Int)=0 by decide)
   rename_i hp
   rw [if_neg hp]
   have hp':Mo (X8 (39::r))=39::r:=by simpa using hp
   have hk:(X8 (39::r)).kind=2:=rfl
   show [39]++Ss (X8 (39::r)).s++[39]=39::r
   generalize X8 (39::r)=v at hp' hk
   have hne:Mo v≠[]:=by rw [hp'];simp
   rw [←hp']
   unfold Mo at hne ⊢
   split at hne
   ·exact absurd rfl hne
   rename_i hpl
   rw [if_neg hpl,hk,if_neg (by decide),if_pos (by decide),jx]
  rw [if_neg hq] at h
  have hd:Lr (39::r)=true:=by
   unfold Lr
   have e:Uw (39::r)=39::r:=by
    rcases Ux (39::r) with ⟨_,h4⟩|⟨r',h3,_⟩
    ·exact h4
    injection h3 with h3;exact absurd h3 (by decide)
   rw [e]
   have:(Lib.trimS (39::r) digs==[])=false:=by
    rw [beq_eq_false_iff_ne]
    intro e
    rw [ai] at e
    exact absurd (e 39 (by simp)) (by decide)
   rw [this]
   simp
  have hn:Fi (39::r)=(0,6):=by unfold Fi;rw [if_pos hd]
  rw [hn] at h
  simp at h
theorem Zs (s:Str) (m:Nat):s.take (s.take m).length=s.take m:=by
 rw [Bx]
 rcases Nat.le_total m s.length with h|h
 ·rw [rc h]
 rw [Nat.min_eq_right h,Cu (An _),Cu h]
theorem Ph (s of:Str):s.take (E9 s of).length=E9 s of:=by
 unfold E9
 exact Zs s _
/-- What a word's print spells is what was read. -/
theorem ph {s:Str} {n p:Nat} (h0:1≤s.length) (he:(Cp s).2.2.2=0) (hn:(Cp s).2.2.1=(n:Int)):s6 ⟨(Cp s).1,(Cp s).2.1,p⟩=s.take n:=by
 cases s with
 | nil=>simp at h0
 | cons c r =>
  unfold Cp at he hn ⊢
  by_cases c1:decide (0<Sn ((c::r).take 1) letters)=true
  ·rw [if_pos c1] at he hn
   simp only [if_pos c1]
   unfold Rh at he hn ⊢
   by_cases r1:Hs (E9 (c::r) tails)=true
   ·rw [if_pos r1] at hn
    simp only [if_pos r1]
    have hn':(((E9 (c::r) tails).length:Nat):Int)=n:=hn
    have e:n=(E9 (c::r) tails).length:=by omega
    rw [e,Ph]
    rfl
   rw [if_neg r1] at he hn
   simp only [if_neg r1]
   by_cases r2:(!Cc (E9 (c::r) tails))=true
   ·rw [if_pos r2] at he;exact absurd he (show ¬(3:Int)=0 by decide)
   rw [if_neg r2] at hn
   simp only [if_neg r2]
   have hn':(((E9 (c::r) tails).length:Nat):Int)=n:=hn
   have e:n=(E9 (c::r) tails).length:=by omega
   rw [e,Ph]
   rfl
  rw [if_neg c1] at he hn
  simp only [if_neg c1]
  by_cases c2:decide (0<Sn ((c::r).take 1) digs)=true
  ·rw [if_pos c2] at he hn
   simp only [if_pos c2]
   have hn':(((E9 (c::r) digs).length:Nat):Int)=n:=hn
   have e:n=(E9 (c::r) digs).length:=by omega
   rw [e,Ph]
   rfl
  rw [if_neg c2] at he hn
  simp only [if_neg c2]
  by_cases c3:(((((c::r)).getD 0 0).toNat:Int)==39)=true
  ·rw [if_pos c3] at he hn
   simp only [if_pos c3]
   have hc:c=39:=by
    have c3':((c.toNat:Int)==39)=true:=c3
    exact Sa.1 (by have:(39:UInt8).toNat=39:=rfl;simp at c3';omega)
   unfold Mc at he hn ⊢
   cases hq:Dy ((c::r).drop 1) with
   | none=>rw [hq] at he;exact absurd he (show ¬(7:Int)=0 by decide)
   | some m =>
    rw [hq] at he hn
    simp only at he hn ⊢
    split at he
    ·exact absurd he (show ¬(3:Int)=0 by decide)
    rename_i hr
    rw [if_neg hr] at hn
    simp only [if_neg hr]
    have hm':(((m+1:Nat)):Int)=n:=hn
    have hm:n=m+1:=by omega
    subst hm
    have hr':(J5 ((c::r).take (m+1))).2=0:=by simpa using hr
    have:=pg (q:=(c::r).take (m+1)) (by rw [hc];rfl) (by simp) hr'
    unfold s6
    rw [if_pos rfl]
    exact this
  rw [if_neg c3] at he hn
  simp only [if_neg c3]
  unfold Xc at he hn ⊢
  split at hn
  ·rename_i h2
   simp only [if_pos h2]
   have hn':(2:Int)=n:=hn
   have:n=2:=by omega
   subst this
   rfl
  rename_i h2
  rw [if_neg h2] at he
  simp only [if_neg h2]
  split at hn
  ·rename_i h3
   simp only [if_pos h3]
   have hn':(1:Int)=n:=hn
   have:n=1:=by omega
   subst this
   rfl
  rename_i h3
  rw [if_neg h3] at he
  exact absurd he (show ¬(7:Int)=0 by decide)
theorem s7:∀t:Str,t.length≤(Ss t).length
 | []=>An _
 | c::r=>by
  have:=s7 r
  rw [Uc,Ax,B8]
  have h:1≤(wi c).length:=by unfold wi;split<;>simp
  omega
theorem AE2 (t:Tok):t.text.length≤(s6 t).length:=by
 unfold s6
 split
 ·have:=s7 t.text
  simp only [Ax,B8,Bq]
  omega
 exact An _
theorem Ud {n k:Nat} {o:Bool} {l:List Str} {z:Str}:Low n (.slice o k (l.map Ab++[Ab z])):=by
 refine .slice _ _ _ (fun y hy=>?_)
 rcases Ds.1 hy with hy|hy
 ·obtain ⟨a,_,rfl⟩:=Cj.1 hy
  intro z hz
  rw [Bh.1 (show z∈[Ab a] from hz)]
  exact .v _
 rw [Bh.1 hy]
 intro z' hz
 rw [Bh.1 (show z'∈[Ab z] from hz)]
 exact .v _
/-- Words with an end. -/
structure TokEnd (l:List Tok):Prop where
 split:∃L z,l=L++[z]∧z.kind=0∧∀t∈L,t.kind≠0
 texts:∀t∈l,t.text.length≤1048576
theorem TokEnd.pos {l:List Tok} (h:TokEnd l):1≤l.length:=by
 obtain ⟨L,z,rfl,_,_⟩:=h.split
 simp
theorem TokEnd.text {l:List Tok} (h:TokEnd l) (i:Nat):(Af l i).text.length≤1048576:=by
 unfold Af
 rcases C0 i l.length with hi|hi
 ·rw [Cq,Ac hi]
  exact h.texts _ (As hi)
 rw [Cq,Fv hi]
 exact Ao _
theorem AE3 (s:Str) (he:(Cp s).2.2.2=0):(Cp s).1≠0:=by
 revert he
 unfold Cp Rh ey Mc Xc
 repeat' split
 all_goals simp
theorem jy:∀(f q:Nat) (s:Str),(∀it∈Jy f q s,it.2=0)→∀it∈Jy f q s,it.1.kind≠0∧it.1.text.length≤s.length
 | 0,_,_,_,it,hm=>by cases hm
 | f+1,q,s,h,it,hm=>by
  by_cases hs:s=[]
  ·subst hs;cases hm
  obtain ⟨n,h1,h2⟩:=jv (f:=f) (q:=q) hs
  rw [h1] at hm h
  have h0:(Cp s).2.2.2=0:=h (⟨(Cp s).1,(Cp s).2.1,q⟩,(Cp s).2.2.2) (Iy ..)
  obtain ⟨hn,hn1,hn2⟩:=h2 h0
  rw [if_pos h0] at hm h
  rcases B3.1 hm with rfl|hm
  ·refine ⟨AE3 s h0,?_⟩
   have hs1:1≤s.length:=by cases s with|nil=>exact absurd rfl hs|cons c r=>simp
   have:=ph (p:=q) hs1 h0 hn
   have h3:=AE2 ⟨(Cp s).1,(Cp s).2.1,q⟩
   rw [this] at h3
   simp only [Bx] at h3
   show (Cp s).2.1.length≤s.length
   omega
  have:=jy f _ _ (fun it hit=>h it (K7 _ hit)) it hm
  simp only [H4] at this
  exact ⟨this.1,by omega⟩
theorem s8 {s:Str} (h:(Bu s).2.1=0):TokEnd (Bu s).1:=by
 by_cases h4:4000<s.length
 ·unfold Bu at h
  rw [if_pos h4] at h
  exact zv
 have e:Bu s=((Cm s).map (·.1)++[⟨0,[],s.length⟩],0,0)∧∀it∈Cm s,it.2=0:=by
  unfold Bu at h ⊢
  rw [if_neg h4] at h ⊢
  cases hf:(Cm s).find? (fun it=>it.2 != 0) with
  | none =>
   rw [R2] at hf
   exact ⟨rfl,fun it hit=>by simpa using hf it hit⟩
  | some it =>
   rw [hf] at h
   have:=List.find?_some hf
   simp only [bne_iff_ne] at this
   exact absurd h this
 obtain ⟨e,hz⟩:=e
 have hnz:=jy _ _ _ hz
 rw [e]
 refine ⟨⟨_,_,rfl,rfl,fun t ht=>?_⟩,fun t ht=>?_⟩
 ·obtain ⟨it,hit,rfl⟩:=Cj.1 ht
  exact (hnz it hit).1
 rcases Ds.1 ht with ht|ht
 ·obtain ⟨it,hit,rfl⟩:=Cj.1 ht
  have:=(hnz it hit).2
  simp only [H4] at this
  omega
 have e:t=⟨0,[],s.length⟩:=by simpa using ht
 subst e
 exact Ao _
/-- Where a parser of expressions stands: its word, its nest, its fault. -/
structure PS where
 i:Nat
 nest:Nat
 code:Int
 at_:Int
def noV:Val:=⟨0,0,[]⟩
def Aw:Expr:=.mk 0 [] noV []
def Ex (e a:Int) (S:PS):PS:=if S.code==0 then ⟨S.i,S.nest,e,a⟩ else S
def isM (l:List Tok) (of:Str) (S:PS):Bool:=(((Af l S.i).kind==5) || ((Af l S.i).kind==2))&&Q7 (Af l S.i).text of
def Aq (S:PS):PS:=⟨S.i+1,S.nest,S.code,S.at_⟩
def Dz (S:PS):PS:=⟨S.i,S.nest+1,S.code,S.at_⟩
def bb (S:PS):PS:=⟨S.i,S.nest-1,S.code,S.at_⟩
def Gr (l:List Tok) (s:Str) (S:PS):PS:=if S.code != 0 then S else if ((Af l S.i).kind != 5) || !((Af l S.i).text==s) then Ex 8 (Af l S.i).at_ S else Aq S
/-- What stands one nest deeper. -/
structure Fam where
 ei:PS→Expr×PS
 no:PS→Expr×PS
 ne:PS→Expr×PS
def Cz (a:Int) (f:PS→Expr×PS) (S:PS):Expr×PS:=if (S.nest:Int)==30 then (Aw,Ex 18 a S) else ((f (Dz S)).1,bb (f (Dz S)).2)
def Oh (t:Str) (x y:Expr):Expr:=.mk 5 t noV [x,y]
def jz (l:List Tok) (of:Str) (f:PS→Expr×PS):Nat→Expr×PS→Expr×PS
 | 0,r=>r
 | n+1,r=>if (r.2.code==0)&&isM l of r.2 then jz l of f n (Oh (Af l r.2.i).text r.1 (f (Aq r.2)).1,(f (Aq r.2)).2) else r
def Hz (l:List Tok) (of:Str) (f:PS→Expr×PS) (S:PS):Expr×PS:=jz l of f l.length (f S)
def Xv:Str:=[32,44,32]
def argsF (l:List Tok) (f:PS→Expr×PS):Nat→List Expr×PS→List Expr×PS
 | 0,r=>r
 | n+1,r=>if (r.2.code==0)&&isM l Xv r.2 then argsF l f n (r.1++[(f (Aq r.2)).1],(f (Aq r.2)).2) else r
def Jm (l:List Tok) (f:PS→Expr×PS) (S:PS):List Expr×PS:=argsF l f l.length ([(f S).1],(f S).2)
def V7 (l:List Tok) (a:Int) (f:PS→Expr×PS) (S:PS):List Expr×PS:=if (S.nest:Int)==30 then ([],Ex 18 a S) else ((Jm l f (Dz S)).1,bb (Jm l f (Dz S)).2)
def Gk:Str:=[41]
def Ea (l:List Tok) (D:Fam) (S:PS):List Expr×PS:=V7 l (Af l S.i).at_ D.ei (Aq S)
def Jn (l:List Tok) (D:Fam) (t:Tok) (S:PS):Expr×PS:=
 if Ci t.text<0 then (Aw,Ex 9 t.at_ S)
 else if ((Gr l Gk (Ea l D S).2).code==0) && !(((Ea l D S).1.length:Int)==Ci t.text) then (Aw,Ex 8 t.at_ (Gr l Gk (Ea l D S).2))
 else (.mk 6 t.text noV (Ea l D S).1,Gr l Gk (Ea l D S).2)
def orT:Str:=[32,111,114,32]
def AAw:Str:=[32,97,110,100,32]
def AHx:Str:=[32,110,111,116,32]
def AHy:Str:=[32,61,32,33,61,32,60,32,60,61,32,62,32,62,61,32]
def AAx:Str:=[32,43,32,45,32,38,32]
def k6:Str:=[32,42,32,47,32,37,32]
def AHz:Str:=[32,45,32]
def opT:Str:=[32,40,32]
def AI0:Str:=[32,116,114,117,101,32,102,97,108,115,101,32,110,117,108,108,32]
def Rm (v:Val):Expr:=.mk 1 [] v []
def I9 (l:List Tok) (D:Fam) (S:PS):Expr×PS:=
 if S.code != 0 then (Aw,S)
 else if ((Af l S.i).kind==3) || isM l AI0 S then (Rm (J5 (Af l S.i).text).1,Aq S)
 else if (Af l S.i).kind==4 then (Rm ⟨2,0,(Af l S.i).text.take 200⟩,Aq S)
 else if (Af l S.i).kind==1 then (if isM l opT (Aq S) then Jn l D (Af l S.i) (Aq S) else (Bo (Af l S.i).text,Aq S))
 else if isM l opT S then ((Cz (Af l S.i).at_ D.ei (Aq S)).1,Gr l Gk (Cz (Af l S.i).at_ D.ei (Aq S)).2)
 else (Aw,Ex 8 (Af l S.i).at_ S)
def N2 (op:Int) (x:Expr):Expr:=.mk op [] noV [x]
def Xw (l:List Tok) (D:Fam) (S:PS):Expr×PS:=if !isM l AHz S then I9 l D S else (N2 3 (Cz (Af l S.i).at_ D.ne (Aq S)).1,(Cz (Af l S.i).at_ D.ne (Aq S)).2)
def s9 (l:List Tok) (D:Fam):PS→Expr×PS:=Hz l k6 (Xw l D)
def Fj (l:List Tok) (D:Fam):PS→Expr×PS:=Hz l AAx (s9 l D)
def Ho (l:List Tok) (D:Fam) (S:PS):Expr×PS:=
 if ((Fj l D S).2.code != 0) || !isM l AHy (Fj l D S).2 then Fj l D S
 else (Oh (Af l (Fj l D S).2.i).text (Fj l D S).1 (Fj l D (Aq (Fj l D S).2)).1,(Fj l D (Aq (Fj l D S).2)).2)
def Xx (l:List Tok) (D:Fam) (S:PS):Expr×PS:=if !isM l AHx S then Ho l D S else (N2 4 (Cz (Af l S.i).at_ D.no (Aq S)).1,(Cz (Af l S.i).at_ D.no (Aq S)).2)
def sa (l:List Tok) (D:Fam):PS→Expr×PS:=Hz l AAw (Xx l D)
def fh (l:List Tok) (D:Fam):PS→Expr×PS:=Hz l orT (sa l D)
def Gs (l:List Tok):Nat→Fam
 | 0=>⟨fun S=>(Aw,S),fun S=>(Aw,S),fun S=>(Aw,S)⟩
 | d+1=>⟨fh l (Gs l d),Xx l (Gs l d),Xw l (Gs l d)⟩

/-! What is so of them. -/
theorem Fq:∀{n m:Nat},n≤m→∀{e:Expr},okE n e→okE m e
 | 0,_,_,_,h=>h.elim
 | n+1,0,h,_,_=>by omega
 | n+1,m+1,h,_,ho=>⟨ho.1,ho.2.1,fun y hy=>Fq (by omega) (ho.2.2 y hy)⟩
theorem Xy:sizeE Aw=1:=rfl
theorem wj (t:Str) (a b:Expr):sizeE (Oh t a b)=1+(sizeE a+(sizeE b+0)):=by rw [Oh,sizeE,Bv,Bv,Bv]
theorem wl (o:Int) (a:Expr):sizeE (N2 o a)=1+(sizeE a+0):=by rw [N2,sizeE,Bv,Bv]
theorem bc:∀a b:List Expr,Bv (a++b)=Bv a+Bv b
 | [],b=>by rw [E3,Bv,By]
 | e::r,b=>by rw [E8,Bv,Bv,bc r b,L3]
theorem Pi {n:Nat} (h:1≤n):okE n Aw:=Fq h ⟨by decide,by decide,fun y hy=>by cases hy⟩
theorem sb {n:Nat} (h:1≤n) (v:Val):okE n (Rm v):=Fq h ⟨by simp [Rm,Expr.text],by simp [Rm,Expr.kids],fun y hy=>by cases hy⟩
structure Fact (l:List Tok) (S:PS) (r:Expr×PS):Prop where
 le:S.i≤r.2.i
 lt:r.2.i<l.length
 nest:r.2.nest=S.nest
 ok:okE (2*(r.2.i-S.i)+1) r.1
 sz:sizeE r.1≤2*(r.2.i-S.i)+1
def Fd (l:List Tok) (n:Nat) (f:PS→Expr×PS):Prop:=∀S,S.i<l.length→S.nest=n→Fact l S (f S)
theorem TokEnd.step {l:List Tok} (h:TokEnd l) {i:Nat} (hi:i<l.length) (hk:(Af l i).kind≠0):i+1<l.length:=by
 obtain ⟨L,z,rfl,hz,_⟩:=h.split
 rcases C0 i L.length with h1|h1
 ·simp only [Ax,B8,Bq];omega
 have:i=L.length:=by simp only [Ax,B8,Bq] at hi;omega
 subst this
 exact absurd (by unfold Af;simpa using hz) hk
theorem AAy {l:List Tok} {of:Str} {S:PS} (h:isM l of S=true):(Af l S.i).kind≠0:=by
 unfold isM at h
 simp only [Az,Dg,beq_iff_eq] at h
 omega
theorem TokEnd.stepIs {l:List Tok} (h:TokEnd l) {of:Str} {S:PS} (hi:S.i<l.length) (hk:isM l of S=true):(Aq S).i<l.length:=h.step hi (AAy hk)
theorem failM_i {e a:Int} {S:PS}:(Ex e a S).i=S.i∧(Ex e a S).nest=S.nest:=by unfold Ex;split<;>exact ⟨rfl,rfl⟩
theorem sc {l:List Tok} (hl:TokEnd l) {s:Str} {S:PS} (hi:S.i<l.length):S.i≤(Gr l s S).i∧(Gr l s S).i<l.length∧(Gr l s S).nest=S.nest:=by
 unfold Gr
 split
 ·exact ⟨An _,hi,rfl⟩
 split
 ·rw [failM_i.1,failM_i.2];exact ⟨An _,hi,rfl⟩
 rename_i h
 simp only [Dg,bne_iff_ne,ne_eq,not_or,mb] at h
 have:=hl.step hi (by rw [h.1];decide)
 exact ⟨J0 _,this,rfl⟩
theorem Sv {l:List Tok} {S S0:PS} (h0:S0.i≤S.i) (h1:S.i<l.length) (h2:S.nest=S0.nest) (e a:Int):Fact l S0 (Aw,Ex e a S):=by
 refine ⟨?_,?_,?_,Pi (by omega),by rw [Xy];omega⟩
 ·show _≤(Ex e a S).i;rw [failM_i.1];exact h0
 ·show (Ex e a S).i<_;rw [failM_i.1];exact h1
 show (Ex e a S).nest=_;rw [failM_i.2];exact h2
/-- A state of a loop of marks. -/
structure LeftAt (l:List Tok) (of:Str) (f:PS→Expr×PS) (S:PS) (r:Expr×PS):Prop where
 fact:Fact l S r
 eq:∃n,l.length≤r.2.i+n∧Hz l of f S=jz l of f n r
theorem LeftAt.start {l:List Tok} {of:Str} {f:PS→Expr×PS} {S:PS} (h:Fact l S (f S)):LeftAt l of f S (f S):=⟨h,l.length,by omega,rfl⟩
theorem sd {l:List Tok} {S:PS} {r q:Expr×PS} (h:Fact l S r) (hq:Fact l (Aq r.2) q) (hl:TokEnd l):Fact l S (Oh (Af l r.2.i).text r.1 q.1,q.2):=by
 have h1:=h.le
 have h2:r.2.i+1≤q.2.i:=hq.le
 refine ⟨by show S.i≤q.2.i;omega,hq.lt,by show q.2.nest=S.nest;rw [hq.nest];exact h.nest,?_,?_⟩
 rotate_left
 ·have s1:=h.sz
  have s2:sizeE q.1≤2*(q.2.i-(r.2.i+1))+1:=hq.sz
  show sizeE (Oh _ r.1 q.1)≤2*(q.2.i-S.i)+1
  rw [wj]
  omega
 show okE (2*(q.2.i-S.i)+1) _
 refine ⟨hl.text _,by simp [Oh,Expr.kids],fun y hy=>?_⟩
 have hy':y=r.1∨y=q.1:=by simpa [Oh,Expr.kids] using hy
 rcases hy' with rfl|rfl
 ·exact Fq (by omega) h.ok
 exact Fq (by show 2*(q.2.i-(r.2.i+1))+1≤_;omega) hq.ok
theorem LeftAt.on {l:List Tok} {of:Str} {f:PS→Expr×PS} {S:PS} {r:Expr×PS} (hl:TokEnd l) (h:LeftAt l of f S r) (hc:((r.2.code==0)&&isM l of r.2)=true) (hf:Fd l S.nest f):(Aq r.2).i<l.length∧Fact l (Aq r.2) (f (Aq r.2))∧LeftAt l of f S (Oh (Af l r.2.i).text r.1 (f (Aq r.2)).1,(f (Aq r.2)).2):=by
 have hi:=hl.stepIs h.fact.lt (yi.1 hc).2
 have hq:=hf (Aq r.2) hi h.fact.nest
 obtain ⟨n,hn,e⟩:=h.eq
 have h1:=h.fact.lt
 have h2:r.2.i+1≤(f (Aq r.2)).2.i:=hq.le
 obtain ⟨m,rfl⟩:∃m,n=m+1:=⟨n-1,by omega⟩
 refine ⟨hi,hq,sd h.fact hq hl,m,by show l.length≤(f (Aq r.2)).2.i+m;omega,?_⟩
 rw [e,jz,if_pos hc]
theorem LeftAt.out {l:List Tok} {of:Str} {f:PS→Expr×PS} {S:PS} {r:Expr×PS} (h:LeftAt l of f S r) (hc:¬((r.2.code==0)&&isM l of r.2)=true):Hz l of f S=r:=by
 obtain ⟨n,hn,e⟩:=h.eq
 have h1:=h.fact.lt
 obtain ⟨m,rfl⟩:∃m,n=m+1:=⟨n-1,by omega⟩
 rw [e,jz,if_neg hc]
theorem k7 {l:List Tok} {of:Str} {f:PS→Expr×PS} {S:PS} (hl:TokEnd l) (hf:Fd l S.nest f):∀(k:Nat) (r:Expr×PS),l.length-r.2.i≤k→LeftAt l of f S r→Fact l S (Hz l of f S)
 | 0,r,hk,h=>by have:=h.fact.lt;omega
 | k+1,r,hk,h=>by
  by_cases hc:((r.2.code==0)&&isM l of r.2)=true
  ·obtain ⟨h1,h2,h3⟩:=h.on hl hc hf
   have h4:r.2.i+1≤(f (Aq r.2)).2.i:=h2.le
   exact k7 hl hf k _ (by show l.length-(f (Aq r.2)).2.i≤k;have:=h.fact.lt;omega) h3
  rw [h.out hc];exact h.fact
theorem Il {l:List Tok} {of:Str} {f:PS→Expr×PS} {n:Nat} (hl:TokEnd l) (hf:Fd l n f):Fd l n (Hz l of f):=fun S hi hn=>k7 hl (hn ▸ hf) l.length (f S) (by omega) (.start (hf S hi hn))
theorem L6 {l:List Tok} {f:PS→Expr×PS} {S:PS} (a:Int) (hi:S.i<l.length) (hf:S.nest≠30→Fd l (S.nest+1) f):Fact l S (Cz a f S):=by
 unfold Cz
 split
 ·exact Sv (An _) hi rfl _ _
 rename_i h
 have h30:S.nest≠30:=fun e=>h (by rw [e];rfl)
 have:=hf h30 (Dz S) hi rfl
 refine ⟨this.le,this.lt,?_,this.ok,this.sz⟩
 show (f (Dz S)).2.nest-1=S.nest
 rw [this.nest]
 rfl
/-- What is so of some kids. -/
structure KFact (l:List Tok) (S:PS) (r:List Expr×PS):Prop where
 le:S.i≤r.2.i
 lt:r.2.i<l.length
 nest:r.2.nest=S.nest
 len:r.1.length≤r.2.i-S.i+1
 ok:∀y∈r.1,okE (2*(r.2.i-S.i)+1) y
 sz:Bv r.1≤2*(r.2.i-S.i)+1
structure ArgsAt (l:List Tok) (f:PS→Expr×PS) (S:PS) (r:List Expr×PS):Prop where
 fact:KFact l S r
 eq:∃n,l.length≤r.2.i+n∧Jm l f S=argsF l f n r
theorem ArgsAt.start {l:List Tok} {f:PS→Expr×PS} {S:PS} (h:Fact l S (f S)):ArgsAt l f S ([(f S).1],(f S).2):=⟨⟨h.le,h.lt,h.nest,by simp,fun y hy=>by rw [Bh.1 hy];exact h.ok,by have:=h.sz;show sizeE (f S).1+0≤_;exact this⟩,l.length,by omega,rfl⟩
theorem ArgsAt.on {l:List Tok} {f:PS→Expr×PS} {S:PS} {r:List Expr×PS} (hl:TokEnd l) (h:ArgsAt l f S r) (hc:((r.2.code==0)&&isM l Xv r.2)=true) (hf:Fd l S.nest f):(Aq r.2).i<l.length∧Fact l (Aq r.2) (f (Aq r.2))∧ArgsAt l f S (r.1++[(f (Aq r.2)).1],(f (Aq r.2)).2):=by
 have hi:=hl.stepIs h.fact.lt (yi.1 hc).2
 have hq:=hf (Aq r.2) hi h.fact.nest
 obtain ⟨n,hn,e⟩:=h.eq
 have h1:=h.fact.lt
 have h0:=h.fact.le
 have h2:r.2.i+1≤(f (Aq r.2)).2.i:=hq.le
 obtain ⟨m,rfl⟩:∃m,n=m+1:=⟨n-1,by omega⟩
 refine ⟨hi,hq,⟨by show S.i≤(f (Aq r.2)).2.i;omega,hq.lt,by show (f (Aq r.2)).2.nest=_;rw [hq.nest];exact h.fact.nest,?_,fun y hy=>?_,?_⟩,m,by show l.length≤(f (Aq r.2)).2.i+m;omega,?_⟩
 ·have:=h.fact.len
  show (r.1++_).length≤(f (Aq r.2)).2.i-S.i+1
  simp only [Ax,B8,Bq]
  omega
 ·show okE (2*((f (Aq r.2)).2.i-S.i)+1) y
  rcases Ds.1 hy with hy|hy
  ·exact Fq (by omega) (h.fact.ok y hy)
  rw [Bh.1 hy]
  exact Fq (by show 2*((f (Aq r.2)).2.i-(r.2.i+1))+1≤_;omega) hq.ok
 ·have s1:=h.fact.sz
  have s2:sizeE (f (Aq r.2)).1≤2*((f (Aq r.2)).2.i-(r.2.i+1))+1:=hq.sz
  show Bv (r.1++[(f (Aq r.2)).1])≤2*((f (Aq r.2)).2.i-S.i)+1
  rw [bc,Bv,Bv]
  omega
 rw [e,argsF,if_pos hc]
theorem ArgsAt.out {l:List Tok} {f:PS→Expr×PS} {S:PS} {r:List Expr×PS} (h:ArgsAt l f S r) (hc:¬((r.2.code==0)&&isM l Xv r.2)=true):Jm l f S=r:=by
 obtain ⟨n,hn,e⟩:=h.eq
 have h1:=h.fact.lt
 obtain ⟨m,rfl⟩:∃m,n=m+1:=⟨n-1,by omega⟩
 rw [e,argsF,if_neg hc]
theorem k8 {l:List Tok} {f:PS→Expr×PS} {S:PS} (hl:TokEnd l) (hf:Fd l S.nest f):∀(k:Nat) (r:List Expr×PS),l.length-r.2.i≤k→ArgsAt l f S r→KFact l S (Jm l f S)
 | 0,r,hk,h=>by have:=h.fact.lt;omega
 | k+1,r,hk,h=>by
  by_cases hc:((r.2.code==0)&&isM l Xv r.2)=true
  ·obtain ⟨h1,h2,h3⟩:=h.on hl hc hf
   have h4:r.2.i+1≤(f (Aq r.2)).2.i:=h2.le
   exact k8 hl hf k _ (by show l.length-(f (Aq r.2)).2.i≤k;have:=h.fact.lt;omega) h3
  rw [h.out hc];exact h.fact
theorem Xz {l:List Tok} {f:PS→Expr×PS} {S:PS} (hl:TokEnd l) (hi:S.i<l.length) (hf:Fd l S.nest f):KFact l S (Jm l f S):=k8 hl hf l.length _ (by show l.length-(f S).2.i≤_;omega) (.start (hf S hi rfl))
theorem Y0 {l:List Tok} {f:PS→Expr×PS} {S:PS} (hl:TokEnd l) (a:Int) (hi:S.i<l.length) (hf:S.nest≠30→Fd l (S.nest+1) f):KFact l S (V7 l a f S):=by
 unfold V7
 split
 ·refine ⟨?_,?_,?_,by simp,fun y hy=>(by cases hy),by simp [Bv]⟩
  ·show _≤(Ex _ _ S).i;rw [failM_i.1];exact An _
  ·show (Ex _ _ S).i<_;rw [failM_i.1];exact hi
  show (Ex _ _ S).nest=_;rw [failM_i.2]
 rename_i h
 have h30:S.nest≠30:=fun e=>h (by rw [e];rfl)
 have:=Xz (S:=Dz S) hl hi (hf h30)
 refine ⟨this.le,this.lt,?_,this.len,this.ok,this.sz⟩
 show (Jm l f (Dz S)).2.nest-1=S.nest
 rw [this.nest]
 rfl
theorem pi {l:List Tok} {D:Fam} {S:PS} (hl:TokEnd l) (hll:l.length≤1048576) {t:Tok} (ht:t.text.length≤1048576) (hi:(Aq S).i<l.length) (hf:S.nest≠30→Fd l (S.nest+1) D.ei):Fact l S (Jn l D t S):=by
 have hk:KFact l (Aq S) (Ea l D S):=Y0 hl _ hi hf
 have h1:S.i+1≤(Ea l D S).2.i:=hk.le
 obtain ⟨w1,w2,w3⟩:=sc (s:=Gk) hl hk.lt
 unfold Jn
 split
 ·exact Sv (An _) (by show S.i<_;have:S.i+1<l.length:=hi;omega) rfl _ _
 split
 ·exact Sv (show S.i≤(Gr l Gk (Ea l D S).2).i by omega) w2 (w3.trans hk.nest) 8 t.at_
 refine ⟨by show S.i≤(Gr l Gk (Ea l D S).2).i;omega,w2,w3.trans hk.nest,?_,?_⟩
 rotate_left
 ·have s1:Bv (Ea l D S).1≤2*((Ea l D S).2.i-(S.i+1))+1:=hk.sz
  show sizeE (.mk 6 t.text noV (Ea l D S).1)≤2*((Gr l Gk (Ea l D S).2).i-S.i)+1
  rw [sizeE]
  omega
 show okE (2*((Gr l Gk (Ea l D S).2).i-S.i)+1) _
 refine ⟨ht,?_,fun y hy=>?_⟩
 ·have h5:(Ea l D S).1.length≤(Ea l D S).2.i-(Aq S).i+1:=hk.len
  have h6:=hk.lt
  show (Ea l D S).1.length≤1048576
  omega
 exact Fq (by show 2*((Ea l D S).2.i-(S.i+1))+1≤_;omega) (hk.ok y hy)
theorem pj {l:List Tok} {D:Fam} {n:Nat} (hl:TokEnd l) (hll:l.length≤1048576) (hf:n≠30→Fd l (n+1) D.ei):Fd l n (I9 l D):=by
 intro S hi hn
 subst hn
 unfold I9
 have leaf:∀e:Expr,okE 1 e→sizeE e=1→(Af l S.i).kind≠0→Fact l S (e,Aq S):=fun e he hs hk=>⟨J0 _,hl.step hi hk,rfl,Fq (by omega) he,by show sizeE e≤_;omega⟩
 split
 ·exact ⟨An _,hi,rfl,Pi (by omega),by show sizeE Aw≤_;rw [Xy];omega⟩
 split
 ·rename_i h
  refine leaf _ (sb (An _) _) rfl ?_
  rcases Bool.or_eq_true_iff.1 h with h|h
  ·rw [beq_iff_eq] at h;rw [h];decide
  exact AAy h
 split
 ·rename_i h
  rw [beq_iff_eq] at h
  exact leaf _ (sb (An _) _) rfl (by rw [h];decide)
 split
 ·rename_i h
  rw [beq_iff_eq] at h
  have hk:(Af l S.i).kind≠0:=by rw [h];decide
  split
  ·rename_i h2
   have hi1:(Aq S).i<l.length:=hl.step hi hk
   have:=pi (S:=Aq S) (D:=D) hl hll (hl.text S.i) (hl.stepIs hi1 h2) hf
   have h3:S.i+1≤(Jn l D (Af l S.i) (Aq S)).2.i:=this.le
   have h4:sizeE (Jn l D (Af l S.i) (Aq S)).1≤2*((Jn l D (Af l S.i) (Aq S)).2.i-(S.i+1))+1:=this.sz
   exact ⟨by omega,this.lt,this.nest,Fq (by show 2*((Jn l D (Af l S.i) (Aq S)).2.i-(S.i+1))+1≤_;omega) this.ok,by omega⟩
  exact leaf _ (jh _ (hl.text _)) rfl hk
 split
 ·rename_i h
  have hi1:(Aq S).i<l.length:=hl.stepIs hi h
  have:=L6 (S:=Aq S) (l:=l) (f:=D.ei) (Af l S.i).at_ hi1 hf
  obtain ⟨w1,w2,w3⟩:=sc (s:=Gk) hl this.lt
  have h3:S.i+1≤(Cz (Af l S.i).at_ D.ei (Aq S)).2.i:=this.le
  have h4:sizeE (Cz (Af l S.i).at_ D.ei (Aq S)).1≤2*((Cz (Af l S.i).at_ D.ei (Aq S)).2.i-(S.i+1))+1:=this.sz
  refine ⟨by show S.i≤(Gr l Gk _).i;omega,w2,w3.trans this.nest,Fq ?_ this.ok,by show sizeE (Cz (Af l S.i).at_ D.ei (Aq S)).1≤2*((Gr l Gk (Cz (Af l S.i).at_ D.ei (Aq S)).2).i-S.i)+1;omega⟩
  show 2*((Cz (Af l S.i).at_ D.ei (Aq S)).2.i-(S.i+1))+1≤2*((Gr l Gk (Cz (Af l S.i).at_ D.ei (Aq S)).2).i-S.i)+1
  omega
 exact Sv (An _) hi rfl _ _
theorem se {l:List Tok} {S:PS} {r:Expr×PS} (h:Fact l (Aq S) r) (op:Int):Fact l S (N2 op r.1,r.2):=by
 have h1:S.i+1≤r.2.i:=h.le
 refine ⟨by show S.i≤r.2.i;omega,h.lt,h.nest,?_,?_⟩
 rotate_left
 ·have s1:sizeE r.1≤2*(r.2.i-(S.i+1))+1:=h.sz
  show sizeE (N2 op r.1)≤2*(r.2.i-S.i)+1
  rw [wl]
  omega
 show okE (2*(r.2.i-S.i)+1) _
 refine ⟨by simp [N2,Expr.text],by simp [N2,Expr.kids],fun y hy=>?_⟩
 have hy':y=r.1:=by simpa [N2,Expr.kids] using hy
 subst hy'
 exact Fq (by show 2*(r.2.i-(S.i+1))+1≤_;omega) h.ok
theorem Ue {l:List Tok} {D:Fam} {n:Nat} (hl:TokEnd l) (hll:l.length≤1048576) (hf:n≠30→Fd l (n+1) D.ei) (hg:n≠30→Fd l (n+1) D.ne):Fd l n (Xw l D):=by
 intro S hi hn
 unfold Xw
 split
 ·exact pj hl hll hf S hi hn
 rename_i h
 subst hn
 exact se (L6 (S:=Aq S) _ (hl.stepIs hi (by simpa using h)) hg) 3
theorem be {l:List Tok} {D:Fam} {n:Nat} (hl:TokEnd l) (hll:l.length≤1048576) (hf:n≠30→Fd l (n+1) D.ei) (hg:n≠30→Fd l (n+1) D.ne):Fd l n (Fj l D):=Il hl (Il hl (Ue hl hll hf hg))
theorem Qs {l:List Tok} {D:Fam} {n:Nat} (hl:TokEnd l) (hll:l.length≤1048576) (hf:n≠30→Fd l (n+1) D.ei) (hg:n≠30→Fd l (n+1) D.ne):Fd l n (Ho l D):=by
 intro S hi hn
 have h1:=be hl hll hf hg S hi hn
 unfold Ho
 split
 ·exact h1
 rename_i h
 simp only [Dg,not_or,Ol,Mh] at h
 exact sd h1 (be hl hll hf hg _ (hl.stepIs h1.lt h.2) (h1.nest.trans hn)) hl
theorem bf {l:List Tok} {D:Fam} {n:Nat} (hl:TokEnd l) (hll:l.length≤1048576) (hf:n≠30→Fd l (n+1) D.ei) (hg:n≠30→Fd l (n+1) D.ne) (hh:n≠30→Fd l (n+1) D.no):Fd l n (Xx l D):=by
 intro S hi hn
 unfold Xx
 split
 ·exact Qs hl hll hf hg S hi hn
 rename_i h
 subst hn
 exact se (L6 (S:=Aq S) _ (hl.stepIs hi (by simpa using h)) hh) 4
theorem Uf {l:List Tok} (hl:TokEnd l) (hll:l.length≤1048576):∀(d n:Nat),n+d=31→n≠31→Fd l n (Gs l d).ei∧Fd l n (Gs l d).no∧Fd l n (Gs l d).ne
 | 0,n,h,h2=>by omega
 | d+1,n,h,_=>by
  have ih:n≠30→_:=fun h30=>Uf hl hll d (n+1) (by omega) (by omega)
  have hn:=bf (D:=Gs l d) (n:=n) hl hll (fun h=>(ih h).1) (fun h=>(ih h).2.2) (fun h=>(ih h).2.1)
  exact ⟨Il hl (Il hl hn),hn,Ue hl hll (fun h=>(ih h).1) (fun h=>(ih h).2.2)⟩
/-! What is printed of columns, word by word. -/
structure ColOk (x:Col):Prop where
 name:Cc x.name=true
 lo:1≤x.kind
 hi:x.kind≤3
set_option maxRecDepth 8000
theorem k9 (s:Str):s∈levels.flatten∨(Hn s = -1∧∀l∈levels,l.contains s=false):=by
 by_cases h:s∈levels.flatten
 ·exact .inl h
 have h2:∀l∈levels,l.contains s=false:=fun l hl=>by
  rw [G7]
  intro h3
  exact h (List.mem_flatten.2 ⟨l,hl,by simpa using h3⟩)
 refine .inr ⟨?_,h2⟩
 unfold Hn
 rw [R3.2 fun l hl=>h2 l hl]
theorem AE4 {v:Val} (h:N0 v=true):v=noV:=by
 unfold N0 at h
 simp only [Az,beq_iff_eq] at h
 cases v
 simp_all [noV]
/-- What a right node is. -/
inductive NodeC:Expr→Prop
 | val (v:Val) (h:Hm v=true) (h0:0≤v.n):NodeC (Rm v)
 | name (t:Str) (h:Hl t=true):NodeC (Bo t)
 | neg (a:Expr):NodeC (N2 3 a)
 | no (a:Expr):NodeC (N2 4 a)
 | bin (t:Str) (a b:Expr) (h:0≤Hn t):NodeC (Oh t a b)
 | call (t:Str) (k:List Expr) (h:Ci t=(k.length:Int)):NodeC (.mk 6 t noV k)
theorem pk (o:Int) (t:Str) (v:Val) (k:List Expr):I7 (.mk o t v k) =
 if o==1 then ((Hm v&&decide (0≤v.n))&&(t==[]))&&((k.length:Int)==0)
 else if !(N0 v) then false
 else if o==2 then Hl t&&((k.length:Int)==0)
 else if o==3 || o==4 then (t==[])&&((k.length:Int)==1)
 else if o==5 then decide (0≤Hn t)&&((k.length:Int)==2)
 else if o==6 then Ci t==(k.length:Int)
 else false:=rfl
theorem Nx {e:Expr} (h:E5 e=true):NodeC e:=by
 rw [jt] at h
 cases e with
 | mk o t v k =>
 rw [pk] at h
 by_cases h1:(o==1)=true
 ·rw [if_pos h1] at h
  simp only [Az,beq_iff_eq,decide_eq_true_eq] at h h1
  obtain ⟨⟨⟨a1,a2⟩,a3⟩,a4⟩:=h
  subst h1
  subst a3
  have:k=[]:=by cases k with|nil=>rfl|cons x r=>simp at a4;omega
  subst this
  exact .val v a1 a2
 rw [if_neg h1] at h
 by_cases hb:(!(N0 v))=true
 ·rw [if_pos hb] at h;cases h
 rw [if_neg hb] at h
 have hv:v=noV:=AE4 (by simpa using hb)
 subst hv
 by_cases h2:(o==2)=true
 ·rw [if_pos h2] at h
  simp only [Az,beq_iff_eq] at h h2
  subst h2
  have:k=[]:=by cases k with|nil=>rfl|cons x r=>have:=h.2;simp at this;omega
  subst this
  exact .name t h.1
 rw [if_neg h2] at h
 by_cases h3:(o==3 || o==4)=true
 ·rw [if_pos h3] at h
  simp only [Az,Dg,beq_iff_eq] at h h3
  obtain ⟨rfl,h4⟩:=h
  match k,h4 with
  | [a],_ =>
   rcases h3 with rfl|rfl
   ·exact .neg a
   exact .no a
  | [],h4=>simp at h4
  | _::_::_,h4=>simp at h4;omega
 rw [if_neg h3] at h
 by_cases h5:(o==5)=true
 ·rw [if_pos h5] at h
  simp only [Az,beq_iff_eq,decide_eq_true_eq] at h h5
  subst h5
  match k,h.2 with
  | [a,b],_=>exact .bin t a b h.1
  | [],h4=>simp at h4
  | [_],h4=>simp at h4
  | _::_::_::_,h4=>simp at h4;omega
 rw [if_neg h5] at h
 by_cases h6:(o==6)=true
 ·rw [if_pos h6] at h
  simp only [beq_iff_eq] at h h6
  subst h6
  exact .call t k h
 rw [if_neg h6] at h;cases h
/-! The parser from a word on, and of a source. -/
def atS (l:List Tok) (i:Nat) (r:Expr×PS):PS:=if r.2.code != 0 then r.2 else if decide ((30:Int)<depthE r.1) then Ex 18 (Af l i).at_ r.2 else if decide ((300:Int)<sizeE r.1) then Ex 3 (Af l i).at_ r.2 else r.2
def atR (l:List Tok) (i:Nat):Expr×PS:=fh l (Gs l 30) ⟨i,0,0,0⟩
/-- The tree, the word behind it, the fault. -/
def atM (l:List Tok) (i:Nat):Expr×Int×Int×Int:=if (atS l i (atR l i)).code != 0 then (Aw,0,(atS l i (atR l i)).code,(atS l i (atR l i)).at_) else ((atR l i).1,((atS l i (atR l i)).i:Int),0,0)
set_option maxRecDepth 4000
/-! What is printed of a schema is read. -/
/-- What goes together: names of their own. -/
theorem ka {c:List Col} (h:F8 c=true):(∀y∈c,ColOk y)∧(c.map (·.name)).Nodup:=by
 rw [colsM_true] at h
 have hat:∀(j:Nat) (y:Col),c[j]? = some y→Hl y.name=true∧1≤y.kind∧y.kind≤3∧At y.name c=(j:Int):=by
  intro j y hj
  have:=h j y hj
  unfold Sm at this
  simp only [Kq,Dn,Mh,decide_eq_false_iff_not,bne_eq_false_iff_eq] at this
  obtain ⟨⟨⟨h1,h2⟩,h3⟩,h4⟩:=this
  exact ⟨h1,by omega,by omega,h4⟩
 refine ⟨fun y hy=>?_,?_⟩
 ·obtain ⟨j,hj⟩:=C9 hy
  obtain ⟨h1,h2,h3,_⟩:=hat j y hj
  exact ⟨by rw [Eh];exact h1,h2,h3⟩
 show List.Pairwise _ _
 rw [Vu]
 intro i j hi hj hij e
 simp only [Ag] at hi hj
 simp only [Oo] at e
 have e1:=(hat i c[i] (Ac hi)).2.2.2
 have e2:=(hat j c[j] (Ac hj)).2.2.2
 rw [e] at e1
 omega
theorem Pj {c:List Col} (h:Xl c=true):c.length≤12∧(∀y∈c,ColOk y)∧(c.map (·.name)).Nodup:=by
 rw [J6] at h
 unfold Cx at h
 rw [Az] at h
 obtain ⟨h1,h2⟩:=h
 have:=of_decide_eq_true h1
 exact ⟨by omega,ka h2⟩
theorem sg {c:List Col} (h:Ls c=false):OkCols c:=by
 unfold Ls at h
 simp only [Dn,decide_eq_false_iff_not,Jq,decide_eq_true_eq] at h
 refine ⟨by omega,fun y hy=>?_⟩
 have:=h.2 y hy
 omega
def I5 {α:Type} [BEq α] (v:α) (l:List α):Int:=match l.findIdx? (·==v) with|some i=>i|none => -1
theorem pl {α:Type} [BEq α] [LawfulBEq α] {v:α} {l:List α} {x:Nat} (h:x<l.length) (h1:l[x]=v) (h2:∀(j:Nat) (y:α),j<x→l[j]? = some y→¬(y=v)):I5 v l=x:=by
 have:l.findIdx? (·==v)=some x:=by
  rw [Ll]
  exact ⟨h,by simpa using h1,fun j hj=>by simpa using h2 j l[j] hj (Ac _)⟩
 simp [I5,this]
theorem AAz {α:Type} [BEq α] [LawfulBEq α] {v:α} {l:List α} (h:∀(j:Nat) (y:α),l[j]? = some y→¬(y=v)):I5 v l = -1:=by
 have:l.findIdx? (·==v)=none:=by
  rw [R3]
  intro y hy
  obtain ⟨j,hj⟩:=C9 hy
  simpa using h j y hj
 simp [I5,this]
theorem sh {α:Type} [BEq α] [LawfulBEq α] (v:α) (l:List α):decide (0≤I5 v l)=l.contains v:=by
 unfold I5
 cases h:l.findIdx? (·==v) with
 | none =>
  rw [R3] at h
  have:l.contains v=false:=by
   rw [G7]
   intro hc
   have:=h v (by simpa using hc)
   simp at this
  rw [this];rfl
 | some i =>
  rw [Ll] at h
  obtain ⟨hi,e,_⟩:=h
  have:l.contains v=true:=by
   have:l[i]=v:=by simpa using e
   rw [←this]
   simp
  rw [this]
  simp only [decide_eq_true_eq]
  omega
theorem c82 (l:List Str) (v:Str) (hl:l.length≤1048576) (Hp:List AObj):AFun Tryz.prog 82 [E4 l,Ab v] Hp (A4 (I5 v l)):=by
 refine Ah [.tmp 4] [0,1] Tryz.func82 Tryz.ntmps82 (fun d=>?_)
 refine iw ?_
 refine Bg (α:=Nat) (fun x=>⟨19,A6 0 (E4 l) (A6 1 (Ab v) (A6 7 (A4 l.length) (A6 8 (A4 (x:Nat)) (fun _=>.any)))),Hp,[],[],none⟩) (fun x=>x≤l.length∧∀(j:Nat) (y:Str),j<x→l[j]? = some y→¬(y=v)) (fun x=>l.length-x) (0) (by simp) (B4 (by simp)) rfl (fun x hx=>?_)
 refine ik ?_
 refine E2 (fun ht9=>?_) (fun ht9=>?_)
 ·have hlt:x<l.length:=by simpa using ht9
  refine iv ?_
  refine A5 (h:=Ad (x) (Ab l[x]) (fun _=>Ar hlt)) (hr:=?_)
  refine Z0 ?_;refine j6 ?_
  refine A3 (fun ht16=>?_) (fun ht16=>?_)
  ·refine ip ?_;refine Z28 ?_;exact A9 (Aj A8) ⟨by rw [pl hlt (by simpa using (Eq.symm (by simpa using ht16):l[x]=v)) hx.2],rfl⟩
  refine Ra ?_;refine A2 [0,1,7,8] ?_;exact Au (x+1) ⟨hlt,Bw hlt hx.2 (fun e=>by rw [e] at ht16;simp at ht16)⟩ (by omega) (Bk rfl)
 refine Wz ?_;refine Z20 ?_;exact A9 (Aj A8) ⟨by rw [AAz (Kl (by simp at ht9;omega) hx.2)],rfl⟩

theorem c95 (l:List Str) (v:Str) (hl:l.length≤1048576) (Hp:List AObj):AFun Tryz.prog 95 [E4 l,Ab v] Hp (B0 (l.contains v)):=by
 refine Ah [.tmp 4] [0,1] Tryz.func95 Tryz.ntmps95 (fun d=>?_)
 refine j4 ?_;refine Aa Tryz.call82 (c82 l v hl _) ?_;refine Z0 ?_;refine Z20 ?_;exact A9 (Aj A8) ⟨by rw [sh],rfl⟩

theorem wm {n k:Nat} {o:Bool} {l:List Col} {z:Col}:Low n (.slice o k (l.map Bl++[Bl z])):=by
 refine .slice _ _ _ (fun y hy=>?_)
 have key:∀c:Col,∀w∈(Bl c).cells,Low n w:=by
  intro c w hw
  have hw':w∈[AV.v (sv c.name),AV.v (.int .i64 c.kind)]:=hw
  simp only [B3,Ed,or_false] at hw'
  rcases hw' with rfl|rfl
  ·exact .v _
  exact .v _
 rcases Ds.1 hy with hy|hy
 ·obtain ⟨a,_,rfl⟩:=Cj.1 hy
  exact key a
 rw [Bh.1 hy]
 exact key z
def Hu (c:List Col) (take:List Str) (j:Nat) (nm:Str):Bool := !(decide (At nm c<0) || (I5 nm take != (j:Int)))
def Gl (c:List Col) (take:List Str):Bool:=take.zipIdx.all fun x=>Hu c take x.2 x.1
theorem takenM_true {c:List Col} {take:List Str}:Gl c take=true↔∀(j:Nat) (y:Str),take[j]? = some y→Hu c take j y=true:=Rf
def J8 (c:List Col) (x:Nat) (y:Col):Bool := !((!Hl y.name) || (At y.name c != (x:Int)))
def Im (c:List Col):Bool:=c.zipIdx.all fun x=>J8 c x.2 x.1
theorem namedC_true {c:List Col}:Im c=true↔∀(j:Nat) (y:Col),c[j]? = some y→J8 c j y=true:=Rf
def Cd (c:List Col) (take:List Str):List Col:=c.filter fun y => !take.contains y.name
theorem si {c:List Col} {take:List Str} {k:Nat} {y:Col} (h:c[k]? = some y) (hn:take.contains y.name=false):Cd (c.take (k+1)) take=Cd (c.take k) take++[y]:=by
 unfold Cd
 have e:c.take (k+1)=c.take k++[y]:=by rw [Vx,h];rfl
 have hm:¬y.name∈take:=by simpa using hn
 rw [e,List.filter_append]
 simp [R1,hm]
theorem bg {c:List Col} {take:List Str} {k:Nat} {y:Col} (h:c[k]? = some y) (hn:take.contains y.name=true):Cd (c.take (k+1)) take=Cd (c.take k) take:=by
 unfold Cd
 have e:c.take (k+1)=c.take k++[y]:=by rw [Vx,h];rfl
 have hm:y.name∈take:=by simpa using hn
 rw [e,List.filter_append]
 simp [R1,hm]
theorem F1 (c:List Col) (take:List Str):(Cd c take).length≤c.length:=List.length_filter_le _ _
def D9 (c:List Col) (take:List Str) (give:List Col):List Col×Int:=
 if Cx c=false then ([],1) else if Gl c take=false then ([],9) else if Im (Cd c take++give)=false then ([],9)
 else if F8 (Cd c take++give)=false then ([],10) else if 12<(Cd c take++give).length then ([],3) else (Cd c take++give,0)
theorem AB0 {c:List Col} {take:List Str} {give:List Col} (h:Cx c=false):D9 c take give=([],1):=by unfold D9;rw [if_pos h]
theorem pm {c:List Col} {take:List Str} {give:List Col} (h:Cx c=true) (h2:Gl c take=false):D9 c take give=([],9):=by unfold D9;rw [if_neg (by rw [h];simp),if_pos h2]
theorem pq {c:List Col} {take:List Str} {give out:List Col} (h:Cx c=true) (h2:Gl c take=true) (ho:Cd c take++give=out) (h3:Im out=false):D9 c take give=([],9):=by
 unfold D9;rw [ho,if_neg (by rw [h];simp),if_neg (by rw [h2];simp),if_pos h3]
theorem pt {c:List Col} {take:List Str} {give out:List Col} (h:Cx c=true) (h2:Gl c take=true) (ho:Cd c take++give=out) (h3:Im out=true) (h4:F8 out=false):D9 c take give=([],10):=by
 unfold D9;rw [ho,if_neg (by rw [h];simp),if_neg (by rw [h2];simp),if_neg (by rw [h3];simp),if_pos h4]
theorem pu {c:List Col} {take:List Str} {give out:List Col} (h:Cx c=true) (h2:Gl c take=true) (ho:Cd c take++give=out) (h3:Im out=true) (h4:F8 out=true) (h5:12<out.length):D9 c take give=([],3):=by
 unfold D9;rw [ho,if_neg (by rw [h];simp),if_neg (by rw [h2];simp),if_neg (by rw [h3];simp),if_neg (by rw [h4];simp),if_pos h5]
theorem pv {c:List Col} {take:List Str} {give out:List Col} (h:Cx c=true) (h2:Gl c take=true) (ho:Cd c take++give=out) (h3:Im out=true) (h4:F8 out=true) (h5:¬12<out.length):D9 c take give=(out,0):=by
 unfold D9;rw [ho,if_neg (by rw [h];simp),if_neg (by rw [h2];simp),if_neg (by rw [h3];simp),if_neg (by rw [h4];simp),if_neg h5]
theorem N3 {c:List Col} (h:Cx c=true):c.length≤12:=by
 unfold Cx at h
 simp at h
 omega
theorem pw {c give:List Col} {take:List Str} {out:List Col} (hc:OkCols c) (h:Cx c=true) (hg:OkCols give) (hg2:give.length≤1000000) (ho:Cd c take++give=out):OkCols out:=by
 subst ho
 have h1:=F1 c take
 have h2:=N3 h
 refine ⟨by simp only [Ax];omega,fun y hy=>?_⟩
 rcases Ds.1 hy with hy|hy
 ·exact hc.2 y ((Vr.1 hy).1)
 exact hg.2 y hy
theorem AO6 (c:List Col) (hc:OkCols c) (take:List Str) (ht:take.length≤1048576) (Hp:List AObj):AFun Tryz.prog 210 [Ai c,E4 take] Hp (B0 (Gl c take)):=by
 refine Ah [.tmp 4] [0,1] Tryz.func210 Tryz.ntmps210 (fun d=>?_)
 refine Z48 ?_;refine Z30 ?_;refine A2 [0,1,7,8,9] ?_
 refine Bg (α:=Nat) (fun x=>⟨26,A6 0 (Ai c) (A6 1 (E4 take) (A6 7 (E4 take) (A6 8 (A4 take.length) (A6 9 (A4 (x:Nat)) (fun _=>.any))))),Hp,[],[],none⟩) (fun x=>x≤take.length∧∀(j:Nat) (y:Str),j<x→take[j]? = some y→Hu c take j y=true) (fun x=>take.length-x) (0) (by simp) (B4 (by simp)) rfl (fun x hx=>?_)
 refine Z2 ?_;refine A2 [0,1,7,8,9,10] ?_
 refine E2 (fun ht10=>?_) (fun ht10=>?_)
 ·have hlt:x<take.length:=by simpa using ht10
  refine X1 ?_
  refine A5 (h:=Ad (x) (Ab take[x]) (fun _=>Ar hlt)) (hr:=?_)
  refine Z8 ?_;refine A2 [0,1,5,6,7,8,9] ?_;refine Z1 ?_;refine Aa Tryz.call60 (c60 c hc _ _) ?_;refine Z21 ?_;refine Bm Tryz.call82 (fun hB=>c82 take _ ht _) ?_;refine eh ?_;refine A2 [0,1,7,8,9,24] ?_
  refine A3 (fun ht24=>?_) (fun ht24=>?_)
  ·refine Z2 ?_;refine Z20 ?_;refine Z28 ?_
   exact A9 (Aj A8) ⟨by rw [show Gl c take=false from G7.2 fun h=>by have:=takenM_true.1 h x take[x] (Ac hlt);unfold Hu at this;rw [ht24] at this;cases this],rfl⟩
  refine Ra ?_;refine A2 [0,1,7,8,9] ?_;exact Au (x+1) ⟨hlt,Ij hlt hx.2 (by unfold Hu;rw [ht24];rfl)⟩ (by omega) (Bk rfl)
 refine Wz ?_;refine Z20 ?_;exact A9 (Aj A8) ⟨by rw [takenM_true.2 (Lf (by simp at ht10;omega) hx.2)],rfl⟩

theorem AO7 (c:List Col) (hc:OkCols c) (Hp:List AObj):AFun Tryz.prog 212 [Ai c] Hp (B0 (Im c)):=by
 refine Ah [.tmp 2] [0] Tryz.func212 Tryz.ntmps212 (fun d=>?_)
 refine nl ?_;refine A2 [0,5,6,7] ?_
 refine Bg (α:=Nat) (fun x=>⟨25,A6 0 (Ai c) (A6 5 (Ai c) (A6 6 (A4 c.length) (A6 7 (A4 (x:Nat)) (fun _=>.any)))),Hp,[],[],none⟩) (fun x=>x≤c.length∧∀(j:Nat) (y:Col),j<x→c[j]? = some y→J8 c j y=true) (fun x=>c.length-x) (0) (by simp) (B4 (by simp)) rfl (fun x hx=>?_)
 refine Z2 ?_;refine A2 [0,5,6,7,8] ?_
 refine E2 (fun ht8=>?_) (fun ht8=>?_)
 ·have hlt:x<c.length:=by simpa using ht8
  have hcl:=hc.len
  refine X1 ?_
  refine A5 (h:=Ad (x) (Bl c[x]) (fun _=>Ar hlt)) (hr:=?_)
  refine A5 ?_;refine iq ?_;refine A2 [0,3,4,5,6,7] ?_;refine Z1 ?_;refine Aa Tryz.call105 (AAa _ (hc.names _ (As hlt)) _) ?_;refine Z67 ?_;refine Bm Tryz.call60 (fun hB=>c60 c hc _ _) ?_;refine eh ?_;refine A2 [0,5,6,7,23] ?_
  refine A3 (fun ht23=>?_) (fun ht23=>?_)
  ·rw [Eh] at ht23
   refine Zi ?_
   exact A9 (Aj A8) ⟨by rw [show Im c=false from G7.2 fun h=>by have:=namedC_true.1 h x c[x] (Ac hlt);unfold J8 at this;rw [ht23] at this;cases this],rfl⟩
  rw [Eh] at ht23
  refine Ra ?_;refine A2 [0,5,6,7] ?_
  refine Au (x+1) ⟨hlt,Ij hlt hx.2 (by unfold J8;rw [ht23];rfl)⟩ (by omega) ?_
  exact Di (own:=[]) (fun _=>.refl _) (by repeat (first|exact Bt|refine Bs (by simp [or_imp,forall_and]) ?_)) (by simp) (by simp)
 refine Z17 ?_;refine Z18 ?_;exact A9 (Aj A8) ⟨by rw [namedC_true.2 (Lf (by simp at ht8;omega) hx.2)],rfl⟩

theorem AO8 (c:List Col) (take:List Str) (Hp:List AObj):AFun Tryz.prog 211 [Ai c,E4 take] Hp (.fn (.func 239) [] [.ro [Ai c],.ro [E4 take]]):=by
 refine Ah [.tmp 4] [0,1] Tryz.func211 Tryz.ntmps211 (fun d=>?_)
 refine zm ?_;refine zt ?_;exact ACv

theorem AO9 (l:Nat) (c:List Col) (take:List Str) (hc:c.length≤1048576) (ht:take.length≤1048576) (U:Nat→List AObj) (hlen:∀k,(U k).length=(U 0).length) (hll:l<(U 0).length)
  (hlw:∀k,∀x∈U k,ObjLow (U 0).length x) (hn:∀k y,c[k]? = some y→take.contains y.name=true→U (k+1)=U k)
  (hy:∀k y X,c[k]? = some y→take.contains y.name=false→AYield Tryz.prog l [Bl y] (U k++X) (fun b H'=>b=true∧H'=U (k+1)++X)):ACall Tryz.prog 239 [.yield l,.ro [Ai c],.ro [E4 take]] (U 0) (fun _ H'=>H'=U c.length):=by
 refine Ah [] [0,1,2] Tryz.func239 Tryz.ntmps239 (fun d=>?_)
 refine Z16 ?_;refine A2 [0,2,6,7,8] ?_
 refine Bg (α:=Nat) (fun x=>⟨24,A6 0 (.yield l) (A6 2 (.ro [E4 take]) (A6 6 (Ai c) (A6 7 (A4 c.length) (A6 8 (A4 (x:Nat)) (fun _=>.any))))),U x,[],[],none⟩) (fun x=>x≤c.length) (fun x=>c.length-x) (0) (Ao _) (B4 (by simp)) rfl (fun x hx=>?_)
 refine Z2 ?_;refine A2 [0,2,6,7,8,9] ?_
 refine E2 (fun ht9=>?_) (fun ht9=>?_)
 ·have hlt:x<c.length:=by simpa using ht9
  refine Tt ?_
  refine A5 (h:=Ad (x) (Bl c[x]) (fun _=>Ar hlt)) (hr:=?_)
  refine Si ?_;refine A2 [0,2,5,6,7,8] ?_;refine Z16 ?_;refine Aa Tryz.call95 (c95 take _ ht _) ?_;refine Z21 ?_
  refine G.yield (l:=l) (C:=((!take.contains c[x].name)==true)) (args:=[Bl c[x]]) (fun hC=>hy x c[x] _ (Ac hlt) (by simpa using hC)) ?_
  intro b V O hV hb hb0
  have hVO:V=U (x+1)∧O=[AObj.cells 69 [Ab c[x].name,A4 c[x].kind]]∧(take.contains c[x].name=false→b=true):=by
   cases hcn:take.contains c[x].name with
   | true =>
    obtain ⟨h1,h2⟩:=hb0 (by rw [hcn];rfl)
    exact ⟨h1.trans (hn x c[x] (Ac hlt) hcn).symm,h2,fun e=>by cases e⟩
   | false =>
    obtain ⟨h1,h2⟩:=hb (by rw [hcn];rfl)
    have h3:=Qy h2 (by rw [hV,hlen x,hlen (x+1)])
    exact ⟨h3.1,h3.2,fun _=>h1⟩
  obtain ⟨rfl,rfl,hbt⟩:=hVO
  refine ⟨fun _=>by rw [hlen (x+1)];exact hlw (x+1),fun o ho=>(by cases ho),?_⟩
  refine Z80 ?_;refine A2 [0,2,6,7,8,22] ?_
  refine A3 (fun ht22=>?_) (fun ht22=>?_)
  ·exfalso
   have hcf:take.contains c[x].name=false:=by simp at ht22 ⊢;exact ht22.1
   rw [hbt hcf] at ht22
   simp at ht22
  refine Ra ?_;refine A2 [0,2,6,7,8] ?_;refine Au (x+1) hlt (by omega) ?_
  exact Di (own:=[]) (fun _=>.refl _) (by repeat (first|exact Bt|refine Bs (by first|(simp [or_imp,forall_and];done)|(have:=hlen (x+1);simp;omega)) ?_)) (by simp) (by simp)
 have hxe:x=c.length:=by simp at ht9;omega
 exact AKs

theorem kb {c:List Col} {take:List Str} {x:Nat} (hlt:x<take.length) (h:Hu c take x take[x]=false):Gl c take=false:=
 G7.2 fun h'=>by rw [takenM_true.1 h' x take[x] (Ac hlt)] at h;cases h
theorem px {α:Type} [BEq α] [LawfulBEq α] {v:α} {l:List α} {k x:Nat} (hlk:k<l.length) (hkx:k<x) (h:l[k]=v):(I5 v l != (x:Int))=true:=by
 rw [bne_iff_ne]
 intro e
 unfold I5 at e
 cases hf:l.findIdx? (·==v) with
 | none=>rw [hf] at e;exact absurd (show (-1:Int)=(x:Int) from e) (by omega)
 | some i =>
  rw [hf] at e
  have hix:i=x:=by simp at e;omega
  subst hix
  rw [Ll] at hf
  obtain ⟨_,_,h3⟩:=hf
  have:=h3 k hkx
  rw [h] at this
  simp at this
theorem AB1 {α:Type} {p:α→Bool} {l:List α} {x:Nat} (h:x<l.length):(l.take (x+1)).all p=((l.take x).all p&&p l[x]):=by
 have e:l.take (x+1)=l.take x++[l[x]]:=by rw [Vx,Ac h];rfl
 rw [e,List.all_append]
 simp
theorem AI1 (l:List Str) (n:Str):(l.all fun t => !(t==n)) = !l.contains n:=by
 induction l with
 | nil=>rfl
 | cons x r ih =>
  rw [List.all_cons,ih,List.contains_cons,Bool.not_or]
  congr 2
  exact Bool.beq_comm ..
def Rn (y:Col):Bool := !(decide (y.kind<1) || decide ((3:Int)<y.kind))
theorem kc (c:List Col) (j:Nat) (y:Col):Sm c j y=(J8 c j y&&Rn y):=by
 unfold Sm J8 Rn
 cases Hl y.name<;>cases decide (y.kind<1)<;>cases decide ((3:Int)<y.kind)<;>cases (At y.name c != (j:Int))<;>rfl
theorem py {c:List Col} (h:Im c=true) (hk:∀(j:Nat) (y:Col),c[j]? = some y→Rn y=true):F8 c=true:=
 colsM_true.2 fun j y hj=>by rw [kc,namedC_true.1 h j y hj,hk j y hj];rfl
theorem fj {c:List Col} {x:Nat} (hlt:x<c.length) (hk:Rn c[x]=false):F8 c=false:=
 G7.2 fun h=>by have:=colsM_true.1 h x c[x] (Ac hlt);rw [kc,hk,Bool.and_false] at this;cases this
theorem AB2 {c:List Col} {x:Nat} (hlt:x<c.length) (hk:J8 c x c[x]=false):Im c=false:=
 G7.2 fun h=>by rw [namedC_true.1 h x c[x] (Ac hlt)] at hk;cases hk
theorem c85 (c:List Col) (hc:OkCols c) (take:List Str) (ht:take.length≤1048576) (give:List Col) (hg:OkCols give) (hg2:give.length≤1000000) (Hp:List AObj):AFun Tryz.prog 85 [Ai c,E4 take,Ai give] Hp (.tup [Ai (D9 c take give).1,A4 (D9 c take give).2]):=by
 refine Ah [.tmp 6,.tmp 7] [0,1,2] Tryz.func85 Tryz.ntmps85 (fun d=>?_)
 refine Z1 ?_;refine en ?_;refine Z25 ?_;refine Aa Tryz.call36 (c36 c hc _) ?_;refine A5 ?_;refine A2 [0,1,2,18] ?_
 refine A3 (fun ht18=>?_) (fun ht18=>?_)
 ·have hr:Cx c=false:=by simpa using ht18
  refine Wx ?_;exact AJx
 have hr:Cx c=true:=by simpa using ht18
 refine Mw ?_;refine A2 [0,1,2,8] ?_
 refine Bg (α:=Nat) (fun x=>⟨131,A6 0 (Ai c) (A6 1 (E4 take) (A6 2 (Ai give) (A6 8 (A4 (x:Nat)) (fun _=>.any)))),Hp,[],[],none⟩) (fun x=>x≤take.length∧∀(j:Nat) (y:Str),j<x→take[j]? = some y→Hu c take j y=true) (fun x=>take.length-x) (0) (by simp) (Em _) rfl (fun x hx=>?_)
 refine Z46 ?_;refine A2 [0,1,2,8,22] ?_
 refine A3 (fun ht22=>?_) (fun ht22=>?_)
 ·have hlt:x<take.length:=by simpa using ht22
  refine Z35 ?_;refine Z30 ?_
  refine A5 (h:=Ad (x) (Ab take[x]) (fun _=>Ar hlt)) (hr:=?_)
  refine A5 ?_;refine Aa Tryz.call41 (c41 c hc _ _) ?_;refine A5 ?_;refine A2 [0,1,2,8,31] ?_
  refine A3 (fun ht31=>?_) (fun ht31=>?_)
  ·have hkn:Gl c take=false:=kb hlt (by unfold Hu;rw [ht31];rfl)
   refine Wx ?_;refine Z76 ?_;exact AJt
  refine Of ?_;refine A2 [0,1,2,8,9] ?_
  refine Bg (α:=Nat) (fun k=>⟨131,A6 0 (Ai c) (A6 1 (E4 take) (A6 2 (Ai give) (A6 8 (A4 (x:Nat)) (A6 9 (A4 (k:Nat)) (fun _=>.any))))),Hp,[],[],none⟩) (fun k=>k≤x∧∀(j:Nat) (y:Str),j<k→take[j]? = some y→¬(y=take[x])) (fun k=>x-k) (0) (by simp) (Em _) rfl (fun k hk=>?_)
  refine Z30 ?_;refine A2 [0,1,2,8,9,34] ?_
  refine A3 (fun ht34=>?_) (fun ht34=>?_)
  ·have hkx:k<x:=by simpa using ht34
   have hlk:k<take.length:=by omega
   refine Z35 ?_;refine Er [0,0,3,7,0,0,48,112,255] 8 Ap (by kernel_rfl) ?_;refine Z10 ?_
   refine Av (h:=Ad (k) (Ab take[k]) (fun _=>Ar hlk)) (hr:=?_)
   refine Z37 ?_
   refine Av (h:=Ad (x) (Ab take[x]) (fun _=>Ar hlt)) (hr:=?_)
   refine Av ?_;refine ee ?_;refine A2 [0,1,2,8,9,45] ?_
   refine A3 (fun ht45=>?_) (fun ht45=>?_)
   ·have hkn:Gl c take=false:=kb hlt (by unfold Hu;rw [px hlk hkx (by simpa using ht45)];simp)
    refine Wx ?_;refine Z26 ?_;refine Z64 ?_;refine Lp ?_;exact AJt
   refine Z68 ?_;refine A2 [0,1,2,8,9] ?_;exact Au (k+1) ⟨hkx,Bw (l:=take) hlk hk.2 (by simpa using ht45)⟩ (by omega) (Bk rfl)
  have hkx:k=x:=by simp at ht34;omega
  have htk:Hu c take x take[x]=true:=by
   unfold Hu
   rw [ht31,pl hlt rfl (fun j y hj=>hk.2 j y (by omega))]
   simp
  refine nj ?_;refine Z87 ?_;refine A2 [0,1,2,8] ?_;exact Au (x+1) ⟨hlt,Ij hlt hx.2 htk⟩ (by omega) (Bk rfl)
 have hk0:Gl c take=true:=takenM_true.2 (Lf (by simp at ht22;omega) hx.2)
 refine Z36 ?_;refine Zh ?_;refine A2 [0,1,2,10] ?_;refine Z25 ?_;refine A2 [0,1,2,10,11] ?_
 refine Bg (α:=Nat) (fun i=>⟨131,A6 0 (Ai c) (A6 1 (E4 take) (A6 2 (Ai give) (A6 10 (.slice true 2 ((Cd (c.take i) take).map Bl)) (A6 11 (A4 (i:Nat)) (fun _=>.any))))),Hp,[],[],none⟩) (fun i=>i≤c.length) (fun i=>c.length-i) (0) (Ao _) (B4 (by simp [Cd])) rfl (fun i hi=>?_)
 refine Z46 ?_;refine A2 [0,1,2,10,11,50] ?_
 refine A3 (fun ht50=>?_) (fun ht50=>?_)
 ·have hli:i<c.length:=by simpa using ht50
  have hcl:=hc.len
  refine Z35 ?_;refine Z2 ?_;refine A2 [0,1,2,10,11,12] ?_;refine Z25 ?_;refine A2 [0,1,2,10,11,12,13] ?_
  refine Bg (α:=Nat) (fun m=>⟨131,A6 0 (Ai c) (A6 1 (E4 take) (A6 2 (Ai give) (A6 10 (.slice true 2 ((Cd (c.take i) take).map Bl)) (A6 11 (A4 (i:Nat)) (A6 12 (B0 ((take.take m).all fun t => !(t==c[i].name))) (A6 13 (A4 (m:Nat)) (fun _=>.any))))))),Hp,[],[],none⟩) (fun m=>m≤take.length) (fun m=>take.length-m) (0) (Ao _) (Em _) rfl (fun m hm=>?_)
  refine Z46 ?_;refine A2 [0,1,2,10,11,12,13,56] ?_
  refine A3 (fun ht56=>?_) (fun ht56=>?_)
  ·have hlm:m<take.length:=by simpa using ht56
   refine Z35 ?_;refine Wv [0,1,3,3,15,31,3,3,195,451,963,2047,4095,8191] 11 Ap (by kernel_rfl) ?_;refine Z10 ?_;refine Z85 ?_
   refine H.go (h:=Ad (m) (Ab take[m]) (fun _=>Ar hlm)) (hr:=?_)
   refine iu ?_
   refine H.go (h:=Ad (i) (Bl c[i]) (fun _=>Ar hli)) (hr:=?_)
   refine Z85 ?_;refine zr ?_;refine Z0 ?_;refine A2 [0,1,2,10,11,12,13] ?_;refine Z87 ?_;refine A2 [0,1,2,10,11,12,13] ?_;exact Au (m+1) hlm (by omega) (Bk (by rw [AB1 hlm];rfl))
  have hme:take.take m=take:=Cu (by simp at ht56;omega)
  rw [hme,AI1]
  refine Zk ?_;refine A2 [0,1,2,10,11,72] ?_
  refine A3 (fun ht72=>?_) (fun ht72=>?_)
  ·have hst:=si (take:=take) (Ac hli) (by simpa using ht72)
   refine Z83 ?_;refine Z0 ?_
   refine A5 (h:=Ad (i) (Bl c[i]) (fun _=>Ar hli)) (hr:=?_)
   refine Z55 ?_
   refine D5 jU Tryz.type69 ?_ ?_ ?_
   ·have h1:=F1 (c.take i) take;have h2:=hc.len;simp only [Bx] at h1;simp [Tryz.t69];omega
   ·have h1:=F1 (c.take i) take;have h2:=hc.len;simp only [Bx] at h1;simp [Tryz.t69];omega
   refine Kk ?_;refine A2 [0,1,2,10,11] ?_;refine Z87 ?_;exact AJh
  have hst:=bg (take:=take) (Ac hli) (by simpa using ht72)
  refine Z68 ?_;exact AJh
 have hie:c.take i=c:=Cu (by simp at ht50;omega)
 rw [hie]
 refine Z36 ?_;refine Ef ?_;refine R.moveT ?_;refine A5 ?_
 refine D5 jU Tryz.type69 ?_ ?_ ?_
 ·have h1:=F1 c take;have h2:=N3 hr;simp [Tryz.t69];omega
 ·have h1:=F1 c take;have h2:=N3 hr;simp [Tryz.t69];omega
 refine Kk ?_;refine A2 [10] ?_;refine Z53 ?_
 have e10:(Cd c take).map Bl++give.map Bl=(Cd c take++give).map Bl:=(Bn ..).symm
 rw [e10]
 generalize hout:Cd c take++give=out
 have ho:OkCols out:=pw hc hr hg hg2 hout
 have hol:=ho.len
 refine A5 ?_;refine A2 [10,14] ?_
 refine Bg (α:=Nat) (fun a=>⟨131,A6 10 (.slice true 2 (out.map Bl)) (A6 14 (A4 (a:Nat)) (fun _=>.any)),Hp,[],[],none⟩) (fun a=>a≤out.length∧∀(j:Nat) (y:Col),j<a→out[j]? = some y→J8 out j y=true) (fun a=>out.length-a) (0) (by simp) (Em _) rfl (fun a ha=>?_)
 refine Z46 ?_;refine A2 [10,14,86] ?_
 refine A3 (fun ht86=>?_) (fun ht86=>?_)
 ·have hla:a<out.length:=by simpa using ht86
  refine Sk ?_
  refine A5 (h:=Ad (a) (Bl out[a]) (fun _=>Ar hla)) (hr:=?_)
  refine Z0 ?_;refine Aa Tryz.call86 (c86 _ (ho.names _ (As hla)) _) ?_;refine Z67 ?_
  refine B7 (h:=Ad (a) (Bl out[a]) (fun _=>Ar hla)) (hr:=?_)
  refine Z5 ?_;refine Bm Tryz.call41 (fun hB=>c41 out ho _ _) ?_;refine eh ?_;refine A2 [10,14,106] ?_
  refine A3 (fun ht106=>?_) (fun ht106=>?_)
  ·have hn:Im out=false:=AB2 hla (by unfold J8;rw [ht106];rfl)
   refine Wx ?_;refine ef ?_;refine Z28 ?_;exact A9 (B9 A8 A8) ⟨by rw [pq hr hk0 hout hn];try rfl,rfl⟩
  refine Z68 ?_;refine A2 [10,14] ?_;exact Au (a+1) ⟨hla,Ij hla ha.2 (by unfold J8;rw [ht106];rfl)⟩ (by omega) (Bk rfl)
 have hn:Im out=true:=namedC_true.2 (Lf (by simp at ht86;omega) ha.2)
 refine ix ?_;refine A2 [10,15] ?_
 refine Bg (α:=Nat) (fun b=>⟨131,A6 10 (.slice true 2 (out.map Bl)) (A6 15 (A4 (b:Nat)) (fun _=>.any)),Hp,[],[],none⟩) (fun b=>b≤out.length∧∀(j:Nat) (y:Col),j<b→out[j]? = some y→Rn y=true) (fun b=>out.length-b) (0) (by simp) (Em _) rfl (fun b hb=>?_)
 refine Z46 ?_;refine A2 [10,15,110] ?_
 refine A3 (fun ht110=>?_) (fun ht110=>?_)
 ·have hlb:b<out.length:=by simpa using ht110
  refine Sk ?_
  refine A5 (h:=Ad (b) (Bl out[b]) (fun _=>Ar hlb)) (hr:=?_)
  refine Z0 ?_;refine Z21 ?_
  refine B7 (h:=Ad (b) (Bl out[b]) (fun _=>Ar hlb)) (hr:=?_)
  refine Z5 ?_;refine Z80 ?_;refine A2 [10,15,126] ?_
  refine A3 (fun ht126=>?_) (fun ht126=>?_)
  ·have hq:F8 out=false:=fj hlb (by unfold Rn;rw [ht126];rfl)
   refine Wx ?_;refine ef ?_;refine Z28 ?_;exact A9 (B9 A8 A8) ⟨by rw [pt hr hk0 hout hn hq];try rfl,rfl⟩
  refine Z68 ?_;refine A2 [10,15] ?_;exact Au (b+1) ⟨hlb,Bw hlb hb.2 (by unfold Rn;rw [ht126];rfl)⟩ (by omega) (Bk rfl)
 have hq:F8 out=true:=py hn (Kl (by simp at ht110;omega) hb.2)
 refine Z36 ?_;refine Z30 ?_;refine A2 [10,129] ?_
 refine A3 (fun ht129=>?_) (fun ht129=>?_)
 ·have h12:12<out.length:=by simp at ht129;omega
  refine Wx ?_;refine Z76 ?_;exact A9 (B9 A8 A8) ⟨by rw [pu hr hk0 hout hn hq h12];try rfl,rfl⟩
 have h12:¬12<out.length:=by simp at ht129;omega
 refine Rc ?_;refine A2 [6,7] ?_;refine El ?_;exact A9 (B9 A8 A8) ⟨by rw [pv hr hk0 hout hn hq h12];try rfl,rfl⟩

/-! What went and came, taken back: the same columns. -/
theorem AB3 {α β:Type} {f:α→β} {c:List α} (h:(c.map f).Nodup) {i j:Nat} {y z:α} (hi:c[i]? = some y) (hj:c[j]? = some z) (e:f y=f z):i=j:=by
 obtain ⟨hi',ei⟩:=Ae.1 hi
 obtain ⟨hj',ej⟩:=Ae.1 hj
 have h':List.Pairwise (·≠·) (c.map f):=h
 rw [Vu] at h'
 rcases Nat.lt_trichotomy i j with hlt|rfl|hlt
 ·have h2:=h' i j (by simpa using hi') (by simpa using hj') hlt
  rw [Oo,Oo,ei,ej] at h2
  exact absurd e h2
 ·rfl
 have h2:=h' j i (by simpa using hj') (by simpa using hi') hlt
 rw [Oo,Oo,ei,ej] at h2
 exact absurd e.symm h2
theorem Ro {c:List Col} (h:(c.map (·.name)).Nodup) {j:Nat} {y:Col} (hj:c[j]? = some y):At y.name c=(j:Int):=by
 obtain ⟨hj',ej⟩:=Ae.1 hj
 exact X6 hj' (by rw [ej]) (fun k z hk hz e=>by have:=AB3 h hz hj e;omega)
theorem find_mem {nm:Str} {c:List Col}:¬(At nm c<0)↔∃(j:Nat) (y:Col),c[j]? = some y∧y.name=nm∧At nm c=(j:Int):=by
 unfold At
 cases h:c.findIdx? (fun y=>y.name==nm) with
 | none =>
  constructor
  ·intro h';exact absurd (by decide) h'
  rintro ⟨j,y,_,_,e⟩
  exact absurd (show (-1:Int)=(j:Int) from e) (by omega)
 | some i =>
  rw [Ll] at h
  obtain ⟨hi,e,_⟩:=h
  constructor
  ·intro _;exact ⟨i,c[i],Ac hi,by simpa using e,rfl⟩
  intro _ h'
  have:(i:Int)<0:=h'
  omega
theorem pz {c:List Col} {take:List Str} (h:Gl c take=true):(∀t∈take,¬(At t c<0))∧take.Nodup:=by
 rw [takenM_true] at h
 have hat:∀(j:Nat) (t:Str),take[j]? = some t→¬(At t c<0)∧I5 t take=(j:Int):=by
  intro j t hj
  have:=h j t hj
  unfold Hu at this
  simp only [Kq,Dn,decide_eq_false_iff_not,bne_eq_false_iff_eq] at this
  exact this
 refine ⟨fun t ht=>?_,?_⟩
 ·obtain ⟨j,hj⟩:=C9 ht
  exact (hat j t hj).1
 show List.Pairwise _ _
 rw [Vu]
 intro i j hi hj hij e
 have e1:=(hat i take[i] (Ac hi)).2
 have e2:=(hat j take[j] (Ac hj)).2
 rw [e,e2] at e1
 omega
theorem sj {c:List Col} {take:List Str} {give:List Col} (h:(D9 c take give).2=0):Cx c=true∧Gl c take=true∧F8 (Cd c take++give)=true∧(Cd c take++give).length≤12∧D9 c take give=(Cd c take++give,0):=by
 cases h1:Cx c with
 | false=>rw [AB0 h1] at h;exact absurd (show (1:Int)=0 from h) (by decide)
 | true =>
  cases h2:Gl c take with
  | false=>rw [pm h1 h2] at h;exact absurd (show (9:Int)=0 from h) (by decide)
  | true =>
   cases h3:Im (Cd c take++give) with
   | false=>rw [pq h1 h2 rfl h3] at h;exact absurd (show (9:Int)=0 from h) (by decide)
   | true =>
    cases h4:F8 (Cd c take++give) with
    | false=>rw [pt h1 h2 rfl h3 h4] at h;exact absurd (show (10:Int)=0 from h) (by decide)
    | true =>
     by_cases h5:12<(Cd c take++give).length
     ·rw [pu h1 h2 rfl h3 h4 h5] at h;exact absurd (show (3:Int)=0 from h) (by decide)
     exact ⟨rfl,rfl,rfl,by omega,pv h1 h2 rfl h3 h4 h5⟩
set_option maxRecDepth 8000
/-! The words of a print. -/
/-- What a node asks of its kids, and what it is. -/
structure Sign where
 kids:List Int
 own:Int
def Hv (s:Str):Sign:=if (s==[111,114]) || (s==[97,110,100]) then ⟨[3,3],3⟩ else if (((((s==[61]) || (s==[33,61])) || (s==[60])) || (s==[60,61])) || (s==[62])) || (s==[62,61]) then ⟨[-1, -1],3⟩ else if s==[38] then ⟨[2,2],2⟩ else ⟨[1,1],1⟩
def Ft (s:Str):Sign:=if (s==[108,101,110]) || (s==[110,117,109]) then ⟨[2],1⟩ else if s==[115,116,114] then ⟨[1],2⟩ else if (s==[108,101,102,116]) || (s==[114,105,103,104,116]) then ⟨[2,1],2⟩ else if s==[105,115,110,117,108,108] then ⟨[-2],3⟩ else if s==[110,118,108] then ⟨[-1, -1], -1⟩ else ⟨[3, -1, -1], -1⟩
def Qt (o:Int) (t:Str):Sign:=if o==3 then ⟨[1],1⟩ else if o==4 then ⟨[3],3⟩ else if o==5 then Hv t else Ft t
def H5 (a b:Int):Int×Bool:=if a==0 then (b,true) else if (b==0) || (a==b) then (a,true) else (0,false)
def Qh:List Int→List Int→Int→Option Int
 | _,[],c=>some c
 | [],_::_,_=>none
 | w::ws,k::ks,c=>if w == -2 then Qh ws ks c else if w == -1 then (if (H5 c k).2 then Qh ws ks (H5 c k).1 else none) else if (H5 w k).2 then Qh ws ks c else none
def Mr (s:Sign) (ks:List Int):Int×Int:=match Qh s.kids ks 0 with|none=>(0,10)|some c=>if s.own == -1 then (c,0) else (s.own,0)
def V8 (c:List Col) (t:Str):Int×Int:=if At t c<0 then (0,9) else ((c.getD (At t c).toNat ⟨[],0⟩).kind,0)
def bh (c:List Col) (o:Int) (t:Str) (v:Val) (ks:List (Int×Int)):Int×Int:=
 if o==1 then (v.kind,0) else if o==2 then V8 c t else match ks.find? (fun q=>q.2 != 0) with|some q=>(0,q.2)|none=>Mr (Qt o t) (ks.map (·.1))
mutual
def Ey (c:List Col):Expr→Int×Int
 | .mk o t v k=>bh c o t v (sk c k)
def sk (c:List Col):List Expr→List (Int×Int)
  | []=>[]
  | e::r=>Ey c e::sk c r
 end
theorem bi (c:List Col):∀l,sk c l=l.map (Ey c)
 | []=>rfl
 | e::r=>by rw [sk,bi c r];rfl
theorem Sw (c:List Col) (e:Expr):Ey c e=bh c e.op e.text e.val (e.kids.map (Ey c)):=by cases e;rw [Ey,bi];rfl
/-- infer.Kind. -/
def Ej (e:Expr) (c:List Col):Int×Int:=if (!(Bc e)) || !(Pc c) then (0,1) else Ey c e
/-! The signs have as many as the nodes have kids. -/
theorem Rp (s:Str):(Hv s).kids.length=2:=by
 unfold Hv;repeat' split
 all_goals rfl
theorem q8 {t:Str} {n:Nat} (h:Ci t=(n:Int)):(Ft t).kids.length=n:=by
 rw [show Ci t=Ci t from rfl] at h
 by_cases hm:t∈arityList.map (·.1)
 ·have:((arityList.map (·.1)).all fun s=>decide (((Ft s).kids.length:Int)=Ci s))=true:=by kernel_rfl
  have:=of_decide_eq_true (B1.1 this t hm)
  omega
 have h1:Ci t = -1:=by
  unfold Ci
  rw [R2.2 fun p hp=>by
   simp only [beq_iff_eq]
   rintro rfl
   exact hm (Cj.2 ⟨p,hp,rfl⟩)]
 omega
theorem N4 {e:Expr} (h:E5 e=true) (h1:(e.op==1)=false) (h2:(e.op==2)=false):(Qt e.op e.text).kids.length=e.kids.length:=by
 unfold E5 at h
 rw [h1,h2] at h
 simp only [Ay,if_false] at h
 unfold Qt
 by_cases h3:(e.op==3)=true
 ·rw [h3] at h
  simp only [Db,if_true,Az,beq_iff_eq] at h
  rw [if_pos h3]
  show 1=_
  omega
 have h3':(e.op==3)=false:=by simpa using h3
 rw [if_neg h3]
 rw [h3'] at h
 by_cases h4:(e.op==4)=true
 ·rw [h4] at h
  simp only [Ce,if_true,Az,beq_iff_eq] at h
  rw [if_pos h4]
  show 1=_
  omega
 have h4':(e.op==4)=false:=by simpa using h4
 rw [if_neg h4]
 rw [h4'] at h
 simp only [Ks,Ay,if_false] at h
 by_cases h5:(e.op==5)=true
 ·rw [h5] at h
  simp only [if_true,Az,beq_iff_eq] at h
  rw [if_pos h5,Rp]
  omega
 have h5':(e.op==5)=false:=by simpa using h5
 rw [if_neg h5]
 rw [h5'] at h
 simp only [Ay,if_false] at h
 by_cases h6:(e.op==6)=true
 ·rw [h6] at h
  simp only [if_true,Az,beq_iff_eq] at h
  exact q8 h.2
 have h6':(e.op==6)=false:=by simpa using h6
 rw [h6'] at h
 cases h
/-! More columns. -/
/-! A tree in a column's place. -/
set_option maxRecDepth 4000
abbrev pr (l:List Tok) (S:PS):AObj:=.cells 197 [.slice false 3 (l.map Ix),A4 (S.i:Int),A4 (S.nest:Int),A4 S.code,A4 S.at_]
theorem Dj {n:Nat} {l:List Tok} {S:PS}:ObjLow n (pr l S):=by
 show ∀y∈[AV.slice false 3 (l.map Ix),A4 (S.i:Int),A4 (S.nest:Int),A4 S.code,A4 S.at_],Low n y
 intro y hy
 simp only [B3,Ed,or_false] at hy
 rcases hy with rfl|rfl|rfl|rfl|rfl
 ·simp [or_imp,forall_and]
 all_goals simp
theorem ke (o:Int) (t:Str) (v:Val):Le (.agg [A4 o,Ab t,A4 v.kind,A4 v.n,Ab v.s,.nil]) (A7 (.mk o t v [])):=by
 rw [Al]
 refine .agg _ _ rfl (by simp [AV.one,Value.oneCell',sv]) fun i y y' h1 h2=>?_
 match i with
 | 0=>simp at h1 h2;subst h1;subst h2;exact .inl rfl
 | 1=>simp at h1 h2;subst h1;subst h2;exact .inl rfl
 | 2=>simp at h1 h2;subst h1;subst h2;exact .inl rfl
 | 3=>simp at h1 h2;subst h1;subst h2;exact .inl rfl
 | 4=>simp at h1 h2;subst h1;subst h2;exact .inl rfl
 | 5=>simp at h1 h2;subst h1;subst h2;exact .inr ⟨rfl,6,rfl⟩
 | i+6=>simp at h1
theorem Pk:Le (.agg [A4 0,Ab [],A4 0,A4 0,Ab [],.nil]) (A7 Aw):=ke 0 [] noV
theorem ALy (l:List Tok) (S:PS) (o:Nat) (Hp:List AObj) (ho:Hp[o]? = some (pr l S)) (hi:S.i<l.length):AFun Tryz.prog 255 [.ptr o 0] Hp (Ix (Af l S.i)):=by
 refine Ah [.cell 2 118] [0] Tryz.func255 Tryz.ntmps255 (fun d=>?_)
 refine AKj ?_;refine Z37 ?_
 refine Av (h:=Bj ho) (hr:=?_)
 refine Z37 ?_
 refine Av (h:=Bj ho) (hr:=?_)
 refine Hf ?_
 refine A5 (h:=Ad (S.i) (Ix (Af l S.i)) (fun _=>Mq hi)) (hr:=?_)
 refine Z49 ?_;exact AH3

theorem kg (l:List Tok) (S:PS) (of:Str) (o:Nat) (Hp:List AObj) (ho:Hp[o]? = some (pr l S)) (hi:S.i<l.length) (hl:TokEnd l) (hof:of.length≤1048576):AFun Tryz.prog 232 [.ptr o 0,Ab of] Hp (B0 (isM l of S)):=by
 refine Ah [.tmp 4] [0,1] Tryz.func232 Tryz.ntmps232 (fun d=>?_)
 refine Z48 ?_;refine AGy ?_;refine Z11 ?_;refine A2 [1,5] ?_;refine ek ?_;refine Z67 ?_;refine Bm Tryz.call175 (fun hB=>ALt (Af l S.i).text of (hl.text _) hof _) ?_;exact zo

theorem AB4 (l:List Tok) (S:PS) (o:Nat) (Hp:List AObj) (ho:Hp[o]? = some (pr l S)) (hi:S.i<l.length) (hll:l.length≤1048576):ACall Tryz.prog 233 [.ptr o 0] Hp (fun r H'=>r=Ix (Af l S.i)∧H'=Hp.set o (pr l (Aq S))):=by
 refine Ah [.cell 2 118] [0] Tryz.func233 Tryz.ntmps233 (fun d=>?_)
 refine Z69 ?_;refine AGy ?_;refine il ?_;refine Z16 ?_
 refine A5 (h:=Bj ho) (hr:=?_)
 refine Z8 ?_
 refine De jS ho ?_ ?_
 ·simp
 refine Jt ?_;refine Z42 ?_;exact AH3

theorem wn (l:List Tok) (S:PS) (e a:Int) (o:Nat) (Hp:List AObj) (ho:Hp[o]? = some (pr l S)):ACall Tryz.prog 156 [.ptr o 0,A4 e,A4 a] Hp (fun r H'=>r=A7 Aw∧H'=Hp.set o (pr l (Ex e a S))):=by
 refine Ah [.cell 6 27] [0,1,2] Tryz.func156 Tryz.ntmps156 (fun d=>?_)
 refine Z32 ?_;refine nt ?_;refine Z46 ?_
 refine A5 (h:=Bj ho) (hr:=?_)
 refine A5 ?_;refine A2 [0,1,2,6,12] ?_
 refine A3 (fun ht12=>?_) (fun ht12=>?_)
 ·have e:Ex e a S=⟨S.i,S.nest,e,a⟩:=if_pos ht12
  refine Z74 ?_;refine ns ?_;refine Z0 ?_
  refine De jS ho ?_ ?_
  ·simp
  refine A2 [6] ?_;refine Gf ?_;refine AGs ?_;refine R.wk 19 _ Pk ?_;refine Gz ?_;refine Z92 ?_;exact A9 (Aj (B5 jA jS)) ⟨rfl,by rw [e]⟩ (hlow:=Am _ Aw)
 have e:Ex e a S=S:=if_neg (by rw [ht12];simp)
 refine Z4 ?_;refine AGs ?_;refine R.wk 19 _ Pk ?_;refine Gz ?_;refine Z92 ?_;exact A9 (Aj (B5 jA jS)) ⟨rfl,by rw [e];exact (Co ho).symm⟩ (hlow:=Am _ Aw)

theorem ALz (v:Val) (Hp:List AObj):AFun Tryz.prog 337 [X4 v] Hp (A7 (Rm v)):=by
 refine Ah [.cell 2 27] [0] Tryz.func337 Tryz.ntmps337 (fun d=>?_)
 refine ec ?_;refine A2 [1,2] ?_;refine Z2 ?_;refine zz ?_;refine R.wk 4 _ (ke 1 [] v) ?_;refine Z71 ?_;exact A9 (Aj (B5 jA jS)) ⟨rfl,rfl⟩ (hlow:=Am _ (Rm v))

theorem AM0 (l:List Tok) (S:PS) (s:Str) (o:Nat) (Hp:List AObj) (ho:Hp[o]? = some (pr l S)) (hi:S.i<l.length) (hll:l.length≤1048576):ACall Tryz.prog 339 [.ptr o 0,Ab s] Hp (fun r H'=>r=.v (.tuple #[])∧H'=Hp.set o (pr l (Gr l s S))):=by
 refine Ah [] [0,1] Tryz.func339 Tryz.ntmps339 (fun d=>?_)
 refine Z46 ?_
 refine A5 (h:=Bj ho) (hr:=?_)
 refine A5 ?_;refine A2 [0,1,10] ?_
 refine A3 (fun ht10=>?_) (fun ht10=>?_)
 ·have e:Gr l s S=S:=if_pos ht10
  refine Z12 ?_;exact A9 .nores (hp:=⟨rfl,by rw [e];exact (Co ho).symm⟩)
 have e0:¬(S.code != 0)=true:=by rw [ht10];simp
 refine Mw ?_;refine Aa Tryz.call255 (ALy l S o _ (Ak ho) hi) ?_;refine Z11 ?_;refine A2 [0,1,4] ?_;refine Z1 ?_;refine Z52 ?_;refine A5 ?_;refine A2 [0,4,21] ?_
 refine A3 (fun ht21=>?_) (fun ht21=>?_)
 ·have e:Gr l s S=Ex 8 (Af l S.i).at_ S:=by unfold Gr;rw [if_neg e0,if_pos ht21]
  refine AK2 ?_;refine Ku ?_;refine Z12 ?_;exact A9 .nores (hp:=⟨rfl,by rw [e]⟩)
 have e:Gr l s S=Aq S:=by unfold Gr;rw [if_neg e0,if_neg (by rw [ht21];simp)]
 refine Z4 ?_;refine Z74 ?_
 refine A5 (h:=Bj ho) (hr:=?_)
 refine Z8 ?_
 refine De jS ho ?_ ?_
 ·simp
 refine Ku ?_;exact Eo .nores (hp:=⟨rfl,by rw [e];rfl⟩)

/-- The contract of one of the parser's functions. -/
def PC (g:FuncId) (l:List Tok) (f:PS→Expr×PS) (n:Nat):Prop:=∀(o:Nat) (Hp:List AObj) (S:PS),Hp[o]? = some (pr l S)→S.i<l.length→S.nest=n→ACall Tryz.prog g [.ptr o 0] Hp (fun r H'=>r=A7 (f S).1∧H'=Hp.set o (pr l (f S).2))
abbrev Ms:AObj:=.cells 27 [A4 0,Ab [],A4 0,A4 0,Ab [],.nil]
theorem fk {n:Nat}:ObjLow n Ms:=by
 show ∀y∈[A4 0,Ab [],A4 0,A4 0,Ab [],AV.nil],Low n y
 simp
theorem AE5 {n:Nat} (e:Expr):ObjLow n (.cells 27 (D0 e)):=by
 have h:=Am n e
 rw [Al] at h
 show ∀y∈D0 e,Low n y
 intro y hy
 cases h with
 | agg _ h=>exact h y hy
theorem AE6 (l:List Tok) (S:PS) (a:Int) (g:FuncId) (first caps:List AV) (x:Expr) (S2:PS) (o:Nat) (Hp Hx:List AObj) (ho:Hp[o]? = some (pr l S)) (hnl:S.nest≤1048576) (hgc:∀args w,(callFunc g args).run Tryz.prog w=.ok (.enter g args) w) (hxl:Hx.length=Hp.length) (hxo:Hx[o]? = some (pr l S2)) (hn2:S2.nest=S.nest+1) (hlow:(∀y∈Hp.set o (pr l (Dz S)),ObjLow Hp.length y)→∀y∈Hx,ObjLow Hp.length y) (hcf:S.nest≠30→∀own,ACall Tryz.prog g (first++caps) (Hp.set o (pr l (Dz S))++own) (fun y H'=>y=A7 x∧H'=Hx++own)):ACall Tryz.prog 257 [.ptr o 0,A4 a,.fn (.func g) first caps] Hp (fun r H'=>(S.nest=30→r=A7 Aw∧H'=Hp.set o (pr l (Ex 18 a S)))∧(S.nest≠30→r=A7 x∧H'=Hx.set o (pr l (bb S2)))):=by
 refine Ah [.cell 6 27] [0,1,2] Tryz.func257 Tryz.ntmps257 (fun d=>?_)
 refine Z32 ?_;refine nt ?_;refine Z30 ?_
 refine A5 (h:=Bj ho) (hr:=?_)
 refine A5 ?_;refine A2 [0,1,2,6,12] ?_
 refine A3 (fun ht12=>?_) (fun ht12=>?_)
 ·have hn30:S.nest=30:=by have:=ht12;simp at this;omega
  refine Z1 ?_;refine Cl Tryz.call156 ho (by simp) Dj (wn l S 18 a o _ (Ak ho)) ?_;refine Gz ?_;refine n9 ?_;exact A9 (Aj (B5 jA jS)) ⟨fun _=>⟨by rw [Al],rfl⟩,fun h=>absurd hn30 h⟩ (hlow:=by have:=Am Hp.length Aw;rw [Al] at this;simpa using this)
 have hn30:S.nest≠30:=by have:=ht12;simp at this;omega
 refine Rc ?_
 refine A5 (h:=Bj ho) (hr:=?_)
 refine Z8 ?_
 refine De jS ho ?_ ?_
 ·simp
 refine A2 [0,2,6] ?_;refine Z2 ?_
 refine R.callVX (up':=Hx) (own':=[Ms]) hgc (hcf hn30 [Ms]) (by simpa using hxl) (by rw [Dl];exact hlow) ?_
 rw [←hxl]
 refine Z11 ?_;refine A2 [0,6,7] ?_;refine Z16 ?_
 refine A5 (h:=Bj hxo) (hr:=?_)
 refine Z8 ?_
 refine De jS hxo ?_ ?_
 ·simp
 refine A2 [6,7] ?_;refine Z42 ?_;refine Z92 ?_;exact A9 (Aj (B5 jA jS)) ⟨fun h=>absurd h hn30,fun _=>⟨by rw [Al],by rw [show ((S2.nest:Int)-1)=((bb S2).nest:Int) by show _=((S2.nest-1:Nat):Int);omega];rfl⟩⟩ (hlow:=by have:=Am Hx.length x;rw [Al] at this;simpa using this)

theorem wo (t:Str) (a b:Expr):D0 (Oh t a b)=[A4 5,.v (sv t),A4 0,A4 0,Ab [],.slice false 6 [A7 a,A7 b]]:=rfl
theorem AE7 {n:Nat} (t:Str) (a b:Expr):ObjLow n (.cells 27 [A4 5,.v (sv t),A4 0,A4 0,Ab [],.slice false 6 [A7 a,A7 b]]):=AE5 (Oh t a b)
theorem AE8 {n:Nat} {U:List AObj} {i:Nat} {x:AObj} (h:∀y∈U,ObjLow n y) (hx:ObjLow n x):∀y∈U.set i x,ObjLow n y:=by
 intro y hy
 rcases M5 hy with h1|h1
 ·exact h y h1
 rw [h1];exact hx
/-- within, with a method's value. -/
theorem AB5 {g:FuncId} (hgc:∀args w,(callFunc g args).run Tryz.prog w=.ok (.enter g args) w) (l:List Tok) (S:PS) (a:Int) (f:PS→Expr×PS) (o:Nat) (Hp:List AObj) (ho:Hp[o]? = some (pr l S)) (hi:S.i<l.length) (hnl:S.nest≤30) (hf:S.nest≠30→Fd l (S.nest+1) f) (hcf:S.nest≠30→PC g l f (S.nest+1)):
  ACall Tryz.prog 257 [.ptr o 0,A4 a,.fn (.func g) [.ptr o 0] []] Hp (fun r H'=>r=A7 (Cz a f S).1∧H'=Hp.set o (pr l (Cz a f S).2)):=by
 have hlt:=(Ae.1 ho).1
 by_cases h30:S.nest=30
 ·refine (AE6 l S a g [.ptr o 0] [] Aw (Dz S) o Hp (Hp.set o (pr l (Dz S))) ho (by omega) hgc (by simp) (by simp [hlt]) rfl (fun h=>h) (fun h=>absurd h30 h)).mono fun r H' h=>?_
  have e:Cz a f S=(Aw,Ex 18 a S):=if_pos (by rw [h30];rfl)
  rw [e]
  exact h.1 h30
 have hq:=hf h30 (Dz S) hi rfl
 refine (AE6 l S a g [.ptr o 0] [] (f (Dz S)).1 (f (Dz S)).2 o Hp (Hp.set o (pr l (f (Dz S)).2)) ho (by omega) hgc (by simp) (by simp [hlt]) hq.nest (fun h y hy=>?_) (fun _ own=>?_)).mono fun r H' h=>?_
 ·rcases M5 hy with h1|h1
  ·obtain ⟨i,hi',rfl⟩:=Wd h1
   by_cases hio:i=o
   ·subst hio
    have:Hp[i]=pr l S:=by rw [Ac hi'] at ho;injection ho
    rw [this];exact Dj
   refine h _ ?_
   rw [r8]
   exact ⟨i,by rw [Cf (Ne.symm hio),Ac hi']⟩
  rw [h1];exact Dj
 ·have hg:(Hp.set o (pr l (Dz S))++own)[o]? = some (pr l (Dz S)):=Ak (by simp [hlt])
  refine (hcf h30 o (Hp.set o (pr l (Dz S))++own) (Dz S) hg hi rfl).mono fun r H' h=>⟨h.1,h.2.trans ?_⟩
  rw [L2 _ _ (by simpa using hlt),C6]
 have e:Cz a f S=((f (Dz S)).1,bb (f (Dz S)).2):=if_neg (by
  show ¬(((S.nest:Int)==30)=true)
  simp
  omega)
 rw [e]
 obtain ⟨h1,h2⟩:=h.2 h30
 exact ⟨h1,by rw [h2,C6]⟩
theorem AE9 {g:FuncId} (hgc:∀args w,(callFunc g args).run Tryz.prog w=.ok (.enter g args) w) (l:List Tok) (S:PS) (of:Str) (hof:of.length≤1048576) (f:PS→Expr×PS) (o:Nat) (Hp:List AObj) (ho:Hp[o]? = some (pr l S)) (hi:S.i<l.length) (hl:TokEnd l) (hll:l.length≤1048576) (hf:Fd l S.nest f) (hcf:PC g l f S.nest):ACall Tryz.prog 198 [.ptr o 0,Ab of,.fn (.func g) [.ptr o 0] []] Hp (fun r H'=>r=A7 (Hz l of f S).1∧H'=Hp.set o (pr l (Hz l of f S).2)):=by
 have holt:=(Ae.1 ho).1
 refine Ah [.cell 6 27] [0,1,2] Tryz.func198 Tryz.ntmps198 (fun d=>?_)
 refine Z32 ?_;refine nt ?_;refine Z2 ?_;refine R.callVUp hgc ho (by simp) Dj (hcf o _ S (Ak ho) hi rfl) ?_;refine Z11 ?_;refine A2 [0,1,2,6,7] ?_;refine Lq ?_
 refine Bg (α:=Expr×PS) (fun r=>⟨32,A6 0 (.ptr o 0) (A6 1 (Ab of) (A6 2 (.fn (.func g) [.ptr o 0] []) (A6 6 (.ptr (oid Hp.length 0) 0) (A6 7 (.ptr (oid Hp.length 1) 0) (fun _=>.any))))),Hp.set o (pr l r.2),[.cells 27 [A4 0,Ab [],A4 0,A4 0,Ab [],.nil],.cells 27 (D0 r.1)],[],none⟩) (fun r=>LeftAt l of f S r) (fun r=>l.length-r.2.i) (f S) (.start (hf S hi rfl)) (B4 (by simp)) rfl (fun r hx=>?_)
 refine Z46 ?_
 refine A5 (h:=Bj (getset ho)) (hr:=?_)
 refine Z21 ?_;refine Bm Tryz.call232 (fun hB=>kg l r.2 of o _ (Ak (getset ho)) hx.fact.lt hl hof) ?_;refine A5 ?_;refine A2 [0,1,2,6,7,21] ?_
 refine A3 (fun ht21=>?_) (fun ht21=>?_)
 ·have hon:=hx.on hl ht21 hf
  have hle:=hon.2.1.le
  have hlt0:=hx.fact.lt
  have hU1:(Hp.set o (pr l r.2)).set o (pr l (Aq r.2))=Hp.set o (pr l (Aq r.2)):=C6 ..
  refine vi ?_;refine Z2 ?_;refine Cl Tryz.call233 (getset ho) (by simp) Dj (AB4 l r.2 o _ (Ak (getset ho)) hx.fact.lt hll) ?_;refine Z11 ?_;refine A2 [0,1,2,6,7,8] ?_;refine P6 [0,1,0,0,8,28,63,127] [4] [.q 4 [] [],.s [28] (some 0) [] [],.q 1 [0] []] (fun B=>Hp.set o (if B 0=true then pr l (f (Aq r.2)).2 else pr l (Aq r.2))) (fun _=>[.cells 27 [A4 0,Ab [],A4 0,A4 0,Ab [],.nil],.cells 27 (D0 r.1),.cells 118 [A4 (Af l r.2.i).kind,Ab (Af l r.2.i).text,A4 (Af l r.2.i).at_]]) Ap (by kernel_rfl) (by simp [C6]) rfl (fun B=>by simp) ?_
  apply Y.q
  ·intro B hT hF
   exact io
  case hTF=>decide
  refine Y.callVUp (r:=A7 (f (Aq r.2)).1) (o:=o) (x0:=pr l (Aq r.2)) (x:=pr l (f (Aq r.2)).2) hgc (fun B hT hF hB=>⟨by simp only [hB];exact getset ho,by simp [upd],rfl,Dj,?_⟩) ?_
  ·simp only [hB]
   exact hcf o _ (Aq r.2) (Ak (getset ho)) hon.1 hx.fact.nest
  apply Y.q
  ·intro B hT hF
   exact Z40
  case hTF=>decide
  refine Gx (tn:=[4]) (U:=Hp.set o (pr l (f (Aq r.2)).2)) ?_;refine Z22 ?_;refine A2 [0,1,2,6,7] ?_;refine I4 ?_
  refine Au (Oh (Af l r.2.i).text r.1 (f (Aq r.2)).1,(f (Aq r.2)).2) hon.2.2 (by show l.length-(f (Aq r.2)).2.i<l.length-r.2.i;have:r.2.i+1≤(f (Aq r.2)).2.i:=hle;omega) ?_
  simp only [wo]
  have hlow2:=fun n=>AE7 (n:=n) (Af l r.2.i).text r.1 (f (Aq r.2)).1
  simp only [Al] at hlow2 ⊢
  exact Di (fun _=>.refl _) (by repeat (first|exact Bt|refine Bs (by simp [oid]<;>omega) ?_)) (by intro y hy;rcases B3.1 hy with rfl|hy;exact fk;rw [Bh.1 hy];exact hlow2 _) (by simp)
 have hout:=hx.out (by rw [ht21];simp)
 refine Z36 ?_;refine Z42 ?_;refine Z92 ?_;exact A9 (Aj (B5 jA jS)) ⟨by rw [hout,Al],by rw [hout]⟩ (hlow:=by have:=Am (Hp.set o (pr l r.2)).length r.1;rw [Al] at this;simpa using this)

theorem AOa (l:List Tok) (S:PS) (f:PS→Expr×PS) (o:Nat) (Hp:List AObj) (ho:Hp[o]? = some (pr l S)) (hi:S.i<l.length) (hl:TokEnd l) (hll:l.length≤1048576) (hf:Fd l S.nest f) (hcf:PC 199 l f S.nest):ACall Tryz.prog 154 [.ptr o 0] Hp (fun r H'=>r=A7 (Hz l orT f S).1∧H'=Hp.set o (pr l (Hz l orT f S).2)):=by
 refine Ah [.cell 2 27] [0] Tryz.func154 Tryz.ntmps154 (fun d=>?_)
 refine Z69 ?_;refine Z1 ?_;refine J4 ?_;refine Cl Tryz.call198 ho (by simp) Dj (AE9 Tryz.call199 l S orT (by decide) f o _ (Ak ho) hi hl hll hf hcf) ?_;refine Z71 ?_;exact A9 (Aj (B5 jA jS)) ⟨by rw [Al],rfl⟩ (hlow:=by have:=Am Hp.length (Hz l orT f S).1;rw [Al] at this;simpa using this)

theorem AOb (l:List Tok) (S:PS) (f:PS→Expr×PS) (o:Nat) (Hp:List AObj) (ho:Hp[o]? = some (pr l S)) (hi:S.i<l.length) (hl:TokEnd l) (hll:l.length≤1048576) (hf:Fd l S.nest f) (hcf:PC 234 l f S.nest):ACall Tryz.prog 199 [.ptr o 0] Hp (fun r H'=>r=A7 (Hz l AAw f S).1∧H'=Hp.set o (pr l (Hz l AAw f S).2)):=by
 refine Ah [.cell 2 27] [0] Tryz.func199 Tryz.ntmps199 (fun d=>?_)
 refine Z69 ?_;refine Z1 ?_;refine J4 ?_;refine Cl Tryz.call198 ho (by simp) Dj (AE9 Tryz.call234 l S AAw (by decide) f o _ (Ak ho) hi hl hll hf hcf) ?_;refine Z71 ?_;exact A9 (Aj (B5 jA jS)) ⟨by rw [Al],rfl⟩ (hlow:=by have:=Am Hp.length (Hz l AAw f S).1;rw [Al] at this;simpa using this)

theorem AOc (l:List Tok) (S:PS) (f:PS→Expr×PS) (o:Nat) (Hp:List AObj) (ho:Hp[o]? = some (pr l S)) (hi:S.i<l.length) (hl:TokEnd l) (hll:l.length≤1048576) (hf:Fd l S.nest f) (hcf:PC 299 l f S.nest):ACall Tryz.prog 282 [.ptr o 0] Hp (fun r H'=>r=A7 (Hz l AAx f S).1∧H'=Hp.set o (pr l (Hz l AAx f S).2)):=by
 refine Ah [.cell 2 27] [0] Tryz.func282 Tryz.ntmps282 (fun d=>?_)
 refine Z69 ?_;refine Z1 ?_;refine J4 ?_;refine Cl Tryz.call198 ho (by simp) Dj (AE9 Tryz.call299 l S AAx (by decide) f o _ (Ak ho) hi hl hll hf hcf) ?_;refine Z71 ?_;exact A9 (Aj (B5 jA jS)) ⟨by rw [Al],rfl⟩ (hlow:=by have:=Am Hp.length (Hz l AAx f S).1;rw [Al] at this;simpa using this)

theorem AOd (l:List Tok) (S:PS) (f:PS→Expr×PS) (o:Nat) (Hp:List AObj) (ho:Hp[o]? = some (pr l S)) (hi:S.i<l.length) (hl:TokEnd l) (hll:l.length≤1048576) (hf:Fd l S.nest f) (hcf:PC 317 l f S.nest):ACall Tryz.prog 299 [.ptr o 0] Hp (fun r H'=>r=A7 (Hz l k6 f S).1∧H'=Hp.set o (pr l (Hz l k6 f S).2)):=by
 refine Ah [.cell 2 27] [0] Tryz.func299 Tryz.ntmps299 (fun d=>?_)
 refine Z69 ?_;refine Z1 ?_;refine J4 ?_;refine Cl Tryz.call198 ho (by simp) Dj (AE9 Tryz.call317 l S k6 (by decide) f o _ (Ak ho) hi hl hll hf hcf) ?_;refine Z71 ?_;exact A9 (Aj (B5 jA jS)) ⟨by rw [Al],rfl⟩ (hlow:=by have:=Am Hp.length (Hz l k6 f S).1;rw [Al] at this;simpa using this)

/-- What is so of the functions one nest deeper. -/
structure DeepC (l:List Tok) (Dv:Fam) (n:Nat):Prop where
 ei:n≠30→Fd l (n+1) Dv.ei∧PC 154 l Dv.ei (n+1)
 no:n≠30→Fd l (n+1) Dv.no∧PC 234 l Dv.no (n+1)
 ne:n≠30→Fd l (n+1) Dv.ne∧PC 317 l Dv.ne (n+1)
theorem W5 (op:Int) (x:Expr):A7 (N2 op x)=.agg [A4 op,Ab [],A4 0,A4 0,Ab [],.slice false 6 [A7 x]]:=by rw [Al];rfl
theorem sm (t:Str) (a b:Expr):A7 (Oh t a b)=.agg [A4 5,.v (sv t),A4 0,A4 0,Ab [],.slice false 6 [A7 a,A7 b]]:=by rw [Al];rfl
theorem low_agg {n:Nat} (e:Expr):Low n (.agg [.v (.int .i64 e.op),.v (sv e.text),.v (.int .i64 e.val.kind),.v (.int .i64 e.val.n),.v (sv e.val.s),.slice false 6 (e.kids.map A7)]):=by
 have:=Am n e
 rwa [Al] at this
theorem AOe (l:List Tok) (S:PS) (Dv:Fam) (o:Nat) (Hp:List AObj) (ho:Hp[o]? = some (pr l S)) (hi:S.i<l.length) (hl:TokEnd l) (hll:l.length≤1048576) (hnl:S.nest≤30) (hd:DeepC l Dv S.nest) (hc:PC 331 l (I9 l Dv) S.nest):ACall Tryz.prog 317 [.ptr o 0] Hp (fun r H'=>r=A7 (Xw l Dv S).1∧H'=Hp.set o (pr l (Xw l Dv S).2)):=by
 refine Ah [.cell 2 27] [0] Tryz.func317 Tryz.ntmps317 (fun d=>?_)
 refine Z69 ?_;refine Z25 ?_;refine Aa Tryz.call232 (kg l S AHz o _ (Ak ho) hi hl (by decide)) ?_;refine A5 ?_;refine A2 [0,2,6] ?_
 refine A3 (fun ht6=>?_) (fun ht6=>?_)
 ·have e:Xw l Dv S=I9 l Dv S:=if_pos ht6
  refine Z2 ?_;refine Cl Tryz.call331 ho (by simp) Dj (hc o _ S (Ak ho) hi rfl) ?_;refine Z71 ?_;exact AGo
 have his:isM l AHz S=true:=by simpa using ht6
 have hi1:(Aq S).i<l.length:=hl.stepIs hi his
 have e:Xw l Dv S=(N2 3 (Cz (Af l S.i).at_ Dv.ne (Aq S)).1,(Cz (Af l S.i).at_ Dv.ne (Aq S)).2):=if_neg (by rw [ht6];simp)
 refine Z4 ?_;refine Z73 ?_;refine il ?_;refine Z34 ?_;refine J4 ?_;refine Cl Tryz.call257 (getset ho) (by simp) Dj (AB5 Tryz.call317 l (Aq S) (Af l S.i).at_ Dv.ne o _ (Ak (getset ho)) hi1 hnl (fun h=>(hd.ne h).1) (fun h=>(hd.ne h).2)) ?_;refine Ns ?_;refine Z22 ?_;refine Z3 ?_;exact A9 (Aj (B5 jA jS)) ⟨by rw [e,W5];simp only [Al],by rw [e,C6]⟩ (hlow:=by have:=Am Hp.length (N2 3 (Cz (Af l S.i).at_ Dv.ne (Aq S)).1);rw [W5] at this;simp only [Al] at this;simpa only [Dl] using this)

theorem AOf (l:List Tok) (S:PS) (Dv:Fam) (o:Nat) (Hp:List AObj) (ho:Hp[o]? = some (pr l S)) (hi:S.i<l.length) (hl:TokEnd l) (hll:l.length≤1048576) (hnl:S.nest≤30) (hd:DeepC l Dv S.nest) (hc:PC 256 l (Ho l Dv) S.nest):ACall Tryz.prog 234 [.ptr o 0] Hp (fun r H'=>r=A7 (Xx l Dv S).1∧H'=Hp.set o (pr l (Xx l Dv S).2)):=by
 refine Ah [.cell 2 27] [0] Tryz.func234 Tryz.ntmps234 (fun d=>?_)
 refine Z69 ?_;refine Z25 ?_;refine Aa Tryz.call232 (kg l S AHx o _ (Ak ho) hi hl (by decide)) ?_;refine A5 ?_;refine A2 [0,2,6] ?_
 refine A3 (fun ht6=>?_) (fun ht6=>?_)
 ·have e:Xx l Dv S=Ho l Dv S:=if_pos ht6
  refine Z2 ?_;refine Cl Tryz.call256 ho (by simp) Dj (hc o _ S (Ak ho) hi rfl) ?_;refine Z71 ?_;exact AGo
 have his:isM l AHx S=true:=by simpa using ht6
 have hi1:(Aq S).i<l.length:=hl.stepIs hi his
 have e:Xx l Dv S=(N2 4 (Cz (Af l S.i).at_ Dv.no (Aq S)).1,(Cz (Af l S.i).at_ Dv.no (Aq S)).2):=if_neg (by rw [ht6];simp)
 refine Z4 ?_;refine Z73 ?_;refine il ?_;refine Z34 ?_;refine J4 ?_;refine Cl Tryz.call257 (getset ho) (by simp) Dj (AB5 Tryz.call234 l (Aq S) (Af l S.i).at_ Dv.no o _ (Ak (getset ho)) hi1 hnl (fun h=>(hd.no h).1) (fun h=>(hd.no h).2)) ?_;refine Ns ?_;refine Z22 ?_;refine Z3 ?_;exact A9 (Aj (B5 jA jS)) ⟨by rw [e,W5];simp only [Al],by rw [e,C6]⟩ (hlow:=by have:=Am Hp.length (N2 4 (Cz (Af l S.i).at_ Dv.no (Aq S)).1);rw [W5] at this;simp only [Al] at this;simpa only [Dl] using this)

theorem AOg (l:List Tok) (S:PS) (Dv:Fam) (o:Nat) (Hp:List AObj) (ho:Hp[o]? = some (pr l S)) (hi:S.i<l.length) (hl:TokEnd l) (hll:l.length≤1048576) (hnl:S.nest≤30) (hd:DeepC l Dv S.nest) (hg:Fd l S.nest (Fj l Dv)) (hc:PC 282 l (Fj l Dv) S.nest):ACall Tryz.prog 256 [.ptr o 0] Hp (fun r H'=>r=A7 (Ho l Dv S).1∧H'=Hp.set o (pr l (Ho l Dv S).2)):=by
 have hq:=hg S hi rfl
 refine Ah [.cell 2 27] [0] Tryz.func256 Tryz.ntmps256 (fun d=>?_)
 refine Z69 ?_;refine Z2 ?_;refine Cl Tryz.call282 ho (by simp) Dj (hc o _ S (Ak ho) hi rfl) ?_;refine il ?_;refine Z46 ?_
 refine A5 (h:=Bj (getset ho)) (hr:=?_)
 refine Z95 ?_;refine Bm Tryz.call232 (fun hB=>kg l (Fj l Dv S).2 AHy o _ (Ak (getset ho)) hq.lt hl (by decide)) ?_;refine Z80 ?_;refine A2 [0,2,3,17] ?_
 refine A3 (fun ht17=>?_) (fun ht17=>?_)
 ·have e:Ho l Dv S=Fj l Dv S:=if_pos ht17
  refine Z42 ?_;refine Z3 ?_;exact AGo
 have his:isM l AHy (Fj l Dv S).2=true:=by
  have:=ht17
  simp only [Dn,Mh] at this
  exact this.2
 have hi1:(Aq (Fj l Dv S).2).i<l.length:=hl.stepIs hq.lt his
 have e:Ho l Dv S=(Oh (Af l (Fj l Dv S).2.i).text (Fj l Dv S).1 (Fj l Dv (Aq (Fj l Dv S).2)).1,(Fj l Dv (Aq (Fj l Dv S).2)).2):=if_neg (by rw [ht17];simp)
 refine Of ?_;refine Cl Tryz.call233 (getset ho) (by simp) Dj (AB4 l (Fj l Dv S).2 o _ (Ak (getset ho)) hq.lt hll) ?_;refine Z11 ?_;refine A2 [0,2,3,4] ?_;refine Hh [0,1,0,0,8,28,63,127] [4] [.q 4 [] [],.s [25] (some 0) [] [],.q 1 [0] []] (fun B=>Hp.set o (if B 0=true then pr l (Fj l Dv (Aq (Fj l Dv S).2)).2 else pr l (Aq (Fj l Dv S).2))) (fun _=>[.cells 27 [A4 0,Ab [],A4 0,A4 0,Ab [],.nil],.cells 27 (D0 (Fj l Dv S).1),.cells 118 [A4 (Af l (Fj l Dv S).2.i).kind,Ab (Af l (Fj l Dv S).2.i).text,A4 (Af l (Fj l Dv S).2.i).at_]]) Ap (by kernel_rfl) (by simp [C6]) rfl (fun B=>by simp) ?_
 apply Y.q
 ·intro B hT hF
  exact io
 case hTF=>decide
 refine Nn (r:=A7 (Fj l Dv (Aq (Fj l Dv S).2)).1) (o:=o) (x0:=pr l (Aq (Fj l Dv S).2)) (x:=pr l (Fj l Dv (Aq (Fj l Dv S).2)).2) Tryz.call282 (fun B hT hF hB=>⟨by simp only [hB];exact getset ho,by simp [upd],rfl,Dj,?_⟩) ?_
 ·simp only [hB]
  exact hc o _ (Aq (Fj l Dv S).2) (Ak (getset ho)) hi1 hq.nest
 apply Y.q
 ·intro B hT hF
  exact Z40
 case hTF=>decide
 refine Gx (tn:=[4]) (U:=Hp.set o (pr l (Fj l Dv (Aq (Fj l Dv S).2)).2)) ?_;refine Z22 ?_;refine Z3 ?_;exact A9 (Aj (B5 jA jS)) ⟨by rw [e,sm];simp only [Al],by rw [e]⟩ (hlow:=by have:=Am Hp.length (Oh (Af l (Fj l Dv S).2.i).text (Fj l Dv S).1 (Fj l Dv (Aq (Fj l Dv S).2)).1);rw [sm] at this;simp only [Al] at this;simpa only [Dl] using this)

/-- The contract of the parser of calls. -/
def ki (l:List Tok) (Dv:Fam) (n:Nat):Prop:=∀(o:Nat) (Hp:List AObj) (S:PS) (t:Tok),Hp[o]? = some (pr l S)→(Aq S).i<l.length→S.nest=n→t.text.length≤1048576→isM l opT S=true→ACall Tryz.prog 338 [.ptr o 0,Ix t] Hp (fun r H'=>r=A7 (Jn l Dv t S).1∧H'=Hp.set o (pr l (Jn l Dv t S).2))
theorem AB6:A7 Aw=.agg [A4 0,Ab [],A4 0,A4 0,Ab [],.slice false 6 []]:=by rw [Al];rfl
theorem AOh (l:List Tok) (S:PS) (Dv:Fam) (o:Nat) (Hp:List AObj) (ho:Hp[o]? = some (pr l S)) (hi:S.i<l.length) (hl:TokEnd l) (hll:l.length≤1048576) (hnl:S.nest≤30) (hd:DeepC l Dv S.nest) (hcl:ki l Dv S.nest):ACall Tryz.prog 331 [.ptr o 0] Hp (fun r H'=>r=A7 (I9 l Dv S).1∧H'=Hp.set o (pr l (I9 l Dv S).2)):=by
 refine Ah [.cell 2 27] [0] Tryz.func331 Tryz.ntmps331 (fun d=>?_)
 refine Z69 ?_;refine AGy ?_;refine il ?_;refine Z46 ?_
 refine A5 (h:=Bj ho) (hr:=?_)
 refine A5 ?_;refine A2 [0,2,3,14] ?_
 refine A3 (fun ht14=>?_) (fun ht14=>?_)
 ·have e:I9 l Dv S=(Aw,S):=if_pos ht14
  refine AGs ?_;refine R.wk 15 _ Pk ?_;refine Z71 ?_;refine Gg ?_;exact A9 (Aj (B5 jA jS)) ⟨by rw [e,Al],by rw [e];exact (Co ho).symm⟩ (hlow:=by have:=Am Hp.length (Aw);simpa only [Al,Dl] using this)
 have e0:¬(S.code != 0)=true:=by rw [ht14];simp
 refine Z35 ?_;refine Z34 ?_;refine B7 ?_;refine Bm Tryz.call232 (fun hB=>kg l S AI0 o _ (Ak ho) hi hl (by decide)) ?_;refine Z0 ?_;refine A2 [0,2,3,16] ?_
 refine A3 (fun ht16=>?_) (fun ht16=>?_)
 ·have e:I9 l Dv S=(Rm (J5 (Af l S.i).text).1,Aq S):=by unfold I9;rw [if_neg e0,if_pos ht16]
  refine Z73 ?_;refine A5 ?_;refine Aa Tryz.call227 (AHr (Af l S.i).text (hl.text _) _) ?_;refine Qf ?_;refine A2 [2,4] ?_;refine Z2 ?_;refine Aa Tryz.call337 (ALz (J5 (Af l S.i).text).1 _) ?_;refine Z71 ?_;refine Z6 ?_;exact A9 (Aj (B5 jA jS)) ⟨by rw [e,Al],by rw [e]⟩ (hlow:=by have:=Am Hp.length (Rm (J5 (Af l S.i).text).1);simpa only [Al,Dl] using this)
 have e1:¬(((Af l S.i).kind==3) || isM l AI0 S)=true:=by rw [ht16];simp
 refine Z34 ?_;refine A2 [0,2,3,33] ?_
 refine A3 (fun ht33=>?_) (fun ht33=>?_)
 ·have e:I9 l Dv S=(Rm ⟨2,0,(Af l S.i).text.take 200⟩,Aq S):=by unfold I9;rw [if_neg e0,if_neg e1,if_pos ht33]
  refine Z73 ?_;refine A5 ?_;refine Aa Tryz.call275 (ALu (Af l S.i).text _) ?_;refine Aa Tryz.call337 (ALz ⟨2,0,(Af l S.i).text.take 200⟩ _) ?_;refine Z71 ?_;refine Z6 ?_;exact A9 (Aj (B5 jA jS)) ⟨by rw [e,Al],by rw [e]⟩ (hlow:=by have:=Am Hp.length (Rm ⟨2,0,(Af l S.i).text.take 200⟩);simpa only [Al,Dl] using this)
 have e2:¬((Af l S.i).kind==4)=true:=by rw [ht33];simp
 refine Z34 ?_;refine A2 [0,2,3,42] ?_
 refine A3 (fun ht42=>?_) (fun ht42=>?_)
 ·have hi1:(Aq S).i<l.length:=hl.step hi (by rw [beq_iff_eq] at ht42;rw [ht42];decide)
  refine Z73 ?_;refine A2 [0,2,3] ?_;refine Z25 ?_;refine Aa Tryz.call232 (kg l (Aq S) opT o _ (Ak (getset ho)) hi1 hl (by decide)) ?_;refine A2 [0,2,3,49] ?_
  refine A3 (fun ht49=>?_) (fun ht49=>?_)
  ·have e:I9 l Dv S=Jn l Dv (Af l S.i) (Aq S):=by unfold I9;rw [if_neg e0,if_neg e1,if_neg e2,if_pos ht42,if_pos ht49]
   have hi2:(Aq (Aq S)).i<l.length:=hl.stepIs hi1 ht49
   refine Z1 ?_;refine Cl Tryz.call338 (getset ho) (by simp) Dj (hcl o _ (Aq S) (Af l S.i) (Ak (getset ho)) hi2 rfl (hl.text _) ht49) ?_;refine Z71 ?_;refine Gg ?_;refine Z6 ?_;exact A9 (Aj (B5 jA jS)) ⟨by rw [e,Al],by rw [e,C6]⟩ (hlow:=by have:=Am Hp.length ((Jn l Dv (Af l S.i) (Aq S)).1);simpa only [Al,Dl] using this)
  have e:I9 l Dv S=(Bo (Af l S.i).text,Aq S):=by unfold I9;rw [if_neg e0,if_neg e1,if_neg e2,if_pos ht42,if_neg (by rw [ht49];simp)]
  refine Z4 ?_;refine Z86 ?_;refine R.wk 55 _ (jg _) ?_;refine Z71 ?_;refine Z6 ?_;exact A9 (Aj (B5 jA jS)) ⟨by rw [e,Al],by rw [e]⟩ (hlow:=by have:=Am Hp.length (Bo (Af l S.i).text);simpa only [Al,Dl] using this)
 have e3:¬((Af l S.i).kind==1)=true:=by rw [ht42];simp
 refine Z2 ?_;refine Aa Tryz.call232 (kg l S opT o _ (Ak ho) hi hl (by decide)) ?_;refine A5 ?_;refine A2 [0,2,3,56] ?_
 refine A3 (fun ht56=>?_) (fun ht56=>?_)
 ·have e:I9 l Dv S=((Cz (Af l S.i).at_ Dv.ei (Aq S)).1,Gr l Gk (Cz (Af l S.i).at_ Dv.ei (Aq S)).2):=by unfold I9;rw [if_neg e0,if_neg e1,if_neg e2,if_neg e3,if_pos ht56]
  have hi1:(Aq S).i<l.length:=hl.stepIs hi ht56
  have hwf:=L6 (S:=Aq S) (l:=l) (f:=Dv.ei) (Af l S.i).at_ hi1 (fun h=>(hd.ei h).1)
  refine Z73 ?_;refine A2 [0,2,3] ?_;refine Z34 ?_;refine J4 ?_;refine Cl Tryz.call257 (getset ho) (by simp) Dj (AB5 Tryz.call154 l (Aq S) (Af l S.i).at_ Dv.ei o _ (Ak (getset ho)) hi1 hnl (fun h=>(hd.ei h).1) (fun h=>(hd.ei h).2)) ?_;refine Z11 ?_;refine A2 [0,2,6] ?_;refine Z2 ?_;refine Cl Tryz.call339 (getset (getset ho)) (by simp) Dj (AM0 l (Cz (Af l S.i).at_ Dv.ei (Aq S)).2 Gk o _ (Ak (getset (getset ho))) hwf.lt hll) ?_;refine A2 [2,6] ?_;refine Z42 ?_;refine Z3 ?_;refine Z6 ?_;exact A9 (Aj (B5 jA jS)) ⟨by rw [e,Al],by rw [e,C6,C6]⟩ (hlow:=by have:=Am Hp.length ((Cz (Af l S.i).at_ Dv.ei (Aq S)).1);simpa only [Al,Dl] using this)
 have e:I9 l Dv S=(Aw,Ex 8 (Af l S.i).at_ S):=by unfold I9;rw [if_neg e0,if_neg e1,if_neg e2,if_neg e3,if_neg (by rw [ht56];simp)]
 refine Z47 ?_;refine AK2 ?_;refine Z71 ?_;exact A9 (Aj (B5 jA jS)) ⟨by rw [e,Al],by rw [e]⟩ (hlow:=by have:=Am Hp.length (Aw);simpa only [Al,Dl] using this)

theorem AEa {l:List Tok} (hl:TokEnd l) (hll:l.length≤1048576) {d n:Nat} (h:n+(d+1)=31) (hp:n≠30→PC 154 l (Gs l d).ei (n+1)∧PC 234 l (Gs l d).no (n+1)∧PC 317 l (Gs l d).ne (n+1)):DeepC l (Gs l d) n:=by
 have g:n≠30→_:=fun h30=>Uf hl hll d (n+1) (by omega) (by omega)
 exact ⟨fun h=>⟨(g h).1,(hp h).1⟩,fun h=>⟨(g h).2.1,(hp h).2.1⟩,fun h=>⟨(g h).2.2,(hp h).2.2⟩⟩
/-- All functions of the parser. -/
theorem kj {l:List Tok} (hl:TokEnd l) (hll:l.length≤1048576) (hcl:∀n Dv,n≤30→DeepC l Dv n→ki l Dv n):∀(d n:Nat),n+d=31→n≤30→PC 154 l (Gs l d).ei n∧PC 234 l (Gs l d).no n∧PC 317 l (Gs l d).ne n
 | 0,n,h,hn=>by omega
 | d+1,n,h,hn=>by
  have hd:DeepC l (Gs l d) n:=AEa hl hll h (fun h30=>kj hl hll hcl d (n+1) (by omega) (by omega))
  have g1:Fd l n (Xw l (Gs l d)):=Ue hl hll (fun h=>(hd.ei h).1) (fun h=>(hd.ne h).1)
  have g2:Fd l n (s9 l (Gs l d)):=Il hl g1
  have g3:Fd l n (Fj l (Gs l d)):=Il hl g2
  have g4:Fd l n (Ho l (Gs l d)):=Qs hl hll (fun h=>(hd.ei h).1) (fun h=>(hd.ne h).1)
  have g5:Fd l n (Xx l (Gs l d)):=bf hl hll (fun h=>(hd.ei h).1) (fun h=>(hd.ne h).1) (fun h=>(hd.no h).1)
  have g6:Fd l n (sa l (Gs l d)):=Il hl g5
  have p0:PC 331 l (I9 l (Gs l d)) n:=fun o Hp S ho hi hS=>by
   subst hS
   exact AOh l S (Gs l d) o Hp ho hi hl hll hn hd (hcl _ _ hn hd)
  have p1:PC 317 l (Xw l (Gs l d)) n:=fun o Hp S ho hi hS=>by
   subst hS
   exact AOe l S (Gs l d) o Hp ho hi hl hll hn hd p0
  have p2:PC 299 l (s9 l (Gs l d)) n:=fun o Hp S ho hi hS=>by
   subst hS
   exact AOd l S (Xw l (Gs l d)) o Hp ho hi hl hll g1 p1
  have p3:PC 282 l (Fj l (Gs l d)) n:=fun o Hp S ho hi hS=>by
   subst hS
   exact AOc l S (s9 l (Gs l d)) o Hp ho hi hl hll g2 p2
  have p4:PC 256 l (Ho l (Gs l d)) n:=fun o Hp S ho hi hS=>by
   subst hS
   exact AOg l S (Gs l d) o Hp ho hi hl hll hn hd g3 p3
  have p5:PC 234 l (Xx l (Gs l d)) n:=fun o Hp S ho hi hS=>by
   subst hS
   exact AOf l S (Gs l d) o Hp ho hi hl hll hn hd p4
  have p6:PC 199 l (sa l (Gs l d)) n:=fun o Hp S ho hi hS=>by
   subst hS
   exact AOb l S (Xx l (Gs l d)) o Hp ho hi hl hll g5 p5
  have p7:PC 154 l (fh l (Gs l d)) n:=fun o Hp S ho hi hS=>by
   subst hS
   exact AOa l S (sa l (Gs l d)) o Hp ho hi hl hll g6 p6
  exact ⟨p7,p5,p1⟩
theorem bj:∀(n:Nat) (e:Expr),okE n e→depthE e≤n
 | 0,_,h=>h.elim
 | n+1,e,h=>by
  rw [Q9]
  have:∀l:List Expr,(∀y∈l,okE n y)→Ei l≤n:=by
   intro l
   induction l with
   | nil=>intro _;exact Ao _
   | cons y r ih =>
    intro hl
    rw [Ei]
    have h1:=bj n y (hl y (by simp))
    have h2:=ih (fun z hz=>hl z (by simp [hz]))
    omega
  have:=this e.kids h.2.2
  omega
theorem AB7 (e:Expr) (x:Nat):Bv (e.kids.take x)+1≤sizeE e:=by
 rw [Lt]
 have:∀(l:List Expr) (x:Nat),Bv (l.take x)≤Bv l:=by
  intro l
  induction l with
  | nil=>intro x;simp
  | cons y r ih =>
   intro x
   cases x with
   | zero=>simp [Bv]
   | succ x =>
    have:=ih x
    rw [List.take_succ_cons,Bv,Bv]
    omega
 have:=this e.kids x
 omega
theorem AOi:∀(n:Nat) (e:Expr),okE n e→n≤1048576→∀Hp:List AObj,AFun Tryz.prog 134 [A7 e] Hp (A4 (depthE e:Nat)):=by
 intro n
 induction n with
 | zero=>exact fun e h=>h.elim
 | succ n ih =>
 intro e hok hn Hp
 refine Ah [.tmp 2] [0] Tryz.func134 Tryz.ntmps134 (fun d=>?_)
 refine nq ?_;refine Tv ?_;refine Z25 ?_;refine eo ?_
 refine Bg (α:=Nat) (fun x=>⟨25,A6 1 (.ro (D0 e)) (A6 3 (A4 (Ei (e.kids.take x):Nat)) (A6 4 (A4 (x:Nat)) (fun _=>.any))),Hp,[],[],none⟩) (fun x=>x≤e.kids.length) (fun x=>e.kids.length-x) (0) (Ao _) (B4 (by simp [Ei])) rfl (fun x hx=>?_)
 refine Z99 ?_;refine A2 [1,3,4,10] ?_
 refine A3 (fun ht10=>?_) (fun ht10=>?_)
 ·have hlt:x<e.kids.length:=by simpa using ht10
  have hkl:=hok.2.1
  refine Sj ?_
  refine A5 (h:=Ad (x) (A7 e.kids[x]) (fun _=>Ar hlt)) (hr:=?_)
  refine A5 ?_;refine Aa Tryz.call134 (ih e.kids[x] (hok.2.2 _ (As hlt)) (by omega) _) ?_;refine A5 ?_;refine A2 [1,3,4,5] ?_;refine Z16 ?_;refine A2 [1,3,4,5,21] ?_
  refine A3 (fun ht21=>?_) (fun ht21=>?_)
  ·have em:Ei (e.kids.take (x+1))=depthE e.kids[x]:=by rw [V4 _ hlt];have:=of_decide_eq_true ht21;omega
   refine Z45 ?_;refine eo ?_;refine Z87 ?_;exact AJp
  have em:Ei (e.kids.take (x+1))=Ei (e.kids.take x):=by rw [V4 _ hlt];have:=of_decide_eq_false ht21;omega
  refine Z68 ?_;exact AJp
 have hd1:=bj _ e hok
 have hxe:e.kids.take x=e.kids:=Cu (by simp at ht10;omega)
 have hdd:=Q9 e
 refine Zk ?_
 rw [hxe]
 refine Z43 ?_;exact A9 (Aj A8) ⟨by rw [hdd];rfl,rfl⟩

theorem AOj:∀(n:Nat) (e:Expr),okE n e→sizeE e≤1048576→∀Hp:List AObj,AFun Tryz.prog 135 [A7 e] Hp (A4 (sizeE e:Nat)):=by
 intro n
 induction n with
 | zero=>exact fun e h=>h.elim
 | succ n ih =>
 intro e hok hn Hp
 refine Ah [.tmp 2] [0] Tryz.func135 Tryz.ntmps135 (fun d=>?_)
 refine nq ?_;refine Tv ?_;refine Z25 ?_;refine eo ?_
 refine Bg (α:=Nat) (fun x=>⟨21,A6 1 (.ro (D0 e)) (A6 3 (A4 ((Bv (e.kids.take x):Nat)+1)) (A6 4 (A4 (x:Nat)) (fun _=>.any))),Hp,[],[],none⟩) (fun x=>x≤e.kids.length) (fun x=>e.kids.length-x) (0) (Ao _) (B4 (by simp [Bv])) rfl (fun x hx=>?_)
 refine Z99 ?_;refine A2 [1,3,4,9] ?_
 refine A3 (fun ht9=>?_) (fun ht9=>?_)
 ·have hlt:x<e.kids.length:=by simpa using ht9
  have hkl:=hok.2.1
  have hs1:=p8 e.kids hlt
  have hs2:=AB7 e (x+1)
  refine Z35 ?_;refine Z45 ?_;refine Z0 ?_
  refine A5 (h:=Ad (x) (A7 e.kids[x]) (fun _=>Ar hlt)) (hr:=?_)
  refine A5 ?_
  refine Aa Tryz.call135 (ih e.kids[x] (hok.2.2 _ (As hlt)) (by have:=AAo e hlt;omega) _) ?_
  refine Z0 ?_;refine eo ?_;refine Z87 ?_;refine eo ?_;exact Au (x+1) hlt (by omega) (Bk (by simp only [hs1];congr 4;simp only [AV.v.injEq,Value.int.injEq,true_and];omega))
 have hxe:e.kids.take x=e.kids:=Cu (by simp at ht9;omega)
 have hdd:=Lt e
 refine Z36 ?_;refine iz ?_;exact A9 (Aj A8) ⟨by rw [hxe,hdd];simp;omega,rfl⟩

def Uh (s:Str):Int:=if (((s==[108,101,110]) || (s==[115,116,114])) || (s==[110,117,109])) || (s==[105,115,110,117,108,108]) then 1 else if ((s==[110,118,108]) || (s==[108,101,102,116])) || (s==[114,105,103,104,116]) then 2 else if s==[105,102] then 3 else -1
theorem wp (s:Str):Ci s=Uh s:=by
 by_cases h:s∈arityList.map (·.1)
 ·have:((arityList.map (·.1)).all fun s=>decide (Ci s=Uh s))=true:=by kernel_rfl
  exact of_decide_eq_true (B1.1 this s h)
 have h1:Ci s = -1:=by
  unfold Ci
  rw [R2.2 fun p hp=>by
   simp only [beq_iff_eq]
   rintro rfl
   exact h (Cj.2 ⟨p,hp,rfl⟩)]
 rw [h1]
 simp only [arityList,Br,Ct,B3,Ed,or_false,not_or] at h
 obtain ⟨a1,a2,a3,a4,a5,a6,a7,a8⟩:=h
 simp [Uh,a1,a2,a3,a4,a5,a6,a7,a8]
theorem AM1 (s:Str) (Hp:List AObj):AFun Tryz.prog 214 [Ab s] Hp (A4 (Uh s)):=by
 refine Ah [.tmp 2] [0] Tryz.func214 Tryz.ntmps214 (fun d=>?_)
 refine nk ?_;refine A2 [3] ?_;refine Ju ?_;refine Z7 ?_;refine A2 [3,4] ?_
 refine A3 (fun ht4=>?_) (fun ht4=>?_)
 ·refine Z4 ?_
  refine A3 (fun ht4=>?_) (fun ht4=>?_)
  ·exact Z59
  refine Z7 ?_;refine A2 [3,9] ?_
  refine A3 (fun ht9=>?_) (fun ht9=>?_)
  ·refine Z4 ?_
   refine A3 (fun ht9=>?_) (fun ht9=>?_)
   ·exact Z59
   refine Vp ?_
   refine A3 (fun ht13=>?_) (fun ht13=>?_)
   ·exact Z59
   exact Vq
  refine Z1 ?_;refine A2 [3,9] ?_
  refine A3 (fun ht9=>?_) (fun ht9=>?_)
  ·refine Z4 ?_
   refine A3 (fun ht9=>?_) (fun ht9=>?_)
   ·exact Z59
   refine Vp ?_
   refine A3 (fun ht13=>?_) (fun ht13=>?_)
   ·exact Z59
   exact Vq
  refine Z45 ?_;refine ADc ?_
  refine A3 (fun ht9=>?_) (fun ht9=>?_)
  ·exact Z59
  refine Vp ?_
  refine A3 (fun ht13=>?_) (fun ht13=>?_)
  ·exact Z59
  exact Vq
 refine Z1 ?_;refine A2 [3,4] ?_
 refine A3 (fun ht4=>?_) (fun ht4=>?_)
 ·refine Z4 ?_
  refine A3 (fun ht4=>?_) (fun ht4=>?_)
  ·exact Z59
  refine Z7 ?_;refine A2 [3,9] ?_
  refine A3 (fun ht9=>?_) (fun ht9=>?_)
  ·refine Z4 ?_
   refine A3 (fun ht9=>?_) (fun ht9=>?_)
   ·exact Z59
   refine Vp ?_
   refine A3 (fun ht13=>?_) (fun ht13=>?_)
   ·exact Z59
   exact Vq
  refine Z1 ?_;refine A2 [3,9] ?_
  refine A3 (fun ht9=>?_) (fun ht9=>?_)
  ·refine Z4 ?_
   refine A3 (fun ht9=>?_) (fun ht9=>?_)
   ·exact Z59
   refine Vp ?_
   refine A3 (fun ht13=>?_) (fun ht13=>?_)
   ·exact Z59
   exact Vq
  refine Z45 ?_;refine ADc ?_
  refine A3 (fun ht9=>?_) (fun ht9=>?_)
  ·exact Z59
  refine Vp ?_
  refine A3 (fun ht13=>?_) (fun ht13=>?_)
  ·exact Z59
  exact Vq
 refine Z1 ?_;refine A2 [3,4] ?_
 refine A3 (fun ht4=>?_) (fun ht4=>?_)
 ·refine Z4 ?_
  refine A3 (fun ht4=>?_) (fun ht4=>?_)
  ·exact Z59
  refine Z7 ?_;refine A2 [3,9] ?_
  refine A3 (fun ht9=>?_) (fun ht9=>?_)
  ·refine Z4 ?_
   refine A3 (fun ht9=>?_) (fun ht9=>?_)
   ·exact Z59
   refine Vp ?_
   refine A3 (fun ht13=>?_) (fun ht13=>?_)
   ·exact Z59
   exact Vq
  refine Z1 ?_;refine A2 [3,9] ?_
  refine A3 (fun ht9=>?_) (fun ht9=>?_)
  ·refine Z4 ?_
   refine A3 (fun ht9=>?_) (fun ht9=>?_)
   ·exact Z59
   refine Vp ?_
   refine A3 (fun ht13=>?_) (fun ht13=>?_)
   ·exact Z59
   exact Vq
  refine Z45 ?_;refine ADc ?_
  refine A3 (fun ht9=>?_) (fun ht9=>?_)
  ·exact Z59
  refine Vp ?_
  refine A3 (fun ht13=>?_) (fun ht13=>?_)
  ·exact Z59
  exact Vq
 refine Z45 ?_;refine A2 [3,4] ?_;refine Gf ?_
 refine A3 (fun ht4=>?_) (fun ht4=>?_)
 ·exact Z59
 refine Z7 ?_;refine A2 [3,9] ?_
 refine A3 (fun ht9=>?_) (fun ht9=>?_)
 ·refine Z4 ?_
  refine A3 (fun ht9=>?_) (fun ht9=>?_)
  ·exact Z59
  refine Vp ?_
  refine A3 (fun ht13=>?_) (fun ht13=>?_)
  ·exact Z59
  exact Vq
 refine Z1 ?_;refine A2 [3,9] ?_
 refine A3 (fun ht9=>?_) (fun ht9=>?_)
 ·refine Z4 ?_
  refine A3 (fun ht9=>?_) (fun ht9=>?_)
  ·exact Z59
  refine Vp ?_
  refine A3 (fun ht13=>?_) (fun ht13=>?_)
  ·exact Z59
  exact Vq
 refine Z45 ?_;refine ADc ?_
 refine A3 (fun ht9=>?_) (fun ht9=>?_)
 ·exact Z59
 refine Vp ?_
 refine A3 (fun ht13=>?_) (fun ht13=>?_)
 ·exact Z59
 exact Vq

theorem AB8 {s:Str} {x:Nat} (hx:x<levels.length) (h:levels[x].contains s=true) (h0:∀(j:Nat) (l:List Str),j<x→levels[j]? = some l→l.contains s=false):Hn s=(x:Int):=by
 unfold Hn
 rw [Ll.2 ⟨hx,h,fun j hj=>by
  have e:=h0 j levels[j] hj (Ac _)
  show ¬(levels[j].contains s=true)
  rw [e]
  simp⟩]
theorem AB9 {s:Str} (h0:∀(j:Nat) (l:List Str),j<levels.length→levels[j]? = some l→l.contains s=false):Hn s = -1:=by
 unfold Hn
 rw [R3.2 fun l hl=>by
  obtain ⟨j,hj⟩:=C9 hl
  exact h0 j l (Ae.1 hj).1 hj]
theorem q9:levels.length=6:=rfl
theorem fl {x:Nat} (hx:x<levels.length):levels[x].length≤6:=by
 have:(levels.all fun l=>decide (l.length≤6))=true:=by kernel_rfl
 exact of_decide_eq_true (B1.1 this _ (As hx))
theorem Zt {l:List Str} {s:Str} (h:∀(j:Nat) (w:Str),j<l.length→l[j]? = some w→(w==s)=false):l.contains s=false:=by
 rw [G7]
 intro hc
 have hm:s∈l:=by simpa using hc
 obtain ⟨j,hj⟩:=C9 hm
 have:=h j s (Ae.1 hj).1 hj
 simp at this
theorem AM2 (s:Str) (Hp:List AObj):AFun Tryz.prog 170 [Ab s] Hp (A4 (Hn s)):=by
 refine Ah [.tmp 2] [0] Tryz.func170 Tryz.ntmps170 (fun d=>?_)
 refine Z44 ?_;refine Z29 ?_;refine AH4 ?_;refine AH4 ?_;refine AH4 ?_;refine Kk ?_;refine Mn ?_;refine Z25 ?_;refine A2 [0,3,4] ?_
 refine Bg (α:=Nat) (fun x=>⟨38,A6 0 (Ab s) (A6 3 (.slice true 1 (levels.map E4)) (A6 4 (A4 (x:Nat)) (fun _=>.any))),Hp,[],[],none⟩) (fun x=>x≤levels.length∧∀(j:Nat) (l:List Str),j<x→levels[j]? = some l→l.contains s=false) (fun x=>levels.length-x) (0) ⟨Ao _,fun j l h=>by omega⟩ (Em _) rfl (fun x hx=>?_)
 refine Z46 ?_;refine A2 [0,3,4,16] ?_
 refine A3 (fun ht16=>?_) (fun ht16=>?_)
 ·have hlt:x<levels.length:=by simpa using ht16
  have h6:=q9
  have hls:=fl hlt
  refine Z35 ?_;refine Z2 ?_;refine A2 [0,3,4,5] ?_
  refine Bg (α:=Nat) (fun y=>⟨38,A6 0 (Ab s) (A6 3 (.slice true 1 (levels.map E4)) (A6 4 (A4 (x:Nat)) (A6 5 (A4 (y:Nat)) (fun _=>.any)))),Hp,[],[],none⟩) (fun y=>y≤levels[x].length∧∀(j:Nat) (w:Str),j<y→levels[x][j]? = some w→(w==s)=false) (fun y=>levels[x].length-y) (0) ⟨Ao _,fun j l h=>by omega⟩ (Em _) rfl (fun y hy=>?_)
  refine Z30 ?_
  refine A5 (h:=Ad (x) (E4 levels[x]) (fun _=>Ar hlt)) (hr:=?_)
  refine Z8 ?_;refine A2 [0,3,4,5,25] ?_
  refine A3 (fun ht25=>?_) (fun ht25=>?_)
  ·have hly:y<levels[x].length:=by simpa using ht25
   refine Sk ?_
   refine A5 (h:=Ad (x) (E4 levels[x]) (fun _=>Ar hlt)) (hr:=?_)
   refine Z0 ?_
   refine A5 (h:=Ad (y) (Ab (levels[x])[y]) (fun _=>Ar hly)) (hr:=?_)
   refine Z8 ?_;refine A2 [0,3,4,5,36] ?_
   refine A3 (fun ht36=>?_) (fun ht36=>?_)
   ·refine iz ?_;refine Z6 ?_;refine Lp ?_;refine Z28 ?_;exact A9 (Aj A8) ⟨by rw [AB8 hlt (by simp only [R0];have:=ht36;simp only [beq_iff_eq] at this;rw [←this];exact As hly) hx.2],rfl⟩
   refine Z68 ?_;refine A2 [0,3,4,5] ?_;exact Au (y+1) ⟨hly,Bw hly hy.2 ht36⟩ (by omega) (Bk rfl)
  have hny:levels[x].length≤y:=by simpa using ht25
  refine nj ?_;refine Z87 ?_;refine A2 [0,3,4] ?_;exact Au (x+1) ⟨hlt,Bw hlt hx.2 (Zt fun j w hj hw=>hy.2 j w (by omega) hw)⟩ (by omega) (Bk rfl)
 have hnx:levels.length≤x:=by simpa using ht16
 refine iy ?_;exact A9 (Aj A8) ⟨by rw [AB9 (fun j l hj h=>hx.2 j l (by omega) h)],rfl⟩

theorem AOk (e:Expr) (hs:e.text.length≤1048576) (Hp:List AObj):AFun Tryz.prog 168 [A7 e] Hp (B0 (I7 e)):=by
 refine Ah [.tmp 2] [0] Tryz.func168 Tryz.ntmps168 (fun d=>?_)
 refine Z66 ?_;refine Z34 ?_;refine Tv ?_;refine Z30 ?_;refine A2 [1,3,9] ?_
 refine A3 (fun ht9=>?_) (fun ht9=>?_)
 ·refine Z1 ?_;refine Aa Tryz.call213 (ANe e.val _) ?_;refine A5 ?_;refine Qg ?_;refine Z67 ?_;refine Z21 ?_;refine Z43 ?_;refine Gg ?_;exact ADg
 refine j5 ?_;refine nr ?_
 refine A5 (h:=Q.neqAgg AA4 (Sl e.val.kind e.val.n 0 0 e.val.s [])) (hr:=?_)
 refine A2 [1,3,31] ?_
 refine A3 (fun ht31=>?_) (fun ht31=>?_)
 ·refine nd ?_;exact ADg
 refine j5 ?_;refine A2 [1,3,33] ?_;refine Wy ?_;refine A2 [1,3,33,34] ?_
 refine A3 (fun ht34=>?_) (fun ht34=>?_)
 ·refine Z1 ?_;refine Aa Tryz.call86 (c86 e.text hs _) ?_;refine A5 ?_;refine Z5 ?_;exact AK3
 refine Z7 ?_;refine A2 [1,3,33,43] ?_
 refine A3 (fun ht43=>?_) (fun ht43=>?_)
 ·refine Z4 ?_
  refine A3 (fun ht43=>?_) (fun ht43=>?_)
  ·refine Z1 ?_;exact AH6
  refine Z1 ?_;refine A2 [1,3,33,53] ?_
  refine A3 (fun ht53=>?_) (fun ht53=>?_)
  ·refine Z1 ?_;exact AKo
  refine Z1 ?_;refine A2 [1,3,63] ?_
  refine A3 (fun ht63=>?_) (fun ht63=>?_)
  ·refine Z1 ?_;refine Aa Tryz.call214 (AM1 e.text _) ?_;refine Z8 ?_;refine Z3 ?_;exact Z54
  refine Z47 ?_;exact AJu
 refine Z45 ?_;refine A2 [1,3,33,43] ?_;refine Gf ?_
 refine A3 (fun ht43=>?_) (fun ht43=>?_)
 ·refine Z1 ?_;exact AH6
 refine Z1 ?_;refine A2 [1,3,33,53] ?_
 refine A3 (fun ht53=>?_) (fun ht53=>?_)
 ·refine Z1 ?_;exact AKo
 refine Z1 ?_;refine A2 [1,3,63] ?_
 refine A3 (fun ht63=>?_) (fun ht63=>?_)
 ·refine Z1 ?_;refine Aa Tryz.call214 (AM1 e.text _) ?_;refine Z8 ?_;refine Z3 ?_;exact Z54
 refine Z47 ?_;exact AJu

theorem AOl:∀(n:Nat) (e:Expr),okE n e→∀Hp:List AObj,AFun Tryz.prog 136 [A7 e] Hp (B0 (F7 I7 e)):=by
 intro n
 induction n with
 | zero=>exact fun e h=>h.elim
 | succ n ih =>
 intro e hok Hp
 refine Ah [.tmp 2] [0] Tryz.func136 Tryz.ntmps136 (fun d=>?_)
 refine Z66 ?_;refine Z25 ?_;refine Aa Tryz.call168 (AOk e hok.1 _) ?_;refine A5 ?_;refine A2 [1,6] ?_
 refine A3 (fun ht6=>?_) (fun ht6=>?_)
 ·refine nd ?_;exact A9 (Aj A8) ⟨by rw [Ht];simp at ht6;rw [ht6];rfl,rfl⟩
 refine Mw ?_;refine Tv ?_
 refine Bg (α:=Nat) (fun x=>⟨21,A6 1 (.ro (D0 e)) (A6 3 (A4 (x:Nat)) (fun _=>.any)),Hp,[],[],none⟩) (fun x=>x≤e.kids.length∧Km I7 (e.kids.take x)=true) (fun x=>e.kids.length-x) (0) ⟨Ao _,rfl⟩ (Em _) rfl (fun x hx=>?_)
 refine Z99 ?_;refine A2 [1,3,11] ?_
 refine A3 (fun ht11=>?_) (fun ht11=>?_)
 ·have hlt:x<e.kids.length:=by simpa using ht11
  have hkl:=hok.2.1
  refine Sj ?_
  refine A5 (h:=Ad (x) (A7 e.kids[x]) (fun _=>Ar hlt)) (hr:=?_)
  refine A5 ?_;refine Aa Tryz.call136 (ih e.kids[x] (hok.2.2 _ (As hlt)) _) ?_;refine A5 ?_;refine A2 [1,3,20] ?_
  refine A3 (fun ht20=>?_) (fun ht20=>?_)
  ·refine Zi ?_;exact A9 (Aj A8) ⟨by rw [show F7 I7 e=false from by rw [G7];intro h;rw [Ht,Az] at h;have:=(J7 _ _).1 h.2 _ (As hlt);rw [this] at ht20;cases ht20],rfl⟩
  refine Z68 ?_;refine Tv ?_;exact Au (x+1) ⟨hlt,by rw [Id hlt,V3,hx.2,Km,Km,Tf,Fb];simpa using ht20⟩ (by omega) (Bk rfl)
 have hxe:e.kids.take x=e.kids:=Cu (by simp at ht11;omega)
 refine iy ?_;exact A9 (Aj A8) ⟨by have:=hx.2;rw [hxe] at this;rw [Ht,this];simp at ht6;rw [ht6];rfl,rfl⟩

theorem ABa (e:Expr):F7 I7 e=F7 E5 e:=by rw [show E5=I7 from funext jt]
theorem c87 (n:Nat) (e:Expr) (hok:okE n e) (hn:n≤1048576) (hs:sizeE e≤1048576) (Hp:List AObj):AFun Tryz.prog 87 [A7 e] Hp (B0 (B2 e)):=by
 refine Ah [.tmp 2] [0] Tryz.func87 Tryz.ntmps87 (fun d=>?_)
 refine nq ?_;refine Aa Tryz.call134 (AOi n e hok hn _) ?_;refine Z95 ?_;refine Bm Tryz.call135 (fun hB=>AOj n e hok hs _) ?_;refine B7 ?_;refine Z95 ?_;refine Bm Tryz.call136 (fun hB=>AOl n e hok _) ?_;refine Z43 ?_;exact A9 (Aj A8) ⟨by rw [B2,ABa,show decide ((depthE e:Int)≤30)=decide (depthE e≤30) by rw [decide_eq_decide];omega,show decide ((sizeE e:Int)≤300)=decide (sizeE e≤300) by rw [decide_eq_decide];omega],rfl⟩

theorem so {n:Nat} {U F:Nat→List AObj} {H':List AObj} (h:N1 (fun _=>true) U F n H'):H'=U n:=by
 rcases h with ⟨_,h⟩|⟨j,_,_,h,_⟩
 ·exact h
 cases h
theorem wq {α:Type} {l:List α} {k:Nat} {y:α} (h:l[k]? = some y):l.take (k+1)=l.take k++[y]:=by rw [List.take_add_one,h];rfl
theorem ABb {L:List (Int×Expr)} {k:Nat} {it:Int×Expr} (h:L[k]? = some it):G6 0 (L.take (k+1))=if G6 0 (L.take k)<it.1 then it.1 else G6 0 (L.take k):=by
 have e:G6 0 (L.take (k+1))=max (G6 0 (L.take k)) it.1:=by
  unfold G6
  rw [wq h,mj]
  rfl
 rw [e]
 split<;>omega
theorem N5 {n k:Nat} {o:Bool} {l:List Str}:Low n (.slice o k (l.map Ab)):=by simp [or_imp,forall_and]
theorem AOm (n:Nat) (e:Expr) (hok:okE n e) (hn:n≤1048576) (hs:sizeE e≤1048576) (Hp:List AObj):AFun Tryz.prog 155 [A7 e] Hp (A4 (depthE e:Nat)):=by
 refine Ah [.tmp 2] [0,4] Tryz.func155 Tryz.ntmps155 (fun d=>?_)
 refine Z1 ?_;refine A2 [1,4] ?_;refine Ef ?_;refine Z11 ?_;refine eo ?_;refine Z53 ?_
 refine Mm (fun hlow=>?_)
 refine AH7 ?_;refine A2 [3,4,6] ?_;refine Ju ?_
 refine Nq (m:=1) Tryz.call173 (fun FR as' bd' hFR has hbd=>?_)
 have hFRl:∀s,Low (Hp.length+3) (FR s):=by
  intro s
  rw [hFR]
  refine Ot ?_
  revert s
  repeat (first|exact Bt|refine Bs (by simp [oid,Am]<;>try omega) ?_)
 have hOl:∀{k:Nat},∀x∈[AObj.cells 3 [A4 (G6 0 ((C4 1 e).take k))],AObj.defs,AObj.loop LoopState.ready none FR 13 #[7,8] as' bd' (oid Hp.length 1)],ObjLow (Hp.length+3) x:=by
  intro k x hx
  simp only [B3,Dt,or_false] at hx
  rcases hx with rfl|rfl|rfl
  ·intro y hy
   rw [Bh.1 hy]
   first|exact N5|simp
  ·trivial
  exact zw
 refine ⟨fun _ H'=>N1 (fun _=>true) (fun k=>Hp++[AObj.cells 3 [A4 (G6 0 ((C4 1 e).take k))],AObj.defs,AObj.loop LoopState.ready none FR 13 #[7,8] as' bd' (oid Hp.length 1)]) (fun k=>Hp++[AObj.cells 3 [A4 (G6 0 ((C4 1 e).take k))],AObj.defs,AObj.loop LoopState.ready none FR 13 #[7,8] as' bd' (oid Hp.length 1)]) (C4 1 e).length H',AHu (l:=oid Hp.length 2) (go:=fun _=>true) (U:=fun k=>Hp++[AObj.cells 3 [A4 (G6 0 ((C4 1 e).take k))],AObj.defs,AObj.loop LoopState.ready none FR 13 #[7,8] as' bd' (oid Hp.length 1)]) (F:=fun k=>Hp++[AObj.cells 3 [A4 (G6 0 ((C4 1 e).take k))],AObj.defs,AObj.loop LoopState.ready none FR 13 #[7,8] as' bd' (oid Hp.length 1)]) (n0:=Hp.length+3) ⟨fun k=>by simp,fun k=>by simp,fun k x hx=>?_,fun k x hx=>?_,by simp [oid],fun X k it hit hgo=>?_⟩ n hok hn,?_⟩
 ·exact zx
 ·exact zx
 ·have hklt:k<sizeE e:=by rw [←Gi 1 e];exact (Ae.1 hit).1
  generalize hV:(Hp++[AObj.cells 3 [A4 (G6 0 ((C4 1 e).take k))],AObj.defs,AObj.loop LoopState.ready none FR 13 #[7,8] as' bd' (oid Hp.length 1)]++X)=V
  have hL:V[oid Hp.length 2]? = some (AObj.loop LoopState.ready none FR 13 #[7,8] as' bd' (oid Hp.length 1)):=by rw [←hV,Bp,B6];rfl
  have hA0:V[oid Hp.length 0]? = some (AObj.cells 3 [A4 (G6 0 ((C4 1 e).take k))]):=by rw [←hV,Bp,B6];rfl
  refine Nh (pd:=none) (fr:=FR) (sz:=13) (ps:=#[7,8]) (df:=oid Hp.length 1) (asg:=as') (bd:=bd') hL rfl (by decide) (fun d=>?_)
  subst hFR has hbd
  refine Ep [3,7,8] ?_;refine Z61 ?_;refine A2 [3,4] ?_
  refine ⟨rfl,none,hL,?_⟩
  generalize hbz:(AObj.loop LoopState.busy _ _ _ _ _ _ _)=bz
  have hA:(V.set (oid Hp.length 2) bz)[oid Hp.length 0]? = some (AObj.cells 3 [A4 (G6 0 ((C4 1 e).take k))]):=by rw [Cf (Do (by decide))];exact hA0
  refine Ju ?_;refine Og ?_
  refine A5 (h:=Bj hA) (hr:=?_)
  refine A5 ?_;refine R.maxI ?_
  refine De jS hA ?_ ?_
  ·simp
  refine Z96 ?_
  subst hbz
  refine zy ?_
  refine ⟨rfl,?_⟩
  rw [if_pos rfl]
  subst hV
  simp only [Bp,Du,E8,E3,List.set_cons_succ,List.set_cons_zero]
  rw [ABb hit]
 intro r H' hq
 obtain rfl:=so hq
 refine ⟨Hp,_,_,_,rfl,rfl,fun h=>h,?_,rfl,by simp,?_⟩
 ·intro o ho
  have:o=oid Hp.length 1:=by simpa using ho
  subst this
  rw [B6]
  rfl
 refine Z9 ?_;refine iz ?_;exact A9 (Aj A8) ⟨by rw [M8,V5],rfl⟩

theorem AOn (n:Nat) (e:Expr) (hok:okE n e) (hn:n≤1048576) (hs:sizeE e≤1048576) (Hp:List AObj):AFun Tryz.prog 157 [A7 e] Hp (A4 (sizeE e:Nat)):=by
 refine Ah [.tmp 2] [0] Tryz.func157 Tryz.ntmps157 (fun d=>?_)
 refine Z66 ?_;refine Ef ?_;refine Z11 ?_;refine Tv ?_;refine Z53 ?_
 refine Mm (fun hlow=>?_)
 refine AH7 ?_;refine A2 [3,5] ?_;refine Ju ?_
 refine Nq (m:=1) Tryz.call173 (fun FR as' bd' hFR has hbd=>?_)
 have hFRl:∀s,Low (Hp.length+3) (FR s):=by
  intro s
  rw [hFR]
  refine Ot ?_
  revert s
  repeat (first|exact Bt|refine Bs (by simp [oid,Am]<;>try omega) ?_)
 have hOl:∀{k:Nat},∀x∈[AObj.cells 3 [A4 ((k:Nat))],AObj.defs,AObj.loop LoopState.ready none FR 11 #[6,7] as' bd' (oid Hp.length 1)],ObjLow (Hp.length+3) x:=by
  intro k x hx
  simp only [B3,Dt,or_false] at hx
  rcases hx with rfl|rfl|rfl
  ·intro y hy
   rw [Bh.1 hy]
   first|exact N5|simp
  ·trivial
  exact zw
 refine ⟨fun _ H'=>N1 (fun _=>true) (fun k=>Hp++[AObj.cells 3 [A4 ((k:Nat))],AObj.defs,AObj.loop LoopState.ready none FR 11 #[6,7] as' bd' (oid Hp.length 1)]) (fun k=>Hp++[AObj.cells 3 [A4 ((k:Nat))],AObj.defs,AObj.loop LoopState.ready none FR 11 #[6,7] as' bd' (oid Hp.length 1)]) (C4 1 e).length H',AHu (l:=oid Hp.length 2) (go:=fun _=>true) (U:=fun k=>Hp++[AObj.cells 3 [A4 ((k:Nat))],AObj.defs,AObj.loop LoopState.ready none FR 11 #[6,7] as' bd' (oid Hp.length 1)]) (F:=fun k=>Hp++[AObj.cells 3 [A4 ((k:Nat))],AObj.defs,AObj.loop LoopState.ready none FR 11 #[6,7] as' bd' (oid Hp.length 1)]) (n0:=Hp.length+3) ⟨fun k=>by simp,fun k=>by simp,fun k x hx=>?_,fun k x hx=>?_,by simp [oid],fun X k it hit hgo=>?_⟩ n hok hn,?_⟩
 ·exact zx
 ·exact zx
 ·have hklt:k<sizeE e:=by rw [←Gi 1 e];exact (Ae.1 hit).1
  generalize hV:(Hp++[AObj.cells 3 [A4 ((k:Nat))],AObj.defs,AObj.loop LoopState.ready none FR 11 #[6,7] as' bd' (oid Hp.length 1)]++X)=V
  have hL:V[oid Hp.length 2]? = some (AObj.loop LoopState.ready none FR 11 #[6,7] as' bd' (oid Hp.length 1)):=by rw [←hV,Bp,B6];rfl
  have hA0:V[oid Hp.length 0]? = some (AObj.cells 3 [A4 ((k:Nat))]):=by rw [←hV,Bp,B6];rfl
  refine Nh (pd:=none) (fr:=FR) (sz:=11) (ps:=#[6,7]) (df:=oid Hp.length 1) (asg:=as') (bd:=bd') hL rfl (by decide) (fun d=>?_)
  subst hFR has hbd
  refine Ep [3,6,7] ?_;refine Gc ?_
  refine ⟨rfl,none,hL,?_⟩
  generalize hbz:(AObj.loop LoopState.busy _ _ _ _ _ _ _)=bz
  have hA:(V.set (oid Hp.length 2) bz)[oid Hp.length 0]? = some (AObj.cells 3 [A4 ((k:Nat))]):=by rw [Cf (Do (by decide))];exact hA0
  refine Ju ?_;refine Og ?_
  refine A5 (h:=Bj hA) (hr:=?_)
  refine A5 ?_
  refine De jS hA ?_ ?_
  ·simp
  refine Z96 ?_
  subst hbz
  refine zy ?_
  refine ⟨rfl,?_⟩
  rw [if_pos rfl]
  subst hV
  simp only [Bp,Du,E8,E3,List.set_cons_succ,List.set_cons_zero]
  rfl
 intro r H' hq
 obtain rfl:=so hq
 refine ⟨Hp,_,_,_,rfl,rfl,fun h=>h,?_,rfl,by simp,?_⟩
 ·intro o ho
  have:o=oid Hp.length 1:=by simpa using ho
  subst this
  rw [B6]
  rfl
 refine Z9 ?_;refine iz ?_;exact A9 (Aj A8) ⟨by rw [Gi],rfl⟩

theorem Y1 {l:List Tok} (hl:TokEnd l) (hll:l.length≤1048576) {i:Nat} (hi:i<l.length):Fact l ⟨i,0,0,0⟩ (atR l i):=(Uf hl hll 31 0 rfl (by decide)).1 ⟨i,0,0,0⟩ hi rfl
theorem AI2 {l:List Tok} {i:Nat} (hi:i<l.length) (hl:TokEnd l) (hll:l.length≤1048576) (hcl:∀n Dv,n≤30→DeepC l Dv n→ki l Dv n) (o:Nat) (Hp:List AObj) (ho:Hp[o]? = some (pr l ⟨i,0,0,0⟩)):ACall Tryz.prog 154 [.ptr o 0] Hp (fun r H'=>r=A7 (atR l i).1∧H'=Hp.set o (pr l (atR l i).2)):=(kj hl hll hcl 31 0 rfl (by decide)).1 o Hp ⟨i,0,0,0⟩ ho hi rfl
theorem km {l:List Tok} (hl:TokEnd l):(Af l (l.length-1)).kind=0:=by
 obtain ⟨L,z,rfl,hz,_⟩:=hl.split
 unfold Af
 simp [hz]
theorem AM3 (l:List Tok) (i:Nat) (hi:i<l.length) (hl:TokEnd l) (hll:l.length≤500000) (hcl:∀n Dv,n≤30→DeepC l Dv n→ki l Dv n) (Hp:List AObj):AFun Tryz.prog 120 [rm l,A4 (i:Int)] Hp (.tup [A7 (atM l i).1,A4 (atM l i).2.1,.agg [A4 (atM l i).2.2.1,A4 (atM l i).2.2.2]]):=by
 have hmap:(l.map Ix).length=l.length:=Ag ..
 have hll1:l.length≤1048576:=by omega
 have hq:=Y1 hl hll1 hi
 have hlast:=km hl
 have hpos:=hl.pos
 have hqlt:=hq.lt
 have hqs:=hq.sz
 have hok0:okE 1048576 (atR l i).1:=Fq (by have:=hq.lt;omega) hq.ok
 have hsz0:sizeE (atR l i).1≤1048576:=by have:=hq.sz;have:=hq.lt;omega
 refine Ah [.cell 4 27,.tmp 5,.cell 6 73] [0,1] Tryz.func120 Tryz.ntmps120 (fun d=>?_)
 refine Z32 ?_;refine A5 ?_;refine Rd ?_;refine A2 [0,1,4,6] ?_;refine Z30 ?_;refine Qg ?_;refine Z52 ?_
 refine B7 (h:=Ad ((l.length-1)) (Ix (Af l (l.length-1))) (fun _=>Mq (by omega))) (hr:=?_)
 refine Z5 ?_;refine Z80 ?_;refine A2 [0,1,4,6,26] ?_
 refine A3 (fun ht26=>?_) (fun ht26=>?_)
 ·simp only [Dg,decide_eq_true_eq,bne_iff_ne,ne_eq] at ht26
  rcases ht26 with (h|h)|h
  ·omega
  ·simp at h;omega
  exact absurd hlast h
 refine Nr ?_;refine Nk (places:=#[(0,1),(1,1),(2,1),(3,2)]) jU (fun w=>by simp) jZ ?_;refine R.box ?_;refine A5 ?_;refine A2 [0,1,4,6,7] ?_;refine Z2 ?_
 refine Tp (n:=2) (x:=pr l (atR l i).2) Tryz.call154 (AI2 hi hl hll1 hcl (oid Hp.length 2) _ (by rw [B6];rfl)) ?_
 refine Z11 ?_;refine A2 [0,1,4,6,7,8] ?_
 refine Np ⟨81,A6 4 (.ptr (oid Hp.length 0) 0) (A6 6 (.ptr (oid Hp.length 1) 0) (A6 7 (.ptr (oid Hp.length 2) 0) (A6 8 (.ptr (oid Hp.length 3) 0) (fun _=>.any)))),Hp,[.cells 27 [A4 0,Ab [],A4 0,A4 0,Ab [],.nil],.cells 73 [A4 0,A4 0],pr l (atS l i (atR l i)),.cells 27 (D0 (atR l i).1)],[],none⟩ ?_ ?_
 ·refine Ju ?_;refine Z34 ?_;refine Z8 ?_;refine A2 [0,1,4,6,7,8,35] ?_
  refine A3 (fun ht35=>?_) (fun ht35=>?_)
  ·have e:atS l i (atR l i)=(atR l i).2:=if_pos ht35
   refine Ep [4,6,7,8] ?_;refine Gc ?_;exact AD0
  have e0:¬((atR l i).2.code != 0)=true:=by rw [ht35];simp
  refine Z2 ?_;refine Aa Tryz.call155 (AOm 1048576 _ hok0 (An _) hsz0 _) ?_;refine Z0 ?_;refine A2 [0,1,4,6,7,8,42] ?_
  refine A3 (fun ht42=>?_) (fun ht42=>?_)
  ·have e:atS l i (atR l i)=Ex 18 (Af l i).at_ (atR l i).2:=by unfold atS;rw [if_neg e0,if_pos ht42]
   refine Z74 ?_
   refine A5 (h:=Ad (i) (Ix (Af l i)) (fun _=>Mq hi)) (hr:=?_)
   refine Z0 ?_
   refine Tp (n:=2) (x:=pr l (Ex 18 (Af l i).at_ (atR l i).2)) Tryz.call156 (wn l (atR l i).2 18 (Af l i).at_ (oid Hp.length 2) _ (by rw [B6];rfl)) ?_
   refine A2 [4,6,7,8] ?_;exact AD0
  have e1:¬decide ((30:Int)<depthE (atR l i).1)=true:=by rw [ht42];simp
  refine Z2 ?_;refine Aa Tryz.call157 (AOn 1048576 _ hok0 (An _) hsz0 _) ?_;refine Z0 ?_;refine A2 [0,1,4,6,7,8,53] ?_
  refine A3 (fun ht53=>?_) (fun ht53=>?_)
  ·have e:atS l i (atR l i)=Ex 3 (Af l i).at_ (atR l i).2:=by unfold atS;rw [if_neg e0,if_neg e1,if_pos ht53]
   refine Z74 ?_
   refine A5 (h:=Ad (i) (Ix (Af l i)) (fun _=>Mq hi)) (hr:=?_)
   refine Z0 ?_
   refine Tp (n:=2) (x:=pr l (Ex 3 (Af l i).at_ (atR l i).2)) Tryz.call156 (wn l (atR l i).2 3 (Af l i).at_ (oid Hp.length 2) _ (by rw [B6];rfl)) ?_
   refine A2 [4,6,7,8] ?_;exact AD0
  have e:atS l i (atR l i)=(atR l i).2:=by unfold atS;rw [if_neg e0,if_neg e1,if_neg (by rw [ht53];simp)]
  refine Ep [4,6,7,8] ?_;refine Gc ?_;exact AD0
 refine Z46 ?_;refine Z0 ?_;refine A2 [4,6,7,8,69] ?_
 refine A3 (fun ht69=>?_) (fun ht69=>?_)
 ·have e:atM l i=(Aw,0,(atS l i (atR l i)).code,(atS l i (atR l i)).at_):=if_pos ht69
  refine Hh [0,0,2,6,14,1,33,127] [5] [.q 5 [] [],.s [] (some 0) [] [],.q 1 [0] []] (fun _=>Hp) (fun _=>[.cells 27 [A4 0,Ab [],A4 0,A4 0,Ab [],.nil],.cells 73 [A4 0,A4 0],pr l (atS l i (atR l i)),.cells 27 (D0 (atR l i).1)]) Ap (by kernel_rfl) rfl rfl (fun _=>rfl) ?_
  apply Y.q
  ·intro B hT hF
   refine To (places:=#[(0,1),(1,1),(2,3),(5,1)]) jU (fun w=>by simp) jZ ?_;exact io
  case hTF=>decide
  refine Y.storeOwn (u:=Hp.length) (n:=0) (t':=27) (cs:=[A4 0,Ab [],A4 0,A4 0,Ab [],.nil]) (cs':=[A4 0,Ab [],A4 0,A4 0,Ab [],.nil]) Tryz.sizeOf27 (fun B hB=>⟨rfl,rfl,rfl,rfl⟩) ?_
  apply Y.q
  ·intro B hT hF
   exact Z60
  case hTF=>decide
  refine Gx (tn:=[5])  ?_;refine Fx 0 5 6 ?_;refine Gz ?_;refine A2 [4,5,6] ?_;refine Z12 ?_;exact A9 (V.three (B5 jA jS) A8 (B5 jA jS)) ⟨by rw [e,AB6]<;>rfl,rfl⟩
 have e:atM l i=((atR l i).1,((atS l i (atR l i)).i:Int),0,0):=if_neg (by rw [ht69];simp)
 refine Z4 ?_;refine Hh [0,0,2,6,14,0,1,95,255] [6] [.q 6 [] [],.s [] (some 0) [] [],.q 1 [0] []] (fun _=>Hp) (fun B=>[.cells 27 (if B 0=true then D0 (atR l i).1 else [A4 0,Ab [],A4 0,A4 0,Ab [],.nil]),.cells 73 [A4 0,A4 0],pr l (atS l i (atR l i)),.cells 27 (D0 (atR l i).1)]) Ap (by kernel_rfl) rfl rfl (fun _=>rfl) ?_
 apply Y.q
 ·intro B hT hF
  refine Z10 ?_;refine Z37 ?_;exact AJr
 case hTF=>decide
 refine Y.storeOwn (u:=Hp.length) (n:=0) (t':=27) (cs:=[A4 0,Ab [],A4 0,A4 0,Ab [],.nil]) (cs':=D0 (atR l i).1) Tryz.sizeOf27 (fun B hB=>⟨rfl,by simp only [hB];rfl,by simp [upd],rfl⟩) ?_
 apply Y.q
 ·intro B hT hF
  exact Z60
 case hTF=>decide
 refine Gx (tn:=[6]) (O:=[.cells 27 (D0 (atR l i).1),.cells 73 [A4 0,A4 0],pr l (atS l i (atR l i)),.cells 27 (D0 (atR l i).1)]) ?_;refine Gz ?_;refine A2 [4,5,6] ?_;refine El ?_;exact A9 (V.three (B5 jA jS) A8 (B5 jA jS)) ⟨by rw [e,Al]<;>rfl,rfl⟩ (hlow:=by have:=low_agg (n:=Hp.length) (atR l i).1;simp at this ⊢;exact this)

theorem sq {s:Str} (h:(Bu s).2.1=0):(Bu s).1.length≤4002:=by
 obtain ⟨h1,_,h3⟩:=ADy h
 have h2:=Xi s
 rw [h3]
 simp only [Ax,Ag,B8,Bq]
 omega
theorem fm {l:List Tok} (hl:TokEnd l) (hll:l.length≤1048576) {i:Nat} (hi:i<l.length) (h:(atM l i).2.2.1=0):∃k:Nat,(atM l i).2.1=(k:Int)∧k<l.length:=by
 have hq:=Y1 hl hll hi
 unfold atM at h ⊢
 split at h
 ·rename_i h1
  have:(atS l i (atR l i)).code=0:=h
  rw [this] at h1
  cases h1
 rename_i h1
 rw [if_neg h1]
 refine ⟨(atS l i (atR l i)).i,rfl,?_⟩
 have e:(atS l i (atR l i)).i=(atR l i).2.i:=by
  unfold atS
  repeat' split
  all_goals first|rfl|exact failM_i.1
 rw [e]
 exact hq.lt
theorem Zu {α:Type} {a b:List α} (hl:a.length=b.length) (h:∀(j:Nat) (y:α),j<a.length→a[j]? = some y→b[j]? = some y):a=b:=by
 apply mh hl
 intro j h1 h2
 have:=h j a[j] h1 (Ac h1)
 rw [Ac h2] at this
 injection this with this
 exact this.symm
theorem Cv {n k:Nat} {o:Bool} {l:List Expr}:Low n (.slice o k (l.map A7)):=low_slice.2 fun y hy=>by
 obtain ⟨a,_,rfl⟩:=Cj.1 hy
 exact Am _ a
theorem bn {l:List Expr} (h:0<l.length):Fp l=l[0]::Fp (l[0].kids++l.drop 1)∧Bv l=1+Bv (l[0].kids++l.drop 1)∧l[0].kids.length≤Bv l:=by
 cases l with
 | nil=>simp at h
 | cons e r =>
  refine ⟨?_,?_,?_⟩
  ·show Kv e++Fp r=e::Fp (e.kids++r)
   rw [b6,Qq]
   rfl
  ·show sizeE e+Bv r=1+Bv (e.kids++r)
   rw [Lt,L5]
   omega
  show e.kids.length≤sizeE e+Bv r
  have:=Nw e.kids
  rw [Lt]
  omega
theorem bo (l:List Expr):l.length≤Bv l:=by have:=Nw l;omega
structure NamesAt (e:Expr) (x:List Expr×List Str):Prop where
 eq:Cb e=(Fp x.1).foldl Gj x.2
 bd:x.2.length+Bv x.1≤1048576
theorem NamesAt.on {e:Expr} {x:List Expr×List Str} (h:NamesAt e x) (h0:0<x.1.length):NamesAt e (x.1[0].kids++x.1.drop 1,Gj x.2 x.1[0]):=by
 obtain ⟨a,b,_⟩:=bn h0
 refine ⟨?_,?_⟩
 ·rw [h.eq,a,List.foldl_cons]
 have:=h.bd
 have:=rt x.2 x.1[0]
 show (Gj x.2 x.1[0]).length+Bv (x.1[0].kids++x.1.drop 1)≤_
 omega
theorem Sx (l:List Str) (s:Str):(l.any fun w=>w==s)=l.contains s:=by
 rw [Tg,E7,R0]
 constructor
 ·rintro ⟨w,hw,h⟩
  rw [beq_iff_eq] at h
  subst h
  exact hw
 exact fun h=>⟨s,h,by simp⟩
theorem wr {l:List Str} {z:Nat} (h:z<l.length) (s:Str):((l.take (z+1)).any fun w=>w==s)=(((l.take z).any fun w=>w==s) || (l[z]==s)):=by
 rw [Id h,List.any_append]
 simp
theorem c89 (e:Expr) (hs:sizeE e≤1048576) (Hp:List AObj):AFun Tryz.prog 89 [A7 e] Hp (E4 (Cb e)):=by
 refine Ah [.tmp 2] [0] Tryz.func89 Tryz.ntmps89 (fun d=>?_)
 refine Z66 ?_;refine Zh ?_;refine Tv ?_;refine Z2 ?_;refine Ns ?_;refine Kk ?_;refine A2 [3,4] ?_;refine Lq ?_
 refine Bg (α:=List Expr×List Str) (fun x=>⟨51,A6 3 (.slice true 1 (x.2.map Ab)) (A6 4 (.slice true 6 (x.1.map A7)) (fun _=>.any)),Hp,[],[],none⟩) (fun x=>NamesAt e x) (fun x=>Bv x.1) (([e],[])) ⟨by unfold Cb;simp [Fp],by simp [Bv];exact hs⟩ (B4 (by simp [Al])) rfl (fun x hx=>?_)
 refine Z30 ?_;refine A2 [3,4,13] ?_
 refine A3 (fun ht13=>?_) (fun ht13=>?_)
 ·have hlt:0<x.1.length:=by simpa using ht13
  have hpop:=bn hlt
  have hon:=hx.on hlt
  have em:List.map A7 x.1[0].kids++List.drop 1 (List.map A7 x.1)=List.map A7 (x.1[0].kids++x.1.drop 1):=by rw [Bn,List.map_drop]
  refine vi ?_;refine Z2 ?_
  refine A5 (h:=Ad (0) (A7 x.1[0]) (fun _=>Ar hlt)) (hr:=?_)
  refine Si ?_;refine A2 [3,4,5] ?_;refine Hh [0,0,2,7,0,16,63,127] [] [.s [17] none [] [],.q 2 [] [],.s [17,20] none [] [],.q 2 [] []] (fun _=>Hp) (fun _=>[.cells 27 (D0 x.1[0])]) Ap (by kernel_rfl) rfl rfl (fun _=>rfl) ?_;refine n6 jU Tryz.sizeOf27 Tryz.zeroValue27 ?_
  apply Y.q
  ·intro B hT hF
   exact Z72
  case hTF=>decide
  refine Ws jU Tryz.type27 ?_ ?_ ?_
  ·have:=hpop.2.2;have:=hx.bd;simp [Tryz.t27];omega
  ·have:=hpop.2.2;have:=hx.bd;simp [Tryz.t27];omega
  apply Y.q
  ·intro B hT hF
   refine Av ?_
   refine Av (h:=Q.cutL 1 (fun _=>show 1≤(x.1.map A7).length by rw [Ag];exact hlt) (fun _=>An _)) (hr:=?_)
   exact ep
  case hTF=>decide
  refine nu ?_
  refine D5 jU Tryz.type27 ?_ ?_ ?_
  ·have:=hpop.2.2;have:=hx.bd;have:=bo x.1;simp [Tryz.t27];omega
  ·have:=hpop.2.2;have:=hx.bd;have:=bo x.1;simp [Tryz.t27];omega
  refine Kk ?_;refine A2 [3,4,5] ?_;refine Z30 ?_;refine A2 [3,4,5,26] ?_
  refine A3 (fun ht26=>?_) (fun ht26=>?_)
  ·have hadd:Gj x.2 x.1[0]=x.2:=if_neg (by have:=ht26;simp at this;simp [this])
   rw [hadd] at hon
   refine Ep [3,4] ?_;refine Z19 ?_;refine K.blE ?_
   refine Au (x.1[0].kids++x.1.drop 1,x.2) hon (by have:=hpop.2.1;show Bv (x.1[0].kids++x.1.drop 1)<Bv x.1;omega) ?_
   simp only [show Tryz.t27.size=6 from rfl,em]
   exact Di (own:=[]) (fun _=>.refl _) (by repeat (first|exact Bt|refine Bs (by first|exact Cv|exact N5|exact Ud|(rw [←Bn];exact Cv)) ?_)) (by simp) (by simp)
  have hop:(x.1[0].op==2)=true:=by simpa using ht26
  refine Of ?_;refine A2 [3,4,5,6] ?_;refine Z25 ?_;refine A2 [3,4,5,6,7] ?_
  refine Bg (α:=Nat) (fun z=>⟨51,A6 3 (.slice true 1 (x.2.map Ab)) (A6 4 (.slice true 6 ((x.1[0].kids++x.1.drop 1).map A7)) (A6 5 (.ptr (oid Hp.length 0) 0) (A6 6 (B0 ((x.2.take z).any fun w=>w==x.1[0].text)) (A6 7 (A4 (z:Nat)) (fun _=>.any))))),Hp,[.cells 27 (D0 x.1[0])],[],none⟩) (fun z=>z≤x.2.length) (fun z=>x.2.length-z) (0) (Ao _) (B4 (by simp [Bn,List.map_drop]<;>rfl)) rfl (fun z hz=>?_)
  refine Z46 ?_;refine A2 [3,4,5,6,7,30] ?_
  refine A3 (fun ht30=>?_) (fun ht30=>?_)
  ·have hlz:z<x.2.length:=by simpa using ht30
   have hbd:=hx.bd
   refine Z35 ?_;refine Wv [0,1,3,3,15,31,3,67,255,511,1023] 8 Ap (by kernel_rfl) ?_;refine Z10 ?_;refine Z85 ?_
   refine H.go (h:=Ad (z) (Ab x.2[z]) (fun _=>Ar hlz)) (hr:=?_)
   refine iu ?_;refine zr ?_;refine Z0 ?_;refine A2 [3,4,5,6,7] ?_;refine Z87 ?_;refine A2 [3,4,5,6,7] ?_
   refine Au (z+1) hlz (by omega) (Bk ?_)
   rw [wr hlz]
   rfl
  have hze:x.2.take z=x.2:=Cu (by simp at ht30;omega)
  refine Z36 ?_;refine Z1 ?_;refine A2 [3,4,5,44] ?_
  refine A3 (fun ht44=>?_) (fun ht44=>?_)
  ·have hadd:Gj x.2 x.1[0]=x.2++[x.1[0].text]:=if_pos (by rw [hop];rw [hze,Sx] at ht44;simpa using ht44)
   rw [hadd] at hon
   refine Z83 ?_;refine Z0 ?_;refine Ns ?_
   refine D5 jU Tryz.type9 ?_ ?_ ?_
   ·have:=hx.bd;simp [Tryz.t9];omega
   ·have:=hx.bd;simp [Tryz.t9];omega
   refine Kk ?_;refine A2 [3,4] ?_;refine I4 ?_
   first|refine Au (x.1[0].kids++x.1.drop 1,x.2++[x.1[0].text]) hon (by have:=hpop.2.1;show Bv (x.1[0].kids++x.1.drop 1)<Bv x.1;omega) ?_|refine Au (x.1[0].kids++x.1.drop 1,x.2) hon (by have:=hpop.2.1;show Bv (x.1[0].kids++x.1.drop 1)<Bv x.1;omega) ?_
   try simp only [show Tryz.t9.size=1 from rfl,Bn,Br,Ct]
   exact Di (own:=[]) (fun _=>.refl _) (by repeat (first|exact Bt|refine Bs (by first|exact Cv|exact N5|exact Ud|(rw [←Bn];exact Cv)) ?_)) (by simp) (by simp)
  have hadd:Gj x.2 x.1[0]=x.2:=if_neg (by rw [hop];rw [hze,Sx] at ht44;simp at ht44;simp [ht44])
  rw [hadd] at hon
  refine Ep [3,4] ?_;refine Gc ?_;refine I4 ?_
  first|refine Au (x.1[0].kids++x.1.drop 1,x.2++[x.1[0].text]) hon (by have:=hpop.2.1;show Bv (x.1[0].kids++x.1.drop 1)<Bv x.1;omega) ?_|refine Au (x.1[0].kids++x.1.drop 1,x.2) hon (by have:=hpop.2.1;show Bv (x.1[0].kids++x.1.drop 1)<Bv x.1;omega) ?_
  try simp only [show Tryz.t9.size=1 from rfl,Bn,Br,Ct]
  exact Di (own:=[]) (fun _=>.refl _) (by repeat (first|exact Bt|refine Bs (by first|exact Cv|exact N5|exact Ud|(rw [←Bn];exact Cv)) ?_)) (by simp) (by simp)
 have hnil:x.1=[]:=by have:=ht13;simp at this;exact this
 refine Z36 ?_;refine iz ?_;exact A9 (Aj A8) ⟨by rw [hx.eq,hnil];rfl,rfl⟩

theorem wt {l:List Expr} {n f:Nat} (h0:l.isEmpty=false) (h:Qr l n=true):I8 f l n=true:=by
 cases f with
 | zero=>rw [I8,h0];rfl
 | succ f=>rw [I8,if_neg (by rw [h0];simp),if_pos h]
theorem AEb {l:List Expr} {n y:Nat} (hy:y<l.length) (h:500<n+y+1∨Ub l[y]=true):Qr l n=true:=by
 unfold Qr
 rcases h with h|h
 ·rw [decide_eq_true (by omega)];rfl
 rw [E7.2 ⟨_,As hy,h⟩,Fo]
theorem Y2 {l:List Expr}:∀(y:Nat),y≤l.length→(∀(j:Nat) (e:Expr),j<y→l[j]? = some e→Ub e=false)→((l.take y).flatMap Expr.kids).length≤100*y
 | 0,_,_=>by simp
 | y+1,hy,h=>by
  rw [Id hy,List.flatMap_append,Ax]
  have h1:=Y2 y (by omega) (fun j e hj he=>h j e (by omega) he)
  have h2:=fg (h y l[y] (by omega) (Ac _))
  simp only [d8,List.flatMap_nil,Ha]
  omega
structure WideAt (l0:List Expr) (x:List Expr×Nat×Nat):Prop where
 eq:I8 61 l0 0=I8 x.2.2 x.1 x.2.1
 f:x.2.2≤61
 n:x.2.1≤500
theorem c73 (l0:List Expr) (Hp:List AObj):AFun Tryz.prog 73 [.slice false 6 (l0.map A7),A4 0] Hp (B0 (I8 61 l0 0)):=by
 refine Ah [.tmp 4] [0,1] Tryz.func73 Tryz.ntmps73 (fun d=>?_)
 refine Z48 ?_;refine Z2 ?_;refine A2 [0,1,5] ?_;refine Lq ?_
 refine Bg (α:=List Expr×Nat×Nat) (fun x=>⟨67,A6 0 (.slice false 6 (x.1.map A7)) (A6 1 (A4 (61-(x.2.2:Int))) (A6 5 (A4 (x.2.1:Nat)) (fun _=>.any))),Hp,[],[],none⟩) (fun x=>WideAt l0 x) (fun x=>x.2.2) ((l0,0,61)) ⟨rfl,An _,Ao _⟩ (B4 (by simp)) rfl (fun x hx=>?_)
 refine Z30 ?_;refine A2 [0,1,5,10] ?_
 refine A3 (fun ht10=>?_) (fun ht10=>?_)
 ·have hpos:0<x.1.length:=by simpa using ht10
  have hne:x.1.isEmpty=false:=by cases hxx:x.1 with
   | nil=>rw [hxx] at hpos;simp at hpos
   | cons a r=>rfl
  have hxf:=hx.f
  refine vi ?_;refine Zh ?_;refine A2 [0,1,5,6] ?_;refine Z25 ?_;refine A2 [0,1,5,6,7] ?_
  refine Bg (α:=Nat) (fun y=>⟨67,A6 0 (.slice false 6 (x.1.map A7)) (A6 1 (A4 (61-(x.2.2:Int))) (A6 5 (A4 ((x.2.1+y:Nat):Int)) (A6 6 (.slice true 6 (((x.1.take y).flatMap Expr.kids).map A7)) (A6 7 (A4 (y:Nat)) (fun _=>.any))))),Hp,[],[],none⟩) (fun y=>y≤x.1.length∧x.2.1+y≤500∧∀(j:Nat) (e:Expr),j<y→x.1[j]? = some e→Ub e=false) (fun y=>x.1.length-y) (0) ⟨Ao _,hx.n,fun j e h=>by omega⟩ (B4 (by simp)) rfl (fun y hy=>?_)
  refine Z46 ?_;refine A2 [0,1,5,6,7,15] ?_
  refine A3 (fun ht15=>?_) (fun ht15=>?_)
  ·have hlt:y<x.1.length:=by simpa using ht15
   have hyn:=hy.2.1
   refine Sj ?_;refine A2 [0,1,5,6,7] ?_;refine Z30 ?_;refine Z5 ?_
   refine B7 (h:=Ad (y) (A7 x.1[y]) (fun _=>Ar hlt)) (hr:=?_)
   refine Qg ?_;refine Z21 ?_
   refine B7 (h:=Ad (y) (A7 x.1[y]) (fun _=>Ar hlt)) (hr:=?_)
   refine Qg ?_;refine B7 ?_;refine Z21 ?_
   refine B7 (h:=Ad (y) (A7 x.1[y]) (fun _=>Ar hlt)) (hr:=?_)
   refine Qg ?_;refine A5 ?_;refine A2 [0,1,5,6,7,49] ?_
   refine A3 (fun ht49=>?_) (fun ht49=>?_)
   ·have hm:Qr x.1 x.2.1=true:=AEb hlt (by
     simp only [Dg,decide_eq_true_eq,Ag] at ht49
     unfold Ub
     simp only [Dg,decide_eq_true_eq]
     omega)
    have hw:=wt (f:=x.2.2) hne hm
    refine ACz ?_;refine Z12 ?_;refine Z28 ?_;refine K.blR ?_;exact AK7
   have hfat:Ub x.1[y]=false∧x.2.1+y+1≤500:=by
    simp only [Dn,decide_eq_false_iff_not,Ag] at ht49
    unfold Ub
    simp only [Dn,decide_eq_false_iff_not]
    omega
   have hkl:=(fg hfat.1).2.2
   have hfm:(x.1.take (y+1)).flatMap Expr.kids=(x.1.take y).flatMap Expr.kids++x.1[y].kids:=by rw [Id hlt,List.flatMap_append];simp
   refine AKg ?_;refine Z0 ?_
   refine A5 (h:=Ad (y) (A7 x.1[y]) (fun _=>Ar hlt)) (hr:=?_)
   refine Z0 ?_
   refine D5 jU Tryz.type27 ?_ ?_ ?_
   ·have h1:=Y2 y hy.1 hy.2.2;have h2:=hkl;have h3:=hy.2.1;simp only [Ag,Tryz.t27];omega
   ·have h1:=Y2 y hy.1 hy.2.2;have h2:=hkl;have h3:=hy.2.1;simp only [Ag,Tryz.t27];omega
   refine Kk ?_;refine A2 [0,1,5,6,7] ?_;refine Z87 ?_;refine A2 [0,1,5,6,7] ?_
   refine Au (y+1) ⟨hlt,by omega,Bw hlt hy.2.2 hfat.1⟩ (by omega) (Bk ?_)
   rw [hfm,Bn]
   rfl
  have hye:x.1.take y=x.1:=Cu (by simp at ht15;omega)
  have hyl:y=x.1.length:=by have:=hy.1;simp at ht15;omega
  have hmany:Qr x.1 x.2.1=false:=by
   unfold Qr
   rw [decide_eq_false (by have:=hy.2.1;omega),Ce,Jq]
   intro e he
   obtain ⟨j,hj⟩:=C9 he
   rw [hy.2.2 j e (by have:=(Ae.1 hj).1;omega) hj]
   simp
  refine Z36 ?_;refine Z7 ?_;refine Z21 ?_;refine A5 ?_;refine A2 [1,5,6,63] ?_
  refine A3 (fun ht63=>?_) (fun ht63=>?_)
  ·have hw:I8 x.2.2 x.1 x.2.1=true:=by
    have h9:=ht63
    rw [hye] at h9
    simp only [Dg,decide_eq_true_eq,Ag] at h9
    cases hf:x.2.2 with
    | zero=>rw [I8,hne];rfl
    | succ f =>
     rw [I8,if_neg (by rw [hne];simp),if_neg (by rw [hmany];simp),if_pos (by rw [decide_eq_true_eq];omega)]
   refine ACz ?_;refine ng ?_;exact AK7
  have h9:=ht63
  rw [hye] at h9
  simp only [Dn,decide_eq_false_iff_not,Ag] at h9
  obtain ⟨f,hf⟩:∃f,x.2.2=f+1:=⟨x.2.2-1,by omega⟩
  have hw:I8 x.2.2 x.1 x.2.1=I8 f (x.1.flatMap Expr.kids) (x.2.1+x.1.length):=by
   rw [hf,I8,if_neg (by rw [hne];simp),if_neg (by rw [hmany];simp),if_neg (by rw [decide_eq_true_eq];omega)]
  refine Nr ?_;refine A2 [0,1,5] ?_;refine Z74 ?_;refine A2 [0,1,5] ?_;refine I4 ?_
  refine Au (x.1.flatMap Expr.kids,x.2.1+x.1.length,f) ⟨hx.eq.trans hw,by show f≤61;omega,by show x.2.1+x.1.length≤500;have:=hy.2.1;omega⟩ (by show f<x.2.2;omega) (Bk ?_)
  rw [hye,hyl]
  congr 4
  simp only [AV.v.injEq,Value.int.injEq,true_and]
  omega
 have hnil:x.1=[]:=by have:=ht10;simp at this;exact this
 refine Zk ?_;refine Z20 ?_;exact A9 (Aj A8) ⟨by rw [hx.eq,hnil];cases x.2.2<;>rfl,rfl⟩

theorem c31 (e:Expr) (Hp:List AObj):AFun Tryz.prog 31 [A7 e] Hp (B0 (Pg e)):=by
 refine Ah [.tmp 2] [0] Tryz.func31 Tryz.ntmps31 (fun d=>?_)
 refine nq ?_;refine Ns ?_;refine Aa Tryz.call73 (c73 [e] _) ?_;exact AD7

set_option maxRecDepth 8000
/-! What a tree comes to: eval's model. -/
def ifW:Str:=[105,102]
def AI3:Str:=[110,118,108]
def fp:Str:=[105,115,110,117,108,108]
/-! A tree in a column's place comes to what its value would there. -/
/-! Who is not named plays no part. -/
/-! What a strict node comes to. -/
/-! Values are AMx, and their numbers have 64 bits. -/
/-! A text between marks. -/
set_option maxRecDepth 4000
theorem kn {a b:List Expr} (hl:a.length=b.length) (h:∀(j:Nat) (y z:Expr),j<a.length→a[j]? = some y→b[j]? = some z→eqE y z=true):eqL a b=true:=by
 rw [Sr]
 refine Zu hl fun j y hj hy=>?_
 have hjb:j<b.length:=by omega
 have:=h j y b[j] hj hy (Ac hjb)
 rw [Ac hjb,(fe _ _).1 this]
theorem AI4 {a b:List Expr} (h:eqL a b=true) {j:Nat} (hj:j<a.length) (hb:j<b.length):eqE a[j] b[j]=true:=by
 have e:=(Sr _ _).1 h
 subst e
 exact Xt _
theorem ABc {a b:List Expr} {j:Nat} (hj:j<a.length) (hb:j<b.length) (h:eqE a[j] b[j]=false):eqL a b=false:=by
 rw [G7]
 intro h2
 rw [AI4 h2 hj hb] at h
 cases h
theorem sr {a b:List Expr} (h:a.length≠b.length):eqL a b=false:=by
 rw [G7]
 exact fun h2=>h (ADw h2)
theorem AG4 {a b:List Expr} {x:Nat} (hx:x<a.length) (hb:x<b.length) (h:∀(j:Nat) (y z:Expr),j<x→a[j]? = some y→b[j]? = some z→eqE y z=true) (he:eqE a[x] b[x]=true):∀(j:Nat) (y z:Expr),j<x+1→a[j]? = some y→b[j]? = some z→eqE y z=true:=by
 intro j y z hj h1 h2
 rcases C0 j x with h3|h3
 ·exact h j y z h3 h1 h2
 have:j=x:=by omega
 subst this
 rw [Ac hx] at h1
 rw [Ac hb] at h2
 injection h1 with h1
 injection h2 with h2
 rw [←h1,←h2]
 exact he
def ko (x y:Expr):Bool:=((x.op==y.op)&&(x.text==y.text))&&((x.val.kind==y.val.kind&&x.val.n==y.val.n)&&x.val.s==y.val.s)
theorem fq (x y:Expr):eqE x y=(ko x y&&eqL x.kids y.kids):=AAu x y
theorem c27:∀(n:Nat) (x:Expr),okE n x→∀(y:Expr) (Hp:List AObj),AFun Tryz.prog 27 [A7 x,A7 y] Hp (B0 (eqE x y)):=by
 intro n
 induction n with
 | zero=>exact fun x h=>h.elim
 | succ n ih =>
 intro x hok y Hp
 refine Ah [.tmp 4] [0,1] Tryz.func27 Tryz.ntmps27 (fun d=>?_)
 refine zm ?_;refine Z46 ?_;refine Z52 ?_;refine B7 ?_;refine Z52 ?_
 refine B7 (h:=Q.neqAgg AA4 (fun w=>Sl x.val.kind x.val.n y.val.kind y.val.n x.val.s y.val.s w)) (hr:=?_)
 refine Z52 ?_;refine Z5 ?_;refine Z80 ?_;refine A2 [2,3,33] ?_
 refine A3 (fun ht33=>?_) (fun ht33=>?_)
 ·have hf:eqE x y=false:=by
   rw [fq]
   simp only [Dg,bne_iff_ne,ne_eq,Ag,Kq] at ht33
   by_cases hh:ko x y=true
   ·rw [hh,Fb]
    refine sr ?_
    unfold ko at hh
    simp only [Az,beq_iff_eq] at hh
    obtain ⟨⟨h1,h2⟩,⟨h3,h4⟩,h5⟩:=hh
    rcases ht33 with ((h|h)|h)|h
    ·exact absurd h1 h
    ·simp [h2] at h
    ·simp [h3,h4,h5] at h
    intro e;exact h (by rw [e])
   rw [Ol] at hh
   rw [hh,H9]
  refine ACz ?_;refine Z12 ?_;exact AHb
 have hh:ko x y=true∧x.kids.length=y.kids.length:=by
  simp only [Dn,bne_eq_false_iff_eq,Ag,Mh] at ht33
  obtain ⟨⟨⟨h1,h2⟩,h3⟩,h4⟩:=ht33
  unfold ko
  refine ⟨?_,by omega⟩
  simp only [beq_iff_eq,Az] at h1 h2 h3 ⊢
  exact ⟨⟨h1,h2⟩,h3⟩
 obtain ⟨hh,hlen⟩:=hh
 have hkl:=hok.2.1
 refine Mw ?_;refine A2 [2,3,5] ?_
 refine Bg (α:=Nat) (fun i=>⟨53,A6 2 (.ro (D0 x)) (A6 3 (.ro (D0 y)) (A6 5 (A4 (i:Nat)) (fun _=>.any))),Hp,[],[],none⟩) (fun i=>i≤x.kids.length∧∀(j:Nat) (a b:Expr),j<i→x.kids[j]? = some a→y.kids[j]? = some b→eqE a b=true) (fun i=>x.kids.length-i) (0) ⟨Ao _,fun j a b h=>by omega⟩ (Em _) rfl (fun i hi=>?_)
 refine Z99 ?_;refine A2 [2,3,5,38] ?_
 refine A3 (fun ht38=>?_) (fun ht38=>?_)
 ·have hlt:i<x.kids.length:=by simpa using ht38
  have hly:i<y.kids.length:=by omega
  refine Z35 ?_;refine Er [0,1,0,7,15,0,32,0,224,480,1023,2047] 10 Ap (by kernel_rfl) ?_;refine Z37 ?_
  refine Av (h:=Ad (i) (A7 x.kids[i]) (fun _=>Ar hlt)) (hr:=?_)
  refine Rb ?_
  refine Av (h:=Ad (i) (A7 y.kids[i]) (fun _=>Ar hly)) (hr:=?_)
  refine vj ?_;refine Aa Tryz.call27 (ih x.kids[i] (hok.2.2 _ (As hlt)) y.kids[i] _) ?_;refine A5 ?_;refine A2 [2,3,5,52] ?_
  refine A3 (fun ht52=>?_) (fun ht52=>?_)
  ·have hf:eqE x y=false:=by rw [fq,ABc hlt hly (by simpa using ht52),Bool.and_false]
   refine Z2 ?_;refine Z20 ?_;exact AKk
  have he:eqE x.kids[i] y.kids[i]=true:=by simpa using ht52
  refine Z68 ?_;refine A2 [2,3,5] ?_;exact Au (i+1) ⟨hlt,AG4 hlt hly hi.2 he⟩ (by omega) (Bk rfl)
 have hxe:x.kids.length≤i:=by simpa using ht38
 refine Zk ?_;refine Z20 ?_;exact A9 (Aj A8) ⟨by rw [fq,hh,kn hlen (fun j a b hj=>hi.2 j a b (by omega))];rfl,rfl⟩

theorem AOo (n:Nat) (a b:List Expr) (ha:a.length≤1048576) (hok:∀y∈a,okE n y) (ih:∀(x:Expr),okE n x→∀(y:Expr) (Hp:List AObj),AFun Tryz.prog 109 [A7 x,A7 y] Hp (B0 (eqE x y))) (Hp:List AObj):AFun Tryz.prog 145 [.slice false 6 (a.map A7),.slice false 6 (b.map A7),.fn (.func 109) [] []] Hp (B0 (eqL a b)):=by
 refine Ah [.tmp 6] [0,1,2] Tryz.func145 Tryz.ntmps145 (fun d=>?_)
 refine Z2 ?_;refine en ?_;refine Z99 ?_;refine A2 [0,1,2,14] ?_
 refine A3 (fun ht14=>?_) (fun ht14=>?_)
 ·have hf:eqL a b=false:=sr (by have:=ht14;simp at this;omega)
  refine Z2 ?_;refine n9 ?_;exact AHb
 have hlen:a.length=b.length:=by have:=ht14;simp at this;omega
 refine np ?_;refine A2 [1,2,15,16,17] ?_
 refine Bg (α:=Nat) (fun i=>⟨32,A6 1 (.slice false 6 (b.map A7)) (A6 2 (.fn (.func 109) [] []) (A6 15 (.slice false 6 (a.map A7)) (A6 16 (A4 (a.length:Nat)) (A6 17 (A4 (i:Nat)) (fun _=>.any))))),Hp,[],[],none⟩) (fun i=>i≤a.length∧∀(j:Nat) (y z:Expr),j<i→a[j]? = some y→b[j]? = some z→eqE y z=true) (fun i=>a.length-i) (0) ⟨Ao _,fun j y z h=>by omega⟩ (B4 (by simp)) rfl (fun i hi=>?_)
 refine Z2 ?_;refine A2 [1,2,15,16,17,18] ?_
 refine E2 (fun ht18=>?_) (fun ht18=>?_)
 ·have hlt:i<a.length:=by simpa using ht18
  have hlb:i<b.length:=by omega
  refine X1 ?_
  refine A5 (h:=Ad (i) (A7 a[i]) (fun _=>Ar hlt)) (hr:=?_)
  refine A5 ?_;refine iq ?_;refine A2 [1,2,7,8,15,16,17] ?_;refine Z1 ?_
  refine A5 (h:=Ad (i) (A7 b[i]) (fun _=>Ar hlb)) (hr:=?_)
  refine Si ?_;refine A2 [1,2,8,9,15,16,17] ?_;refine Z16 ?_;refine P2 Tryz.call109 (ih a[i] (hok _ (As hlt)) b[i] _) ?_;refine A5 ?_;refine A2 [1,2,15,16,17,30] ?_
  refine A3 (fun ht30=>?_) (fun ht30=>?_)
  ·have hf:eqL a b=false:=ABc hlt hlb (by simpa using ht30)
   refine Z2 ?_;refine Z92 ?_;exact AKk
  have he:eqE a[i] b[i]=true:=by simpa using ht30
  refine Ra ?_;refine A2 [1,2,15,16,17] ?_;refine Au (i+1) ⟨hlt,AG4 hlt hlb hi.2 he⟩ (by omega) ?_
  exact Di (own:=[]) (fun _=>.refl _) (by repeat (first|exact Bt|refine Bs (by first|exact Cv|(simp;done)) ?_)) (by simp) (by simp)
 have hxe:a.length≤i:=by simpa using ht18
 refine Wz ?_;refine Z92 ?_;exact A9 (Aj A8) ⟨by rw [kn hlen (fun j y z hj=>hi.2 j y z (by omega))],rfl⟩

theorem AI5:∀(n:Nat) (x:Expr),okE n x→∀(y:Expr) (Hp:List AObj),AFun Tryz.prog 109 [A7 x,A7 y] Hp (B0 (eqE x y)):=by
 intro n
 induction n with
 | zero=>exact fun x h=>h.elim
 | succ n ih =>
 intro x hok y Hp
 refine Ah [.tmp 4] [0,1] Tryz.func109 Tryz.ntmps109 (fun d=>?_)
 refine zm ?_;refine Z34 ?_;refine Z52 ?_;refine B7 ?_;refine Z52 ?_
 refine B7 (h:=Q.eqlAgg AA4 (fun w=>Sl x.val.kind x.val.n y.val.kind y.val.n x.val.s y.val.s w)) (hr:=?_)
 refine Z52 ?_;refine Bm Tryz.call145 (fun hB=>AOo n x.kids y.kids hok.2.1 hok.2.2 ih _) ?_;refine Z0 ?_;refine Z20 ?_;exact A9 (Aj A8) ⟨by rw [AAu],rfl⟩

theorem ABd {s:Str} {y x:Expr} (h:((x.op==2)&&(x.text==s))=true):Ik s y x=y:=by rw [ru,if_pos h]
theorem ss {s:Str} {y x:Expr} (h:((x.op==2)&&(x.text==s))=false):Ik s y x=.mk x.op x.text x.val (x.kids.map (Ik s y)):=by rw [ru,if_neg (by rw [h];simp)]
theorem Rq (o:Int) (t:Str) (v:Val) (k:List Expr):A7 (.mk o t v k)=.agg [A4 o,.v (sv t),A4 v.kind,A4 v.n,.v (sv v.s),.slice false 6 (k.map A7)]:=by rw [Al];rfl
theorem kp {α β:Type} {f:α→β} {l:List α} {x:Nat} (h:x<l.length):(l.take (x+1)).map f=(l.take x).map f++[f l[x]]:=by rw [Id h,Bn];rfl
theorem ABe {n:Nat} {x:Expr} {o:Bool} {l:List Expr}:ObjLow n (.cells 27 [A4 x.op,.v (sv x.text),A4 x.val.kind,A4 x.val.n,.v (sv x.val.s),.slice o 6 (l.map A7)]):=by
 show ∀z∈[A4 x.op,AV.v (sv x.text),A4 x.val.kind,A4 x.val.n,AV.v (sv x.val.s),AV.slice o 6 (l.map A7)],Low n z
 intro z hz
 simp only [B3,Ed,or_false] at hz
 rcases hz with rfl|rfl|rfl|rfl|rfl|rfl
 all_goals first|exact Cv|simp
theorem AOq {α:Type} {P:α→Prop} {a b:α} (h1:P a) (h2:P b):∀x∈[a,b],P x:=by
 intro x hx
 simp only [B3,Ed,or_false] at hx
 rcases hx with rfl|rfl
 ·exact h1
 exact h2
theorem c90 (s:Str) (y:Expr):∀(n:Nat) (x:Expr),okE n x→∀Hp:List AObj,AFun Tryz.prog 90 [A7 x,Ab s,A7 y] Hp (A7 (Ik s y x)):=by
 intro n
 induction n with
 | zero=>exact fun x h=>h.elim
 | succ n ih =>
 intro x hok Hp
 refine Ah [.cell 6 27] [0,1,2] Tryz.func90 Tryz.ntmps90 (fun d=>?_)
 refine Z1 ?_;refine Rd ?_;refine A2 [1,3,5,6] ?_;refine Z7 ?_;refine Z52 ?_;refine A5 ?_;refine A2 [1,3,5,6,17] ?_
 refine A3 (fun ht17=>?_) (fun ht17=>?_)
 ·refine Z42 ?_;refine n9 ?_;exact A9 (Aj (B5 jA jS)) ⟨by rw [ABd ht17,Al],rfl⟩ (hlow:=low_agg _)
 refine eg ?_;refine AGt ?_;refine Z11 ?_;refine A2 [1,3,5,6,7] ?_;refine Z53 ?_;refine Fx 1 5 6 ?_;refine A5 ?_;refine A2 [1,3,5,6,7,8] ?_
 refine Bg (α:=Nat) (fun i=>⟨47,A6 1 (Ab s) (A6 3 (.ro (D0 x)) (A6 5 (.ro (D0 y)) (A6 6 (.ptr (oid Hp.length 0) 0) (A6 7 (.ptr (oid Hp.length 1) 0) (A6 8 (A4 (i:Nat)) (fun _=>.any)))))),Hp,[.cells 27 [A4 0,Ab [],A4 0,A4 0,Ab [],.nil],.cells 27 [A4 x.op,.v (sv x.text),A4 x.val.kind,A4 x.val.n,.v (sv x.val.s),.slice true 6 (((x.kids.take i).map (Ik s y)).map A7)]],[],none⟩) (fun i=>i≤x.kids.length) (fun i=>x.kids.length-i) (0) (Ao _) (B4 (by simp)) rfl (fun i hi=>?_)
 refine Z99 ?_;refine A2 [1,3,5,6,7,8,30] ?_
 refine A3 (fun ht30=>?_) (fun ht30=>?_)
 ·have hlt:i<x.kids.length:=by simpa using ht30
  have hkl:=hok.2.1
  refine Z35 ?_;refine P6 [0,1,0,4,0,28,60,0,0,508,1020,2047,4095,8191] [1] [.q 1 [] [0],.s [34] (some 0) [] [],.q 9 [] []] (fun _=>Hp) (fun B=>[.cells 27 [A4 0,Ab [],A4 0,A4 0,Ab [],.nil],.cells 27 (if B 0=true then [A4 x.op,.v (sv x.text),A4 x.val.kind,A4 x.val.n,.v (sv x.val.s),.slice false 6 (((x.kids.take i).map (Ik s y)).map A7)] else [A4 x.op,.v (sv x.text),A4 x.val.kind,A4 x.val.n,.v (sv x.val.s),.slice true 6 (((x.kids.take i).map (Ik s y)).map A7)])]) Ap (by kernel_rfl) rfl rfl (fun _=>rfl) ?_
  apply Y.q
  ·intro B hT hF
   exact Z60
  case hTF=>decide
  refine dx (u:=Hp.length) (n:=1) (t':=27) (cs:=[A4 x.op,.v (sv x.text),A4 x.val.kind,A4 x.val.n,.v (sv x.val.s),.slice true 6 (((x.kids.take i).map (Ik s y)).map A7)]) (cs':=[A4 x.op,.v (sv x.text),A4 x.val.kind,A4 x.val.n,.v (sv x.val.s),.slice false 6 (((x.kids.take i).map (Ik s y)).map A7)]) Tryz.isAgg25 (fun B hB=>⟨rfl,by simp only [hB];rfl,by simp [upd],rfl⟩) ?_
  apply Y.q
  ·intro B hT hF
   refine Z37 ?_
   refine Av (h:=Ad (i) (A7 x.kids[i]) (fun _=>Ar hlt)) (hr:=?_)
   refine Z37 ?_;refine I3 Tryz.call90 (ih x.kids[i] (hok.2.2 _ (As hlt)) _) ?_;exact Z40
  case hTF=>decide
  refine Gx (tn:=[1]) (O:=[.cells 27 [A4 0,Ab [],A4 0,A4 0,Ab [],.nil],.cells 27 [A4 x.op,.v (sv x.text),A4 x.val.kind,A4 x.val.n,.v (sv x.val.s),.slice false 6 (((x.kids.take i).map (Ik s y)).map A7)]]) ?_
  refine D5 jU Tryz.type27 ?_ ?_ ?_
  ·simp only [Ag,Bx,B8,Bq,Tryz.t27];omega
  ·simp only [Ag,Bx,B8,Bq,Tryz.t27];omega
  refine AD8 ?_;refine A2 [1,3,5,6,7,8] ?_;refine Z87 ?_;refine A2 [1,3,5,6,7,8] ?_
  refine Au (i+1) hlt (by omega) (Bk ?_)
  rw [kp hlt,Bn,Br,Ct,Al]
  rfl
 have hxe:x.kids.length≤i:=by simpa using ht30
 refine Z36 ?_;refine Z42 ?_;refine Z92 ?_;exact A9 (Aj (B5 jA jS)) ⟨by rw [ss ht17,Rq,Cu hxe],rfl⟩ (hlow:=by have:=Am Hp.length (Ik s y x);rw [ss ht17,Rq] at this;rw [Cu hxe];exact this)

theorem wu (e:Expr):(Cb e).length≤sizeE e:=by
 have h1:=jp (Kv e) []
 rw [wh] at h1
 have h2:(Cb e).length=((Kv e).foldl Gj []).length:=rfl
 simp only [Bq] at h1
 omega
set_option maxRecDepth 8000
/-! Who decides decides: the law's sources, columns and truths. -/
/-! Rows. -/
/-! Rows that differ in what is not named. -/
/-! Who has a kind comes to it. -/
theorem Y3 {t:Str} {n:Nat} (h:Ci t=(n:Int)):(t=[108,101,110]∧n=1)∨(t=[115,116,114]∧n=1)∨(t=[110,117,109]∧n=1)∨(t=fp∧n=1)∨(t=AI3∧n=2)∨(t=[108,101,102,116]∧n=2)∨(t=[114,105,103,104,116]∧n=2)∨(t=ifW∧n=3):=by
 by_cases hm:t∈arityList.map (·.1)
 ·have ha:∀s∈arityList.map (·.1),(s=[108,101,110]∧Ci s=1)∨(s=[115,116,114]∧Ci s=1)∨(s=[110,117,109]∧Ci s=1)∨(s=fp∧Ci s=1)∨(s=AI3∧Ci s=2)∨(s=[108,101,102,116]∧Ci s=2)∨(s=[114,105,103,104,116]∧Ci s=2)∨(s=ifW∧Ci s=3):=by
   have:((arityList.map (·.1)).all fun s=>decide ((s=[108,101,110]∧Ci s=1)∨(s=[115,116,114]∧Ci s=1)∨(s=[110,117,109]∧Ci s=1)∨(s=fp∧Ci s=1)∨(s=AI3∧Ci s=2)∨(s=[108,101,102,116]∧Ci s=2)∨(s=[114,105,103,104,116]∧Ci s=2)∨(s=ifW∧Ci s=3)))=true:=by kernel_rfl
   exact fun s hs=>of_decide_eq_true (B1.1 this s hs)
  have:=ha t hm
  rw [h] at this
  rcases this with ⟨e,h2⟩|⟨e,h2⟩|⟨e,h2⟩|⟨e,h2⟩|⟨e,h2⟩|⟨e,h2⟩|⟨e,h2⟩|⟨e,h2⟩
  ·exact .inl ⟨e,by omega⟩
  ·exact .inr (.inl ⟨e,by omega⟩)
  ·exact .inr (.inr (.inl ⟨e,by omega⟩))
  ·exact .inr (.inr (.inr (.inl ⟨e,by omega⟩)))
  ·exact .inr (.inr (.inr (.inr (.inl ⟨e,by omega⟩))))
  ·exact .inr (.inr (.inr (.inr (.inr (.inl ⟨e,by omega⟩)))))
  ·exact .inr (.inr (.inr (.inr (.inr (.inr (.inl ⟨e,by omega⟩))))))
  exact .inr (.inr (.inr (.inr (.inr (.inr (.inr ⟨e,by omega⟩))))))
 have h1:Ci t = -1:=by
  unfold Ci
  rw [R2.2 fun p hp=>by
   simp only [beq_iff_eq]
   rintro rfl
   exact hm (Cj.2 ⟨p,hp,rfl⟩)]
 omega
/-! The print of a tree, and its words. -/
/-! What was parsed nests no deeper than may be. -/
/-! What nests too deep is told to be too deep. -/
/-! What was parsed is right, where the words are the lexer's. -/
/-! The lexer's words. -/
/-! The parse laws where nothing is too deep. -/
/-! The parser from a word on, and of a source. -/
/-! Other trees have other words, and other prints. -/
/-! The laws of printing. -/
theorem K1 {x:Expr} (h:B2 x=true):F7 E5 x=true:=by
 unfold B2 at h
 rw [Az] at h
 exact h.2
set_option maxRecDepth 4000
abbrev xo (own:Bool) (t:Str) (ks:List Expr):AObj:=.cells 27 [A4 6,Ab t,A4 0,A4 0,Ab [],.slice own 6 (ks.map A7)]
theorem AI6 {n:Nat} {own:Bool} {t:Str} {ks:List Expr}:ObjLow n (xo own t ks):=by
 show ∀z∈[A4 6,Ab t,A4 0,A4 0,Ab [],AV.slice own 6 (ks.map A7)],Low n z
 intro z hz
 simp only [B3,Ed,or_false] at hz
 rcases hz with rfl|rfl|rfl|rfl|rfl|rfl
 all_goals first|exact Cv|simp
theorem AEc:Ee (.agg #[.int .i64 0,.string ⟨#[]⟩,.int .i64 0,.int .i64 0,.string ⟨#[]⟩,.slice none 0 0])=.agg [A4 0,Ab [],A4 0,A4 0,Ab [],.nil]:=rfl
attribute [go_sem] AEc
theorem gA {Hp:List AObj} {o ox:Nat} {z A B:AObj} (ho:Hp[o]? = some z) (hne:ox≠o):((Hp.set o A).set ox B)[o]? = some A:=by rw [List.getElem?_set_ne hne];exact getset ho
theorem gB {Hp:List AObj} {o ox:Nat} {z A B:AObj} (hox:Hp[ox]? = some z):((Hp.set o A).set ox B)[ox]? = some B:=by
 have:=(List.getElem?_eq_some_iff.1 hox).1
 simp [this]
theorem ABf {Hp:List AObj} {o ox:Nat} {A A' B:AObj} (hne:ox≠o):((Hp.set o A).set ox B).set o A'=(Hp.set o A').set ox B:=by rw [List.set_comm _ _ hne,List.set_set]
theorem Rr (ks:List Expr) (x:Expr):ks.map A7++[.agg [.v (.int .i64 x.op),.v (sv x.text),.v (.int .i64 x.val.kind),.v (.int .i64 x.val.n),.v (sv x.val.s),.slice false 6 (x.kids.map A7)]]=(ks++[x]).map A7:=by rw [List.map_append,List.map_cons,List.map_nil,Al x]
theorem AOr (l:List Tok) (S:PS) (t:Str) (Dv:Fam) (o ox:Nat) (Hp:List AObj) (hne:ox≠o) (ho:Hp[o]? = some (pr l S)) (hox:Hp[ox]? = some (xo true t [])) (hi:S.i<l.length) (hl:TokEnd l) (hll:l.length≤1048576) (hf:Fd l S.nest Dv.ei) (hcf:PC 154 l Dv.ei S.nest):ACall Tryz.prog 340 [.ptr ox 0,.ro [.ptr o 0]] Hp (fun r H'=>r=A7 (.mk 6 t noV (Jm l Dv.ei S).1)∧H'=(Hp.set o (pr l (Jm l Dv.ei S).2)).set ox (xo true t (Jm l Dv.ei S).1)):=by
 have hoxl:=(List.getElem?_eq_some_iff.1 hox).1
 have hol:=(List.getElem?_eq_some_iff.1 ho).1
 refine ACall.body [.cell 2 27] [0,1] Tryz.func340 Tryz.ntmps340 (fun d=>?_)
 refine Z32 ?_;refine en ?_
 refine W.drawT [0,1,0,4,3,0,63,127,255,127,639] [1,3] [.q 1 [] [0],.s [4] (some 0) [] [],.q 1 [] [1],.s [6] (some 1) [] [],.q 2 [] []] (fun B=>(Hp.set o (if B 1=true then pr l (Dv.ei S).2 else pr l S)).set ox (if B 0=true then xo false t [] else xo true t [])) (fun _=>[Ms]) Ap (by kernel_rfl) (by simp only [Bool.false_eq_true,if_false];rw [Co ho,Co hox]) rfl (fun B=>by simp) ?_
 apply Y.q
 ·intro B hT hF
  exact Z60
 case hTF=>decide
 refine Y.loadUpT (o:=ox) (t':=27) (cs:=[A4 6,Ab t,A4 0,A4 0,Ab [],.slice true 6 ([].map A7)]) (cs':=[A4 6,Ab t,A4 0,A4 0,Ab [],.slice false 6 ([].map A7)]) Tryz.isAgg25 (fun B hB=>⟨by simp only [hB];exact gB hox,by simp [upd,List.set_set]<;>rfl,rfl⟩) ?_
 apply Y.q
 ·intro B hT hF
  exact Z60
 case hTF=>decide
 refine Y.callUp (r:=A7 (Dv.ei S).1) (o:=o) (x0:=pr l S) (x:=pr l (Dv.ei S).2) Tryz.call154 (fun B hT hF hB=>⟨by simp only [hB];exact gA ho hne,?_,rfl,Dj,?_⟩) ?_
 ·simp only [upd,hB,Nat.reduceEqDiff,if_false,if_true,Bool.false_eq_true]
  exact (ABf hne).symm
 ·simp only [hB]
  exact hcf o _ S (Ak (gA ho hne)) hi rfl
 apply Y.q
 ·intro B hT hF
  exact na
 case hTF=>decide
 refine Y.appendPut (tn:=[1,3]) (U:=(Hp.set o (pr l (Dv.ei S).2)).set ox (xo false t [])) (O:=[Ms]) (o:=ox) (t':=27) (cs:=[A4 6,Ab t,A4 0,A4 0,Ab [],.slice false 6 ([].map A7)]) (by kernel_rfl) jU Tryz.type27 Tryz.sizeOf27 Tryz.sizeOf25 jU (Ak (gB hox)) ?_ ?_ ?_ (hfsz:=Tryz.sizeOf25)
 ·simp [Tryz.t27]
 ·simp [Tryz.t27]
 refine R.go ?_
 refine R.storeUpT jS (gB hox) ?_ ?_
 ·first|(rw [Rr];exact Cv)|(have:=Cv (n:=((Hp.set o (pr l (Dv.ei S).2)).set ox (xo false t [])).length) (k:=6) (o:=true) (l:=[(Dv.ei S).1]);simp only [List.map_cons,List.map_nil,Al] at this;exact this)
 refine en ?_;refine W.seq ?_
 refine AW.loopC (α:=List Expr×PS) (fun r=>⟨34,A6 0 (.ptr ox 0) (A6 1 (.ro [.ptr o 0]) (A6 2 (.ptr (oid Hp.length 0) 0) (fun _=>.any))),(Hp.set o (pr l r.2)).set ox (xo true t r.1),[Ms],[],none⟩) (fun r=>ArgsAt l Dv.ei S r) (fun r=>l.length-r.2.i) (([(Dv.ei S).1],(Dv.ei S).2)) (.start (hf S hi rfl)) (StLe.of_eq (by simp [List.set_set,xo,Al])) rfl (fun r hx=>?_)
 refine Z46 ?_
 refine R.go (h:=Q.loadUp (gA ho hne)) (hr:=?_)
 refine Z95 ?_;refine G.call Tryz.call232 (fun hB=>kg l r.2 Xv o _ (Ak (gA ho hne)) hx.fact.lt hl (by decide)) ?_;refine R.go ?_;refine R.fin [0,1,2,21] ?_
 refine W.cond (fun ht21=>?_) (fun ht21=>?_)
 ·have hon:=hx.on hl ht21 hf
  have hle:=hon.2.1.le
  have hlt0:=hx.fact.lt
  refine vi ?_;refine Z2 ?_;refine R.callUp Tryz.call233 (gA ho hne) (by simp) Dj (AB4 l r.2 o _ (Ak (gA ho hne)) hx.fact.lt hll) ?_;refine en ?_
  refine W.drawT0 [0,1,0,4,3,0,63,127,255,127,639] [1,3] [.q 1 [] [0],.s [25] (some 0) [] [],.q 1 [] [1],.s [27] (some 1) [] [],.q 2 [] []] (fun B=>(Hp.set o (if B 1=true then pr l (Dv.ei (Aq r.2)).2 else pr l (Aq r.2))).set ox (if B 0=true then xo false t r.1 else xo true t r.1)) (fun _=>[Ms]) Ap (by kernel_rfl) (by simp only [Bool.false_eq_true,if_false];exact (ABf hne).symm) rfl (fun B=>by simp) ?_
  apply Y.q
  ·intro B hT hF
   exact Z60
  case hTF=>decide
  refine Y.loadUpT (o:=ox) (t':=27) (cs:=[A4 6,Ab t,A4 0,A4 0,Ab [],.slice true 6 (r.1.map A7)]) (cs':=[A4 6,Ab t,A4 0,A4 0,Ab [],.slice false 6 (r.1.map A7)]) Tryz.isAgg25 (fun B hB=>⟨by simp only [hB];exact gB hox,by simp [upd,List.set_set]<;>rfl,rfl⟩) ?_
  apply Y.q
  ·intro B hT hF
   exact Z60
  case hTF=>decide
  refine Y.callUp (r:=A7 (Dv.ei (Aq r.2)).1) (o:=o) (x0:=pr l (Aq r.2)) (x:=pr l (Dv.ei (Aq r.2)).2) Tryz.call154 (fun B hT hF hB=>⟨by simp only [hB];exact gA ho hne,?_,rfl,Dj,?_⟩) ?_
  ·simp only [upd,hB,Nat.reduceEqDiff,if_false,if_true,Bool.false_eq_true]
   exact (ABf hne).symm
  ·simp only [hB]
   exact hcf o _ (Aq r.2) (Ak (gA ho hne)) hon.1 hx.fact.nest
  apply Y.q
  ·intro B hT hF
   exact na
  case hTF=>decide
  refine Y.appendPut (tn:=[1,3]) (U:=(Hp.set o (pr l (Dv.ei (Aq r.2)).2)).set ox (xo false t r.1)) (O:=[Ms]) (o:=ox) (t':=27) (cs:=[A4 6,Ab t,A4 0,A4 0,Ab [],.slice false 6 (r.1.map A7)]) (by kernel_rfl) jU Tryz.type27 Tryz.sizeOf27 Tryz.sizeOf25 jU (Ak (gB hox)) ?_ ?_ ?_ (hfsz:=Tryz.sizeOf25)
  ·have:=hx.fact.len;have:=hx.fact.lt;simp only [List.length_map,Tryz.t27];omega
  ·have:=hx.fact.len;have:=hx.fact.lt;simp only [List.length_map,Tryz.t27];omega
  refine R.go ?_
  refine R.storeUpT jS (gB hox) ?_ ?_
  ·first|(rw [Rr];exact Cv)|(have:=Cv (n:=((Hp.set o (pr l (Dv.ei S).2)).set ox (xo false t [])).length) (k:=6) (o:=true) (l:=[(Dv.ei S).1]);simp only [List.map_cons,List.map_nil,Al] at this;exact this)
  refine en ?_;refine K.blN ?_
  refine K.lpN (r.1++[(Dv.ei (Aq r.2)).1],(Dv.ei (Aq r.2)).2) hon.2.2 (by show l.length-(Dv.ei (Aq r.2)).2.i<l.length-r.2.i;have:r.2.i+1≤(Dv.ei (Aq r.2)).2.i:=hle;omega) (StCut.of_eq ?_)
  simp only [show Tryz.t27.size=6 from rfl,Rr,List.set_set]
 have hout:=hx.out (by rw [ht21];simp)
 refine Z36 ?_;refine Ef ?_
 refine R.go (h:=Q.loadUpN (gB hox)) (hr:=?_)
 refine Z71 ?_;exact K.fin (V.one (V.cellN jA jS)) ⟨by rw [hout,Rq];rfl,by rw [hout]⟩ (hlow:=by have:=Am Hp.length (.mk 6 t noV r.1);rw [Rq] at this;simpa using this)

/-- within, with the function that gathers a call's kids. -/
theorem AM4 (l:List Tok) (S:PS) (a:Int) (t:Str) (Dv:Fam) (o:Nat) (Hp:List AObj) (A0 A1:AObj) (l0:ObjLow 0 A0) (ho:Hp[o]? = some (pr l S)) (hi:S.i<l.length) (hl:TokEnd l) (hll:l.length≤1048576) (hnl:S.nest≤30) (hd:DeepC l Dv S.nest):
  ACall Tryz.prog 257 [.ptr o 0,A4 a,.fn (.func 340) [] [.ptr (oid Hp.length 2) 0,.ro [.ptr o 0]]] (Hp++[A0,A1,xo true t []]) (fun r H'=>r=A7 (if S.nest=30 then Aw else .mk 6 t noV (V7 l a Dv.ei S).1)∧H'=Hp.set o (pr l (V7 l a Dv.ei S).2)++[A0,A1,xo true t (V7 l a Dv.ei S).1]):=by
 have hlt:=(Ae.1 ho).1
 have ho':(Hp++[A0,A1,xo true t []])[o]? = some (pr l S):=Ak ho
 by_cases h30:S.nest=30
 ·refine (AE6 l S a 340 [] [.ptr (oid Hp.length 2) 0,.ro [.ptr o 0]] Aw (Dz S) o (Hp++[A0,A1,xo true t []]) ((Hp++[A0,A1,xo true t []]).set o (pr l (Dz S))) ho' (by omega) Tryz.call340 (by simp) (getset ho') rfl (fun h=>h) (fun h=>absurd h30 h)).mono fun r H' h=>?_
  have e:V7 l a Dv.ei S=([],Ex 18 a S):=if_pos (by rw [h30];rfl)
  rw [e,if_pos h30]
  obtain ⟨h1,h2⟩:=h.1 h30
  exact ⟨h1,by rw [h2,L2 _ _ hlt]⟩
 have hq:=Xz (S:=Dz S) hl hi (hd.ei h30).1
 refine (AE6 l S a 340 [] [.ptr (oid Hp.length 2) 0,.ro [.ptr o 0]] (.mk 6 t noV (Jm l Dv.ei (Dz S)).1) (Jm l Dv.ei (Dz S)).2 o (Hp++[A0,A1,xo true t []]) (Hp.set o (pr l (Jm l Dv.ei (Dz S)).2)++[A0,A1,xo true t (Jm l Dv.ei (Dz S)).1]) ho' (by omega) Tryz.call340 (by simp) (Ak (getset ho)) hq.nest (fun h y hy=>?_) (fun _ own=>?_)).mono fun r H' h=>?_
 ·rw [L2 _ _ hlt] at h
  rcases Ds.1 hy with hy|hy
  ·rcases M5 hy with h1|h1
   ·obtain ⟨i,hi',rfl⟩:=Wd h1
    by_cases hio:i=o
    ·subst hio
     have:Hp[i]=pr l S:=by rw [Ac hi'] at ho;injection ho
     rw [this];exact Dj
    refine h _ (db _ ?_)
    rw [r8]
    exact ⟨i,by rw [Cf (Ne.symm hio),Ac hi']⟩
   rw [h1];exact Dj
  simp only [B3,Ed,or_false] at hy
  rcases hy with rfl|rfl|rfl
  ·exact h _ (S5 _ (by simp))
  ·exact h _ (S5 _ (by simp))
  exact AI6
 ·have hoid:oid Hp.length 2≠o:=by unfold oid;omega
  have e1:(Hp++[A0,A1,xo true t []]).set o (pr l (Dz S))++own=(Hp.set o (pr l (Dz S))++[A0,A1,xo true t []])++own:=by rw [L2 _ _ hlt]
  rw [e1]
  have g1:((Hp.set o (pr l (Dz S))++[A0,A1,xo true t []])++own)[o]? = some (pr l (Dz S)):=Ak (Ak (getset ho))
  have g2:((Hp.set o (pr l (Dz S))++[A0,A1,xo true t []])++own)[oid Hp.length 2]? = some (xo true t []):=Ak (by
   have:=B6 (U:=Hp.set o (pr l (Dz S))) (O:=[A0,A1,xo true t []]) (n:=2)
   rw [Dl] at this
   exact this)
  refine (AOr l (Dz S) t Dv o (oid Hp.length 2) _ hoid g1 g2 hi hl hll (hd.ei h30).1 (hd.ei h30).2).mono fun r H' h=>⟨h.1,h.2.trans ?_⟩
  rw [Bp,L2 _ _ (by simpa using hlt),C6]
  have:=Du (U:=Hp.set o (pr l (Jm l Dv.ei (Dz S)).2)) (O:=[A0,A1,xo true t []]++own) (n:=2) (x:=xo true t (Jm l Dv.ei (Dz S)).1)
  rw [Dl] at this
  rw [this]
  simp
 have e:V7 l a Dv.ei S=((Jm l Dv.ei (Dz S)).1,bb (Jm l Dv.ei (Dz S)).2):=if_neg (by
  show ¬(((S.nest:Int)==30)=true)
  simp
  omega)
 rw [e,if_neg h30]
 obtain ⟨h1,h2⟩:=h.2 h30
 exact ⟨h1,by rw [h2,L2 _ _ (by simpa using hlt),C6]⟩
theorem AOs (l:List Tok) (S:PS) (Dv:Fam) (t:Tok) (o:Nat) (Hp:List AObj) (ho:Hp[o]? = some (pr l S)) (hi:(Aq S).i<l.length) (hl:TokEnd l) (hll:l.length≤1048576) (hnl:S.nest≤30) (hd:DeepC l Dv S.nest):ACall Tryz.prog 338 [.ptr o 0,Ix t] Hp (fun r H'=>r=A7 (Jn l Dv t S).1∧H'=Hp.set o (pr l (Jn l Dv t S).2)):=by
 have hi0:S.i<l.length:=by have:S.i+1<l.length:=hi;omega
 have hol:=(Ae.1 ho).1
 have hkf:KFact l (Aq S) (Ea l Dv S):=Y0 hl _ hi (fun h=>(hd.ei h).1)
 refine Ah [.cell 4 27] [0,1] Tryz.func338 Tryz.ntmps338 (fun d=>?_)
 refine Z1 ?_;refine Rd ?_;refine A2 [2,3,4] ?_;refine Z1 ?_;refine Aa Tryz.call176 (AHp t.text _) ?_;refine A5 ?_;refine Zl ?_;refine Z7 ?_;refine A2 [2,3,4,5,12] ?_
 refine A3 (fun ht12=>?_) (fun ht12=>?_)
 ·have hlt0:Ci t.text<0:=by simpa using ht12
  have e:Jn l Dv t S=(Aw,Ex 9 t.at_ S):=if_pos hlt0
  refine Z16 ?_;refine Cl Tryz.call156 ho (by simp) Dj (wn l S 9 t.at_ o _ (Ak ho)) ?_;refine Gz ?_;refine A2 [4] ?_;refine Z12 ?_;exact AL3
 have hge:¬Ci t.text<0:=by simpa using ht12
 refine Of ?_;refine Cl Tryz.call233 ho (by simp) Dj (AB4 l S o _ (Ak ho) hi0 hll) ?_;refine Z11 ?_;refine A2 [2,3,4,5,6] ?_;refine Z86 ?_;refine Z11 ?_;refine A2 [2,3,4,5,6,7] ?_;refine Ef ?_;refine Fx 2 5 6 ?_;refine Z8 ?_;refine J4 ?_
 refine Hi (up':=(Hp.set o (pr l (Aq S))).set o (pr l (Ea l Dv S).2)) (own':=[Ms,.cells 118 [A4 (Af l S.i).kind,Ab (Af l S.i).text,A4 (Af l S.i).at_],xo true t.text (Ea l Dv S).1]) Tryz.call257 (by have:=AM4 l (Aq S) (Af l S.i).at_ t.text Dv o (Hp.set o (pr l (Aq S))) Ms (.cells 118 [A4 (Af l S.i).kind,Ab (Af l S.i).text,A4 (Af l S.i).at_]) fk (getset ho) hi hl hll hnl hd;rw [Dl] at this;exact this) (by simp) (fun h=>AE8 h Dj) ?_
 refine A2 [2,3,4,5,7] ?_;refine Z2 ?_;refine Cl Tryz.call339 (getset (getset ho)) (by simp) Dj (AM0 l (Ea l Dv S).2 Gk o _ (Ak (getset (getset ho))) hkf.lt hll) ?_;refine A2 [2,3,4,5,7] ?_;refine Z46 ?_
 refine A5 (h:=Bj (getset (getset (getset ho)))) (hr:=?_)
 refine Z52 ?_;refine Z80 ?_;refine A2 [2,3,4,7,41] ?_
 refine A3 (fun ht41=>?_) (fun ht41=>?_)
 ·have e:Jn l Dv t S=(Aw,Ex 8 t.at_ (Gr l Gk (Ea l Dv S).2)):=by
   unfold Jn
   rw [if_neg hge,if_pos (by have:=ht41;simp only [Ag] at this;exact this)]
  refine Z16 ?_;refine Cl Tryz.call156 (getset (getset (getset ho))) (by simp) Dj (wn l (Gr l Gk (Ea l Dv S).2) 8 t.at_ o _ (Ak (getset (getset (getset ho))))) ?_;refine Gz ?_;refine A2 [4] ?_;refine Z12 ?_;exact A9 (Aj (B5 jA jS)) ⟨by rw [e,Al],by rw [e,C6,C6,C6]⟩ (hlow:=low_agg _)
 have e:Jn l Dv t S=(.mk 6 t.text noV (Ea l Dv S).1,(Gr l Gk (Ea l Dv S).2)):=by
  unfold Jn
  rw [if_neg hge,if_neg (by have:=ht41;simp only [Ag] at this;rw [G7] at this;exact this)]
 refine Z4 ?_;refine Z42 ?_;refine Z20 ?_;exact A9 (Aj (B5 jA jS)) ⟨by rw [e,Rq];rfl,by rw [e,C6,C6]⟩ (hlow:=by have:=Am Hp.length (.mk 6 t.text noV (Ea l Dv S).1);rw [Rq] at this;simpa using this)

theorem bq {l:List Tok} (hl:TokEnd l) (hll:l.length≤1048576) (n:Nat) (Dv:Fam) (hn:n≤30) (hd:DeepC l Dv n):ki l Dv n:=fun o Hp S t ho hi hS _ _=>by
 subst hS
 exact AOs l S Dv t o Hp ho hi hl hll hn hd
/-! Queries: what query.Parse, Print, Right, Same answer. -/
structure Qry where
 all:Bool
 cols:List Str
 whr:Expr
 lim:Int
/-- A parser: where it is, and the first fault. -/
structure QS where
 i:Nat
 code:Int
 at_:Int
def Jo (l:List Tok) (e:Int) (S:QS):QS:=if S.code==0 then ⟨S.i,e,((Af l S.i).at_:Int)⟩ else S
def isQ (l:List Tok) (s:Str) (S:QS):Bool:=((S.code==0)&&(((Af l S.i).kind==5) || ((Af l S.i).kind==2)))&&((Af l S.i).text==s)
def F3 (S:QS):QS:=⟨S.i+1,S.code,S.at_⟩
def kq (l:List Tok) (s:Str) (S:QS):QS:=if isQ l s S then F3 S else S
def Sy (l:List Tok) (s:Str) (S:QS):QS:=if isQ l s S then F3 S else Jo l 8 S
def I0 (l:List Tok) (r:Qry×QS):Qry×QS:=
 if r.2.code != 0 then r else if (Af l r.2.i).kind != 1 then (r.1,Jo l 8 r.2) else if (r.1.cols.length:Int)==12 then (r.1,Jo l 3 r.2)
 else (⟨r.1.all,r.1.cols++[(Af l r.2.i).text],r.1.whr,r.1.lim⟩,F3 r.2)
def Lw (l:List Tok):Nat→Qry×QS→Qry×QS
 | 0,r=>r
 | n+1,r=>if isQ l [44] r.2 then Lw l n (I0 l (r.1,F3 r.2)) else r
def Mt (b:Bool) (q:Qry):Qry:=⟨b,q.cols,q.whr,q.lim⟩
def Ny (l:List Tok) (r:Qry×QS):Qry×QS:=if isQ l [42] r.2 then (Mt true r.1,F3 r.2) else Lw l l.length (I0 l (Mt false r.1,r.2))
def Pl:Str:=[119,104,101,114,101]
def Nz:Str:=[108,105,109,105,116]
def fu:Str:=[115,101,108,101,99,116]
def Kw (l:List Tok) (r:Qry×QS):Qry×QS:=
 if isQ l Pl r.2 then
  if (atM l (r.2.i+1)).2.2.1 != 0 then (r.1,⟨r.2.i+1,(atM l (r.2.i+1)).2.2.1,(atM l (r.2.i+1)).2.2.2⟩)
  else (⟨r.1.all,r.1.cols,(atM l (r.2.i+1)).1,r.1.lim⟩,⟨(atM l (r.2.i+1)).2.1.toNat,r.2.code,r.2.at_⟩)
 else r
/-- The number that strconv.Atoi hands back. -/
def V9 (s:Str):Int:=match Lib.atoiAll s with|.ok v=>v|.range=>Lib.atoiSat s|_=>0
def J9 (l:List Tok) (r:Qry×QS):Qry×QS:=
 if isQ l Nz r.2 then
  if (Af l (r.2.i+1)).kind != 3 then (r.1,Jo l 8 (F3 r.2))
  else if decide ((100000:Int)<V9 (Af l (r.2.i+1)).text) then (r.1,Jo l 3 (F3 r.2))
  else (⟨r.1.all,r.1.cols,r.1.whr,V9 (Af l (r.2.i+1)).text⟩,F3 (F3 r.2))
 else r
def kr:Qry:=⟨false,[],Aw,0⟩
def AM5 (l:List Tok) (S:QS):QS:=if (Af l S.i).kind != 0 then Jo l 8 S else S
def su (l:List Tok):Qry×QS:=
 let r:=J9 l (Kw l (Ny l (⟨false,[],Aw, -1⟩,Sy l fu ⟨0,0,0⟩)))
 (r.1,AM5 l (Sy l [59] r.2))
def sw (l:List Tok):Qry×Int×Int:=if (su l).2.code != 0 then (kr,(su l).2.code,(su l).2.at_) else ((su l).1,0,0)
def Mu (s:Str):Qry×Int×Int:=if (Bu s).2.1 != 0 then (kr,(Bu s).2.1,((Bu s).2.2:Int)) else sw (Bu s).1
def Va (q:Qry):Bool := !(eqE q.whr Aw)
def Ja (q:Qry):Bool:=
 if (((q.all != ((q.cols.length:Int)==0)) || decide ((12:Int)<(q.cols.length:Int))) || decide (q.lim < -1)) || decide ((100000:Int)<q.lim) then false
 else (q.cols.all Cc)&&(!(Va q) || B2 q.whr)
/-! The words of what is printed. -/
set_option maxRecDepth 8000
/-! The document's kinds of trees are infer's. -/
def F9 (k w:Int):Bool:=(k==0) || (k==w)
def H1 (o:Int) (t:Str) (ks:List Int):Int×Bool:=
 if o==3 then (1,F9 (ks.getD 0 0) 1) else if o==4 then (3,F9 (ks.getD 0 0) 3)
 else if (o==5)&&((t==[111,114]) || (t==[97,110,100])) then (3,F9 (ks.getD 0 0) 3&&F9 (ks.getD 1 0) 3)
 else if (o==5)&&(Hn t==3) then (3,(ks.getD 0 0==0) || F9 (ks.getD 1 0) (ks.getD 0 0))
 else if (o==5)&&(t==[38]) then (2,F9 (ks.getD 0 0) 2&&F9 (ks.getD 1 0) 2)
 else if o==5 then (1,F9 (ks.getD 0 0) 1&&F9 (ks.getD 1 0) 1)
 else if (t==[108,101,110]) || (t==[110,117,109]) then (1,F9 (ks.getD 0 0) 2)
 else if t==[115,116,114] then (2,F9 (ks.getD 0 0) 1)
 else if (t==[108,101,102,116]) || (t==[114,105,103,104,116]) then (2,F9 (ks.getD 0 0) 2&&F9 (ks.getD 1 0) 1)
 else if t==[105,115,110,117,108,108] then (3,true)
 else (if ks.getD (ks.length-2) 0==0 then ks.getD (ks.length-1) 0 else ks.getD (ks.length-2) 0,
  ((ks.getD (ks.length-2) 0==0) || F9 (ks.getD (ks.length-1) 0) (ks.getD (ks.length-2) 0))&&((t==[110,118,108]) || F9 (ks.getD 0 0) 3))
def Ui (o:Int) (t:Str) (ks:List Int):Int×Int:=if (H1 o t ks).2 then ((H1 o t ks).1,0) else (0,10)
theorem Qa (w k:Int) (hw:(w==0)=false):(H5 w k).2=F9 k w:=by
 unfold H5 F9
 rw [hw]
 simp only [Ay,if_false]
 by_cases h:(k==0)=true
 ·simp [h]
 have h':(k==0)=false:=by simpa using h
 rw [h']
 by_cases h2:w=k
 ·subst h2;simp
 have:¬k=w:=fun e=>h2 e.symm
 simp [h2,this]
theorem AEd (t:Str):(Hn t==3)=((((((t==[61]) || (t==[33,61])) || (t==[60])) || (t==[60,61])) || (t==[62])) || (t==[62,61])):=by
 by_cases h:t∈[[61],[33,61],[60],[60,61],[62],[62,61]]
 ·simp only [B3,Dt,or_false] at h
  rcases h with rfl|rfl|rfl|rfl|rfl|rfl<;>rfl
 have e:((((((t==[61]) || (t==[33,61])) || (t==[60])) || (t==[60,61])) || (t==[62])) || (t==[62,61]))=false:=by
  simp only [B3,Dt,or_false,not_or] at h
  simp [h]
 rw [e]
 unfold Hn
 split
 ·rename_i i hi
  rw [Ll] at hi
  obtain ⟨hl,hc,_⟩:=hi
  by_cases h3:i=3
  ·subst h3
   exact (h (by simp [levels] at hc;simpa using hc)).elim
  have:¬((i:Int)=3):=by omega
  simp [this]
 rfl
theorem sx {s:Sign} {a w:Int} (hk:s.kids=[w]) (hw:(w==0)=false) (h1:(w == -1)=false) (h2:(w == -2)=false) (ho:(s.own == -1)=false):Mr s [a]=if F9 a w then (s.own,0) else (0,10):=by
 unfold Mr
 rw [hk]
 simp only [Qh,h1,h2,Ay,if_false,Qa w a hw]
 cases F9 a w<;>simp [ho]
theorem sy {s:Sign} {a b v w:Int} (hk:s.kids=[v,w]) (hv:(v==0)=false) (hv1:(v == -1)=false) (hv2:(v == -2)=false) (hw:(w==0)=false) (h1:(w == -1)=false) (h2:(w == -2)=false) (ho:(s.own == -1)=false):Mr s [a,b]=if F9 a v&&F9 b w then (s.own,0) else (0,10):=by
 unfold Mr
 rw [hk]
 simp only [Qh,hv1,hv2,h1,h2,Ay,if_false,Qa w b hw,Qa v a hv]
 cases F9 a v<;>cases F9 b w<;>simp [ho]
theorem AG5 {s:Sign} {a b:Int} (hk:s.kids=[-1, -1]):Mr s [a,b]=if (a==0) || F9 b a then (if s.own == -1 then (if a==0 then b else a,0) else (s.own,0)) else (0,10):=by
 unfold Mr F9
 rw [hk]
 simp only [Qh,H5]
 by_cases ha:a=0
 ·subst ha;simp
 by_cases hb:b=0
 ·subst hb;simp [ha]
 by_cases he:a=b
 ·subst he;simp [ha]
 have:¬b=a:=fun e=>he e.symm
 simp [ha,hb,he,this]
theorem AI7 {s:Sign} {x a b:Int} (hk:s.kids=[3, -1, -1]):Mr s [x,a,b]=if ((a==0) || F9 b a)&&F9 x 3 then (if s.own == -1 then (if a==0 then b else a,0) else (s.own,0)) else (0,10):=by
 unfold Mr F9
 rw [hk]
 simp only [Qh,Qa 3 x rfl,F9]
 simp only [H5]
 by_cases hx:((x==0) || (x==3))=true
 ·by_cases ha:a=0
  ·subst ha;simp [hx]
  by_cases hb:b=0
  ·subst hb;simp [ha,hx]
  by_cases he:a=b
  ·subst he;simp [ha,hx]
  have:¬b=a:=fun e=>he e.symm
  simp [ha,hb,he,this,hx]
 simp [hx]
theorem AM6 {s:Sign} {x:Int} (hk:s.kids=[-2]) (ho:(s.own == -1)=false):Mr s [x]=(s.own,0):=by
 unfold Mr
 rw [hk]
 simp [Qh,ho]
theorem kt {ks:List Int} (h:ks.length=1):∃a,ks=[a]:=by
 match ks,h with
 | [a],_=>exact ⟨a,rfl⟩
theorem ABg {ks:List Int} (h:ks.length=2):∃a b,ks=[a,b]:=by
 match ks,h with
 | [a,b],_=>exact ⟨a,b,rfl⟩
theorem AM7 {ks:List Int} (h:ks.length=3):∃a b c,ks=[a,b,c]:=by
 match ks,h with
 | [a,b,c],_=>exact ⟨a,b,c,rfl⟩
theorem qb (t:Str) (a b:Int):Ui 5 t [a,b]=Mr (Hv t) [a,b]:=by
 unfold Ui H1 Hv
 simp only [AEd,show ((5:Int)==3)=false from rfl,show ((5:Int)==4)=false from rfl,show ((5:Int)==5)=true from rfl,Fb,Ay,if_false]
 by_cases h1:((t==[111,114]) || (t==[97,110,100]))=true
 ·simp only [h1,if_true]
  rw [sy (v:=3) (w:=3) rfl rfl rfl rfl rfl rfl rfl rfl]
  rfl
 simp only [h1,if_false,Ay]
 by_cases h2:((((((t==[61]) || (t==[33,61])) || (t==[60])) || (t==[60,61])) || (t==[62])) || (t==[62,61]))=true
 ·simp only [h2,if_true]
  rw [AG5 rfl]
  rfl
 simp only [h2,if_false,Ay]
 by_cases h3:(t==[38])=true
 ·simp only [h3,if_true]
  rw [sy (v:=2) (w:=2) rfl rfl rfl rfl rfl rfl rfl rfl]
  rfl
 simp only [h3,if_false,Ay,if_true]
 rw [sy (v:=1) (w:=1) rfl rfl rfl rfl rfl rfl rfl rfl]
 rfl
theorem qc {t:Str} {ks:List Int} (h:(Ft t).kids.length=ks.length):Ui 6 t ks=Mr (Ft t) ks:=by
 unfold Ui H1
 simp only [show ((6:Int)==3)=false from rfl,show ((6:Int)==4)=false from rfl,show ((6:Int)==5)=false from rfl,H9,Ay,if_false]
 unfold Ft at h ⊢
 by_cases h1:((t==[108,101,110]) || (t==[110,117,109]))=true
 ·simp only [h1,if_true] at h ⊢
  obtain ⟨a,rfl⟩:=kt h.symm
  rw [sx (w:=2) rfl rfl rfl rfl rfl]
  rfl
 simp only [h1,if_false,Ay] at h ⊢
 by_cases h2:(t==[115,116,114])=true
 ·simp only [h2,if_true] at h ⊢
  obtain ⟨a,rfl⟩:=kt h.symm
  rw [sx (w:=1) rfl rfl rfl rfl rfl]
  rfl
 simp only [h2,if_false,Ay] at h ⊢
 by_cases h3:((t==[108,101,102,116]) || (t==[114,105,103,104,116]))=true
 ·simp only [h3,if_true] at h ⊢
  obtain ⟨a,b,rfl⟩:=ABg h.symm
  rw [sy (v:=2) (w:=1) rfl rfl rfl rfl rfl rfl rfl rfl]
  rfl
 simp only [h3,if_false,Ay] at h ⊢
 by_cases h4:(t==[105,115,110,117,108,108])=true
 ·simp only [h4,if_true] at h ⊢
  obtain ⟨a,rfl⟩:=kt h.symm
  rw [AM6 rfl rfl]
 simp only [h4,if_false,Ay] at h ⊢
 by_cases h5:(t==[110,118,108])=true
 ·simp only [h5,if_true] at h ⊢
  obtain ⟨a,b,rfl⟩:=ABg h.symm
  rw [AG5 rfl]
  simp
 simp only [h5,if_false,Ay] at h ⊢
 obtain ⟨a,b,c,rfl⟩:=AM7 h.symm
 rw [AI7 rfl]
 simp
theorem AEe {e:Expr} (h:E5 e=true) (h1:(e.op==1)=false) (h2:(e.op==2)=false) {ks:List Int} (hl:ks.length=e.kids.length):Ui e.op e.text ks=Mr (Qt e.op e.text) ks:=by
 have hs:=N4 h h1 h2
 unfold Qt at hs ⊢
 unfold E5 at h
 rw [h1,h2] at h
 simp only [Ay,if_false] at h
 by_cases h3:e.op=3
 ·rw [h3] at hs ⊢
  simp only [beq_self_eq_true,if_true] at hs ⊢
  obtain ⟨a,rfl⟩:=kt (by rw [hl,←hs];rfl)
  rw [sx (w:=1) rfl rfl rfl rfl rfl]
  rfl
 by_cases h4:e.op=4
 ·rw [h4] at hs ⊢
  obtain ⟨a,rfl⟩:=kt (by rw [hl,←hs];rfl)
  rw [show (if ((4:Int)==3)=true then (⟨[1],1⟩:Sign) else if ((4:Int)==4)=true then ⟨[3],3⟩ else if ((4:Int)==5)=true then Hv e.text else Ft e.text)=⟨[3],3⟩ from rfl,sx (w:=3) rfl rfl rfl rfl rfl]
  rfl
 by_cases h5:e.op=5
 ·rw [h5] at hs ⊢
  rw [show (if ((5:Int)==3)=true then (⟨[1],1⟩:Sign) else if ((5:Int)==4)=true then ⟨[3],3⟩ else if ((5:Int)==5)=true then Hv e.text else Ft e.text)=Hv e.text from rfl] at hs ⊢
  obtain ⟨a,b,rfl⟩:=ABg (by rw [hl,←hs,Rp])
  exact qb _ _ _
 have h6:e.op=6:=by
  simp [h3,h4,h5] at h
  exact h.1
 rw [h6] at hs ⊢
 rw [show (if ((6:Int)==3)=true then (⟨[1],1⟩:Sign) else if ((6:Int)==4)=true then ⟨[3],3⟩ else if ((6:Int)==5)=true then Hv e.text else Ft e.text)=Ft e.text from rfl] at hs ⊢
 exact qc (by rw [hs,hl])
/-! Moves: what mig.Right, sound.* and the document's layers 18, 19 answer. -/
structure Mov where
 kind:Int
 take:List Str
 give:List Col
 ahead:List Expr
 back:List Expr
abbrev Bd (l:List Expr):AV:=.slice false 6 (l.map A7)
abbrev Io (m:Mov):List AV:=[A4 m.kind,E4 m.take,Ai m.give,Bd m.ahead,Bd m.back]
abbrev G5 (m:Mov):AV:=.agg (Io m)
abbrev Dm (l:List Mov):AV:=.slice false 5 (l.map G5)
/-- Trees that may be walked. -/
structure OkEs (l:List Expr):Prop where
 len:l.length≤1048576
 ok:∀e∈l,okE 61 e
 size:∀e∈l,sizeE e≤1048576
 rng:∀e∈l,F7 Lv e=true
structure OkMov (m:Mov):Prop where
 takes:m.take.length≤1048576
 names:∀s∈m.take,s.length≤1048576
 gives:OkCols m.give
 gives2:m.give.length≤1000000
 ahead:OkEs m.ahead
 back:OkEs m.back
structure OkMovs (l:List Mov):Prop where
 len:l.length≤1048576
 each:∀m∈l,OkMov m
def Fk (m:Mov):Bool:=
 if ((m.ahead.length:Int) != (m.give.length:Int)) || ((m.back.length:Int) != (m.take.length:Int)) then false
 else if m.kind==1 then ((m.take.length:Int)==0)&&((m.give.length:Int)==1)
 else if m.kind==2 then ((m.take.length:Int)==1)&&((m.give.length:Int)==0)
 else if (m.kind==3) || (m.kind==6) then ((m.take.length:Int)==1)&&((m.give.length:Int)==1)
 else if m.kind==4 then ((m.take.length:Int)==1)&&decide ((1:Int)<(m.give.length:Int))
 else if m.kind==5 then decide ((1:Int)<(m.take.length:Int))&&((m.give.length:Int)==1)
 else false
def K2 (m:Mov) (c:Col):Bool:=Cc c.name&&(((C8 c.kind==[])==(m.kind==3)) && !((m.kind==3)&&(c.kind != 0)))
def Lx (m:Mov):Bool:=
 if m.kind==3 then eqE (m.ahead.getD 0 Aw) (Bo (m.take.getD 0 []))&&eqE (m.back.getD 0 Aw) (Bo (m.give.getD 0 ⟨[],0⟩).name)
 else if m.kind==6 then m.take.getD 0 []==(m.give.getD 0 ⟨[],0⟩).name else true
def Fs (m:Mov):Bool:=(((((Fk m&&m.give.all (K2 m))&&m.take.all Cc)&&m.ahead.all Bc)&&m.back.all Bc)&&Lx m)
def Oi (l:List Mov):Bool:=decide ((l.length:Int)≤8)&&l.all Fs
/-! Columns behind moves. -/
def Y4 (e:Expr) (c:List Col) (w:Int):Bool:=((Ej e c).2==0)&&(((Ej e c).1==w) || ((Ej e c).1==0))
def Bf (c:List Col) (m:Mov):List Col:=
 if m.kind==3 then (if At (m.take.getD 0 []) c<0 then m.give else match m.give with
  | []=>[]
  | y::r=>⟨y.name,(c.getD (At (m.take.getD 0 []) c).toNat ⟨[],0⟩).kind⟩::r)
 else m.give
def Pm (e:Expr) (c:List Col) (w:Int):Int:=if (Ej e c).2 != 0 then (Ej e c).2 else if !Y4 e c w then 10 else 0
def Dp (over:List Col):List Expr→List Col→Int
 | x::r,w::ws=>if Pm x over w.kind != 0 then Pm x over w.kind else Dp over r ws
 | _,_=>0
def Ip (c:List Col) (m:Mov):List Col:=m.take.map fun s=>c.getD (At s c).toNat ⟨[],0⟩
def Ba (c:List Col) (m:Mov):List Col×Int:=
 if (D9 c m.take (Bf c m)).2 != 0 then ([],(D9 c m.take (Bf c m)).2)
 else if Dp c m.ahead (Bf c m) != 0 then ([],Dp c m.ahead (Bf c m))
 else if Dp (D9 c m.take (Bf c m)).1 m.back (Ip c m) != 0 then ([],Dp (D9 c m.take (Bf c m)).1 m.back (Ip c m))
 else ((D9 c m.take (Bf c m)).1,0)
/-- The columns ahead of each move and behind the last one, till one is wrong; the error. -/
def C2 (c:List Col):List Mov→List (List Col)×Int
 | []=>([c],0)
 | m::r=>if (Ba c m).2 != 0 then ([c],(Ba c m).2) else (c::(C2 (Ba c m).1 r).1,(C2 (Ba c m).1 r).2)
def K3 (c:List Col) (l:List Mov):Bool:=Cx c&&Oi l
/-- ref19.Steps. -/
def Fe (c:List Col) (l:List Mov):List (List Col)×Int:=if K3 c l then C2 c l else ([],1)
/-- sound.Steps. -/
def Cg (c:List Col) (l:List Mov):List (List Col)×Int:=if (Fe c l).2 != 0 then ([],(Fe c l).2) else Fe c l
def Ec (c:List Col) (l:List Mov):List Col×Int:=if (Cg c l).2 != 0 then ([],(Cg c l).2) else ((Cg c l).1.getLastD [],0)
theorem Lg {m:Mov} (h:Fs m=true):Fk m=true:=by
 unfold Fs at h
 simp only [Az] at h
 exact h.1.1.1.1.1
theorem Gm {m:Mov} (h:Fk m=true):m.ahead.length=m.give.length∧m.back.length=m.take.length:=by
 unfold Fk at h
 split at h
 ·cases h
 rename_i h1
 simp only [Dg,bne_iff_ne,ne_eq,not_or,mb] at h1
 omega
theorem Pn {m:Mov} (h:Fk m=true) (h3:((m.kind==3) || (m.kind==6))=true):m.take.length=1∧m.give.length=1:=by
 unfold Fk at h
 split at h
 ·cases h
 have h1:(m.kind==1)=false:=by simp at h3 ⊢;omega
 have h2:(m.kind==2)=false:=by simp at h3 ⊢;omega
 simp only [h1,h2,h3,if_true,if_false,Ay,Az,beq_iff_eq] at h
 omega
theorem It (c:List Col) (m:Mov):(Bf c m).length=m.give.length:=by
 unfold Bf
 split
 ·split
  ·rfl
  split<;>simp_all
 rfl
set_option maxRecDepth 4000
/-! What query.Check, query.Run answer. -/
def Dk (q:Qry) (c:List Col):Int:=
 if !Ja q || !Pc c then 1 else if q.cols.any (fun s=>decide (At s c<0)) then 9 else if !Va q then 0
 else if (Ej q.whr c).2 != 0 then (Ej q.whr c).2 else if !Y4 q.whr c 3 then 10 else 0
/-! A limit cuts the answer. -/
/-! Some of all. -/
abbrev Y5 (s:Sign):AV:=.agg [.slice false 1 (s.kids.map A4),A4 s.own]
theorem ABh {m:Sign} {a o:Int} (h:m=⟨[a],o⟩):AV.agg [.slice false 1 [A4 a],A4 o]=Y5 m:=by rw [h];rfl
theorem ABi {m:Sign} {a b o:Int} (h:m=⟨[a,b],o⟩):AV.agg [.slice false 1 [A4 a,A4 b],A4 o]=Y5 m:=by rw [h];rfl
theorem ABj {m:Sign} {a b c o:Int} (h:m=⟨[a,b,c],o⟩):AV.agg [.slice false 1 [A4 a,A4 b,A4 c],A4 o]=Y5 m:=by rw [h];rfl
theorem AOt (s:Str) (Hp:List AObj):AFun Tryz.prog 181 [Ab s] Hp (Y5 (Hv s)):=by
 refine Ah [.cell 2 186] [0] Tryz.func181 Tryz.ntmps181 (fun d=>?_)
 refine Z69 ?_;refine Z25 ?_;refine Jt ?_;refine Ju ?_
 refine Np ⟨24,A6 2 (.ptr (oid Hp.length 0) 0) (A6 3 (Ab s) (A6 4 (B0 ((s==[111,114]) || (s==[97,110,100]))) (fun _=>.any))),Hp,[.cells 186 [.nil,A4 0]],[],none⟩ ?_ ?_
 ·refine Z1 ?_;refine A2 [2,3,4] ?_
  refine A3 (fun ht4=>?_) (fun ht4=>?_)
  ·refine Ep [2,3,4] ?_;exact ACy
  refine Z45 ?_;refine A2 [2,3,4] ?_;exact Z63
 refine A3 (fun ht4=>?_) (fun ht4=>?_)
 ·refine im ?_;exact Z65
 refine Np ⟨24,A6 2 (.ptr (oid Hp.length 0) 0) (A6 3 (Ab s) (A6 9 (B0 ((((((s==[61]) || (s==[33,61])) || (s==[60])) || (s==[60,61])) || (s==[62])) || (s==[62,61]))) (fun _=>.any))),Hp,[.cells 186 [.nil,A4 0]],[],none⟩ ?_ ?_
 ·refine vd ?_
  refine A3 (fun ht9=>?_) (fun ht9=>?_)
  ·exact ze
  refine vd ?_
  refine A3 (fun ht9=>?_) (fun ht9=>?_)
  ·exact ze
  refine vd ?_
  refine A3 (fun ht9=>?_) (fun ht9=>?_)
  ·exact ze
  refine vd ?_
  refine A3 (fun ht9=>?_) (fun ht9=>?_)
  ·exact ze
  refine vd ?_
  refine A3 (fun ht9=>?_) (fun ht9=>?_)
  ·exact ze
  refine Z45 ?_;refine A2 [2,3,9] ?_;exact Z63
 refine A3 (fun ht9=>?_) (fun ht9=>?_)
 ·refine im ?_;exact Z65
 refine Z1 ?_;refine A2 [2,18] ?_
 refine A3 (fun ht18=>?_) (fun ht18=>?_)
 ·refine im ?_;exact Z65
 refine Z47 ?_;refine im ?_;exact AL4
theorem AOu (s:Str) (Hp:List AObj):AFun Tryz.prog 182 [Ab s] Hp (Y5 (Ft s)):=by
 refine Ah [.cell 2 186] [0] Tryz.func182 Tryz.ntmps182 (fun d=>?_)
 refine Z69 ?_;refine Z25 ?_;refine Jt ?_;refine Ju ?_
 refine Np ⟨28,A6 2 (.ptr (oid Hp.length 0) 0) (A6 3 (Ab s) (A6 4 (B0 ((s==[108,101,110]) || (s==[110,117,109]))) (fun _=>.any))),Hp,[.cells 186 [.nil,A4 0]],[],none⟩ ?_ ?_
 ·refine Z1 ?_;refine A2 [2,3,4] ?_
  refine A3 (fun ht4=>?_) (fun ht4=>?_)
  ·refine Ep [2,3,4] ?_;exact ACy
  refine Z45 ?_;refine A2 [2,3,4] ?_;exact Z63
 refine A3 (fun ht4=>?_) (fun ht4=>?_)
 ·exact zj
 refine vd ?_
 refine A3 (fun ht9=>?_) (fun ht9=>?_)
 ·exact zj
 refine Np ⟨28,A6 2 (.ptr (oid Hp.length 0) 0) (A6 3 (Ab s) (A6 13 (B0 ((s==[108,101,102,116]) || (s==[114,105,103,104,116]))) (fun _=>.any))),Hp,[.cells 186 [.nil,A4 0]],[],none⟩ ?_ ?_
 ·refine Z1 ?_;refine A2 [2,3,13] ?_
  refine A3 (fun ht13=>?_) (fun ht13=>?_)
  ·refine Ep [2,3,13] ?_;exact ACy
  refine Z45 ?_;refine A2 [2,3,13] ?_;exact Z63
 refine A3 (fun ht13=>?_) (fun ht13=>?_)
 ·exact zj
 refine Z1 ?_;refine A2 [2,3,18] ?_
 refine A3 (fun ht18=>?_) (fun ht18=>?_)
 ·exact zj
 refine Z1 ?_;refine A2 [2,22] ?_
 refine A3 (fun ht22=>?_) (fun ht22=>?_)
 ·exact zj
 refine Z47 ?_;refine im ?_;exact AL5
theorem AOv (e:Expr) (Hp:List AObj):AFun Tryz.prog 146 [A7 e] Hp (Y5 (Qt e.op e.text)):=by
 refine Ah [.cell 2 186] [0] Tryz.func146 Tryz.ntmps146 (fun d=>?_)
 refine ec ?_;refine A2 [1,2] ?_;refine Z7 ?_;refine A2 [1,2,4] ?_;refine Wy ?_;refine A2 [1,2,4,5] ?_
 refine A3 (fun ht5=>?_) (fun ht5=>?_)
 ·refine im ?_;exact AGu
 refine Z1 ?_;refine A2 [1,2,4,9] ?_
 refine A3 (fun ht9=>?_) (fun ht9=>?_)
 ·refine im ?_;exact AGu
 refine Z1 ?_;refine A2 [1,2,13] ?_
 refine A3 (fun ht13=>?_) (fun ht13=>?_)
 ·refine Z1 ?_;refine Aa Tryz.call181 (AOt e.text _) ?_;refine Z71 ?_;exact AGu
 refine Z47 ?_;refine Z1 ?_;refine Aa Tryz.call182 (AOu e.text _) ?_;refine Z71 ?_;exact AL6

theorem AM8 (a b:Int) (Hp:List AObj):AFun Tryz.prog 183 [A4 a,A4 b] Hp (.tup [A4 (H5 a b).1,B0 (H5 a b).2]):=by
 refine Ah [.tmp 4,.tmp 5] [0,1] Tryz.func183 Tryz.ntmps183 (fun d=>?_)
 refine vh ?_;refine Z13 ?_;refine Z16 ?_;refine A2 [0,1,6] ?_
 refine A3 (fun ht6=>?_) (fun ht6=>?_)
 ·refine Z16 ?_;refine Z50 ?_;exact AJz
 refine Z16 ?_;refine Tu ?_;refine Z0 ?_;refine A2 [0,10] ?_
 refine A3 (fun ht10=>?_) (fun ht10=>?_)
 ·refine Z16 ?_;refine Z50 ?_;exact AJz
 refine Z47 ?_;refine Z1 ?_;refine Z50 ?_;exact AL7

structure FitAt (s:Sign) (ks:List Int) (x:Nat×Int):Prop where
 le:x.1≤ks.length
 eq:Qh s.kids ks 0=Qh (s.kids.drop x.1) (ks.drop x.1) x.2
theorem FitAt.step {s:Sign} {ks:List Int} {x:Nat×Int} (h:FitAt s ks x) (hk:x.1<ks.length) (hs:x.1<s.kids.length):Qh s.kids ks 0=(if s.kids[x.1] == -2 then Qh (s.kids.drop (x.1+1)) (ks.drop (x.1+1)) x.2 else if s.kids[x.1] == -1 then (if (H5 x.2 ks[x.1]).2 then Qh (s.kids.drop (x.1+1)) (ks.drop (x.1+1)) (H5 x.2 ks[x.1]).1 else none) else if (H5 s.kids[x.1] ks[x.1]).2 then Qh (s.kids.drop (x.1+1)) (ks.drop (x.1+1)) x.2 else none):=by
 rw [h.eq,N8 hk,N8 hs,Qh]
theorem FitAt.skip {s:Sign} {ks:List Int} {x:Nat×Int} (h:FitAt s ks x) (hk:x.1<ks.length) (hs:x.1<s.kids.length) (h2:(s.kids[x.1] == -2)=true):FitAt s ks (x.1+1,x.2):=⟨hk,by rw [h.step hk hs,if_pos h2]⟩
theorem FitAt.same {s:Sign} {ks:List Int} {x:Nat×Int} (h:FitAt s ks x) (hk:x.1<ks.length) (hs:x.1<s.kids.length) (h2:(s.kids[x.1] == -2)=false) (h1:(s.kids[x.1] == -1)=true) (hm:(H5 x.2 ks[x.1]).2=true):FitAt s ks (x.1+1,(H5 x.2 ks[x.1]).1):=⟨hk,by rw [h.step hk hs,if_neg (by rw [h2];simp),if_pos h1,if_pos hm]⟩
theorem FitAt.want {s:Sign} {ks:List Int} {x:Nat×Int} (h:FitAt s ks x) (hk:x.1<ks.length) (hs:x.1<s.kids.length) (h2:(s.kids[x.1] == -2)=false) (h1:(s.kids[x.1] == -1)=false) (hm:(H5 s.kids[x.1] ks[x.1]).2=true):FitAt s ks (x.1+1,x.2):=⟨hk,by rw [h.step hk hs,if_neg (by rw [h2];simp),if_neg (by rw [h1];simp),if_pos hm]⟩
theorem FitAt.bad {s:Sign} {ks:List Int} {x:Nat×Int} (h:FitAt s ks x) (hk:x.1<ks.length) (hs:x.1<s.kids.length) (h2:(s.kids[x.1] == -2)=false) (hm:(if s.kids[x.1] == -1 then (H5 x.2 ks[x.1]).2 else (H5 s.kids[x.1] ks[x.1]).2)=false):Mr s ks=(0,10):=by
 unfold Mr
 rw [h.step hk hs,if_neg (by rw [h2];simp)]
 split at hm
 ·rename_i h1
  rw [if_pos h1,if_neg (by rw [hm];simp)]
 rename_i h1
 rw [if_neg h1,if_neg (by rw [hm];simp)]
theorem FitAt.out {s:Sign} {ks:List Int} {x:Nat×Int} (h:FitAt s ks x) (hk:ks.length≤x.1):Mr s ks=if s.own == -1 then (x.2,0) else (s.own,0):=by
 unfold Mr
 rw [h.eq,List.drop_of_length_le hk]
 cases s.kids.drop x.1<;>rfl
theorem AOw (s:Sign) (ks:List Int) (hks:ks.length≤s.kids.length) (hk2:ks.length≤1048576) (Hp:List AObj):AFun Tryz.prog 147 [Y5 s,.slice false 1 (ks.map A4)] Hp (.tup [A4 (Mr s ks).1,A4 (Mr s ks).2]):=by
 refine Ah [.tmp 4,.tmp 5] [0,1] Tryz.func147 Tryz.ntmps147 (fun d=>?_)
 refine zn ?_;refine Ef ?_;refine Z11 ?_;refine A2 [1,2,6] ?_;refine Z30 ?_;refine vo ?_
 refine Bg (α:=Nat×Int) (fun x=>⟨49,A6 2 (.ro [.slice false 1 (s.kids.map A4),A4 s.own]) (A6 6 (.ptr (oid Hp.length 0) 0) (A6 13 (.slice false 1 (ks.map A4)) (A6 14 (A4 (ks.length:Nat)) (A6 15 (A4 (x.1:Nat)) (fun _=>.any))))),Hp,[.cells 3 [A4 x.2]],[],none⟩) (fun x=>FitAt s ks x) (fun x=>ks.length-x.1) ((0,0)) ⟨Ao _,rfl⟩ (B4 (by simp)) rfl (fun x hx=>?_)
 refine Z2 ?_;refine A2 [2,6,13,14,15,16] ?_
 refine E2 (fun ht16=>?_) (fun ht16=>?_)
 ·have hlt:x.1<ks.length:=by simpa using ht16
  have hls:x.1<s.kids.length:=by omega
  refine X1 ?_
  refine A5 (h:=Ad (x.1) (A4 ks[x.1]) (fun _=>Ar hlt)) (hr:=?_)
  refine Z8 ?_;refine A2 [2,6,7,8,13,14,15] ?_;refine Z16 ?_
  refine A5 (h:=Ad (x.1) (A4 s.kids[x.1]) (fun _=>Ar hls)) (hr:=?_)
  refine Si ?_;refine A2 [2,6,8,9,13,14,15] ?_;refine Z7 ?_;refine A2 [2,6,8,9,13,14,15,26] ?_
  refine A3 (fun ht26=>?_) (fun ht26=>?_)
  ·refine Ep [2,6,13,14,15] ?_;refine Z19 ?_;refine K.blE ?_;refine Gf ?_;refine Z45 ?_;refine vo ?_
   first|(refine Au (x.1+1,x.2) (hx.skip hlt hls ht26) (by show ks.length-(x.1+1)<ks.length-x.1;omega) ?_;exact Di (own:=[.cells 3 [A4 x.2]]) (fun _=>.refl _) (by repeat (first|exact Bt|refine Bs (by first|(simp [or_imp,forall_and];done)|(simp [oid]<;>omega)) ?_)) (by intro y hy;rw [Bh.1 hy];intro z hz;rw [Bh.1 hz];simp) (by simp))|(refine Au (x.1+1,(H5 x.2 ks[x.1]).1) (hx.same hlt hls ht26 ht28 (by simpa using ht38)) (by show ks.length-(x.1+1)<ks.length-x.1;omega) ?_;exact Di (own:=[.cells 3 [A4 (H5 x.2 ks[x.1]).1]]) (fun _=>.refl _) (by repeat (first|exact Bt|refine Bs (by first|(simp [or_imp,forall_and];done)|(simp [oid]<;>omega)) ?_)) (by intro y hy;rw [Bh.1 hy];intro z hz;rw [Bh.1 hz];simp) (by simp))|(refine Au (x.1+1,x.2) (hx.want hlt hls ht26 ht28 (by simpa using ht38)) (by show ks.length-(x.1+1)<ks.length-x.1;omega) ?_;exact Di (own:=[.cells 3 [A4 x.2]]) (fun _=>.refl _) (by repeat (first|exact Bt|refine Bs (by first|(simp [or_imp,forall_and];done)|(simp [oid]<;>omega)) ?_)) (by intro y hy;rw [Bh.1 hy];intro z hz;rw [Bh.1 hz];simp) (by simp))
  refine Of ?_;refine A2 [2,6,8,9,10,13,14,15] ?_;refine Z7 ?_;refine A2 [2,6,8,10,13,14,15,28] ?_
  refine A3 (fun ht28=>?_) (fun ht28=>?_)
  ·refine Z61 ?_;refine A2 [2,6,8,10,13,14,15] ?_;refine Gf ?_;refine Z34 ?_;refine Aa Tryz.call183 (AM8 _ _ _) ?_;refine Z82 ?_;refine A2 [2,6,10,11,12,13,14,15] ?_;refine Z7 ?_;refine A2 [2,6,10,11,13,14,15,38] ?_
   refine A3 (fun ht38=>?_) (fun ht38=>?_)
   ·have hbad:=hx.bad hlt hls ht26 (by first|(rw [if_pos ht28];simpa using ht38)|(rw [if_neg (by rw [ht28];simp)];simpa using ht38))
    refine Z1 ?_;refine Z41 ?_;exact AK5
   refine Z4 ?_;refine Z74 ?_;refine Gz ?_;refine vo ?_;refine X0 ?_;refine vo ?_
   first|(refine Au (x.1+1,x.2) (hx.skip hlt hls ht26) (by show ks.length-(x.1+1)<ks.length-x.1;omega) ?_;exact Di (own:=[.cells 3 [A4 x.2]]) (fun _=>.refl _) (by repeat (first|exact Bt|refine Bs (by first|(simp [or_imp,forall_and];done)|(simp [oid]<;>omega)) ?_)) (by intro y hy;rw [Bh.1 hy];intro z hz;rw [Bh.1 hz];simp) (by simp))|(refine Au (x.1+1,(H5 x.2 ks[x.1]).1) (hx.same hlt hls ht26 ht28 (by simpa using ht38)) (by show ks.length-(x.1+1)<ks.length-x.1;omega) ?_;exact Di (own:=[.cells 3 [A4 (H5 x.2 ks[x.1]).1]]) (fun _=>.refl _) (by repeat (first|exact Bt|refine Bs (by first|(simp [or_imp,forall_and];done)|(simp [oid]<;>omega)) ?_)) (by intro y hy;rw [Bh.1 hy];intro z hz;rw [Bh.1 hz];simp) (by simp))|(refine Au (x.1+1,x.2) (hx.want hlt hls ht26 ht28 (by simpa using ht38)) (by show ks.length-(x.1+1)<ks.length-x.1;omega) ?_;exact Di (own:=[.cells 3 [A4 x.2]]) (fun _=>.refl _) (by repeat (first|exact Bt|refine Bs (by first|(simp [or_imp,forall_and];done)|(simp [oid]<;>omega)) ?_)) (by intro y hy;rw [Bh.1 hy];intro z hz;rw [Bh.1 hz];simp) (by simp))
  refine eg ?_;refine Aa Tryz.call183 (AM8 _ _ _) ?_;refine Z82 ?_;refine A2 [2,6,10,11,12,13,14,15] ?_;refine Z7 ?_;refine A2 [2,6,10,11,13,14,15,38] ?_
  refine A3 (fun ht38=>?_) (fun ht38=>?_)
  ·have hbad:=hx.bad hlt hls ht26 (by first|(rw [if_pos ht28];simpa using ht38)|(rw [if_neg (by rw [ht28];simp)];simpa using ht38))
   refine Z1 ?_;refine Z41 ?_;exact AK5
  refine Z4 ?_;refine Z74 ?_;refine Gz ?_;refine vo ?_;refine X0 ?_;refine vo ?_
  first|(refine Au (x.1+1,x.2) (hx.skip hlt hls ht26) (by show ks.length-(x.1+1)<ks.length-x.1;omega) ?_;exact Di (own:=[.cells 3 [A4 x.2]]) (fun _=>.refl _) (by repeat (first|exact Bt|refine Bs (by first|(simp [or_imp,forall_and];done)|(simp [oid]<;>omega)) ?_)) (by intro y hy;rw [Bh.1 hy];intro z hz;rw [Bh.1 hz];simp) (by simp))|(refine Au (x.1+1,(H5 x.2 ks[x.1]).1) (hx.same hlt hls ht26 ht28 (by simpa using ht38)) (by show ks.length-(x.1+1)<ks.length-x.1;omega) ?_;exact Di (own:=[.cells 3 [A4 (H5 x.2 ks[x.1]).1]]) (fun _=>.refl _) (by repeat (first|exact Bt|refine Bs (by first|(simp [or_imp,forall_and];done)|(simp [oid]<;>omega)) ?_)) (by intro y hy;rw [Bh.1 hy];intro z hz;rw [Bh.1 hz];simp) (by simp))|(refine Au (x.1+1,x.2) (hx.want hlt hls ht26 ht28 (by simpa using ht38)) (by show ks.length-(x.1+1)<ks.length-x.1;omega) ?_;exact Di (own:=[.cells 3 [A4 x.2]]) (fun _=>.refl _) (by repeat (first|exact Bt|refine Bs (by first|(simp [or_imp,forall_and];done)|(simp [oid]<;>omega)) ?_)) (by intro y hy;rw [Bh.1 hy];intro z hz;rw [Bh.1 hz];simp) (by simp))
 have hxe:ks.length≤x.1:=by simpa using ht16
 have hout:=hx.out hxe
 refine Z17 ?_;refine Z30 ?_;refine A2 [2,6,45] ?_
 refine A3 (fun ht45=>?_) (fun ht45=>?_)
 ·refine Z16 ?_;refine Z41 ?_;exact A9 (B9 A8 A8) ⟨by rw [hout,if_pos ht45],rfl⟩
 refine eg ?_;refine Z50 ?_;exact A9 (B9 A8 A8) ⟨by rw [hout,if_neg (by rw [ht45];simp)],rfl⟩

theorem ABk {n k:Nat} {own:Bool} {l:List Int}:Low n (.slice own k (l.map A4)):=low_slice.2 fun y hy=>by
 obtain ⟨z,_,rfl⟩:=Cj.1 hy
 simp
theorem AEf {n:Nat} {e:Expr}:Low n (.ro (D0 e)):=by have:=Am n e;rw [Al] at this;simpa using this
theorem Fl {c:List Col} {t:Str} (h:¬(At t c<0)):∃(j:Nat),At t c=(j:Int)∧j<c.length:=by
 obtain ⟨j,y,h2,_,h3⟩:=find_mem.1 h
 exact ⟨j,h3,(Ae.1 h2).1⟩
theorem ku {c:List Col} {e:Expr} (h:(e.op==1)=true):Ey c e=(e.val.kind,0):=by rw [Sw];unfold bh;rw [if_pos h]
theorem br {c:List Col} {e:Expr} (h1:(e.op==1)=false) (h:(e.op==2)=true):Ey c e=V8 c e.text:=by rw [Sw];unfold bh;rw [h1,if_pos h];rfl
theorem kv {c:List Col} {e:Expr} (h1:(e.op==1)=false) (h2:(e.op==2)=false) {x:Nat} (hx:x<e.kids.length) (h0:∀(j:Nat) (y:Expr),j<x→e.kids[j]? = some y→((Ey c y).2 != 0)=false) (hb:((Ey c e.kids[x]).2 != 0)=true):Ey c e=(0,(Ey c e.kids[x]).2):=by
 rw [Sw]
 unfold bh
 rw [h1,h2]
 have:(e.kids.map (Ey c)).find? (fun q=>q.2 != 0)=some ((e.kids.map (Ey c))[x]'(by simpa using hx)):=ri (by simpa using hx) (by simpa using hb) (fun j y hj hy=>by
  rw [Ch,Ek] at hy
  obtain ⟨z,hz,rfl⟩:=hy
  exact h0 j z hj hz)
 rw [this]
 simp
theorem kw {c:List Col} {e:Expr} (h1:(e.op==1)=false) (h2:(e.op==2)=false) (h0:∀(j:Nat) (y:Expr),j<e.kids.length→e.kids[j]? = some y→((Ey c y).2 != 0)=false):Ey c e=Mr (Qt e.op e.text) (e.kids.map fun y=>(Ey c y).1):=by
 rw [Sw]
 unfold bh
 rw [h1,h2]
 have:(e.kids.map (Ey c)).find? (fun q=>q.2 != 0)=none:=am (fun j y hy=>by
  rw [Ch,Ek] at hy
  obtain ⟨z,hz,rfl⟩:=hy
  exact h0 j z (Ae.1 hz).1 hz)
 rw [this]
 simp only [N9]
 rfl
theorem bt (f:Expr→Int) (l:List Expr) {x:Nat} (h:x<l.length):((l.take x).map f).map A4++[A4 (f l[x])]=((l.take (x+1)).map f).map A4:=by rw [Id h,Bn,Bn];rfl
theorem AOx (c:List Col) (hc:OkCols c):∀(n:Nat) (e:Expr),okE n e→F7 E5 e=true→∀Hp:List AObj,AFun Tryz.prog 110 [A7 e,Ai c] Hp (.tup [A4 (Ey c e).1,A4 (Ey c e).2]):=by
 intro n
 induction n with
 | zero=>exact fun e h=>h.elim
 | succ n ih =>
 intro e hok hnd Hp
 have hnd0:=hnd
 rw [Ht,Az] at hnd0
 refine Ah [.tmp 4,.tmp 5] [0,1] Tryz.func110 Tryz.ntmps110 (fun d=>?_)
 refine zn ?_;refine Z7 ?_;refine A2 [1,2,13] ?_;refine Wy ?_;refine A2 [1,2,13,14] ?_
 refine A3 (fun ht14=>?_) (fun ht14=>?_)
 ·have hk:=ku (c:=c) ht14
  refine Z1 ?_;refine Z8 ?_;refine Z50 ?_;refine Z6 ?_;exact AHc
 refine Z1 ?_;refine A2 [1,2,19] ?_
 refine A3 (fun ht19=>?_) (fun ht19=>?_)
 ·have hk:=br (c:=c) ht14 ht19
  refine Z16 ?_;refine Aa Tryz.call60 (c60 c hc e.text _) ?_;refine A5 ?_;refine A2 [1,6] ?_;refine Z7 ?_;refine A2 [1,6,26] ?_
  refine A3 (fun ht26=>?_) (fun ht26=>?_)
  ·have hk2:V8 c e.text=(0,9):=if_pos (by simpa using ht26)
   refine Z1 ?_;refine Z41 ?_;exact AK6
  have hneg:¬(At e.text c<0):=by simpa using ht26
  obtain ⟨j,hj,hjl⟩:=Fl hneg
  have hk2:V8 c e.text=(c[j].kind,0):=by
   unfold V8
   rw [if_neg hneg,hj,Int.toNat_natCast,Cq,Ac hjl]
   rfl
  rw [hj]
  refine Nr ?_
  refine A5 (h:=Ad (j) (Bl c[j]) (fun _=>Ar hjl)) (hr:=?_)
  refine Z75 ?_;refine Z50 ?_;exact AK6
 refine Z47 ?_;refine Z2 ?_;refine A2 [1,2,7] ?_;refine Z53 ?_;refine Tr 7 1 ?_;refine Z75 ?_;refine A2 [1,2,7,33,34,35] ?_
 refine Bg (α:=Nat) (fun x=>⟨59,A6 1 (Ai c) (A6 2 (.ro (D0 e)) (A6 7 (.slice true 1 (((e.kids.take x).map fun y=>(Ey c y).1).map A4)) (A6 33 (.slice false 6 (e.kids.map A7)) (A6 34 (A4 (e.kids.length:Nat)) (A6 35 (A4 (x:Nat)) (fun _=>.any)))))),Hp,[],[],none⟩) (fun x=>x≤e.kids.length∧∀(j:Nat) (y:Expr),j<x→e.kids[j]? = some y→((Ey c y).2 != 0)=false) (fun x=>e.kids.length-x) (0) ⟨Ao _,fun j y h=>by omega⟩ (B4 (by simp)) rfl (fun x hx=>?_)
 refine Z2 ?_;refine A2 [1,2,7,33,34,35,36] ?_
 refine E2 (fun ht36=>?_) (fun ht36=>?_)
 ·have hlt:x<e.kids.length:=by simpa using ht36
  have hkl:=hok.2.1
  refine Tt ?_
  refine A5 (h:=Ad (x) (A7 e.kids[x]) (fun _=>Ar hlt)) (hr:=?_)
  refine Si ?_;refine A2 [1,2,7,9,33,34,35] ?_;refine Z1 ?_;refine Aa Tryz.call110 (ih e.kids[x] (hok.2.2 _ (As hlt)) ((J7 _ _).1 hnd0.2 _ (As hlt)) _) ?_;refine Z82 ?_;refine A2 [1,2,7,10,11,33,34,35] ?_;refine Z7 ?_;refine A2 [1,2,7,10,11,33,34,35,46] ?_
  refine A3 (fun ht46=>?_) (fun ht46=>?_)
  ·have hkb:=kv (c:=c) ht14 ht19 hlt hx.2 ht46
   refine Z16 ?_;refine Z41 ?_;exact AK8
  refine vl ?_
  refine D5 jU Tryz.type3 ?_ ?_ ?_
  ·simp only [Ag,Bx,B8,Bq,Tryz.t3];omega
  ·simp only [Ag,Bx,B8,Bq,Tryz.t3];omega
  refine Kk ?_;refine A2 [1,2,7,33,34,35] ?_;refine X0 ?_;refine A2 [1,2,7,33,34,35] ?_;refine Au (x+1) ⟨hlt,Bw hlt hx.2 ht46⟩ (by omega) ?_
  simp only [show Tryz.t3.size=1 from rfl,bt]
  exact Di (own:=[]) (fun _=>.refl _) (by repeat (first|exact Bt|refine Bs (by first|exact ABk|exact AEf|exact Cv|(simp [or_imp,forall_and];done)) ?_)) (by simp) (by simp)
 have hxe:e.kids.take x=e.kids:=Cu (by simp at ht36;omega)
 have hxl:e.kids.length≤x:=by simp at ht36;omega
 have hka:=kw (c:=c) ht14 ht19 (fun j y hj hy=>hx.2 j y (by omega) hy)
 rw [hxe]
 refine Wz ?_;refine Aa Tryz.call146 (AOv e _) ?_;refine A5 ?_
 refine Aa Tryz.call147 (AOw (Qt e.op e.text) (e.kids.map fun y=>(Ey c y).1) (by rw [N4 hnd0.1 ht14 ht19];simp) (by simpa using hok.2.1) _) ?_
 refine Z75 ?_;refine Z50 ?_;exact A9 (B9 A8 A8) ⟨by rw [hka],rfl⟩

theorem Vb {e:Expr} (h:Bc e=true):F7 E5 e=true:=by
 rw [D6] at h
 unfold B2 at h
 rw [Az] at h
 exact h.2
theorem c62 (n:Nat) (e:Expr) (hok:okE n e) (hn:n≤1048576) (c:List Col) (hc:OkCols c) (Hp:List AObj):AFun Tryz.prog 62 [A7 e,Ai c] Hp (.tup [A4 (Ej e c).1,A4 (Ej e c).2]):=by
 refine Ah [.tmp 4,.tmp 5] [0,1] Tryz.func62 Tryz.ntmps62 (fun d=>?_)
 refine zn ?_;refine Z25 ?_;refine Aa Tryz.call96 (c96 n e hok hn _) ?_;refine Z95 ?_;refine Bm Tryz.call50 (fun hB=>c50 c hc _) ?_;refine Z80 ?_;refine A2 [1,2,13] ?_
 refine A3 (fun ht13=>?_) (fun ht13=>?_)
 ·have hk:Ej e c=(0,1):=if_pos ht13
  refine Z1 ?_;exact AGw
 have hk:Ej e c=Ey c e:=if_neg (by rw [ht13];simp)
 have hr:Bc e=true:=by simp only [Dn,Mh] at ht13;exact ht13.1
 refine Nr ?_;refine Aa Tryz.call110 (AOx c hc n e hok (Vb hr) _) ?_;refine Z75 ?_;exact AKh

theorem Dq {n k:Nat} {o:Bool} {l:List Col}:Low n (.slice o k (l.map Bl)):=by simp [or_imp,forall_and]
theorem qd {α β:Type} {f:α→β} {l:List α} {k:Nat} {y:α} (h:l[k]? = some y):(l.map f)[k]? = some (f y):=by rw [Ch,h];rfl
theorem AOy (c:List Col) (hc:OkCols c) (take:List Str) (ht:take.length≤1048576) (give:List Col) (hg:OkCols give) (hg2:give.length≤1000000) (Hp:List AObj):AFun Tryz.prog 165 [Ai c,E4 take,Ai give] Hp (.tup [Ai (D9 c take give).1,A4 (D9 c take give).2]):=by
 refine Ah [.tmp 6,.tmp 7] [0,1,2,9] Tryz.func165 Tryz.ntmps165 (fun d=>?_)
 refine Z1 ?_;refine A2 [0,1,2,9] ?_;refine Z25 ?_;refine Aa Tryz.call125 (ALx c hc _) ?_;refine A5 ?_;refine A2 [0,1,2,9,12] ?_
 refine A3 (fun ht12=>?_) (fun ht12=>?_)
 ·have hr:Cx c=false:=by rw [J6] at ht12;simpa using ht12
  refine Wx ?_;exact AJx
 have hr:Cx c=true:=by rw [J6] at ht12;simpa using ht12
 refine j5 ?_;refine Aa Tryz.call210 (AO6 c hc take ht _) ?_;refine A5 ?_;refine A2 [0,1,2,9,16] ?_
 refine A3 (fun ht16=>?_) (fun ht16=>?_)
 ·have hk:Gl c take=false:=by simpa using ht16
  refine Wx ?_;refine Z76 ?_;exact A9 (B9 A8 A8) ⟨by rw [pm hr hk];try rfl,rfl⟩
 have hk:Gl c take=true:=by simpa using ht16
 refine Z4 ?_;refine Z32 ?_;refine A2 [0,1,2,8,9] ?_;refine Z53 ?_;refine Ts 0 2 ?_
 refine Mm (fun hlow=>?_)
 refine Z0 ?_;refine Aa Tryz.call211 (AO8 c take _) ?_;refine A2 [2,8,9,19] ?_;refine Ju ?_
 refine Nq (m:=1) Tryz.call239 (fun FR as' bd' hFR has hbd=>?_)
 have hFRl:∀s,Low (Hp.length+3) (FR s):=by
  intro s
  rw [hFR]
  refine Ot ?_
  revert s
  repeat (first|exact Bt|refine Bs (by simp [oid,or_imp,forall_and]<;>try omega) ?_)
 have hOl:∀{k:Nat},∀x∈[AObj.cells 30 [.slice true 2 ((Cd (c.take k) take).map Bl)],AObj.defs,AObj.loop LoopState.ready none FR 41 #[20] as' bd' (oid Hp.length 1)],ObjLow (Hp.length+3) x:=by
  intro k x hx
  simp only [B3,Dt,or_false] at hx
  rcases hx with rfl|rfl|rfl
  ·intro y hy
   rw [Bh.1 hy]
   exact Dq
  ·trivial
  exact zw
 refine ⟨_,AO9 (oid Hp.length 2) c take hc.len ht (fun k=>Hp++[AObj.cells 30 [.slice true 2 ((Cd (c.take k) take).map Bl)],AObj.defs,AObj.loop LoopState.ready none FR 41 #[20] as' bd' (oid Hp.length 1)]) (fun k=>by simp) (by simp [oid]) (fun k x hx=>?_) (fun k y hk hcn=>by simp only [bg hk hcn]) (fun k y X hk hcn=>?_),?_⟩
 ·have:=L4 (fun x hx=>Nv (by omega) (hlow x hx)) hOl x hx
  simpa using this
 ·generalize hV:Hp++[AObj.cells 30 [.slice true 2 ((Cd (c.take k) take).map Bl)],AObj.defs,AObj.loop LoopState.ready none FR 41 #[20] as' bd' (oid Hp.length 1)]++X=V
  have hL:V[oid Hp.length 2]? = some (AObj.loop LoopState.ready none FR 41 #[20] as' bd' (oid Hp.length 1)):=by rw [←hV,Bp,B6];rfl
  have hA0:V[oid Hp.length 0]? = some (AObj.cells 30 [.slice true 2 ((Cd (c.take k) take).map Bl)]):=by rw [←hV,Bp,B6];rfl
  refine Nh (pd:=none) (fr:=FR) (sz:=41) (ps:=#[20]) (df:=oid Hp.length 1) (asg:=as') (bd:=bd') hL rfl (by decide) (fun d=>?_)
  subst hFR has hbd
  refine Ep [8,20] ?_;refine Og ?_;refine Z11 ?_;refine A2 [8,9] ?_
  refine ⟨rfl,none,hL,?_⟩
  generalize hbz:(AObj.loop LoopState.busy _ _ _ _ _ _ _)=bz
  have hA:(V.set (oid Hp.length 2) bz)[oid Hp.length 0]? = some (AObj.cells 30 [.slice true 2 ((Cd (c.take k) take).map Bl)]):=by rw [Cf (Do (by decide))];exact hA0
  refine Ju ?_;refine Og ?_;refine R.loadUpT jA hA ?_;refine Z55 ?_
  refine D5 jU Tryz.type69 ?_ ?_ ?_
  ·have h1:=F1 (c.take k) take;have h2:=hc.len;simp only [Bx] at h1;simp [Tryz.t69];omega
  ·have h1:=F1 (c.take k) take;have h2:=hc.len;simp only [Bx] at h1;simp [Tryz.t69];omega
  refine Hg jS (getset hA) ?_ ?_
  ·exact wm
  refine Z96 ?_
  subst hbz
  refine AHa ?_
  refine ⟨rfl,?_⟩
  subst hV
  simp only [Bp,Du,E8,E3,List.set_cons_succ,List.set_cons_zero]
  rw [si hk hcn,Bn]
  rfl
 rintro r H' rfl
 simp only [M8]
 refine ⟨Hp,_,_,_,rfl,rfl,fun h=>h,?_,rfl,by simp,?_⟩
 ·intro o ho
  have:o=oid Hp.length 1:=by simpa using ho
  subst this
  rw [B6]
  rfl
 refine Z9 ?_;refine Ef ?_;refine dr jA ?_;refine A5 ?_
 refine D5 jU Tryz.type69 ?_ ?_ ?_
 ·have h1:=F1 c take;have h2:=N3 hr;simp [Tryz.t69];omega
 ·have h1:=F1 c take;have h2:=N3 hr;simp [Tryz.t69];omega
 refine Wq jS ?_;refine A2 [8] ?_;refine Tt ?_
 have e10:(Cd c take).map Bl++give.map Bl=(Cd c take++give).map Bl:=(Bn ..).symm
 rw [e10]
 generalize hout:Cd c take++give=out
 have ho:OkCols out:=pw hc hr hg hg2 hout
 refine A5 ?_;refine Aa Tryz.call212 (AO7 out ho _) ?_;refine Z0 ?_;refine A2 [8,28] ?_
 refine A3 (fun ht28=>?_) (fun ht28=>?_)
 ·have hn:Im out=false:=by simpa using ht28
  refine Wx ?_;refine Z26 ?_;refine Z64 ?_;exact A9 (B9 A8 A8) ⟨by rw [pq hr hk hout hn];try rfl,rfl⟩
 have hn:Im out=true:=by simpa using ht28
 refine Z2 ?_;refine Aa Tryz.call50 (c50 out ho _) ?_;refine Z0 ?_;refine A2 [8,32] ?_
 refine A3 (fun ht32=>?_) (fun ht32=>?_)
 ·have hq:F8 out=false:=by rw [Md] at ht32;simpa using ht32
  refine Wx ?_;refine Z26 ?_;refine Z64 ?_;exact A9 (B9 A8 A8) ⟨by rw [pt hr hk hout hn hq];try rfl,rfl⟩
 have hq:F8 out=true:=by rw [Md] at ht32;simpa using ht32
 refine Z34 ?_;refine A2 [8,36] ?_
 refine A3 (fun ht36=>?_) (fun ht36=>?_)
 ·have h12:12<out.length:=by simp at ht36;omega
  refine Wx ?_;refine Z26 ?_;refine Z64 ?_;exact A9 (B9 A8 A8) ⟨by rw [pu hr hk hout hn hq h12];try rfl,rfl⟩
 have h12:¬12<out.length:=by simp at ht36;omega
 refine Z47 ?_;refine Z16 ?_;refine A2 [6,7] ?_;refine El ?_;exact A9 (B9 A8 A8) ⟨by rw [pv hr hk hout hn hq h12];try rfl,rfl⟩

theorem c6u (c:List Col) (Hp:List AObj):AFun Tryz.prog 9 [Ai c] Hp (B0 (Ls c)):=by
 refine Ah [.tmp 2] [0] Tryz.func9 Tryz.ntmps9 (fun d=>?_)
 refine nl ?_;refine A2 [0,6] ?_
 refine A3 (fun ht6=>?_) (fun ht6=>?_)
 ·rw [Ag] at ht6
  have hm:Ls c=true:=by unfold Ls;rw [ht6];rfl
  exact AD5
 rw [Ag] at ht6
 have hl50:c.length≤50:=by simp at ht6;omega
 refine Mw ?_;refine Mn ?_
 refine Bg (α:=Nat) (fun x=>⟨20,A6 0 (Ai c) (A6 3 (A4 (x:Nat)) (fun _=>.any)),Hp,[],[],none⟩) (fun x=>x≤c.length∧∀(j:Nat) (v:Col),j<x→c[j]? = some v→decide ((100:Int)<(v.name.length:Int))=false) (fun x=>c.length-x) (0) ⟨Ao _,fun j v h=>by omega⟩ (B4 (by simp)) rfl (fun x hx=>?_)
 refine Z46 ?_;refine A2 [0,3,10] ?_
 refine A3 (fun ht10=>?_) (fun ht10=>?_)
 ·have hlt:x<c.length:=by simpa using ht10
  refine Sk ?_
  refine A5 (h:=Ad (x) (Bl c[x]) (fun _=>Ar hlt)) (hr:=?_)
  refine Z75 ?_;refine A2 [0,3,19] ?_
  refine A3 (fun ht19=>?_) (fun ht19=>?_)
  ·have hm:Ls c=true:=by unfold Ls;rw [Dg];exact .inr (E7.2 ⟨c[x],As hlt,ht19⟩)
   refine Z18 ?_;exact Z62
  refine Z27 ?_;refine A5 ?_
  refine A5 (h:=Q.add64 (h1:=fun _=>by omega) (h2:=fun _=>by omega)) (hr:=?_)
  refine A5 ?_;refine Mn ?_;refine Au (x+1) ⟨hlt,Bw hlt hx.2 ht19⟩ (by omega) ?_;exact Bk (by simp)
 have hxe:c.length≤x:=by simpa using ht10
 have hm:Ls c=false:=by
  unfold Ls
  rw [ht6,Ce,Jq]
  intro v hv
  obtain ⟨j,hj⟩:=C9 hv
  have:=hx.2 j v (by have:=(Ae.1 hj).1;omega) hj
  rw [this]
  simp
 exact ADa

/-- law18.Wide. -/
def Ly (m:Mov):Bool:=(((((Ls m.give || decide ((20:Int)<(m.take.length:Int))) || decide ((20:Int)<(m.ahead.length:Int))) || decide ((20:Int)<(m.back.length:Int))) || m.take.any fun s=>decide ((100:Int)<(s.length:Int))) || m.ahead.any Pg) || m.back.any Pg
def Jb (l:List Mov):Bool:=decide ((12:Int)<(l.length:Int)) || l.any Ly
theorem Ia {α:Type} {p:α→Bool} {l:List α} {x:Nat} (h:l.length≤x) (hp:∀(j:Nat) (v:α),j<x→l[j]? = some v→p v=false):l.any p=false:=by
 rw [Jq]
 intro v hv
 obtain ⟨j,hj⟩:=C9 hv
 rw [hp j v (by have:=(Ae.1 hj).1;omega) hj]
 simp
theorem Qb {n:Nat} {m:Mov}:∀y∈Io m,Low n y:=by
 intro y hy
 simp only [Io,B3,Dt,or_false] at hy
 rcases hy with rfl|rfl|rfl|rfl|rfl<;>simp [or_imp,forall_and,Am]
theorem kx {n:Nat} {m:Mov}:Low n (G5 m):=Go.SX.low_agg.2 Qb
theorem Kn {n k:Nat} {o:Bool} {l:List Mov}:Low n (.slice o k (l.map G5)):=low_slice.2 fun y hy=>by
 obtain ⟨m,_,rfl⟩:=Cj.1 hy
 exact kx
theorem If {α:Type} {p:α→Bool} (l:List α):(l.any fun s => !(p s)) = !(l.all p):=by
 induction l with
 | nil=>rfl
 | cons a r ih=>rw [List.any_cons,List.all_cons,ih];cases p a<;>simp
theorem c10 (l:List Mov) (Hp:List AObj):AFun Tryz.prog 10 [Dm l] Hp (B0 (Jb l)):=by
 refine Ah [.tmp 2] [0] Tryz.func10 Tryz.ntmps10 (fun d=>?_)
 refine nl ?_;refine A2 [0,10] ?_
 refine A3 (fun ht10=>?_) (fun ht10=>?_)
 ·rw [Ag] at ht10
  have hm:Jb l=true:=by unfold Jb;rw [ht10];rfl
  exact AD5
 rw [Ag] at ht10
 have hl12:l.length≤12:=by simp at ht10;omega
 refine Mw ?_;refine Mn ?_
 refine Bg (α:=Nat) (fun x=>⟨82,A6 0 (Dm l) (A6 3 (A4 (x:Nat)) (fun _=>.any)),Hp,[],[],none⟩) (fun x=>x≤l.length∧∀(j:Nat) (v:Mov),j<x→l[j]? = some v→Ly v=false) (fun x=>l.length-x) (0) ⟨Ao _,fun j v h=>by omega⟩ (B4 (by simp)) rfl (fun x hx=>?_)
 refine Z46 ?_;refine A2 [0,3,14] ?_
 refine A3 (fun ht14=>?_) (fun ht14=>?_)
 ·have hlt:x<l.length:=by simpa using ht14
  have hbad:Ly l[x]=true→Jb l=true:=fun h=>by unfold Jb;rw [Dg];exact .inr (E7.2 ⟨l[x],As hlt,h⟩)
  refine Sk ?_
  refine A5 (h:=Ad (x) (G5 l[x]) (fun _=>Ar hlt)) (hr:=?_)
  refine Si ?_;refine A2 [0,3,4] ?_;refine Z7 ?_;refine Aa Tryz.call9 (c6u l[x].give _) ?_;refine A5 ?_;refine Qg ?_;refine Z52 ?_;refine Z52 ?_;refine A5 ?_;refine A2 [0,3,4,41] ?_
  refine A3 (fun ht41=>?_) (fun ht41=>?_)
  ·simp only [Ag] at ht41
   have hm:Jb l=true:=hbad (by unfold Ly;rw [ht41];rfl)
   refine nd ?_;exact Z62
  simp only [Ag] at ht41
  have hk:l[x].take.length≤20∧l[x].ahead.length≤20∧l[x].back.length≤20:=by simp only [Dn,decide_eq_false_iff_not] at ht41;omega
  refine Mw ?_;refine A2 [0,3,4,5] ?_
  refine Bg (α:=Nat) (fun a=>⟨82,A6 0 (Dm l) (A6 3 (A4 (x:Nat)) (A6 4 (.ptr (oid Hp.length 0) 0) (A6 5 (A4 (a:Nat)) (fun _=>.any)))),Hp,[.cells 80 (Io l[x])],[],none⟩) (fun a=>a≤l[x].take.length∧∀(j:Nat) v,j<a→l[x].take[j]? = some v→(fun s:Str=>decide ((100:Int)<(s.length:Int))) v=false) (fun a=>l[x].take.length-a) (0) ⟨Ao _,fun j v h=>by omega⟩ (B4 (by simp)) rfl (fun a ha=>?_)
  refine Z99 ?_;refine A2 [0,3,4,5,46] ?_
  refine A3 (fun ht46=>?_) (fun ht46=>?_)
  ·have ha1:a<l[x].take.length:=by simpa using ht46
   refine Sj ?_
   refine A5 (h:=Ad (a) (Ab l[x].take[a]) (fun _=>Ar ha1)) (hr:=?_)
   refine Z8 ?_;refine A2 [0,3,4,5,55] ?_
   refine A3 (fun ht55=>?_) (fun ht55=>?_)
   ·have hm:Jb l=true:=hbad (by unfold Ly;rw [ht41,E7.2 ⟨_,As ha1,ht55⟩];rfl)
    refine Zi ?_;exact Z62
   refine Z68 ?_;refine A2 [0,3,4,5] ?_;exact Au (a+1) ⟨ha1,Bw ha1 ha.2 ht55⟩ (by omega) (Bk rfl)
  have hae:l[x].take.length≤a:=by simpa using ht46
  have e1:=Ia hae ha.2
  refine ix ?_;refine A2 [0,3,4,6] ?_
  refine Bg (α:=Nat) (fun b=>⟨82,A6 0 (Dm l) (A6 3 (A4 (x:Nat)) (A6 4 (.ptr (oid Hp.length 0) 0) (A6 6 (A4 (b:Nat)) (fun _=>.any)))),Hp,[.cells 80 (Io l[x])],[],none⟩) (fun b=>b≤l[x].ahead.length∧∀(j:Nat) v,j<b→l[x].ahead[j]? = some v→Pg v=false) (fun b=>l[x].ahead.length-b) (0) ⟨Ao _,fun j v h=>by omega⟩ (B4 (by simp)) rfl (fun b hb=>?_)
  refine Z99 ?_;refine A2 [0,3,4,6,60] ?_
  refine A3 (fun ht60=>?_) (fun ht60=>?_)
  ·have hb1:b<l[x].ahead.length:=by simpa using ht60
   refine Sj ?_
   refine A5 (h:=Ad (b) (A7 l[x].ahead[b]) (fun _=>Ar hb1)) (hr:=?_)
   refine A5 ?_;refine Aa Tryz.call31 (c31 l[x].ahead[b] _) ?_;refine A2 [0,3,4,6,68] ?_
   refine A3 (fun ht68=>?_) (fun ht68=>?_)
   ·have hm:Jb l=true:=hbad (by unfold Ly;rw [E7.2 ⟨_,As hb1,ht68⟩];simp)
    refine Zi ?_;exact Z62
   refine Z68 ?_;refine A2 [0,3,4,6] ?_;exact Au (b+1) ⟨hb1,Bw hb1 hb.2 ht68⟩ (by omega) (Bk rfl)
  have hbe:l[x].ahead.length≤b:=by simpa using ht60
  have e2:=Ia hbe hb.2
  refine Zk ?_;refine A2 [0,3,4,7] ?_
  refine Bg (α:=Nat) (fun e=>⟨82,A6 0 (Dm l) (A6 3 (A4 (x:Nat)) (A6 4 (.ptr (oid Hp.length 0) 0) (A6 7 (A4 (e:Nat)) (fun _=>.any)))),Hp,[.cells 80 (Io l[x])],[],none⟩) (fun e=>e≤l[x].back.length∧∀(j:Nat) v,j<e→l[x].back[j]? = some v→Pg v=false) (fun e=>l[x].back.length-e) (0) ⟨Ao _,fun j v h=>by omega⟩ (B4 (by simp)) rfl (fun e he=>?_)
  refine Z99 ?_;refine A2 [0,3,4,7,73] ?_
  refine A3 (fun ht73=>?_) (fun ht73=>?_)
  ·have he1:e<l[x].back.length:=by simpa using ht73
   refine Sj ?_
   refine A5 (h:=Ad (e) (A7 l[x].back[e]) (fun _=>Ar he1)) (hr:=?_)
   refine A5 ?_;refine Aa Tryz.call31 (c31 l[x].back[e] _) ?_;refine A2 [0,3,4,7,81] ?_
   refine A3 (fun ht81=>?_) (fun ht81=>?_)
   ·have hm:Jb l=true:=hbad (by unfold Ly;rw [E7.2 ⟨_,As he1,ht81⟩];simp)
    refine Z18 ?_;refine Z6 ?_;refine Lp ?_;exact Z62
   refine Z68 ?_;refine A2 [0,3,4,7] ?_;exact Au (e+1) ⟨he1,Bw he1 he.2 ht81⟩ (by omega) (Bk rfl)
  have hee:l[x].back.length≤e:=by simpa using ht73
  have e3:=Ia hee he.2
  have e4:Ly l[x]=false:=by unfold Ly;rw [ht41,e1,e2,e3];rfl
  refine nj ?_;refine Z87 ?_;refine Mn ?_;refine Au (x+1) ⟨hlt,Bw hlt hx.2 e4⟩ (by omega) ?_
  exact Di (own:=[]) (fun _=>.refl _) (by repeat (first|exact Bt|refine Bs (by first|(simp [or_imp,forall_and];done)|exact Kn|(simp [oid]<;>omega)) ?_)) (by simp) (by simp)
 have hxe:l.length≤x:=by simpa using ht14
 have hm:Jb l=false:=by unfold Jb;rw [ht10,Ia hxe hx.2];rfl
 exact ADa

theorem AM9 (l:List Expr) (h:OkEs l) (Hp:List AObj):AFun Tryz.prog 130 [Bd l] Hp (B0 (l.all B2)):=by
 refine Ah [.tmp 2] [0] Tryz.func130 Tryz.ntmps130 (fun d=>?_)
 refine nk ?_;refine Mn ?_
 refine Bg (α:=Nat) (fun x=>⟨16,A6 0 (Bd l) (A6 3 (A4 (x:Nat)) (fun _=>.any)),Hp,[],[],none⟩) (fun x=>x≤l.length∧∀(j:Nat) (v:Expr),j<x→l[j]? = some v→(!B2 v)=false) (fun x=>l.length-x) (0) ⟨Ao _,fun j v h=>by omega⟩ (B4 (by simp)) rfl (fun x hx=>?_)
 refine Z46 ?_;refine A2 [0,3,7] ?_
 refine A3 (fun ht7=>?_) (fun ht7=>?_)
 ·have hlt:x<l.length:=by simpa using ht7
  have hlen:=h.len
  refine Sk ?_
  refine A5 (h:=Ad (x) (A7 l[x]) (fun _=>Ar hlt)) (hr:=?_)
  refine A5 ?_;refine Aa Tryz.call87 (c87 61 l[x] (h.ok _ (As hlt)) (by decide) (h.size _ (As hlt)) _) ?_;refine A5 ?_;refine A2 [0,3,15] ?_
  refine A3 (fun ht15=>?_) (fun ht15=>?_)
  ·have hm:l.all B2=false:=by rw [Qx];exact ⟨_,As hlt,by simpa using ht15⟩
   refine Z18 ?_;exact Z62
  refine vf ?_;exact Au (x+1) ⟨hlt,Bw hlt hx.2 ht15⟩ (by omega) (Bk rfl)
 have hxe:l.length≤x:=by simpa using ht7
 have hm:l.all B2=true:=by have:=Ia hxe hx.2;rw [If] at this;simpa using this
 exact ADa

theorem Y6 (k w:Int) (Hp:List AObj):AFun Tryz.prog 169 [A4 k,A4 w] Hp (B0 (F9 k w)):=by
 refine Ah [.tmp 4] [0,1] Tryz.func169 Tryz.ntmps169 (fun d=>?_)
 refine Z48 ?_;refine Z16 ?_;refine Tu ?_;exact zo

theorem c63 (n:Nat) (e:Expr) (hok:okE n e) (hn:n≤1048576) (c:List Col) (hc:OkCols c) (w:Int) (Hp:List AObj):AFun Tryz.prog 63 [A7 e,Ai c,A4 w] Hp (B0 (Y4 e c w)):=by
 refine Ah [.tmp 6] [0,1,2] Tryz.func63 Tryz.ntmps63 (fun d=>?_)
 refine Z1 ?_;refine A2 [1,2,3] ?_;refine Z1 ?_;refine Aa Tryz.call62 (c62 n e hok hn c hc _) ?_;refine Z82 ?_;refine A2 [2,7,8] ?_;refine Z16 ?_;refine Qg ?_;refine Tu ?_;refine Z0 ?_;refine Z92 ?_;exact A9 (Aj A8) ⟨by unfold Y4;rfl,rfl⟩

end Go.SX.Nb
