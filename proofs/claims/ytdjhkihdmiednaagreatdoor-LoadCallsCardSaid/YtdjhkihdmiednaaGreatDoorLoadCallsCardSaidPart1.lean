/- On the way (part 1). -/
import Derived.CallsIn
import Derived.RangeFuncLeaves
import Derived.Laws.Sem
import Derived.Laws.World
import Derived.Laws.Entries
import Derived.Laws.Strings
import Derived.Laws.Cells
import Derived.Laws.IdiomCopy
import Derived.Laws.Append
import Derived.OrdersIn
import Derived.RangeFuncRecord
import Derived.Laws.StructEq
set_option linter.all false
namespace Go.SX
def cr:=@Array.append_assoc
def R8:=@Array.ext
def Hm:=@Array.getD_eq_getD_getElem?
def J4:=@Array.getElem?_append_left
def N9:=@Array.getElem?_append_right
def Cz:=@Array.getElem?_eq_getElem
def R9:=@Array.getElem?_eq_none
def J5:=@Array.getElem?_eq_some_iff
def ct:=@Array.getElem?_modify
def Kj:=@Array.getElem?_push
def Oo:=@Array.getElem?_replicate
def M9:=@Array.getElem?_setIfInBounds_ne
def Ma:=@Array.getElem?_toList
def Oq:=@Array.size_append
def qw:=@Array.toList_append
def cu:=@Array.toList_setIfInBounds
def B1:=@Bool.and_eq_true
def cv:=@Bool.and_eq_true_iff
def Wd:=@Bool.and_true
def Mb:=@Bool.eq_false_iff
def We:=@Bool.eq_iff_iff
def Ot:=@Bool.false_and
def Co:=@Bool.false_eq_true
def Mc:=@Bool.false_or
def Md:=@Bool.not_eq_false'
def If:=@Bool.not_eq_true'
def Ig:=@Bool.not_true
def Kt:=@Bool.or_eq_false_iff
def Fg:=@Bool.or_eq_true
def Ou:=@Bool.true_and
def Fz:=@Classical.byContradiction
def cw:=@Classical.epsilon_spec
def Wf:=@Int.tmod_eq_emod_of_nonneg
def Ap:=@List.all_eq_true
def S8:=@List.any_eq_true
def Br:=@List.append_assoc
def Hw:=@List.append_nil
def qx:=@List.cons.inj
def S9:=@List.cons.injEq
def Dd:=@List.cons_append
def cx:=@List.countP_replicate
def Me:=@List.dropWhile_cons
def Wg:=@List.dropWhile_sublist
def Sa:=@List.drop_drop
def Sb:=@List.drop_eq_getElem_cons
def Sc:=@List.drop_eq_nil_iff
def Wh:=@List.drop_left
def Mf:=@List.drop_succ_cons
def Ov:=@List.drop_zero
def Mg:=@List.elem_iff
def cy:=@List.eq_nil_iff_forall_not_mem
def Sd:=@List.eq_nil_of_length_eq_zero
def Wi:=@List.ext_getElem
def Ih:=@List.ext_getElem?
def Se:=@List.find?_eq_none
def cz:=@List.find?_eq_some_iff_getElem
def Wj:=@List.flatMap_cons
def Wk:=@List.foldl_append
def Dw:=@List.getD_eq_getElem?_getD
def Cx:=@List.getElem?_append_left
def Cp:=@List.getElem?_append_right
def Ii:=@List.getElem?_cons_succ
def d7:=@List.getElem?_cons_zero
def Dl:=@List.getElem?_drop
def Ad:=@List.getElem?_eq_getElem
def Dx:=@List.getElem?_eq_none
def d8:=@List.getElem?_eq_none_iff
def Ac:=@List.getElem?_eq_some_iff
def C4:=@List.getElem?_map
def d9:=@List.getElem?_mapIdx
def Cc:=@List.getElem?_of_mem
def Sf:=@List.getElem?_range'
def J6:=@List.getElem?_set
def Cd:=@List.getElem?_set_ne
def Wl:=@List.getElem?_set_self
def Eo:=@List.getElem?_take
def Sg:=@List.getElem?_toArray
def Wm:=@List.getElem?_zip_eq_some
def Wn:=@List.getElem_map
def C7:=@List.getElem_mem
def Sh:=@List.getElem_of_mem
def Am:=@List.length_append
def Ar:=@List.length_cons
def Ep:=@List.length_drop
def Bs:=@List.length_map
def Bd:=@List.length_nil
def Cy:=@List.length_set
def Ow:=@List.length_singleton
def Gt:=@List.length_take
def Dy:=@List.map_append
def da:=@List.map_congr_left
def Cl:=@List.map_cons
def Ku:=@List.map_map
def H9:=@List.map_nil
def Ox:=@List.map_toArray
def D6:=@List.mem_append
def Oy:=@List.mem_append_left
def Kv:=@List.mem_append_right
def Bt:=@List.mem_cons
def Hy:=@List.mem_cons_of_mem
def Ef:=@List.mem_cons_self
def Y9:=@List.mem_iff_getElem?
def E2:=@List.mem_map
def K3:=@List.mem_nil_iff
def Ax:=@List.mem_of_getElem?
def Li:=@List.mem_of_mem_drop
def K4:=@List.mem_of_mem_take
def Lj:=@List.mem_or_eq_of_mem_set
def Dm:=@List.mem_range
def O7:=@List.mem_reverse
def Cn:=@List.mem_singleton
def Hn:=@List.mem_zipIdx_iff_getElem?
def F1:=@List.nil_append
def K5:=@List.nodup_cons
def O8:=@List.nodup_nil
def Fh:=@List.not_mem_nil
def Si:=@List.range_succ
def K6:=@List.set_append_left
def Ij:=@List.set_comm
def Ba:=@List.set_set
def Gz:=@List.size_toArray
def Ya:=@List.takeWhile_append_dropWhile
def i5:=@List.take_append_drop
def Yb:=@List.take_append_of_le_length
def K7:=@List.take_length
def E3:=@List.take_of_length_le
def K8:=@List.take_succ_eq_append_getElem
def Ho:=@Nat.add_assoc
def Sj:=@Nat.add_comm
def Gg:=@Nat.add_mul
def Sk:=@Nat.add_sub_cancel_left
def Yc:=@Nat.div_lt_of_lt_mul
def H0:=@Nat.eq_of_beq_eq_true
def O9:=@Nat.le_mul_of_pos_left
def H1:=@Nat.le_of_eq
def Oa:=@Nat.le_of_not_lt
def Ah:=@Nat.le_refl
def Hq:=@Nat.le_succ
def Sl:=@Nat.le_succ_of_le
def Ob:=@Nat.le_trans
def E4:=@Nat.lt_of_lt_of_le
def B0:=@Nat.lt_or_ge
def Oc:=@Nat.mod_lt
def Od:=@Nat.mul_comm
def Ik:=@Nat.mul_le_mul_right
def Oe:=@Nat.not_lt
def Sm:=@Nat.sub_self
def B7:=@Nat.zero_add
def Aw:=@Nat.zero_le
def Da:=@Option.map_eq_some_iff
def Of:=@Option.some.injEq
def Sn:=@Prod.mk.injEq
def Fi:=@UInt8.toNat_inj
end Go.SX
namespace Go.SX
theorem sL0 {p:Prop} (h:p:=by simp only [go_sem,↓reduceIte,Nat.reduceEqDiff,Nat.reduceAdd]<;>rfl):p:=h
theorem sL1 {p:Prop} (h:p:=by simp only [go_sem,↓reduceIte,Nat.reduceEqDiff,Nat.reduceAdd]):p:=h
theorem sL2 {p:Prop} (h:p:=by simp only [go_sem,↓reduceIte,Nat.reduceEqDiff,Nat.reduceAdd]<;>omega):p:=h
theorem sL3 {p:Prop} (h:p:=by simp only [go_sem,↓reduceIte,Nat.reduceEqDiff,Nat.reduceAdd]<;>first|exact GIs.v _ _|exact GIs.g _ _ _):p:=h
theorem sL4 {p:Prop} (h:p:=by simp only [go_sem,↓reduceIte,Nat.reduceEqDiff,Nat.reduceAdd]<;>repeat (first|exact UgL.nil|refine UgL.cons (by first|exact Ug.g _|exact Ug.g1 _ _ _ rfl|exact Ug.g2 _ _ _ _ rfl|exact Ug.same _) ?_)):p:=h

/-- An abstract value. 'slice own k xs': a slice of elements of k cells each; 'own': nobody else may write behind its end. 'ro': a pointer to cells that nobody writes. -/
inductive AV where
 | any
 | v (x:Value)
 | nil
 | agg (cs:List AV)
 | tup (vs:List AV)
 | slice (own:Bool) (k:Nat) (xs:List AV)
 | ro (cs:List AV)
 | ptr (o off:Nat)
 | fn (f:Fn) (first caps:List AV)
 | yield (o:Nat)
 | iface (t:TypeId) (x:AV)
 | sl (o k n c:Nat)
 | cellp (k:Nat)
 | full (k:Nat) (xs:List AV)
 deriving Inhabited

def AV.cells:AV→List AV
 | .agg cs=>cs
 | x=>[x]

/-- It takes one cell. -/
def AV.one:AV→Bool
 | .v x=>x.oneCell'
 | .any|.agg _|.tup _|.cellp _=>false
 | _=>true

/-- Not owned any more. -/
def AV.strip:AV→AV
 | .slice _ k xs=>.slice false k xs
 | .cellp _=>.any
 | x=>x

/-- Where an owned slice lies. -/
inductive Loc where
 | slot (d s:Nat)
 | cell (i j:Nat)
 | ret (d:Nat)

inductive Tag where
 | free
 | fix
 | obj (i:Nat)
 | tail (l:Loc)

/-- What each cell of memory is to us; where the abstract objects lie; how many there are. -/
structure Gh where
 tag:Nat→Nat→Tag
 blk:Nat→Nat
 n:Nat

inductive Rep (G:Gh) (w:World):Option Loc→AV→Value→Prop
 | any (l:Option Loc) (x:Value):Rep G w l .any x
 | v (l:Option Loc) (x:Value):Rep G w l (.v x) x
 | nil (l:Option Loc):Rep G w l .nil (.slice none 0 0)
 | agg (l:Option Loc) (cs:List AV) (vs:Array Value) (hn:vs.size=cs.length) (h1:∀y∈cs,y.one=true)
   (h:∀(i:Nat) (y:AV) (u:Value),cs[i]? = some y→vs[i]? = some u→Rep G w none y u):Rep G w l (.agg cs) (.agg vs)
 | tup (l:Option Loc) (cs:List AV) (vs:Array Value) (hn:vs.size=cs.length)
   (h:∀(i:Nat) (y:AV) (u:Value),cs[i]? = some y→vs[i]? = some u→Rep G w none y u):Rep G w l (.tup cs) (.tuple vs)
 | slice0 (l:Option Loc) (own:Bool) (k:Nat):Rep G w l (.slice own k []) (.slice none 0 0)
 | sliceE (l:Option Loc) (k:Nat) (ad:Addr) (c:Nat):Rep G w l (.slice false k []) (.slice (some ad) 0 c)
 | slice (l:Option Loc) (own:Bool) (k:Nat) (xs:List AV) (ad:Addr) (n c:Nat) (f:Nat→Nat→Value) (hs:ad.spot=none) (hn:n=xs.length) (hc:n≤c)
   (hk:∀x∈xs,x.cells.length=k) (h1:∀x∈xs,∀y∈x.cells,y.one=true)
   (hf:∀(i:Nat) (x:AV) (j:Nat) (y:AV),xs[i]? = some x→x.cells[j]? = some y→G.tag ad.block (ad.off+i*k+j)=.fix∧w.cell? ⟨ad.block,ad.off+i*k+j,none⟩=some (f i j))
   (hr:∀(i:Nat) (x:AV) (j:Nat) (y:AV),xs[i]? = some x→x.cells[j]? = some y→Rep G w none y (f i j))
   (ho:own=true→∃L,l=some L∧∀o,ad.off+n*k≤o→o<ad.off+c*k→G.tag ad.block o=.tail L):
   Rep G w l (.slice own k xs) (.slice (some ad) n c)
 | ro (l:Option Loc) (cs:List AV) (ad:Addr) (f:Nat→Value) (hs:ad.spot=none) (h1:∀y∈cs,y.one=true)
   (hf:∀(j:Nat) (y:AV),cs[j]? = some y→G.tag ad.block (ad.off+j)=.fix∧w.cell? ⟨ad.block,ad.off+j,none⟩=some (f j))
   (hr:∀(j:Nat) (y:AV),cs[j]? = some y→Rep G w none y (f j)):Rep G w l (.ro cs) (.pointer (some ad))
 | ptr (l:Option Loc) (o off:Nat) (ho:o<G.n):Rep G w l (.ptr o off) (.pointer (some ⟨G.blk o,off,none⟩))
 | fn (l:Option Loc) (f:Fn) (as cs:List AV) (va vc:Array Value) (ha:va.size=as.length) (hc:vc.size=cs.length)
   (h1:∀(i:Nat) (y:AV) (u:Value),as[i]? = some y→va[i]? = some u→Rep G w none y u)
   (h2:∀(i:Nat) (y:AV) (u:Value),cs[i]? = some y→vc[i]? = some u→Rep G w none y u):Rep G w l (.fn f as cs) (.func f va vc)
 | yield (l:Option Loc) (o:Nat) (ho:o<G.n):Rep G w l (.yield o) (.func (.yield (G.blk o)) #[] #[])
 | iface (l:Option Loc) (t:TypeId) (x:AV) (u:Value) (h:Rep G w none x u):Rep G w l (.iface t x) (.iface t u)
 | sl (l:Option Loc) (o k n c:Nat) (ho:o<G.n):Rep G w l (.sl o k n c) (.slice (some ⟨G.blk o,0,none⟩) n c)
 | cellp (l:Option Loc) (k b:Nat) (ho:∃L,l=some L∧∀o,o<k→G.tag b o=.tail L):Rep G w l (.cellp k) (.pointer (some ⟨b,0,none⟩))
 | full (l:Option Loc) (k:Nat) (xs:List AV) (ad:Addr) (n:Nat) (h:Rep G w none (.slice false k xs) (.slice (some ad) n n)):Rep G w l (.full k xs) (.slice (some ad) n n)

section
variable {G G':Gh} {w w':World}

theorem Rep.mono (hfix:∀b o,G.tag b o=.fix→G'.tag b o=.fix∧w'.cell? ⟨b,o,none⟩=w.cell? ⟨b,o,none⟩) (hn:G.n≤G'.n) (hblk:∀o,o<G.n→G'.blk o=G.blk o)
  {l:Option Loc} {x:AV} {u:Value} (h:Rep G w l x u):(∀L,l=some L→∀b o,G.tag b o=.tail L→G'.tag b o=.tail L)→Rep G' w' l x u:=by
 induction h with
 | any l x=>exact fun _=>.any l x
 | v l x=>exact fun _=>.v l x
 | nil l=>exact fun _=>.nil l
 | agg l cs vs hn h1 h ih=>exact fun _=>.agg l cs vs hn h1 fun i y u h1 h2=>ih i y u h1 h2 (fun _ h=>by cases h)
 | tup l cs vs hn h ih=>exact fun _=>.tup l cs vs hn fun i y u h1 h2=>ih i y u h1 h2 (fun _ h=>by cases h)
 | slice0 l own k=>exact fun _=>.slice0 l own k
 | sliceE l k ad c=>exact fun _=>.sliceE l k ad c
 | slice l own k xs ad n c f hs hn hc hk h1 hf hr ho ih =>
  intro ht
  refine .slice l own k xs ad n c f hs hn hc hk h1 (fun i x j y h1 h2=>?_) (fun i x j y h1 h2=>ih i x j y h1 h2 (fun _ h=>by cases h)) (fun hown=>?_)
  ·obtain ⟨a,b⟩:=hf i x j y h1 h2
   obtain ⟨a',b'⟩:=hfix _ _ a
   exact ⟨a',b'.trans b⟩
  obtain ⟨L,hL,h⟩:=ho hown
  exact ⟨L,hL,fun o h1 h2=>ht L hL _ _ (h o h1 h2)⟩
 | ro l cs ad f hs h1 hf hr ih =>
  intro _
  refine .ro l cs ad f hs h1 (fun j y h1=>?_) (fun j y h1=>ih j y h1 (fun _ h=>by cases h))
  obtain ⟨a,b⟩:=hf j y h1
  obtain ⟨a',b'⟩:=hfix _ _ a
  exact ⟨a',b'.trans b⟩
 | ptr l o off ho =>
  intro _
  rw [←hblk o ho]
  exact .ptr l o off (E4 ho hn)
 | fn l f as cs va vc ha hc h1 h2 ih1 ih2=>exact fun _=>.fn l f as cs va vc ha hc (fun i y u a b=>ih1 i y u a b (fun _ h=>by cases h)) (fun i y u a b=>ih2 i y u a b (fun _ h=>by cases h))
 | yield l o ho =>
  intro _
  rw [←hblk o ho]
  exact .yield l o (E4 ho hn)
 | iface l t x u h ih=>exact fun _=>.iface l t x u (ih (fun _ h=>by cases h))
 | sl l o k n c ho =>
  intro _
  rw [←hblk o ho]
  exact .sl l o k n c (E4 ho hn)
 | cellp l k b ho =>
  intro ht
  obtain ⟨L,hL,h⟩:=ho
  exact .cellp l k b ⟨L,hL,fun o h1=>ht L hL _ _ (h o h1)⟩
 | full l k xs ad n h ih=>exact fun _=>.full l k xs ad n (ih (fun _ h=>by cases h))

theorem Rep.one {l:Option Loc} {x:AV} {u:Value} (h:Rep G w l x u) (hx:x.one=true):u.oneCell'=true:=by
 cases h<;>first|rfl|exact hx|simp [AV.one] at hx

theorem AV.one_strip {x:AV}:x.strip.one=x.one:=by cases x<;>rfl

theorem Rep.strip {l l':Option Loc} {x:AV} {u:Value} (h:Rep G w l x u):Rep G w l' x.strip u:=by
 cases h with
 | any _ x=>exact .any _ _
 | v _ x=>exact .v _ _
 | nil _=>exact .nil _
 | agg _ cs vs hn h1 h=>exact .agg _ _ _ hn h1 h
 | tup _ cs vs hn h=>exact .tup _ _ _ hn h
 | slice0 _ own k=>exact .slice0 _ _ _
 | sliceE _ k ad c=>exact .sliceE _ k ad c
 | slice _ own k xs ad n c f hs hn hc hk h1 hf hr ho=>exact .slice _ false k xs ad n c f hs hn hc hk h1 hf hr (fun h=>by cases h)
 | ro _ cs ad f hs h1 hf hr=>exact .ro _ cs ad f hs h1 hf hr
 | ptr _ o off ho=>exact .ptr _ o off ho
 | fn _ f as cs va vc ha hc h1 h2=>exact .fn _ f as cs va vc ha hc h1 h2
 | yield _ o ho=>exact .yield _ o ho
 | iface _ t x u h=>exact .iface _ t x u h
 | sl _ o k n c ho=>exact .sl _ o k n c ho
 | cellp _ k b ho=>exact .any _ _
 | full _ k xs ad n h=>exact .full _ k xs ad n h

/-- What lies nowhere lies anywhere. -/
theorem Rep.lift {l:Option Loc} {x:AV} {u:Value} (h:Rep G w none x u):Rep G w l x u:=by
 cases h with
 | any _ x=>exact .any _ _
 | v _ x=>exact .v _ _
 | nil _=>exact .nil _
 | agg _ cs vs hn h1 h=>exact .agg _ _ _ hn h1 h
 | tup _ cs vs hn h=>exact .tup _ _ _ hn h
 | slice0 _ own k=>exact .slice0 _ _ _
 | sliceE _ k ad c=>exact .sliceE _ k ad c
 | slice _ own k xs ad n c f hs hn hc hk h1 hf hr ho=>exact .slice _ own k xs ad n c f hs hn hc hk h1 hf hr (fun h=>by obtain ⟨L,e,_⟩:=ho h;cases e)
 | ro _ cs ad f hs h1 hf hr=>exact .ro _ cs ad f hs h1 hf hr
 | ptr _ o off ho=>exact .ptr _ o off ho
 | fn _ f as cs va vc ha hc h1 h2=>exact .fn _ f as cs va vc ha hc h1 h2
 | yield _ o ho=>exact .yield _ o ho
 | iface _ t x u h=>exact .iface _ t x u h
 | sl _ o k n c ho=>exact .sl _ o k n c ho
 | cellp _ k b ho=>obtain ⟨L,e,_⟩:=ho;cases e
 | full _ k xs ad n h=>exact .full _ k xs ad n h

/-- A value that is known less well. -/
inductive Le:AV→AV→Prop
 | refl (x:AV):Le x x
 | any (x:AV):Le x .any
 | nil (own:Bool) (k:Nat):Le .nil (.slice own k [])
 | strip (own:Bool) (k:Nat) (xs:List AV):Le (.slice own k xs) (.slice false k xs)
 | agg (cs cs':List AV) (hn:cs.length=cs'.length) (h1:∀y∈cs',y.one=true) (h:∀(i:Nat) (y y':AV),cs[i]? = some y→cs'[i]? = some y'→y=y'∨(y=.nil∧∃k,y'=.slice false k [])):Le (.agg cs) (.agg cs')

theorem Rep.le {l:Option Loc} {x y:AV} {u:Value} (h:Rep G w l x u) (hl:Le x y):Rep G w l y u:=by
 cases hl with
 | refl=>exact h
 | any=>exact .any _ _
 | nil own k=>cases h;exact .slice0 _ _ _
 | strip own k xs=>exact h.strip
 | agg cs cs' hn h1 hh =>
  cases h with
  | agg _ _ vs hv h1' hr =>
   refine .agg _ _ _ (hv.trans hn) h1 fun i y' u hy' hu=>?_
   have hlt:i<cs.length:=by rw [hn];exact (Ac.1 hy').1
   rcases hh i cs[i] y' (Ad hlt) hy' with e|⟨e,k,rfl⟩
   ·exact e ▸ hr i cs[i] u (Ad hlt) hu
   have:=hr i cs[i] u (Ad hlt) hu
   rw [e] at this
   cases this
   exact .slice0 _ _ _

/-- All references go to objects below m. -/
inductive Low (m:Nat):AV→Prop
 | any:Low m .any
 | v (x:Value):Low m (.v x)
 | nil:Low m .nil
 | agg (cs:List AV) (h:∀y∈cs,Low m y):Low m (.agg cs)
 | tup (cs:List AV) (h:∀y∈cs,Low m y):Low m (.tup cs)
 | slice (own:Bool) (k:Nat) (xs:List AV) (h:∀x∈xs,∀y∈x.cells,Low m y):Low m (.slice own k xs)
 | ro (cs:List AV) (h:∀y∈cs,Low m y):Low m (.ro cs)
 | ptr (o off:Nat) (h:o<m):Low m (.ptr o off)
 | fn (f:Fn) (as cs:List AV) (h1:∀y∈as,Low m y) (h2:∀y∈cs,Low m y):Low m (.fn f as cs)
 | yield (o:Nat) (h:o<m):Low m (.yield o)
 | iface (t:TypeId) (x:AV) (h:Low m x):Low m (.iface t x)
 | sl (o k n c:Nat) (h:o<m):Low m (.sl o k n c)
 | cellp (k:Nat):Low m (.cellp k)
 | full (k:Nat) (xs:List AV) (h:∀x∈xs,∀y∈x.cells,Low m y):Low m (.full k xs)

theorem Low.mono {m m':Nat} (hm:m≤m') {x:AV} (h:Low m x):Low m' x:=by
 induction h with
 | any=>exact .any
 | v x=>exact .v x
 | nil=>exact .nil
 | agg cs _ ih=>exact .agg cs ih
 | tup cs _ ih=>exact .tup cs ih
 | slice own k xs _ ih=>exact .slice own k xs ih
 | ro cs _ ih=>exact .ro cs ih
 | ptr o off h=>exact .ptr o off (E4 h hm)
 | fn f as cs _ _ i1 i2=>exact .fn f as cs i1 i2
 | yield o h=>exact .yield o (E4 h hm)
 | iface t x _ ih=>exact .iface t x ih
 | sl o k n c h=>exact .sl o k n c (E4 h hm)
 | cellp k=>exact .cellp k
 | full k xs _ ih=>exact .full k xs ih

theorem Rep.low {l:Option Loc} {x:AV} {u:Value} (h:Rep G w l x u):Low G.n x:=by
 induction h with
 | any l x=>exact .any
 | v l x=>exact .v x
 | nil l=>exact .nil
 | agg l cs vs hn h1 h ih =>
  refine .agg cs fun y hy=>?_
  obtain ⟨i,hi⟩:=Cc hy
  have hlt:i<vs.size:=by rw [hn];exact (Ac.1 hi).1
  exact ih i y vs[i] hi (Cz hlt)
 | tup l cs vs hn h ih =>
  refine .tup cs fun y hy=>?_
  obtain ⟨i,hi⟩:=Cc hy
  have hlt:i<vs.size:=by rw [hn];exact (Ac.1 hi).1
  exact ih i y vs[i] hi (Cz hlt)
 | slice0 l own k=>exact .slice own k [] (fun x hx=>by cases hx)
 | sliceE l k ad c=>exact .slice false k [] (fun x hx=>by cases hx)
 | slice l own k xs ad n c f hs hn hc hk h1 hf hr ho ih =>
  refine .slice own k xs fun x hx y hy=>?_
  obtain ⟨i,hi⟩:=Cc hx
  obtain ⟨j,hj⟩:=Cc hy
  exact ih i x j y hi hj
 | ro l cs ad f hs h1 hf hr ih =>
  refine .ro cs fun y hy=>?_
  obtain ⟨j,hj⟩:=Cc hy
  exact ih j y hj
 | ptr l o off ho=>exact .ptr o off ho
 | fn l f as cs va vc ha hc h1 h2 ih1 ih2 =>
  refine .fn f as cs (fun y hy=>?_) (fun y hy=>?_)
  ·obtain ⟨i,hi⟩:=Cc hy
   have hlt:i<va.size:=by rw [ha];exact (Ac.1 hi).1
   exact ih1 i y va[i] hi (Cz hlt)
  obtain ⟨i,hi⟩:=Cc hy
  have hlt:i<vc.size:=by rw [hc];exact (Ac.1 hi).1
  exact ih2 i y vc[i] hi (Cz hlt)
 | yield l o ho=>exact .yield o ho
 | iface l t x u h ih=>exact .iface t x ih
 | sl l o k n c ho=>exact .sl o k n c ho
 | cellp l k b ho=>exact .cellp k
 | full l k xs ad n h ih=>cases ih with|slice _ _ _ ih=>exact .full k xs ih

theorem Low.strip {m:Nat} {x:AV} (h:Low m x):Low m x.strip:=by
 cases h with
 | slice own k xs h=>exact .slice false k xs h
 | any=>exact .any
 | v x=>exact .v x
 | nil=>exact .nil
 | agg cs h=>exact .agg cs h
 | tup cs h=>exact .tup cs h
 | ro cs h=>exact .ro cs h
 | ptr o off h=>exact .ptr o off h
 | fn f as cs h1 h2=>exact .fn f as cs h1 h2
 | yield o h=>exact .yield o h
 | iface t x h=>exact .iface t x h
 | sl o k n c h=>exact .sl o k n c h
 | cellp k=>exact .any
 | full k xs h=>exact .full k xs h

/-- With fewer objects: what refers to none of those that went stays. -/
theorem Rep.cut {m:Nat} {l:Option Loc} {x:AV} {u:Value} (h:Rep G w l x u):Low m x→Rep { G with n:=m } w l x u:=by
 induction h with
 | any l x=>exact fun _=>.any l x
 | v l x=>exact fun _=>.v l x
 | nil l=>exact fun _=>.nil l
 | agg l cs vs hn h1 h ih=>intro hl;cases hl with|agg _ hl=>exact .agg l cs vs hn h1 fun i y u h1 h2=>ih i y u h1 h2 (hl y (Ax h1))
 | tup l cs vs hn h ih=>intro hl;cases hl with|tup _ hl=>exact .tup l cs vs hn fun i y u h1 h2=>ih i y u h1 h2 (hl y (Ax h1))
 | slice0 l own k=>exact fun _=>.slice0 l own k
 | sliceE l k ad c=>exact fun _=>.sliceE l k ad c
 | slice l own k xs ad n c f hs hn hc hk h1 hf hr ho ih =>
  intro hl
  cases hl with
  | slice _ _ _ hl=>exact .slice l own k xs ad n c f hs hn hc hk h1 hf (fun i x j y h1 h2=>ih i x j y h1 h2 (hl x (Ax h1) y (Ax h2))) ho
 | ro l cs ad f hs h1 hf hr ih=>intro hl;cases hl with|ro _ hl=>exact .ro l cs ad f hs h1 hf (fun j y h1=>ih j y h1 (hl y (Ax h1)))
 | ptr l o off ho=>intro hl;cases hl with|ptr _ _ hl=>exact .ptr (G:={ G with n:=m }) l o off hl
 | fn l f as cs va vc ha hc h1 h2 ih1 ih2 =>
  intro hl
  cases hl with
  | fn _ _ _ l1 l2=>exact .fn l f as cs va vc ha hc (fun i y u a b=>ih1 i y u a b (l1 y (Ax a))) (fun i y u a b=>ih2 i y u a b (l2 y (Ax a)))
 | yield l o ho=>intro hl;cases hl with|yield _ hl=>exact .yield (G:={ G with n:=m }) l o hl
 | iface l t x u h ih=>intro hl;cases hl with|iface _ _ hl=>exact .iface l t x u (ih hl)
 | sl l o k n c ho=>intro hl;cases hl with|sl _ _ _ _ hl=>exact .sl (G:={ G with n:=m }) l o k n c hl
 | cellp l k b ho=>exact fun _=>.cellp (G:={ G with n:=m }) l k b ho
 | full l k xs ad n h ih=>intro hl;cases hl with|full _ _ hl=>exact .full l k xs ad n (ih (.slice false k xs hl))
end

/-- An abstract object: a block of cells that is written; the record of a range over a function; the block for its deferred calls. -/
inductive AObj where
 | cells (t:TypeId) (cs:List AV)
 | loop (state:LoopState) (pending:Option Code) (fr:Nat→AV) (sz:Nat) (params:Array Tmp) (assign body:Code) (df:Nat)
 | defs
 | dead
 | bld (t e:TypeId) (bs:List UInt8)
 | gone

/-- A block of cells all of which are object i's. -/
def AllObj (G:Gh) (w:World) (i b:Nat):Prop:=∃(cur:Array Value) (e:TypeId),w.heap[b]? = some (.cells cur e (0,0))∧0<cur.size∧∀o,o<cur.size→G.tag b o=.obj i

/-- A text builder (its own address or nil, and its bytes: nil, or in a block that is its own). -/
def BldRel (G:Gh) (w:World) (i:Nat) (t e:TypeId) (bs:List UInt8):Prop:=
 ∃p v:Value,w.heap[G.blk i]? = some (.cells #[p,v] t (0,0))∧(p=.pointer none∨p=.pointer (some ⟨G.blk i,0,none⟩))∧(∀j,j<2→G.tag (G.blk i) j=.obj i) ∧
  ((v=.slice none 0 0∧bs=[])∨∃(g cap:Nat) (cur:Array Value),v=.slice (some ⟨g,0,none⟩) bs.length cap∧g≠G.blk i∧w.heap[g]? = some (.cells cur e (0,0))∧bs.length≤cap∧cap≤maxLen∧0<cap∧cur.size=cap ∧
   cur.toList.take bs.length=bs.map (fun b=>Value.int .u8 b.toNat)∧∀j,j<cap→G.tag g j=.obj i)

def ObjRel (G:Gh) (w:World) (i:Nat):AObj→Prop
 | .cells t cs=>∃vs:Array Value,w.heap[G.blk i]? = some (.cells vs t (0,0))∧vs.size=cs.length ∧
   (∀(j:Nat) (y:AV) (u:Value),cs[j]? = some y→vs[j]? = some u→Rep G w (some (.cell i j)) y u)∧∀j,j<cs.length→G.tag (G.blk i) j=.obj i
 | .loop st pd fr sz ps as bd df=>∃(fn:FuncId) (tmps:Array Value),w.heap[G.blk i]? = some (.loop { state:=st,pending:=pd,fn,tmps,params:=ps,assign:=as,body:=bd,defers:=G.blk df }) ∧
   tmps.size=sz∧(∀s,Rep G w none (fr s) (tmps.getD s undef))∧df<G.n
 | .defs=>w.heap[G.blk i]? = some (.deferred (some []))
 | .dead=>w.heap[G.blk i]? = some (.deferred none)
 | .bld t e bs=>BldRel G w i t e bs
 | .gone=>∃(vs:Array Value) (t:TypeId) (fz:Nat×Nat),w.heap[G.blk i]? = some (.cells vs t fz)∧∀j,j<vs.size→G.tag (G.blk i) j=.fix

structure HeapRel (G:Gh) (H:List AObj) (w:World):Prop where
 obj:∀(i:Nat) (x:AObj),H[i]? = some x→ObjRel G w i x
 n:G.n=H.length
 inj:∀i j,i<G.n→j<G.n→G.blk i=G.blk j→i=j

/-- A block that nobody may write: none of its cells is anybody's, and it is no object of ours. -/
def Hz (G:Gh) (w:World) (b:Nat):Prop:=b<w.heap.size∧(∀o,G.tag b o=.fix∨G.tag b o=.free)∧∀i,i<G.n→G.blk i≠b
def Still (G:Gh) (w:World) (G':Gh) (w':World):Prop:=∀b,Hz G w b→w'.heap[b]? = w.heap[b]? ∧ Hz G' w' b
theorem Still.refl (G:Gh) (w:World):Still G w G w:=fun _ h=>⟨rfl,h⟩
theorem Still.trans {G G1 G2:Gh} {w w1 w2:World} (h:Still G w G1 w1) (k:Still G1 w1 G2 w2):Still G w G2 w2:=fun b hb=>by
 obtain ⟨e1,v1⟩:=h b hb
 obtain ⟨e2,v2⟩:=k b v1
 exact ⟨e2.trans e1,v2⟩
/-- The tags turn where something was anybody's already, or in new blocks; the same heap. -/
theorem Still.tags {G G':Gh} {w w':World} (hh:∀b,Hz G w b→w'.heap[b]? = w.heap[b]?) (hs:w.heap.size≤w'.heap.size) (ht:∀b o,b<w.heap.size→G'.tag b o=G.tag b o∨∃L,G.tag b o=.tail L)
  (hb:∀i,i<G'.n→(i<G.n∧G'.blk i=G.blk i)∨w.heap.size≤G'.blk i):Still G w G' w':=fun b ⟨h1,h2,h3⟩=>by
 refine ⟨hh b ⟨h1,h2,h3⟩,E4 h1 hs,fun o=>?_,fun i hi=>?_⟩
 ·rcases ht b o h1 with e|⟨L,e⟩
  ·rw [e];exact h2 o
  rcases h2 o with h|h<;>rw [e] at h<;>cases h
 rcases hb i hi with ⟨h,e⟩|h
 ·rw [e];exact h3 i h
 omega
/-- A new block is made. -/
theorem Still.alloc {G G':Gh} {w:World} (x:Obj) (ht:∀b o,b<w.heap.size→G'.tag b o=G.tag b o∨∃L,G.tag b o=.tail L) (hb:∀i,i<G'.n→(i<G.n∧G'.blk i=G.blk i)∨w.heap.size≤G'.blk i):Still G w G' (w.alloc x):=
 Still.tags (fun b h=>by have:=h.1;show (w.heap.push x)[b]? = _;rw [Kj,if_neg (by omega)]) (by simp) ht hb
/-- Some block that was somebody's is written. -/
theorem Still.write {G:Gh} {w w':World} (B:Nat) (hB:¬Hz G w B) (hh:∀b,b≠B→w'.heap[b]? = w.heap[b]?) (hs:w.heap.size≤w'.heap.size):Still G w G w':=fun b hb =>
 ⟨hh b (fun e=>hB (e ▸ hb)),E4 hb.1 hs,hb.2⟩
theorem Still.cut {G G':Gh} {w w':World} (h:Still G w G' w') {n:Nat} (hn:n≤G'.n):Still G w { G' with n:=n } w':=fun b hb=>by
 obtain ⟨e,h1,h2,h3⟩:=h b hb
 exact ⟨e,h1,h2,fun i hi=>h3 i (E4 hi hn)⟩
theorem J7 {G:Gh} {w:World} {i:Nat} (h:i<G.n):¬Hz G w (G.blk i):=fun hv=>hv.2.2 i h rfl
theorem J0 {G:Gh} {w:World} {b o:Nat} {L:Loc} (h:G.tag b o=.tail L):¬Hz G w b:=fun hv=>by
 rcases hv.2.1 o with e|e<;>rw [h] at e<;>cases e

/-- Blocks of package-level variables of which something is known all along: nobody writes them. -/
class GlobInv where
 blocks:List (Nat×(Obj→Prop))
 /-- The activation that has a deferred call of its own, and that. -/
 bd:Nat:=0
 bl:List Deferred:=[]
variable [GI:GlobInv]

structure TagOK (G:Gh) (w:World):Prop where
 ex:∀b o,G.tag b o≠.free→∃u,w.cell? ⟨b,o,none⟩=some u
 obj:∀b o i,G.tag b o=.obj i→w.frozen? ⟨b,o,none⟩=false
 tail:∀b o L,G.tag b o=.tail L→w.frozen? ⟨b,o,none⟩=false
 glob:∀x∈GI.blocks,Hz G w x.1∧∃o,w.heap[x.1]? = some o∧x.2 o

theorem TagOK.globKeep {G G':Gh} {w w':World} (h:TagOK G w) (k:Still G w G' w'):∀x∈GI.blocks,Hz G' w' x.1∧∃o,w'.heap[x.1]? = some o∧x.2 o:=fun x hx=>by
 obtain ⟨a,v,b,c⟩:=h.glob x hx
 obtain ⟨a',b'⟩:=k _ a
 exact ⟨b',v,by rw [a',b],c⟩
theorem TagOK.globCut {G:Gh} {w:World} (h:TagOK G w) {n:Nat} (hn:n≤G.n):∀x∈GI.blocks,Hz { G with n:=n } w x.1∧∃o,w.heap[x.1]? = some o∧x.2 o:=fun x hx=>by
 obtain ⟨⟨a1,a2,a3⟩,v,b,c⟩:=h.glob x hx
 exact ⟨⟨a1,a2,fun i hi=>a3 i (E4 hi hn)⟩,v,b,c⟩

/-- What is kept for whoever waits at a depth below d. -/
structure Keep (d:Nat) (G:Gh) (w:World) (G':Gh) (w':World):Prop where
 fix:∀b o,G.tag b o=.fix→G'.tag b o=.fix∧w'.cell? ⟨b,o,none⟩=w.cell? ⟨b,o,none⟩
 slot:∀b o e s,e<d→G.tag b o=.tail (.slot e s)→G'.tag b o=.tail (.slot e s)
 n:G.n≤G'.n
 blk:∀o,o<G.n→G'.blk o=G.blk o
 os:w'.os=w.os
 tape:w'.tape=w.tape
 output:w'.output=w.output
 size:w.heap.size≤w'.heap.size
 old:Still G w G' w'

theorem Keep.refl (d:Nat) (G:Gh) (w:World):Keep d G w G w:=⟨fun _ _ h=>⟨h,rfl⟩,fun _ _ _ _ _ h=>h,Ah _,fun _ _=>rfl,rfl,rfl,rfl,Ah _,Still.refl _ _⟩
theorem Keep.trans {d:Nat} {G G1 G2:Gh} {w w1 w2:World} (h:Keep d G w G1 w1) (k:Keep d G1 w1 G2 w2):Keep d G w G2 w2:=
 ⟨fun b o e=>let ⟨a,b'⟩:=h.fix b o e;let ⟨c,d'⟩:=k.fix b o a;⟨c,d'.trans b'⟩,fun b o e s he ht=>k.slot b o e s he (h.slot b o e s he ht),Ob h.n k.n,
  fun o ho=>(k.blk o (E4 ho h.n)).trans (h.blk o ho),k.os.trans h.os,k.tape.trans h.tape,k.output.trans h.output,Ob h.size k.size,h.old.trans k.old⟩
theorem Keep.less {d e:Nat} {G G':Gh} {w w':World} (h:Keep d G w G' w') (he:e≤d):Keep e G w G' w':=
 ⟨h.fix,fun b o f s hf ht=>h.slot b o f s (E4 hf he) ht,h.n,h.blk,h.os,h.tape,h.output,h.size,h.old⟩

end Go.SX
namespace Go.SX
def Er:=@Keep.refl
def So:=@Still.alloc
def Il:=@Still.tags
end Go.SX
namespace Go.SX
variable [GI:GlobInv]

variable {c:Code} {w w':World}
structure St where
 sz:Nat
 fr:Nat→AV
 up:List AObj
 own:List AObj
 defs:List Nat
 rnd:Option Nat

def Aa (d:Nat) (y:AV) (f:Nat→AV):Nat→AV:=fun s=>if s=d then y else f s

def St.set (st:St) (d:Nat) (y:AV):St:={ st with fr:=Aa d y st.fr }
/-- What a constant stands for. -/
def I7:Value→AV
 | .slice none 0 0=>.nil
 | x=>.v x
def Ck:Value→AV
 | .slice none 0 0=>.nil
 | .agg cs=>bif (cs.toList.map I7).all AV.one then .agg (cs.toList.map I7) else .v (.agg cs)
 | x=>.v x

def B6 (f:Nat→AV):Operand→AV
 | .tmp t=>(f t).strip
 | .const x=>Ck x
 | .global g=>.v (.pointer (some ⟨g,0,none⟩))
 | .func f=>.fn (.func f) [] []
def St.ev (st:St) (x:Operand):AV:=B6 st.fr x

/-- An object that refers to none from m on. -/
def ObjLow (m:Nat):AObj→Prop
 | .cells _ cs=>∀y∈cs,Low m y
 | .loop _ _ fr _ _ _ _ df=>(∀s,Low m (fr s))∧df<m
 | .defs=>True
 | .dead=>True
 | .bld _ _ _=>True
 | .gone=>True

/-- What is deferred in an activation ahead of its ranges. -/
def Yd (d:Nat):List Deferred:=if d=GI.bd then GI.bl else []
structure StRel (d:Nat) (G:Gh) (st:St) (a:Act) (w:World):Prop where
 size:a.tmps.size=st.sz
 slots:∀s,Rep G w (some (.slot d s)) (st.fr s) (a.tmps.getD s undef)
 heap:HeapRel G (st.up++st.own) w
 defs:a.defers=(st.defs.map fun o=>{ target:=.collected (G.blk o),args:=#[] })++Yd d
 defsAt:∀o∈st.defs,(st.up++st.own)[o]? = some .defs
 defsNodup:st.defs.Nodup
 defsGe:∀o∈st.defs,st.up.length≤o
 tags:TagOK G w
 rnd:∀l,st.rnd=some l→l<st.up.length
 low:∀x∈st.up,ObjLow st.up.length x
 top:GI.bd≤d

theorem J8 {d:Nat} (h:GI.bd≤d):Yd (d+1)=[]:=if_neg (by omega)
abbrev Fr (r:Option Nat):Fence:={ Fence.wide with round:=r }

/-- What a run that came from G, w has come to: a state that is told by K. -/
def Post (d:Nat) (st:St) (G:Gh) (w:World) (K:St→Prop) (a':Act) (w':World):Prop:=
 ∃(G':Gh) (st':St),StRel d G' st' a' w'∧Keep d G w G' w'∧st'.up.length=st.up.length∧st'.rnd=st.rnd∧st'.sz=st.sz∧K st'

section
variable {P:Program} {d:Nat}

def AW (P:Program) (d:Nat) (c:Code) (st:St) (K:Exit→St→Prop):Prop:=
 ∀(G:Gh) (a:Act) (w:World),StRel d G st a w→c.wpIn (Fr (st.rnd.map G.blk)) 0 P (fun e=>Post d st G w (K e)) a w

theorem Eg {st st':St} {G G':Gh} {a:Act} {w w':World} (h:StRel d G st a w) (k:Keep d G w G' w') (hr:st'.rnd=st.rnd):Fr (st'.rnd.map G'.blk)=Fr (st.rnd.map G.blk):=by
 rw [hr]
 cases hrd:st.rnd with
 | none=>rfl
 | some l =>
  have h1:=h.rnd l hrd
  have h2:=h.heap.n
  simp only [Am] at h2
  simp only [Option.map_some]
  rw [k.blk l (by omega)]

theorem Post.mono {st:St} {G:Gh} {K K':St→Prop} {a':Act} (h:Post d st G w K a' w') (hk:∀s,K s→K' s):Post d st G w K' a' w':=
 let ⟨G',st',h1,h2,h3,h4,h5,h6⟩:=h
 ⟨G',st',h1,h2,h3,h4,h5,hk _ h6⟩

/-- On from where a run has come to. -/
theorem Post.next {st st1:St} {G G1:Gh} {w1:World} {K:St→Prop} {a':Act} (h:Post d st1 G1 w1 K a' w') (k:Keep d G w G1 w1) (h1:st1.up.length=st.up.length)
  (h2:st1.rnd=st.rnd) (h3:st1.sz=st.sz):Post d st G w K a' w':=
 let ⟨G',st',a1,a2,a3,a4,a5,a6⟩:=h
 ⟨G',st',a1,k.trans a2,a3.trans h1,a4.trans h2,a5.trans h3,a6⟩

theorem AW.mono {st:St} {K K':Exit→St→Prop} (h:AW P d c st K) (hk:∀e s,K e s→K' e s):AW P d c st K':=
 fun G a w hr=>wpIn_mono (h G a w hr) fun e _ _ hp=>hp.mono (hk e)

theorem AW.skip {st:St} {K:Exit→St→Prop} (h:K .normal st):AW P d .skip st K:=
 fun G _ w hr=>wpIn_skip ⟨G,st,hr,Er d G w,rfl,rfl,rfl,h⟩
theorem AW.exit {st:St} {K:Exit→St→Prop} {id:Nat} (h:K (.exit id) st):AW P d (.exit id) st K:=
 fun G _ w hr=>wpIn_exit ⟨G,st,hr,Er d G w,rfl,rfl,rfl,h⟩
theorem AW.ret {st:St} {K:Exit→St→Prop} (h:K .ret st):AW P d .ret st K:=
 fun G _ w hr=>wpIn_ret ⟨G,st,hr,Er d G w,rfl,rfl,rfl,h⟩

/-- Behind a piece that ends normally: the next one. -/
def Lk (N:St→Prop) (K:Exit→St→Prop):Exit→St→Prop
 | .normal,s=>N s
 | e,s=>K e s
theorem AW.seq {x y:Code} {st:St} {K:Exit→St→Prop} (h:AW P d x st (Lk (fun s=>AW P d y s K) K)):AW P d (.seq x y) st K:=by
 intro G a w hr
 refine wpIn_seq (wpIn_mono (h G a w hr) ?_)
 rintro e a1 w1 ⟨G1,st1,h1,k1,e1,e2,e3,hk⟩
 cases e with
 | normal =>
  have:=hk G1 a1 w1 h1
  rw [Eg hr k1 e2] at this
  exact wpIn_mono this fun e _ _ hp=>hp.next k1 e1 e2 e3
 | exit id=>exact ⟨G1,st1,h1,k1,e1,e2,e3,hk⟩
 | goto l=>exact ⟨G1,st1,h1,k1,e1,e2,e3,hk⟩
 | ret=>exact ⟨G1,st1,h1,k1,e1,e2,e3,hk⟩
 | panic ch=>exact ⟨G1,st1,h1,k1,e1,e2,e3,hk⟩
 | outgrown=>exact ⟨G1,st1,h1,k1,e1,e2,e3,hk⟩

/-- Out of a block. -/
def J9 (id:Nat) (K:Exit→St→Prop):Exit→St→Prop
 | .exit i,s=>if i=id then K .normal s else K (.exit i) s
 | e,s=>K e s
theorem AW.block {id:Nat} {c:Code} {st:St} {K:Exit→St→Prop} (h:AW P d c st (J9 id K)):AW P d (.block id c) st K:=by
 intro G a w hr
 refine wpIn_block (wpIn_mono (h G a w hr) ?_)
 intro e a1 w1 hp
 cases e with
 | exit i =>
  by_cases hi:i=id
  ·simp only [Exit.inBlock,hi,if_true]
   exact hp.mono fun s hs=>by simpa [J9,hi] using hs
  simp only [Exit.inBlock,hi,if_false]
  exact hp.mono fun s hs=>by simpa [J9,hi] using hs
 | _=>exact hp

theorem Qt {G:Gh} {l:Option Loc} (x:Value):Rep G w l (I7 x) x:=by
 unfold I7
 split
 ·exact .nil l
 exact .v l x
theorem Ja {G:Gh} {w:World} {l:Option Loc} (x:Value):Rep G w l (Ck x) x:=by
 unfold Ck
 split
 ·exact .nil l
 ·rename_i cs
  cases h:(cs.toList.map I7).all AV.one with
  | false=>exact .v l _
  | true =>
   refine .agg l _ cs (by simp) (fun y hy=>Ap.1 h y hy) (fun i y u h1 h2=>?_)
   rw [C4,Ma,h2] at h1
   injection h1 with h1
   subst h1
   exact Qt u
 exact .v l x

/-- Each operand stands for what it evaluates to. -/
theorem StRel.eval {G:Gh} {st:St} {a:Act} {w:World} (h:StRel d G st a w) (x:Operand):Rep G w none (st.ev x) (a.eval x):=by
 cases x with
 | tmp t=>exact (h.slots t).strip
 | const x=>exact Ja x
 | global g=>exact .v none _
 | func f=>exact .fn none _ _ _ #[] #[] rfl rfl (fun i y u h=>by simp at h) (fun i y u h=>by simp at h)

theorem J1 {G:Gh} {w:World} {l:Option Loc} {x u:Value} (h:Rep G w l (.v x) u):u=x:=by cases h;rfl

theorem AW.cond {c:Operand} {x y:Code} {b:Bool} {st:St} {K:Exit→St→Prop} (hc:st.ev c=.v (.bool b)) (h1:b=true→AW P d x st K) (h2:b=false→AW P d y st K):
  AW P d (.cond c x y) st K:=by
 intro G a w hr
 have hv:a.eval c=.bool b:=J1 (hc ▸ hr.eval c)
 cases b with
 | true=>exact wpIn_cond hv (h1 rfl G a w hr)
 | false=>exact wpIn_cond hv (h2 rfl G a w hr)

theorem H2 {S:Nat→Prop} (h:∃m,S m):∃m,S m∧∀k,S k→m≤k:=by
 obtain ⟨m,hm⟩:=h
 induction m using Nat.strongRecOn with
 | _ m ih =>
  by_cases hk:∃k,k<m∧S k
  ·obtain ⟨k,h1,h2⟩:=hk
   exact ih k h1 h2
  exact ⟨m,hm,fun k hk'=>Oa fun hlt=>hk ⟨k,hlt,hk'⟩⟩

/-- One state is known less well than another one. -/
def StLe (d:Nat) (s t:St):Prop:=(∀(G:Gh) (a:Act) (w:World),StRel d G s a w→StRel d G t a w)∧t.up.length=s.up.length∧t.rnd=s.rnd∧t.sz=s.sz

/-- The frame known less well: slot by slot. -/
theorem StLe.frame {s:St} {f:Nat→AV} (h:∀i,Le (s.fr i) (f i)):StLe d s { s with fr:=f }:=
 ⟨fun _ _ _ hr=>{ hr with slots:=fun i=>(hr.slots i).le (h i) },rfl,rfl,rfl⟩
theorem StLe.refl (s:St):StLe d s s:=⟨fun _ _ _ h=>h,rfl,rfl,rfl⟩
theorem AW.le {st st':St} {K:Exit→St→Prop} (hl:StLe d st st') (h:AW P d c st' K):AW P d c st K:=by
 intro G a w hr
 have:=h G a w (hl.1 _ _ _ hr)
 rw [hl.2.2.1] at this
 exact wpIn_mono this fun e a' w' ⟨G',s,h1,h2,h3,h4,h5,h6⟩=>⟨G',s,h1,h2,h3.trans hl.2.1,h4.trans hl.2.2.1,h5.trans hl.2.2.2,h6⟩

end
end Go.SX
namespace Go.SX
def Gy:=@AW.block
def Dg:=@AW.ret
def Kw:=@AW.seq
def G4:=@AW.skip
def Oz:=@StLe.frame
def Es:=@StLe.refl
end Go.SX
namespace Go.SX
variable [GI:GlobInv]
section
variable {P:Program} {d:Nat} {ops:Array Oper}

theorem F4 (t:Array Value) (s i:Nat) (v:Value) (hs:s<t.size):(t.setIfInBounds s v).getD i undef=if i=s then v else t.getD i undef:=by
 by_cases h:i=s
 ·subst h
  simp [Hm,hs]
 have:s≠i:=fun e=>h e.symm
 simp [Hm,M9 this,h]

theorem StRel.put {G:Gh} {st:St} {a:Act} {w:World} (h:StRel d G st a w) {s:Nat} {y:AV} {v:Value} (hs:s<st.sz) (hy:Rep G w (some (.slot d s)) y v):
  StRel d G (st.set s y) (a.put (some s) v) w:=by
 have hs':s<a.tmps.size:=by rw [h.size];exact hs
 refine ⟨?_,fun i=>?_,h.heap,h.defs,h.defsAt,h.defsNodup,h.defsGe,h.tags,h.rnd,h.low,h.top⟩
 ·show (a.tmps.setIfInBounds s v).size=st.sz
  rw [Array.size_setIfInBounds];exact h.size
 show Rep G w _ (Aa s y st.fr i) ((a.tmps.setIfInBounds s v).getD i undef)
 rw [F4 _ _ _ _ hs']
 unfold Aa
 by_cases hi:i=s
 ·subst hi
  simpa using hy
 simpa [hi] using h.slots i

/-- One operation. -/
def AOp (P:Program) (d:Nat) (o:Oper) (st:St) (Q:St→Prop):Prop:=
 ∀(G:Gh) (a:Act) (w:World),StRel d G st a w→∀Q':Exit→Act→World→Prop,o.wpIn (Fr (st.rnd.map G.blk)) 0 P a w (Post d st G w Q) Q'

/-- An operation that yields y and turns nothing that was told. -/
def OpV (P:Program) (d:Nat) (o:Oper) (st:St) (y:AV):Prop:=
 ∀(G:Gh) (a:Act) (w:World),StRel d G st a w→∀Q':Exit→Act→World→Prop,
  o.wpIn (Fr (st.rnd.map G.blk)) 0 P a w (fun a' w'=>∃(G':Gh) (v:Value),a'=a.put o.dst v∧StRel d G' st a w'∧Keep d G w G' w'∧Rep G' w' none y v) Q'

def ARun (P:Program) (d:Nat) (ops:Array Oper) (l:List Oper) (st:St) (Q:St→Prop):Prop:=
 ∀(G:Gh) (a:Act) (w:World),StRel d G st a w→∀idx:List Nat,idx.map (fun i=>ops[i]?)=l.map some →
  wpOpsIn (Fr (st.rnd.map G.blk)) 0 P ops (fun e a' w'=>e=.normal∧Post d st G w Q a' w') idx a w

theorem Im {F:Fence} {n:Nat} {o:Oper} {a:Act} {w:World} {K K':Act→World→Prop} {Q:Exit→Act→World→Prop} (h:∀a w,K a w→K' a w)
  (hh:o.wpIn F n P a w K Q):o.wpIn F n P a w K' Q:=by
 unfold Oper.wpIn at *
 refine ⟨hh.1,?_⟩
 have hh:=hh.2
 generalize (o.semAt F.round a.eval).run P w=r at *
 cases r with
 | ok x w' =>
  cases x<;>simp only [Oper.uponIn] at hh ⊢ <;>
   first
    | exact h _ _ hh
    | exact ⟨hh.1,CallsIn.mono hh.2 (fun e w'' he=>by cases e<;>first|exact h _ _ he|exact he)⟩
    | exact ⟨hh.1,RowsIn.mono hh.2 (fun _ _ he=>h _ _ he)⟩
    | exact ⟨hh.1,RoundIn.mono hh.2 (fun e w'' he=>by cases e<;>first|exact h _ _ he|exact he)⟩
 | halt x w'=>cases x<;>simp only [Oper.uponIn] at hh ⊢<;>exact hh

theorem ARun.nil {st:St} {Q:St→Prop} (h:Q st):ARun P d ops [] st Q:=by
 intro G a w hr idx hidx
 cases idx with
 | nil=>exact ⟨rfl,G,st,hr,Er d G w,rfl,rfl,rfl,h⟩
 | cons i r=>simp at hidx

theorem Cq {F:Fence} {Q Q':Exit→Act→World→Prop} (h:∀e a w,Q e a w→Q' e a w):∀(idx:List Nat) (a:Act) (w:World),wpOpsIn F 0 P ops Q idx a w→wpOpsIn F 0 P ops Q' idx a w
 | [],a,w,hh=>h _ _ _ hh
 | i::rest,a,w,hh=>by
  simp only [wpOpsIn] at hh ⊢
  cases ho:ops[i]? with
  | none=>simp only [ho] at hh ⊢;exact Cq h rest a w hh
  | some o =>
   simp only [ho] at hh ⊢
   split
   ·rename_i hw
    simp only [hw,if_true] at hh
    refine ⟨hh.1,?_⟩
    have hh:=hh.2
    generalize (o.semAt F.round a.eval).run P w=r at *
    cases r with
    | ok x w' =>
     cases x<;>simp only [Oper.uponIn] at hh ⊢ <;>
      first
       | exact Cq h rest _ _ hh
       | exact ⟨hh.1,CallsIn.mono hh.2 (fun e w'' he=>by
         cases e<;>first|exact Cq h rest _ _ he|exact h _ _ _ he|(obtain ⟨a,w,he⟩:=he;exact ⟨a,w,h _ _ _ he⟩))⟩
       | exact ⟨hh.1,RowsIn.mono hh.2 (fun _ _ he=>Cq h rest _ _ he)⟩
       | exact ⟨hh.1,RoundIn.mono hh.2 (fun e w'' he=>by
         cases e<;>first|exact Cq h rest _ _ he|exact h _ _ _ he|(obtain ⟨a,w,he⟩:=he;exact ⟨a,w,h _ _ _ he⟩))⟩
    | halt x w'=>cases x<;>simp only [Oper.uponIn] at hh ⊢<;>first|exact hh|exact h _ _ _ hh
   rename_i hw
   simp only [hw] at hh
   exact ⟨hh.1,Cq h rest _ _ hh.2⟩

/-- An operation without a guard, then the rest. -/
theorem ARun.op {o:Oper} {rest:List Oper} {st:St} {Q Q1:St→Prop} (hg:o.guard=none) (h:AOp P d o st Q1) (hr:∀s,Q1 s→ARun P d ops rest s Q):ARun P d ops (o::rest) st Q:=by
 intro G a w hrel idx hidx
 cases idx with
 | nil=>simp at hidx
 | cons i r =>
  simp only [Cl,S9] at hidx
  simp only [wpOpsIn,hidx.1]
  have hw:Region.wanted o (yielded ops a.tmps)=true:=by simp [Region.wanted,hg]
  rw [if_pos hw]
  refine Im ?_ (h G a w hrel _)
  rintro a1 w1 ⟨G1,s1,h1,k1,e1,e2,e3,hk⟩
  have:=hr s1 hk G1 a1 w1 h1 r hidx.2
  rw [Eg h1 (Er d _ _) rfl,Eg hrel k1 e2] at this
  exact Cq (fun e a' w' hp=>⟨hp.1,hp.2.next k1 e1 e2 e3⟩) r a1 w1 this

/-- What a guard asks: the value that operation j has yielded. -/
theorem Ra {o:Oper} {j:Nat} {want b:Bool} {oj:Oper} {s:Nat} {G:Gh} {st:St} {a:Act} {w:World} (hrel:StRel d G st a w) (hg:o.guard=some (j,want)) (hj:ops[j]? = some oj) (hd:oj.dst=some s)
  (hs:st.fr s=.v (.bool b)):Region.wanted o (yielded ops a.tmps)=(b==want):=by
 have hv:a.tmps.getD s undef=.bool b:=J1 (hs ▸ hrel.slots s)
 have hy:yielded ops a.tmps j=some b:=by
  simp only [yielded,hj,Option.bind_some,hd]
  rw [Hm] at hv
  cases hx:a.tmps[s]? with
  | none=>rw [hx] at hv;simp [undef] at hv
  | some u=>rw [hx] at hv;simp only [Option.getD_some] at hv;subst hv;rfl
 simp only [Region.wanted,hg,hy]
 cases b<;>cases want<;>rfl

theorem AOp.ofV {o:Oper} {st:St} {y:AV} {s:Nat} (hd:o.dst=some s) (hs:s<st.sz) (h:OpV P d o st y):AOp P d o st (·=st.set s y):=by
 intro G a w hrel Q'
 refine Im ?_ (h G a w hrel Q')
 rintro a1 w1 ⟨G1,v,rfl,h1,k1,hv⟩
 rw [hd]
 exact ⟨G1,st.set s y,h1.put hs hv.lift,k1,rfl,rfl,rfl,rfl⟩

theorem ARun.v {o:Oper} {rest:List Oper} {st:St} {Q:St→Prop} {y:AV} {s:Nat} (hg:o.guard=none) (hd:o.dst=some s) (hs:s<st.sz) (h:OpV P d o st y) (hr:ARun P d ops rest (st.set s y) Q):
  ARun P d ops (o::rest) st Q:=ARun.op hg (AOp.ofV hd hs h) (fun _ e=>e ▸ hr)
theorem Zn (l:List Oper):(List.range l.toArray.size).map (fun i=>l.toArray[i]?)=l.map some:=by
 apply Ih
 intro i
 simp only [C4]
 by_cases h:i<l.length
 ·simp [h]
 have h1:(List.range l.toArray.size)[i]? = none:=by simp;omega
 have h2:l[i]? = none:=by simp;omega
 rw [h1,h2];rfl

theorem AW.region {id:Nat} {l:List Oper} {st:St} {K:Exit→St→Prop} (h:ARun P d l.toArray l st (K .normal)):AW P d (.region id l.toArray false) st K:=by
 intro G a w hrel
 refine wpIn_region (Cq ?_ _ _ _ (h G a w hrel _ (Zn l)))
 rintro e a' w' ⟨rfl,hp⟩
 exact hp

/-! ### Operations that compute -/

theorem Ce {o:Oper} {a:Act} {w w':World} {K:Act→World→Prop} {Q:Exit→Act→World→Prop} {r:Option Nat} {v:Value} (hd:∀c,o.op≠.defer c)
  (h:(execOp a.eval o).run P w=.ok (.value v) w') (hk:K (a.put o.dst v) w'):o.wpIn (Fr r) 0 P a w K Q:=by
 refine ⟨fun _ _=>trivial,?_⟩
 rw [Oper.semAt_eq _ _ _ hd,h]
 exact hk
theorem Eh {o:Oper} {a:Act} {w w':World} {K:Act→World→Prop} {Q:Exit→Act→World→Prop} {r:Option Nat} (hd:∀c,o.op≠.defer c)
  (h:(execOp a.eval o).run P w=.ok .skip w') (hk:K (a.put o.dst undef) w'):o.wpIn (Fr r) 0 P a w K Q:=by
 refine ⟨fun _ _=>trivial,?_⟩
 rw [Oper.semAt_eq _ _ _ hd,h]
 exact hk

/-- An operation that only looks. -/
theorem OpV.pure {o:Oper} {st:St} {y:AV} (hd:∀c,o.op≠.defer c)
  (h:∀(G:Gh) (a:Act) (w:World),StRel d G st a w→∃v,(execOp a.eval o).run P w=.ok (.value v) w∧Rep G w none y v):OpV P d o st y:=by
 intro G a w hrel Q'
 obtain ⟨v,hv,hy⟩:=h G a w hrel
 exact Ce hd hv ⟨G,v,rfl,hrel,Er d G w,hy⟩

section
variable {st:St} {dst:Option Tmp} {ty:TypeId} {pos:String} {aft:Array Edge} {gd:Option (Nat×Bool)}

theorem Bo {G:Gh} {a:Act} {w:World} {x:Operand} {u:Value} (h:StRel d G st a w) (hx:st.ev x=.v u):a.eval x=u:=J1 (hx ▸ h.eval x)

theorem OpV.move {x:Operand} {y:AV} (hx:st.ev x=y):OpV P d ⟨dst,.move x,ty,pos,aft,gd⟩ st y:=
 OpV.pure (by intro c h;cases h) fun _ a w h=>⟨a.eval x,by simp [execOp],hx ▸ h.eval x⟩
theorem OpV.assign {x:Operand} {y:AV} (hx:st.ev x=y):OpV P d ⟨dst,.assign x,ty,pos,aft,gd⟩ st y:=
 OpV.pure (by intro c h;cases h) fun _ a w h=>⟨a.eval x,by simp [execOp],hx ▸ h.eval x⟩
theorem OpV.pickT {c x y:Operand} {z:AV} (hc:st.ev c=.v (.bool true)) (hx:st.ev x=z):OpV P d ⟨dst,.pick c x y,ty,pos,aft,gd⟩ st z:=
 OpV.pure (by intro c h;cases h) fun _ a w h=>⟨a.eval x,by simp [execOp,Bo h hc,asBool],hx ▸ h.eval x⟩
theorem OpV.pickF {c x y:Operand} {z:AV} (hc:st.ev c=.v (.bool false)) (hy:st.ev y=z):OpV P d ⟨dst,.pick c x y,ty,pos,aft,gd⟩ st z:=
 OpV.pure (by intro c h;cases h) fun _ a w h=>⟨a.eval y,by simp [execOp,Bo h hc,asBool],hy ▸ h.eval y⟩
theorem OpV.not {t:TypeId} {x:Operand} {b:Bool} (hx:st.ev x=.v (.bool b)):OpV P d ⟨dst,.unOp .not t x,ty,pos,aft,gd⟩ st (.v (.bool (!b))):=
 OpV.pure (by intro c h;cases h) fun _ a w h=>⟨.bool (!b),by simp [execOp,Bo h hx,Op.unary],.v _ _⟩
theorem OpV.add {t u:TypeId} {x y:Operand} {k:IntKind} {m n:Int} (hx:st.ev x=.v (.int k m)) (hy:st.ev y=.v (.int k n)):OpV P d ⟨dst,.binOp .add t x y u,ty,pos,aft,gd⟩ st (.v (.int k (k.wrap (m+n)))):=
 OpV.pure (by intro c h;cases h) fun _ a w h=>⟨_,by simp [execOp,Bo h hx,Bo h hy,eqGuard,binOp,Op.intArith],.v _ _⟩
theorem OpV.sub {t u:TypeId} {x y:Operand} {k:IntKind} {m n:Int} (hx:st.ev x=.v (.int k m)) (hy:st.ev y=.v (.int k n)):OpV P d ⟨dst,.binOp .sub t x y u,ty,pos,aft,gd⟩ st (.v (.int k (k.wrap (m-n)))):=
 OpV.pure (by intro c h;cases h) fun _ a w h=>⟨_,by simp [execOp,Bo h hx,Bo h hy,eqGuard,binOp,Op.intArith],.v _ _⟩
theorem OpV.mul {t u:TypeId} {x y:Operand} {k:IntKind} {m n:Int} (hx:st.ev x=.v (.int k m)) (hy:st.ev y=.v (.int k n)):OpV P d ⟨dst,.binOp .mul t x y u,ty,pos,aft,gd⟩ st (.v (.int k (k.wrap (m*n)))):=
 OpV.pure (by intro c h;cases h) fun _ a w h=>⟨_,by simp [execOp,Bo h hx,Bo h hy,eqGuard,binOp,Op.intArith],.v _ _⟩
theorem OpV.lss {t u:TypeId} {x y:Operand} {k:IntKind} {m n:Int} (hx:st.ev x=.v (.int k m)) (hy:st.ev y=.v (.int k n)):OpV P d ⟨dst,.binOp .lss t x y u,ty,pos,aft,gd⟩ st (.v (.bool (decide (m<n)))):=
 OpV.pure (by intro c h;cases h) fun _ a w h=>⟨_,by simp [execOp,Bo h hx,Bo h hy,eqGuard,binOp,Op.intCmp],.v _ _⟩
theorem OpV.leq {t u:TypeId} {x y:Operand} {k:IntKind} {m n:Int} (hx:st.ev x=.v (.int k m)) (hy:st.ev y=.v (.int k n)):OpV P d ⟨dst,.binOp .leq t x y u,ty,pos,aft,gd⟩ st (.v (.bool (decide (m≤n)))):=
 OpV.pure (by intro c h;cases h) fun _ a w h=>⟨_,by simp [execOp,Bo h hx,Bo h hy,eqGuard,binOp,Op.intCmp],.v _ _⟩
theorem OpV.gtr {t u:TypeId} {x y:Operand} {k:IntKind} {m n:Int} (hx:st.ev x=.v (.int k m)) (hy:st.ev y=.v (.int k n)):OpV P d ⟨dst,.binOp .gtr t x y u,ty,pos,aft,gd⟩ st (.v (.bool (decide (n<m)))):=
 OpV.pure (by intro c h;cases h) fun _ a w h=>⟨_,by simp [execOp,Bo h hx,Bo h hy,eqGuard,binOp,Op.intCmp],.v _ _⟩
theorem OpV.geq {t u:TypeId} {x y:Operand} {k:IntKind} {m n:Int} (hx:st.ev x=.v (.int k m)) (hy:st.ev y=.v (.int k n)):OpV P d ⟨dst,.binOp .geq t x y u,ty,pos,aft,gd⟩ st (.v (.bool (decide (n≤m)))):=
 OpV.pure (by intro c h;cases h) fun _ a w h=>⟨_,by simp [execOp,Bo h hx,Bo h hy,eqGuard,binOp,Op.intCmp],.v _ _⟩
theorem OpV.eql {t u:TypeId} {x y:Operand} {k:IntKind} {m n:Int} (hx:st.ev x=.v (.int k m)) (hy:st.ev y=.v (.int k n)):OpV P d ⟨dst,.binOp .eql t x y u,ty,pos,aft,gd⟩ st (.v (.bool (m==n))):=
 OpV.pure (by intro c h;cases h) fun _ a w h=>⟨_,by simp [execOp,Bo h hx,Bo h hy,eqGuard,binOp,Op.intCmp],.v _ _⟩
theorem OpV.neq {t u:TypeId} {x y:Operand} {k:IntKind} {m n:Int} (hx:st.ev x=.v (.int k m)) (hy:st.ev y=.v (.int k n)):OpV P d ⟨dst,.binOp .neq t x y u,ty,pos,aft,gd⟩ st (.v (.bool (m != n))):=
 OpV.pure (by intro c h;cases h) fun _ a w h=>⟨_,by simp [execOp,Bo h hx,Bo h hy,eqGuard,binOp,Op.intCmp],.v _ _⟩
end
end
end Go.SX
namespace Go.SX
def db:=@ARun.op
def Jb:=@AW.region
def Be:=@OpV.pure
end Go.SX
namespace Go.SX
variable [GI:GlobInv]

/-- A string, as the list of its bytes. -/
abbrev sv (l:List UInt8):Value:=.string ⟨l.toArray⟩

theorem Zo (a b:List UInt8):(⟨a.toArray⟩++⟨b.toArray⟩:ByteArray)=⟨(a++b).toArray⟩:=by
 apply ByteArray.ext
 simp [ByteArray.data_append]
theorem F5 (a:List UInt8):(⟨a.toArray⟩:ByteArray).size=a.length:=by simp [ByteArray.size]
theorem Gi (a:List UInt8) (l h:Nat):(⟨a.toArray⟩:ByteArray).extract l h=⟨((a.take h).drop l).toArray⟩:=by
 apply ByteArray.ext
 simp [List.extract_eq_take_drop,List.drop_take]

section
variable {P:Program} {d:Nat}
variable {st:St} {dst:Option Tmp} {ty:TypeId} {pos:String} {aft:Array Edge} {gd:Option (Nat×Bool)}

theorem OpV.quo {t u:TypeId} {x y:Operand} {k:IntKind} {m n:Int} (hx:st.ev x=.v (.int k m)) (hy:st.ev y=.v (.int k n)) (h0:n≠0):OpV P d ⟨dst,.binOp .quo t x y u,ty,pos,aft,gd⟩ st (.v (.int k (k.wrap (m.tdiv n)))):=
 Be (by intro c h;cases h) fun _ a w h=>⟨_,by simp [execOp,Bo h hx,Bo h hy,eqGuard,binOp,Op.intDiv,h0],.v _ _⟩
theorem OpV.rem {t u:TypeId} {x y:Operand} {k:IntKind} {m n:Int} (hx:st.ev x=.v (.int k m)) (hy:st.ev y=.v (.int k n)) (h0:n≠0):OpV P d ⟨dst,.binOp .rem t x y u,ty,pos,aft,gd⟩ st (.v (.int k (m.tmod n))):=
 Be (by intro c h;cases h) fun _ a w h=>⟨_,by simp [execOp,Bo h hx,Bo h hy,eqGuard,binOp,Op.intDiv,h0],.v _ _⟩
theorem OpV.neg {t:TypeId} {x:Operand} {k:IntKind} {n:Int} (hx:st.ev x=.v (.int k n)):OpV P d ⟨dst,.unOp .neg t x,ty,pos,aft,gd⟩ st (.v (.int k (k.wrap (0-n)))):=
 Be (by intro c h;cases h) fun _ a w h=>⟨_,by simp [execOp,Bo h hx,Op.unary,Op.intArith],.v _ _⟩
theorem Jc {t:TypeId} (ht:P.underlying t=some .bool) (m n:Bool) (w:World):(Op.equal t (.bool m) (.bool n)).run P w=.ok (m==n) w:=by
 have h:∀k:Nat,(Op.equalIn (k+1) t (.bool m) (.bool n)).run P w=.ok (m==n) w:=fun k=>by simp [Op.equalIn,run_underlying ht]
 exact h 9999
theorem OpV.beql {t u:TypeId} {x y:Operand} {m n:Bool} (ht:P.underlying t=some .bool) (hx:st.ev x=.v (.bool m)) (hy:st.ev y=.v (.bool n)):OpV P d ⟨dst,.binOp .eql t x y u,ty,pos,aft,gd⟩ st (.v (.bool (m==n))):=
 Be (by intro c h;cases h) fun _ a w h=>⟨.bool (m==n),by
  have h1:=Jc ht m n w
  simp only [execOp,Bo h hx,Bo h hy,eqGuard,binOp]
  simp [h1],.v _ _⟩
theorem OpV.bneq {t u:TypeId} {x y:Operand} {m n:Bool} (ht:P.underlying t=some .bool) (hx:st.ev x=.v (.bool m)) (hy:st.ev y=.v (.bool n)):OpV P d ⟨dst,.binOp .neq t x y u,ty,pos,aft,gd⟩ st (.v (.bool (!(m==n)))):=
 Be (by intro c h;cases h) fun _ a w h=>⟨.bool (!(m==n)),by
  have h1:=Jc ht m n w
  simp only [execOp,Bo h hx,Bo h hy,eqGuard,binOp]
  simp [h1],.v _ _⟩

theorem OpV.sadd {t u:TypeId} {x y:Operand} {m n:List UInt8} (hx:st.ev x=.v (sv m)) (hy:st.ev y=.v (sv n)) (hl:m.length+n.length≤9223372036854775807):
  OpV P d ⟨dst,.binOp .add t x y u,ty,pos,aft,gd⟩ st (.v (sv (m++n))):=
 Be (by intro c h;cases h) fun _ a w h=>⟨sv (m++n),by
  have h1:¬(((m.length+n.length:Nat):Int)>IntKind.i64.max):=by
   have:IntKind.i64.max=9223372036854775807:=rfl
   rw [this];omega
  simp only [execOp,Bo h hx,Bo h hy,eqGuard,binOp,Op.stringOp,F5]
  rw [if_neg h1,Zo]
  simp,.v _ _⟩
theorem OpV.seql {t u:TypeId} {x y:Operand} {m n:List UInt8} (hx:st.ev x=.v (sv m)) (hy:st.ev y=.v (sv n)):OpV P d ⟨dst,.binOp .eql t x y u,ty,pos,aft,gd⟩ st (.v (.bool (m==n))):=
 Be (by intro c h;cases h) fun _ a w h=>⟨_,by simp [execOp,Bo h hx,Bo h hy,eqGuard,binOp,Op.stringOp],.v _ _⟩
theorem OpV.sneq {t u:TypeId} {x y:Operand} {m n:List UInt8} (hx:st.ev x=.v (sv m)) (hy:st.ev y=.v (sv n)):OpV P d ⟨dst,.binOp .neq t x y u,ty,pos,aft,gd⟩ st (.v (.bool (!(m==n)))):=
 Be (by intro c h;cases h) fun _ a w h=>⟨_,by simp [execOp,Bo h hx,Bo h hy,eqGuard,binOp,Op.stringOp],.v _ _⟩
theorem OpV.slss {t u:TypeId} {x y:Operand} {m n:List UInt8} (hx:st.ev x=.v (sv m)) (hy:st.ev y=.v (sv n)):OpV P d ⟨dst,.binOp .lss t x y u,ty,pos,aft,gd⟩ st (.v (.bool (Op.bytesLess m n))):=
 Be (by intro c h;cases h) fun _ a w h=>⟨_,by simp [execOp,Bo h hx,Bo h hy,eqGuard,binOp,Op.stringOp],.v _ _⟩
theorem OpV.sgtr {t u:TypeId} {x y:Operand} {m n:List UInt8} (hx:st.ev x=.v (sv m)) (hy:st.ev y=.v (sv n)):OpV P d ⟨dst,.binOp .gtr t x y u,ty,pos,aft,gd⟩ st (.v (.bool (!(Op.bytesLess m n || m==n)))):=
 Be (by intro c h;cases h) fun _ a w h=>⟨_,by simp [execOp,Bo h hx,Bo h hy,eqGuard,binOp,Op.stringOp],.v _ _⟩
theorem OpV.sleq {t u:TypeId} {x y:Operand} {m n:List UInt8} (hx:st.ev x=.v (sv m)) (hy:st.ev y=.v (sv n)):OpV P d ⟨dst,.binOp .leq t x y u,ty,pos,aft,gd⟩ st (.v (.bool (Op.bytesLess m n || m==n))):=
 Be (by intro c h;cases h) fun _ a w h=>⟨_,by simp [execOp,Bo h hx,Bo h hy,eqGuard,binOp,Op.stringOp],.v _ _⟩
theorem OpV.sgeq {t u:TypeId} {x y:Operand} {m n:List UInt8} (hx:st.ev x=.v (sv m)) (hy:st.ev y=.v (sv n)):OpV P d ⟨dst,.binOp .geq t x y u,ty,pos,aft,gd⟩ st (.v (.bool (!(Op.bytesLess m n)))):=
 Be (by intro c h;cases h) fun _ a w h=>⟨_,by simp [execOp,Bo h hx,Bo h hy,eqGuard,binOp,Op.stringOp],.v _ _⟩

/-- len of a string. -/
theorem OpV.slen {t:TypeId} {x:Operand} {l:List UInt8} (ht:P.underlying t=some .string) (hx:st.ev x=.v (sv l)):
  OpV P d ⟨dst,.call ⟨.builtin .len,#[x],#[t]⟩,ty,pos,aft,gd⟩ st (.v (.int .i64 l.length)):=
 Be (by intro c h;cases h) fun _ a w h=>⟨_,by simp [execOp,resolve,invoke,builtin,Builtin.len_,Bo h hx,run_underlying ht,goInt,F5],.v _ _⟩

/-- A byte of a string. -/
theorem OpV.sindex {t:TypeId} {x i:Operand} {l:List UInt8} {k:IntKind} {n:Nat} {b:UInt8} (ht:P.underlying t=some .string) (hx:st.ev x=.v (sv l)) (hi:st.ev i=.v (.int k (n:Int))) (hb:l[n]? = some b):
  OpV P d ⟨dst,.index t x i,ty,pos,aft,gd⟩ st (.v (.int .u8 b.toNat)):=
 Be (by intro c h;cases h) fun _ a w h=>⟨.int .u8 b.toNat,by
  have hb':(⟨l.toArray⟩:ByteArray)[n]? = some b:=by
   obtain ⟨hlt,e⟩:=Ac.1 hb
   have:n<(⟨l.toArray⟩:ByteArray).size:=by rw [F5];exact hlt
   rw [getElem?_pos (⟨l.toArray⟩:ByteArray) n this]
   rw [←e]
   rfl
  simp [execOp,Instr.index,asIntOf,Bo h hx,Bo h hi,run_underlying ht,hb'],.v _ _⟩

/-- A part of a string. -/
theorem OpV.scut {t:TypeId} {x:Operand} {lo hi:Option Operand} {l:List UInt8} {kl kh:IntKind} {m n:Nat} (ht:P.underlying t=some .string) (hx:st.ev x=.v (sv l))
  (hlo:match lo with|some y=>st.ev y=.v (.int kl (m:Int))|none=>m=0) (hhi:match hi with|some y=>st.ev y=.v (.int kh (n:Int))|none=>n=l.length) (hm:m≤n) (hn:n≤l.length):
  OpV P d ⟨dst,.slice t x lo hi none,ty,pos,aft,gd⟩ st (.v (sv ((l.take n).drop m))):=
 Be (by intro c h;cases h) fun _ a w h=>⟨sv ((l.take n).drop m),by
  have hm':(m:Int)≤n:=by omega
  have hn':(n:Int)≤l.length:=by omega
  cases lo with
  | none =>
   subst hlo
   cases hi with
   | none =>
    subst hhi
    simp [execOp,Instr.sliceAt,Instr.slice,Instr.sliceBounds,Instr.sliceBound,asIntOf,Bo h hx,run_underlying ht,F5,Gi]
   | some y =>
    have e2:=Bo h hhi
    simp [execOp,Instr.sliceAt,Instr.slice,Instr.sliceBounds,Instr.sliceBound,asIntOf,Bo h hx,run_underlying ht,F5,Gi,e2,hn,hn']
  | some z =>
   have e1:=Bo h hlo
   cases hi with
   | none =>
    subst hhi
    simp [execOp,Instr.sliceAt,Instr.slice,Instr.sliceBounds,Instr.sliceBound,asIntOf,Bo h hx,run_underlying ht,F5,Gi,e1,hm,hm']
   | some y =>
    have e2:=Bo h hhi
    simp [execOp,Instr.sliceAt,Instr.slice,Instr.sliceBounds,Instr.sliceBound,asIntOf,Bo h hx,run_underlying ht,F5,Gi,e1,e2,hn,hn',hm,hm'],.v _ _⟩

/-- A conversion between integer kinds. -/
theorem OpV.iconv {s t:TypeId} {x:Operand} {k k':IntKind} {n:Int} (hs:P.underlying s=some (.int k)) (ht:P.underlying t=some (.int k')) (hx:st.ev x=.v (.int k n)):
  OpV P d ⟨dst,.convert s t x,ty,pos,aft,gd⟩ st (.v (.int k' (k'.wrap n))):=
 Be (by intro c h;cases h) fun _ a w h=>⟨_,by simp [execOp,convert,Bo h hx,run_underlying hs,run_underlying ht,Conv.intToInt],.v _ _⟩

/-- A part of what a call has handed back. -/
theorem OpV.extract {x:Operand} {i:Nat} {ys:List AV} {y:AV} (hx:st.ev x=.tup ys) (hi:ys[i]? = some y):OpV P d ⟨dst,.extract x i,ty,pos,aft,gd⟩ st y:=
 Be (by intro c h;cases h) fun G a w h=>by
  have hr:=h.eval x
  rw [hx] at hr
  generalize hu:a.eval x=u at hr
  cases hr with
  | tup l cs vs hn hc =>
   have hlt:i<vs.size:=by rw [hn];exact (Ac.1 hi).1
   exact ⟨vs[i],by simp [execOp,Instr.extract,hu,hlt],hc i y vs[i] hi (Cz hlt)⟩
end
end Go.SX
namespace Go.SX
variable [GI:GlobInv]

theorem Bu {a:Addr} (h:a.spot=none) (n:Nat):a.add n=⟨a.block,a.off+n,none⟩:=by
 unfold Addr.add
 split
 ·subst_vars;cases a;simp_all
 rfl

section
variable {P:Program} {d:Nat}
variable {st:St} {dst:Option Tmp} {ty:TypeId} {pos:String} {aft:Array Edge} {gd:Option (Nat×Bool)}

theorem Gn {u:Value} (h:u.oneCell'=true):u.cells=#[u]:=by
 cases u<;>first|rfl|simp [Value.oneCell'] at h
/-- What the word AV.cells says of a value in memory. -/
theorem Rep.cells {G:Gh} {w:World} {x:AV} {u:Value} (h:Rep G w none x u) (h1:∀y∈x.cells,y.one=true):
  u.cells.size=x.cells.length∧∀(i:Nat) (y:AV) (z:Value),x.cells[i]? = some y→u.cells[i]? = some z→Rep G w none y z:=by
 by_cases hx:∃cs,x=.agg cs
 ·obtain ⟨cs,rfl⟩:=hx
  cases h with
  | agg _ cs vs hn _ hh=>exact ⟨hn,hh⟩
 have hc:x.cells=[x]:=by cases x<;>first|rfl|exact absurd ⟨_,rfl⟩ hx
 have hone:=h1 x (by rw [hc];simp)
 rw [hc,Gn (h.one hone)]
 refine ⟨rfl,fun i y z e1 e2=>?_⟩
 cases i with
 | zero=>simp at e1 e2;subst e1;subst e2;exact h
 | succ i=>simp at e1

/-- A pointer that is not nil passes. -/
theorem OpV.nilCheckRo {x:Operand} {cs:List AV} (hx:st.ev x=.ro cs):OpV P d ⟨dst,.nilCheck x,ty,pos,aft,gd⟩ st (.ro cs):=
 Be (by intro c h;cases h) fun G a w h=>by
  have hr:=hx ▸ h.eval x
  generalize hu:a.eval x=u at hr
  cases hr with
  | ro l cs ad f hs h1 hf hh=>exact ⟨_,by simp [execOp,hu],.ro _ cs ad f hs h1 hf hh⟩
theorem OpV.nilCheckPtr {x:Operand} {o off:Nat} (hx:st.ev x=.ptr o off):OpV P d ⟨dst,.nilCheck x,ty,pos,aft,gd⟩ st (.ptr o off):=
 Be (by intro c h;cases h) fun G a w h=>by
  have hr:=hx ▸ h.eval x
  generalize hu:a.eval x=u at hr
  cases hr with
  | ptr l o off ho=>exact ⟨_,by simp [execOp,hu],.ptr _ o off ho⟩

theorem Jd {s:TypeId} {fs:Array Field} {i k:Nat} {f:Field} (hu:P.underlying s=some (.struct fs)) (hf:fs[i]? = some f) (hsz:∀w,(sizeOf f.type).run P w=.ok k w) (hk:k≠0) (a:Addr) (w:World):
  (Instr.fieldAt s (.pointer (some a)) i).run P w=.ok (.pointer (some (a.add f.offset))) w:=by
 simp [Instr.fieldAt,run_underlying hu,hf,Instr.sureAddr,fieldPlace,hsz,hk]

theorem OpV.fieldAddrRo {s:TypeId} {x:Operand} {i k:Nat} {fs:Array Field} {f:Field} {cs:List AV} (hu:P.underlying s=some (.struct fs)) (hf:fs[i]? = some f) (hsz:∀w,(sizeOf f.type).run P w=.ok k w) (hk:k≠0)
  (hx:st.ev x=.ro cs):OpV P d ⟨dst,.fieldAddr s x i,ty,pos,aft,gd⟩ st (.ro (cs.drop f.offset)):=
 Be (by intro c h;cases h) fun G a w h=>by
  have hr:=hx ▸ h.eval x
  generalize hv:a.eval x=u at hr
  cases hr with
  | ro l cs ad g hs h1 hg hh =>
   refine ⟨.pointer (some (ad.add f.offset)),by simp [execOp,hv,Jd hu hf hsz hk],?_⟩
   rw [Bu hs]
   refine .ro _ _ ⟨ad.block,ad.off+f.offset,none⟩ (fun j=>g (f.offset+j)) rfl (fun y hy=>h1 y (Li hy)) (fun j y hj=>?_) (fun j y hj=>?_)
   ·rw [Dl] at hj
    have:=hg _ y hj
    rw [show ad.off+(f.offset+j)=ad.off+f.offset+j by omega] at this
    exact this
   rw [Dl] at hj
   exact hh _ y hj
theorem OpV.fieldAddrPtr {s:TypeId} {x:Operand} {i k o off:Nat} {fs:Array Field} {f:Field} (hu:P.underlying s=some (.struct fs)) (hf:fs[i]? = some f) (hsz:∀w,(sizeOf f.type).run P w=.ok k w) (hk:k≠0)
  (hx:st.ev x=.ptr o off):OpV P d ⟨dst,.fieldAddr s x i,ty,pos,aft,gd⟩ st (.ptr o (off+f.offset)):=
 Be (by intro c h;cases h) fun G a w h=>by
  have hr:=hx ▸ h.eval x
  generalize hv:a.eval x=u at hr
  cases hr with
  | ptr l o off ho =>
   refine ⟨.pointer (some ((⟨G.blk o,off,none⟩:Addr).add f.offset)),by simp [execOp,hv,Jd hu hf hsz hk],?_⟩
   rw [Bu rfl]
   exact .ptr _ o _ ho

/-- The address of an element. -/
theorem OpV.indexAddr {t e:TypeId} {x i:Operand} {own:Bool} {k n:Nat} {q:IntKind} {xs:List AV} {y:AV} (hu:P.underlying t=some (.slice e)) (hsz:∀w,(sizeOf e).run P w=.ok k w)
  (hx:st.ev x=.slice own k xs) (hi:st.ev i=.v (.int q (n:Int))) (hy:xs[n]? = some y):OpV P d ⟨dst,.indexAddr t x i,ty,pos,aft,gd⟩ st (.ro y.cells):=
 Be (by intro c h;cases h) fun G a w h=>by
  have hr:=hx ▸ h.eval x
  have hi':=Bo h hi
  generalize hv:a.eval x=u at hr
  cases hr with
  | slice0 l own k=>simp at hy
  | sliceE l k ad c=>simp at hy
  | slice l own k xs ad m c f hs hn hc hk h1 hf hh ho =>
   have hlt:n<m:=by rw [hn];exact (Ac.1 hy).1
   have hlt':(n:Int)<m:=by omega
   refine ⟨.pointer (some (ad.add (n*k))),by simp [execOp,Instr.indexAt,asIntOf,hi',hv,run_underlying hu,hlt,hlt',hsz],?_⟩
   rw [Bu hs]
   have hmem:y∈xs:=Ax hy
   exact .ro _ _ ⟨ad.block,ad.off+n*k,none⟩ (fun j=>f n j) rfl (h1 y hmem) (fun j z hz=>hf n y j z hy hz) (fun j z hz=>hh n y j z hy hz)

/-- How long a slice is. -/
theorem OpV.len {t e:TypeId} {x:Operand} {own:Bool} {k:Nat} {xs:List AV} (hu:P.underlying t=some (.slice e)) (hx:st.ev x=.slice own k xs):
  OpV P d ⟨dst,.call ⟨.builtin .len,#[x],#[t]⟩,ty,pos,aft,gd⟩ st (.v (.int .i64 xs.length)):=
 Be (by intro c h;cases h) fun G a w h=>by
  have hr:=hx ▸ h.eval x
  generalize hv:a.eval x=u at hr
  cases hr with
  | slice0 l own k=>exact ⟨.int .i64 0,by simp [execOp,resolve,invoke,builtin,Builtin.len_,hv,run_underlying hu,goInt],.v _ _⟩
  | sliceE l k ad c=>exact ⟨.int .i64 0,by simp [execOp,resolve,invoke,builtin,Builtin.len_,hv,run_underlying hu,goInt],.v _ _⟩
  | slice l own k xs ad m c f hs hn hc hk h1 hf hh ho=>exact ⟨.int .i64 m,by simp [execOp,resolve,invoke,builtin,Builtin.len_,hv,run_underlying hu,goInt],by rw [hn];exact .v _ _⟩
theorem OpV.lenNil {t e:TypeId} {x:Operand} (hu:P.underlying t=some (.slice e)) (hx:st.ev x=.nil):
  OpV P d ⟨dst,.call ⟨.builtin .len,#[x],#[t]⟩,ty,pos,aft,gd⟩ st (.v (.int .i64 0)):=
 Be (by intro c h;cases h) fun G a w h=>by
  have hr:=hx ▸ h.eval x
  generalize hv:a.eval x=u at hr
  cases hr with
  | nil=>exact ⟨.int .i64 0,by simp [execOp,resolve,invoke,builtin,Builtin.len_,hv,run_underlying hu,goInt],.v _ _⟩

/-- A part of a slice. -/
theorem OpV.cut {t e:TypeId} {x:Operand} {lo hi:Option Operand} {own:Bool} {k:Nat} {xs:List AV} {kl kh:IntKind} {m n:Nat} (hu:P.underlying t=some (.slice e)) (hsz:∀w,(sizeOf e).run P w=.ok k w)
  (hx:st.ev x=.slice own k xs)
  (hlo:match lo with|some y=>st.ev y=.v (.int kl (m:Int))|none=>m=0) (hhi:match hi with|some y=>st.ev y=.v (.int kh (n:Int))|none=>n=xs.length) (hm:m≤n) (hn:n≤xs.length):
  OpV P d ⟨dst,.slice t x lo hi none,ty,pos,aft,gd⟩ st (.slice false k ((xs.take n).drop m)):=
 Be (by intro c h;cases h) fun G a w h=>by
  have hr:=hx ▸ h.eval x
  generalize hv:a.eval x=u at hr
  have hm':(m:Int)≤n:=by omega
  cases hr with
  | slice0 l own k =>
   have hn0:n=0:=by simpa using hn
   subst hn0
   have hm0:m=0:=by omega
   subst hm0
   refine ⟨.slice none 0 0,?_,.slice0 _ _ _⟩
   cases lo with
   | none=>cases hi with
    | none=>simp [execOp,Instr.sliceAt,Instr.slice,Instr.sliceBounds,Instr.sliceBound,asIntOf,hv,run_underlying hu,hsz]
    | some y=>simp [execOp,Instr.sliceAt,Instr.slice,Instr.sliceBounds,Instr.sliceBound,asIntOf,hv,run_underlying hu,hsz,Bo h hhi]
   | some z=>cases hi with
    | none=>simp [execOp,Instr.sliceAt,Instr.slice,Instr.sliceBounds,Instr.sliceBound,asIntOf,hv,run_underlying hu,hsz,Bo h hlo]
    | some y=>simp [execOp,Instr.sliceAt,Instr.slice,Instr.sliceBounds,Instr.sliceBound,asIntOf,hv,run_underlying hu,hsz,Bo h hhi,Bo h hlo]
  | sliceE l k ad c =>
   have hn0:n=0:=by simpa using hn
   subst hn0
   have hm0:m=0:=by omega
   subst hm0
   have ha:ad.add 0=ad:=by simp [Addr.add]
   refine ⟨.slice (some ad) 0 c,?_,.sliceE _ _ _ _⟩
   cases lo with
   | none=>cases hi with
    | none=>simp [execOp,Instr.sliceAt,Instr.slice,Instr.sliceBounds,Instr.sliceBound,asIntOf,hv,run_underlying hu,hsz,ha]
    | some y=>simp [execOp,Instr.sliceAt,Instr.slice,Instr.sliceBounds,Instr.sliceBound,asIntOf,hv,run_underlying hu,hsz,Bo h hhi,ha]
   | some z=>cases hi with
    | none=>simp [execOp,Instr.sliceAt,Instr.slice,Instr.sliceBounds,Instr.sliceBound,asIntOf,hv,run_underlying hu,hsz,Bo h hlo,ha]
    | some y=>simp [execOp,Instr.sliceAt,Instr.slice,Instr.sliceBounds,Instr.sliceBound,asIntOf,hv,run_underlying hu,hsz,Bo h hhi,Bo h hlo,ha]
  | slice l own k xs ad q c f hs hq hc hk h1 hf hh ho =>
   have hnc:n≤c:=by omega
   have hnc':(n:Int)≤c:=by omega
   have hmc:m≤c:=by omega
   refine ⟨.slice (some (if c=m then ad else ad.add (m*k))) (n-m) (c-m),?_,?_⟩
   ·have hq':n=q∨True:=.inr trivial
    cases lo with
    | none =>
     subst hlo
     cases hi with
     | none=>subst hhi;simp [execOp,Instr.sliceAt,Instr.slice,Instr.sliceBounds,Instr.sliceBound,asIntOf,hv,run_underlying hu,hsz,hq];split<;>simp_all
     | some y=>simp [execOp,Instr.sliceAt,Instr.slice,Instr.sliceBounds,Instr.sliceBound,asIntOf,hv,run_underlying hu,hsz,Bo h hhi,hnc,hnc'];split<;>simp_all
    | some z =>
     have e1:=Bo h hlo
     cases hi with
     | none=>subst hhi;rw [←hq] at hm hm';simp [execOp,Instr.sliceAt,Instr.slice,Instr.sliceBounds,Instr.sliceBound,asIntOf,hv,run_underlying hu,hsz,e1,hm,hm',←hq];split<;>simp_all
     | some y=>simp [execOp,Instr.sliceAt,Instr.slice,Instr.sliceBounds,Instr.sliceBound,asIntOf,hv,run_underlying hu,hsz,Bo h hhi,hnc,hnc',e1,hm,hm'];split<;>simp_all
   have hlen:n-m=((xs.take n).drop m).length:=by simp;omega
   have hget:∀(i:Nat) (x:AV),((xs.take n).drop m)[i]? = some x→xs[m+i]? = some x:=fun i x hx=>by
    rw [Dl,Eo] at hx
    split at hx
    ·exact hx
    cases hx
   have hmem:∀x∈(xs.take n).drop m,x∈xs:=fun x hx=>K4 (Li hx)
   by_cases hcm:c=m
   ·subst hcm
    have hemp:(xs.take n).drop c=[]:=Sd (by rw [←hlen];omega)
    rw [if_pos rfl]
    refine .slice _ false k _ ad _ _ (fun _ _=>undef) hs hlen (by omega) (fun x hx=>hk x (hmem x hx)) (fun x hx=>h1 x (hmem x hx)) (fun i x j y hx _=>?_) (fun i x j y hx _=>?_) (fun e=>by cases e)
    ·rw [hemp] at hx;simp at hx
    rw [hemp] at hx;simp at hx
   rw [if_neg hcm,Bu hs]
   refine .slice _ false k _ ⟨ad.block,ad.off+m*k,none⟩ _ _ (fun i j=>f (m+i) j) rfl hlen (by omega) (fun x hx=>hk x (hmem x hx)) (fun x hx=>h1 x (hmem x hx)) (fun i x j y hx hy=>?_) (fun i x j y hx hy=>?_) (fun e=>by cases e)
   ·have:=hf _ x j y (hget i x hx) hy
    have e:ad.off+(m+i)*k+j=ad.off+m*k+i*k+j:=by rw [Gg];omega
    rw [e] at this
    exact this
   exact hh _ x j y (hget i x hx) hy

/-! ### Loads -/

/-- A block's cell. -/
theorem Je {G:Gh} {w:World} {i:Nat} {t:TypeId} {cs:List AV} (h:ObjRel G w i (.cells t cs)) {j:Nat} {y:AV} (hy:cs[j]? = some y):
  ∃u,w.cell? ⟨G.blk i,j,none⟩=some u∧Rep G w (some (.cell i j)) y u:=by
 obtain ⟨vs,hb,hn,hr,_⟩:=h
 have hlt:j<vs.size:=by rw [hn];exact (Ac.1 hy).1
 refine ⟨vs[j],?_,hr j y vs[j] hy (Cz hlt)⟩
 simp [World.cell?,hb,hlt]

theorem OpV.loadRo {t:TypeId} {x:Operand} {y:AV} {cs:List AV} (hagg:∀w,(isAgg t).run P w=.ok false w) (hx:st.ev x=.ro (y::cs)):OpV P d ⟨dst,.load t x,ty,pos,aft,gd⟩ st y:=
 Be (by intro c h;cases h) fun G a w h=>by
  have hr:=hx ▸ h.eval x
  generalize hv:a.eval x=u at hr
  cases hr with
  | ro l cs ad f hs h1 hf hh =>
   have hc:w.cell? ad=some (f 0):=by
    have:=(hf 0 y rfl).2
    simp only [Nat.add_zero] at this
    rw [show ad=(⟨ad.block,ad.off,none⟩:Addr) by cases ad;simp_all]
    exact this
   exact ⟨f 0,by simp [execOp,Instr.loadAt,Instr.sureAddr,hv,loadVar,hagg,hc],hh 0 y rfl⟩

theorem Jf {t:TypeId} {k:Nat} {a:Addr} {vs:List Value} {w:World} (hagg:∀w,(isAgg t).run P w=.ok true w) (hsz:∀w,(sizeOf t).run P w=.ok k w) (hk:vs.length=k)
  (h:∀j v,vs[j]? = some v→w.cell? (a.add j)=some v):(loadVar t a).run P w=.ok (.agg vs.toArray) w:=by
 have:=run_loadCells_list (P:=P) w a vs h
 rw [hk] at this
 simp [loadVar,hagg,hsz,this]

theorem OpV.loadRoAgg {t:TypeId} {x:Operand} {k:Nat} {cs:List AV} (hagg:∀w,(isAgg t).run P w=.ok true w) (hsz:∀w,(sizeOf t).run P w=.ok k w) (hx:st.ev x=.ro cs) (hk:k≤cs.length):
  OpV P d ⟨dst,.load t x,ty,pos,aft,gd⟩ st (.agg (cs.take k)):=
 Be (by intro c h;cases h) fun G a w h=>by
  have hr:=hx ▸ h.eval x
  generalize hv:a.eval x=u at hr
  cases hr with
  | ro l cs ad f hs h1 hf hh =>
   let vs:List Value:=(List.range k).map f
   have hvs:∀j v,vs[j]? = some v→j<k∧v=f j:=fun j v hj=>by
    obtain ⟨hlt,e⟩:=Ac.1 hj
    have hlt':j<k:=by simpa [vs] using hlt
    exact ⟨hlt',by rw [←e];simp [vs]⟩
   refine ⟨.agg vs.toArray,?_,?_⟩
   ·have:=Jf (P:=P) (t:=t) (k:=k) (a:=ad) (vs:=vs) (w:=w) hagg hsz (by simp [vs]) (fun j v hj=>by
     obtain ⟨hlt,rfl⟩:=hvs j v hj
     rw [Bu hs]
     exact (hf j cs[j] (Ad (by omega))).2)
    simp [execOp,Instr.loadAt,Instr.sureAddr,hv,this]
   refine .agg _ _ _ (by simp [vs];omega) (fun y hy=>h1 y (K4 hy)) (fun i y u hy hu=>?_)
   simp only [Sg] at hu
   obtain ⟨hlt,rfl⟩:=hvs i u hu
   rw [Eo,if_pos hlt] at hy
   exact hh i y hy

theorem OpV.loadObj {t t':TypeId} {x:Operand} {o off:Nat} {cs:List AV} {y:AV} (hagg:∀w,(isAgg t).run P w=.ok false w) (hx:st.ev x=.ptr o off) (ho:(st.up++st.own)[o]? = some (.cells t' cs)) (hy:cs[off]? = some y):
  OpV P d ⟨dst,.load t x,ty,pos,aft,gd⟩ st y.strip:=
 Be (by intro c h;cases h) fun G a w h=>by
  have hr:=hx ▸ h.eval x
  generalize hv:a.eval x=u at hr
  cases hr with
  | ptr l o off hlt =>
   obtain ⟨u,hu,hrep⟩:=Je (h.heap.obj o _ ho) hy
   exact ⟨u,by simp [execOp,Instr.loadAt,Instr.sureAddr,hv,loadVar,hagg,hu],hrep.strip⟩

theorem OpV.loadObjAgg {t t':TypeId} {x:Operand} {o off k:Nat} {cs:List AV} (hagg:∀w,(isAgg t).run P w=.ok true w) (hsz:∀w,(sizeOf t).run P w=.ok k w) (hx:st.ev x=.ptr o off)
  (ho:(st.up++st.own)[o]? = some (.cells t' cs)) (hk:off+k≤cs.length) (h1:((cs.drop off).take k).all AV.one=true):OpV P d ⟨dst,.load t x,ty,pos,aft,gd⟩ st (.agg (((cs.drop off).take k).map AV.strip)):=
 Be (by intro c h;cases h) fun G a w h=>by
  have hr:=hx ▸ h.eval x
  generalize hv:a.eval x=u at hr
  cases hr with
  | ptr l o off hlt =>
   obtain ⟨vs,hb,hn,hrep,_⟩:=h.heap.obj o _ ho
   let us:List Value:=(vs.toList.drop off).take k
   have hus:us.length=k:=by simp [us];omega
   refine ⟨.agg us.toArray,?_,?_⟩
   ·have:=Jf (P:=P) (t:=t) (k:=k) (a:=⟨G.blk o,off,none⟩) (vs:=us) (w:=w) hagg hsz hus (fun j v hj=>by
     rw [Bu rfl]
     simp only [us,Eo,Dl] at hj
     split at hj
     ·simp only [World.cell?,hb]
      simpa using hj
     cases hj)
    simp [execOp,Instr.loadAt,Instr.sureAddr,hv,this]
   refine .agg _ _ _ (by simp [hus];omega) (fun y hy=>?_) (fun i y u hy hu=>?_)
   ·obtain ⟨z,hz,rfl⟩:=E2.1 hy
    rw [AV.one_strip]
    exact Ap.1 h1 z hz
   simp only [C4] at hy
   rw [Da] at hy
   obtain ⟨z,hz,rfl⟩:=hy
   simp only [Sg,us,Eo,Dl] at hu
   rw [Eo,Dl] at hz
   split at hz
   ·rename_i hlt'
    rw [if_pos hlt'] at hu
    exact (hrep _ z u hz (by simpa using hu)).strip
   cases hz
end
end Go.SX
namespace Go.SX
variable [GI:GlobInv]

/-- Memory has turned, but nothing that anybody qr as unwritten, nor whose anything is. -/
structure Turn (G:Gh) (w:World) (G':Gh) (w':World):Prop where
 fix:∀b o,G.tag b o=.fix→G'.tag b o=.fix∧w'.cell? ⟨b,o,none⟩=w.cell? ⟨b,o,none⟩
 tail:∀b o L,G.tag b o=.tail L→G'.tag b o=.tail L
 obj:∀b o i,G.tag b o=.obj i→G'.tag b o=.obj i
 n:G.n≤G'.n
 blk:∀o,o<G.n→G'.blk o=G.blk o
 os:w'.os=w.os
 tape:w'.tape=w.tape
 output:w'.output=w.output
 size:w.heap.size≤w'.heap.size
 old:Still G w G' w'

theorem Turn.keep {G G':Gh} {w w':World} (h:Turn G w G' w') (d:Nat):Keep d G w G' w':=
 ⟨h.fix,fun b o _ _ _ ht=>h.tail b o _ ht,h.n,h.blk,h.os,h.tape,h.output,h.size,h.old⟩
theorem Turn.rep {G G':Gh} {w w':World} (h:Turn G w G' w') {l:Option Loc} {x:AV} {u:Value} (hr:Rep G w l x u):Rep G' w' l x u:=
 hr.mono h.fix h.n h.blk (fun L _ b o ht=>h.tail b o L ht)
theorem BldRel.turn {G G':Gh} {w w':World} {i:Nat} {t e:TypeId} {bs:List UInt8} (hr:BldRel G w i t e bs) (he:G'.blk i=G.blk i) (hobj:∀b o,G.tag b o=.obj i→G'.tag b o=.obj i) (hb:w'.heap[G.blk i]? = w.heap[G.blk i]?)
  (hb2:∀b,AllObj G w i b→w'.heap[b]? = w.heap[b]?):BldRel G' w' i t e bs:=by
 obtain ⟨p,v,h1,h2,h3,h4⟩:=hr
 refine ⟨p,v,by rw [he,hb];exact h1,by rw [he];exact h2,fun j hj=>by rw [he];exact hobj _ _ (h3 j hj),?_⟩
 rcases h4 with h4|⟨g,cap,cur,a1,a2,a3,a4,a5,a6,a7,a8,a9⟩
 ·exact .inl h4
 exact .inr ⟨g,cap,cur,a1,by rw [he];exact a2,by rw [hb2 g ⟨cur,e,a3,by omega,fun o ho=>a9 o (by omega)⟩];exact a3,a4,a5,a6,a7,a8,fun j hj=>hobj _ _ (a9 j hj)⟩
theorem Turn.objRel {G G':Gh} {w w':World} (h:Turn G w G' w') {i:Nat} {x:AObj} (hi:i<G.n) (hb:w'.heap[G.blk i]? = w.heap[G.blk i]?) (hr:ObjRel G w i x) (hb2:∀b,AllObj G w i b→w'.heap[b]? = w.heap[b]?):ObjRel G' w' i x:=by
 have e:=h.blk i hi
 cases x with
 | cells t cs =>
  obtain ⟨vs,h1,h2,h3,h4⟩:=hr
  refine ⟨vs,by rw [e,hb];exact h1,h2,fun j y u a b=>h.rep (h3 j y u a b),fun j hj=>by rw [e];exact h.obj _ _ _ (h4 j hj)⟩
 | loop st pd fr sz ps as bd df =>
  obtain ⟨fn,tmps,h1,h2,h3,h4⟩:=hr
  exact ⟨fn,tmps,by rw [e,hb,h.blk df h4];exact h1,h2,fun s=>h.rep (h3 s),E4 h4 h.n⟩
 | defs=>show w'.heap[G'.blk i]? = _;rw [e,hb];exact hr
 | dead=>show w'.heap[G'.blk i]? = _;rw [e,hb];exact hr
 | bld t e' bs=>exact BldRel.turn hr e (fun b o ho=>h.obj b o i ho) hb hb2
 | gone =>
  obtain ⟨vs,t,fz,h1,h2⟩:=hr
  exact ⟨vs,t,fz,by rw [e,hb];exact h1,fun j hj=>by rw [e];exact (h.fix _ _ (h2 j hj)).1⟩

/-- Its block is there. -/
theorem ObjRel.blt {G:Gh} {w:World} {i:Nat} {x:AObj} (hr:ObjRel G w i x):G.blk i<w.heap.size:=by
 rcases B0 (G.blk i) w.heap.size with h'|h'
 ·exact h'
 have hnone:w.heap[G.blk i]? = none:=R9 h'
 cases x with
 | cells t cs=>obtain ⟨vs,h1,_⟩:=hr;rw [hnone] at h1;cases h1
 | loop st pd fr sz ps as bd df=>obtain ⟨fn,tmps,h1,_⟩:=hr;rw [hnone] at h1;cases h1
 | defs=>rw [ObjRel,hnone] at hr;cases hr
 | dead=>rw [ObjRel,hnone] at hr;cases hr
 | bld t e bs=>obtain ⟨p,v,h1,_⟩:=hr;rw [hnone] at h1;cases h1
 | gone=>obtain ⟨vs,t,fz,h1,_⟩:=hr;rw [hnone] at h1;cases h1
theorem ObjRel.low {G:Gh} {w:World} {i:Nat} {x:AObj} (hr:ObjRel G w i x):ObjLow G.n x:=by
 cases x with
 | cells t cs =>
  obtain ⟨us,h1,h2,h3,h4⟩:=hr
  intro y hy
  obtain ⟨j,hj⟩:=Cc hy
  have hlt:j<us.size:=by rw [h2];exact (Ac.1 hj).1
  exact (h3 j y us[j] hj (Cz hlt)).low
 | loop sta pd fr sz ps as bd df =>
  obtain ⟨fn,tmps,h1,h2,h3,h4⟩:=hr
  exact ⟨fun s=>(h3 s).low,h4⟩
 | defs=>trivial
 | dead=>trivial
 | bld t e bs=>trivial
 | gone=>trivial
theorem ObjRel.cut {G:Gh} {w:World} {i m:Nat} {x:AObj} (hr:ObjRel G w i x) (hl:ObjLow m x):ObjRel { G with n:=m } w i x:=by
 cases x with
 | cells t cs =>
  obtain ⟨vs,h1,h2,h3,h4⟩:=hr
  exact ⟨vs,h1,h2,fun j y u p q=>(h3 j y u p q).cut (hl y (Ax p)),h4⟩
 | loop sta pd fr sz ps as bd df =>
  obtain ⟨fn,tmps,h1,h2,h3,h4⟩:=hr
  exact ⟨fn,tmps,h1,h2,fun s=>(h3 s).cut (hl.1 s),hl.2⟩
 | defs=>exact hr
 | dead=>exact hr
 | bld t e bs=>exact hr
 | gone=>exact hr
theorem AllObj.lt {G:Gh} {w:World} {i b:Nat} (h:AllObj G w i b):b<w.heap.size:=by
 obtain ⟨cur,e,h1,_⟩:=h
 exact (J5.1 h1).1
/-- No cell of it is anybody else's. -/
theorem AllObj.tag {G:Gh} {w:World} {i b o:Nat} (h:AllObj G w i b) (ht:TagOK G w) (hne:G.tag b o≠.free):G.tag b o=.obj i:=by
 obtain ⟨cur,e,h1,_,h3⟩:=h
 obtain ⟨u,hu⟩:=ht.ex b o hne
 simp only [World.cell?,h1] at hu
 refine h3 o ?_
 rcases B0 o cur.size with h'|h'
 ·exact h'
 simp [R9 h'] at hu
/-- It is not another object's block of cells. -/
theorem AllObj.ne {G:Gh} {w:World} {i b o:Nat} {t:TypeId} {cs:List AV} (h:AllObj G w i b) (ho:ObjRel G w o (.cells t cs)) (hne:i≠o):b≠G.blk o:=by
 obtain ⟨cur,e,h1,h2,h3⟩:=h
 obtain ⟨vs,g1,g2,_,g4⟩:=ho
 rintro rfl
 rw [g1] at h1
 injection h1 with h1
 injection h1 with e1 _ _
 subst e1
 have a:=h3 0 h2
 rw [g4 0 (by omega)] at a
 injection a with a
 exact hne a.symm

section
variable {P:Program} {d:Nat}

/-- A state over memory that has turned. -/
theorem StRel.turn {G G':Gh} {st:St} {a:Act} {w w':World} {U O:List AObj} (h:StRel d G st a w) (T:Turn G w G' w') (hH:HeapRel G' (U++O) w') (hU:U.length=st.up.length)
  (hd:∀o∈st.defs,(U++O)[o]? = some .defs) (ht:TagOK G' w') (hl:∀x∈U,ObjLow U.length x):StRel d G' { st with up:=U,own:=O } a w':=by
 refine ⟨h.size,fun s=>T.rep (h.slots s),hH,?_,hd,h.defsNodup,(fun o ho=>by show U.length≤o;rw [hU];exact h.defsGe o ho),ht,fun l hl'=>by rw [hU];exact h.rnd l hl',hl,h.top⟩
 rw [h.defs]
 refine congrArg (·++Yd d) (da fun o ho=>?_)
 have:o<G.n:=by
  rw [h.heap.n]
  exact (Ac.1 (h.defsAt o ho)).1
 rw [T.blk o this]

/-- A new block of cells, an object of ours. -/
theorem Rb {G:Gh} {st:St} {a:Act} {w:World} (h:StRel d G st a w) (t:TypeId) (zs:List AV) (vs:Array Value) (hn:vs.size=zs.length)
  (hr:∀(j:Nat) (y:AV) (u:Value),zs[j]? = some y→vs[j]? = some u→Rep G w none y u):
  ∃G',StRel d G' { st with own:=st.own++[.cells t zs] } a (w.alloc (.cells vs t))∧Turn G w G' (w.alloc (.cells vs t))∧G'.blk (st.up++st.own).length=w.heap.size∧(st.up++st.own).length<G'.n:=by
 have hfree:∀o,G.tag w.heap.size o=.free:=fun o=>by
  refine Fz fun hne=>?_
  obtain ⟨u,hu⟩:=h.tags.ex _ _ hne
  have:=World.block_lt_of_cell? _ _ hu
  simp at this
 have hgn:=h.heap.n
 have hblt:∀i,i<G.n→G.blk i<w.heap.size:=fun i hi=>by
  have hi':i<(st.up++st.own).length:=by rw [←hgn];exact hi
  exact (h.heap.obj i _ (Ad hi')).blt
 let G':Gh:={ tag:=fun b o=>if b=w.heap.size∧o<zs.length then .obj G.n else G.tag b o,blk:=fun i=>if i=G.n then w.heap.size else G.blk i,n:=G.n+1 }
 have hne:∀b o,G.tag b o≠.free→¬(b=w.heap.size∧o<zs.length):=fun b o hb hc=>by rw [hc.1] at hb;exact hb (hfree o)
 have hcell:∀b o,G.tag b o≠.free→(w.alloc (.cells vs t)).cell? ⟨b,o,none⟩=w.cell? ⟨b,o,none⟩:=fun b o hb=>by
  refine World.cell?_alloc_old _ _ _ ?_
  show b≠w.heap.size
  rintro rfl
  exact hb (hfree o)
 have T:Turn G w G' (w.alloc (.cells vs t)):=by
  refine ⟨fun b o hb=>⟨?_,hcell b o (by rw [hb];simp)⟩,fun b o L hb=>?_,fun b o i hb=>?_,Hq _,fun o ho=>?_,rfl,rfl,rfl,by simp,So _ (fun b o hb=>.inl ?_) (fun i hi=>?_)⟩
  ·simp only [G'];rw [if_neg (hne b o (by rw [hb];simp))];exact hb
  ·simp only [G'];rw [if_neg (hne b o (by rw [hb];simp))];exact hb
  ·simp only [G'];rw [if_neg (hne b o (by rw [hb];simp))];exact hb
  ·simp only [G'];rw [if_neg (by omega)]
  ·simp only [G'];rw [if_neg (by omega)]
  simp only [G'] at hi ⊢
  by_cases e:i=G.n
  ·exact .inr (by rw [if_pos e];exact Ah _)
  exact .inl ⟨by omega,by rw [if_neg e]⟩
 have hsz:(w.alloc (.cells vs t)).heap[w.heap.size]? = some (.cells vs t (0,0)):=by
  show (w.heap.push _)[w.heap.size]? = _
  simp
 refine ⟨G',?_,T,by simp [G',←hgn],by simp only [G'];omega⟩
 have hHR:HeapRel G' (st.up++(st.own++[.cells t zs])) (w.alloc (.cells vs t)):=by
  rw [←Br]
  refine ⟨fun i x hx=>?_,by simp only [G',Am,Ow];simp only [Am] at hgn;omega,fun i j hi hj e=>?_⟩
  ·rcases B0 i (st.up++st.own).length with hlt|hge
   ·rw [Cx hlt] at hx
    refine T.objRel (by omega) ?_ (h.heap.obj i x hx) (fun b hb=>?_)
    ·have:=hblt i (by omega)
     show (w.heap.push _)[G.blk i]? = _
     rw [Kj,if_neg (by omega)]
    have:=hb.lt
    show (w.heap.push _)[b]? = _
    rw [Kj,if_neg (by omega)]
   have hi:i=(st.up++st.own).length:=by
    have:=(Ac.1 hx).1
    simp only [Am,Ow] at this ⊢
    simp only [Am] at hge
    omega
   subst hi
   simp only [Cp (Ah _),Sm,d7] at hx
   injection hx with hx
   subst hx
   have hb:G'.blk (st.up++st.own).length=w.heap.size:=by simp [G',←hgn]
   refine ⟨vs,by rw [hb];exact hsz,hn,fun j y u h1 h2=>(T.rep (hr j y u h1 h2)).lift,fun j hj=>?_⟩
   rw [hb,←hgn]
   simp [G',hj]
  simp only [G'] at hi hj e
  by_cases h1:i=G.n<;>by_cases h2:j=G.n
  ·omega
  ·rw [if_pos h1,if_neg h2] at e
   have:=hblt j (by omega)
   omega
  ·rw [if_neg h1,if_pos h2] at e
   have:=hblt i (by omega)
   omega
  rw [if_neg h1,if_neg h2] at e
  exact h.heap.inj i j (by omega) (by omega) e
 refine h.turn (O:=st.own++[.cells t zs]) T hHR rfl (fun o ho=>?_) ⟨fun b o hb=>?_,fun b o i hb=>?_,fun b o L hb=>?_,h.tags.globKeep T.old⟩ h.low
 ·have:=h.defsAt o ho
  rw [←Br,Cx (Ac.1 this).1]
  exact this
 ·simp only [G'] at hb
  split at hb
  ·rename_i hc
   obtain ⟨rfl,hlt⟩:=hc
   exact ⟨vs[o]'(by omega),by rw [World.cell?_alloc_new];exact Cz (by omega)⟩
  rw [hcell b o hb]
  exact h.tags.ex b o hb
 ·simp only [G'] at hb
  split at hb
  ·rename_i hc
   obtain ⟨rfl,hlt⟩:=hc
   exact World.frozen?_alloc_new _ _ _ _
  rw [World.frozen?_alloc_old]
  ·exact h.tags.obj b o i hb
  show b≠w.heap.size
  rintro rfl
  rw [hfree] at hb;cases hb
 simp only [G'] at hb
 split at hb
 ·cases hb
 rw [World.frozen?_alloc_old]
 ·exact h.tags.tail b o L hb
 show b≠w.heap.size
 rintro rfl
 rw [hfree] at hb;cases hb

variable {st:St} {dst:Option Tmp} {ty:TypeId} {pos:String} {aft:Array Edge} {gd:Option (Nat×Bool)}

/-- A variable of its own, at its zero value. -/
theorem AOp.alloc {t:TypeId} {z:Value} {zs:List AV} {s n:Nat} (hz:∀w,(zeroValue t).run P w=.ok z w) (hzs:zs=z.cells.toList.map Ck) (hn:st.own.length=n) (hs:s<st.sz):
  AOp P d ⟨some s,.alloc t,ty,pos,aft,gd⟩ st (·=({ st with own:=st.own++[.cells t zs] }:St).set s (.ptr (st.up.length+n) 0)):=by
 intro G a w h Q'
 obtain ⟨G',h1,T,hb,hlt⟩:=Rb h t zs z.cells (by rw [hzs];simp) (fun j y u h1 h2=>by
  rw [hzs] at h1
  simp only [C4] at h1
  rw [Da] at h1
  obtain ⟨u',hu',rfl⟩:=h1
  have:u'=u:=by
   rw [←Ma] at h2
   rw [h2] at hu'
   injection hu' with e
   exact e.symm
  subst this
  exact Ja _)
 have hlen:(st.up++st.own).length=st.up.length+n:=by rw [Am,hn]
 rw [hlen] at hb hlt
 have hrun:(execOp a.eval (⟨some s,.alloc t,ty,pos,aft,gd⟩:Oper)).run P w=.ok (.value (.pointer (some ⟨w.heap.size,0,none⟩))) (w.alloc (.cells z.cells t)):=by
  simp [execOp,Instr.alloc,hz,newVar,newRow]
 refine Ce (by intro c h;cases h) hrun ⟨G',_,h1.put (s:=s) (y:=.ptr (st.up.length+n) 0) hs ?_,T.keep d,rfl,rfl,rfl,rfl⟩
 rw [←hb]
 exact .ptr _ _ _ hlt

/-- A variable of its own, laid with a value. -/
theorem AOp.box {t:TypeId} {x:Operand} {y:AV} {s n:Nat} (hx:st.ev x=y) (h1:y.cells.all AV.one=true) (hn:st.own.length=n) (hs:s<st.sz):
  AOp P d ⟨some s,.box t x,ty,pos,aft,gd⟩ st (·=({ st with own:=st.own++[.cells t y.cells] }:St).set s (.ptr (st.up.length+n) 0)):=by
 intro G a w h Q'
 obtain ⟨hc,hcc⟩:=(hx ▸ h.eval x).cells (fun y hy=>Ap.1 h1 y hy)
 obtain ⟨G',h1,T,hb,hlt⟩:=Rb h t y.cells (a.eval x).cells hc hcc
 have hlen:(st.up++st.own).length=st.up.length+n:=by rw [Am,hn]
 rw [hlen] at hb hlt
 have hrun:(execOp a.eval (⟨some s,.box t x,ty,pos,aft,gd⟩:Oper)).run P w=.ok (.value (.pointer (some ⟨w.heap.size,0,none⟩))) (w.alloc (.cells (a.eval x).cells t)):=by
  simp [execOp,Instr.box,newVar,newRow]
 refine Ce (by intro c h;cases h) hrun ⟨G',_,h1.put (s:=s) (y:=.ptr (st.up.length+n) 0) hs ?_,T.keep d,rfl,rfl,rfl,rfl⟩
 rw [←hb]
 exact .ptr _ _ _ hlt
end
end Go.SX
namespace Go.SX
variable [GI:GlobInv]

/-- The value qr as a slice. -/
def I8 (y:AV) (own:Bool) (k:Nat) (xs:List AV):Prop:=y=.slice own k xs∨(y=.nil∧xs=[])

/-- What a slice's reading says of its cells, one behind the other. -/
structure Flat (G:Gh) (w:World) (kk:Nat) (xs:List AV) (ad:Addr) (f:Nat→Nat→Value):Prop where
 spot:xs≠[]→ad.spot=none
 k:∀x∈xs,x.cells.length=kk
 one:∀x∈xs,∀y∈x.cells,y.one=true
 cell:∀(i:Nat) (x:AV) (j:Nat) (y:AV),xs[i]? = some x→x.cells[j]? = some y→G.tag ad.block (ad.off+i*kk+j)=.fix∧w.cell? ⟨ad.block,ad.off+i*kk+j,none⟩=some (f i j)
 rep:∀(i:Nat) (x:AV) (j:Nat) (y:AV),xs[i]? = some x→x.cells[j]? = some y→Rep G w none y (f i j)

theorem E5 {G:Gh} {w:World} {l:Option Loc} {y:AV} {own:Bool} {k:Nat} {xs:List AV} {v:Value} (hy:I8 y own k xs) (h:Rep G w l y v):
  (v=.slice none 0 0∧xs=[]) ∨
  ∃ad c f,v=.slice (some ad) xs.length c∧xs.length≤c∧Flat G w k xs ad f∧(own=true→ad.spot=none∧∃L,l=some L∧∀o,ad.off+xs.length*k≤o→o<ad.off+c*k→G.tag ad.block o=.tail L):=by
 rcases hy with rfl|⟨rfl,rfl⟩
 ·cases h with
  | slice0 _ _ _=>exact .inl ⟨rfl,rfl⟩
  | sliceE _ _ ad c=>exact .inr ⟨ad,c,fun _ _=>undef,rfl,Aw _,⟨(fun h=>absurd rfl h),(fun x hx=>(Fh hx).elim),(fun x hx=>(Fh hx).elim),(fun i x j y hx=>by simp at hx),(fun i x j y hx=>by simp at hx)⟩,(fun h=>by cases h)⟩
  | slice _ _ _ _ ad n c f hs hn hc hk h1 hf hr ho=>subst hn;exact .inr ⟨ad,c,f,rfl,hc,⟨fun _=>hs,hk,h1,hf,hr⟩,fun h=>⟨hs,ho h⟩⟩
 cases h
 exact .inl ⟨rfl,rfl⟩

def Ct (k n:Nat) (f:Nat→Nat→Value):List Value:=(List.range (n*k)).map fun q=>f (q / k) (q % k)

theorem Bc (k n:Nat) (f:Nat→Nat→Value):(Ct k n f).length=n*k:=by simp [Ct]
theorem H3 {k n:Nat} {f:Nat→Nat→Value} {j:Nat} (hj:j<n*k):(Ct k n f)[j]? = some (f (j / k) (j % k)):=by
 simp [Ct,hj]
theorem Na {k n:Nat} {f:Nat→Nat→Value} {i j:Nat} (hi:i<n) (hj:j<k):(Ct k n f)[i*k+j]? = some (f i j):=by
 have hlt:i*k+j<n*k:=by
  have:(i+1)*k≤n*k:=Ik _ hi
  rw [Gg] at this;omega
 rw [H3 hlt]
 have hk:0<k:=by omega
 have h1:(i*k+j) / k=i:=by
  rw [Od,Nat.mul_add_div hk,Nat.div_eq_of_lt hj,Nat.add_zero]
 have h2:(i*k+j) % k=j:=by
  rw [Od,Nat.mul_add_mod,Nat.mod_eq_of_lt hj]
 rw [h1,h2]

theorem Flat.vals {G:Gh} {w:World} {k:Nat} {xs:List AV} {ad:Addr} {f:Nat→Nat→Value} (h:Flat G w k xs ad f) (hk:0<k):
  ∀j u,(Ct k xs.length f)[j]? = some u→w.cell? (ad.add j)=some u:=by
 intro j u hj
 have hlt:j<xs.length*k:=by
  have:=(Ac.1 hj).1
  rwa [Bc] at this
 rw [H3 hlt] at hj
 injection hj with hj
 subst hj
 have hi:j / k<xs.length:=Yc (by rw [Od];exact hlt)
 have hm:j % k<k:=Oc _ hk
 have hx:=Ad hi
 have hl:=h.k _ (Ax hx)
 have hy:(xs[j / k]).cells[j % k]? = some ((xs[j / k]).cells[j % k]'(by omega)):=Ad (by omega)
 have:=(h.cell _ _ _ _ hx hy).2
 rw [Bu (h.spot (fun e=>by subst e;simp at hlt))]
 rw [show ad.off+j / k*k+j % k=ad.off+j by rw [Ho,Nat.div_add_mod']] at this
 exact this
theorem Flat.ones {G:Gh} {w:World} {k:Nat} {xs:List AV} {ad:Addr} {f:Nat→Nat→Value} (h:Flat G w k xs ad f) (hk:0<k):∀u∈Ct k xs.length f,u.oneCell'=true:=by
 intro u hu
 obtain ⟨j,hj⟩:=Cc hu
 have hlt:j<xs.length*k:=by
  have:=(Ac.1 hj).1
  rwa [Bc] at this
 rw [H3 hlt] at hj
 injection hj with hj
 subst hj
 have hi:j / k<xs.length:=Yc (by rw [Od];exact hlt)
 have hm:j % k<k:=Oc _ hk
 have hx:=Ad hi
 have hl:=h.k _ (Ax hx)
 have hy:(xs[j / k]).cells[j % k]? = some ((xs[j / k]).cells[j % k]'(by omega)):=Ad (by omega)
 exact (h.rep _ _ _ _ hx hy).one (h.one _ (Ax hx) _ (Ax hy))

open Classical
section
variable {P:Program} {d:Nat}

theorem Fj {G:Gh} {w:World} (h:TagOK G w) (b o:Nat) (hb:w.heap.size≤b):G.tag b o=.free:=by
 refine Fz fun hne=>?_
 obtain ⟨u,hu⟩:=h.ex _ _ hne
 have:=World.block_lt_of_cell? _ _ hu
 simp only at this
 omega

theorem J2 {G:Gh} {H:List AObj} {w:World} (h:HeapRel G H w) (ht:TagOK G w) {b o:Nat} {L:Loc} (hb:G.tag b o=.tail L):∀i,i<G.n→G.blk i≠b:=by
 intro i hi e
 obtain ⟨u,hu⟩:=ht.ex b o (by rw [hb];simp)
 have ho:=h.obj i _ (Ad (by rw [←h.n];exact hi))
 revert ho
 cases H[i]'(by rw [←h.n];exact hi) with
 | cells t cs =>
  rintro ⟨vs,h1,h2,_,h4⟩
  rw [e] at h1 h4
  simp only [World.cell?,h1] at hu
  have hlt:o<vs.size:=by
   rcases B0 o vs.size with h'|h'
   ·exact h'
   simp [R9 h'] at hu
  have:=h4 o (by omega)
  rw [hb] at this
  cases this
 | loop st pd fr sz ps as bd df =>
  rintro ⟨fn,tmps,h1,_⟩
  rw [e] at h1
  simp [World.cell?,h1] at hu
 | defs =>
  intro h1
  rw [ObjRel,e] at h1
  simp [World.cell?,h1] at hu
 | dead =>
  intro h1
  rw [ObjRel,e] at h1
  simp [World.cell?,h1] at hu
 | bld t e' bs =>
  rintro ⟨p,v,h1,_,h3,_⟩
  rw [e] at h1 h3
  simp only [World.cell?,h1] at hu
  have hlt:o<2:=by
   rcases B0 o 2 with h'|h'
   ·exact h'
   simp [R9 (show (#[p,v]:Array Value).size≤o from h')] at hu
  have:=h3 o hlt
  rw [hb] at this
  cases this
 | gone =>
  rintro ⟨vs,t,fz,h1,h2⟩
  rw [e] at h1 h2
  simp only [World.cell?,h1] at hu
  have hlt:o<vs.size:=by
   rcases B0 o vs.size with h'|h'
   ·exact h'
   simp [R9 h'] at hu
  have:=h2 o hlt
  rw [hb] at this
  cases this

/-- Memory where cells of a block have become readable for good, or owned by slot s: those were free, or owned by slot r. -/
theorem StRel.rows {G:Gh} {st:St} {a:Act} {w w':World} (h:StRel d G st a w) {r s:Nat} (hrs:s≠r) (tag':Nat→Nat→Tag)
  (hch:∀b o,tag' b o=G.tag b o∨((G.tag b o=.free∨G.tag b o=.tail (.slot d r))∧(tag' b o=.fix∨tag' b o=.tail (.slot d s))))
  (hcell:∀b o,G.tag b o≠.free→G.tag b o≠.tail (.slot d r)→w'.cell? ⟨b,o,none⟩=w.cell? ⟨b,o,none⟩)
  (hex:∀b o,tag' b o≠.free→∃u,w'.cell? ⟨b,o,none⟩=some u)
  (hfz:∀b o L,tag' b o=.tail L→w'.frozen? ⟨b,o,none⟩=false) (hfo:∀b o i,tag' b o=.obj i→w'.frozen? ⟨b,o,none⟩=false)
  (hheap:∀b,b<w.heap.size→(∀o L,G.tag b o≠.tail L)→w'.heap[b]? = w.heap[b]?) (hos:w'.os=w.os) (htp:w'.tape=w.tape) (hout:w'.output=w.output) (hsz:w.heap.size≤w'.heap.size)
  (hold:Still G w { G with tag:=tag' } w') {y:AV} {v:Value} (hs:s<st.sz) (hy:Rep { G with tag:=tag' } w' (some (.slot d s)) y v):
  StRel d { G with tag:=tag' } ((st.set r (st.fr r).strip).set s y) (a.put (some s) v) w'∧Keep d G w { G with tag:=tag' } w':=by
 have hfix:∀b o,G.tag b o=.fix→tag' b o=.fix∧w'.cell? ⟨b,o,none⟩=w.cell? ⟨b,o,none⟩:=fun b o hb=>by
  refine ⟨?_,hcell b o (by rw [hb];simp) (by rw [hb];simp)⟩
  rcases hch b o with e|⟨e|e,_⟩
  ·rw [e];exact hb
  ·rw [hb] at e;cases e
  rw [hb] at e;cases e
 have htail:∀b o L,L≠.slot d r→G.tag b o=.tail L→tag' b o=.tail L:=fun b o L hL hb=>by
  rcases hch b o with e|⟨e|e,_⟩
  ·rw [e];exact hb
  ·rw [hb] at e;cases e
  rw [hb] at e;injection e with e;exact absurd e hL
 have hobj:∀b o i,G.tag b o=.obj i→tag' b o=.obj i:=fun b o i hb=>by
  rcases hch b o with e|⟨e|e,_⟩
  ·rw [e];exact hb
  ·rw [hb] at e;cases e
  rw [hb] at e;cases e
 have hrep:∀{l:Option Loc} {x:AV} {u:Value},l≠some (.slot d r)→Rep G w l x u→Rep { G with tag:=tag' } w' l x u:=fun hl hx =>
  hx.mono (G':={ G with tag:=tag' }) hfix (Ah _) (fun _ _=>rfl) (fun L hL b o ht=>htail b o L (fun e=>hl (by rw [hL,e])) ht)
 have hobjrel:∀(i:Nat) (x:AObj),i<G.n→ObjRel G w i x→ObjRel { G with tag:=tag' } w' i x:=fun i x hi hx=>by
  have hb:=hheap (G.blk i) hx.blt (fun o L ht=>J2 h.heap h.tags ht i hi rfl)
  cases x with
  | cells t cs =>
   obtain ⟨vs,h1,h2,h3,h4⟩:=hx
   exact ⟨vs,hb.trans h1,h2,fun j y u p q=>hrep (by simp) (h3 j y u p q),fun j hj=>hobj _ _ _ (h4 j hj)⟩
  | loop st pd fr sz ps as bd df =>
   obtain ⟨fn,tmps,h1,h2,h3,h4⟩:=hx
   exact ⟨fn,tmps,hb.trans h1,h2,fun s=>hrep (by simp) (h3 s),h4⟩
  | defs=>exact hb.trans hx
  | dead=>exact hb.trans hx
  | bld t e bs=>exact BldRel.turn hx rfl (fun b o ho=>hobj b o i ho) hb (fun b ha=>hheap b ha.lt (fun o L ht=>by
    have:=ha.tag h.tags (o:=o) (by rw [ht];simp)
    rw [ht] at this;cases this))
  | gone =>
   obtain ⟨vs,t,fz,h1,h2⟩:=hx
   exact ⟨vs,t,fz,hb.trans h1,fun j hj=>(hfix _ _ (h2 j hj)).1⟩
 have hkeep:Keep d G w { G with tag:=tag' } w':=⟨hfix,fun b o e s he ht=>htail b o _ (by rintro ⟨⟩;omega) ht,Ah _,fun _ _=>rfl,hos,htp,hout,hsz,hold⟩
 refine ⟨?_,hkeep⟩
 have hst:StRel d { G with tag:=tag' } (st.set r (st.fr r).strip) a w':=by
  refine ⟨h.size,fun i=>?_,⟨fun i x hx=>hobjrel i x ?_ (h.heap.obj i x hx),h.heap.n,h.heap.inj⟩,h.defs,h.defsAt,h.defsNodup,h.defsGe,⟨hex,hfo,hfz,h.tags.globKeep hold⟩,h.rnd,h.low,h.top⟩
  ·show Rep _ w' _ (Aa r (st.fr r).strip st.fr i) _
   unfold Aa
   by_cases hi:i=r
   ·subst hi
    rw [if_pos rfl]
    exact (hrep (l:=none) (by simp) (h.slots i).strip).lift
   rw [if_neg hi]
   exact hrep (by simp;exact fun e=>hi e) (h.slots i)
  rw [h.heap.n];exact (Ac.1 hx).1
 exact hst.put hs hy

variable {st:St} {ty:TypeId} {pos:String} {aft:Array Edge} {gd:Option (Nat×Bool)}

theorem Value.oneSize {z:Value} (k:Nat) (hz:z.cells.size=k) (n:Nat):(Builtin.zeroCells z.cells n).size=n*k:=by simp [Builtin.zeroCells,hz]

theorem Ll (w:World) (need old:Nat) (e:TypeId):need≤grownCap w need old e:=by simp [grownCap,Question.cut]
theorem Fc (b:Nat):∀(vs:List Value) (o:Nat) (w:World),(w.setCells b o vs).os=w.os
 | [],_,_=>rfl
 | _::r,o,_=>Fc b r (o+1) _
theorem Dt (b:Nat):∀(vs:List Value) (o:Nat) (w:World),(w.setCells b o vs).tape=w.tape
 | [],_,_=>rfl
 | _::r,o,_=>Dt b r (o+1) _
theorem D9 (b:Nat):∀(vs:List Value) (o:Nat) (w:World),(w.setCells b o vs).output=w.output
 | [],_,_=>rfl
 | _::r,o,_=>D9 b r (o+1) _
theorem D0 (b:Nat):∀(vs:List Value) (o:Nat) (w:World),(w.setCells b o vs).heap.size=w.heap.size
 | [],_,_=>rfl
 | _::r,o,w=>(D0 b r (o+1) _).trans (by simp)
theorem Sp (w:World) (p:Addr) (u:Value) (k:Nat) (h:k≠p.block):(w.setCell p u).heap[k]? = w.heap[k]? := by
 simp only [World.setCell,ct]
 rw [if_neg (by omega)]
theorem D3 (b:Nat):∀(vs:List Value) (o:Nat) (w:World) (k:Nat),k≠b→(w.setCells b o vs).heap[k]? = w.heap[k]?
 | [],_,_,_,_=>rfl
 | v::r,o,w,k,h=>(D3 b r (o+1) _ k h).trans (Sp w _ v k h)

theorem Sq {w:World} {b o:Nat} {v:Value} (h:w.cell? ⟨b,o,none⟩=some v):w.setCell ⟨b,o,none⟩ v=w:=by
 have e:(w.setCell ⟨b,o,none⟩ v).heap=w.heap:=by
  refine R8 (by simp [World.setCell]) fun k h1 h2=>?_
  simp only [World.setCell,Array.getElem_modify]
  split
  ·rename_i hk
   subst hk
   unfold World.cell? at h
   rw [Cz h2] at h
   cases hc:w.heap[b] with
   | cells c t f =>
    rw [hc] at h
    simp at h
    simp only [Option.isSome_none,Co,if_false]
    congr 1
    refine R8 (by simp) fun j h3 h4=>?_
    rw [Array.getElem_setIfInBounds h4]
    split
    ·rename_i e
     subst e
     rw [Cz h4] at h
     injection h with h
     exact h.symm
    rfl
   | _=>rfl
  rfl
 cases w
 simp only [World.setCell] at e ⊢
 congr 1
theorem Kk (b:Nat):∀(vs:List Value) (o:Nat) (w:World),(∀(j:Nat) (u:Value),vs[j]? = some u→w.cell? ⟨b,o+j,none⟩=some u)→w.setCells b o vs=w
 | [],_,_,_=>rfl
 | v::r,o,w,h=>by
  rw [World.setCells,Sq (by simpa using h 0 v rfl)]
  exact Kk b r (o+1) w fun j u hj=>by
   have:=h (j+1) u (by simpa using hj)
   rwa [show o+(j+1)=o+1+j by omega] at this
/-- append, and what is written over the appended elements. -/
theorem StRel.appendPutN {t e ty:TypeId} {i:TypeInfo} {z:Value} {r s:Nat} {x:Operand} {xs ys yvs:List AV} {news:List Value} {st:St} {a:Act} {w:World} {G:Gh} {k by':Nat}
  (hu:P.underlying t=some (.slice e)) (hi:P.info? e=some i) (hz:i.zero=some z) (hsz:i.size=k) (hby:i.bytes=by') (hzk:z.cells.size=k) (hk:0<k)
  (hb:I8 (st.fr r) true k xs) {ad2:Addr} {c2:Nat} {f2:Nat→Nat→Value} (hvx:a.eval x=.slice (some ad2) ys.length c2) (hc2:ys.length≤c2) (F2:Flat G w k ys ad2 f2) (hn0:yvs.length=ys.length) (hn1:0<ys.length) (hrs:s≠r) (hs:s<st.sz) (hl:(xs.length+ys.length)*by'≤140737488355328) (hl2:xs.length+ys.length≤4611686018427387904)
  (hnl:news.length=ys.length*k) (hnat:∀(q:Nat) (y:AV) (j:Nat) (c:AV),yvs[q]? = some y→y.cells[j]? = some c→∃u,news[q*k+j]? = some u∧Rep G w none c u) (hyk:∀y∈yvs,y.cells.length=k) (hy1:∀y∈yvs,∀c∈y.cells,c.one=true) (h:StRel d G st a w):
  ∃(w1:World) (ad:Addr) (cap:Nat) (G':Gh),(Builtin.append_ #[t,t] ty #[a.tmps.getD r undef,a.eval x]).run P w=.ok (.slice (some ad) (xs.length+ys.length) cap) w1∧ad.spot=none ∧
   (∀j,j<ys.length*k→w1.cell? ⟨ad.block,ad.off+xs.length*k+j,none⟩=(Ct k ys.length f2)[j]? ∧ w1.frozen? ⟨ad.block,ad.off+xs.length*k+j,none⟩=false) ∧
   StRel d G' ((st.set r (st.fr r).strip).set s (.slice true k (xs++yvs))) (a.put (some s) (.slice (some ad) (xs.length+ys.length) cap)) (w1.setCells ad.block (ad.off+xs.length*k) news) ∧
   Keep d G w G' (w1.setCells ad.block (ad.off+xs.length*k) news):=by
 subst hsz
 subst hby
 have hrb:=h.slots r
 have hT:(xs.length+ys.length)*i.size=xs.length*i.size+ys.length*i.size:=Gg _ _ _
 have hM:0<ys.length*i.size:=Nat.mul_pos hn1 hk
 obtain ⟨fy,hfy⟩:∃f:Nat→Nat→Value,∀q j u,news[q*i.size+j]? = some u→f q j=u:=⟨fun q j=>(news[q*i.size+j]?).getD undef,fun q j u hj=>by simp [hj]⟩
 have hnat':∀(q:Nat) (y:AV) (j:Nat) (c:AV),yvs[q]? = some y→y.cells[j]? = some c→news[q*i.size+j]? = some (fy q j)∧Rep G w none c (fy q j):=fun q y j c hq hj=>by
  obtain ⟨u,h1,h2⟩:=hnat q y j c hq hj
  rw [hfy q j u h1]
  exact ⟨h1,h2⟩
 have hget:∀(q:Nat) (y:AV),(xs++yvs)[q]? = some y→(q<xs.length∧xs[q]? = some y)∨(xs.length≤q∧q-xs.length<ys.length∧yvs[q-xs.length]? = some y):=fun q y hq=>by
  rcases B0 q xs.length with h'|h'
  ·rw [Cx h'] at hq;exact .inl ⟨h',hq⟩
  rw [Cp h'] at hq;exact .inr ⟨h',by rw [←hn0];exact (Ac.1 hq).1,hq⟩
 have hcell:∀{q j:Nat} {y c:AV},q-xs.length<ys.length→xs.length≤q→yvs[q-xs.length]? = some y→y.cells[j]? = some c→q*i.size+j=xs.length*i.size+((q-xs.length)*i.size+j)∧(q-xs.length)*i.size+j<ys.length*i.size:=fun {q j y c} h1 h0 hq hj=>by
  have hjl:j<i.size:=by
   have:=(Ac.1 hj).1
   rw [hyk _ (Ax hq)] at this;exact this
  have e:(q-xs.length+1)*i.size≤ys.length*i.size:=Ik _ h1
  rw [Gg] at e
  refine ⟨?_,by omega⟩
  rw [←Ho,←Gg];congr 2;omega
 have repFix:∀(tag':Nat→Nat→Tag) (w':World),(∀b o,G.tag b o=.fix→tag' b o=.fix∧w'.cell? ⟨b,o,none⟩=w.cell? ⟨b,o,none⟩)→∀{y:AV} {u:Value},Rep G w none y u→Rep { G with tag:=tag' } w' none y u:=fun tag' w' hf y u hy =>
  hy.mono (G':={ G with tag:=tag' }) hf (Ah _) (fun _ _=>rfl) (fun L hL=>by cases hL)
 let zs:=Ct i.size ys.length f2
 have hzl:zs.length=ys.length*i.size:=Bc _ _ _
 -- a new row
 have grown:∀(old:List Value) (cap:Nat) (f:Nat→Nat→Value) (rest:Array Value),xs.length+ys.length≤cap→old.length=xs.length*i.size→rest.size=(cap-(xs.length+ys.length))*i.size →
   (∀(q:Nat) (y:AV) (j:Nat) (c:AV),xs[q]? = some y→y.cells[j]? = some c→old[q*i.size+j]? = some (f q j)∧Rep G w none c (f q j)) →
   (∀y∈xs,y.cells.length=i.size)→(∀y∈xs,∀c∈y.cells,c.one=true) →
   (Builtin.append_ #[t,t] ty #[a.tmps.getD r undef,a.eval x]).run P w=.ok (.slice (some ⟨w.heap.size,0,none⟩) (xs.length+ys.length) cap) (w.drew.alloc (.cells (old.toArray++zs.toArray++rest) e)) →
   ∃(w1:World) (ad:Addr) (cap:Nat) (G':Gh),(Builtin.append_ #[t,t] ty #[a.tmps.getD r undef,a.eval x]).run P w=.ok (.slice (some ad) (xs.length+ys.length) cap) w1∧ad.spot=none ∧
    (∀j,j<ys.length*i.size→w1.cell? ⟨ad.block,ad.off+xs.length*i.size+j,none⟩=zs[j]? ∧ w1.frozen? ⟨ad.block,ad.off+xs.length*i.size+j,none⟩=false) ∧
    StRel d G' ((st.set r (st.fr r).strip).set s (.slice true i.size (xs++yvs))) (a.put (some s) (.slice (some ad) (xs.length+ys.length) cap)) (w1.setCells ad.block (ad.off+xs.length*i.size) news) ∧
    Keep d G w G' (w1.setCells ad.block (ad.off+xs.length*i.size) news):=by
  intro old cap f rest hcap hlo hrest hf hkk hone hv
  obtain ⟨w1,hw1⟩:∃w1,w1=w.drew.alloc (.cells (old.toArray++zs.toArray++rest) e):=⟨_,rfl⟩
  obtain ⟨W,hW⟩:∃W,W=w1.setCells w.heap.size (xs.length*i.size) news:=⟨_,rfl⟩
  let tag':Nat→Nat→Tag:=fun b o=>if b=w.heap.size then (if o<(xs.length+ys.length)*i.size then .fix else if o<cap*i.size then .tail (.slot d s) else .free) else G.tag b o
  have hTc:(xs.length+ys.length)*i.size≤cap*i.size:=Ik _ hcap
  have hsize:(old.toArray++zs.toArray++rest).size=cap*i.size:=by
   simp only [Oq,Gz,hrest,hlo,hzl]
   rw [←hT,←Gg];congr 1;omega
  have hnew1:∀o,w1.cell? ⟨w.heap.size,o,none⟩=(old.toArray++zs.toArray++rest)[o]? := fun o=>by rw [hw1];exact World.cell?_alloc_new w.drew _ _ o
  have hex1:∀o,o<cap*i.size→(w1.cell? ⟨w.heap.size,o,none⟩).isSome=true:=fun o ho=>by rw [hnew1,Cz (by rw [hsize];exact ho)];rfl
  have hexW:∀j,j<news.length→(w1.cell? ⟨w.heap.size,xs.length*i.size+j,none⟩).isSome=true:=fun j hj=>hex1 _ (by omega)
  have hold:∀b o,b≠w.heap.size→W.cell? ⟨b,o,none⟩=w.cell? ⟨b,o,none⟩:=fun b o hb=>by
   rw [hW,World.cell?_setCells_out _ _ _ _ _ (fun e _=>absurd e hb),hw1,World.cell?_alloc_old _ _ _ (by exact hb)]
   rfl
  have hin:∀j (hj:j<news.length),W.cell? ⟨w.heap.size,xs.length*i.size+j,none⟩=some news[j]:=fun j hj=>by rw [hW];exact World.cell?_setCells_in w.heap.size news _ w1 hexW j hj
  have hout:∀o,(o<xs.length*i.size∨xs.length*i.size+ys.length*i.size≤o)→W.cell? ⟨w.heap.size,o,none⟩=(old.toArray++zs.toArray++rest)[o]? := fun o ho=>by
   rw [hW,World.cell?_setCells_out _ _ _ _ _ (fun _ _=>by simp only;omega),hnew1]
  have hexA:∀o,o<cap*i.size→∃u,W.cell? ⟨w.heap.size,o,none⟩=some u:=fun o ho=>by
   by_cases hc:o<xs.length*i.size∨xs.length*i.size+ys.length*i.size≤o
   ·rw [hout o hc];exact ⟨_,Cz (by rw [hsize];exact ho)⟩
   have:=hin (o-xs.length*i.size) (by omega)
   rw [show xs.length*i.size+(o-xs.length*i.size)=o by omega] at this
   exact ⟨_,this⟩
  have hnb:∀b o,G.tag b o≠.free→b≠w.heap.size:=fun b o hb e=>hb (Fj h.tags b o (by omega))
  have hfz1:∀o,w1.frozen? ⟨w.heap.size,o,none⟩=false:=fun o=>by rw [hw1];exact World.frozen?_alloc_new w.drew _ _ o
  have hhb:∀b,b≠w.heap.size→W.heap[b]? = w.heap[b]? := fun b hb=>by
   rw [hW,D3 _ _ _ _ _ hb,hw1]
   show (w.heap.push _)[b]? = _
   rw [Kj,if_neg hb]
  obtain ⟨h1,h2⟩:=h.rows (w':=W) hrs tag' (fun b o=>by
    simp only [tag']
    by_cases hb:b=w.heap.size
    ·rw [if_pos hb]
     have hfree:=Fj h.tags b o (by omega)
     split
     ·exact .inr ⟨.inl hfree,.inl rfl⟩
     split
     ·exact .inr ⟨.inl hfree,.inr rfl⟩
     exact .inl hfree.symm
    rw [if_neg hb];exact .inl rfl)
   (fun b o hb _=>hold b o (hnb b o hb))
   (fun b o hb=>by
    by_cases hB:b=w.heap.size
    ·subst hB
     simp only [tag',if_true] at hb
     have hlt:o<cap*i.size:=by
      rcases B0 o (cap*i.size) with h'|h'
      ·exact h'
      rw [if_neg (by omega),if_neg (by omega)] at hb
      exact absurd rfl hb
     exact hexA o hlt
    simp only [tag',if_neg hB] at hb
    rw [hold b o hB]
    exact h.tags.ex b o hb)
   (fun b o L hb=>by
    rw [hW,World.frozen?_setCells]
    by_cases hB:b=w.heap.size
    ·subst hB;exact hfz1 o
    simp only [tag',if_neg hB] at hb
    rw [hw1,World.frozen?_alloc_old _ _ _ (by exact hB)]
    exact h.tags.tail b o L hb)
   (fun b o q hb=>by
    rw [hW,World.frozen?_setCells]
    by_cases hB:b=w.heap.size
    ·subst hB;exact hfz1 o
    simp only [tag',if_neg hB] at hb
    rw [hw1,World.frozen?_alloc_old _ _ _ (by exact hB)]
    exact h.tags.obj b o q hb)
   (fun b hb _=>hhb _ (by omega)) (by rw [hW,Fc,hw1];rfl) (by rw [hW,Dt,hw1];rfl) (by rw [hW,D9,hw1];rfl) (by rw [hW,D0,hw1];simp)
   (Il (fun b hb=>hhb b (by have:=hb.1;omega)) (by rw [hW,D0,hw1];simp) (fun b o hb=>.inl (by show tag' b o=_;simp only [tag'];rw [if_neg (by omega)])) (fun i hi=>.inl ⟨hi,rfl⟩)) hs
   (v:=.slice (some ⟨w.heap.size,0,none⟩) (xs.length+ys.length) cap) (y:=.slice true i.size (xs++yvs)) (by
    have hfx:∀b o,G.tag b o=.fix→tag' b o=.fix∧W.cell? ⟨b,o,none⟩=w.cell? ⟨b,o,none⟩:=fun b o hb=>by
     have hB:=hnb b o (by rw [hb];simp)
     exact ⟨by simp only [tag',if_neg hB];exact hb,hold b o hB⟩
    refine .slice _ true i.size _ ⟨w.heap.size,0,none⟩ _ cap (fun q j=>if q<xs.length then f q j else fy (q-xs.length) j) rfl (by simp [hn0]) hcap (fun y hy=>?_) (fun y hy=>?_) (fun q y j c hq hj=>?_) (fun q y j c hq hj=>?_) (fun _=>⟨_,rfl,fun o h1 h2=>?_⟩)
    ·rcases D6.1 hy with hy|hy
     ·exact hkk y hy
     exact hyk y hy
    ·rcases D6.1 hy with hy|hy
     ·exact hone y hy
     exact hy1 y hy
    ·rcases hget q y hq with ⟨hlt,hq'⟩|⟨hge,hqn,hq'⟩
     ·have hjl:j<i.size:=by
       have:=(Ac.1 hj).1
       rw [hkk y (Ax hq')] at this;exact this
      have hqj:q*i.size+j<xs.length*i.size:=by
       have:(q+1)*i.size≤xs.length*i.size:=Ik _ hlt
       rw [Gg] at this;omega
      simp only [B7,tag',if_true,if_pos hlt]
      rw [if_pos (by omega),hout _ (.inl hqj)]
      refine ⟨rfl,?_⟩
      rw [←(hf q y j c hq' hj).1,J4 (by simp only [Oq,Gz];omega),J4 (by simp only [Gz];omega)]
      simp
     obtain ⟨e1,e2⟩:=hcell hqn hge hq' hj
     simp only [B7,tag',if_true,if_neg (Oe.2 hge)]
     rw [if_pos (by omega),e1,hin _ (by omega)]
     have:=(hnat' _ _ j c hq' hj).1
     rw [Ad (by omega)] at this
     exact ⟨rfl,this⟩
    ·rcases hget q y hq with ⟨hlt,hq'⟩|⟨hge,hqn,hq'⟩
     ·simp only [if_pos hlt]
      exact repFix tag' _ hfx (hf q y j c hq' hj).2
     simp only [if_neg (Oe.2 hge)]
     exact repFix tag' _ hfx (hnat' _ _ j c hq' hj).2
    simp only [B7] at h1 h2
    have h1:(xs.length+ys.length)*i.size≤o:=by simpa [hn0] using h1
    simp only [tag',if_true]
    rw [if_neg (by omega),if_pos h2])
  refine ⟨w1,⟨w.heap.size,0,none⟩,cap,{ G with tag:=tag' },by rw [hw1];exact hv,rfl,fun j hj=>?_,?_,?_⟩
  ·simp only [B7]
   refine ⟨?_,hfz1 _⟩
   rw [hnew1,J4 (by simp only [Oq,Gz];omega),N9 (by simp only [Gz];omega)]
   simp [hlo]
  ·simp only [B7]
   rw [←hW]
   exact h1
  simp only [B7]
  rw [←hW]
  exact h2
 rcases E5 hb hrb with ⟨hvb,rfl⟩|⟨ad,c,f,hvb,hc,F,hown⟩
 ·have hge:=Ll w ys.length 0 e
  refine grown [] (grownCap w ys.length 0 e) (fun _ _=>undef) (Builtin.zeroCells z.cells (grownCap w ys.length 0 e-ys.length)) (by simpa using hge) (by simp) (by rw [Value.oneSize _ hzk];simp) (fun q y j c hq hj=>by simp at hq) (fun y hy=>by cases hy) (fun y hy=>by cases hy) ?_
  rw [hvb,hvx]
  have:=run_append_nil (P:=P) w t ty e i z hu hi hz ad2 ys.length c2 (Ct i.size ys.length f2) (Bc _ _ _) (F2.vals hk) (by omega) (by omega) (by simp at hl;omega)
  simpa using this
 obtain ⟨hspot,L,hL,ho⟩:=hown rfl
 injection hL with hL
 subst hL
 by_cases hroom:xs.length+ys.length≤c
 ·-- there is room
  let off:=ad.off+xs.length*i.size
  have hTn:ad.off+(xs.length+ys.length)*i.size=off+ys.length*i.size:=by simp only [off];omega
  have hTc:ad.off+(xs.length+ys.length)*i.size≤ad.off+c*i.size:=Nat.add_le_add_left (Ik _ hroom) _
  have htl:∀j,j<ys.length*i.size→G.tag ad.block (off+j)=.tail (.slot d r):=fun j hj=>ho (off+j) (by simp only [off];omega) (by omega)
  have hex0:∀j,j<ys.length*i.size→(w.cell? ⟨ad.block,off+j,none⟩).isSome=true:=fun j hj=>by
   obtain ⟨u,hu⟩:=h.tags.ex ad.block (off+j) (by rw [htl j hj];simp)
   rw [hu];rfl
  obtain ⟨w1,hw1⟩:∃w1,w1=w.setCells ad.block off zs:=⟨_,rfl⟩
  have hrun:(Builtin.append_ #[t,t] ty #[a.tmps.getD r undef,a.eval x]).run P w=.ok (.slice (some ad) (xs.length+ys.length) c) w1:=by
   have hst:=run_storeCells_cells (P:=P) ad.block off zs 0 w (by simpa [hzl] using hex0) (by simpa [hzl] using fun j hj=>h.tags.tail _ _ _ (htl j hj)) (F2.ones hk)
   have hfc:=run_firstCells_some (P:=P) w i.size ys.length ad2 ys.length c2 zs hzl (F2.vals hk)
   have hadd:ad.add (xs.length*i.size)=⟨ad.block,off,none⟩:=Bu hspot _
   rw [hvb,hvx,hw1]
   simp only [Nat.add_zero] at hst
   simp [Builtin.append_,run_underlying hu,sizeOf,typeInfo,hi,Builtin.lenOf,hroom,hfc,hadd,hst]
  obtain ⟨W,hW⟩:∃W,W=w1.setCells ad.block off news:=⟨_,rfl⟩
  let tag':Nat→Nat→Tag:=fun b o=>if b=ad.block∧off≤o∧o<off+ys.length*i.size then .fix else if b=ad.block∧off+ys.length*i.size≤o∧o<ad.off+c*i.size then .tail (.slot d s) else G.tag b o
  have hex1:∀j,j<ys.length*i.size→(w1.cell? ⟨ad.block,off+j,none⟩).isSome=true:=fun j hj=>by
   rw [hw1,World.cell?_setCells_in ad.block zs off w (by simpa [hzl] using hex0) j (by rw [hzl];exact hj)];rfl
  have hcellout:∀b o,¬(b=ad.block∧off≤o∧o<off+ys.length*i.size)→W.cell? ⟨b,o,none⟩=w.cell? ⟨b,o,none⟩:=fun b o hn=>by
   have key:∀hb:b=ad.block,o<off∨off+ys.length*i.size≤o:=fun hb=>by
    rcases B0 o off with h'|h'
    ·exact .inl h'
    exact .inr (Oa fun h''=>hn ⟨hb,h',h''⟩)
   rw [hW,World.cell?_setCells_out _ _ _ _ _ (fun hb _=>by have:=key hb;rw [hnl];exact this),hw1,World.cell?_setCells_out _ _ _ _ _ (fun hb _=>by have:=key hb;rw [hzl];exact this)]
  have hcellin:∀j (hj:j<news.length),W.cell? ⟨ad.block,off+j,none⟩=some news[j]:=fun j hj=>by rw [hW];exact World.cell?_setCells_in ad.block news off w1 (fun j hj=>hex1 j (by omega)) j hj
  have hin:∀b o,(b=ad.block∧off≤o∧o<ad.off+c*i.size)→G.tag b o=.tail (.slot d r):=fun b o hc=>by
   obtain ⟨rfl,h1,h2⟩:=hc
   exact ho o h1 h2
  have hnotin:∀b o,G.tag b o≠.tail (.slot d r)→¬(b=ad.block∧off≤o∧o<off+ys.length*i.size):=fun b o hne hc=>hne (hin b o ⟨hc.1,hc.2.1,by omega⟩)
  have hfzW:∀x,W.frozen? x=w.frozen? x:=fun x=>by rw [hW,World.frozen?_setCells,hw1,World.frozen?_setCells]
  have hheap:∀b,b≠ad.block→W.heap[b]? = w.heap[b]? := fun b hb=>by rw [hW,D3 _ _ _ _ _ hb,hw1,D3 _ _ _ _ _ hb]
  have hsizeW:W.heap.size=w.heap.size:=by rw [hW,D0,hw1,D0]
  obtain ⟨h1,h2⟩:=h.rows (w':=W) hrs tag' (fun b o=>by
    simp only [tag']
    split
    ·rename_i hc;exact .inr ⟨.inr (hin b o ⟨hc.1,hc.2.1,by omega⟩),.inl rfl⟩
    split
    ·rename_i hc;exact .inr ⟨.inr (hin b o ⟨hc.1,by omega,hc.2.2⟩),.inr rfl⟩
    exact .inl rfl)
   (fun b o _ hne=>hcellout b o (hnotin b o hne))
   (fun b o hb=>by
    by_cases hc:b=ad.block∧off≤o∧o<off+ys.length*i.size
    ·obtain ⟨rfl,h1,h2⟩:=hc
     have:=hcellin (o-off) (by omega)
     rw [show off+(o-off)=o by omega] at this
     exact ⟨_,this⟩
    rw [hcellout b o hc]
    simp only [tag',if_neg hc] at hb
    refine h.tags.ex b o ?_
    split at hb
    ·rename_i hc2;rw [hin b o ⟨hc2.1,by omega,hc2.2.2⟩];simp
    exact hb)
   (fun b o L hb=>by
    rw [hfzW]
    simp only [tag'] at hb
    split at hb
    ·cases hb
    split at hb
    ·rename_i hc2;exact h.tags.tail b o _ (hin b o ⟨hc2.1,by omega,hc2.2.2⟩)
    exact h.tags.tail b o L hb)
   (fun b o q hb=>by
    rw [hfzW]
    simp only [tag'] at hb
    split at hb
    ·cases hb
    split at hb
    ·cases hb
    exact h.tags.obj b o q hb)
   (fun b _ ht=>hheap b (fun e=>ht _ _ (e ▸ htl 0 hM))) (by rw [hW,Fc,hw1,Fc]) (by rw [hW,Dt,hw1,Dt]) (by rw [hW,D9,hw1,D9]) (H1 hsizeW.symm)
   (Il (fun b hb=>hheap b (fun e=>J0 (htl 0 hM) (e ▸ hb))) (H1 hsizeW.symm) (fun b o _=>by
    show tag' b o=_∨_
    simp only [tag']
    split
    ·rename_i hc;exact .inr ⟨_,hin b o ⟨hc.1,hc.2.1,by omega⟩⟩
    split
    ·rename_i hc;exact .inr ⟨_,hin b o ⟨hc.1,by omega,hc.2.2⟩⟩
    exact .inl rfl) (fun i hi=>.inl ⟨hi,rfl⟩)) hs
   (v:=.slice (some ad) (xs.length+ys.length) c) (y:=.slice true i.size (xs++yvs)) (by
    have hfx:∀b o,G.tag b o=.fix→tag' b o=.fix∧W.cell? ⟨b,o,none⟩=w.cell? ⟨b,o,none⟩:=fun b o hb=>by
     have hn:=hnotin b o (by rw [hb];simp)
     refine ⟨?_,hcellout b o hn⟩
     simp only [tag',if_neg hn]
     rw [if_neg]
     ·exact hb
     intro hc2
     have:=hin b o ⟨hc2.1,by omega,hc2.2.2⟩
     rw [hb] at this;cases this
    refine .slice _ true i.size _ ad _ c (fun q j=>if q<xs.length then f q j else fy (q-xs.length) j) hspot (by simp [hn0]) hroom (fun y hy=>?_) (fun y hy=>?_) (fun q y j c' hq hj=>?_) (fun q y j c' hq hj=>?_) (fun _=>⟨_,rfl,fun o h1 h2=>?_⟩)
    ·rcases D6.1 hy with hy|hy
     ·exact F.k y hy
     exact hyk y hy
    ·rcases D6.1 hy with hy|hy
     ·exact F.one y hy
     exact hy1 y hy
    ·rcases hget q y hq with ⟨hlt,hq'⟩|⟨hge,hqn,hq'⟩
     ·simp only [if_pos hlt]
      obtain ⟨a1,a2⟩:=F.cell q y j c' hq' hj
      obtain ⟨b1,b2⟩:=hfx _ _ a1
      exact ⟨b1,b2.trans a2⟩
     obtain ⟨e1,e2⟩:=hcell hqn hge hq' hj
     simp only [if_neg (Oe.2 hge)]
     refine ⟨?_,?_⟩
     ·show tag' _ _=_
      simp only [tag']
      rw [if_pos ⟨trivial,by simp only [off];omega,by simp only [off];omega⟩]
     have:=(hnat' _ _ j c' hq' hj).1
     have hjn:(q-xs.length)*i.size+j<news.length:=by omega
     rw [Ad hjn] at this
     rw [show ad.off+q*i.size+j=off+((q-xs.length)*i.size+j) by simp only [off];omega,hcellin _ hjn]
     exact this
    ·rcases hget q y hq with ⟨hlt,hq'⟩|⟨hge,hqn,hq'⟩
     ·simp only [if_pos hlt]
      exact repFix tag' _ hfx (F.rep q y j c' hq' hj)
     simp only [if_neg (Oe.2 hge)]
     exact repFix tag' _ hfx (hnat' _ _ j c' hq' hj).2
    have h1:ad.off+(xs.length+ys.length)*i.size≤o:=by simpa [hn0] using h1
    show tag' _ _=_
    simp only [tag']
    rw [if_neg (by omega),if_pos ⟨trivial,by omega,h2⟩])
  refine ⟨w1,ad,c,{ G with tag:=tag' },hrun,hspot,fun j hj=>⟨?_,?_⟩,?_,?_⟩
  ·rw [hw1,show ad.off+xs.length*i.size+j=off+j from rfl,World.cell?_setCells_in ad.block zs off w (by simpa [hzl] using hex0) j (by rw [hzl];exact hj),Ad (by rw [hzl];exact hj)]
  ·rw [hw1,World.frozen?_setCells]
   exact h.tags.tail _ _ _ (htl j hj)
  ·rw [←hW];exact h1
  rw [←hW];exact h2
 have hge:=Ll w (xs.length+ys.length) c e
 refine grown (Ct i.size xs.length f) (grownCap w (xs.length+ys.length) c e) f (Builtin.zeroCells z.cells (grownCap w (xs.length+ys.length) c e-(xs.length+ys.length))) hge (Bc _ _ _) (by rw [Value.oneSize _ hzk]) (fun q y j c' hq hj=>?_) F.k F.one ?_
 ·have hjl:j<i.size:=by
   have:=(Ac.1 hj).1
   rw [F.k y (Ax hq)] at this;exact this
  exact ⟨Na (Ac.1 hq).1 hjl,F.rep q y j c' hq hj⟩
 rw [hvb,hvx]
 exact run_append_grow (P:=P) w t ty e i z hu hi hz ad xs.length c (Ct i.size xs.length f) (Bc _ _ _) (F.vals hk) ad2 ys.length c2 (Ct i.size ys.length f2) (Bc _ _ _) (F2.vals hk) (by omega) (by omega) (growslice_fits (by omega) hl)
/-- append, the appended slice's elements known; the base is ours (or nil). -/
theorem AOp.append {t e:TypeId} {i:TypeInfo} {z:Value} {k by':Nat} {r s:Nat} {x:Operand} {o2:Bool} {xs ys:List AV}
  (hu:P.underlying t=some (.slice e)) (hi:P.info? e=some i) (hz:i.zero=some z) (hsz:i.size=k) (hby:i.bytes=by') (hzk:z.cells.size=k) (hk:0<k)
  (hb:I8 (st.fr r) true k xs) (hx:I8 (st.ev x) o2 k ys) (hrs:s≠r) (hs:s<st.sz) (hl:(xs.length+ys.length)*by'≤140737488355328) (hl2:xs.length+ys.length≤4611686018427387904):
  AOp P d ⟨some s,.call ⟨.builtin .append,#[.tmp r,x],#[t,t]⟩,ty,pos,aft,gd⟩ st (·=(st.set r (st.fr r).strip).set s (.slice true k (xs++ys))):=by
 subst hsz
 subst hby
 intro G a w h Q'
 have hrb:=h.slots r
 have hrx:=h.eval x
 have hexec:∀v w',(Builtin.append_ #[t,t] ty #[a.tmps.getD r undef,a.eval x]).run P w=.ok v w' →
   (execOp a.eval (⟨some s,.call ⟨.builtin .append,#[.tmp r,x],#[t,t]⟩,ty,pos,aft,gd⟩:Oper)).run P w=.ok (.value v) w':=by
  intro v w' hv
  have e:a.eval (.tmp r)=a.tmps.getD r undef:=rfl
  simp only [execOp,resolve,invoke,builtin,Sem.run_bind,Sem.run_pure,Result.andThen_ok,Ox,Cl,H9,e,hv]
 have fin:∀(v:Value) (w':World) (G':Gh),(Builtin.append_ #[t,t] ty #[a.tmps.getD r undef,a.eval x]).run P w=.ok v w' →
   StRel d G' ((st.set r (st.fr r).strip).set s (.slice true i.size (xs++ys))) (a.put (some s) v) w'→Keep d G w G' w' →
   (⟨some s,.call ⟨.builtin .append,#[.tmp r,x],#[t,t]⟩,ty,pos,aft,gd⟩:Oper).wpIn (Fr (st.rnd.map G.blk)) 0 P a w (Post d st G w (·=(st.set r (st.fr r).strip).set s (.slice true i.size (xs++ys)))) Q':=by
  intro v w' G' hv h1 h2
  exact Ce (by intro c h;cases h) (hexec v w' hv) ⟨G',_,h1,h2,rfl,rfl,rfl,rfl⟩
 -- a slice whose cells are kept, with its tail given over to slot s
 have same:∀(v:Value),(Builtin.append_ #[t,t] ty #[a.tmps.getD r undef,a.eval x]).run P w=.ok v w →
   (∀tag':Nat→Nat→Tag,(∀b o,tag' b o=if G.tag b o=.tail (.slot d r) then .tail (.slot d s) else G.tag b o)→Rep { G with tag:=tag' } w (some (.slot d s)) (.slice true i.size (xs++ys)) v) →
   (⟨some s,.call ⟨.builtin .append,#[.tmp r,x],#[t,t]⟩,ty,pos,aft,gd⟩:Oper).wpIn (Fr (st.rnd.map G.blk)) 0 P a w (Post d st G w (·=(st.set r (st.fr r).strip).set s (.slice true i.size (xs++ys)))) Q':=by
  intro v hv hrep
  obtain ⟨tag',htag'⟩:∃tag':Nat→Nat→Tag,∀b o,tag' b o=if G.tag b o=.tail (.slot d r) then .tail (.slot d s) else G.tag b o:=⟨fun b o=>if G.tag b o=.tail (.slot d r) then .tail (.slot d s) else G.tag b o,fun _ _=>rfl⟩
  have hne:∀b o,tag' b o≠.free→G.tag b o≠.free:=fun b o hb hc=>by
   rw [htag',hc] at hb;simp at hb
  obtain ⟨h1,h2⟩:=h.rows (w':=w) hrs tag' (fun b o=>by
    rw [htag']
    split
    ·rename_i hc;exact .inr ⟨.inr hc,.inr rfl⟩
    exact .inl rfl) (fun _ _ _ _=>rfl) (fun b o hb=>h.tags.ex b o (hne b o hb))
   (fun b o L hb=>by
    rw [htag'] at hb
    split at hb
    ·rename_i hc;exact h.tags.tail b o _ hc
    exact h.tags.tail b o _ hb)
   (fun b o q hb=>by
    rw [htag'] at hb
    split at hb
    ·cases hb
    ·exact h.tags.obj b o _ hb) (fun _ _ _=>rfl) rfl rfl rfl (Ah _) (Il (fun _ _=>rfl) (Ah _) (fun b o _=>by
    show tag' b o=_∨_
    rw [htag']
    split
    ·rename_i hc;exact .inr ⟨_,hc⟩
    exact .inl rfl) (fun i hi=>.inl ⟨hi,rfl⟩)) hs (hrep tag' htag')
  exact fin v w _ hv h1 h2
 have hfixOf:∀(tag':Nat→Nat→Tag),(∀b o,tag' b o=if G.tag b o=.tail (.slot d r) then .tail (.slot d s) else G.tag b o)→∀b o,G.tag b o=.fix→tag' b o=.fix:=fun tag' ht b o hb=>by
  rw [ht,hb];simp
 have repFix:∀(tag':Nat→Nat→Tag) (w':World),(∀b o,G.tag b o=.fix→tag' b o=.fix∧w'.cell? ⟨b,o,none⟩=w.cell? ⟨b,o,none⟩)→∀{y:AV} {u:Value},Rep G w none y u→Rep { G with tag:=tag' } w' none y u:=fun tag' w' hf y u hy =>
  hy.mono (G':={ G with tag:=tag' }) hf (Ah _) (fun _ _=>rfl) (fun L hL=>by cases hL)
 by_cases hm:ys.length=0
 ·have hys:ys=[]:=Sd hm
  subst hys
  rcases E5 hb hrb with ⟨hvb,rfl⟩|⟨ad,c,f,hvb,hc,F,hown⟩
  ·refine same (.slice none 0 0) ?_ (fun _ _=>.slice0 _ _ _)
   rcases E5 hx hrx with ⟨hvx,_⟩|⟨ad2,c2,f2,hvx,hc2,F2,_⟩<;>(rw [hvb,hvx];simp [Builtin.append_,run_underlying hu,sizeOf,typeInfo,hi,Builtin.lenOf,Builtin.firstCells,loadCells,loadCellsFrom])
  obtain ⟨hspot,L,hL,ho⟩:=hown rfl
  injection hL with hL
  subst hL
  refine same (.slice (some ad) xs.length c) ?_ (fun tag' ht=>?_)
  ·rcases E5 hx hrx with ⟨hvx,_⟩|⟨ad2,c2,f2,hvx,hc2,F2,_⟩<;>(rw [hvb,hvx];simp [Builtin.append_,run_underlying hu,sizeOf,typeInfo,hi,Builtin.lenOf,Builtin.firstCells,loadCells,loadCellsFrom,hc,storeCells])
  rw [Hw]
  refine .slice _ true i.size xs ad _ c f hspot rfl hc F.k F.one (fun q y j c' hq hj=>⟨hfixOf tag' ht _ _ (F.cell q y j c' hq hj).1,(F.cell q y j c' hq hj).2⟩) (fun q y j c' hq hj=>repFix tag' w (fun b o hb=>⟨hfixOf tag' ht b o hb,rfl⟩) (F.rep q y j c' hq hj)) (fun _=>⟨_,rfl,fun o h1 h2=>?_⟩)
  show tag' _ _=_
  rw [ht,ho o h1 h2]
  simp
 rcases E5 hx hrx with ⟨_,rfl⟩|⟨ad2,c2,f2,hvx,hc2,F2,_⟩
 ·exact absurd rfl hm
 obtain ⟨w1,ad,cap,G',hrun,_,hcells,hst,hkp⟩:=StRel.appendPutN (P:=P) (ty:=ty) (yvs:=ys) (news:=Ct i.size ys.length f2) hu hi hz rfl rfl hzk hk hb hvx hc2 F2 rfl (by omega) hrs hs hl hl2 (Bc _ _ _) (fun q y j c hq hj=>⟨_,Na (Ac.1 hq).1 (by
  have:=(Ac.1 hj).1
  rw [F2.k y (Ax hq)] at this;exact this),F2.rep q y j c hq hj⟩) F2.k F2.one h
 have hself:=Kk ad.block (Ct i.size ys.length f2) (ad.off+xs.length*i.size) w1 fun j u hj=>by
  rw [(hcells j (by rw [←Bc i.size ys.length f2];exact (Ac.1 hj).1)).1];exact hj
 rw [hself] at hst hkp
 exact fin _ _ _ hrun hst hkp
end
end Go.SX
namespace Go.SX
variable [GI:GlobInv]
open Classical

variable {O U:List AObj} {b k n o off r s:Nat} {cs ys:List AV} {p:Operand} {t t':TypeId} {x:AObj} {y:AV}
noncomputable def Gh.retag (G:Gh) (A B:Loc):Gh:={ G with tag:=fun b o=>if G.tag b o=.tail A then .tail B else G.tag b o }

section
variable {G:Gh} {w:World} {A B:Loc}
theorem Fd (h:G.tag b o=.fix):(G.retag A B).tag b o=.fix:=by simp [Gh.retag,h]
theorem K9 {i:Nat} (h:G.tag b o=.obj i):(G.retag A B).tag b o=.obj i:=by simp [Gh.retag,h]
theorem Ha {b o:Nat} {L:Loc} (hL:L≠A) (h:G.tag b o=.tail L):(G.retag A B).tag b o=.tail L:=by
 simp only [Gh.retag,h]
 rw [if_neg]
 intro e;injection e with e;exact hL e
theorem Still.retag:Still G w (G.retag A B) w:=Il (fun _ _=>rfl) (Ah _) (fun b o _=>by
 simp only [Gh.retag]
 split
 ·rename_i hc;exact .inr ⟨_,hc⟩
 exact .inl rfl) (fun _ hi=>.inl ⟨hi,rfl⟩)
theorem Rep.retag {l:Option Loc} {x:AV} {u:Value} (hl:l≠some A) (h:Rep G w l x u):Rep (G.retag A B) w l x u:=
 h.mono (G':=G.retag A B) (fun _ _ hb=>⟨Fd hb,rfl⟩) (Ah _) (fun _ _=>rfl) (fun _ hL _ _ ht=>Ha (fun e=>hl (by rw [hL,e])) ht)
theorem Rep.moved {x:AV} {u:Value} (h:Rep G w (some A) x u):Rep (G.retag A B) w (some B) x u:=by
 have hn:∀{y:AV} {z:Value},Rep G w none y z→Rep (G.retag A B) w none y z:=fun h=>h.retag (by simp)
 cases h with
 | any _ x=>exact .any _ _
 | v _ x=>exact .v _ _
 | nil=>exact .nil _
 | agg _ cs vs hn' h1 h=>exact .agg _ _ _ hn' h1 (fun i y u a b=>hn (h i y u a b))
 | tup _ cs vs hn' h=>exact .tup _ _ _ hn' (fun i y u a b=>hn (h i y u a b))
 | slice0 _ own k=>exact .slice0 _ _ _
 | sliceE _ k ad c=>exact .sliceE _ k ad c
 | slice _ own k xs ad n c f hs hn' hc hk h1 hf hr ho =>
  refine .slice _ own k xs ad n c f hs hn' hc hk h1 (fun i x j y a b=>⟨Fd (hf i x j y a b).1,(hf i x j y a b).2⟩) (fun i x j y a b=>hn (hr i x j y a b)) (fun hown=>?_)
  obtain ⟨L,hL,h⟩:=ho hown
  injection hL with hL
  subst hL
  exact ⟨B,rfl,fun o a b=>by simp [Gh.retag,h o a b]⟩
 | ro _ cs ad f hs h1 hf hr=>exact .ro _ cs ad f hs h1 (fun j y a=>⟨Fd (hf j y a).1,(hf j y a).2⟩) (fun j y a=>hn (hr j y a))
 | ptr _ o off ho=>exact .ptr (G:=G.retag A B) _ o off ho
 | fn _ f as cs va vc ha hc h1 h2=>exact .fn _ f as cs va vc ha hc (fun i y u a b=>hn (h1 i y u a b)) (fun i y u a b=>hn (h2 i y u a b))
 | yield _ o ho=>exact .yield (G:=G.retag A B) _ o ho
 | iface _ t x u h=>exact .iface _ t x u (hn h)
 | sl _ o k n c ho=>exact .sl (G:=G.retag A B) _ o k n c ho
 | cellp _ k b ho =>
  obtain ⟨L,hL,h⟩:=ho
  injection hL with hL
  subst hL
  exact .cellp (G:=G.retag A B) _ k b ⟨B,rfl,fun o a=>by simp [Gh.retag,h o a]⟩
 | full _ k xs ad n h=>exact .full _ k xs ad n (hn h)
theorem TagOK.retag (h:TagOK G w):TagOK (G.retag A B) w:=by
 refine ⟨fun b o hb=>h.ex b o ?_,fun b o i hb=>?_,fun b o L hb=>?_,h.globKeep Still.retag⟩
 ·intro e
  simp [Gh.retag,e] at hb
 ·simp only [Gh.retag] at hb
  split at hb
  ·cases hb
  exact h.obj b o i hb
 simp only [Gh.retag] at hb
 split at hb
 ·rename_i hc;exact h.tail b o _ hc
 exact h.tail b o L hb
theorem ObjRel.retag {i:Nat} {x:AObj} (hA:∀j,A≠.cell i j) (h:ObjRel G w i x):ObjRel (G.retag A B) w i x:=by
 cases x with
 | cells t cs =>
  obtain ⟨vs,h1,h2,h3,h4⟩:=h
  exact ⟨vs,h1,h2,fun j y u a b=>(h3 j y u a b).retag (by simp;exact fun e=>hA j e.symm),fun j hj=>K9 (h4 j hj)⟩
 | loop st pd fr sz ps as bd df =>
  obtain ⟨fn,tmps,h1,h2,h3,h4⟩:=h
  exact ⟨fn,tmps,h1,h2,fun s=>(h3 s).retag (by simp),h4⟩
 | defs=>exact h
 | dead=>exact h
 | bld t e bs =>
  obtain ⟨p,v,h1,h2,h3,h4⟩:=h
  refine ⟨p,v,h1,h2,fun j hj=>K9 (h3 j hj),?_⟩
  rcases h4 with h4|⟨g,cap,cur,a1,a2,a3,a4,a5,a6,a7,a8,a9⟩
  ·exact .inl h4
  exact .inr ⟨g,cap,cur,a1,a2,a3,a4,a5,a6,a7,a8,fun j hj=>K9 (a9 j hj)⟩
 | gone =>
  obtain ⟨vs,t,fz,h1,h2⟩:=h
  exact ⟨vs,t,fz,h1,fun j hj=>Fd (h2 j hj)⟩
end

section
variable {P:Program} {d:Nat}

/-- What slot r owns goes to B. -/
theorem StRel.giveSlot {G:Gh} {st:St} {a:Act} {w:World} (h:StRel d G st a w) (r:Nat) (B:Loc):
  StRel d (G.retag (.slot d r) B) (st.set r (st.fr r).strip) a w∧Keep d G w (G.retag (.slot d r) B) w:=by
 refine ⟨⟨h.size,fun i=>?_,⟨fun i x hx=>(h.heap.obj i x hx).retag (by simp),h.heap.n,h.heap.inj⟩,h.defs,h.defsAt,h.defsNodup,h.defsGe,h.tags.retag,h.rnd,h.low,h.top⟩,
  ⟨fun b o hb=>⟨Fd hb,rfl⟩,fun b o e s he ht=>Ha (by rintro ⟨⟩;omega) ht,Ah _,fun _ _=>rfl,rfl,rfl,rfl,Ah _,Still.retag⟩⟩
 show Rep _ w _ (Aa r (st.fr r).strip st.fr i) _
 unfold Aa
 by_cases hi:i=r
 ·subst hi
  rw [if_pos rfl]
  exact ((h.slots i).strip (l':=none)).retag (by simp) |>.lift
 rw [if_neg hi]
 exact (h.slots i).retag (by simp;exact fun e=>hi e)

/-- A cell of an abstract object, no longer owner. -/
def Hr (cs:List AV) (j:Nat):List AV:=cs.set j ((cs.getD j .any).strip)

/-- What an object's cell owns goes to B. -/
theorem StRel.giveCell {G:Gh} {st:St} {a:Act} {w:World} (h:StRel d G st a w) {o j:Nat} {t:TypeId} {cs:List AV} (ho:(st.up++st.own)[o]? = some (.cells t cs)) (B:Loc) {U O:List AObj}
  (hUO:U++O=(st.up++st.own).set o (.cells t (Hr cs j))) (hU:U.length=st.up.length) (hl:∀x∈U,ObjLow U.length x) (hB:∀e s,B=.slot e s→e=d):
  StRel d (G.retag (.cell o j) B) { st with up:=U,own:=O } a w∧Keep d G w (G.retag (.cell o j) B) w:=by
 have hlen:o<(st.up++st.own).length:=(Ac.1 ho).1
 refine ⟨⟨h.size,fun i=>(h.slots i).retag (by simp),⟨fun i x hx=>?_,?_,h.heap.inj⟩,h.defs,fun q hq=>?_,h.defsNodup,(fun q hq=>by show U.length≤q;rw [hU];exact h.defsGe q hq),h.tags.retag,fun l hl'=>by show l<U.length;rw [hU];exact h.rnd l hl',hl,h.top⟩,
  ⟨fun b o hb=>⟨Fd hb,rfl⟩,fun b o e s he ht=>Ha (by simp) ht,Ah _,fun _ _=>rfl,rfl,rfl,rfl,Ah _,Still.retag⟩⟩
 ·have hx:(U++O)[i]? = some x:=hx
  rw [hUO,J6] at hx
  by_cases hi:o=i
  ·subst hi
   rw [if_pos rfl,if_pos hlen] at hx
   injection hx with hx
   subst hx
   obtain ⟨vs,h1,h2,h3,h4⟩:=h.heap.obj o _ ho
   refine ⟨vs,h1,by rw [h2];simp [Hr],fun q y u hy hu=>?_,fun q hq=>K9 (h4 q (by simpa [Hr] using hq))⟩
   simp only [Hr,J6] at hy
   by_cases hq:j=q
   ·subst hq
    rw [if_pos rfl] at hy
    split at hy
    ·rename_i hlt
     injection hy with hy
     subst hy
     rw [Dw,Ad hlt,Option.getD_some]
     exact ((h3 j _ u (Ad hlt) hu).strip (l':=none)).retag (by simp) |>.lift
    cases hy
   rw [if_neg hq] at hy
   exact (h3 q y u hy hu).retag (by simp;exact fun e=>hq e.symm)
  rw [if_neg hi] at hx
  exact (h.heap.obj i x hx).retag (by simp;exact hi)
 ·show G.n=(U++O).length
  rw [hUO,Cy];exact h.heap.n
 show (U++O)[q]? = _
 rw [hUO,J6]
 have:=h.defsAt q hq
 by_cases hi:o=q
 ·subst hi;rw [ho] at this;cases this
 rw [if_neg hi];exact this

/-- The cells of an abstract object behind a store. -/
def Bl (cs:List AV) (off:Nat) (ys:List AV):List AV:=cs.take off++ys++cs.drop (off+ys.length)

theorem Lm {cs ys:List AV} {off j:Nat} (hfit:off+ys.length≤cs.length):(Bl cs off ys)[j]? = if off≤j∧j<off+ys.length then ys[j-off]? else cs[j]? := by
 unfold Bl
 have hto:(cs.take off).length=off:=by simp;omega
 rcases B0 j off with h|h
 ·rw [Br,Cx (by omega),if_neg (by omega),Eo,if_pos h]
 rcases B0 j (off+ys.length) with h'|h'
 ·rw [Br,Cp (by omega),hto,Cx (by omega),if_pos ⟨h,h'⟩]
 rw [Cp (by simp;omega),if_neg (by omega),Dl]
 congr 1
 simp;omega
theorem Gu (hfit:off+ys.length≤cs.length):(Bl cs off ys).length=cs.length:=by simp [Bl];omega

theorem Hb (b:Nat) (t:TypeId) (fz:Nat×Nat):∀(us:List Value) (off:Nat) (w:World) (vs:Array Value),w.heap[b]? = some (.cells vs t fz)→off+us.length≤vs.size →
  ∃vs':Array Value,(w.setCells b off us).heap[b]? = some (.cells vs' t fz)∧vs'.size=vs.size∧∀j,vs'[j]? = if off≤j∧j<off+us.length then us[j-off]? else vs[j]?
 | [],off,w,vs,h,_=>⟨vs,h,rfl,fun j=>by rw [if_neg (by simp)]⟩
 | u::r,off,w,vs,h,hfit=>by
  have h1:(w.setCell ⟨b,off,none⟩ u).heap[b]? = some (.cells (vs.setIfInBounds off u) t fz):=by
   simp [World.setCell,ct,h]
  obtain ⟨vs',a1,a2,a3⟩:=Hb b t fz r (off+1) _ _ h1 (by simp at hfit ⊢;omega)
  refine ⟨vs',a1,by rw [a2];simp,fun j=>?_⟩
  rw [a3 j]
  simp only [Ar] at hfit ⊢
  by_cases hj:j=off
  ·subst hj
   rw [if_neg (by omega),if_pos (by omega)]
   simp [show j<vs.size by omega]
  by_cases hin:off+1≤j∧j<off+1+r.length
  ·rw [if_pos hin,if_pos (by omega),show j-off=(j-(off+1))+1 by omega,Ii]
  rw [if_neg hin,if_neg (by omega)]
  exact M9 (fun e=>hj e.symm)

/-- Some cells of one of our objects are written. -/
theorem StRel.stored {G:Gh} {st:St} {a:Act} {w:World} (h:StRel d G st a w) {o off:Nat} {t:TypeId} {cs ys:List AV} {us:List Value} (ho:(st.up++st.own)[o]? = some (.cells t cs)) (hlen:us.length=ys.length)
  (hfit:off+ys.length≤cs.length) (hrep:∀(j:Nat) (y:AV) (u:Value),ys[j]? = some y→us[j]? = some u→Rep G w (some (.cell o (off+j))) y u) (hone:∀u∈us,u.oneCell'=true) {U O:List AObj}
  (hUO:U++O=(st.up++st.own).set o (.cells t (Bl cs off ys))) (hU:U.length=st.up.length) (hl:∀x∈U,ObjLow U.length x):
  (storeCells ⟨G.blk o,off,none⟩ us).run P w=.ok () (w.setCells (G.blk o) off us)∧StRel d G { st with up:=U,own:=O } a (w.setCells (G.blk o) off us)∧Turn G w G (w.setCells (G.blk o) off us):=by
 have hol:o<(st.up++st.own).length:=(Ac.1 ho).1
 have hgn:=h.heap.n
 obtain ⟨vs,h1,h2,h3,h4⟩:=h.heap.obj o _ ho
 have htag:∀j,j<us.length→G.tag (G.blk o) (off+j)=.obj o:=fun j hj=>h4 _ (by omega)
 have hrun:=run_storeCells_cells (P:=P) (G.blk o) off us 0 w (fun j hj=>by
   obtain ⟨u,hu⟩:=h.tags.ex _ _ (show G.tag (G.blk o) (off+j)≠.free by rw [htag j hj];simp)
   simp only [Nat.add_zero];rw [hu];rfl) (fun j hj=>by simpa using h.tags.obj _ _ _ (htag j hj)) hone
 simp only [Nat.add_zero] at hrun
 have hcell:∀b q,G.tag b q≠.obj o→(w.setCells (G.blk o) off us).cell? ⟨b,q,none⟩=w.cell? ⟨b,q,none⟩:=fun b q hne =>
  World.cell?_setCells_out _ us off w ⟨b,q,none⟩ (fun hb _=>by
   simp only at hb ⊢
   rcases B0 q off with h'|h'
   ·exact .inl h'
   refine .inr (Oa fun h''=>hne ?_)
   have:=htag (q-off) (by omega)
   rw [show off+(q-off)=q by omega,←hb] at this
   exact this)
 have T:Turn G w G (w.setCells (G.blk o) off us):=⟨fun b q hb=>⟨hb,hcell b q (by rw [hb];simp)⟩,fun _ _ _ hb=>hb,fun _ _ _ hb=>hb,Ah _,fun _ _=>rfl,Fc _ _ _ _,Dt _ _ _ _,D9 _ _ _ _,H1 (D0 _ _ _ _).symm,Still.write (G.blk o) (J7 (by rw [hgn];exact hol)) (fun b hb=>D3 _ _ _ _ _ hb) (H1 (D0 _ _ _ _).symm)⟩
 refine ⟨hrun,?_,T⟩
 obtain ⟨vs',b1,b2,b3⟩:=Hb (G.blk o) t (0,0) us off w vs h1 (by omega)
 refine h.turn T ⟨fun i x hx=>?_,by rw [hUO,Cy];exact hgn,h.heap.inj⟩ hU (fun q hq=>?_) ⟨fun b q hb=>?_,fun b q i hb=>?_,fun b q L hb=>?_,h.tags.globKeep T.old⟩ hl
 ·rw [hUO,J6] at hx
  by_cases hi:o=i
  ·subst hi
   rw [if_pos rfl,if_pos hol] at hx
   injection hx with hx
   subst hx
   refine ⟨vs',b1,by rw [b2,h2,Gu hfit],fun j y u hy hu=>?_,fun j hj=>h4 j (by rw [Gu hfit] at hj;exact hj)⟩
   rw [Lm hfit] at hy
   rw [b3] at hu
   by_cases hin:off≤j∧j<off+ys.length
   ·rw [if_pos hin] at hy
    rw [if_pos (by omega)] at hu
    have:=hrep (j-off) y u hy hu
    rw [show off+(j-off)=j by omega] at this
    exact T.rep this
   rw [if_neg hin] at hy
   rw [if_neg (by omega)] at hu
   exact T.rep (h3 j y u hy hu)
  rw [if_neg hi] at hx
  have hil:i<G.n:=by rw [hgn];exact (Ac.1 hx).1
  refine T.objRel hil ?_ (h.heap.obj i x hx) (fun b hb=>?_)
  ·exact D3 _ us off w _ (fun e=>hi (h.heap.inj o i (by omega) hil e.symm))
  exact D3 _ us off w _ (hb.ne (h.heap.obj o _ ho) (fun e=>hi e.symm))
 ·rw [hUO,J6]
  have:=h.defsAt q hq
  by_cases hi:o=q
  ·subst hi;rw [ho] at this;cases this
  rw [if_neg hi];exact this
 ·by_cases he:∃i,G.tag b q=.obj i∧i=o
  ·obtain ⟨i,hi,rfl⟩:=he
   obtain ⟨u,hu⟩:=h.tags.ex b q hb
   -- the cell lies in a block of cells; sets keep that
   rcases Classical.em (b=G.blk i) with rfl|hne
   ·have hlt:q<vs.size:=by
     simp only [World.cell?,h1] at hu
     rcases B0 q vs.size with h'|h'
     ·exact h'
     simp [R9 h'] at hu
    exact ⟨vs'[q]'(by omega),by simp [World.cell?,b1,b2,hlt]⟩
   refine ⟨u,?_⟩
   rw [←hu]
   exact World.cell?_setCells_out _ us off w ⟨b,q,none⟩ (fun hb _=>absurd hb hne)
  rw [hcell b q (fun e=>he ⟨o,e,rfl⟩)]
  exact h.tags.ex b q hb
 ·rw [World.frozen?_setCells];exact h.tags.obj b q i hb
 rw [World.frozen?_setCells];exact h.tags.tail b q L hb

variable {st:St} {dst:Option Tmp} {ty:TypeId} {pos:String} {aft:Array Edge} {gd:Option (Nat×Bool)}

theorem Bm:(U++O).set (U.length+n) x=U++O.set n x:=by
 rw [List.set_append,if_neg (by omega),Sk]
theorem C2 (h:o<U.length):(U++O).set o x=U.set o x++O:=by
 rw [List.set_append,if_pos h]
theorem Db:(U++O)[U.length+n]? = O[n]? := by
 rw [Cp (by omega),Sk]
theorem An (h:U[o]? = some x):(U++O)[o]? = some x:=by
 rw [Cx (Ac.1 h).1];exact h

theorem E6 {U:List AObj} {m o:Nat} {x:AObj} (h:∀y∈U,ObjLow m y) (hx:ObjLow m x):∀y∈U.set o x,ObjLow m y:=by
 intro y hy
 rcases Lj hy with h'|h'
 ·exact h y h'
 exact h' ▸ hx
theorem Ye {m:Nat} {cs ys:List AV} {off:Nat} (h:∀y∈cs,Low m y) (h':∀y∈ys,Low m y):∀y∈Bl cs off ys,Low m y:=by
 intro y hy
 simp only [Bl,Br,D6] at hy
 rcases hy with hy|hy|hy
 ·exact h y (K4 hy)
 ·exact h' y hy
 exact h y (Li hy)

theorem E7 {x:Operand} {a:Act} {w w':World} {ad:Addr} (hsz:∀w,(sizeOf t).run P w=.ok k w) (hp:a.eval p=.pointer (some ad)) (hk:(a.eval x).cells.size=k)
  (hrun:(storeCells ad (a.eval x).cells.toList).run P w=.ok () w'):(execOp a.eval (⟨dst,.store t p x,ty,pos,aft,gd⟩:Oper)).run P w=.ok .skip w':=by
 simp [execOp,Instr.storeAt,Instr.sureAddr,hp,storeVar,hsz,hk,hrun]

/-- A store to a variable of our own. -/
theorem AOp.storeOwn {t t':TypeId} {p x:Operand} {n off k:Nat} {y:AV} {cs:List AV} (hsz:∀w,(sizeOf t).run P w=.ok k w) (hp:st.ev p=.ptr (st.up.length+n) off) (ho:st.own[n]? = some (.cells t' cs))
  (hx:st.ev x=y) (hk:y.cells.length=k) (h1:y.cells.all AV.one=true) (hfit:off+k≤cs.length):
  AOp P d ⟨none,.store t p x,ty,pos,aft,gd⟩ st (·={ st with own:=st.own.set n (.cells t' (Bl cs off y.cells)) }):=by
 intro G a w h Q'
 obtain ⟨hc,hcc⟩:=(hx ▸ h.eval x).cells (fun y hy=>Ap.1 h1 y hy)
 have hpv:a.eval p=.pointer (some ⟨G.blk (st.up.length+n),off,none⟩):=by
  have:=hp ▸ h.eval p
  generalize a.eval p=u at this
  cases this;rfl
 obtain ⟨hrun,hrel,T⟩:=h.stored (P:=P) (o:=st.up.length+n) (off:=off) (us:=(a.eval x).cells.toList) (ys:=y.cells) (U:=st.up) (O:=st.own.set n (.cells t' (Bl cs off y.cells)))
  (by rw [Db];exact ho) (by simpa using hc) (by omega) (fun j z u hz hu=>(hcc j z u hz (by simpa using hu)).lift)
  (fun u hu=>by
   obtain ⟨j,hj⟩:=Cc hu
   have hjl:j<y.cells.length:=by
    have:=(Ac.1 hj).1
    simpa [hc] using this
   have hz:=Ad hjl
   exact (hcc j _ u hz (by simpa using hj)).one (Ap.1 h1 _ (Ax hz)))
  (by rw [Bm]) rfl h.low
 exact Eh (by intro c h;cases h) (E7 hsz hpv (by rw [hc,hk]) hrun) ⟨G,_,hrel,T.keep d,rfl,rfl,rfl,rfl⟩

/-- A store to a variable of somebody who waits. -/
theorem AOp.storeUp {t t':TypeId} {p x:Operand} {o off k:Nat} {y:AV} {cs:List AV} (hsz:∀w,(sizeOf t).run P w=.ok k w) (hp:st.ev p=.ptr o off) (ho:st.up[o]? = some (.cells t' cs))
  (hx:st.ev x=y) (hk:y.cells.length=k) (h1:y.cells.all AV.one=true) (hfit:off+k≤cs.length) (hlow:∀z∈y.cells,Low st.up.length z):
  AOp P d ⟨none,.store t p x,ty,pos,aft,gd⟩ st (·={ st with up:=st.up.set o (.cells t' (Bl cs off y.cells)) }):=by
 intro G a w h Q'
 obtain ⟨hc,hcc⟩:=(hx ▸ h.eval x).cells (fun y hy=>Ap.1 h1 y hy)
 have hpv:a.eval p=.pointer (some ⟨G.blk o,off,none⟩):=by
  have:=hp ▸ h.eval p
  generalize a.eval p=u at this
  cases this;rfl
 have hol:o<st.up.length:=(Ac.1 ho).1
 obtain ⟨hrun,hrel,T⟩:=h.stored (P:=P) (o:=o) (off:=off) (us:=(a.eval x).cells.toList) (ys:=y.cells) (U:=st.up.set o (.cells t' (Bl cs off y.cells))) (O:=st.own)
  (An ho) (by simpa using hc) (by omega) (fun j z u hz hu=>(hcc j z u hz (by simpa using hu)).lift)
  (fun u hu=>by
   obtain ⟨j,hj⟩:=Cc hu
   have hjl:j<y.cells.length:=by
    have:=(Ac.1 hj).1
    simpa [hc] using this
   have hz:=Ad hjl
   exact (hcc j _ u hz (by simpa using hj)).one (Ap.1 h1 _ (Ax hz)))
  (by rw [C2 hol]) (by simp) (by
   rw [Cy]
   exact E6 h.low (Ye (h.low _ (Ax ho)) hlow))
 exact Eh (by intro c h;cases h) (E7 hsz hpv (by rw [hc,hk]) hrun) ⟨G,_,hrel,T.keep d,by simp,rfl,rfl,rfl⟩

/-- A store that gives what slot r owns to a variable of our own. -/
theorem AOp.storeOwnT {t t':TypeId} {p:Operand} {r n off:Nat} {cs:List AV} (hsz:∀w,(sizeOf t).run P w=.ok 1 w) (hp:st.ev p=.ptr (st.up.length+n) off) (ho:st.own[n]? = some (.cells t' cs))
  (h1:(st.fr r).one=true) (hfit:off+1≤cs.length):
  AOp P d ⟨none,.store t p (.tmp r),ty,pos,aft,gd⟩ st (·={ st.set r (st.fr r).strip with own:=st.own.set n (.cells t' (Bl cs off [st.fr r])) }):=by
 intro G a w h Q'
 have hpv:a.eval p=.pointer (some ⟨G.blk (st.up.length+n),off,none⟩):=by
  have:=hp ▸ h.eval p
  generalize a.eval p=u at this
  cases this;rfl
 have hm:=(h.slots r).moved (B:=.cell (st.up.length+n) off)
 obtain ⟨h',k'⟩:=h.giveSlot r (.cell (st.up.length+n) off)
 have hv1:(a.eval (.tmp r)).oneCell'=true:=(h.slots r).one h1
 obtain ⟨hrun,hrel,T⟩:=h'.stored (P:=P) (o:=st.up.length+n) (off:=off) (us:=[a.eval (.tmp r)]) (ys:=[st.fr r]) (U:=st.up) (O:=st.own.set n (.cells t' (Bl cs off [st.fr r])))
  (by show (st.up++st.own)[_]? = _;rw [Db];exact ho) rfl (by simpa using hfit) (fun j z u hz hu=>by
   cases j with
   | zero=>simp at hz hu;subst hz;subst hu;exact hm
   | succ j=>simp at hz) (by simpa using hv1) (by show _=(st.up++st.own).set _ _;rw [Bm]) rfl h.low
 have hrun':=E7 (dst:=none) (ty:=ty) (pos:=pos) (aft:=aft) (gd:=gd) (p:=p) (x:=.tmp r) (a:=a) (w:=w) hsz hpv (by rw [Gn hv1];rfl) (by rw [Gn hv1];exact hrun)
 exact Eh (by intro c h;cases h) hrun' ⟨_,_,hrel,k'.trans (T.keep d),rfl,rfl,rfl,rfl⟩

theorem AOp.storeUpT {t t':TypeId} {p:Operand} {r o off:Nat} {cs:List AV} (hsz:∀w,(sizeOf t).run P w=.ok 1 w) (hp:st.ev p=.ptr o off) (ho:st.up[o]? = some (.cells t' cs))
  (h1:(st.fr r).one=true) (hfit:off+1≤cs.length) (hlow:Low st.up.length (st.fr r)):
  AOp P d ⟨none,.store t p (.tmp r),ty,pos,aft,gd⟩ st (·={ st.set r (st.fr r).strip with up:=st.up.set o (.cells t' (Bl cs off [st.fr r])) }):=by
 intro G a w h Q'
 have hpv:a.eval p=.pointer (some ⟨G.blk o,off,none⟩):=by
  have:=hp ▸ h.eval p
  generalize a.eval p=u at this
  cases this;rfl
 have hol:o<st.up.length:=(Ac.1 ho).1
 have hm:=(h.slots r).moved (B:=.cell o off)
 obtain ⟨h',k'⟩:=h.giveSlot r (.cell o off)
 have hv1:(a.eval (.tmp r)).oneCell'=true:=(h.slots r).one h1
 obtain ⟨hrun,hrel,T⟩:=h'.stored (P:=P) (o:=o) (off:=off) (us:=[a.eval (.tmp r)]) (ys:=[st.fr r]) (U:=st.up.set o (.cells t' (Bl cs off [st.fr r]))) (O:=st.own)
  (An ho) rfl (by simpa using hfit) (fun j z u hz hu=>by
   cases j with
   | zero=>simp at hz hu;subst hz;subst hu;exact hm
   | succ j=>simp at hz) (by simpa using hv1) (by show _=(st.up++st.own).set _ _;rw [C2 hol]) (by simp [St.set]) (by
   rw [Cy]
   exact E6 h.low (Ye (h.low _ (Ax ho)) (by simpa using hlow)))
 have hrun':=E7 (dst:=none) (ty:=ty) (pos:=pos) (aft:=aft) (gd:=gd) (p:=p) (x:=.tmp r) (a:=a) (w:=w) hsz hpv (by rw [Gn hv1];rfl) (by rw [Gn hv1];exact hrun)
 exact Eh (by intro c h;cases h) hrun' ⟨_,_,hrel,k'.trans (T.keep d),by simp,rfl,rfl,rfl⟩

/-- What slot r holds, and owns, goes to slot s. -/
theorem AOp.moveT {r s:Nat} (hs:s<st.sz):AOp P d ⟨some s,.move (.tmp r),ty,pos,aft,gd⟩ st (·=(st.set r (st.fr r).strip).set s (st.fr r)):=by
 intro G a w h Q'
 have hm:=(h.slots r).moved (B:=.slot d s)
 obtain ⟨h',k'⟩:=h.giveSlot r (.slot d s)
 exact Ce (v:=a.eval (.tmp r)) (by intro c h;cases h) (by simp [execOp]) ⟨_,_,h'.put hs hm,k',rfl,rfl,rfl,rfl⟩
theorem AOp.assignT {r s:Nat} (hs:s<st.sz):AOp P d ⟨some s,.assign (.tmp r),ty,pos,aft,gd⟩ st (·=(st.set r (st.fr r).strip).set s (st.fr r)):=by
 intro G a w h Q'
 have hm:=(h.slots r).moved (B:=.slot d s)
 obtain ⟨h',k'⟩:=h.giveSlot r (.slot d s)
 exact Ce (v:=a.eval (.tmp r)) (by intro c h;cases h) (by simp [execOp]) ⟨_,_,h'.put hs hm,k',rfl,rfl,rfl,rfl⟩

/-- A load that takes what an object's cell owns. -/
theorem AOp.loadOwnT {t t':TypeId} {p:Operand} {n off s:Nat} {cs:List AV} {y:AV} (hagg:∀w,(isAgg t).run P w=.ok false w) (hp:st.ev p=.ptr (st.up.length+n) off) (ho:st.own[n]? = some (.cells t' cs)) (hy:cs[off]? = some y) (hs:s<st.sz):
  AOp P d ⟨some s,.load t p,ty,pos,aft,gd⟩ st (·=({ st with own:=st.own.set n (.cells t' (cs.set off y.strip)) }:St).set s y):=by
 intro G a w h Q'
 have hr:=hp ▸ h.eval p
 generalize hv:a.eval p=v at hr
 cases hr with
 | ptr l o off hlt =>
  have hog:(st.up++st.own)[st.up.length+n]? = some (.cells t' cs):=by rw [Db];exact ho
  obtain ⟨u,hu,hrep⟩:=Je (h.heap.obj _ _ hog) hy
  have hst:Hr cs off=cs.set off y.strip:=by simp [Hr,Dw,hy]
  obtain ⟨h',k'⟩:=h.giveCell (j:=off) hog (.slot d s) (U:=st.up) (O:=st.own.set n (.cells t' (cs.set off y.strip))) (by rw [Bm,hst]) rfl h.low (by rintro e s ⟨⟩;rfl)
  refine Ce (v:=u) (by intro c h;cases h) (by simp [execOp,Instr.loadAt,Instr.sureAddr,hv,loadVar,hagg,hu]) ⟨_,_,h'.put hs hrep.moved,k',rfl,rfl,rfl,rfl⟩
theorem AOp.loadUpT {t t':TypeId} {p:Operand} {o off s:Nat} {cs:List AV} {y:AV} (hagg:∀w,(isAgg t).run P w=.ok false w) (hp:st.ev p=.ptr o off) (ho:st.up[o]? = some (.cells t' cs)) (hy:cs[off]? = some y) (hs:s<st.sz):
  AOp P d ⟨some s,.load t p,ty,pos,aft,gd⟩ st (·=({ st with up:=st.up.set o (.cells t' (cs.set off y.strip)) }:St).set s y):=by
 intro G a w h Q'
 have hr:=hp ▸ h.eval p
 generalize hv:a.eval p=v at hr
 have hol:o<st.up.length:=(Ac.1 ho).1
 cases hr with
 | ptr l o off hlt =>
  have hog:(st.up++st.own)[o]? = some (.cells t' cs):=An ho
  obtain ⟨u,hu,hrep⟩:=Je (h.heap.obj _ _ hog) hy
  have hst:Hr cs off=cs.set off y.strip:=by simp [Hr,Dw,hy]
  obtain ⟨h',k'⟩:=h.giveCell (j:=off) hog (.slot d s) (U:=st.up.set o (.cells t' (cs.set off y.strip))) (O:=st.own) (by rw [C2 hol,hst]) (by simp) (by
    rw [Cy]
    refine E6 h.low (fun z hz=>?_)
    have hlc:=h.low _ (Ax ho)
    rcases Lj hz with h'|h'
    ·exact hlc z h'
    rw [h'];exact (hlc y (Ax hy)).strip) (by rintro e s ⟨⟩;rfl)
  refine Ce (v:=u) (by intro c h;cases h) (by simp [execOp,Instr.loadAt,Instr.sureAddr,hv,loadVar,hagg,hu]) ⟨_,_,h'.put hs hrep.moved,k',by simp [St.set],rfl,rfl,rfl⟩
end
end Go.SX
namespace Go.SX
variable [GI:GlobInv]
open Classical
section
variable {P:Program} {d:Nat}

theorem Ln (off:Nat):∀(l:List Value) (n:Nat) (cells:Array Value),off+n+l.length≤cells.size →
  ((l.zipIdx n).foldl (fun cs (x:Value×Nat)=>cs.setIfInBounds (off+x.2) x.1) cells).size=cells.size ∧
  ∀q,((l.zipIdx n).foldl (fun cs (x:Value×Nat)=>cs.setIfInBounds (off+x.2) x.1) cells)[q]? = if off+n≤q∧q<off+n+l.length then l[q-(off+n)]? else cells[q]?
 | [],n,cells,_=>⟨rfl,fun q=>by rw [if_neg (by simp)];rfl⟩
 | v::l,n,cells,h=>by
  simp only [List.zipIdx_cons,List.foldl_cons]
  simp only [Ar] at h
  obtain ⟨h1,h2⟩:=Ln off l (n+1) (cells.setIfInBounds (off+n) v) (by simp;omega)
  refine ⟨by rw [h1];simp,fun q=>?_⟩
  rw [h2]
  simp only [Ar]
  by_cases hq:q=off+n
  ·subst hq
   rw [if_neg (by omega),if_pos (by omega)]
   simp [show off+n<cells.size by omega]
  by_cases hin:off+(n+1)≤q∧q<off+(n+1)+l.length
  ·rw [if_pos hin,if_pos (by omega),show q-(off+n)=(q-(off+(n+1)))+1 by omega,Ii]
  rw [if_neg hin,if_neg (by omega)]
  exact M9 (fun e=>hq e.symm)

theorem Yf (off:Nat) (l cells:Array Value) (h:off+l.size≤cells.size):
  (l.zipIdx.foldl (fun cs (x:Value×Nat)=>cs.setIfInBounds (off+x.2) x.1) cells).size=cells.size ∧
  ∀q,(l.zipIdx.foldl (fun cs (x:Value×Nat)=>cs.setIfInBounds (off+x.2) x.1) cells)[q]? = if off≤q∧q<off+l.size then l[q-off]? else cells[q]? := by
 have e:l.zipIdx.foldl (fun cs (x:Value×Nat)=>cs.setIfInBounds (off+x.2) x.1) cells=(l.toList.zipIdx 0).foldl (fun cs (x:Value×Nat)=>cs.setIfInBounds (off+x.2) x.1) cells:=by
  rw [←Array.foldl_toList,Array.toList_zipIdx]
 rw [e]
 obtain ⟨h1,h2⟩:=Ln off l.toList 0 cells (by simpa using h)
 exact ⟨h1,fun q=>by rw [h2];simp⟩

/-- A struct's or an array's cells, parts laid over zeros. -/
def Fk (place:Nat→Option (Nat×Nat)):List AV→List (Nat×AV)→Option (List AV)
 | cs,[]=>some cs
 | cs,(i,y)::rest =>
  match place i with
  | none=>none
  | some (off,size)=>if y.cells.length=size∧off+y.cells.length≤cs.length∧y.cells.all AV.one=true then Fk place (Bl cs off y.cells) rest else none

theorem Kx {G:Gh} {w:World} (place:Nat→Option (Nat×Nat)):∀(parts:List (Nat×AV)) (vals:List (Nat×Value)) (cs cs':List AV) (vs:Array Value),parts.length=vals.length →
  (∀(j:Nat) (p:Nat×AV) (q:Nat×Value),parts[j]? = some p→vals[j]? = some q→p.1=q.1∧Rep G w none p.2 q.2)→Fk place cs parts=some cs' →
  vs.size=cs.length→(∀(j:Nat) (y:AV) (u:Value),cs[j]? = some y→vs[j]? = some u→Rep G w none y u)→(∀y∈cs,y.one=true) →
  ∃vs':Array Value,Instr.fill place vs vals=some vs'∧vs'.size=cs'.length∧(∀(j:Nat) (y:AV) (u:Value),cs'[j]? = some y→vs'[j]? = some u→Rep G w none y u)∧(∀y∈cs',y.one=true)
 | [],[],cs,cs',vs,_,_,hf,hn,hr,h1=>by
  simp only [Fk,Of] at hf
  subst hf
  exact ⟨vs,rfl,hn,hr,h1⟩
 | [],_::_,_,_,_,hl,_,_,_,_,_=>by simp at hl
 | _::_,[],_,_,_,hl,_,_,_,_,_=>by simp at hl
 | (i,y)::parts,(i',v)::vals,cs,cs',vs,hl,hp,hf,hn,hr,h1=>by
  obtain ⟨e,hrep⟩:=hp 0 _ _ rfl rfl
  simp only at e hrep
  subst e
  simp only [Fk] at hf
  cases hpl:place i with
  | none=>simp [hpl] at hf
  | some os =>
   obtain ⟨off,size⟩:=os
   simp only [hpl] at hf
   split at hf
   ·rename_i hc
    obtain ⟨hc1,hc2,hc3⟩:=hc
    obtain ⟨b1,b2⟩:=hrep.cells (fun z hz=>Ap.1 hc3 z hz)
    obtain ⟨s1,s2⟩:=Yf off v.cells vs (by omega)
    have:=Kx place parts vals (Bl cs off y.cells) cs' _ (by simpa using hl) (fun j p q hp' hq'=>hp (j+1) p q hp' hq') hf (by rw [s1,hn,Gu hc2]) (fun j z u hz hu=>by
      rw [Lm hc2] at hz
      rw [s2,b1] at hu
      by_cases hin:off≤j∧j<off+y.cells.length
      ·rw [if_pos hin] at hz hu
       exact b2 _ z u hz hu
      ·rw [if_neg hin] at hz hu
       exact hr j z u hz hu) (fun z hz=>by
      simp only [Bl,Br,D6] at hz
      rcases hz with hz|hz|hz
      ·exact h1 z (K4 hz)
      ·exact Ap.1 hc3 z hz
      exact h1 z (Li hz))
    obtain ⟨vs',f1,f2⟩:=this
    refine ⟨vs',?_,f2⟩
    simp only [Instr.fill,hpl]
    rw [if_neg (by simp;omega)]
    exact f1
   cases hf

variable {st:St} {dst:Option Tmp} {ty:TypeId} {pos:String} {aft:Array Edge} {gd:Option (Nat×Bool)}

theorem U6 {G:Gh} {w:World} {z:Value} {zs:List AV} (hzs:zs=z.cells.toList.map Ck):z.cells.size=zs.length∧∀(j:Nat) (y:AV) (u:Value),zs[j]? = some y→z.cells[j]? = some u→Rep G w none y u:=by
 subst hzs
 refine ⟨by simp,fun j y u hy hu=>?_⟩
 simp only [C4] at hy
 rw [Da] at hy
 obtain ⟨u',hu',rfl⟩:=hy
 have:u'=u:=by
  rw [←Ma] at hu
  rw [hu] at hu'
  injection hu' with e
  exact e.symm
 subst this
 exact Ja _

theorem OpV.build {t:TypeId} {fs:Array Field} {places:Array (Nat×Nat)} {parts:List (Nat×Operand)} {z:Value} {zs cs:List AV} (hu:P.underlying t=some (.struct fs))
  (hpl:∀w,(fs.mapM (m:=Sem) fun f=>do Pure.pure (f.offset,←sizeOf f.type)).run P w=.ok places w) (hz:∀w,(zeroValue t).run P w=.ok z w) (hzs:zs=z.cells.toList.map Ck) (hone:zs.all AV.one=true)
  (hf:Fk (fun i=>places[i]?) zs (parts.map fun p=>(p.1,st.ev p.2))=some cs):OpV P d ⟨dst,.build t parts.toArray,ty,pos,aft,gd⟩ st (.agg cs):=
 Be (by intro c h;cases h) fun G a w h=>by
  obtain ⟨z1,z2⟩:=U6 (G:=G) (w:=w) hzs
  obtain ⟨vs',f1,f2,f3,f4⟩:=Kx (G:=G) (w:=w) (fun i=>places[i]?) (parts.map fun p=>(p.1,st.ev p.2)) (parts.map fun p=>(p.1,a.eval p.2)) zs cs z.cells (by simp) (fun j p q hp hq=>by
    simp only [C4] at hp hq
    rw [Da] at hp hq
    obtain ⟨p',hp',rfl⟩:=hp
    obtain ⟨q',hq',rfl⟩:=hq
    rw [hp'] at hq'
    injection hq' with hq'
    subst hq'
    exact ⟨rfl,h.eval _⟩) hf z1 z2 (fun y hy=>Ap.1 hone y hy)
  refine ⟨.agg vs',?_,.agg _ _ _ f2 f4 f3⟩
  simp only [execOp,Instr.build,Sem.run_bind,hz,Result.andThen_ok,run_underlying hu,hpl,Ox]
  simp [f1]

/-- A new block of cells that nobody writes. -/
theorem Mh {G:Gh} {st:St} {a:Act} {w:World} (h:StRel d G st a w) (t:TypeId) (vs:Array Value):
  ∃G',StRel d G' st a (w.alloc (.cells vs t))∧Turn G w G' (w.alloc (.cells vs t))∧(∀o,o<vs.size→G'.tag w.heap.size o=.fix):=by
 let G':Gh:={ G with tag:=fun b o=>if b=w.heap.size∧o<vs.size then .fix else G.tag b o }
 have hfree:∀o,G.tag w.heap.size o=.free:=fun o=>Fj h.tags _ o (Ah _)
 have hne:∀b o,G.tag b o≠.free→¬(b=w.heap.size∧o<vs.size):=fun b o hb hc=>by rw [hc.1] at hb;exact hb (hfree o)
 have hcell:∀b o,G.tag b o≠.free→(w.alloc (.cells vs t)).cell? ⟨b,o,none⟩=w.cell? ⟨b,o,none⟩:=fun b o hb=>by
  refine World.cell?_alloc_old _ _ _ ?_
  show b≠w.heap.size
  rintro rfl
  exact hb (hfree o)
 have T:Turn G w G' (w.alloc (.cells vs t)):=by
  refine ⟨fun b o hb=>⟨?_,hcell b o (by rw [hb];simp)⟩,fun b o L hb=>?_,fun b o i hb=>?_,Ah _,fun o ho=>rfl,rfl,rfl,rfl,by simp,So _ (fun b o hb=>.inl (by simp only [G'];rw [if_neg (by omega)])) (fun i hi=>.inl ⟨hi,rfl⟩)⟩
  ·simp only [G'];rw [if_neg (hne b o (by rw [hb];simp))];exact hb
  ·simp only [G'];rw [if_neg (hne b o (by rw [hb];simp))];exact hb
  simp only [G'];rw [if_neg (hne b o (by rw [hb];simp))];exact hb
 have hblt:∀i,i<G.n→G.blk i<w.heap.size:=fun i hi=>by
  have hi':i<(st.up++st.own).length:=by rw [←h.heap.n];exact hi
  exact (h.heap.obj i _ (Ad hi')).blt
 refine ⟨G',?_,T,fun o ho=>by simp [G',ho]⟩
 refine h.turn (U:=st.up) (O:=st.own) T ⟨fun i x hx=>T.objRel ?_ ?_ (h.heap.obj i x hx) (fun b hb=>by
  have:=hb.lt
  show (w.heap.push _)[b]? = _
  rw [Kj,if_neg (by omega)]),h.heap.n,h.heap.inj⟩ rfl h.defsAt ⟨fun b o hb=>?_,fun b o i hb=>?_,fun b o L hb=>?_,h.tags.globKeep T.old⟩ h.low
 ·rw [h.heap.n];exact (Ac.1 hx).1
 ·have hi:i<G.n:=by rw [h.heap.n];exact (Ac.1 hx).1
  have:=hblt i hi
  show (w.heap.push _)[G.blk i]? = _
  rw [Kj,if_neg (by omega)]
 ·simp only [G'] at hb
  split at hb
  ·rename_i hc
   obtain ⟨rfl,hlt⟩:=hc
   exact ⟨vs[o],by rw [World.cell?_alloc_new];exact Cz hlt⟩
  rw [hcell b o hb]
  exact h.tags.ex b o hb
 ·simp only [G'] at hb
  split at hb
  ·cases hb
  rw [World.frozen?_alloc_old]
  ·exact h.tags.obj b o i hb
  show b≠w.heap.size
  rintro rfl
  rw [hfree] at hb;cases hb
 simp only [G'] at hb
 split at hb
 ·cases hb
 rw [World.frozen?_alloc_old]
 ·exact h.tags.tail b o L hb
 show b≠w.heap.size
 rintro rfl
 rw [hfree] at hb;cases hb

theorem Rc (k:Nat):∀(vs:List Value) (n:Nat) (cells:Array Value),(∀v∈vs,v.cells.size=k)→(n+vs.length)*k≤cells.size →
  ∃cells':Array Value,Instr.fill (fun i=>some (i*k,k)) cells ((vs.zipIdx n).map fun x=>(x.2,x.1))=some cells'∧cells'.size=cells.size∧(∀q,q<n*k→cells'[q]? = cells[q]?) ∧
   ∀(i:Nat) (v:Value),vs[i]? = some v→∀j,j<k→cells'[(n+i)*k+j]? = v.cells[j]?
 | [],n,cells,_,_=>⟨cells,rfl,rfl,fun _ _=>rfl,fun i v h=>by simp at h⟩
 | v::vs,n,cells,hk,hl=>by
  have hv:=hk v (by simp)
  simp only [Ar] at hl
  have hle:n*k+k≤cells.size:=by
   have:(n+1)*k≤(n+(vs.length+1))*k:=Ik _ (by omega)
   rw [Gg n 1,Nat.one_mul] at this
   omega
  obtain ⟨s1,s2⟩:=Yf (n*k) v.cells cells (by omega)
  obtain ⟨c',f1,f2,f3,f4⟩:=Rc k vs (n+1) _ (fun u hu=>hk u (by simp [hu])) (by rw [s1,show n+1+vs.length=n+(vs.length+1) by omega];exact hl)
  have hnk:(n+1)*k=n*k+k:=by rw [Gg,Nat.one_mul]
  refine ⟨c',?_,by rw [f2,s1],fun q hq=>?_,fun i u hi j hj=>?_⟩
  ·simp only [List.zipIdx_cons,Cl,Instr.fill]
   rw [if_neg (by simp;omega)]
   exact f1
  ·rw [f3 q (by omega),s2,if_neg (by omega)]
  cases i with
  | zero =>
   simp at hi
   subst hi
   rw [Nat.add_zero,f3 _ (by omega),s2,if_pos (by omega),Sk]
  | succ i =>
   have:=f4 i u (by simpa using hi) j hj
   rw [show n+1+i=n+(i+1) by omega] at this
   exact this

/-- A slice written out. -/
theorem Yg {t e:TypeId} {k:Nat} {z:Value} {xs:List Operand} {ys:List AV} {own:Bool} {s:Nat} (hu:P.underlying t=some (.slice e)) (hsz:∀w,(sizeOf e).run P w=.ok k w) (hz:∀w,(zeroValue e).run P w=.ok z w)
  (hev:xs.map st.ev=ys) (hk:∀y∈ys,y.cells.length=k) (h1:∀y∈ys,∀c∈y.cells,c.one=true) (hlen:ys.length*k≤16777216) {G:Gh} {a:Act} {w:World} (h:StRel d G st a w):
  ∃G' v w',(execOp a.eval (⟨dst,.buildSlice t ys.length ((xs.zipIdx).map fun x=>(x.2,x.1)).toArray,ty,pos,aft,gd⟩:Oper)).run P w=.ok (.value v) w'∧StRel d G' st a w'∧Turn G w G' w'∧(∀own L,(own=true→∃l,L=some l)→Rep G' w' L (.slice own k ys) v)∧∃ad,v=.slice (some ad) ys.length ys.length:=by
 have hxl:xs.length=ys.length:=by rw [←hev];simp
 let vals:=xs.map a.eval
 have hvals:∀(i:Nat) (y:AV) (u:Value),ys[i]? = some y→vals[i]? = some u→Rep G w none y u:=fun i y u hy hu'=>by
  rw [←hev] at hy
  simp only [C4,vals] at hy hu'
  rw [Da] at hy hu'
  obtain ⟨x,hx,rfl⟩:=hy
  obtain ⟨x',hx',rfl⟩:=hu'
  rw [hx] at hx'
  injection hx' with hx'
  subst hx'
  exact h.eval _
 have hvl:vals.length=ys.length:=by simp [vals,hxl]
 have hcells:∀(i:Nat) (y:AV) (u:Value),ys[i]? = some y→vals[i]? = some u→u.cells.size=k∧∀(j:Nat) (c:AV) (q:Value),y.cells[j]? = some c→u.cells[j]? = some q→Rep G w none c q:=fun i y u hy hu'=>by
  obtain ⟨b1,b2⟩:=(hvals i y u hy hu').cells (h1 y (Ax hy))
  exact ⟨by rw [b1];exact hk y (Ax hy),b2⟩
 let c0:Array Value:=(Array.range (ys.length*k)).map ((if ys.length*k=0 then #[] else z.cells)[· % (if ys.length*k=0 then (#[]:Array Value) else z.cells).size]!)
 obtain ⟨c',f1,f2,_,f4⟩:=Rc k vals 0 c0 (fun v hv=>by
   obtain ⟨i,hi⟩:=Cc hv
   have hlt:i<ys.length:=by
    have:=(Ac.1 hi).1
    omega
   exact (hcells i _ v (Ad hlt) hi).1) (by simp [c0,hvl])
 have hsize:c'.size=ys.length*k:=by rw [f2];simp [c0]
 obtain ⟨G',g1,T,g2⟩:=Mh h e c'
 refine ⟨G',.slice (some ⟨w.heap.size,0,none⟩) ys.length ys.length,w.alloc (.cells c' e),?_,g1,T,fun own L hL=>?_,_,rfl⟩
 ·have hm:(((xs.zipIdx).map fun x=>(x.2,x.1)).map fun p=>(p.1,a.eval p.2))=((vals.zipIdx 0).map fun x=>(x.2,x.1)):=by
   simp only [vals,Ku,List.zipIdx_map]
   rfl
  have hbig:¬(ys.length*k>2 ^ 24):=by omega
  simp only [execOp,Instr.buildSlice,Sem.run_bind,run_underlying hu,Result.andThen_ok,hsz,Ox,hm]
  rw [if_neg hbig]
  by_cases h0:ys.length*k=0
  ·have e0:c0=(Array.range (ys.length*k)).map ((#[]:Array Value)[· % (#[]:Array Value).size]!):=by simp only [c0,if_pos h0]
   rw [e0] at f1
   simp only [if_pos h0,Sem.run_bind,Sem.run_pure,Result.andThen_ok]
   simp only [f1]
   simp [newRow]
  have e0:c0=(Array.range (ys.length*k)).map (z.cells[· % z.cells.size]!):=by simp only [c0,if_neg h0]
  rw [e0] at f1
  simp only [if_neg h0,Sem.run_bind,hz,Sem.run_pure,Result.andThen_ok]
  simp only [f1]
  simp [newRow]
 refine .slice _ own k ys ⟨w.heap.size,0,none⟩ _ _ (fun i j=>c'.getD (i*k+j) undef) rfl rfl (Ah _) hk h1 (fun i y j c hy hc=>?_) (fun i y j c hy hc=>?_) (fun ho=>?_)
 ·have hil:=(Ac.1 hy).1
  have hjl:j<k:=by
   have:=(Ac.1 hc).1
   rw [hk y (Ax hy)] at this;exact this
  have hlt:i*k+j<c'.size:=by
   have:(i+1)*k≤ys.length*k:=Ik _ hil
   rw [Gg] at this;omega
  refine ⟨by simpa using g2 _ hlt,?_⟩
  simp only [B7]
  rw [World.cell?_alloc_new,Hm,Cz hlt]
  rfl
 ·have hil:=(Ac.1 hy).1
  have hjl:j<k:=by
   have:=(Ac.1 hc).1
   rw [hk y (Ax hy)] at this;exact this
  have hv:vals[i]? = some (vals[i]'(by omega)):=Ad (by omega)
  have hf:=f4 i _ hv j hjl
  obtain ⟨b1,b2⟩:=hcells i y _ hy hv
  rw [B7] at hf
  have hq:(vals[i]'(by omega)).cells[j]? = some ((vals[i]'(by omega)).cells[j]'(by omega)):=Cz (by omega)
  rw [Hm,hf,hq,Option.getD_some]
  exact T.rep (b2 j c _ hc hq)
 obtain ⟨l,rfl⟩:=hL ho
 exact ⟨l,rfl,fun o h1 h2=>by omega⟩

theorem AOp.buildSlice {t e:TypeId} {k s:Nat} {z:Value} {xs:List Operand} {ys:List AV} (hu:P.underlying t=some (.slice e)) (hsz:∀w,(sizeOf e).run P w=.ok k w) (hz:∀w,(zeroValue e).run P w=.ok z w)
  (hev:xs.map st.ev=ys) (hk:∀y∈ys,y.cells.length=k) (h1:∀y∈ys,∀c∈y.cells,c.one=true) (hlen:ys.length*k≤16777216) (hs:s<st.sz) {len:Nat} {parts:Array (Nat×Operand)} (hl:len=ys.length)
  (hp:parts=((xs.zipIdx).map fun x=>(x.2,x.1)).toArray):
  AOp P d ⟨some s,.buildSlice t len parts,ty,pos,aft,gd⟩ st (·=st.set s (.slice true k ys)):=by
 subst hl;subst hp
 intro G a w h Q'
 obtain ⟨G',v,w',hrun,hrel,T,hrep,_⟩:=Yg (own:=true) (s:=s) (dst:=some s) (ty:=ty) (pos:=pos) (aft:=aft) (gd:=gd) hu hsz hz hev hk h1 hlen h
 exact Ce (by intro c h;cases h) hrun ⟨G',_,hrel.put hs (hrep true _ (fun _=>⟨_,rfl⟩)),T.keep d,rfl,rfl,rfl,rfl⟩
theorem OpV.buildSlice {t e:TypeId} {k:Nat} {z:Value} {xs:List Operand} {ys:List AV} (hu:P.underlying t=some (.slice e)) (hsz:∀w,(sizeOf e).run P w=.ok k w) (hz:∀w,(zeroValue e).run P w=.ok z w)
  (hev:xs.map st.ev=ys) (hk:∀y∈ys,y.cells.length=k) (h1:∀y∈ys,∀c∈y.cells,c.one=true) (hlen:ys.length*k≤16777216) {len:Nat} {parts:Array (Nat×Operand)} (hl:len=ys.length)
  (hp:parts=((xs.zipIdx).map fun x=>(x.2,x.1)).toArray):
  OpV P d ⟨dst,.buildSlice t len parts,ty,pos,aft,gd⟩ st (.slice false k ys):=by
 subst hl;subst hp
 intro G a w h Q'
 obtain ⟨G',v,w',hrun,hrel,T,hrep,_⟩:=Yg (own:=false) (s:=0) (dst:=dst) (ty:=ty) (pos:=pos) (aft:=aft) (gd:=gd) hu hsz hz hev hk h1 hlen h
 exact Ce (by intro c h;cases h) hrun ⟨G',v,rfl,hrel,T.keep d,hrep false none (fun e=>by cases e)⟩

/-- A closure. -/
theorem OpV.makeFunc {f:Fn} {as cs:List Operand} {ya yc:List AV} (ha:as.map st.ev=ya) (hc:cs.map st.ev=yc):OpV P d ⟨dst,.makeFunc f as.toArray cs.toArray,ty,pos,aft,gd⟩ st (.fn f ya yc):=
 Be (by intro c h;cases h) fun G a w h=>by
  have key:∀(l:List Operand) (i:Nat) (y:AV) (u:Value),(l.map st.ev)[i]? = some y→(l.map a.eval)[i]? = some u→Rep G w none y u:=fun l i y u hy hu=>by
   simp only [C4] at hy hu
   rw [Da] at hy hu
   obtain ⟨x,hx,rfl⟩:=hy
   obtain ⟨x',hx',rfl⟩:=hu
   rw [hx] at hx'
   injection hx' with hx'
   subst hx'
   exact h.eval _
  subst ha;subst hc
  refine ⟨.func f (as.map a.eval).toArray (cs.map a.eval).toArray,by simp [execOp,Instr.makeFunc],.fn _ _ _ _ _ _ (by simp) (by simp) (fun i y u h1 h2=>key as i y u h1 (by simpa using h2)) (fun i y u h1 h2=>key cs i y u h1 (by simpa using h2))⟩

/-- A field of a struct that is at hand. -/
theorem OpV.field1 {t:TypeId} {x:Operand} {i:Nat} {fs:Array Field} {f:Field} {cs:List AV} {y:AV} (hu:P.underlying t=some (.struct fs)) (hf:fs[i]? = some f) (hagg:∀w,(isAgg f.type).run P w=.ok false w)
  (hx:st.ev x=.agg cs) (hy:cs[f.offset]? = some y):OpV P d ⟨dst,.field t x i,ty,pos,aft,gd⟩ st y:=
 Be (by intro c h;cases h) fun G a w h=>by
  have hr:=hx ▸ h.eval x
  generalize hv:a.eval x=u at hr
  cases hr with
  | agg _ _ vs hn h1 hh =>
   have hlt:f.offset<vs.size:=by rw [hn];exact (Ac.1 hy).1
   exact ⟨vs[f.offset],by simp [execOp,Instr.field,run_underlying hu,hf,asAgg,hv,part,hagg,hlt],hh _ y _ hy (Cz hlt)⟩
end
end Go.SX
namespace Go.SX
variable [GI:GlobInv]
open Classical
section
variable {P:Program} {d:Nat}

/-- A call of function g: it returns; what it hands back and what it leaves of the abstract objects is told by 'post'. -/
def ACall (P:Program) (g:FuncId) (args:List AV) (H:List AObj) (post:AV→List AObj→Prop):Prop:=
 ∀(d:Nat) (G:Gh) (w:World) (vs:Array Value),vs.size=args.length→(∀(i:Nat) (y:AV) (u:Value),args[i]? = some y→vs[i]? = some u→Rep G w (some (.slot (d+1) i)) y u)→HeapRel G H w→TagOK G w→GI.bd≤d →
  CallsIn Fence.wide 0 P g vs w (fun e w'=>∃(v:Value) (G':Gh) (r:AV) (H':List AObj),e=.returned v∧Rep G' w' (some (.ret d)) r v∧HeapRel G' H' w'∧TagOK G' w'∧Keep (d+1) G w G' w'∧H'.length=H.length∧post r H')

/-- It hands back r and leaves the objects alone. -/
abbrev AFun (P:Program) (g:FuncId) (args:List AV) (H:List AObj) (r:AV):Prop:=ACall P g args H (fun x H'=>x=r∧H'=H)

theorem ACall.mono {g:FuncId} {args:List AV} {H:List AObj} {post post':AV→List AObj→Prop} (h:ACall P g args H post) (hp:∀r H',post r H'→post' r H'):ACall P g args H post':=
 fun d G w vs h1 h2 h3 h4 h5=>(h d G w vs h1 h2 h3 h4 h5).mono fun e w' ⟨v,G',r,H',a,b,c,d',e',f,p⟩=>⟨v,G',r,H',a,b,c,d',e',f,hp r H' p⟩

/-! ### A function's contract from its body -/

/-- The frame at a function's beginning. -/
def argsF (args:List AV):Nat→AV:=fun s=>args.getD s (.v undef)

/-- What one result variable qr as. -/
inductive ResV (P:Program) (st:St):ResultVar→AV→Prop
 | tmp (t:Tmp) (y:AV) (h:(st.fr t).strip=y):ResV P st (.tmp t) y
 | cell (a:Tmp) (t t':TypeId) (o off:Nat) (cs:List AV) (y:AV) (hagg:∀w,(isAgg t).run P w=.ok false w) (hp:(st.fr a).strip=.ptr o off) (ho:(st.up++st.own)[o]? = some (.cells t' cs)) (hy:cs[off]? = some y) (y':AV) (h:y.strip=y'):ResV P st (.cell a t) y'
 | cellN (a:Tmp) (t t':TypeId) (o off k:Nat) (cs:List AV) (hagg:∀w,(isAgg t).run P w=.ok true w) (hsz:∀w,(sizeOf t).run P w=.ok k w) (hp:(st.fr a).strip=.ptr o off) (ho:(st.up++st.own)[o]? = some (.cells t' cs))
   (hk:off+k≤cs.length) (h1:((cs.drop off).take k).all AV.one=true) (y:AV) (h:.agg (((cs.drop off).take k).map AV.strip)=y):ResV P st (.cell a t) y

def Ky (tmps:Array Value):ResultVar→Sem Value
 | .tmp t=>Pure.pure (tmps.getD t undef)
 | .cell b t=>do loadVar t (←asAddr (tmps.getD b undef))
theorem E8 (fn:Func) (tmps:Array Value):results fn tmps=(do let vs ←fn.results.mapM (Ky tmps);Pure.pure (if h:vs.size=1 then vs[0] else .tuple vs)):=by
 unfold results
 congr 1

theorem ResV.run {st:St} {rv:ResultVar} {y:AV} (h:ResV P st rv y) {G:Gh} {a:Act} {w:World} (hr:StRel d G st a w):
  ∃v,(Ky a.tmps rv).run P w=.ok v w∧Rep G w none y v:=by
 cases h with
 | tmp t y h=>subst h;exact ⟨_,rfl,(hr.slots t).strip⟩
 | cell b t t' o off cs y hagg hp ho hy _ h =>
  subst h
  have hpr:=(hr.slots b).strip (l':=none)
  rw [hp] at hpr
  generalize hv:a.tmps.getD b undef=v at hpr
  cases hpr with
  | ptr l o off hlt =>
   obtain ⟨u,hu,hrep⟩:=Je (hr.heap.obj o _ ho) hy
   exact ⟨u,by simp only [Ky,hv];simp [asAddr,loadVar,hagg,hu],hrep.strip⟩
 | cellN b t t' o off k cs hagg hsz hp ho hk h1 y h =>
  subst h
  have hpr:=(hr.slots b).strip (l':=none)
  rw [hp] at hpr
  generalize hv':a.tmps.getD b undef=v at hpr
  cases hpr with
  | ptr l o off hlt =>
   obtain ⟨vs,hb,hn,hrep,_⟩:=hr.heap.obj o _ ho
   let us:List Value:=(vs.toList.drop off).take k
   have hus:us.length=k:=by simp [us];omega
   refine ⟨.agg us.toArray,?_,?_⟩
   ·have:=Jf (P:=P) (t:=t) (k:=k) (a:=⟨G.blk o,off,none⟩) (vs:=us) (w:=w) hagg hsz hus (fun j v hj=>by
     rw [Bu rfl]
     simp only [us,Eo,Dl] at hj
     split at hj
     ·simp only [World.cell?,hb]
      simpa using hj
     cases hj)
    simp only [Ky,hv']
    simp [asAddr,this]
   refine .agg _ _ _ (by simp [hus];omega) (fun y hy=>?_) (fun i y u hy hu=>?_)
   ·obtain ⟨z,hz,rfl⟩:=E2.1 hy
    rw [AV.one_strip]
    exact Ap.1 h1 z hz
   simp only [C4] at hy
   rw [Da] at hy
   obtain ⟨z,hz,rfl⟩:=hy
   simp only [Sg,us,Eo,Dl] at hu
   rw [Eo,Dl] at hz
   split at hz
   ·rename_i hlt'
    rw [if_pos hlt'] at hu
    exact (hrep _ z u hz (by simpa using hu)).strip
   cases hz

/-- What a function hands back, off the state at its end. -/
inductive Res (P:Program) (st:St):List ResultVar→AV→Prop
 | nores:Res P st [] (.v (.tuple #[]))
 | one (rv:ResultVar) (y:AV) (h:ResV P st rv y):Res P st [rv] y
 | own (t:Tmp) (y:AV) (h:st.fr t=y):Res P st [.tmp t] y
 | ownCell (a:Tmp) (t t':TypeId) (o off:Nat) (cs:List AV) (y:AV) (hagg:∀w,(isAgg t).run P w=.ok false w) (hp:(st.fr a).strip=.ptr o off) (ho:(st.up++st.own)[o]? = some (.cells t' cs)) (hge:st.up.length≤o) (hy:cs[off]? = some y):Res P st [.cell a t] y
 | two (r1 r2:ResultVar) (y1 y2:AV) (h1:ResV P st r1 y1) (h2:ResV P st r2 y2):Res P st [r1,r2] (.tup [y1,y2])
 | three (r1 r2 r3:ResultVar) (y1 y2 y3:AV) (h1:ResV P st r1 y1) (h2:ResV P st r2 y2) (h3:ResV P st r3 y3):Res P st [r1,r2,r3] (.tup [y1,y2,y3])
 | four (r1 r2 r3 r4:ResultVar) (y1 y2 y3 y4:AV) (h1:ResV P st r1 y1) (h2:ResV P st r2 y2) (h3:ResV P st r3 y3) (h4:ResV P st r4 y4):Res P st [r1,r2,r3,r4] (.tup [y1,y2,y3,y4])
 | five (r1 r2 r3 r4 r5:ResultVar) (y1 y2 y3 y4 y5:AV) (h1:ResV P st r1 y1) (h2:ResV P st r2 y2) (h3:ResV P st r3 y3) (h4:ResV P st r4 y4) (h5:ResV P st r5 y5):Res P st [r1,r2,r3,r4,r5] (.tup [y1,y2,y3,y4,y5])

theorem Ka {G:Gh} {w:World} {l:Option Loc} {ys:List AV} {vs:Array Value} (hn:vs.size=ys.length) (h:∀(i:Nat) (y:AV) (u:Value),ys[i]? = some y→vs[i]? = some u→Rep G w none y u):Rep G w l (.tup ys) (.tuple vs):=.tup _ _ _ hn h

/-- The results' reading; where it owns something, that goes to the caller. -/
theorem Res.run {st:St} {l:List ResultVar} {y:AV} (h:Res P st l y) {G:Gh} {a:Act} {w:World} (hr:StRel (d+1) G st a w) {fn:Func} (hfn:fn.results=l.toArray):
  ∃v G',(results fn a.tmps).run P w=.ok v w∧Rep G' w (some (.ret d)) y v∧HeapRel { G' with n:=st.up.length } st.up w∧TagOK G' w∧Keep (d+1) G w G' w∧G'.n=G.n:=by
 have hcut:∀(G1:Gh),(∀(i:Nat) (x:AObj),st.up[i]? = some x→ObjRel G1 w i x)→G1.n=G.n→G1.blk=G.blk→HeapRel { G1 with n:=st.up.length } st.up w:=fun G1 hobj hn hbk=>by
  have hgn:=hr.heap.n
  rw [Am] at hgn
  refine ⟨fun i x hx=>?_,rfl,fun i j hi hj e=>?_⟩
  ·have hlow:=hr.low x (Ax hx)
   exact (hobj i x hx).cut hlow
  refine hr.heap.inj i j (by simp only at hi;omega) (by simp only at hj;omega) ?_
  have e':G1.blk i=G1.blk j:=e
  rw [hbk] at e'
  exact e'
 have hself:HeapRel { G with n:=st.up.length } st.up w:=hcut G (fun i x hx=>hr.heap.obj i x (An hx)) rfl rfl
 cases h with
 | nores =>
  exact ⟨.tuple #[],G,by simp [E8,hfn],.v _ _,hself,hr.tags,Er _ _ _,rfl⟩
 | one rv y hrv =>
  obtain ⟨v,h1,h2⟩:=hrv.run hr
  exact ⟨v,G,by simp [E8,hfn,h1],h2.lift,hself,hr.tags,Er _ _ _,rfl⟩
 | own t y hy =>
  subst hy
  have hm:=(hr.slots t).moved (B:=.ret d)
  obtain ⟨h',k'⟩:=hr.giveSlot t (.ret d)
  refine ⟨a.tmps.getD t undef,_,by simp [E8,hfn,Ky],hm,hcut _ (fun i x hx=>h'.heap.obj i x (An hx)) rfl rfl,hr.tags.retag,k',rfl⟩
 | ownCell b t t' o off cs y hagg hp ho hge hy =>
  have hpr:=(hr.slots b).strip (l':=none)
  rw [hp] at hpr
  generalize hv:a.tmps.getD b undef=v at hpr
  cases hpr with
  | ptr l o off hlt =>
   obtain ⟨u,hu,hrep⟩:=Je (hr.heap.obj o _ ho) hy
   have hm:=hrep.moved (B:=.ret d)
   refine ⟨u,_,?_,hm,hcut _ (fun i x hx=>(hr.heap.obj i x (An hx)).retag (fun j e=>?_)) rfl rfl,hr.tags.retag,⟨fun b o hb=>⟨Fd hb,rfl⟩,fun b o e s he ht=>Ha (by simp) ht,Ah _,fun _ _=>rfl,rfl,rfl,rfl,Ah _,Still.retag⟩,rfl⟩
   ·have h1:(Ky a.tmps (.cell b t)).run P w=.ok u w:=by
     simp only [Ky,hv]
     simp [asAddr,loadVar,hagg,hu]
    simp [E8,hfn,h1]
   injection e with e
   have:=(Ac.1 hx).1
   omega
 | two r1 r2 y1 y2 h1 h2 =>
  obtain ⟨v1,a1,b1⟩:=h1.run hr
  obtain ⟨v2,a2,b2⟩:=h2.run hr
  refine ⟨.tuple #[v1,v2],G,?_,Ka rfl (fun i y u hy hu=>?_),hself,hr.tags,Er _ _ _,rfl⟩
  ·simp [E8,hfn,a1,a2]
  match i with
  | 0=>simp at hy hu;subst hy;subst hu;exact b1
  | 1=>simp at hy hu;subst hy;subst hu;exact b2
  | i+2=>simp at hy
 | three r1 r2 r3 y1 y2 y3 h1 h2 h3 =>
  obtain ⟨v1,a1,b1⟩:=h1.run hr
  obtain ⟨v2,a2,b2⟩:=h2.run hr
  obtain ⟨v3,a3,b3⟩:=h3.run hr
  refine ⟨.tuple #[v1,v2,v3],G,?_,Ka rfl (fun i y u hy hu=>?_),hself,hr.tags,Er _ _ _,rfl⟩
  ·simp [E8,hfn,a1,a2,a3]
  match i with
  | 0=>simp at hy hu;subst hy;subst hu;exact b1
  | 1=>simp at hy hu;subst hy;subst hu;exact b2
  | 2=>simp at hy hu;subst hy;subst hu;exact b3
  | i+3=>simp at hy
 | four r1 r2 r3 r4 y1 y2 y3 y4 h1 h2 h3 h4 =>
  obtain ⟨v1,a1,b1⟩:=h1.run hr
  obtain ⟨v2,a2,b2⟩:=h2.run hr
  obtain ⟨v3,a3,b3⟩:=h3.run hr
  obtain ⟨v4,a4,b4⟩:=h4.run hr
  refine ⟨.tuple #[v1,v2,v3,v4],G,?_,Ka rfl (fun i y u hy hu=>?_),hself,hr.tags,Er _ _ _,rfl⟩
  ·simp [E8,hfn,a1,a2,a3,a4]
  match i with
  | 0=>simp at hy hu;subst hy;subst hu;exact b1
  | 1=>simp at hy hu;subst hy;subst hu;exact b2
  | 2=>simp at hy hu;subst hy;subst hu;exact b3
  | 3=>simp at hy hu;subst hy;subst hu;exact b4
  | i+4=>simp at hy
 | five r1 r2 r3 r4 r5 y1 y2 y3 y4 y5 h1 h2 h3 h4 h5 =>
  obtain ⟨v1,a1,b1⟩:=h1.run hr
  obtain ⟨v2,a2,b2⟩:=h2.run hr
  obtain ⟨v3,a3,b3⟩:=h3.run hr
  obtain ⟨v4,a4,b4⟩:=h4.run hr
  obtain ⟨v5,a5,b5⟩:=h5.run hr
  refine ⟨.tuple #[v1,v2,v3,v4,v5],G,?_,Ka rfl (fun i y u hy hu=>?_),hself,hr.tags,Er _ _ _,rfl⟩
  ·simp [E8,hfn,a1,a2,a3,a4,a5]
  match i with
  | 0=>simp at hy hu;subst hy;subst hu;exact b1
  | 1=>simp at hy hu;subst hy;subst hu;exact b2
  | 2=>simp at hy hu;subst hy;subst hu;exact b3
  | 3=>simp at hy hu;subst hy;subst hu;exact b4
  | 4=>simp at hy hu;subst hy;subst hu;exact b5
  | i+5=>simp at hy

/-! ### A body's end -/

theorem Gp {w w':World} {a:Addr} (h:w'.heap[a.block]? = w.heap[a.block]?):w'.cell? a=w.cell? a:=by simp [World.cell?,h]
theorem Gj {w w':World} {a:Addr} (h:w'.heap[a.block]? = w.heap[a.block]?):w'.frozen? a=w.frozen? a:=by simp [World.frozen?,h]

theorem dc {G:Gh} {H:List AObj} {fn:Func} {tmps:Array Value} {R:Ending→World→Prop}:∀(l:List Nat) (w:World),HeapRel G H w→(∀o∈l,H[o]? = some .defs)→l.Nodup →
  (∀w',(∀b,(∀o∈l,b≠G.blk o)→w'.heap[b]? = w.heap[b]?)→(∀o∈l,w'.heap[G.blk o]? = some (.deferred none))→w'.os=w.os→w'.tape=w.tape→w'.output=w.output→w'.heap.size=w.heap.size→(∀(p:Addr),w'.cell? p=w.cell? p)→(∀(p:Addr),w'.frozen? p=w.frozen? p) →
   ∃v,(results fn tmps).run P w'=.ok v w'∧R (.returned v) w') →
  LeavesInM Fence.wide 0 P fn tmps R (l.map fun o=>{ target:=.collected (G.blk o),args:=#[] }) .returning w
 | [],w,_,_,_,h=>h w (fun _ _=>rfl) (fun _ ho=>by simp at ho) rfl rfl rfl rfl (fun _=>rfl) (fun _=>rfl)
 | o::l,w,hH,hd,hnd,h=>by
  have hob:w.heap[G.blk o]? = some (.deferred (some [])):=hH.obj o _ (hd o (by simp))
  have holt:G.blk o<w.heap.size:=(J5.1 hob).1
  let w1:World:={ w with heap:=w.heap.setIfInBounds (G.blk o) (.deferred none) }
  have hrun:(Instr.takeDeferred (G.blk o)).run P w=.ok [] w1:=by
   have e1:(getObj (G.blk o)).run P w=.ok (.deferred (some [])) w:=by simp only [getObj,Sem.run,hob]
   have e2:(setObj (G.blk o) (.deferred none)).run P w=.ok () w1:=by simp only [setObj,Sem.run,hob];rfl
   simp only [Instr.takeDeferred,Sem.run_bind,e1,Result.andThen_ok,e2,Sem.run_pure]
  have hheap:∀b,b≠G.blk o→w1.heap[b]? = w.heap[b]? := fun b hb=>by
   show (w.heap.setIfInBounds _ _)[b]? = _
   exact M9 (fun e=>hb e.symm)
  have hself:w1.heap[G.blk o]? = some (.deferred none):=by
   show (w.heap.setIfInBounds _ _)[G.blk o]? = _
   simp [holt]
  have hcell:∀(p:Addr),w1.cell? p=w.cell? p:=fun p=>by
   by_cases hp:p.block=G.blk o
   ·simp only [World.cell?,hp,hself,hob]
   exact Gp (hheap _ hp)
  have hfz:∀(p:Addr),w1.frozen? p=w.frozen? p:=fun p=>by
   by_cases hp:p.block=G.blk o
   ·simp only [World.frozen?,hp,hself,hob]
   exact Gj (hheap _ hp)
  refine ⟨by simp,.inl ⟨_,w1,rfl,hrun,?_⟩⟩
  -- what is left: the other marks, over memory in which this one block has turned
  have hol:o<G.n:=by rw [hH.n];exact (Ac.1 (hd o (by simp))).1
  have hrest:∀q∈l,q≠o:=fun q hq e=>by subst e;exact (K5.1 hnd).1 hq
  have key:∀(l':List Nat) (wa:World),(∀q∈l',q∈l)→l'.Nodup→(∀q∈l',wa.heap[G.blk q]? = some (.deferred (some []))) →
    (∀w',(∀b,(∀q∈l',b≠G.blk q)→w'.heap[b]? = wa.heap[b]?)→(∀q∈l',w'.heap[G.blk q]? = some (.deferred none))→w'.os=wa.os→w'.tape=wa.tape→w'.output=wa.output→w'.heap.size=wa.heap.size→(∀(p:Addr),w'.cell? p=wa.cell? p)→(∀(p:Addr),w'.frozen? p=wa.frozen? p) →
     ∃v,(results fn tmps).run P w'=.ok v w'∧R (.returned v) w') →
    LeavesInM Fence.wide 0 P fn tmps R (l'.map fun q=>{ target:=.collected (G.blk q),args:=#[] }) .returning wa:=by
   intro l'
   induction l' with
   | nil=>intro wa _ _ _ h;exact h wa (fun _ _=>rfl) (fun _ ho=>by simp at ho) rfl rfl rfl rfl (fun _=>rfl) (fun _=>rfl)
   | cons q l' ih =>
    intro wa hsub hnd' hob' h'
    have hq:=hob' q (by simp)
    have hqlt:G.blk q<wa.heap.size:=(J5.1 hq).1
    let wb:World:={ wa with heap:=wa.heap.setIfInBounds (G.blk q) (.deferred none) }
    have hrun':(Instr.takeDeferred (G.blk q)).run P wa=.ok [] wb:=by
     have e1:(getObj (G.blk q)).run P wa=.ok (.deferred (some [])) wa:=by simp only [getObj,Sem.run,hq]
     have e2:(setObj (G.blk q) (.deferred none)).run P wa=.ok () wb:=by simp only [setObj,Sem.run,hq];rfl
     simp only [Instr.takeDeferred,Sem.run_bind,e1,Result.andThen_ok,e2,Sem.run_pure]
    have hheap':∀b,b≠G.blk q→wb.heap[b]? = wa.heap[b]? := fun b hb=>by
     show (wa.heap.setIfInBounds _ _)[b]? = _
     exact M9 (fun e=>hb e.symm)
    have hself':wb.heap[G.blk q]? = some (.deferred none):=by
     show (wa.heap.setIfInBounds _ _)[G.blk q]? = _
     simp [hqlt]
    have hcell':∀(p:Addr),wb.cell? p=wa.cell? p:=fun p=>by
     by_cases hp:p.block=G.blk q
     ·simp only [World.cell?,hp,hself',hq]
     exact Gp (hheap' _ hp)
    have hfz':∀(p:Addr),wb.frozen? p=wa.frozen? p:=fun p=>by
     by_cases hp:p.block=G.blk q
     ·simp only [World.frozen?,hp,hself',hq]
     exact Gj (hheap' _ hp)
    refine ⟨by simp,.inl ⟨_,wb,rfl,hrun',?_⟩⟩
    have hlt:∀z∈q::l',z<G.n:=fun z hz=>by rw [hH.n];exact (Ac.1 (hd z (by simp [hsub z hz]))).1
    refine ih wb (fun z hz=>hsub z (by simp [hz])) (K5.1 hnd').2 (fun z hz=>?_) (fun w' h1 h0 h2 h3 h4 h5 h6 h7=>?_)
    ·rw [hheap' _ (fun e=>(K5.1 hnd').1 (by rw [←hH.inj z q (hlt z (by simp [hz])) (hlt q (by simp)) e];exact hz))]
     exact hob' z (by simp [hz])
    refine h' w' (fun b hb=>?_) (fun z hz=>?_) h2 h3 h4 (h5.trans (by simp [wb])) (fun p=>(h6 p).trans (hcell' p)) (fun p=>(h7 p).trans (hfz' p))
    ·rw [h1 b (fun z hz=>hb z (by simp [hz])),hheap' b (hb q (by simp))]
    rcases Bt.1 hz with rfl|hz'
    ·rw [h1 _ (fun y hy e=>(K5.1 hnd').1 (by rw [hH.inj z y (hlt z (by simp)) (hlt y (by simp [hy])) e];exact hy))]
     exact hself'
    exact h0 z hz'
  refine key l w1 (fun _ h=>h) (K5.1 hnd).2 (fun q hq=>?_) (fun w' h1 h0 h2 h3 h4 h5 h6 h7=>?_)
  ·have hql:q<G.n:=by rw [hH.n];exact (Ac.1 (hd q (by simp [hq]))).1
   rw [hheap _ (fun e=>hrest q hq (hH.inj q o hql hol e))]
   exact hH.obj q _ (hd q (by simp [hq]))
  refine h w' (fun b hb=>?_) (fun z hz=>?_) h2 h3 h4 (h5.trans (by simp [w1])) (fun p=>(h6 p).trans (hcell p)) (fun p=>(h7 p).trans (hfz p))
  ·rw [h1 b (fun z hz=>hb z (by simp [hz])),hheap b (hb o (by simp))]
  rcases Bt.1 hz with rfl|hz'
  ·rw [h1 _ (fun y hy e=>hrest y hy (hH.inj z y hol (by rw [hH.n];exact (Ac.1 (hd y (by simp [hy]))).1) e).symm)]
   exact hself
  exact h0 z hz'

/-- **A function's contract from its body.** -/
theorem ACall.ofBody {g:FuncId} {fn:Func} {c:Code} {args:List AV} {H:List AObj} {post:AV→List AObj→Prop} {rs:List ResultVar} {n:Nat} (hf:P.funcs[g]? = some fn) (hb:fn.body=some c) (hrs:fn.results=rs.toArray)
  (hn:fn.ntmps=n) (hargs:args.length≤n)
  (h:∀d,AW P (d+1) c ⟨n,argsF args,H,[],[],none⟩ (fun e st'=>(e=.normal∨e=.ret)∧∃r,Res P st' rs r∧Low H.length r∧post r st'.up)):ACall P g args H post:=by
 intro d G w vs hvs hrep hH hT hTop
 refine callsIn_of_wp_marks hf hb trivial ?_
 have hst:StRel (d+1) G ⟨n,argsF args,H,[],[],none⟩ { tmps:=vs++Array.replicate (fn.ntmps-vs.size) undef,defers:=[] } w:=by
  refine ⟨?_,fun s=>?_,by simpa using hH,(by rw [J8 hTop];rfl),(fun o ho=>by simp at ho),O8,(fun o ho=>by simp at ho),hT,(fun l hl=>by cases hl),fun x hx=>?_,Sl hTop⟩
  ·simp only [Oq,Array.size_replicate,hvs,hn];omega
  ·show Rep G w _ (args.getD s (.v undef)) _
   rw [Dw,Hm]
   rcases B0 s args.length with h'|h'
   ·rw [Ad h',J4 (by omega),Cz (by omega)]
    exact hrep s _ _ (Ad h') (Cz (by omega))
   rw [Dx h',N9 (by omega)]
   simp only [Option.getD_none]
   have:((Array.replicate (fn.ntmps-vs.size) undef)[s-vs.size]?).getD undef=undef:=by
    rw [Oo];split<;>rfl
   rw [this]
   exact .v _ _
  -- the objects of whoever waits refer to one another alone
  obtain ⟨i,hi⟩:=Cc hx
  have hob:=hH.obj i x hi
  show ObjLow H.length x
  rw [←hH.n]
  exact hob.low
 have hw:=h d G _ w hst
 refine wpIn_mono hw ?_
 rintro e a' w' ⟨G1,st',h1,k1,e1,e2,e3,hcase,r,hres,hlow,hpost⟩
 have fin:LeavesInM Fence.wide 0 P fn a'.tmps (fun e w'=>∃(v:Value) (G':Gh) (r:AV) (H':List AObj),e=.returned v∧Rep G' w' (some (.ret d)) r v∧HeapRel G' H' w'∧TagOK G' w'∧Keep (d+1) G w G' w'∧H'.length=H.length∧post r H') a'.defers .returning w':=by
  rw [h1.defs,J8 hTop,Hw]
  refine dc st'.defs w' h1.heap h1.defsAt h1.defsNodup (fun w2 q1 q0 q2 q3 q4 q5 q6 q7=>?_)
  -- the state over memory in which the marks' blocks are shut
  have T:Turn G1 w' G1 w2:=⟨fun b o hb=>⟨hb,q6 _⟩,fun _ _ _ hb=>hb,fun _ _ _ hb=>hb,Ah _,fun _ _=>rfl,q2,q3,q4,H1 q5.symm,Il (fun b hb=>q1 b (fun o ho e=>hb.2.2 o (by rw [h1.heap.n];exact (Ac.1 (h1.defsAt o ho)).1) e.symm)) (H1 q5.symm) (fun _ _ _=>.inl rfl) (fun _ hi=>.inl ⟨hi,rfl⟩)⟩
  let own':=st'.own.mapIdx fun i x=>if st'.up.length+i∈st'.defs then .dead else x
  have hget:∀(i:Nat) (x:AObj),(st'.up++own')[i]? = some x→(i∉st'.defs∧(st'.up++st'.own)[i]? = some x)∨(i∈st'.defs∧x=.dead):=fun i x hx=>by
   rcases B0 i st'.up.length with h'|h'
   ·rw [Cx h'] at hx ⊢
    exact .inl ⟨fun hm=>by have:=h1.defsGe i hm;omega,hx⟩
   rw [Cp h'] at hx ⊢
   simp only [own',d9] at hx
   rw [Da] at hx
   obtain ⟨z,hz,rfl⟩:=hx
   rw [show st'.up.length+(i-st'.up.length)=i by omega]
   by_cases hm:i∈st'.defs
   ·exact .inr ⟨hm,by rw [if_pos hm]⟩
   exact .inl ⟨hm,by rw [if_neg hm];exact hz⟩
  have hback:∀(i:Nat) (t:TypeId) (cs:List AV),(st'.up++st'.own)[i]? = some (.cells t cs)→(st'.up++own')[i]? = some (.cells t cs):=fun i t cs hx=>by
   have hnd:i∉st'.defs:=fun hm=>by
    have:=h1.defsAt i hm
    rw [hx] at this;cases this
   rcases B0 i st'.up.length with h'|h'
   ·rw [Cx h'] at hx ⊢;exact hx
   rw [Cp h'] at hx ⊢
   simp only [own',d9,hx,Option.map_some]
   rw [show st'.up.length+(i-st'.up.length)=i by omega,if_neg hnd]
  have hlen':(st'.up++own').length=(st'.up++st'.own).length:=by simp [own']
  have hst2:StRel (d+1) G1 { st' with own:=own',defs:=[] } { tmps:=a'.tmps,defers:=[] } w2:=by
   refine ⟨h1.size,fun s=>T.rep (h1.slots s),⟨fun i x hx=>?_,by rw [hlen'];exact h1.heap.n,h1.heap.inj⟩,(by rw [J8 hTop];rfl),(fun o ho=>by simp at ho),O8,(fun o ho=>by simp at ho),⟨fun b o hb=>?_,fun b o i hb=>?_,fun b o L hb=>?_,h1.tags.globKeep T.old⟩,h1.rnd,h1.low,h1.top⟩
   ·rcases hget i x hx with ⟨hnd,hx'⟩|⟨hm,rfl⟩
    ·have hil:i<G1.n:=by rw [h1.heap.n];exact (Ac.1 hx').1
     refine T.objRel hil (q1 _ (fun o ho e=>hnd ?_)) (h1.heap.obj i x hx') (fun b hb=>q1 b (fun o ho e=>?_))
     ·have hol:o<G1.n:=by rw [h1.heap.n];exact (Ac.1 (h1.defsAt o ho)).1
      rw [h1.heap.inj i o hil hol e];exact ho
     obtain ⟨cur,te,hc,_⟩:=hb
     have hdo:w'.heap[G1.blk o]? = some (.deferred (some [])):=h1.heap.obj o _ (h1.defsAt o ho)
     rw [e,hdo] at hc
     cases hc
    exact q0 i hm
   ·rw [q6];exact h1.tags.ex b o hb
   ·rw [q7];exact h1.tags.obj b o i hb
   rw [q7];exact h1.tags.tail b o L hb
  have hresv:∀(rv:ResultVar) (y:AV),ResV P st' rv y→ResV P { st' with own:=own',defs:=[] } rv y:=fun rv y hy=>by
   cases hy with
   | tmp t _ h=>exact ResV.tmp (st:={ st' with own:=own',defs:=[] }) t _ h
   | cell a t t' o off cs y0 hagg hp ho hy _ h=>exact ResV.cell (st:={ st' with own:=own',defs:=[] }) a t t' o off cs y0 hagg hp (hback _ _ _ ho) hy _ h
   | cellN a t t' o off k cs hagg hsz hp ho hk h1 _ h=>exact ResV.cellN (st:={ st' with own:=own',defs:=[] }) a t t' o off k cs hagg hsz hp (hback _ _ _ ho) hk h1 _ h
  have hres2:Res P { st' with own:=own',defs:=[] } rs r:=by
   cases hres with
   | nores=>exact .nores
   | one rv _ h=>exact .one rv _ (hresv _ _ h)
   | own t _ h=>exact Res.own (st:={ st' with own:=own',defs:=[] }) t _ h
   | ownCell a t t' o off cs _ hagg hp ho hge hy=>exact Res.ownCell (st:={ st' with own:=own',defs:=[] }) a t t' o off cs _ hagg hp (hback _ _ _ ho) hge hy
   | two r1 r2 y1 y2 h1 h2=>exact .two _ _ _ _ (hresv _ _ h1) (hresv _ _ h2)
   | three r1 r2 r3 y1 y2 y3 h1 h2 h3=>exact .three _ _ _ _ _ _ (hresv _ _ h1) (hresv _ _ h2) (hresv _ _ h3)
   | four r1 r2 r3 r4 y1 y2 y3 y4 h1 h2 h3 h4=>exact .four _ _ _ _ _ _ _ _ (hresv _ _ h1) (hresv _ _ h2) (hresv _ _ h3) (hresv _ _ h4)
   | five r1 r2 r3 r4 r5 y1 y2 y3 y4 y5 h1 h2 h3 h4 h5=>exact .five _ _ _ _ _ _ _ _ _ _ (hresv _ _ h1) (hresv _ _ h2) (hresv _ _ h3) (hresv _ _ h4) (hresv _ _ h5)
  obtain ⟨v,G2,hrun,hr2,hH2,hT2,hk2,hn2⟩:=hres2.run hst2 hrs
  have hupl:st'.up.length=H.length:=e1
  refine ⟨v,hrun,v,{ G2 with n:=st'.up.length },r,st'.up,rfl,hr2.cut (by rw [hupl];exact hlow),hH2,⟨hT2.ex,hT2.obj,hT2.tail,hT2.globCut (by rw [hn2,h1.heap.n,Am];omega)⟩,?_,hupl,hpost⟩
  have kk:=(k1.trans (T.keep (d+1))).trans hk2
  have hGn:G.n=H.length:=hH.n
  exact ⟨kk.fix,kk.slot,by rw [hGn,←hupl];exact Ah _,kk.blk,kk.os,kk.tape,kk.output,kk.size,kk.old.cut (by rw [hn2,h1.heap.n,Am];omega)⟩
 rcases hcase with rfl|rfl
 ·exact fin
 exact fin
end
end Go.SX
namespace Go.SX
variable [GI:GlobInv]
open Classical
variable {args caps first:List AV} {f:Operand} {g:FuncId} {r:AV} {s:Nat} {w:World} {xs:List Operand}
section
variable {P:Program} {d:Nat}
variable {st:St} {dst:Option Tmp} {ty:TypeId} {pos:String} {aft:Array Edge} {gd:Option (Nat×Bool)} {ats:Array TypeId}

/-- Some function is entered by an operation. -/
theorem P0 {o:Oper} {a:Act} {w:World} {K:Act→World→Prop} {Q:Exit→Act→World→Prop} {r:Option Nat} {g:FuncId} {vs:Array Value} (hd:∀c,o.op≠.defer c)
  (h:(execOp a.eval o).run P w=.ok (.enter g vs) w) {R:Ending→World→Prop} (hc:CallsIn Fence.wide 0 P g vs w R) (hk:∀e w',R e w'→∃v,e=.returned v∧K (a.put o.dst v) w'):o.wpIn (Fr r) 0 P a w K Q:=by
 refine ⟨fun _ _=>trivial,?_⟩
 rw [Oper.semAt_eq _ _ _ hd,h]
 refine ⟨fun h=>by simp [Fence.wide] at h,?_⟩
 have hc':CallsIn (Fr r) 0 P g vs w R:=hc
 refine hc'.mono fun e w' hR=>?_
 obtain ⟨v,rfl,hk'⟩:=hk e w' hR
 exact hk'

/-- The reading of operands. -/
theorem Sr {G:Gh} {a:Act} {w:World} (h:StRel d G st a w) (xs:List Operand):∀(i:Nat) (y:AV) (u:Value),(xs.map st.ev)[i]? = some y→((xs.map a.eval).toArray)[i]? = some u→Rep G w none y u:=by
 intro i y u hy hu
 simp only [Sg] at hu
 simp only [C4] at hy hu
 rw [Da] at hy hu
 obtain ⟨x,hx,rfl⟩:=hy
 obtain ⟨x',hx',rfl⟩:=hu
 rw [hx] at hx'
 injection hx' with hx'
 subst hx'
 exact h.eval _

/-- What the call of a function value leads to. -/
theorem P1 {va vc:Array Value} {a:Act} (hcall:∀args w,(callFunc g args).run P w=.ok (.enter g args) w) (hf:a.eval f=.func (.func g) va vc):
  (execOp a.eval (⟨dst,.call ⟨.value f,xs.toArray,ats⟩,ty,pos,aft,gd⟩:Oper)).run P w=.ok (.enter g ((va++(xs.map a.eval).toArray)++vc)) w:=by
 simp [execOp,resolve,hf,Deferred.ofValue,invoke,hcall]

/-- After a call: memory is told anew. -/
theorem StRel.called {G G':Gh} {a:Act} {w w':World} {H' U O:List AObj} (h:StRel d G st a w) (hH:HeapRel G' H' w') (hT:TagOK G' w') (hk:Keep (d+1) G w G' w') (hH':H'=U++O) (hU:U.length=st.up.length)
  (hdefs:∀o∈st.defs,(U++O)[o]? = some .defs) (hlow:∀x∈U,ObjLow U.length x):StRel d G' { st with up:=U,own:=O } a w':=by
 subst hH'
 refine ⟨h.size,fun s=>?_,hH,?_,hdefs,h.defsNodup,(fun o ho=>by show U.length≤o;rw [hU];exact h.defsGe o ho),hT,(fun l hl=>by show l<U.length;rw [hU];exact h.rnd l hl),hlow,h.top⟩
 ·exact (h.slots s).mono hk.fix hk.n hk.blk (fun L hL b o ht=>by injection hL with hL;subst hL;exact hk.slot b o d s (Nat.lt_succ_self d) ht)
 rw [h.defs]
 refine congrArg (·++Yd d) (da fun o ho=>?_)
 have:o<G.n:=by
  rw [h.heap.n]
  exact (Ac.1 (h.defsAt o ho)).1
 rw [hk.blk o this]

/-- What a call hands back goes to slot s. -/
theorem StRel.took {G':Gh} {a:Act} {w':World} {v:Value} {st1:St} (h:StRel d G' st1 a w') (hr:Rep G' w' (some (.ret d)) r v) (hs:s<st1.sz):
  StRel d (G'.retag (.ret d) (.slot d s)) (st1.set s r) (a.put (some s) v) w'∧Keep d G' w' (G'.retag (.ret d) (.slot d s)) w':=by
 have hm:=hr.moved (B:=.slot d s)
 have h2:StRel d (G'.retag (.ret d) (.slot d s)) st1 a w':=
  ⟨h.size,fun i=>(h.slots i).retag (by simp),⟨fun i x hx=>(h.heap.obj i x hx).retag (by simp),h.heap.n,h.heap.inj⟩,h.defs,h.defsAt,h.defsNodup,h.defsGe,h.tags.retag,h.rnd,h.low,h.top⟩
 exact ⟨h2.put hs hm,⟨fun b o hb=>⟨Fd hb,rfl⟩,fun b o e s he ht=>Ha (by simp) ht,Ah _,fun _ _=>rfl,rfl,rfl,rfl,Ah _,Still.retag⟩⟩

/-- A call whose contract is any. -/
theorem AOp.callG {f:Operand} {xs:List Operand} {g:FuncId} {first caps:List AV} {args:List AV} {post:AV→List AObj→Prop} {s:Nat} {Q:St→Prop} (hcall:∀args w,(callFunc g args).run P w=.ok (.enter g args) w)
  (hf:st.ev f=.fn (.func g) first caps) (hargs:first++xs.map st.ev++caps=args) (h:ACall P g args (st.up++st.own) post) (hs:s<st.sz)
  (hpost:∀r H',H'.length=(st.up++st.own).length→post r H'→∃U O,H'=U++O∧U.length=st.up.length∧((∀x∈st.up,ObjLow U.length x)→∀x∈U,ObjLow U.length x)∧((∀o∈st.defs,(st.up++st.own)[o]? = some .defs)→∀o∈st.defs,(U++O)[o]? = some .defs)∧Q (({ st with up:=U,own:=O }:St).set s r)):
  AOp P d ⟨some s,.call ⟨.value f,xs.toArray,ats⟩,ty,pos,aft,gd⟩ st Q:=by
 intro G a w hr Q'
 have hfr:=hf ▸ hr.eval f
 generalize hfv:a.eval f=fv at hfr
 cases hfr with
 | fn _ _ _ _ va vc hna hnc h1 h2 =>
  have hxr:=Sr hr xs
  subst hargs
  refine P0 (by intro c h;cases h) (P1 hcall hfv) (h d G w _ (by simp [hna,hnc]) (fun i y u hy hu=>?_) hr.heap hr.tags hr.top) ?_
  ·rw [Br] at hy
   rw [cr] at hu
   rcases B0 i first.length with hi|hi
   ·rw [Cx hi] at hy
    rw [J4 (by omega)] at hu
    exact (h1 i y u hy hu).lift
   rw [Cp hi] at hy
   rw [N9 (by omega),hna] at hu
   rcases B0 (i-first.length) xs.length with hj|hj
   ·rw [Cx (by simpa using hj)] at hy
    rw [J4 (by simpa using hj)] at hu
    exact (hxr _ y u hy hu).lift
   rw [Cp (by simpa using hj)] at hy
   rw [N9 (by simpa using hj)] at hu
   simp only [Bs,Gz] at hy hu
   exact (h2 _ y u hy hu).lift
  rintro e w' ⟨v,G',r,H',rfl,hrep,hH,hT,hk,hlen,hp⟩
  obtain ⟨U,O,hUO,hU,hlow,hdf,hQ⟩:=hpost r H' hlen hp
  have h3:=hr.called hH hT hk hUO hU (hdf hr.defsAt) (hlow (by rw [hU];exact hr.low))
  obtain ⟨h4,k4⟩:=h3.took hrep (s:=s) hs
  exact ⟨v,rfl,_,_,h4,(hk.less (Hq d)).trans k4,hU,rfl,rfl,hQ⟩

/-- A call that hands back r and leaves the objects alone. -/
theorem AOp.callF (hcall:∀args w,(callFunc g args).run P w=.ok (.enter g args) w)
  (hf:st.ev f=.fn (.func g) first caps) (hargs:first++xs.map st.ev++caps=args) (h:AFun P g args (st.up++st.own) r) (hs:s<st.sz):
  AOp P d ⟨some s,.call ⟨.value f,xs.toArray,ats⟩,ty,pos,aft,gd⟩ st (·=st.set s r):=
 AOp.callG hcall hf hargs h hs (fun r' H' _ ⟨h1,h2⟩=>⟨st.up,st.own,h2,rfl,fun h=>h,fun h=>h,by rw [h1]⟩)

/-- The same, as an operation that turns nothing that was told (for a region that draws its order). -/
theorem OpV.call {f:Operand} {xs:List Operand} {g:FuncId} {first caps:List AV} {args:List AV} {r:AV} (hcall:∀args w,(callFunc g args).run P w=.ok (.enter g args) w)
  (hf:st.ev f=.fn (.func g) first caps) (hargs:first++xs.map st.ev++caps=args) (h:AFun P g args (st.up++st.own) r):
  OpV P d ⟨dst,.call ⟨.value f,xs.toArray,ats⟩,ty,pos,aft,gd⟩ st r.strip:=by
 intro G a w hr Q'
 have hfr:=hf ▸ hr.eval f
 generalize hfv:a.eval f=fv at hfr
 cases hfr with
 | fn _ _ _ _ va vc hna hnc h1 h2 =>
  have hxr:=Sr hr xs
  subst hargs
  refine P0 (by intro c h;cases h) (P1 hcall hfv) (h d G w _ (by simp [hna,hnc]) (fun i y u hy hu=>?_) hr.heap hr.tags hr.top) ?_
  ·rw [Br] at hy
   rw [cr] at hu
   rcases B0 i first.length with hi|hi
   ·rw [Cx hi] at hy
    rw [J4 (by omega)] at hu
    exact (h1 i y u hy hu).lift
   rw [Cp hi] at hy
   rw [N9 (by omega),hna] at hu
   rcases B0 (i-first.length) xs.length with hj|hj
   ·rw [Cx (by simpa using hj)] at hy
    rw [J4 (by simpa using hj)] at hu
    exact (hxr _ y u hy hu).lift
   rw [Cp (by simpa using hj)] at hy
   rw [N9 (by simpa using hj)] at hu
   simp only [Bs,Gz] at hy hu
   exact (h2 _ y u hy hu).lift
  rintro e w' ⟨v,G',r',H',rfl,hrep,hH,hT,hk,hlen,rfl,rfl⟩
  have h3:=hr.called hH hT hk rfl rfl hr.defsAt hr.low
  exact ⟨v,rfl,G',v,rfl,h3,hk.less (Hq d),hrep.strip⟩
end
end Go.SX
namespace Go.SX
def dd:=@AOp.callG
end Go.SX
namespace Go.SX
variable [GI:GlobInv]
open Classical

variable {j s:Nat} {n:Int} {o oj:Oper} {rest:List Oper} {want:Bool} {x y:Operand}
/-- What a guarded operation leaves: its value where the guard says so. -/
def gAV (b:Bool) (y:AV):AV:=bif b then y else .v undef
@[simp] theorem U7 (y:AV):gAV true y=y:=rfl
@[simp] theorem Rd (y:AV):gAV false y=.v undef:=rfl

theorem de (f:Nat→AV) (t:Tmp):B6 f (.tmp t)=(f t).strip:=rfl
theorem Wo (f:Nat→AV) (x:Value):B6 f (.const x)=Ck x:=rfl
theorem Zp (f:Nat→AV) (g:FuncId):B6 f (.func g)=.fn (.func g) [] []:=rfl
theorem U8 (k:IntKind) (n:Int):Ck (.int k n)=.v (.int k n):=rfl
theorem Ss (b:Bool):Ck (.bool b)=.v (.bool b):=rfl
theorem P2 (s:ByteArray):Ck (.string s)=.v (.string s):=rfl
theorem U9:Ck (.slice none 0 0)=.nil:=rfl
theorem O1:Ck .nilFunc=.v .nilFunc:=rfl
theorem Mi:Ck .nilIface=.v .nilIface:=rfl
theorem O2 (a:Option Addr):Ck (.pointer a)=.v (.pointer a):=rfl
theorem i6 (x:Value):(AV.v x).strip=.v x:=rfl
theorem Zq:AV.any.strip=.any:=rfl
theorem Zr:AV.nil.strip=.nil:=rfl
theorem Zs (cs:List AV):(AV.agg cs).strip=.agg cs:=rfl
theorem Zt (cs:List AV):(AV.tup cs).strip=.tup cs:=rfl
theorem Ua (o:Bool) (k:Nat) (xs:List AV):(AV.slice o k xs).strip=.slice false k xs:=rfl
theorem dg (cs:List AV):(AV.ro cs).strip=.ro cs:=rfl
theorem Zu (o off:Nat):(AV.ptr o off).strip=.ptr o off:=rfl
theorem dh (f:Fn) (a c:List AV):(AV.fn f a c).strip=.fn f a c:=rfl
theorem Ub (o:Nat):(AV.yield o).strip=.yield o:=rfl
theorem Uc (t:TypeId) (x:AV):(AV.iface t x).strip=.iface t x:=rfl
theorem Zv (b:Bool) (x:AV):(gAV b x).strip=gAV b x.strip:=by cases b<;>rfl

/-- Some slots of a frame; of the others nothing is known. -/
def Jg:List Nat→(Nat→AV)→(Nat→AV)
 | [],_=>fun _=>.any
 | s::l,f=>Aa s (f s) (Jg l f)

theorem Ud (l:List Nat) (f:Nat→AV):∀i,Le (f i) (Jg l f i):=by
 induction l with
 | nil=>exact fun i=>.any _
 | cons s l ih =>
  intro i
  unfold Jg Aa
  split
  ·rename_i h;subst h;exact .refl _
  exact ih i

section
variable {P:Program} {d:Nat} {ops:Array Oper}

theorem ARun.le {l:List Oper} {st st':St} {Q:St→Prop} (hl:StLe d st st') (h:ARun P d ops l st' Q):ARun P d ops l st Q:=by
 intro G a w hr idx hidx
 have:=h G a w (hl.1 _ _ _ hr) idx hidx
 rw [hl.2.2.1] at this
 exact Cq (fun e a' w' ⟨he,G',s,h1,h2,h3,h4,h5,h6⟩=>⟨he,G',s,h1,h2,h3.trans hl.2.1,h4.trans hl.2.2.1,h5.trans hl.2.2.2,h6⟩) _ _ _ this

variable {sz:Nat} {fr fr':Nat→AV} {up own:List AObj} {dfs:List Nat} {rnd:Option Nat}

/-- At a region's end: only some slots are of use any more. -/
theorem ARun.endK (l:List Nat) {Q:St→Prop} (h:Jg l fr=fr') (hq:Q ⟨sz,fr',up,own,dfs,rnd⟩):ARun P d ops [] ⟨sz,fr,up,own,dfs,rnd⟩ Q:=
 ARun.le (st':=⟨sz,fr',up,own,dfs,rnd⟩) (by subst h;exact Oz (s:=⟨sz,fr,up,own,dfs,rnd⟩) (Ud l fr)) (ARun.nil hq)
theorem AW.keep (l:List Nat) {c:Code} {K:Exit→St→Prop} (h:Jg l fr=fr') (hq:AW P d c ⟨sz,fr',up,own,dfs,rnd⟩ K):AW P d c ⟨sz,fr,up,own,dfs,rnd⟩ K:=
 AW.le (st':=⟨sz,fr',up,own,dfs,rnd⟩) (by subst h;exact Oz (s:=⟨sz,fr,up,own,dfs,rnd⟩) (Ud l fr)) hq

theorem AW.seqR {id:Nat} {l:List Oper} {y:Code} {st:St} {K:Exit→St→Prop} (h:ARun P d l.toArray l st (fun s=>AW P d y s K)):AW P d (.seq (.region id l.toArray false) y) st K:=
 Kw (Jb h)
theorem ARun.vv {Q:St→Prop} {y:AV} (hg:o.guard=none) (hd:o.dst=some s) (hs:Nat.blt s sz=true) (h:OpV P d o ⟨sz,fr,up,own,dfs,rnd⟩ y)
  (hr:ARun P d ops rest ⟨sz,Aa s y fr,up,own,dfs,rnd⟩ Q):ARun P d ops (o::rest) ⟨sz,fr,up,own,dfs,rnd⟩ Q:=ARun.v hg hd (by simpa using hs) h hr

/-- What a guard says. -/
inductive GIs:AV→Bool→Bool→Prop
 | v (B want:Bool):GIs (.v (.bool B)) want (B==want)
 | g (c B want:Bool):GIs (gAV c (.v (.bool B))) want (c&&(B==want))

theorem Su {o:Oper} {j:Nat} {want:Bool} {oj:Oper} {s:Nat} {G:Gh} {st:St} {a:Act} {w:World} (hrel:StRel d G st a w) (hg:o.guard=some (j,want)) (hj:ops[j]? = some oj) (hd:oj.dst=some s)
  (hs:st.fr s=.v undef):Region.wanted o (yielded ops a.tmps)=false:=by
 have hv:a.tmps.getD s undef=undef:=J1 (hs ▸ hrel.slots s)
 have hy:yielded ops a.tmps j=none:=by
  simp only [yielded,hj,Option.bind_some,hd]
  rw [Hm] at hv
  cases hx:a.tmps[s]? with
  | none=>rfl
  | some u=>rw [hx] at hv;simp only [Option.getD_some] at hv;subst hv;rfl
 simp only [Region.wanted,hg,hy]
 rfl

theorem Mj {o:Oper} {j:Nat} {want C:Bool} {oj:Oper} {s:Nat} {G:Gh} {st:St} {a:Act} {w:World} (hrel:StRel d G st a w) (hg:o.guard=some (j,want)) (hj:ops[j]? = some oj) (hd:oj.dst=some s)
  (hs:GIs (st.fr s) want C):Region.wanted o (yielded ops a.tmps)=C:=by
 generalize hx:st.fr s=x at hs
 cases hs with
 | v B _=>exact Ra hrel hg hj hd hx
 | g c B _ =>
  cases c with
  | true=>rw [U7] at hx;rw [Ou];exact Ra hrel hg hj hd hx
  | false=>rw [Rd] at hx;rw [Ot];exact Su hrel hg hj hd hx

/-- A guarded operation, whatever the guard says. -/
theorem ARun.guardC {o oj:Oper} {j g s:Nat} {want C:Bool} {rest:List Oper} {Q:St→Prop} {y:AV} (hg:o.guard=some (j,want)) (hj:ops[j]? = some oj) (hdj:oj.dst=some g)
  (hgs:GIs (fr g) want C) (hd:o.dst=some s) (hs:Nat.blt s sz=true) (h:C=true→OpV P d o ⟨sz,fr,up,own,dfs,rnd⟩ y) (hr:ARun P d ops rest ⟨sz,Aa s (gAV C y) fr,up,own,dfs,rnd⟩ Q):
  ARun P d ops (o::rest) ⟨sz,fr,up,own,dfs,rnd⟩ Q:=by
 have hs:s<sz:=by simpa using hs
 intro G a w hrel idx hidx
 cases idx with
 | nil=>simp at hidx
 | cons i r =>
  simp only [Cl,S9] at hidx
  simp only [wpOpsIn,hidx.1]
  have hw:Region.wanted o (yielded ops a.tmps)=C:=Mj hrel hg hj hdj hgs
  rw [hw]
  cases C with
  | true =>
   rw [if_pos rfl]
   refine Im ?_ (AOp.ofV hd (st:=⟨sz,fr,up,own,dfs,rnd⟩) hs (h rfl) G a w hrel _)
   rintro a1 w1 ⟨G1,s1,h1,k1,e1,e2,e3,rfl⟩
   have:=hr G1 a1 w1 h1 r hidx.2
   rw [Eg (st':=⟨sz,Aa s (gAV true y) fr,up,own,dfs,rnd⟩) hrel k1 rfl] at this
   exact Cq (fun e a' w' hp=>⟨hp.1,hp.2.next k1 e1 e2 e3⟩) r a1 w1 this
  | false =>
   rw [if_neg (by simp)]
   refine ⟨fun _ _=>trivial,?_⟩
   rw [hd]
   exact hr G _ w (hrel.put (st:=⟨sz,fr,up,own,dfs,rnd⟩) hs (.v _ _)) r hidx.2

theorem ARun.aop {st st':St} {Q:St→Prop} (hg:o.guard=none) (h:AOp P d o st (·=st')) (hr:ARun P d ops rest st' Q):ARun P d ops (o::rest) st Q:=
 db hg h (fun _ e=>e ▸ hr)

variable {dst:Option Tmp} {ty:TypeId} {pos:String} {aft:Array Edge} {gd:Option (Nat×Bool)} {st:St}

theorem OpV.pickAnd {c x y:Operand} {B A:Bool} (hc:st.ev c=.v (.bool B)) (hx:st.ev x=gAV (B==true) (.v (.bool A))) (hy:st.ev y=.v (.bool false)):OpV P d ⟨dst,.pick c x y,ty,pos,aft,gd⟩ st (.v (.bool (B&&A))):=by
 cases B with
 | true=>exact OpV.pickT hc hx
 | false=>exact OpV.pickF hc hy
theorem OpV.pickOr {c x y:Operand} {B A:Bool} (hc:st.ev c=.v (.bool B)) (hx:st.ev x=.v (.bool true)) (hy:st.ev y=gAV (B==false) (.v (.bool A))):OpV P d ⟨dst,.pick c x y,ty,pos,aft,gd⟩ st (.v (.bool (B || A))):=by
 cases B with
 | true=>exact OpV.pickT hc hx
 | false=>exact OpV.pickF hc hy

/-! ### Sums that fit -/
theorem Jh (h1 : -9223372036854775808≤n) (h2:n≤9223372036854775807):IntKind.i64.wrap n=n:=by
 have e1:(2 ^ IntKind.i64.bits:Int)=18446744073709551616:=rfl
 have e2:(2 ^ (IntKind.i64.bits-1):Int)=9223372036854775808:=rfl
 have e3:IntKind.i64.signed=true:=rfl
 unfold IntKind.wrap
 simp only [e1,e2,e3,Ou,decide_eq_true_eq]
 split<;>omega
theorem OpV.add64 {t u:TypeId} {m:Int} (hx:st.ev x=.v (.int .i64 m)) (hy:st.ev y=.v (.int .i64 n)) (h1 : -9223372036854775808≤m+n) (h2:m+n≤9223372036854775807):
  OpV P d ⟨dst,.binOp .add t x y u,ty,pos,aft,gd⟩ st (.v (.int .i64 (m+n))):=by
 have:=OpV.add (P:=P) (d:=d) (dst:=dst) (t:=t) (u:=u) (ty:=ty) (pos:=pos) (aft:=aft) (gd:=gd) hx hy
 rwa [Jh h1 h2] at this
theorem OpV.sub64 {t u:TypeId} {m:Int} (hx:st.ev x=.v (.int .i64 m)) (hy:st.ev y=.v (.int .i64 n)) (h1 : -9223372036854775808≤m-n) (h2:m-n≤9223372036854775807):
  OpV P d ⟨dst,.binOp .sub t x y u,ty,pos,aft,gd⟩ st (.v (.int .i64 (m-n))):=by
 have:=OpV.sub (P:=P) (d:=d) (dst:=dst) (t:=t) (u:=u) (ty:=ty) (pos:=pos) (aft:=aft) (gd:=gd) hx hy
 rwa [Jh h1 h2] at this
end
end Go.SX
namespace Go.SX
def ua:=@ARun.aop
def Ue:=@ARun.vv
end Go.SX
namespace Go.SX
variable [GI:GlobInv]
open Classical
section
variable {P:Program} {d:Nat}
variable {sz:Nat} {up own:List AObj} {dfs:List Nat} {rnd:Option Nat}

/-- The slots that an operation looks at. -/
def Sv (l:List Operand):List Nat:=l.filterMap fun|.tmp t=>some t|_=>none
def lk (l:List Oper) (o:Oper):List Nat:=
 Sv o.op.operands.toList++(match o.guard with|some (j,_)=>((l[j]?).bind (·.dst)).toList|none=>[])

/-- In any frame in which the slots that it looks at are as in fr, it yields y and turns nothing. -/
def OpD (P:Program) (d:Nat) (l:List Oper) (o:Oper) (sz:Nat) (fr:Nat→AV) (up own:List AObj) (dfs:List Nat) (rnd:Option Nat) (y:AV):Prop:=
 match o.guard with
 | none=>∀f,(∀t∈lk l o,f t=fr t)→OpV P d o ⟨sz,f,up,own,dfs,rnd⟩ y
 | some (j,want)=>∃oj g C y',l[j]? = some oj∧oj.dst=some g∧GIs (fr g) want C∧y=gAV C y' ∧
   (C=true→∀f,(∀t∈lk l o,f t=fr t)→OpV P d o ⟨sz,f,up,own,dfs,rnd⟩ y')

/-- k operations that turn nothing, in whatever order; then the rest, in a row. -/
def ADraw (P:Program) (d:Nat) (l0:List Oper) (sz:Nat) (up own:List AObj) (dfs:List Nat) (rnd:Option Nat) (E:List Oper→(Nat→AV)→Prop):Nat→List Oper→(Nat→AV)→Prop
 | 0,l,fr=>E l fr
 | _+1,[],_=>False
 | k+1,o::l,fr=>∃s y,o.dst=some s∧s<sz∧OpD P d l0 o sz fr up own dfs rnd y∧ADraw P d l0 sz up own dfs rnd E k l (Aa s y fr)

def frL (L:Nat→Bool):Nat→List (Nat×AV)→(Nat→AV)→(Nat→AV)
 | _,[],f=>f
 | i,x::r,f=>frL L (i+1) r (if L i then Aa x.1 x.2 f else f)

theorem Dh {L:Nat→Bool} {t:Nat}:∀(D:List (Nat×AV)) (i:Nat) (f:Nat→AV),(∀(j:Nat) (y:AV),D[j]? = some (t,y)→L (i+j)=false)→frL L i D f t=f t
 | [],_,_,_=>rfl
 | x::r,i,f,h=>by
  unfold frL
  rw [Dh r (i+1) _ (fun j y hj=>by have:=h (j+1) y (by simpa using hj);rwa [show i+1+j=i+(j+1) by omega])]
  by_cases hL:L i
  ·rw [if_pos hL]
   unfold Aa
   split
   ·rename_i ht
    have:=h 0 x.2 (by simp [ht])
    simp [hL] at this
   rfl
  rw [if_neg hL]

theorem Gq {L:Nat→Bool} {t:Nat} {y:AV}:∀(D:List (Nat×AV)) (i j:Nat) (f:Nat→AV),D[j]? = some (t,y)→L (i+j)=true→(∀(j':Nat) (y':AV),D[j']? = some (t,y')→j'=j)→frL L i D f t=y
 | [],_,_,_,h,_,_=>by simp at h
 | x::r,i,0,f,h,hL,hu=>by
  unfold frL
  have hL':L i=true:=by simpa using hL
  rw [if_pos hL',Dh r (i+1) _ (fun j' y' hj'=>by have:=hu (j'+1) y' (by simpa using hj');omega)]
  have hx:x=(t,y):=by simpa using h
  subst hx
  simp [Aa]
 | x::r,i,j+1,f,h,hL,hu=>by
  unfold frL
  exact Gq r (i+1) j _ (by simpa using h) (by rwa [show i+1+j=i+(j+1) by omega]) (fun j' y' hj'=>by have:=hu (j'+1) y' (by simpa using hj');omega)

theorem Mk {L L':Nat→Bool}:∀(D:List (Nat×AV)) (i:Nat) (f:Nat→AV),(∀j,j<D.length→L (i+j)=L' (i+j))→frL L i D f=frL L' i D f
 | [],_,_,_=>rfl
 | x::r,i,f,h=>by
  unfold frL
  have h0:=h 0 (by simp)
  rw [Nat.add_zero] at h0
  rw [h0]
  exact Mk r (i+1) _ (fun j hj=>by have:=h (j+1) (by simp;omega);rwa [show i+1+j=i+(j+1) by omega])

theorem ADraw.data {l0:List Oper} {E:List Oper→(Nat→AV)→Prop}:∀(k:Nat) (l:List Oper) (fr:Nat→AV),ADraw P d l0 sz up own dfs rnd E k l fr→∃D:List (Nat×AV),D.length=k∧k≤l.length ∧
  (∀(i:Nat) (o:Oper),i<k→l[i]? = some o→∃s y,D[i]? = some (s,y)∧o.dst=some s∧s<sz∧OpD P d l0 o sz (frL (fun _=>true) 0 (D.take i) fr) up own dfs rnd y) ∧
  E (l.drop k) (frL (fun _=>true) 0 D fr)
 | 0,l,fr,h=>⟨[],rfl,Aw _,fun i o hi=>by omega,h⟩
 | _+1,[],_,h=>h.elim
 | k+1,o::l,fr,⟨s,y,hs,hlt,hO,h⟩=>by
  obtain ⟨D,h1,h2,h3,h4⟩:=ADraw.data k l _ h
  have hsh:∀(D:List (Nat×AV)) (i j:Nat) (f:Nat→AV),frL (fun _=>true) i D f=frL (fun _=>true) j D f:=by
   intro D
   induction D with
   | nil=>intros;rfl
   | cons x r ih=>intro i j f;unfold frL;exact ih _ _ _
  refine ⟨(s,y)::D,by simp [h1],by simp;omega,fun i o' hi ho=>?_,?_⟩
  ·cases i with
   | zero =>
    have:o=o':=by simpa using ho
    subst this
    exact ⟨s,y,rfl,hs,hlt,hO⟩
   | succ i =>
    obtain ⟨s',y',a1,a2,a3,a4⟩:=h3 i o' (by omega) (by simpa using ho)
    refine ⟨s',y',by simpa using a1,a2,a3,?_⟩
    rw [List.take_succ_cons]
    unfold frL
    rw [hsh _ 1 0,if_pos rfl]
    exact a4
  unfold frL
  rw [hsh _ 1 0,if_pos rfl]
  exact h4

/-! ### Which comes before which -/
def Sw (M:List Nat) (es:List Edge):Nat:=es.foldl (fun s e=>if Region.binds .any e then s ||| 2 ^ e.on ||| M.getD e.on 0 else s) 0

theorem P3 {M:List Nat} {m:Nat} (es:List Edge):(Sw M es).testBit m=true→∃e∈es,Region.binds .any e=true∧(m=e.on∨(M.getD e.on 0).testBit m=true):=by
 unfold Sw
 suffices h:∀(es:List Edge) (s:Nat),(es.foldl (fun s e=>if Region.binds .any e then s ||| 2 ^ e.on ||| M.getD e.on 0 else s) s).testBit m=true→s.testBit m=true∨∃e∈es,Region.binds .any e=true∧(m=e.on∨(M.getD e.on 0).testBit m=true) by
  intro h'
  rcases h es 0 h' with h0|h0
  ·simp at h0
  exact h0
 intro es
 induction es with
 | nil=>exact fun s h=>.inl h
 | cons e r ih =>
  intro s h
  rw [List.foldl_cons] at h
  rcases ih _ h with h1|⟨e',he',h1⟩
  ·by_cases hb:Region.binds .any e=true
   ·rw [if_pos hb] at h1
    simp only [Nat.testBit_or,Fg] at h1
    rcases h1 with (h1|h1)|h1
    ·exact .inl h1
    ·refine .inr ⟨e,by simp,hb,.inl ?_⟩
     rw [Nat.testBit_two_pow] at h1
     simpa using (of_decide_eq_true h1).symm
    exact .inr ⟨e,by simp,hb,.inr h1⟩
   rw [if_neg hb] at h1
   exact .inl h1
  exact .inr ⟨e',by simp [he'],h1⟩

/-- What is asked of a region whose order is drawn, of its text alone. M: of each operation those that come before it. -/
def P4 (l:List Oper) (k:Nat) (M:List Nat):Bool:=
 l.zipIdx.all fun x =>
  Nat.beq (M.getD x.2 0) (Sw M x.1.after.toList)&&(x.1.after.toList.all fun e => !Region.binds .any e || Nat.blt e.on x.2) &&
  if Nat.blt x.2 k then
   (l.zipIdx.all fun z => !(Nat.blt z.2 k) || Nat.beq z.2 x.2 || !(z.1.dst==x.1.dst)) &&
   ((lk l x.1).all fun s=>l.zipIdx.all fun z => !(Nat.blt z.2 k) || !(z.1.dst==some s) || Nat.beq z.2 x.2 || ((M.getD x.2 0).testBit z.2&&Nat.blt z.2 x.2) || ((M.getD z.2 0).testBit x.2&&Nat.blt x.2 z.2))
  else (List.range x.2).all fun j=>(M.getD x.2 0).testBit j

structure EdgeOK (l:List Oper) (k:Nat) (M:List Nat):Prop where
 bits:∀(i:Nat) (o:Oper),l[i]? = some o→∀m,(M.getD i 0).testBit m=true→∃e∈o.after,Region.binds .any e=true∧(m=e.on∨(M.getD e.on 0).testBit m=true)
 fwd:∀(i:Nat) (o:Oper),l[i]? = some o→∀e∈o.after,Region.binds .any e=true→e.on<i
 tail:∀(i j:Nat) (o:Oper),l[i]? = some o→k≤i→j<i→(M.getD i 0).testBit j=true
structure DrawOK (l:List Oper) (k:Nat) (M:List Nat):Prop extends EdgeOK l k M where
 uniq:∀(i j:Nat) (o z:Oper),i<k→j<k→l[i]? = some o→l[j]? = some z→z.dst=o.dst→j=i
 look:∀(i j:Nat) (o z:Oper) (s:Nat),i<k→j<k→l[i]? = some o→l[j]? = some z→s∈lk l o→z.dst=some s→j=i∨((M.getD i 0).testBit j=true∧j<i)∨((M.getD j 0).testBit i=true∧i<j)

theorem Uf {l:List Oper} {k:Nat} {M:List Nat} (h:P4 l k M=true):DrawOK l k M:=by
 have hx:∀(i:Nat) (o:Oper),l[i]? = some o→(o,i)∈l.zipIdx:=fun i o ho=>by
  rw [Hn];exact ho
 unfold P4 at h
 rw [Ap] at h
 refine ⟨⟨fun i o ho m hm=>?_,fun i o ho e he hb=>?_,fun i j o ho hi hj=>?_⟩,fun i j o z hi hj ho hz hd=>?_,fun i j o z s hi hj ho hz hs hd=>?_⟩
 all_goals have hio:=h _ (hx i o ho);simp only [B1] at hio
 ·have e:=H0 hio.1.1
  rw [e] at hm
  obtain ⟨e',he',h1⟩:=P3 _ hm
  exact ⟨e',by simpa using he',h1⟩
 ·have:=Ap.1 hio.1.2 e (by simpa using he)
  simpa [hb] using this
 ·have h2:=hio.2
  rw [if_neg (by simp;omega)] at h2
  exact Ap.1 h2 j (by simpa using hj)
 ·have h2:=hio.2
  rw [if_pos (by simpa using hi)] at h2
  simp only [B1] at h2
  have:=Ap.1 h2.1 _ (hx j z hz)
  have e1:Nat.blt j k=true:=by simpa using hj
  simp only [e1,Ig,Mc,Fg,If,hd,beq_self_eq_true] at this
  rcases this with h|h
  ·exact H0 h
  simp at h
 have h2:=hio.2
 rw [if_pos (by simpa using hi)] at h2
 simp only [B1] at h2
 have:=Ap.1 (Ap.1 h2.2 s hs) _ (hx j z hz)
 have e1:Nat.blt j k=true:=by simpa using hj
 simp only [e1,hd,beq_self_eq_true,Ig,Mc,Fg,B1] at this
 rcases this with (h|h)|h
 ·exact .inl (H0 h)
 ·exact .inr (.inl ⟨h.1,by simpa using h.2⟩)
 exact .inr (.inr ⟨h.1,by simpa using h.2⟩)

/-! ### All orders -/
theorem Ml (G:Gh) (w:World) (n:Nat):Turn G w G { w with drawn:=n }:=
 ⟨fun _ _ h=>⟨h,rfl⟩,fun _ _ _ h=>h,fun _ _ _ h=>h,Ah _,fun _ _=>rfl,rfl,rfl,rfl,Ah _,Il (fun _ _=>rfl) (Ah _) (fun _ _ _=>.inl rfl) (fun _ hi=>.inl ⟨hi,rfl⟩)⟩
theorem StRel.drew {G:Gh} {st:St} {a:Act} {w:World} (h:StRel d G st a w) (n:Nat):StRel d G st a { w with drawn:=n }:=by
 have T:=Ml G w n
 refine h.turn T ⟨fun i x hx=>?_,h.heap.n,h.heap.inj⟩ rfl h.defsAt ⟨h.tags.ex,h.tags.obj,h.tags.tail,h.tags.globKeep T.old⟩ h.low
 exact T.objRel (by rw [h.heap.n];exact (Ac.1 hx).1) rfl (h.heap.obj i x hx) (fun _ _=>rfl)

theorem Gr {l:List Oper} {k:Nat} {M:List Nat} (ok:EdgeOK l k M) {L:Nat→Bool} (hc:∀(i:Nat) (o:Oper),L i=true→l[i]? = some o→∀e∈o.after,Region.binds .any e=true→L e.on=true):
  ∀(i:Nat) (o:Oper),l[i]? = some o→(∀e∈o.after,Region.binds .any e=true→L e.on=true)→∀m,(M.getD i 0).testBit m=true→L m=true:=by
 intro i
 induction i using Nat.strongRecOn with
 | _ i ih =>
  intro o ho he m hm
  obtain ⟨e,hmem,hb,h⟩:=ok.bits i o ho m hm
  rcases h with rfl|h
  ·exact he e hmem hb
  have hlt:=ok.fwd i o ho e hmem hb
  have hil:=(Ac.1 ho).1
  have hz:l[e.on]? = some (l[e.on]'(by omega)):=Ad (by omega)
  exact ih e.on hlt _ hz (hc e.on _ (he e hmem hb) hz) m h

/-- The last ones come in a row. -/
theorem Mm {l:List Oper} {k:Nat} {M:List Nat} (ok:EdgeOK l k M) {F:Fence} {Q:Exit→Act→World→Prop}:∀(m i:Nat) (listed:Array Bool) (a:Act) (w:World),k≤i→i+m=l.length→listed.size=l.length →
  (∀j,j<l.length→listed.getD j false=decide (j<i))→wpOpsIn F 0 P l.toArray Q (List.range' i m) a w→wpAnyIn F 0 P .any l.toArray Q m listed a w:=by
 intro m
 induction m with
 | zero =>
  intro i listed a w hk hi hsz hL h
  refine ⟨?_,h⟩
  refine cy.2 fun j hj=>?_
  obtain ⟨h1,o,ho,_⟩:=mem_ready.1 hj
  have hjl:j<l.length:=by
   have:=(J5.1 ho).1
   simpa using this
  have h2:=hL j hjl
  have h3:listed.getD j true=listed.getD j false:=by simp [hsz,hjl]
  rw [h1,h2] at h3
  simp at h3
  omega
 | succ m ih =>
  intro i listed a w hk hi hsz hL h
  have hil:i<l.length:=by omega
  have hcl:∀(i:Nat) (o:Oper),listed.getD i false=true→l[i]? = some o→∀e∈o.after,Region.binds .any e=true→listed.getD e.on false=true:=by
   intro j o hj ho e he hb
   have hjl:=(Ac.1 ho).1
   have:=ok.fwd j o ho e he hb
   rw [hL j hjl] at hj
   rw [hL e.on (by omega)]
   simp at hj ⊢
   omega
  have hready:i∈Region.ready .any l.toArray listed:=by
   refine mem_ready.2 ⟨by have:=hL i hil;simp at this;simp [hsz,hil];simpa [hsz,hil] using this,l[i],by simp [hil],fun e he hb=>?_⟩
   have:=ok.fwd i _ (Ad hil) e he hb
   rw [hL e.on (by omega)]
   simpa using this
  refine ⟨fun h0=>(by rw [h0] at hready;cases hready),fun j hj=>?_⟩
  obtain ⟨h1,o,ho,he⟩:=mem_ready.1 hj
  have ho':l[j]? = some o:=by simpa using ho
  have hjl:=(Ac.1 ho').1
  have h3:listed.getD j true=listed.getD j false:=by simp [hsz,hjl]
  have hji:i≤j:=by
   rw [h1,hL j hjl] at h3
   simp at h3
   omega
  have hij:j=i:=by
   refine Fz fun hne=>?_
   have:=Gr ok (L:=fun j=>listed.getD j false) hcl j o ho' he i (ok.tail j i o ho' (by omega) (by omega))
   simp only [hL i hil] at this
   simp at this
  subst hij
  rw [List.range'_succ,wpOpsIn_cons] at h
  refine wpOpIn_mono (fun a' w' h'=>ih (j+1) _ a' w' (by omega) (by omega) (by simpa using hsz) (fun q hq=>?_) h') h
  by_cases hqj:q=j
  ·subst hqj;simp [hsz,hq]
  rw [getD_set_ne false (Ne.symm hqj),hL q hq]
  simp
  omega

/-- **A region whose order is drawn.** -/
theorem AW.draw {id k:Nat} {l:List Oper} {fr:Nat→AV} {K:Exit→St→Prop} (M:List Nat) (hm:P.follows .mixedOrders=true) (hok:P4 l k M=true) (h:ADraw P d l sz up own dfs rnd (fun l' f=>ARun P d l.toArray l' ⟨sz,f,up,own,dfs,rnd⟩ (K .normal)) k l fr):
  AW P d (.region id l.toArray true) ⟨sz,fr,up,own,dfs,rnd⟩ K:=by
 have ok:=Uf hok
 obtain ⟨D,hD,hkl,hops,hrest⟩:=ADraw.data k l fr h
 intro G0 a0 w0 hr0
 refine wpIn_region_any hm ?_
 generalize hF:Fr ((St.mk sz fr up own dfs rnd).rnd.map G0.blk)=F
 -- each slot has one writer
 have hu:∀(i j:Nat) (t:Nat) (y y':AV),D[i]? = some (t,y)→D[j]? = some (t,y')→j=i:=by
  intro i j t y y' h1 h2
  have hi:i<k:=by rw [←hD];exact (Ac.1 h1).1
  have hj:j<k:=by rw [←hD];exact (Ac.1 h2).1
  have e1:l[i]? = some (l[i]'(by omega)):=Ad (by omega)
  have e2:l[j]? = some (l[j]'(by omega)):=Ad (by omega)
  obtain ⟨s,z,a1,a2,_⟩:=hops i _ hi e1
  obtain ⟨s',z',b1,b2,_⟩:=hops j _ hj e2
  rw [h1] at a1
  rw [h2] at b1
  injection a1 with a1
  injection b1 with b1
  injection a1 with a1 _
  injection b1 with b1 _
  subst a1
  subst b1
  exact ok.uniq i j _ _ hi hj e1 e2 (b2.trans a2.symm)
 have key:∀(fuel:Nat) (listed:Array Bool) (a:Act) (w:World) (G:Gh),listed.size=l.length→listed.toList.countP (fun b => !b)=fuel →
   (∀j,k≤j→j<l.length→listed.getD j false=false) →
   (∀(i:Nat) (o:Oper),listed.getD i false=true→l[i]? = some o→∀e∈o.after,Region.binds .any e=true→listed.getD e.on false=true) →
   StRel d G ⟨sz,frL (fun j=>listed.getD j false) 0 D fr,up,own,dfs,rnd⟩ a w→Keep d G0 w0 G w →
   wpAnyIn F 0 P .any l.toArray (fun e=>Post d ⟨sz,fr,up,own,dfs,rnd⟩ G0 w0 (K e)) fuel listed a w:=by
  intro fuel
  induction fuel with
  | zero =>
   intro listed a w G hsz hcnt htl hcl hst hkp
   have hall:∀j,j<l.length→listed.getD j false=true:=fun j hj=>by
    have hz:listed.toList.all (fun b=>b)=true:=by
     rw [List.countP_eq_zero] at hcnt
     exact Ap.2 fun b hb=>by simpa using hcnt b hb
    have hj':j<listed.size:=by omega
    have:=Ap.1 hz (listed[j]) (by simp)
    simpa [hj'] using this
   have hkeq:k=l.length:=by
    refine Fz fun hne=>?_
    have h1:=htl k (Ah _) (by omega)
    rw [hall k (by omega)] at h1
    cases h1
   refine Mm ok.toEdgeOK 0 l.length listed a w (by omega) (by omega) hsz (fun j hj=>by rw [hall j hj];simpa using hj) ?_
   have hfe:frL (fun j=>listed.getD j false) 0 D fr=frL (fun _=>true) 0 D fr:=Mk D 0 fr (fun j hj=>by rw [B7];exact hall j (by omega))
   rw [hfe] at hst
   have hz:=hrest G a w hst [] (by simp [hkeq])
   rw [Eg (st':=⟨sz,frL (fun _=>true) 0 D fr,up,own,dfs,rnd⟩) hr0 hkp rfl,hF] at hz
   exact Cq (fun e a' w' ⟨he,hp⟩=>by subst he;exact hp.next hkp rfl rfl rfl) _ _ _ hz
  | succ fuel ih =>
   intro listed a w G hsz hcnt htl hcl hst hkp
   by_cases hpre:∀j,j<k→listed.getD j false=true
   ·-- the rest, in a row
    have hfe:frL (fun j=>listed.getD j false) 0 D fr=frL (fun _=>true) 0 D fr:=Mk D 0 fr (fun j hj=>by rw [B7];exact hpre j (by omega))
    rw [hfe] at hst
    have hle:∀j,j<l.length→listed.getD j false=decide (j<k):=fun j hj=>by
     by_cases hjk:j<k
     ·rw [hpre j hjk];simpa using hjk
     rw [htl j (by omega) hj];simpa using hjk
    have hcnt':fuel+1=l.length-k:=by
     rw [←hcnt]
     have e1:listed.toList=(List.range l.length).map (fun j=>decide (j<k)):=by
      apply Wi
      ·simp [hsz]
      intro j h1 h2
      have hj:j<l.length:=by simpa [hsz] using h1
      have:=hle j hj
      simp only [Wn,List.getElem_range,Array.getElem_toList]
      rw [←this]
      have hj':j<listed.size:=by omega
      simp [hj']
     rw [e1,List.countP_map]
     have e2:((fun b => !b) ∘ fun j=>decide (j<k))=fun j=>decide (k≤j):=by
      funext j
      simp only [Function.comp_apply]
      by_cases hjk:j<k
      ·have h2:¬k≤j:=by omega
       simp [hjk,h2]
      have h2:k≤j:=by omega
      simp [hjk,h2]
     rw [e2]
     have:∀n,(List.range n).countP (fun j=>decide (k≤j))=n-k:=by
      intro n
      induction n with
      | zero=>simp
      | succ n ihn =>
       rw [Si,List.countP_append,ihn]
       by_cases hkn:k≤n
       ·simp [hkn];omega
       simp [hkn];omega
     rw [this]
    rw [hcnt']
    refine Mm ok.toEdgeOK (l.length-k) k listed a w (Ah _) (by omega) hsz hle ?_
    have hz:=hrest G a w hst (List.range' k (l.length-k)) (by
     apply Ih
     intro i
     simp only [C4,Dl]
     by_cases hi:i<l.length-k
     ·rw [Sf (by omega),Ad (l:=l) (by omega)]
      simp
     rw [Dx (by simp;omega),Dx (by omega)];rfl)
    rw [Eg (st':=⟨sz,frL (fun _=>true) 0 D fr,up,own,dfs,rnd⟩) hr0 hkp rfl,hF] at hz
    exact Cq (fun e a' w' ⟨he,hp⟩=>by subst he;exact hp.next hkp rfl rfl rfl) _ _ _ hz
   obtain ⟨j0,hj0k,hj0⟩:∃j,j<k∧listed.getD j false=false:=by
    refine Fz fun hne=>hpre fun j hj=>?_
    cases hv:listed.getD j false with
    | true=>rfl
    | false=>exact absurd ⟨j,hj,hv⟩ hne
   refine ⟨fun h0=>?_,fun i hi=>?_⟩
   ·-- the least that is not listed is ready
    obtain ⟨m,hm,hmin⟩:=H2 (S:=fun j=>j<k∧listed.getD j false=false) ⟨j0,hj0k,hj0⟩
    have hml:m<l.length:=by omega
    have:m∈Region.ready .any l.toArray listed:=by
     refine mem_ready.2 ⟨?_,l[m],by simp [hml],fun e he hb=>?_⟩
     ·have:=hm.2;have hj':m<listed.size:=by omega
      simpa [hj'] using this
     have hlt:=ok.fwd m _ (Ad hml) e he hb
     cases hv:listed.getD e.on false with
     | true=>rfl
     | false=>have:=hmin e.on ⟨by omega,hv⟩;omega
    rw [h0] at this
    cases this
   obtain ⟨h1,o,ho,he⟩:=mem_ready.1 hi
   have ho':l[i]? = some o:=by simpa using ho
   have hil:=(Ac.1 ho').1
   have hLi:listed.getD i false=false:=by
    have h3:listed.getD i true=listed.getD i false:=by simp [hsz,hil]
    rw [←h3];exact h1
   have hbits:=Gr ok.toEdgeOK (L:=fun j=>listed.getD j false) hcl i o ho' he
   have hik:i<k:=by
    refine Fz fun hge=>?_
    have:=hbits j0 (ok.tail i j0 o ho' (by omega) (by omega))
    simp only [hj0] at this
    cases this
   obtain ⟨s,y,hDi,hdst,hssz,hO⟩:=hops i o hik ho'
   -- what it looks at is as in the text's order
   have hag:∀t∈lk l o,frL (fun j=>listed.getD j false) 0 D fr t=frL (fun _=>true) 0 (D.take i) fr t:=by
    intro t ht
    by_cases hw:∃(j:Nat) (y:AV),D[j]? = some (t,y)
    ·obtain ⟨j,z,hj⟩:=hw
     have hjk:j<k:=by rw [←hD];exact (Ac.1 hj).1
     have ez:l[j]? = some (l[j]'(by omega)):=Ad (by omega)
     obtain ⟨s',z',b1,b2,_⟩:=hops j _ hjk ez
     rw [hj] at b1
     injection b1 with b1
     injection b1 with b1 b1'
     subst b1
     rcases ok.look i j o _ t hik hjk ho' ez ht b2 with rfl|⟨hb,hlt⟩|⟨hb,hlt⟩
     ·rw [Dh D 0 fr (fun q y hq=>by rw [hu j q t z y hj hq,B7];exact hLi),Dh (D.take j) 0 fr (fun q y hq=>by
       rw [Eo] at hq
       split at hq
       ·rename_i hlt;have:=hu j q t z y hj hq;omega
       cases hq)]
     ·rw [Gq D 0 j fr hj (by rw [B7];exact hbits j hb) (fun q y hq=>hu j q t z y hj hq),Gq (D.take i) 0 j fr (by rw [Eo,if_pos hlt];exact hj) rfl (fun q y hq=>by
       rw [Eo] at hq
       split at hq
       ·exact hu j q t z y hj hq
       cases hq)]
     have hLj:listed.getD j false=false:=by
      cases hv:listed.getD j false with
      | false=>rfl
      | true =>
       have:=Gr ok.toEdgeOK (L:=fun j=>listed.getD j false) hcl j _ ez (hcl j _ hv ez) i hb
       simp only [hLi] at this
       cases this
     rw [Dh D 0 fr (fun q y hq=>by rw [hu j q t z y hj hq,B7];exact hLj),Dh (D.take i) 0 fr (fun q y hq=>by
      rw [Eo] at hq
      split at hq
      ·rename_i hlt';have:=hu j q t z y hj hq;omega
      cases hq)]
    rw [Dh D 0 fr (fun q y hq=>absurd ⟨q,y,hq⟩ hw),Dh (D.take i) 0 fr (fun q y hq=>by
      rw [Eo] at hq
      split at hq
      ·exact absurd ⟨q,y,hq⟩ hw
      cases hq)]
   -- on from there
   have hnext:∀(G1:Gh) (v:Value) (w1:World),StRel d G1 ⟨sz,frL (fun j=>listed.getD j false) 0 D fr,up,own,dfs,rnd⟩ a w1→Keep d G w G1 w1→Rep G1 w1 none y v →
     wpAnyIn F 0 P .any l.toArray (fun e=>Post d ⟨sz,fr,up,own,dfs,rnd⟩ G0 w0 (K e)) fuel (listed.setIfInBounds i true) (a.put o.dst v) w1:=by
    intro G1 v w1 hr1 hk1 hv
    have hgd:∀j,(listed.setIfInBounds i true).getD j false=if j=i then true else listed.getD j false:=fun j=>by
     by_cases hj:j=i
     ·subst hj;simp [hsz,hil]
     rw [getD_set_ne false (Ne.symm hj),if_neg hj]
    have hfr:frL (fun j=>(listed.setIfInBounds i true).getD j false) 0 D fr=Aa s y (frL (fun j=>listed.getD j false) 0 D fr):=by
     funext t
     unfold Aa
     by_cases ht:t=s
     ·subst ht
      rw [if_pos rfl]
      exact Gq D 0 i fr hDi (by rw [B7,hgd,if_pos rfl]) (fun q z hq=>hu i q t y z hDi hq)
     rw [if_neg ht]
     by_cases hw:∃(j:Nat) (y:AV),D[j]? = some (t,y)
     ·obtain ⟨j,z,hj⟩:=hw
      have hji:j≠i:=fun e=>by subst e;rw [hDi] at hj;injection hj with hj;injection hj with hj _;exact ht hj.symm
      cases hv:listed.getD j false with
      | true=>rw [Gq D 0 j fr hj (by rw [B7,hgd,if_neg hji];exact hv) (fun q y hq=>hu j q t z y hj hq),Gq D 0 j fr hj (by rw [B7];exact hv) (fun q y hq=>hu j q t z y hj hq)]
      | false=>rw [Dh D 0 fr (fun q y hq=>by rw [hu j q t z y hj hq,B7,hgd,if_neg hji];exact hv),Dh D 0 fr (fun q y hq=>by rw [hu j q t z y hj hq,B7];exact hv)]
     rw [Dh D 0 fr (fun q y hq=>absurd ⟨q,y,hq⟩ hw),Dh D 0 fr (fun q y hq=>absurd ⟨q,y,hq⟩ hw)]
    refine ih _ _ w1 G1 (by simpa using hsz) ?_ (fun j hj hjl=>by rw [hgd,if_neg (by omega)];exact htl j hj hjl) (fun q oq hq hoq e hmem hb=>?_) ?_ (hkp.trans hk1)
    ·rw [cu,List.countP_set (by simpa [hsz] using hil),hcnt]
     have hil':i<listed.size:=by omega
     have:listed[i]=false:=by simpa [hil'] using hLi
     simp [this]
    ·rw [hgd] at hq ⊢
     split
     ·rfl
     by_cases hqi:q=i
     ·subst hqi
      rw [ho'] at hoq
      injection hoq with hoq
      subst hoq
      exact he e hmem hb
     rw [if_neg hqi] at hq
     exact hcl q oq hq hoq e hmem hb
    rw [hfr,hdst]
    exact hr1.put (st:=⟨sz,frL (fun j=>listed.getD j false) 0 D fr,up,own,dfs,rnd⟩) hssz hv.lift
   have hFe:Fr ((St.mk sz (frL (fun j=>listed.getD j false) 0 D fr) up own dfs rnd).rnd.map G.blk)=F:=by
    rw [←hF];exact Eg (st':=⟨sz,frL (fun j=>listed.getD j false) 0 D fr,up,own,dfs,rnd⟩) hr0 hkp rfl
   unfold OpD at hO
   unfold wpOpIn
   rw [ho]
   simp only
   cases hg:o.guard with
   | none =>
    rw [hg] at hO
    have hw:Region.wanted o (yielded l.toArray a.tmps)=true:=by simp [Region.wanted,hg]
    rw [if_pos hw]
    have:=hO _ hag G a w hst (fun e=>Post d ⟨sz,fr,up,own,dfs,rnd⟩ G0 w0 (K e))
    rw [hFe] at this
    refine Oper.wpIn_mono ?_ this
    rintro a1 w1 ⟨G1,v,rfl,hr1,hk1,hv⟩
    exact hnext G1 v w1 hr1 hk1 hv
   | some jw =>
    obtain ⟨j,want⟩:=jw
    rw [hg] at hO
    obtain ⟨oj,g,C,y',hj,hdj,hgB,rfl,hO⟩:=hO
    have hgf:GIs (frL (fun j=>listed.getD j false) 0 D fr g) want C:=by
     rw [hag g (by unfold lk;rw [hg];simp [hj,hdj])]
     exact hgB
    have hw:Region.wanted o (yielded l.toArray a.tmps)=C:=Mj hst hg (by simpa using hj) hdj hgf
    rw [hw]
    cases hBw:C with
    | true =>
     rw [if_pos rfl]
     have:=hO hBw _ hag G a w hst (fun e=>Post d ⟨sz,fr,up,own,dfs,rnd⟩ G0 w0 (K e))
     rw [hFe] at this
     refine Oper.wpIn_mono ?_ this
     rintro a1 w1 ⟨G1,v,rfl,hr1,hk1,hv⟩
     exact hnext G1 v w1 hr1 hk1 (by rw [hBw];exact hv)
    | false =>
     rw [if_neg (by simp)]
     refine ⟨fun _ _=>by rw [←hFe];trivial,?_⟩
     exact hnext G undef w hst (Er _ _ _) (by rw [hBw];exact .v _ _)
 have hz:frL (fun j=>(Array.replicate l.toArray.size false).getD j false) 0 D fr=fr:=by
  funext t
  refine Dh D 0 fr fun j y hj=>?_
  rw [Hm,Oo]
  split<;>rfl
 refine key _ _ _ _ G0 (by simp) ?_ (fun j hj hjl=>?_) (fun i o hi=>?_) ?_ ?_
 ·simp [cx]
 ·rw [Hm,Oo];split<;>rfl
 ·rw [Hm,Oo] at hi
  split at hi<;>simp at hi
 ·rw [hz];exact hr0.drew _
 exact (Ml G0 w0 _).keep d
end
end Go.SX
namespace Go.SX
variable [GI:GlobInv]
open Classical
variable {H:List AObj} {w:World}
section
variable {P:Program} {d:Nat}
variable {st:St} {dst:Option Tmp} {ty:TypeId} {pos:String} {aft:Array Edge} {gd:Option (Nat×Bool)} {ats:Array TypeId}

/-- The objects below m refer to none behind. -/
theorem P5 {G:Gh} {H:List AObj} {w:World} (h:HeapRel G H w):∀x∈H,ObjLow H.length x:=by
 intro x hx
 obtain ⟨i,hi⟩:=Cc hx
 rw [←h.n]
 exact (h.obj i x hi).low

theorem Ji {G:Gh} (h:HeapRel G H w) (i:Nat) (hi:i<G.n):G.blk i<w.heap.size:=by
 have hi':i<H.length:=by rw [←h.n];exact hi
 exact (h.obj i _ (Ad hi')).blt

/-- The record of a loop turns. -/
theorem Kb {G:Gh} {H:List AObj} {w:World} {l sz df:Nat} {s:LoopState} {pd:Option Code} {fr:Nat→AV} {ps:Array Tmp} {as bd:Code} (hH:HeapRel G H w) (hT:TagOK G w) (hl:H[l]? = some (.loop s pd fr sz ps as bd df)):
  ∃r:Loop,w.heap[G.blk l]? = some (.loop r)∧r.state=s∧r.pending=pd∧r.params=ps∧r.assign=as∧r.body=bd∧r.tmps.size=sz∧(∀s,Rep G w none (fr s) (r.tmps.getD s undef))∧r.defers=G.blk df∧df<G.n ∧
   ∀s' pd',Turn G w G (w.putObj (G.blk l) (.loop { r with state:=s',pending:=pd' }))∧HeapRel G (H.set l (.loop s' pd' fr sz ps as bd df)) (w.putObj (G.blk l) (.loop { r with state:=s',pending:=pd' })) ∧
    TagOK G (w.putObj (G.blk l) (.loop { r with state:=s',pending:=pd' })):=by
 obtain ⟨fn,tmps,h1,h2,h3,h4⟩:=hH.obj l _ hl
 refine ⟨_,h1,rfl,rfl,rfl,rfl,rfl,h2,h3,rfl,h4,fun s' pd'=>?_⟩
 have hlt:l<G.n:=by rw [hH.n];exact (Ac.1 hl).1
 have hb:G.blk l<w.heap.size:=(J5.1 h1).1
 generalize hW:w.putObj (G.blk l) (.loop { state:=s',pending:=pd',fn:=fn,tmps:=tmps,params:=ps,assign:=as,body:=bd,defers:=G.blk df })=w'
 have hself:w'.heap[G.blk l]? = some (.loop { state:=s',pending:=pd',fn:=fn,tmps:=tmps,params:=ps,assign:=as,body:=bd,defers:=G.blk df }):=by
  rw [←hW];exact World.putObj_heap_same hb
 have hoth:∀b,b≠G.blk l→w'.heap[b]? = w.heap[b]? := fun b hb=>by rw [←hW];exact World.putObj_heap_other hb
 have hcell:∀(p:Addr),w'.cell? p=w.cell? p:=fun p=>by
  by_cases hp:p.block=G.blk l
  ·simp only [World.cell?,hp,hself,h1]
  exact Gp (hoth _ hp)
 have hfz:∀(p:Addr),w'.frozen? p=w.frozen? p:=fun p=>by
  by_cases hp:p.block=G.blk l
  ·simp only [World.frozen?,hp,hself,h1]
  exact Gj (hoth _ hp)
 have T:Turn G w G w':=⟨fun b o hb=>⟨hb,hcell _⟩,fun _ _ _ hb=>hb,fun _ _ _ hb=>hb,Ah _,fun _ _=>rfl,by rw [←hW];rfl,by rw [←hW];rfl,by rw [←hW];rfl,by rw [←hW];simp,Still.write (G.blk l) (J7 (by rw [hH.n];exact (Ac.1 hl).1)) (fun b hb=>hoth b hb) (by rw [←hW];simp)⟩
 refine ⟨T,⟨fun i x hx=>?_,by rw [hH.n,Cy],hH.inj⟩,⟨fun b o h=>?_,fun b o i h=>?_,fun b o L h=>?_,hT.globKeep T.old⟩⟩
 ·rcases Nat.decEq i l with hne|rfl
  ·rw [Cd (fun e=>hne e.symm)] at hx
   have hil:i<G.n:=by rw [hH.n];exact (Ac.1 hx).1
   exact T.objRel hil (hoth _ (fun e=>hne (hH.inj i l hil hlt e))) (hH.obj i x hx) (fun b hb=>hoth b (fun e=>by
    obtain ⟨cur,te,hc,_⟩:=hb
    rw [e,h1] at hc
    cases hc))
  rw [Wl (by rw [←hH.n];exact hlt)] at hx
  injection hx with hx
  subst hx
  exact ⟨fn,tmps,hself,h2,fun s=>T.rep (h3 s),h4⟩
 ·rw [hcell];exact hT.ex b o h
 ·rw [hfz];exact hT.obj b o i h
 rw [hfz];exact hT.tail b o L h

/-- A new block that holds no cells. -/
theorem StRel.grow {G:Gh} {a:Act} {w:World} (h:StRel d G st a w) {o:Obj} (hc:∀i,(w.alloc o).cell? ⟨w.heap.size,i,none⟩=none) {x:AObj}
  (hx:∀G',Turn G w G' (w.alloc o)→G'.n=G.n+1→G'.blk G.n=w.heap.size→(∀i,i<G.n→G'.blk i=G.blk i)→ObjRel G' (w.alloc o) G.n x):
  ∃G',StRel d G' { st with own:=st.own++[x] } a (w.alloc o)∧Turn G w G' (w.alloc o)∧G'.blk (st.up++st.own).length=w.heap.size∧(∀i,i<G.n→G'.blk i=G.blk i):=by
 have hfree:∀o,G.tag w.heap.size o=.free:=fun o=>by
  refine Fz fun hne=>?_
  obtain ⟨u,hu⟩:=h.tags.ex _ _ hne
  have:=World.block_lt_of_cell? _ _ hu
  simp at this
 have hgn:=h.heap.n
 have hblt:=Ji h.heap
 let G':Gh:={ tag:=G.tag,blk:=fun i=>if i=G.n then w.heap.size else G.blk i,n:=G.n+1 }
 have hcell:∀b o',G.tag b o'≠.free→(w.alloc o).cell? ⟨b,o',none⟩=w.cell? ⟨b,o',none⟩:=fun b o' hb=>by
  refine World.cell?_alloc_old _ _ _ ?_
  show b≠w.heap.size
  rintro rfl
  exact hb (hfree o')
 have hG':∀i,i<G.n→G'.blk i=G.blk i:=fun i hi=>by simp only [G'];rw [if_neg (by omega)]
 have hGn:G'.blk G.n=w.heap.size:=by simp [G']
 have T:Turn G w G' (w.alloc o):=
  ⟨fun b o' hb=>⟨hb,hcell b o' (by rw [hb];simp)⟩,fun b o' L hb=>hb,fun b o' i hb=>hb,Hq _,hG',rfl,rfl,rfl,by simp,So _ (fun b o' _=>.inl rfl) (fun i hi=>by
   by_cases e:i=G.n
   ·exact .inr (by rw [e,hGn];exact Ah _)
   have hi':i<G.n+1:=hi
   exact .inl ⟨by omega,hG' i (by omega)⟩)⟩
 refine ⟨G',?_,T,by rw [←hgn];exact hGn,hG'⟩
 have hHR:HeapRel G' (st.up++(st.own++[x])) (w.alloc o):=by
  rw [←Br]
  refine ⟨fun i y hy=>?_,by simp only [G',Am,Ow];simp only [Am] at hgn;omega,fun i j hi hj e=>?_⟩
  ·rcases B0 i (st.up++st.own).length with hlt|hge
   ·rw [Cx hlt] at hy
    refine T.objRel (by omega) ?_ (h.heap.obj i y hy) (fun b hb=>?_)
    ·have:=hblt i (by omega)
     show (w.heap.push _)[G.blk i]? = _
     rw [Kj,if_neg (by omega)]
    have:=hb.lt
    show (w.heap.push _)[b]? = _
    rw [Kj,if_neg (by omega)]
   have hi:i=(st.up++st.own).length:=by
    have:=(Ac.1 hy).1
    simp only [Am,Ow] at this ⊢
    simp only [Am] at hge
    omega
   subst hi
   simp only [Cp (Ah _),Sm,d7] at hy
   injection hy with hy
   subst hy
   rw [←hgn]
   exact hx G' T rfl hGn hG'
  simp only [G'] at hi hj e
  by_cases h1:i=G.n<;>by_cases h2:j=G.n
  ·omega
  ·rw [if_pos h1,if_neg h2] at e
   have:=hblt j (by omega)
   omega
  ·rw [if_neg h1,if_pos h2] at e
   have:=hblt i (by omega)
   omega
  rw [if_neg h1,if_neg h2] at e
  exact h.heap.inj i j (by omega) (by omega) e
 refine h.turn (O:=st.own++[x]) T hHR rfl (fun o ho=>?_) ⟨fun b o' hb=>?_,fun b o' i hb=>?_,fun b o' L hb=>?_,h.tags.globKeep T.old⟩ h.low
 ·have:=h.defsAt o ho
  rw [←Br,Cx (Ac.1 this).1]
  exact this
 ·rw [hcell b o' hb]
  exact h.tags.ex b o' hb
 ·rw [World.frozen?_alloc_old]
  ·exact h.tags.obj b o' i hb
  show b≠w.heap.size
  rintro rfl
  have hb':G.tag _ _=_:=hb
  rw [hfree] at hb';cases hb'
 rw [World.frozen?_alloc_old]
 ·exact h.tags.tail b o' L hb
 show b≠w.heap.size
 rintro rfl
 have hb':G.tag _ _=_:=hb
 rw [hfree] at hb';cases hb'

theorem Lo {x:Option (List Deferred)} {i:Nat}:(w.alloc (.deferred x)).cell? ⟨w.heap.size,i,none⟩=none:=by
 simp only [World.cell?,World.alloc_heap_new]
theorem Qu {x:Loop} {i:Nat}:(w.alloc (.loop x)).cell? ⟨w.heap.size,i,none⟩=none:=by
 simp only [World.cell?,World.alloc_heap_new]

/-! ### A call of yield -/

/-- A call of yield, of loop l: it hands back whether it goes on. -/
def AYield (P:Program) (l:Nat) (args:List AV) (H:List AObj) (post:Bool→List AObj→Prop):Prop:=
 ∀(d:Nat) (G:Gh) (w:World) (vs:Array Value),vs.size=args.length→(∀(i:Nat) (y:AV) (u:Value),args[i]? = some y→vs[i]? = some u→Rep G w none y u)→HeapRel G H w→TagOK G w→GI.bd≤d →
  ∃(f:FuncId) (tmps:Array Value) (as bd:Code),(Instr.yield (G.blk l) vs).run P w=.ok (.round (G.blk l) f tmps as bd) w ∧
   RoundIn Fence.wide 0 P (G.blk l) f tmps as bd w (fun e w'=>∃(b:Bool) (G':Gh) (H':List AObj),e=.returned (.bool b)∧HeapRel G' H' w'∧TagOK G' w'∧Keep (d+1) G w G' w'∧H'.length=H.length∧post b H')

/-- The frame of a round: the loop's, with what was yielded. -/
def Wp:List (Nat×AV)→(Nat→AV)→Nat→AV
 | [],f=>f
 | x::r,f=>Wp r (Aa x.1 x.2 f)

/-- How a round may end. -/
def Wq (l:Nat) (fr:Nat→AV) (sz:Nat) (ps:Array Tmp) (as bd:Code) (df:Nat) (post:Bool→List AObj→Prop):Exit→St→Prop:=fun e s =>
 (∃x pd,s.up[l]? = some (.loop x pd fr sz ps as bd df)) ∧
 match e with
 | .normal=>post true (s.up.set l (.loop .ready none fr sz ps as bd df))
 | .ret=>post false (s.up.set l (.loop .done (some .ret) fr sz ps as bd df))
 | .exit i=>post false (s.up.set l (.loop .done (some (.exit i)) fr sz ps as bd df))
 | .goto i=>post false (s.up.set l (.loop .done (some (.goto i)) fr sz ps as bd df))
 | _=>False

theorem Uh {G:Gh} {w:World} {l:Nat→Option Loc}:∀(ys:List (Nat×AV)) (us:List (Nat×Value)) (f:Nat→AV) (t:Array Value),ys.length=us.length→(∀(i:Nat) (p:Nat) (y:AV) (q:Nat) (u:Value),ys[i]? = some (p,y)→us[i]? = some (q,u)→p=q∧p<t.size∧Rep G w none y u) →
  (∀s,Rep G w (l s) (f s) (t.getD s undef))→∀s,Rep G w (l s) (Wp ys f s) ((us.foldl (fun t x=>t.setIfInBounds x.1 x.2) t).getD s undef)
 | [],[],f,t,_,_,h=>h
 | [],_::_,_,_,hn,_,_=>by simp at hn
 | _::_,[],_,_,hn,_,_=>by simp at hn
 | (p,y)::ys,(q,u)::us,f,t,hn,hyu,h=>by
  obtain ⟨rfl,hp,hr⟩:=hyu 0 p y q u rfl rfl
  refine Uh ys us _ _ (by simpa using hn) (fun i p' y' q' u' h1 h2=>?_) (fun s=>?_)
  ·have:=hyu (i+1) p' y' q' u' (by simpa using h1) (by simpa using h2)
   simpa using this
  show Rep G w (l s) (Aa p y f s) ((t.setIfInBounds p u).getD s undef)
  rw [F4 _ _ _ _ hp]
  unfold Aa
  by_cases hs:s=p
  ·subst hs;simpa using hr.lift
  simpa [hs] using h s

theorem Jj:∀(us:List (Nat×Value)) (t:Array Value),(us.foldl (fun t x=>t.setIfInBounds x.1 x.2) t).size=t.size
 | [],_=>rfl
 | _::us,t=>by rw [List.foldl_cons,Jj us];simp

/-- **A round, from the assignments and the body.** -/
theorem AYield.ofRound {l sz df:Nat} {args:List AV} {H:List AObj} {post:Bool→List AObj→Prop} {pd:Option Code} {fr:Nat→AV} {ps:Array Tmp} {asg bd:Code} (hl:H[l]? = some (.loop .ready pd fr sz ps asg bd df)) (hn:args.length=ps.size)
  (hps:∀p∈ps,p<sz)
  (h:∀d,AW P (d+1) asg ⟨sz,Wp (ps.toList.zip args) fr,H,[],[],some l⟩ (fun e s=>e=.normal∧∃pd',s.up[l]? = some (.loop .ready pd' fr sz ps asg bd df) ∧
   AW P (d+1) bd { s with up:=s.up.set l (.loop .busy pd' fr sz ps asg bd df) } (Wq l fr sz ps asg bd df post))):AYield P l args H post:=by
 intro d G w vs hvs hrep hH hT hTop
 obtain ⟨r,h1,hs,hp,hpa,has,hbd,hsz,hfr,hdf,hdl,_⟩:=Kb hH hT hl
 have hrun:=run_yield (P:=P) (args:=vs) h1 (by rw [hvs,hn,hpa])
 refine ⟨_,_,_,_,hrun,?_⟩
 have hllt:l<H.length:=(Ac.1 hl).1
 -- the frame of the round
 have hzip:((r.params.zip vs).foldl (fun tmps (x:Tmp×Value)=>tmps.setIfInBounds x.1 x.2) r.tmps)=((ps.toList.zip vs.toList).foldl (fun t x=>t.setIfInBounds x.1 x.2) r.tmps):=by
  rw [←Array.foldl_toList,Array.toList_zip,hpa]
 have hst:StRel (d+1) G ⟨sz,Wp (ps.toList.zip args) fr,H,[],[],some l⟩ { tmps:=((ps.toList.zip vs.toList).foldl (fun t x=>t.setIfInBounds x.1 x.2) r.tmps),defers:=[] } w:=by
  refine ⟨?_,fun s=>?_,by simpa using hH,(by rw [J8 hTop];rfl),(fun o ho=>by simp at ho),O8,(fun o ho=>by simp at ho),hT,(fun l' hl'=>by injection hl' with hl';subst hl';exact hllt),P5 hH,Sl hTop⟩
  ·exact (Jj _ _).trans hsz
  refine Uh (l:=fun s=>some (.slot (d+1) s)) _ _ _ _ ?_ (fun i p y q u h2 h3=>?_) (fun s=>(hfr s).lift) s
  ·have e1:vs.toList.length=vs.size:=rfl
   have e2:ps.toList.length=ps.size:=rfl
   simp only [List.length_zip];omega
  rw [Wm] at h2 h3
  obtain ⟨a1,a2⟩:=h2
  obtain ⟨b1,b2⟩:=h3
  rw [a1] at b1
  injection b1 with b1
  refine ⟨b1,?_,hrep i y u a2 (by simpa using b2)⟩
  rw [hsz]
  exact hps p (by simpa using Ax a1)
 have hw:=h d G _ w hst
 rw [has,hbd]
 have hFr:(Fence.wide.inRound (G.blk l))=Fr ((some l).map G.blk):=rfl
 refine roundIn_of_wpIn trivial ?_
 rw [hFr]
 have hzip':((r.params.zip vs).foldl (fun tmps (x:Tmp×Value)=>match x with|(t,a)=>tmps.setIfInBounds t a) r.tmps)=((ps.toList.zip vs.toList).foldl (fun t x=>t.setIfInBounds x.1 x.2) r.tmps):=by
  rw [←hzip]
 rw [hzip']
 refine wpIn_mono hw ?_
 rintro e a1 w1 ⟨G1,s1,hr1,k1,e1,e2,e3,rfl,pd',hl1,hbody⟩
 obtain ⟨r1,g1,gs,gp,gpa,gas,gbd,gsz,gfr,gdf,gdl,gturn⟩:=Kb hr1.heap hr1.tags (An hl1)
 have hblk:G1.blk l=G.blk l:=k1.blk l (by rw [hH.n];exact hllt)
 have e0:({ r1 with state:=LoopState.busy }:Loop)={ r1 with state:=.busy,pending:=pd' }:=by rw [←gp]
 have hbr:=run_beginRound (P:=P) g1 gs
 rw [e0] at hbr
 refine ⟨_,by rw [←hblk];exact hbr,?_⟩
 obtain ⟨T,hH2,hT2⟩:=gturn .busy pd'
 have hl1lt:l<s1.up.length:=(Ac.1 hl1).1
 have hst2:StRel (d+1) G1 { s1 with up:=s1.up.set l (.loop .busy pd' fr sz ps asg bd df) } a1 (w1.putObj (G1.blk l) (.loop { r1 with state:=.busy,pending:=pd' })):=by
  rw [C2 hl1lt] at hH2
  refine hr1.turn (O:=s1.own) T hH2 (by simp) (fun o ho=>?_) hT2 ?_
  ·have:=hr1.defsAt o ho
   have hge:=hr1.defsGe o ho
   rw [Cp (by simpa using hge)]
   rw [Cp hge] at this
   simpa using this
  simp only [Cy]
  refine E6 hr1.low ?_
  have:=hr1.low _ (Ax hl1)
  exact this
 have hb:=hbody G1 a1 _ hst2
 have hF:Fr (({ s1 with up:=s1.up.set l (.loop .busy pd' fr sz ps asg bd df) }:St).rnd.map G1.blk)=Fr ((some l).map G.blk):=by
  show Fr (s1.rnd.map G1.blk)=_
  rw [e2]
  simp only [Option.map_some]
  rw [k1.blk l (by rw [hH.n];exact hllt)]
 rw [hF] at hb
 refine wpIn_mono hb ?_
 rintro e a3 w3 ⟨G3,s3,hr3,k3,f1,f2,f3,⟨x,pd3,hl3⟩,hpost⟩
 obtain ⟨r3,q1,qs,qp,qpa,qas,qbd,qsz,qfr,qdf,qdl,qturn⟩:=Kb hr3.heap hr3.tags (An hl3)
 have hGn:G.n=H.length:=hH.n
 have hup3:s3.up.length=H.length:=by rw [f1];simpa using e1
 have hl3lt:l<s3.up.length:=(Ac.1 hl3).1
 have kT:Keep (d+1) G w G3 w3:=by
  exact (k1.trans (T.keep (d+1))).trans k3
 have hblk3:G3.blk l=G.blk l:=kT.blk l (by rw [hH.n];exact hllt)
 rw [hblk3] at q1
 have fin:∀(jump:Option Code) (b:Bool),b=jump.isNone→post b (s3.up.set l (.loop (if jump.isNone then .ready else .done) jump fr sz ps asg bd df)) →
   ∃v w',(Instr.endRound (G.blk l) jump).run P w3=.ok v w'∧∃(b:Bool) (G':Gh) (H':List AObj),(Ending.returned v=.returned (.bool b))∧HeapRel G' H' w'∧TagOK G' w'∧Keep (d+1) G w G' w'∧H'.length=H.length∧post b H':=by
  intro jump b hbj hp
  obtain ⟨T4,hH4,hT4⟩:=qturn (if jump.isNone then .ready else .done) jump
  rw [hblk3] at T4 hH4 hT4
  refine ⟨_,_,run_endRound jump q1,b,{ G3 with n:=s3.up.length },_,by rw [hbj],?_,⟨hT4.ex,hT4.obj,hT4.tail,hT4.globCut (by rw [hr3.heap.n,Am];omega)⟩,?_,by simp [hup3],hp⟩
  ·rw [C2 hl3lt] at hH4
   have hlow4:∀x∈s3.up.set l (.loop (if jump.isNone then .ready else .done) jump fr sz ps asg bd df),ObjLow s3.up.length x:=by
    refine E6 hr3.low ?_
    have:=hr3.low _ (Ax hl3)
    exact this
   have hn4:=hH4.n
   simp only [Am,Cy] at hn4
   refine ⟨fun i x hx=>?_,by simp,fun i j hi hj e=>hH4.inj i j (by simp only at hi;omega) (by simp only at hj;omega) e⟩
   have hlow:=hlow4 x (Ax hx)
   exact (hH4.obj i x (An hx)).cut hlow
  have kk:=kT.trans (T4.keep (d+1))
  exact ⟨kk.fix,kk.slot,by rw [hGn,←hup3];exact Ah _,kk.blk,kk.os,kk.tape,kk.output,kk.size,kk.old.cut (by rw [hr3.heap.n,Am];omega)⟩
 cases e with
 | normal=>exact fin none true rfl hpost
 | ret=>exact fin (some .ret) false rfl hpost
 | exit i=>exact fin (some (.exit i)) false rfl hpost
 | goto i=>exact fin (some (.goto i)) false rfl hpost
 | panic c=>exact hpost.elim
 | outgrown=>exact hpost.elim
end
end Go.SX
namespace Go.SX
def Sx:=@AYield.ofRound
end Go.SX
namespace Go.SX
variable [GI:GlobInv]
open Classical
section
variable {P:Program} {d:Nat}
variable {st:St} {dst:Option Tmp} {ty:TypeId} {pos:String} {aft:Array Edge} {gd:Option (Nat×Bool)} {ats:Array TypeId}

/-- A round is asked for by an operation. -/
theorem Ws {o:Oper} {a:Act} {w:World} {K:Act→World→Prop} {Q:Exit→Act→World→Prop} {r:Option Nat} {l:Nat} {f:FuncId} {tmps:Array Value} {as bd:Code} (hd:∀c,o.op≠.defer c)
  (h:(execOp a.eval o).run P w=.ok (.round l f tmps as bd) w) {R:Ending→World→Prop} (hc:RoundIn Fence.wide 0 P l f tmps as bd w R) (hk:∀e w',R e w'→∃v,e=.returned v∧K (a.put o.dst v) w'):o.wpIn (Fr r) 0 P a w K Q:=by
 refine ⟨fun _ _=>trivial,?_⟩
 rw [Oper.semAt_eq _ _ _ hd,h]
 refine ⟨fun h=>by simp [Fence.wide] at h,?_⟩
 have hc':RoundIn (Fr r) 0 P l f tmps as bd w R:=hc
 refine hc'.mono fun e w' hR=>?_
 obtain ⟨v,rfl,hk'⟩:=hk e w' hR
 exact hk'

theorem Qv {f:Operand} {xs:List Operand} {l:Nat} {a:Act} {w:World} (hf:a.eval f=.func (.yield l) #[] #[]):
  (execOp a.eval (⟨dst,.call ⟨.value f,xs.toArray,ats⟩,ty,pos,aft,gd⟩:Oper)).run P w=(Instr.yield l (xs.map a.eval).toArray).run P w:=by
 simp [execOp,resolve,hf,Deferred.ofValue,invoke]

/-- What is asked when the function that is ranged over has returned. -/
def Wt (P:Program) (d:Nat) (st:St) (dfs:List Nat) (l df:Nat) (ps:Array Tmp) (as bd:Code) (K:Exit→St→Prop):AV→List AObj→Prop:=fun _ H' =>
 ∃U O x pd,H'=U++O∧U.length=st.up.length∧((∀x∈st.up,ObjLow U.length x)→∀x∈U,ObjLow U.length x)∧(∀o∈dfs,(U++O)[o]? = some .defs) ∧
  O[l]? = some (.loop x pd (fun s=>(st.fr s).strip) st.sz ps as bd df)∧x≠.busy ∧
  match pd with
  | none=>K .normal { st with up:=U,own:=O.set l (.loop .exhausted none (fun s=>(st.fr s).strip) st.sz ps as bd df),defs:=dfs }
  | some c=>AW P d c { st with up:=U,own:=O.set l (.loop .exhausted (some c) (fun s=>(st.fr s).strip) st.sz ps as bd df),defs:=dfs } K

/-- Behind the function that was ranged over. -/
theorem Wu {G2 G:Gh} {w2 w3:World} {a2:Act} {st2:St} {dfs:List Nat} {l df n:Nat} {ps:Array Tmp} {as bd:Code} {K:Exit→St→Prop} {w:World} {a:Act} {st:St} {v:Value}
  (hr:StRel d G st a w) (h2:StRel d G2 st2 a2 w2) (k2:Keep d G w G2 w2) (hst2:st2.up=st.up∧st2.rnd=st.rnd∧st2.sz=st.sz∧st2.fr=st.fr∧st2.defs=dfs) (hn:n=st.up.length)
  (hlow:n+l<(st2.up++st2.own).length)
  (hp:∃(v':Value) (G':Gh) (r:AV) (H':List AObj),Ending.returned v=.returned v'∧Rep G' w3 (some (.ret d)) r v'∧HeapRel G' H' w3∧TagOK G' w3∧Keep (d+1) G2 w2 G' w3∧H'.length=(st2.up++st2.own).length∧Wt P d st dfs l df ps as bd K r H'):
  rangePost (Fr (st.rnd.map G.blk)) 0 P (G2.blk (n+l)) (fun e=>Post d st G w (K e)) a2 (.returned v) w3:=by
 obtain ⟨v',G',r,H',_,hrep,hH,hT,hk,hlen,U,O,x,pd,rfl,hU,hulow,hdf,hl,hbusy,hK⟩:=hp
 obtain ⟨s1,s2,s3,s4,s5⟩:=hst2
 subst hn
 have h3:=h2.called hH hT hk rfl (by rw [s1];exact hU) (by rw [s5];exact hdf) (hulow (by rw [hU];exact hr.low))
 have hl':(U++O)[st.up.length+l]? = some (.loop x pd (fun s=>(st.fr s).strip) st.sz ps as bd df):=by rw [←hU,Db];exact hl
 obtain ⟨r1,g1,gs,gp,gpa,gas,gbd,gsz,gfr,gdf,gdl,gturn⟩:=Kb hH hT hl'
 have hblk:G'.blk (st.up.length+l)=G2.blk (st.up.length+l):=hk.blk _ (by rw [h2.heap.n];exact hlow)
 have hend:=run_endLoop (P:=P) g1 (by rw [gs];exact hbusy)
 obtain ⟨T,hH4,hT4⟩:=gturn .exhausted pd
 have e0:({ r1 with state:=LoopState.exhausted }:Loop)={ r1 with state:=.exhausted,pending:=pd }:=by rw [←gp]
 rw [e0] at hend
 have h4:StRel d G' { st with up:=U,own:=O.set l (.loop .exhausted pd (fun s=>(st.fr s).strip) st.sz ps as bd df),defs:=dfs } a2 (w3.putObj (G'.blk (st.up.length+l)) (.loop { r1 with state:=.exhausted,pending:=pd })):=by
  rw [←hU,Bm] at hH4
  rw [hU] at hH4
  have h5:=h3.turn (U:=U) (O:=O.set l (.loop .exhausted pd (fun s=>(st.fr s).strip) st.sz ps as bd df)) T hH4 rfl (fun o ho=>?_) hT4 h3.low
  ·obtain ⟨q1,q2,q3,q4,q5,q6⟩:=st2
   simp only at s1 s2 s3 s4 s5
   subst s1 s2 s3 s4 s5
   exact h5
  show (U++O.set l _)[o]? = _
  rw [s5] at ho
  have hdo:=hdf o ho
  by_cases hol:o=st.up.length+l
  ·subst hol
   rw [hl'] at hdo;cases hdo
  rw [←Bm,Cd (by rw [hU];exact fun e=>hol e.symm)]
  exact hdo
 have kk:Keep d G w G' (w3.putObj (G'.blk (st.up.length+l)) (.loop { r1 with state:=.exhausted,pending:=pd })):=(k2.trans (hk.less (Hq d))).trans (T.keep d)
 refine ⟨r1.pending,_,by rw [←hblk];exact hend,?_⟩
 rw [gp]
 cases pd with
 | none=>exact ⟨G',_,h4,kk,hU,rfl,rfl,hK⟩
 | some c =>
  have:=hK G' a2 _ h4
  have hF:Fr (({ st with up:=U,own:=O.set l (.loop .exhausted (some c) (fun s=>(st.fr s).strip) st.sz ps as bd df),defs:=dfs }:St).rnd.map G'.blk)=Fr (st.rnd.map G.blk):=Eg (st':={ st with up:=U,own:=O.set l (.loop .exhausted (some c) (fun s=>(st.fr s).strip) st.sz ps as bd df),defs:=dfs }) hr kk rfl
  rw [hF] at this
  exact wpIn_mono this fun e _ _ hp=>hp.next kk hU rfl rfl

theorem di {G:Gh} {w:World} {first caps:List AV} {y:AV} {u:Value} {va vc:Array Value} (hna:va.size=first.length) (hnc:vc.size=caps.length) (h1:∀(i:Nat) (y:AV) (u:Value),first[i]? = some y→va[i]? = some u→Rep G w none y u)
  (h2:∀(i:Nat) (y:AV) (u:Value),caps[i]? = some y→vc[i]? = some u→Rep G w none y u) (hy:Rep G w none y u):
  ∀(i:Nat) (z:AV) (x:Value),(first++[y]++caps)[i]? = some z→(va++#[u]++vc)[i]? = some x→Rep G w none z x:=by
 intro i z x hz hx
 rw [Br] at hz
 rw [cr] at hx
 rcases B0 i first.length with hi|hi
 ·rw [Cx hi] at hz
  rw [J4 (by omega)] at hx
  exact h1 i z x hz hx
 rw [Cp hi] at hz
 rw [N9 (by omega),hna] at hx
 rcases B0 (i-first.length) 1 with hj|hj
 ·have e:i-first.length=0:=by omega
  rw [e] at hz hx
  rw [J4 (by simp)] at hx
  simp at hz hx
  subst hz;subst hx
  exact hy
 rw [Cp (by simpa using hj)] at hz
 rw [N9 (by simpa using hj)] at hx
 simp only [Ar,Bd,Gz] at hz hx
 exact h2 _ z x hz hx

/-- **Ranging over a function, outside of any round.** -/
theorem AW.rangeFunc {g:Operand} {ps:Array Tmp} {as bd:Code} {gf:FuncId} {first caps:List AV} {n m:Nat} {K:Exit→St→Prop} (hcall:∀args w,(callFunc gf args).run P w=.ok (.enter gf args) w) (hg:st.ev g=.fn (.func gf) first caps) (hrnd:st.rnd=none)
  (hn:n=st.up.length) (hm:m=st.own.length)
  (h:ACall P gf (first++[.yield (n+(m+1))]++caps) (st.up++(st.own++[.defs,.loop .ready none (fun s=>(st.fr s).strip) st.sz ps as bd (n+m)])) (Wt P d st ((n+m)::st.defs) (m+1) (n+m) ps as bd K)):
  AW P d (.rangeFunc g ps as bd) st K:=by
 intro G a w hr
 refine wpIn_rangeFunc ?_
 intro fn _
 subst hn hm
 have hfr:=hg ▸ hr.eval g
 generalize hfv:a.eval g=fv at hfr
 obtain ⟨G1,h1,T1,hb1,hold1⟩:=hr.grow (o:=.deferred (some [])) (x:=.defs) (fun i=>Lo) (fun G' T hn hb ho=>by
  show _=_
  rw [hb];exact World.alloc_heap_new _ _)
 have hgn:=hr.heap.n
 have hG1n:G1.n=G.n+1:=by have:=h1.heap.n;simp at this hgn;omega
 obtain ⟨G2,h2,T2,hb2,hold2⟩:=h1.grow (o:=.loop { state:=.ready,pending:=none,fn:=fn,tmps:=a.tmps,params:=ps,assign:=as,body:=bd,defers:=w.heap.size })
  (x:=.loop .ready none (fun s=>(st.fr s).strip) st.sz ps as bd (st.up.length+st.own.length)) (fun i=>Qu) (fun G' T hn hb ho=>by
   refine ⟨fn,a.tmps,?_,hr.size,fun s=>T.rep (T1.rep (hr.slots s).strip),by rw [hn,hG1n,hgn,Am];omega⟩
   rw [hb]
   have:G'.blk (st.up.length+st.own.length)=w.heap.size:=by
    rw [ho _ (by rw [hG1n,hgn,Am];omega),←Am,hb1]
   rw [this]
   exact World.alloc_heap_new _ _)
 obtain ⟨W2,hW2⟩:∃W2,W2=(w.alloc (.deferred (some []))).alloc (.loop { state:=.ready,pending:=none,fn:=fn,tmps:=a.tmps,params:=ps,assign:=as,body:=bd,defers:=w.heap.size }):=⟨_,rfl⟩
 rw [←hW2] at h2 T2
 have hl1:(w.alloc (.deferred (some []))).heap.size=w.heap.size+1:=by simp
 rw [hl1] at hb2
 have hlx:(st.up++(st.own++[AObj.defs])).length=st.up.length+(st.own.length+1):=by simp
 rw [hlx] at hb2
 have hd2:G2.blk (st.up.length+st.own.length)=w.heap.size:=by
  rw [hold2 _ (by rw [hG1n,hgn,Am];omega),←Am,hb1]
 have e0:st.own++[AObj.defs,.loop .ready none (fun s=>(st.fr s).strip) st.sz ps as bd (st.up.length+st.own.length)]=(st.own++[AObj.defs])++[.loop .ready none (fun s=>(st.fr s).strip) st.sz ps as bd (st.up.length+st.own.length)]:=by simp
 rw [e0] at h
 have hro:(Fr (st.rnd.map G.blk)).round=none:=by rw [hrnd];rfl
 rw [hro]
 have k2:Keep d G w G2 W2:=(T1.keep d).trans (T2.keep d)
 -- the state behind the entry
 have h3:StRel d G2 { st with own:=(st.own++[AObj.defs])++[.loop .ready none (fun s=>(st.fr s).strip) st.sz ps as bd (st.up.length+st.own.length)],defs:=(st.up.length+st.own.length)::st.defs } { a with defers:=[{ target:=.collected w.heap.size,args:=#[] }]++a.defers } W2:=by
  refine ⟨h2.size,h2.slots,h2.heap,?_,fun o ho=>?_,?_,fun o ho=>?_,h2.tags,h2.rnd,h2.low,h2.top⟩
  ·have:=h2.defs
   simp only at this
   simp only [Cl,Dd,F1,hd2,this]
  ·rcases Bt.1 ho with rfl|ho
   ·show (st.up++((st.own++[AObj.defs])++_))[_]? = _
    rw [Db]
    simp
   exact h2.defsAt o ho
  ·refine K5.2 ⟨fun hm=>?_,h2.defsNodup⟩
   have:=hr.defsAt _ hm
   have:=(Ac.1 this).1
   simp at this
  rcases Bt.1 ho with rfl|ho
  ·exact Nat.le_add_right _ _
  exact h2.defsGe o ho
 cases hfr with
 | fn _ _ _ _ va vc hna hnc g1 g2 =>
  refine ⟨w.heap.size+1,[{ target:=.collected w.heap.size,args:=#[] }],W2,{ target:=.fn (.func gf) vc,args:=va++#[.func (.yield (w.heap.size+1)) #[] #[]] },W2,gf,va++#[.func (.yield (w.heap.size+1)) #[] #[]]++vc,W2,
   by rw [hW2];exact run_enterLoop_outer _ _ _ _ _,?_,fun _ _=>trivial,?_,fun h=>by simp [Fence.wide] at h,?_⟩
  ·simp only [resolve,hfv]
   simp [go_sem,Deferred.ofValue]
  ·simp only [invoke]
   exact hcall _ _
  have hc:=h d G2 W2 (va++#[.func (.yield (w.heap.size+1)) #[] #[]]++vc) (by simp only [Oq,Am,hna,hnc,Ar,Bd,Gz]) (fun i y u p q=>(di hna hnc (fun i y u p q=>T2.rep (T1.rep (g1 i y u p q))) (fun i y u p q=>T2.rep (T1.rep (g2 i y u p q)))
   (by rw [←hb2];exact .yield none _ (by rw [h2.heap.n];simp only [Am,Ar,Bd];omega)) i y u p q).lift) h2.heap h2.tags h2.top
  have hc':CallsIn (Fr (st.rnd.map G.blk)) 0 P gf _ _ _:=hc
  refine hc'.mono fun e w' he=>?_
  have hb2':=hb2
  rw [←hb2']
  cases e with
  | returned v=>exact Wu hr h3 k2 ⟨rfl,rfl,rfl,rfl,rfl⟩ rfl (by simp only [Am,Ar,Bd];omega) he
  | panicked c=>obtain ⟨v,G',r,H',h,_⟩:=he;cases h
  | outgrown=>obtain ⟨v,G',r,H',h,_⟩:=he;cases h
end
end Go.SX
namespace Go.SX
variable [GI:GlobInv]
open Classical
section
variable {P:Program} {d:Nat} {dst:Option Tmp} {ty:TypeId} {pos:String} {aft:Array Edge} {gd:Option (Nat×Bool)} {st:St}

theorem OpV.shr {t u:TypeId} {x y:Operand} {k k':IntKind} {m:Int} {n:Nat} (hx:st.ev x=.v (.int k m)) (hy:st.ev y=.v (.int k' n)) (hn:n≤k.bits):OpV P d ⟨dst,.binOp .shr t x y u,ty,pos,aft,gd⟩ st (.v (.int k (m.fdiv (2 ^ n)))):=
 Be (by intro c h;cases h) fun _ a w h=>⟨_,by
  have h0:¬((n:Int)<0):=by omega
  have h1:min ((n:Int).toNat) k.bits=n:=by simp;omega
  simp only [execOp,Bo h hx,Bo h hy,eqGuard,binOp,Op.shift,if_neg h0,h1]
  simp,.v _ _⟩

theorem Sy {G:Gh} {w:World} {l:Option Loc} {xs:List Value} {u:Value} (h:Rep G w l (.agg (xs.map .v)) u):u=.agg xs.toArray:=by
 cases h with
 | agg _ cs vs hn h1 h =>
  congr 1
  apply R8
  ·simpa using hn
  intro i h2 h3
  have hi:i<xs.length:=by simpa using h3
  have:=h i (.v xs[i]) vs[i] (by simp [hi]) (Cz h2)
  have:=J1 this
  simpa using this

theorem OpV.eqlAgg {t u:TypeId} {x y:Operand} {xs ys:List Value} {b:Bool} (hg:P.eqGuardType P.depth t=false) (hx:st.ev x=.agg (xs.map .v)) (hy:st.ev y=.agg (ys.map .v)) (he:∀w,(Op.equal t (.agg xs.toArray) (.agg ys.toArray)).run P w=.ok b w):
  OpV P d ⟨dst,.binOp .eql t x y u,ty,pos,aft,gd⟩ st (.v (.bool b)):=
 Be (by intro c h;cases h) fun _ a w h=>⟨.bool b,by
  have e1:a.eval x=_:=Sy (hx ▸ h.eval x)
  have e2:a.eval y=_:=Sy (hy ▸ h.eval y)
  simp [execOp,e1,e2,eqGuard,hg,binOp,he],.v _ _⟩
theorem OpV.neqAgg {t u:TypeId} {x y:Operand} {xs ys:List Value} {b:Bool} (hg:P.eqGuardType P.depth t=false) (hx:st.ev x=.agg (xs.map .v)) (hy:st.ev y=.agg (ys.map .v)) (he:∀w,(Op.equal t (.agg xs.toArray) (.agg ys.toArray)).run P w=.ok b w):
  OpV P d ⟨dst,.binOp .neq t x y u,ty,pos,aft,gd⟩ st (.v (.bool (!b))):=
 Be (by intro c h;cases h) fun _ a w h=>⟨.bool (!b),by
  have e1:a.eval x=_:=Sy (hx ▸ h.eval x)
  have e2:a.eval y=_:=Sy (hy ▸ h.eval y)
  simp [execOp,e1,e2,eqGuard,hg,binOp,he],.v _ _⟩
theorem lf (d:Nat) (t:TypeId) (k:IntKind) (a b:Int) (w:World) (h:P.underlying t=some (.int k)):(Op.equalIn (d+1) t (.int k a) (.int k b)).run P w=.ok (a==b) w:=by
 simp [Op.equalIn,run_underlying h]
theorem nk (d:Nat) (t:TypeId) (a b:List UInt8) (w:World) (h:P.underlying t=some .string):(Op.equalIn (d+1) t (.string ⟨a.toArray⟩) (.string ⟨b.toArray⟩)).run P w=.ok (a==b) w:=by
 simp [run_equalIn_string _ _ _ _ _ h]
theorem OpV.buildArr {t e:TypeId} {n k:Nat} {parts:List (Nat×Operand)} {z:Value} {zs cs:List AV} (hu:P.underlying t=some (.array n e)) (hsz:∀w,(sizeOf e).run P w=.ok k w)
  (hz:∀w,(zeroValue t).run P w=.ok z w) (hzs:zs=z.cells.toList.map Ck) (hone:zs.all AV.one=true)
  (hf:Fk (fun i=>some (i*k,k)) zs (parts.map fun p=>(p.1,st.ev p.2))=some cs):OpV P d ⟨dst,.build t parts.toArray,ty,pos,aft,gd⟩ st (.agg cs):=
 Be (by intro c h;cases h) fun G a w h=>by
  obtain ⟨z1,z2⟩:=U6 (G:=G) (w:=w) hzs
  obtain ⟨vs',f1,f2,f3,f4⟩:=Kx (G:=G) (w:=w) (fun i=>some (i*k,k)) (parts.map fun p=>(p.1,st.ev p.2)) (parts.map fun p=>(p.1,a.eval p.2)) zs cs z.cells (by simp) (fun j p q hp hq=>by
    simp only [C4] at hp hq
    rw [Da] at hp hq
    obtain ⟨p',hp',rfl⟩:=hp
    obtain ⟨q',hq',rfl⟩:=hq
    rw [hp'] at hq'
    injection hq' with hq'
    subst hq'
    exact ⟨rfl,h.eval _⟩) hf z1 z2 (fun y hy=>Ap.1 hone y hy)
  refine ⟨.agg vs',?_,.agg _ _ _ f2 f4 f3⟩
  simp only [execOp,Instr.build,Sem.run_bind,hz,Result.andThen_ok,run_underlying hu,hsz,Ox]
  simp [f1]

/-- A variable that is boxed and written never again. -/
theorem OpV.boxRo {t:TypeId} {x:Operand} {y:AV} (hx:st.ev x=y) (h1:y.cells.all AV.one=true):OpV P d ⟨dst,.box t x,ty,pos,aft,gd⟩ st (.ro y.cells):=by
 intro G a w h Q'
 obtain ⟨hc,hcc⟩:=(hx ▸ h.eval x).cells (fun y hy=>Ap.1 h1 y hy)
 obtain ⟨G',g1,T,g2⟩:=Mh h t (a.eval x).cells
 have hrun:(execOp a.eval (⟨dst,.box t x,ty,pos,aft,gd⟩:Oper)).run P w=.ok (.value (.pointer (some ⟨w.heap.size,0,none⟩))) (w.alloc (.cells (a.eval x).cells t)):=by
  simp [execOp,Instr.box,newVar,newRow]
 refine Ce (by intro c h;cases h) hrun ⟨G',_,rfl,g1,T.keep d,?_⟩
 refine .ro none _ _ (fun j=>(a.eval x).cells.getD j undef) rfl (fun y hy=>Ap.1 h1 y hy) (fun j y hj=>?_) (fun j y hj=>?_)
 ·have hlt:j<(a.eval x).cells.size:=by rw [hc];exact (Ac.1 hj).1
  refine ⟨by simpa using g2 j hlt,?_⟩
  rw [B7,World.cell?_alloc_new]
  simp [hlt]
 have hlt:j<(a.eval x).cells.size:=by rw [hc];exact (Ac.1 hj).1
 refine T.rep (hcc j y _ hj ?_)
 simp [hlt]

/-- An element of an array that is at hand, one cell wide. -/
theorem OpV.indexArr {t e:TypeId} {x i:Operand} {len n:Nat} {q:IntKind} {cs:List AV} {y:AV} (hu:P.underlying t=some (.array len e)) (hsz:∀w,(sizeOf e).run P w=.ok 1 w) (hagg:∀w,(isAgg e).run P w=.ok false w)
  (hx:st.ev x=.agg cs) (hi:st.ev i=.v (.int q (n:Int))) (hn:n<len) (hy:cs[n]? = some y):OpV P d ⟨dst,.index t x i,ty,pos,aft,gd⟩ st y:=
 Be (by intro c h;cases h) fun G a w h=>by
  have hr:=hx ▸ h.eval x
  have hiv:a.eval i=.int q (n:Int):=Bo h hi
  generalize hv:a.eval x=u at hr
  cases hr with
  | agg _ _ vs hn' h1 hh =>
   have hlt:n<vs.size:=by rw [hn'];exact (Ac.1 hy).1
   exact ⟨vs[n],by simp [execOp,Instr.index,hv,hiv,run_underlying hu,asIntOf,hn,hsz,part,hagg,hlt],hh _ y _ hy (Cz hlt)⟩
end
end Go.SX
