/- On the way (part 8). -/
import Derived.Test.YtejjpdbfdmdgpaaGreatDoorImageBackCardSaidPart7
set_option linter.all false
namespace Go.SX
variable [GI:GlobInv]
open Classical
section
variable {P:Program} {d:Nat} {st:St} {ty:TypeId} {pos:String} {aft:Array Edge} {gd:Option (Nat×Bool)}
/-- A variable of its own, not laid yet. -/
theorem AOp.allocP {t:TypeId} {z:Value} {k s:Nat} (hz:∀w,(zeroValue t).run P w=.ok z w) (hk:z.cells.size=k) (hs:s<st.sz):
  AOp P d ⟨some s,.alloc t,ty,pos,aft,gd⟩ st (·=st.set s (.cellp k)):=by
 subst hk
 intro G a w h Q'
 let G':Gh:={ G with tag:=fun b o=>if b=w.heap.size∧o<z.cells.size then .tail (.slot d s) else G.tag b o }
 have hfree:∀o,G.tag w.heap.size o=.free:=fun o=>Gv h.tags _ o (Aj _)
 have hne:∀b o,G.tag b o≠.free→¬(b=w.heap.size∧o<z.cells.size):=fun b o hb hc=>by rw [hc.1] at hb;exact hb (hfree o)
 have hkeep:∀b o,G.tag b o≠.free→G'.tag b o=G.tag b o:=fun b o hb=>by simp only [G'];rw [if_neg (hne b o hb)]
 have hcell:∀b o,G.tag b o≠.free→(w.alloc (.cells z.cells t)).cell? ⟨b,o,none⟩=w.cell? ⟨b,o,none⟩:=fun b o hb=>by
  refine World.cell?_alloc_old _ _ _ ?_
  show b≠w.heap.size
  rintro rfl
  exact hb (hfree o)
 have T:Turn G w G' (w.alloc (.cells z.cells t)):=by
  refine ⟨fun b o hb=>⟨by rw [hkeep b o (by rw [hb];simp)];exact hb,hcell b o (by rw [hb];simp)⟩,fun b o L hb=>by rw [hkeep b o (by rw [hb];simp)];exact hb,fun b o i hb=>by rw [hkeep b o (by rw [hb];simp)];exact hb,Aj _,fun o ho=>rfl,rfl,rfl,rfl,by simp,i9 _ (fun b o hb=>.inl (by simp only [G'];rw [if_neg (by omega)])) (fun i hi=>.inl ⟨hi,rfl⟩)⟩
 have h1:StRel d G' st a (w.alloc (.cells z.cells t)):=by
  refine h.turn (U:=st.up) (O:=st.own) T ⟨fun i x hx=>T.objRel ?_ ?_ (h.heap.obj i x hx) (fun b hb=>?_),h.heap.n,h.heap.inj⟩ rfl h.defsAt ⟨fun b o hb=>?_,fun b o i hb=>?_,fun b o L hb=>?_,h.tags.globKeep T.old⟩ h.low
  ·rw [h.heap.n];exact (Ad.1 hx).1
  ·have:=(h.heap.obj i x hx).blt
   show (w.heap.push _)[G.blk i]? = _
   rw [P1,if_neg (by omega)]
  ·have:=hb.lt
   show (w.heap.push _)[b]? = _
   rw [P1,if_neg (by omega)]
  ·simp only [G'] at hb
   split at hb
   ·rename_i hc
    obtain ⟨rfl,hlt⟩:=hc
    exact ⟨z.cells[o],by rw [World.cell?_alloc_new];exact Er hlt⟩
   rw [hcell b o hb]
   exact h.tags.ex b o hb
  ·simp only [G'] at hb
   split at hb
   ·cases hb
   rw [World.frozen?_alloc_old]
   ·exact h.tags.obj b o i hb
   show b≠w.heap.size
   rintro rfl
   rw [hfree] at hb;cases hb
  simp only [G'] at hb
  split at hb
  ·rename_i hc
   obtain ⟨rfl,hlt⟩:=hc
   exact World.frozen?_alloc_new _ _ _ _
  rw [World.frozen?_alloc_old]
  ·exact h.tags.tail b o L hb
  show b≠w.heap.size
  rintro rfl
  rw [hfree] at hb;cases hb
 have hrun:(execOp a.eval (⟨some s,.alloc t,ty,pos,aft,gd⟩:Oper)).run P w=.ok (.value (.pointer (some ⟨w.heap.size,0,none⟩))) (w.alloc (.cells z.cells t)):=by
  simp [execOp,Instr.alloc,hz,newVar,newRow]
 refine Dp (by intro c h;cases h) hrun ⟨G',_,h1.put (s:=s) (y:=.cellp z.cells.size) hs ?_,T.keep d,rfl,rfl,rfl,rfl⟩
 exact .cellp _ _ _ ⟨_,rfl,fun o ho=>by simp [G',ho]⟩

/-- It is laid: from now on nobody writes it. -/
theorem AOp.storeP {t:TypeId} {x:Operand} {r k:Nat} {y:AV} (hsz:∀w,(sizeOf t).run P w=.ok k w) (hf:st.fr r=.cellp k) (hx:st.ev x=y) (hk:y.cells.length=k) (hk0:0<k) (h1:y.cells.all AV.one=true):
  AOp P d ⟨none,.store t (.tmp r) x,ty,pos,aft,gd⟩ st (·=st.set r (.ro y.cells)):=by
 intro G a w h Q'
 have hone:∀c∈y.cells,c.one=true:=fun c hc=>B5.1 h1 c hc
 obtain ⟨hc,hcc⟩:=(hx ▸ h.eval x).cells hone
 have hsl:=h.slots r
 rw [hf] at hsl
 generalize hv:a.tmps.getD r undef=v at hsl
 cases hsl with
 | cellp l k b ho =>
  obtain ⟨L,hL,ht⟩:=ho
  injection hL with hL
  subst hL
  let us:=(a.eval x).cells.toList
  have hul:us.length=k:=by simp only [us,Array.length_toList];omega
  have huone:∀u∈us,u.oneCell'=true:=fun u hu=>by
   obtain ⟨j,hj⟩:=Cf hu
   have hj':(a.eval x).cells[j]? = some u:=by rw [←Ru];exact hj
   have hlt:j<y.cells.length:=by rw [←hc];exact (P0.1 hj').1
   exact (hcc j _ u (Aa hlt) hj').one (hone _ (Av hlt))
  have hrun0:=run_storeCells_cells (P:=P) b 0 us 0 w (fun j hj=>by
    obtain ⟨u,hu⟩:=h.tags.ex b j (by rw [ht j (by omega)];simp)
    simp only [Nat.add_zero,Bl];rw [hu];rfl) (fun j hj=>by simpa using h.tags.tail _ _ _ (ht j (by omega))) huone
  simp only [Nat.add_zero] at hrun0
  let W:=w.setCells b 0 us
  let G':Gh:={ G with tag:=fun b' o=>if b'=b∧o<k then .fix else G.tag b' o }
  have htag:∀b' o,G.tag b' o≠.tail (.slot d r)→G'.tag b' o=G.tag b' o:=fun b' o hb=>by
   simp only [G']
   rw [if_neg]
   rintro ⟨rfl,ho⟩
   exact hb (ht o ho)
  have hout:∀b' o,¬(b'=b∧o<k)→W.cell? ⟨b',o,none⟩=w.cell? ⟨b',o,none⟩:=fun b' o hn =>
   World.cell?_setCells_out _ us 0 w ⟨b',o,none⟩ (fun hb _=>by
    simp only at hb ⊢
    exact .inr (Te fun h''=>hn ⟨hb,by omega⟩))
  have hcell:∀b' o,G.tag b' o≠.tail (.slot d r)→W.cell? ⟨b',o,none⟩=w.cell? ⟨b',o,none⟩:=fun b' o hb=>hout b' o (fun hn=>hb (by rw [hn.1];exact ht o hn.2))
  have hnb:∀i,i<G.n→G.blk i≠b:=P3 h.heap h.tags (ht 0 hk0)
  have hheap:∀b',b'≠b→W.heap[b']? = w.heap[b']? := fun b' hb=>E8 _ _ _ _ _ hb
  have hsize:W.heap.size=w.heap.size:=E7 _ _ _ _
  have hstill:Still G w G' W:=M9 (fun b' hb'=>hheap b' (fun e=>Kz (ht 0 hk0) (e ▸ hb'))) (Kg hsize.symm) (fun b' o _=>by
   by_cases hc:b'=b∧o<k
   ·exact .inr ⟨_,by rw [hc.1];exact ht o hc.2⟩
   exact .inl (by simp only [G'];rw [if_neg hc])) (fun i hi=>.inl ⟨hi,rfl⟩)
  have hfix:∀b' o,G.tag b' o=.fix→G'.tag b' o=.fix∧W.cell? ⟨b',o,none⟩=w.cell? ⟨b',o,none⟩:=fun b' o hb=>⟨by rw [htag b' o (by rw [hb];simp)];exact hb,hcell b' o (by rw [hb];simp)⟩
  have htail:∀b' o L,L≠.slot d r→G.tag b' o=.tail L→G'.tag b' o=.tail L:=fun b' o L hL hb=>by
   rw [htag b' o (by rw [hb];intro e;injection e with e;exact hL e)];exact hb
  have hobj:∀b' o i,G.tag b' o=.obj i→G'.tag b' o=.obj i:=fun b' o i hb=>by rw [htag b' o (by rw [hb];simp)];exact hb
  have hrep:∀{l:Option Loc} {z:AV} {u:Value},l≠some (.slot d r)→Rep G w l z u→Rep G' W l z u:=fun hl hz =>
   hz.mono (G':=G') hfix (Aj _) (fun _ _=>rfl) (fun L hL b' o ht'=>htail b' o L (fun e=>hl (by rw [hL,e])) ht')
  have hkeep:Keep d G w G' W:=⟨hfix,fun b' o e s he ht'=>htail b' o _ (by rintro ⟨⟩;omega) ht',Aj _,fun _ _=>rfl,Hu _ _ _ _,Ga _ _ _ _,Ez _ _ _ _,Kg hsize.symm,hstill⟩
  have hvec:∀j u,us[j]? = some u→W.cell? ⟨b,j,none⟩=some u:=fun j u hu=>by
   have hj:=(Ad.1 hu).1
   have hex:∃u',w.cell? ⟨b,j,none⟩=some u':=h.tags.ex b j (by rw [ht j (by omega)];simp)
   obtain ⟨u',hu'⟩:=hex
   have hbk:∃vs e fz,w.heap[b]? = some (.cells vs e fz):=by
    simp only [World.cell?] at hu'
    split at hu'
    ·rename_i vs e fz hb;exact ⟨vs,e,fz,hb⟩
    cases hu'
   obtain ⟨vs,e,fz,hbk⟩:=hbk
   have hlen:0+us.length≤vs.size:=by
    rw [hul,Bl]
    rcases Be vs.size k with h'|h'
    ·exfalso
     obtain ⟨u2,hu2⟩:=h.tags.ex b vs.size (by rw [ht _ h'];simp)
     simp [World.cell?,hbk] at hu2
    exact h'
   obtain ⟨vs',b1,b2,b3⟩:=Mc b e fz us 0 w vs hbk hlen
   have b3':=b3 j
   rw [if_pos (by omega)] at b3'
   show (w.setCells b 0 us).cell? ⟨b,j,none⟩=some u
   simp only [World.cell?,b1]
   rw [b3',Nat.sub_zero]
   exact hu
  have hst:StRel d G' (st.set r (.ro y.cells)) a W:=by
   refine ⟨h.size,fun s=>?_,⟨fun i z hz=>?_,h.heap.n,h.heap.inj⟩,h.defs,h.defsAt,h.defsNodup,h.defsGe,⟨fun b' o hb=>?_,fun b' o i hb=>?_,fun b' o L hb=>?_,h.tags.globKeep hstill⟩,h.rnd,h.low,h.top⟩
   ·show Rep G' W _ (A6 r (.ro y.cells) st.fr s) _
    unfold A6
    by_cases hs:s=r
    ·subst hs
     rw [if_pos rfl,hv]
     refine .ro _ _ ⟨b,0,none⟩ (fun j=>(a.eval x).cells.getD j undef) rfl hone (fun j c hj=>?_) (fun j c hj=>?_)
     all_goals
      have hlt:j<y.cells.length:=(Ad.1 hj).1
      have hu:(a.eval x).cells[j]? = some ((a.eval x).cells[j]'(by omega)):=Er _
      have e1:(a.eval x).cells.getD j undef=(a.eval x).cells[j]'(by omega):=by rw [Ko,hu];rfl
      rw [e1]
     ·refine ⟨by simp only [G',Bl];rw [if_pos ⟨trivial,by omega⟩],?_⟩
      rw [Bl]
      exact hvec j _ (by simp only [us];rw [Ru];exact hu)
     exact hrep (by simp) (hcc j c _ hj hu)
    rw [if_neg hs]
    exact hrep (by simp;exact fun e=>hs e) (h.slots s)
   ·have hob:=h.heap.obj i z hz
    have hi:i<G.n:=by rw [h.heap.n];exact (Ad.1 hz).1
    have hb:=hheap (G.blk i) (hnb i hi)
    cases z with
    | cells t cs =>
     obtain ⟨vs,a1,a2,a3,a4⟩:=hob
     exact ⟨vs,hb.trans a1,a2,fun j y u p q=>hrep (by simp) (a3 j y u p q),fun j hj=>hobj _ _ _ (a4 j hj)⟩
    | loop sta pd fr sz ps asg bd df =>
     obtain ⟨fn,tmps,a1,a2,a3,a4⟩:=hob
     exact ⟨fn,tmps,hb.trans a1,a2,fun s=>hrep (by simp) (a3 s),a4⟩
    | defs=>exact hb.trans hob
    | dead=>exact hb.trans hob
    | bld t e bs=>exact BldRel.turn hob rfl (fun b' o ho=>hobj b' o i ho) hb (fun b' ha=>hheap b' (fun e=>by
      have:=ha.tag h.tags (o:=0) (by rw [e,ht 0 hk0];simp)
      rw [e,ht 0 hk0] at this;cases this))
    | gone =>
     obtain ⟨vs,t,fz,a1,a2⟩:=hob
     exact ⟨vs,t,fz,hb.trans a1,fun j hj=>(hfix _ _ (a2 j hj)).1⟩
   ·by_cases hc:b'=b∧o<k
    ·obtain ⟨rfl,ho⟩:=hc
     exact ⟨us[o]'(by omega),hvec o _ (Aa _)⟩
    rw [hout b' o hc]
    simp only [G',if_neg hc] at hb
    exact h.tags.ex b' o hb
   ·rw [World.frozen?_setCells]
    simp only [G'] at hb
    split at hb
    ·cases hb
    exact h.tags.obj b' o i hb
   rw [World.frozen?_setCells]
   simp only [G'] at hb
   split at hb
   ·cases hb
   exact h.tags.tail b' o L hb
  have hrun:(execOp a.eval (⟨none,.store t (.tmp r) x,ty,pos,aft,gd⟩:Oper)).run P w=.ok .skip W:=
   Hw hsz (show a.eval (.tmp r)=_ from hv) (by omega) hrun0
  exact I4 (by intro c h;cases h) hrun ⟨G',_,hst,hkeep,rfl,rfl,rfl,rfl⟩
end
section
variable {P:Program} {d:Nat} {sz:Nat} {dfs:List Nat} {rnd:Option Nat} {l0:List Oper} {up own:(Nat→Bool)→List AObj} {KP:List PanicEntry→St→Prop} {E:List Oper→(Nat→AV)→Prop} {S:List SegY} {l:List Oper} {fr:Nat→AV} {ty:TypeId} {pos:String} {aft:Array Edge} {s:Nat} {T F:List Nat}
theorem Y.allocP {t:TypeId} {z:Value} {k:Nat} (hz:∀w,(zeroValue t).run P w=.ok z w) (h:ChainY P d l0 sz up own dfs rnd KP E S l (A6 s (.cellp k) fr)) (hk:z.cells.size=k:=by rfl) (hs:Nat.blt s sz=true:=by rfl):
  ChainY P d l0 sz up own dfs rnd KP E (.s [s] none T F::S) (⟨some s,.alloc t,ty,pos,aft,none⟩::l) fr:=by
 refine ⟨_,l,[(s,.cellp k)],rfl,⟨rfl,rfl,fun B f _ _ _ hf=>.of ?_⟩,h⟩
 exact AOp.allocP (st:=⟨sz,f,up B,own B,dfs,rnd⟩) hz hk (by simpa using hs)
theorem Y.storeP {t:TypeId} {x:Operand} {r k:Nat} {y:AV} {ys:List AV} (hsz:∀w,(Go.sizeOf t).run P w=.ok k w) (h:ChainY P d l0 sz up own dfs rnd KP E S l (A6 r (.ro ys) fr))
  (hf:fr r=.cellp k:=by exact sL0) (hx:Bb fr x=y:=by exact sL0) (hc:y.cells=ys:=by exact sL0)
  (hk:ys.length=k:=by rfl) (hk0:0<k:=by decide) (h1:ys.all AV.one=true:=by exact sL2):
  ChainY P d l0 sz up own dfs rnd KP E (.s [r] none T F::S) (⟨none,.store t (.tmp r) x,ty,pos,aft,none⟩::l) fr:=by
 subst hc
 refine ⟨_,l,[(r,.ro y.cells)],rfl,⟨rfl,rfl,fun B f _ _ _ hfr=>.of ?_⟩,h⟩
 have e:f r=fr r:=hfr r (by simp [lk,ie,Op.operands])
 have ex:Bb f x=y:=by rw [agr hfr (by simp [Op.operands])];exact hx
 exact AOp.storeP (st:=⟨sz,f,up B,own B,dfs,rnd⟩) hsz (e.trans hf) ex hk hk0 h1
end
end Go.SX
