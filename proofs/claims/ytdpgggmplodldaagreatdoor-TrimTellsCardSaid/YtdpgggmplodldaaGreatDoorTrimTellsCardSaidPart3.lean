/- Texts on the way to this: TrimTells answers true for whatever it is handed: of any tree the trimmed one, its value, and how many nodes it saves, are what the reference says; trimmed again it stays, and it names no other columns. (part 3) -/
import Derived.Lib.UnsafeStr
import Derived.Laws.BytesString
import Derived.Test.YtdpgggmplodldaaGreatDoorTrimTellsCardSaidPart2
set_option linter.all false
namespace Go.SX
variable [GI : GlobInv]
open Classical
variable {i s : Nat} {o : Oper} {u v : Value} {w : World}
section
variable {P : Program} {d : Nat}
theorem put_comm {a : Act} {j : Nat} (h : i ≠ j) : (a.put (some i) u).put (some j) v = (a.put (some j) v).put (some i) u := by
 unfold Act.put
 simp only
 congr 1
 exact Array.setIfInBounds_comm _ _ h
theorem setCell_comm {x y : Addr} (h : x.block ≠ y.block) : (w.setCell x u).setCell y v = (w.setCell y v).setCell x u := by
 unfold World.setCell
 simp only
 congr 1
 apply Array.ext_getElem?
 intro i
 simp only [Array.getElem?_modify]
 by_cases h1 : x.block = i <;> by_cases h2 : y.block = i
 ·exact absurd (h1.trans h2.symm) h
 all_goals simp [h1, h2]
theorem setCells_comm {x : Addr} {b : Nat} (h : x.block ≠ b) : ∀ (vs : List Value) (o : Nat) (w : World), (w.setCell x u).setCells b o vs = (w.setCells b o vs).setCell x u
 | [], _, _ => rfl
 | v :: r, o, w => by
  rw [World.setCells, World.setCells, setCell_comm (y := ⟨b, o, none⟩) h]
  exact setCells_comm h r (o + 1) _
def hasEdge (o : Oper) (m : Nat) : Bool := o.after.toList.any fun e => Region.binds .any e && Nat.beq e.on m
theorem hasEdge_spec {o : Oper} {m : Nat} (h : hasEdge o m = true) : ∃ e ∈ o.after, Region.binds .any e = true ∧ e.on = m := by
 unfold hasEdge at h
 rw [List.any_eq_true] at h
 obtain ⟨e, he, h⟩ := h
 rw [Bool.and_eq_true] at h
 exact ⟨e, by simpa using he, h.1, Nat.eq_of_beq_eq_true h.2⟩
def tailOK (l : List Oper) (n : Nat) : Bool :=
 (l.zipIdx.all fun x => x.1.after.toList.all fun e => !Region.binds .any e || Nat.blt e.on x.2) &&
 match l.drop n with
 | [_, oI, oS, oF, oT] => hasEdge oI n && hasEdge oS n && hasEdge oF n && hasEdge oT n && hasEdge oS (n + 1) && hasEdge oT (n + 3)
 | _ => false
theorem wpOpIn_some {F : Fence} {ops : Array Oper} {Q : Exit → Act → World → Prop} {K : Act → World → Prop} {a : Act} (ho : ops[i]? = some o) (hg : o.guard = none) (h : o.wpIn F 0 P a w K Q) : wpOpIn F 0 P ops Q i K a w := by
 unfold wpOpIn
 rw [ho]
 simp only
 rw [if_pos (by simp [Region.wanted, hg])]
 exact h
theorem wpOpIn_back {F : Fence} {ops : Array Oper} {Q : Exit → Act → World → Prop} {K : Act → World → Prop} {a : Act} (ho : ops[i]? = some o) (hg : o.guard = none) (h : wpOpIn F 0 P ops Q i K a w) : o.wpIn F 0 P a w K Q := by
 unfold wpOpIn at h
 rw [ho] at h
 simp only at h
 rw [if_pos (by simp [Region.wanted, hg])] at h
 exact h
theorem wpIn_value_back {a : Act} {w' : World} {K : Act → World → Prop} {Q : Exit → Act → World → Prop} {r : Option Nat} (hd : ∀ c, o.op ≠ .defer c)
  (h : (execOp a.eval o).run P w = .ok (.value v) w') (hk : o.wpIn (Fr r) 0 P a w K Q) : K (a.put o.dst v) w' := by
 have := hk.2
 rw [Oper.semAt_eq _ _ _ hd, h] at this
 exact this
theorem wpIn_skipped_back {a : Act} {w' : World} {K : Act → World → Prop} {Q : Exit → Act → World → Prop} {r : Option Nat} (hd : ∀ c, o.op ≠ .defer c)
  (h : (execOp a.eval o).run P w = .ok .skip w') (hk : o.wpIn (Fr r) 0 P a w K Q) : K (a.put o.dst undef) w' := by
 have := hk.2
 rw [Oper.semAt_eq _ _ _ hd, h] at this
 exact this
theorem eval_ne {a : Act} {q : Nat} (h : q ≠ s) : (a.put (some s) v).eval (.tmp q) = a.eval (.tmp q) := eval_put h

theorem ATail.appendPut {l : List Oper} {n : Nat} {sz : Nat} {fr : Nat → AV} {up own : List AObj} {dfs : List Nat} {rnd : Option Nat} {Q : St → Prop} {ty ty2 ty3 ty4 ty5 t e tf t' : TypeId} {pos pos2 pos3 pos4 pos5 : String} {aft aft2 aft3 aft4 aft5 : Array Edge} {i : TypeInfo} {z : Value} {r s sp sf pp ti tv k kf o offp fi : Nat} {x : Operand} {o2 : Bool} {xs cs : List AV} {z0 yv : AV} {fs : Array Field} {fd : Field}
  (hdrop : [⟨some s, .call ⟨.builtin .append, #[.tmp r, x], #[t, t]⟩, ty, pos, aft, none⟩, ⟨some sp, .indexAddr t (.tmp s) (.tmp ti), ty2, pos2, aft2, none⟩, ⟨none, .store e (.tmp sp) (.tmp tv), ty3, pos3, aft3, none⟩, ⟨some sf, .fieldAddr tf (.tmp pp) fi, ty4, pos4, aft4, none⟩, ⟨none, .store t (.tmp sf) (.tmp s), ty5, pos5, aft5, none⟩] = l.drop n)
  (hok : tailOK l n = true)
  (hu : P.underlying t = some (.slice e)) (hi : P.info? e = some i) (hsze : ∀ w, (Go.sizeOf e).run P w = .ok k w) (hz : i.zero = some z) (hsz : i.size = k) (hzk : z.cells.size = k) (hk : 0 < k)
  (hb : AsSl (fr r) true k xs) (hx : AsSl (frEv fr x) o2 k [z0]) (hti : frEv fr (.tmp ti) = .v (.int .i64 (xs.length : Int))) (htv : frEv fr (.tmp tv) = yv) (hyk : yv.cells.length = k) (hy1 : ∀ c ∈ yv.cells, c.one = true)
  (hrs : s ≠ r) (hs : s < sz) (hsp : sp < sz) (hss : sp ≠ s) (htis : ti ≠ s) (htvs : tv ≠ s) (htvp : tv ≠ sp) (hl : (xs.length + 1) * i.bytes ≤ 140737488355328) (hl2 : xs.length + 1 ≤ 4611686018427387904)
  (hf : P.underlying tf = some (.struct fs)) (hfi : fs[fi]? = some fd) (hfsz : ∀ w, (Go.sizeOf fd.type).run P w = .ok kf w) (hkf : kf ≠ 0) (hpp : frEv fr (.tmp pp) = .ptr o offp) (ho : (up ++ own)[o]? = some (.cells t' cs)) (hoff : offp + fd.offset < cs.length) (hszt : ∀ w, (Go.sizeOf t).run P w = .ok 1 w)
  (d1 : sf ≠ s) (d2 : sf ≠ sp) (d3 : sf ≠ ti) (d4 : sf ≠ tv) (d5 : pp ≠ s) (d6 : pp ≠ sp) (d7 : ti ≠ sp) (hsf : sf < sz)
  (hr : ARun P d l.toArray [⟨some sf, .fieldAddr tf (.tmp pp) fi, ty4, pos4, aft4, none⟩, ⟨none, .store t (.tmp sf) (.tmp s), ty5, pos5, aft5, none⟩] ⟨sz, setF sp .any (setF s (.slice true k (xs ++ [yv])) (setF r (fr r).strip fr)), up, own, dfs, rnd⟩ Q) :
  ATail P d l n ⟨sz, fr, up, own, dfs, rnd⟩ Q := by
 intro G a w hrel listed hsz0 hL
 have hlen : l.length = n + 5 := by
  have := congrArg List.length hdrop
  simp at this
  omega
 have get : ∀ j, ([⟨some s, .call ⟨.builtin .append, #[.tmp r, x], #[t, t]⟩, ty, pos, aft, none⟩, ⟨some sp, .indexAddr t (.tmp s) (.tmp ti), ty2, pos2, aft2, none⟩, ⟨none, .store e (.tmp sp) (.tmp tv), ty3, pos3, aft3, none⟩, ⟨some sf, .fieldAddr tf (.tmp pp) fi, ty4, pos4, aft4, none⟩, ⟨none, .store t (.tmp sf) (.tmp s), ty5, pos5, aft5, none⟩] : List Oper)[j]? = l[n + j]? := fun j => by rw [hdrop, List.getElem?_drop]
 have g0 := get 0
 have g1 := get 1
 have g2 := get 2
 have g3 := get 3
 have g4 := get 4
 simp only [List.getElem?_cons_zero, List.getElem?_cons_succ, Nat.add_zero] at g0 g1 g2 g3 g4
 unfold tailOK at hok
 rw [← hdrop] at hok
 simp only [Bool.and_eq_true] at hok
 obtain ⟨hok1, ⟨⟨⟨⟨eI, eS⟩, eF⟩, eT⟩, eS1⟩, eT3⟩ := hok
 have hfwd : ∀ (i : Nat) (o : Oper), l[i]? = some o → ∀ e ∈ o.after, Region.binds .any e = true → e.on < i := fun i o ho e he hbd => by
  have := List.all_eq_true.1 hok1 (o, i) (by rw [List.mem_zipIdx_iff_getElem?]; exact ho)
  have := List.all_eq_true.1 this e (by simpa using he)
  rw [hbd] at this
  simpa using this
 have hyr : Rep G w none yv (a.eval (.tmp tv)) := by
  have := hrel.eval (.tmp tv)
  have e : St.ev ⟨sz, fr, up, own, dfs, rnd⟩ (.tmp tv) = yv := htv
  rwa [e] at this
 obtain ⟨w1, ad, cap, G', hrun, hspot, hcells, hst, hkp⟩ := StRel.appendPut (P := P) (ty := ty) (st := ⟨sz, fr, up, own, dfs, rnd⟩) (x := x) hu hi hz hsz rfl hzk hk hb hx hrs hs hl hl2 hyr hyk hy1 hrel
 have hsa : s < a.tmps.size := by rw [hrel.size]; exact hs
 obtain ⟨vS, hvS⟩ : ∃ v, v = Value.slice (some ad) (xs.length + 1) cap := ⟨_, rfl⟩
 obtain ⟨pI, hpI⟩ : ∃ v, v = Value.pointer (some ⟨ad.block, ad.off + xs.length * k, none⟩) := ⟨_, rfl⟩
 obtain ⟨vF, hvF⟩ : ∃ v, v = Value.pointer (some ⟨G.blk o, offp + fd.offset, none⟩) := ⟨_, rfl⟩
 obtain ⟨a2, ha2⟩ : ∃ b, b = a.put (some s) vS := ⟨_, rfl⟩
 obtain ⟨us, hus⟩ : ∃ u, u = (a.eval (.tmp tv)).cells.toList := ⟨_, rfl⟩
 rw [← hvS, ← ha2, ← hus] at hst
 rw [← hus] at hkp
 have hsz2 : a2.tmps.size = sz := hst.size
 have hexec : (execOp a.eval (⟨some s, .call ⟨.builtin .append, #[.tmp r, x], #[t, t]⟩, ty, pos, aft, none⟩ : Oper)).run P w = .ok (.value vS) w1 := by
  have e : a.eval (.tmp r) = a.tmps.getD r undef := rfl
  rw [hvS]
  simp only [execOp, resolve, invoke, builtin, Sem.run_bind, Sem.run_pure, Result.andThen_ok, List.map_toArray, List.map_cons, List.map_nil, e, hrun]
 have ev2s : a2.eval (.tmp s) = vS := by rw [ha2]; exact eval_put_same hsa
 have ev2ti : a2.eval (.tmp ti) = .int .i64 (xs.length : Int) := by rw [ha2, eval_ne htis]; exact ev_v hrel hti
 have ev2tv : a2.eval (.tmp tv) = a.eval (.tmp tv) := by rw [ha2, eval_ne htvs]
 have ev2pp : a2.eval (.tmp pp) = .pointer (some ⟨G.blk o, offp, none⟩) := by
  rw [ha2, eval_ne d5]
  have := hrel.eval (.tmp pp)
  have e : St.ev ⟨sz, fr, up, own, dfs, rnd⟩ (.tmp pp) = .ptr o offp := hpp
  rw [e] at this
  generalize a.eval (.tmp pp) = u at this
  cases this; rfl
 -- where the slice's element lies is no object's block
 obtain ⟨hgb⟩ : Nonempty (G'.blk o = G.blk o) := ⟨hkp.blk o (by rw [hrel.heap.n]; exact (List.getElem?_eq_some_iff.1 ho).1)⟩
 obtain ⟨vs, h1, h2, _, h4⟩ := hst.heap.obj o _ ho
 have hcellA : ∀ q, q < cs.length → ((w1.setCells ad.block (ad.off + xs.length * k) us).cell? ⟨G.blk o, q, none⟩).isSome = true ∧ (w1.setCells ad.block (ad.off + xs.length * k) us).frozen? ⟨G.blk o, q, none⟩ = false := fun q hq => by
  rw [← hgb]
  obtain ⟨u, hu⟩ := hst.tags.ex _ _ (show G'.tag (G'.blk o) q ≠ .free by rw [h4 q hq]; simp)
  exact ⟨by rw [hu]; rfl, by simpa using hst.tags.obj _ _ _ (h4 q hq)⟩
 have hne : G.blk o ≠ ad.block := fun he => by
  have hrs' := hst.slots s
  have e1 : ((St.mk sz fr up own dfs rnd).set r (fr r).strip |>.set s (.slice true k (xs ++ [yv]))).fr s = .slice true k (xs ++ [yv]) := by simp [St.set, setF]
  rw [e1] at hrs'
  have e2 : a2.tmps.getD s undef = Value.slice (some ad) (xs.length + 1) cap := by rw [← hvS]; exact ev2s
  rw [e2] at hrs'
  generalize hxx : xs ++ [yv] = xx at hrs'
  cases hrs' with
  | slice _ _ _ _ _ _ _ f hs' hn' hc' hk' h1' hf' hr' ho' =>
   obtain ⟨c, hc⟩ : ∃ c, yv.cells[0]? = some c := by
    cases hyc : yv.cells with
    | nil => rw [hyc] at hyk; simp at hyk; omega
    | cons c _ => exact ⟨c, rfl⟩
   have := hf' xs.length yv 0 c (by rw [← hxx]; simp) hc
   have h5 : G'.tag ad.block (ad.off + xs.length * k) = .fix := this.1
   obtain ⟨u, hu⟩ := hst.tags.ex _ _ (show G'.tag ad.block (ad.off + xs.length * k) ≠ .free by rw [h5]; simp)
   unfold World.cell? at hu
   simp only at hu
   have h1' := h1
   rw [hgb, he] at h1'
   rw [h1'] at hu
   simp only [Option.isSome_none, Bool.false_eq_true, if_false] at hu
   have h6 := (Array.getElem?_eq_some_iff.1 hu).1
   have h7 := h4 (ad.off + xs.length * k) (by omega)
   rw [hgb, he, h5] at h7
   cases h7
 have hcell1 : (w1.cell? ⟨G.blk o, offp + fd.offset, none⟩).isSome = true ∧ w1.frozen? ⟨G.blk o, offp + fd.offset, none⟩ = false := by
  obtain ⟨b1, b2⟩ := hcellA _ hoff
  rw [World.cell?_setCells_out _ us _ w1 ⟨G.blk o, offp + fd.offset, none⟩ (fun hb _ => absurd hb hne)] at b1
  rw [World.frozen?_setCells] at b2
  exact ⟨b1, b2⟩
 have hvS1 : vS.oneCell' = true := by rw [hvS]; rfl
 have hvSc : vS.cells = #[vS] := by rw [hvS]; rfl
 have husl : us.length = k := by rw [hus, Array.length_toList, (hyr.cells hy1).1, hyk]
 have hus1 : ∀ u ∈ us, u.oneCell' = true := fun u hu => by
  rw [hus] at hu
  obtain ⟨q, hq⟩ := List.getElem?_of_mem hu
  have hq' : (a.eval (.tmp tv)).cells[q]? = some u := by rw [← Array.getElem?_toList]; exact hq
  have hql : q < yv.cells.length := by rw [← (hyr.cells hy1).1]; exact (Array.getElem?_eq_some_iff.1 hq').1
  have hc := List.getElem?_eq_getElem hql
  exact ((hyr.cells hy1).2 q _ u hc hq').one (hy1 _ (List.mem_of_getElem? hc))
 -- what stands when some of the four have run
 let A : Bool → Bool → Act := fun i f => bif f then (bif i then a2.put (some sp) pI else a2).put (some sf) vF else (bif i then a2.put (some sp) pI else a2)
 let W : Bool → Bool → World := fun b t => bif t then (bif b then w1.setCells ad.block (ad.off + xs.length * k) us else w1).setCell ⟨G.blk o, offp + fd.offset, none⟩ vS else (bif b then w1.setCells ad.block (ad.off + xs.length * k) us else w1)
 have evA : ∀ i f q, q ≠ sp → q ≠ sf → (A i f).eval (.tmp q) = a2.eval (.tmp q) := fun i f q h1 h2 => by
  cases i <;> cases f <;> simp only [A, cond_true, cond_false] <;> (repeat rw [eval_ne (by assumption)])
 have evAsp : ∀ f, (A true f).eval (.tmp sp) = pI := fun f => by
  have e : (a2.put (some sp) pI).eval (.tmp sp) = pI := eval_put_same (by rw [hsz2]; exact hsp)
  cases f
  ·exact e
  show ((a2.put (some sp) pI).put (some sf) vF).eval (.tmp sp) = pI
  rw [eval_ne (Ne.symm d2)]; exact e
 have evAsf : ∀ i, (A i true).eval (.tmp sf) = vF := fun i => by
  cases i
  ·exact eval_put_same (by show sf < a2.tmps.size; rw [hsz2]; exact hsf)
  exact eval_put_same (by
   show sf < (a2.tmps.setIfInBounds _ _).size
   rw [Array.size_setIfInBounds, hsz2]; exact hsf)
 have xI : ∀ f w', (execOp (A false f).eval (⟨some sp, .indexAddr t (.tmp s) (.tmp ti), ty2, pos2, aft2, none⟩ : Oper)).run P w' = .ok (.value pI) w' := fun f w' => by
  have hlt : (xs.length : Int) < ((xs.length + 1 : Nat) : Int) := by omega
  have e1 := evA false f s (Ne.symm hss) (Ne.symm d1)
  have e2 := evA false f ti d7 (Ne.symm d3)
  rw [ev2s, hvS] at e1
  rw [ev2ti] at e2
  rw [hpI]
  have hadd : ad.add (xs.length * k) = ⟨ad.block, ad.off + xs.length * k, none⟩ := add_of_none hspot _
  rw [← hadd]
  simp [execOp, Instr.indexAt, asIntOf, e1, e2, run_underlying hu, hsze]
 have xF : ∀ i w', (execOp (A i false).eval (⟨some sf, .fieldAddr tf (.tmp pp) fi, ty4, pos4, aft4, none⟩ : Oper)).run P w' = .ok (.value vF) w' := fun i w' => by
  have e1 : (A i false).eval (.tmp pp) = .pointer (some ⟨G.blk o, offp, none⟩) := by
   rw [← ev2pp]
   cases i
   ·rfl
   exact eval_ne d6
  have e2 : ((⟨G.blk o, offp, none⟩ : Addr).add fd.offset) = ⟨G.blk o, offp + fd.offset, none⟩ := add_of_none rfl _
  rw [hvF, ← e2]
  simp [execOp, e1, run_fieldAt hf hfi hfsz hkf]
 have xS : ∀ f t, (execOp (A true f).eval (⟨none, .store e (.tmp sp) (.tmp tv), ty3, pos3, aft3, none⟩ : Oper)).run P (W false t) = .ok .skip (W true t) := fun f tt => by
  have e1 := evAsp f
  rw [hpI] at e1
  have e2 : (A true f).eval (.tmp tv) = a.eval (.tmp tv) := by rw [evA true f tv htvp (Ne.symm d4), ev2tv]
  refine run_storeAt hsze e1 (by rw [e2, (hyr.cells hy1).1, hyk]) ?_
  rw [e2, ← hus]
  have hw : ∀ j, j < us.length → ((W false tt).cell? ⟨ad.block, ad.off + xs.length * k + 0 + j, none⟩).isSome = true ∧ (W false tt).frozen? ⟨ad.block, ad.off + xs.length * k + 0 + j, none⟩ = false := fun j hj => by
   obtain ⟨b1, b2⟩ := hcells j (by rw [← husl]; exact hj)
   rw [Nat.add_zero]
   cases tt
   ·exact ⟨b1, b2⟩
   show ((w1.setCells (G.blk o) (offp + fd.offset) [vS]).cell? _).isSome = true ∧ (w1.setCells (G.blk o) (offp + fd.offset) [vS]).frozen? _ = false
   rw [World.cell?_setCells_out (G.blk o) [vS] (offp + fd.offset) w1 ⟨ad.block, ad.off + xs.length * k + j, none⟩ (fun hb _ => absurd (show G.blk o = ad.block from hb.symm) hne), World.frozen?_setCells]
   exact ⟨b1, b2⟩
  have := run_storeCells_cells (P := P) ad.block (ad.off + xs.length * k) us 0 (W false tt) (fun j hj => (hw j hj).1) (fun j hj => (hw j hj).2) hus1
  rw [Nat.add_zero] at this
  rw [this]
  congr 1
  cases tt
  ·rfl
  exact setCells_comm (x := ⟨G.blk o, offp + fd.offset, none⟩) hne us _ w1
 have xT : ∀ i b, (execOp (A i true).eval (⟨none, .store t (.tmp sf) (.tmp s), ty5, pos5, aft5, none⟩ : Oper)).run P (W b false) = .ok .skip (W b true) := fun i b => by
  have e1 := evAsf i
  rw [hvF] at e1
  have e2 : (A i true).eval (.tmp s) = vS := by rw [evA i true s (Ne.symm hss) (Ne.symm d1), ev2s]
  refine run_storeAt hszt e1 (by rw [e2, hvSc]; rfl) ?_
  rw [e2, hvSc]
  have hw : ((W b false).cell? ⟨G.blk o, offp + fd.offset, none⟩).isSome = true ∧ (W b false).frozen? ⟨G.blk o, offp + fd.offset, none⟩ = false := by
   cases b
   ·exact hcell1
   exact hcellA _ hoff
  have := run_storeCells_cells (P := P) (G.blk o) (offp + fd.offset) [vS] 0 (W b false) (fun j hj => by
   have : j = 0 := by simpa using hj
   subst this
   exact hw.1) (fun j hj => by
   have : j = 0 := by simpa using hj
   subst this
   exact hw.2) (fun v hv => by rw [List.mem_singleton.1 hv]; exact hvS1)
  exact this
 -- in the text's order
 have hfin : StRel d G' ⟨sz, setF sp .any (setF s (.slice true k (xs ++ [yv])) (setF r (fr r).strip fr)), up, own, dfs, rnd⟩ (A true false) (W true false) := hst.put (s := sp) (y := .any) (v := pI) hsp (.any _ _)
 have hQ : (fun e a' w' => e = Exit.normal ∧ Post d ⟨sz, fr, up, own, dfs, rnd⟩ G w Q a' w') .normal (A true true) (W true true) := by
  have h5 := hr G' _ _ hfin [n + 3, n + 4] (by simp [← g3, ← g4])
  rw [wpOpsIn_cons] at h5
  have h6 := wpIn_value_back (by intro c h; cases h) (xF true _) (wpOpIn_back (by simpa using g3.symm) rfl h5)
  rw [wpOpsIn_cons] at h6
  have h7 := wpIn_skipped_back (by intro c h; cases h) (xT true true) (wpOpIn_back (by simpa using g4.symm) rfl h6)
  obtain ⟨_, h8⟩ : Exit.normal = Exit.normal ∧ _ := h7
  exact ⟨rfl, h8.next hkp rfl rfl rfl⟩
 have hF : Fr ((St.mk sz fr up own dfs rnd).rnd.map G.blk) = Fr (rnd.map G.blk) := rfl
 rw [show l.length - n = 4 + 1 by omega]
 refine ⟨fun h0 => ?_, fun q hq => ?_⟩
 ·have : n ∈ Region.ready .any l.toArray listed := by
   refine mem_ready.2 ⟨by rw [getD_eq (by omega), hL n (by omega)]; simp, _, by simpa using g0.symm, fun e he hbd => ?_⟩
   have hlt := hfwd n _ g0.symm e he hbd
   rw [hL e.on (by omega)]
   simpa using hlt
  rw [h0] at this
  cases this
 obtain ⟨q1, oq, hoq, heq⟩ := mem_ready.1 hq
 have hoq' : l[q]? = some oq := by simpa using hoq
 have hql := (List.getElem?_eq_some_iff.1 hoq').1
 rw [getD_eq (by omega), hL q hql] at q1
 have hnq : n ≤ q := by simpa using q1
 have hno : ∀ o', l[q]? = some o' → hasEdge o' n = true → False := fun o' h1 h2 => by
  obtain ⟨e, h5, h6, h7⟩ := hasEdge_spec h2
  rw [hoq'] at h1
  injection h1 with h1
  subst h1
  have := heq e h5 h6
  rw [h7, hL n (by omega)] at this
  simp at this
 have hqn : q = n := by
  refine Classical.byContradiction fun hne => ?_
  have c4 : q = n + 1 ∨ q = n + 2 ∨ q = n + 3 ∨ q = n + 4 := by omega
  rcases c4 with rfl | rfl | rfl | rfl
  ·exact hno _ g1.symm eI
  ·exact hno _ g2.symm eS
  ·exact hno _ g3.symm eF
  exact hno _ g4.symm eT
 subst hqn
 refine wpOpIn_some (by simpa using g0.symm) rfl (wpIn_value (by intro c h; cases h) hexec ?_)
 show wpAnyIn _ 0 P .any l.toArray _ 4 (listed.setIfInBounds q true) (a.put (some s) vS) w1
 rw [← ha2]
 refine any4 (k := q) hlen hfwd (fun o' h1 => ?_) (fun o' h1 => ?_) A W (fun f tt K hK => ?_) (fun f tt K hK => ?_) (fun i b K hK => ?_) (fun i b K hK => ?_) hQ 4 _ false false false false rfl (by simpa using hsz0) (fun j hj => ?_) (fun h => by cases h) (fun h => by cases h)
 ·rw [← g2] at h1; injection h1 with h1; subst h1; exact hasEdge_spec eS1
 ·rw [← g4] at h1; injection h1 with h1; subst h1; exact hasEdge_spec eT3
 ·refine wpOpIn_some (by simpa using g1.symm) rfl (wpIn_value (by intro c h; cases h) (xI f _) ?_)
  have e : (A false f).put (some sp) pI = A true f := by
   cases f
   ·rfl
   exact put_comm d2
  show K ((A false f).put (some sp) pI) _
  rw [e]; exact hK
 ·exact wpOpIn_some (by simpa using g2.symm) rfl (wpIn_skipped (by intro c h; cases h) (xS f tt) hK)
 ·exact wpOpIn_some (by simpa using g3.symm) rfl (wpIn_value (by intro c h; cases h) (xF i _) hK)
 ·exact wpOpIn_some (by simpa using g4.symm) rfl (wpIn_skipped (by intro c h; cases h) (xT i b) hK)
 have hsl : (listed.setIfInBounds q true).getD j false = if j = q then true else listed.getD j false := by
  by_cases hj2 : j = q
  ·subst hj2; simp [hsz0, hql]
  rw [getD_set_ne false (Ne.symm hj2), if_neg hj2]
 rw [hsl, hL j hj]
 by_cases hj2 : j = q
 ·simp [hj2]
 rw [if_neg hj2]
 by_cases hj3 : j ≤ q
 ·rw [if_pos hj3]; simp; omega
 rw [if_neg hj3]
 have : decide (j < q) = false := by simp; omega
 rw [this]
 repeat' split
 all_goals rfl
end
section
variable {P : Program} {d : Nat} {sz : Nat} {dfs : List Nat} {rnd : Option Nat} {l : List Oper} {fr : Nat → AV}
theorem W.drawT {id : Nat} {y : Code} {up0 own0 : List AObj} {K : Exit → St → Prop} (M : List Nat) (tn : List Nat) (S : List SegY) (up own : (Nat → Bool) → List AObj) (hm : P.follows .mixedOrders = true) (hok : okT l tn (infsY S) M = true)
  (h0 : up (fun _ => false) = up0) (h0' : own (fun _ => false) = own0) (hlen : ∀ B, (up B).length = up0.length)
  (h : ChainY P d l sz up own dfs rnd (fun l' f => l' = l.drop (infsY S).length → ATail P d l (infsY S).length ⟨sz, f, up (fun p => decide (p < tn.length)), own (fun p => decide (p < tn.length)), dfs, rnd⟩ (fun s => AW P d y s K)) S l fr) :
  AW P d (.seq (.region id l.toArray true) y) ⟨sz, fr, up0, own0, dfs, rnd⟩ K := AW.seq (AW.chainT M hm hok h0 h0' hlen h)
theorem W.drawT0 {id : Nat} {up0 own0 : List AObj} {K : Exit → St → Prop} (M : List Nat) (tn : List Nat) (S : List SegY) (up own : (Nat → Bool) → List AObj) (hm : P.follows .mixedOrders = true) (hok : okT l tn (infsY S) M = true)
  (h0 : up (fun _ => false) = up0) (h0' : own (fun _ => false) = own0) (hlen : ∀ B, (up B).length = up0.length)
  (h : ChainY P d l sz up own dfs rnd (fun l' f => l' = l.drop (infsY S).length → ATail P d l (infsY S).length ⟨sz, f, up (fun p => decide (p < tn.length)), own (fun p => decide (p < tn.length)), dfs, rnd⟩ (K .normal)) S l fr) :
  AW P d (.region id l.toArray true) ⟨sz, fr, up0, own0, dfs, rnd⟩ K := AW.chainT M hm hok h0 h0' hlen h
/-- At the end: append of one element, which is laid at once; the slice is stored in an object's cell. -/
theorem Y.appendPut {n : Nat} {up own : (Nat → Bool) → List AObj} {tn : List Nat} {Q : St → Prop} {U O : List AObj} {ty ty2 ty3 ty4 ty5 t e tf t' : TypeId} {pos pos2 pos3 pos4 pos5 : String} {aft aft2 aft3 aft4 aft5 : Array Edge} {i : TypeInfo} {z : Value} {r s sp sf pp ti tv k kf o offp fi : Nat} {x : Operand} {o2 : Bool} {b y z' : AV} {xs zs cs : List AV} {z0 yv : AV} {fs : Array Field} {fd : Field} {m : Int}
  (hok : tailOK l n = true)
  (hu : P.underlying t = some (.slice e)) (hi : P.info? e = some i) (hsze : ∀ w, (Go.sizeOf e).run P w = .ok k w) (hszt : ∀ w, (Go.sizeOf t).run P w = .ok 1 w) (hf : P.underlying tf = some (.struct fs))
  (ho : (U ++ O)[o]? = some (.cells t' cs)) (hl : (xs.length + 1) * i.bytes ≤ 140737488355328) (hl2 : xs.length + 1 ≤ 4611686018427387904)
  (hr : ARun P d l.toArray [⟨some sf, .fieldAddr tf (.tmp pp) fi, ty4, pos4, aft4, none⟩, ⟨none, .store t (.tmp sf) (.tmp s), ty5, pos5, aft5, none⟩] ⟨sz, setF sp .any (setF s (.slice true k zs) (setF r z' fr)), U, O, dfs, rnd⟩ Q)
  (hU : up (fun p => decide (p < tn.length)) = U := by rfl) (hO : own (fun p => decide (p < tn.length)) = O := by rfl)
  (hz : i.zero = some z := by rfl) (hsz : i.size = k := by rfl) (hzk : z.cells.size = k := by rfl) (hk : 0 < k := by decide) (hb : fr r = b := by exact sL0) (hb' : AsSl b true k xs := by first | exact .inl rfl | exact .inr ⟨rfl, rfl⟩)
  (hx : frEv fr x = y := by exact sL0) (hx' : AsSl y o2 k [z0] := by first | exact .inl rfl | exact .inr ⟨rfl, rfl⟩)
  (hti : frEv fr (.tmp ti) = .v (.int .i64 m) := by exact sL0) (hm : m = (xs.length : Int) := by simp) (htv : frEv fr (.tmp tv) = yv := by exact sL0) (hyk : yv.cells.length = k := by simp [go_sem]) (hy1 : yv.cells.all AV.one = true := by simp [go_sem])
  (hfi : fs[fi]? = some fd := by rfl) (hfsz : ∀ w, (Go.sizeOf fd.type).run P w = .ok kf w := by assumption) (hkf : kf ≠ 0 := by decide) (hpp : frEv fr (.tmp pp) = .ptr o offp := by exact sL0) (hoff : offp + fd.offset < cs.length := by simp)
  (hz' : b.strip = z' := by exact sL0) (hzs : xs ++ [yv] = zs := by first | rfl | (simp only [go_sem, ↓reduceIte, Nat.reduceEqDiff, Nat.reduceAdd] <;> rfl))
  (hs : Nat.blt s sz = true := by rfl) (hsp : Nat.blt sp sz = true := by rfl) (hsf : Nat.blt sf sz = true := by rfl)
  (hd : (s ≠ r ∧ sp ≠ s ∧ ti ≠ s ∧ tv ≠ s ∧ tv ≠ sp ∧ sf ≠ s ∧ sf ≠ sp ∧ sf ≠ ti ∧ sf ≠ tv ∧ pp ≠ s ∧ pp ≠ sp ∧ ti ≠ sp) := by decide) :
  ChainY P d l sz up own dfs rnd (fun l' f => l' = l.drop n → ATail P d l n ⟨sz, f, up (fun p => decide (p < tn.length)), own (fun p => decide (p < tn.length)), dfs, rnd⟩ Q) [] [⟨some s, .call ⟨.builtin .append, #[.tmp r, x], #[t, t]⟩, ty, pos, aft, none⟩, ⟨some sp, .indexAddr t (.tmp s) (.tmp ti), ty2, pos2, aft2, none⟩, ⟨none, .store e (.tmp sp) (.tmp tv), ty3, pos3, aft3, none⟩, ⟨some sf, .fieldAddr tf (.tmp pp) fi, ty4, pos4, aft4, none⟩, ⟨none, .store t (.tmp sf) (.tmp s), ty5, pos5, aft5, none⟩] fr := by
 intro hdrop
 subst hU
 subst hO
 subst hb
 subst hx
 subst hm
 subst hz'
 subst hzs
 obtain ⟨e1, e2, e3, e4, e5, e6, e7, e8, e9, e10, e11, e12⟩ := hd
 exact ATail.appendPut hdrop hok hu hi hsze hz hsz hzk hk hb' hx' hti htv hyk (fun c hc => List.all_eq_true.1 hy1 c hc) e1 (by simpa using hs) (by simpa using hsp) e2 e3 e4 e5 hl hl2 hf hfi hfsz hkf hpp ho hoff hszt e6 e7 e8 e9 e10 e11 e12 (by simpa using hsf) hr
end
end Go.SX
namespace Go.Proofs
open Go.RowKit
/-- Where a builder lies: in a block of type T (itself, or what begins with it). -/
def BldAt (T e : TypeId) (b : Nat) (p v : Value) (n : Nat) (bs : List Value) (w : World) : Prop :=
 w.heap[b]? = some (.cells #[p, v] T (0, 0)) ∧ (p = .pointer none ∨ p = .pointer (some ⟨b, 0, none⟩)) ∧ w.ownsRow 0 e 1 v n bs ∧ v.ownBlock ≠ some b

end Go.Proofs

namespace Go.SX
variable [GI : GlobInv]
open Classical

theorem AllObj.uniq {G : Gh} {w : World} {i o b : Nat} (h : AllObj G w i b) (k : AllObj G w o b) : i = o := by
 obtain ⟨cur, e, h1, h2, h3⟩ := h
 obtain ⟨cur', e', g1, g2, g3⟩ := k
 have a := h3 0 h2
 rw [g3 0 g2] at a
 injection a with a
 exact a.symm

/-- Tags of object o's alone turn: the other objects stand as they stood. -/
theorem ObjRel.free {G G' : Gh} {w : World} {i o : Nat} {x : AObj} (h : ObjRel G w i x) (hne : i ≠ o) (ht : ∀ b q, G.tag b q ≠ .obj o → G'.tag b q = G.tag b q) (hb : G'.blk = G.blk) (hn : G'.n = G.n) : ObjRel G' w i x := by
 have hrep : ∀ {l : Option Loc} {y : AV} {u : Value}, Rep G w l y u → Rep G' w l y u := fun hr =>
  hr.mono (fun b q e => ⟨by rw [ht b q (by rw [e]; simp)]; exact e, rfl⟩) (Nat.le_of_eq hn.symm) (fun q _ => by rw [hb]) (fun L _ b q e => by rw [ht b q (by rw [e]; simp)]; exact e)
 have hobj : ∀ b q, G.tag b q = .obj i → G'.tag b q = .obj i := fun b q e => by
  rw [ht b q (by rw [e]; intro e'; injection e' with e'; exact hne e')]; exact e
 cases x with
 | cells t cs =>
  obtain ⟨vs, h1, h2, h3, h4⟩ := h
  exact ⟨vs, by rw [hb]; exact h1, h2, fun j y u p q => hrep (h3 j y u p q), fun j hj => by rw [hb]; exact hobj _ _ (h4 j hj)⟩
 | loop st pd fr sz ps asg bd df =>
  obtain ⟨fn, tmps, h1, h2, h3, h4⟩ := h
  exact ⟨fn, tmps, by rw [hb]; exact h1, h2, fun s => hrep (h3 s), by rw [hn]; exact h4⟩
 | defs => show w.heap[G'.blk i]? = _; rw [hb]; exact h
 | dead => show w.heap[G'.blk i]? = _; rw [hb]; exact h
 | bld t e bs => exact BldRel.turn h (by rw [hb]) hobj rfl (fun _ _ => rfl)
 | gone =>
  obtain ⟨vs, t, fz, h1, h2⟩ := h
  exact ⟨vs, t, fz, by rw [hb]; exact h1, fun j hj => by rw [hb, ht _ _ (by rw [h2 j hj]; simp)]; exact h2 j hj⟩

section
variable {P : Program} {g : FuncId}
open Go.Proofs

end

section
variable {P : Program} {d sz : Nat} {fr : Nat → AV} {up own own' : List AObj} {dfs : List Nat} {rnd : Option Nat} {Q : St → Prop} {ops : Array Oper}
end
end Go.SX
namespace Go.SX
variable [GI : GlobInv]
open Classical
section
variable {P : Program} {d : Nat} {st : St} {dst : Option Tmp} {ty : TypeId} {pos : String} {aft : Array Edge} {gd : Option (Nat × Bool)}
theorem OpV.indexArrPtr {t e : TypeId} {x i : Operand} {len n k o off : Nat} {q : IntKind} (hu : P.underlying t = some (.array len e)) (hsz : ∀ w, (sizeOf e).run P w = .ok k w) (hn : n < len)
  (hx : st.ev x = .ptr o off) (hi : st.ev i = .v (.int q (n : Int))) : OpV P d ⟨dst, .indexAddr t x i, ty, pos, aft, gd⟩ st (.ptr o (off + n * k)) :=
 OpV.pure (by intro c h; cases h) fun G a w h => by
  have hr := hx ▸ h.eval x
  have hi' := ev_v h hi
  generalize hv : a.eval x = u at hr
  cases hr with
  | ptr l o off ho =>
   have hlt' : (n : Int) < len := by omega
   refine ⟨.pointer (some ((⟨G.blk o, off, none⟩ : Addr).add (n * k))), by simp [execOp, Instr.indexAt, asIntOf, hi', hv, run_underlying hu, hn, hlt', hsz, Instr.sureAddr], ?_⟩
   rw [add_of_none rfl]
   exact .ptr _ o _ ho
theorem OpV.indexArrRo {t e : TypeId} {x i : Operand} {len n k : Nat} {cs : List AV} {q : IntKind} (hu : P.underlying t = some (.array len e)) (hsz : ∀ w, (sizeOf e).run P w = .ok k w) (hn : n < len)
  (hx : st.ev x = .ro cs) (hi : st.ev i = .v (.int q (n : Int))) : OpV P d ⟨dst, .indexAddr t x i, ty, pos, aft, gd⟩ st (.ro (cs.drop (n * k))) :=
 OpV.pure (by intro c h; cases h) fun G a w h => by
  have hr := hx ▸ h.eval x
  have hi' := ev_v h hi
  generalize hv : a.eval x = u at hr
  cases hr with
  | ro l cs ad g hs h1 hg hh =>
   have hlt' : (n : Int) < len := by omega
   refine ⟨.pointer (some (ad.add (n * k))), by simp [execOp, Instr.indexAt, asIntOf, hi', hv, run_underlying hu, hn, hlt', hsz, Instr.sureAddr], ?_⟩
   rw [add_of_none hs]
   refine .ro _ _ ⟨ad.block, ad.off + n * k, none⟩ (fun j => g (n * k + j)) rfl (fun y hy => h1 y (List.mem_of_mem_drop hy)) (fun j y hj => ?_) (fun j y hj => ?_)
   ·rw [List.getElem?_drop] at hj
    have := hg _ y hj
    rw [show ad.off + (n * k + j) = ad.off + n * k + j by omega] at this
    exact this
   rw [List.getElem?_drop] at hj
   exact hh _ y hj
end
variable {P : Program} {d : Nat} {l0 : List Oper} {kd : Nat} {ops : Array Oper} {rest : List Oper} {sz : Nat} {fr fr' : Nat → AV} {up own own' up' : List AObj} {dfs : List Nat} {rnd : Option Nat} {Q : St → Prop} {E : List Oper → (Nat → AV) → Prop} {s : Nat} {ty : TypeId} {pos : String} {aft : Array Edge}
theorem R.indexArrPtr {t e : TypeId} {x i : Operand} {len k o off off' : Nat} {q : IntKind} {m : Int} (n : Nat) (ht : P.underlying t = some (.array len e)) (hsz : ∀ w, (Go.sizeOf e).run P w = .ok k w) (hn : n < len) (hr : ARun P d ops rest ⟨sz, setF s (.ptr o off') fr, up, own, dfs, rnd⟩ Q) (hx : frEv fr x = .ptr o off := by exact sL0) (hi : frEv fr i = .v (.int q m) := by exact sL0) (hm : m = (n : Int) := by rfl) (hoff : off + n * k = off' := by rfl) (hs : Nat.blt s sz = true := by rfl) :
  ARun P d ops (⟨some s, .indexAddr t x i, ty, pos, aft, none⟩ :: rest) ⟨sz, fr, up, own, dfs, rnd⟩ Q :=
 ARun.vv rfl rfl hs (by subst hm; subst hoff; exact OpV.indexArrPtr (n := n) ht hsz hn hx hi) hr
theorem D.indexArrPtr {t e : TypeId} {x i : Operand} {len k o off off' : Nat} {q : IntKind} {m : Int} (n : Nat) (ht : P.underlying t = some (.array len e)) (hsz : ∀ w, (Go.sizeOf e).run P w = .ok k w) (hn : n < len) (hr : ADraw P d l0 sz up own dfs rnd E kd rest (setF s (.ptr o off') fr)) (hx : frEv fr x = .ptr o off := by exact sL0) (hi : frEv fr i = .v (.int q m) := by exact sL0) (hm : m = (n : Int) := by rfl) (hoff : off + n * k = off' := by rfl) (hs : Nat.blt s sz = true := by rfl) :
  ADraw P d l0 sz up own dfs rnd E (kd + 1) (⟨some s, .indexAddr t x i, ty, pos, aft, none⟩ :: rest) fr :=
 ⟨s, _, rfl, by simpa using hs, fun f0 hag => (by subst hm; subst hoff; exact OpV.indexArrPtr (n := n) ht hsz hn ((agr hag (by simp [Op.operands, Call.operands])).trans hx) ((agr hag (by simp [Op.operands, Call.operands])).trans hi)), hr⟩
theorem R.indexArrRo {t e : TypeId} {x i : Operand} {len k : Nat} {cs cs' : List AV} {q : IntKind} {m : Int} (n : Nat) (ht : P.underlying t = some (.array len e)) (hsz : ∀ w, (Go.sizeOf e).run P w = .ok k w) (hn : n < len) (hr : ARun P d ops rest ⟨sz, setF s (.ro cs') fr, up, own, dfs, rnd⟩ Q) (hx : frEv fr x = .ro cs := by exact sL0) (hi : frEv fr i = .v (.int q m) := by exact sL0) (hm : m = (n : Int) := by rfl) (hoff : cs.drop (n * k) = cs' := by exact sL0) (hs : Nat.blt s sz = true := by rfl) :
  ARun P d ops (⟨some s, .indexAddr t x i, ty, pos, aft, none⟩ :: rest) ⟨sz, fr, up, own, dfs, rnd⟩ Q :=
 ARun.vv rfl rfl hs (by subst hm; subst hoff; exact OpV.indexArrRo (n := n) ht hsz hn hx hi) hr
theorem D.indexArrRo {t e : TypeId} {x i : Operand} {len k : Nat} {cs cs' : List AV} {q : IntKind} {m : Int} (n : Nat) (ht : P.underlying t = some (.array len e)) (hsz : ∀ w, (Go.sizeOf e).run P w = .ok k w) (hn : n < len) (hr : ADraw P d l0 sz up own dfs rnd E kd rest (setF s (.ro cs') fr)) (hx : frEv fr x = .ro cs := by exact sL0) (hi : frEv fr i = .v (.int q m) := by exact sL0) (hm : m = (n : Int) := by rfl) (hoff : cs.drop (n * k) = cs' := by exact sL0) (hs : Nat.blt s sz = true := by rfl) :
  ADraw P d l0 sz up own dfs rnd E (kd + 1) (⟨some s, .indexAddr t x i, ty, pos, aft, none⟩ :: rest) fr :=
 ⟨s, _, rfl, by simpa using hs, fun f0 hag => (by subst hm; subst hoff; exact OpV.indexArrRo (n := n) ht hsz hn ((agr hag (by simp [Op.operands, Call.operands])).trans hx) ((agr hag (by simp [Op.operands, Call.operands])).trans hi)), hr⟩
end Go.SX
namespace Go.SX
variable [GI : GlobInv]
open Classical
variable {P : Program} {d : Nat} {l0 : List Oper} {kd : Nat} {ops : Array Oper} {rest : List Oper} {sz : Nat} {fr fr' : Nat → AV} {up own own' up' : List AObj} {dfs : List Nat} {rnd : Option Nat} {Q : St → Prop} {E : List Oper → (Nat → AV) → Prop} {s : Nat} {ty : TypeId} {pos : String} {aft : Array Edge}
theorem G.indexArrRo {t e : TypeId} {x i : Operand} {len k : Nat} {cs cs' : List AV} {q : IntKind} {m : Int} {oj : Oper} {j g : Nat} {want C : Bool} (n : Nat) (ht : P.underlying t = some (.array len e)) (hsz : ∀ w, (Go.sizeOf e).run P w = .ok k w) (hn : n < len) (hr : ARun P d ops rest ⟨sz, setF s (gAV C (.ro cs')) fr, up, own, dfs, rnd⟩ Q) (hj : ops[j]? = some oj := by rfl) (hdj : oj.dst = some g := by rfl) (hgs : GIs (fr g) want C := by exact sL2) (hx : Ug C (frEv fr x) (.ro cs) := by exact sL1) (hi : Ug C (frEv fr i) (.v (.int q m)) := by exact sL1) (hm : m = (n : Int) := by rfl) (hoff : cs.drop (n * k) = cs' := by exact sL0) (hs : Nat.blt s sz = true := by rfl) :
  ARun P d ops (⟨some s, .indexAddr t x i, ty, pos, aft, some (j, want)⟩ :: rest) ⟨sz, fr, up, own, dfs, rnd⟩ Q :=
 ARun.guardC rfl hj hdj hgs rfl hs (fun hB => (by subst hm; subst hoff; exact OpV.indexArrRo (n := n) ht hsz hn (hx.out hB) (hi.out hB))) hr
end Go.SX
namespace Go.SX
variable [GI : GlobInv]
open Classical
variable {P : Program} {d : Nat} {l0 : List Oper} {kd : Nat} {ops : Array Oper} {rest : List Oper} {sz : Nat} {fr fr' : Nat → AV} {up own own' up' : List AObj} {dfs : List Nat} {rnd : Option Nat} {Q : St → Prop} {E : List Oper → (Nat → AV) → Prop} {s : Nat} {ty : TypeId} {pos : String} {aft : Array Edge}
theorem H.build {t : TypeId} {fs : Array Field} {places : Array (Nat × Nat)} {parts : List (Nat × Operand)} {z : Value} {zs cs : List AV} {ys : List (Nat × AV)} {oj : Oper} {j g : Nat} {want C : Bool} (hu : P.underlying t = some (.struct fs))
  (hpl : ∀ w, (fs.mapM (m := Sem) fun f => do Pure.pure (f.offset, ← Go.sizeOf f.type)).run P w = .ok places w) (hz : ∀ w, (zeroValue t).run P w = .ok z w) (hr : ADraw P d l0 sz up own dfs rnd E kd rest (setF s (gAV C (.agg cs)) fr))
  (hj : l0[j]? = some oj := by rfl) (hdj : oj.dst = some g := by rfl) (hgs : GIs (fr g) want C := by exact sL2)
  (hzs : z.cells.toList.map constAV = zs := by exact sL0) (hone : zs.all AV.one = true := by exact sL4) (hys : C = true → (parts.map fun p => (p.1, frEv fr p.2)) = ys := by intro hB; simp only [go_sem, hB, ↓reduceIte, Nat.reduceEqDiff, Nat.reduceAdd] <;> rfl)
  (hf : fillAV (fun i => places[i]?) zs ys = some cs := by simp [fillAV, go_sem] <;> rfl) (hs : Nat.blt s sz = true := by rfl) :
  ADraw P d l0 sz up own dfs rnd E (kd + 1) (⟨some s, .build t parts.toArray, ty, pos, aft, some (j, want)⟩ :: rest) fr :=
 ⟨s, _, rfl, by simpa using hs, ⟨oj, g, C, _, hj, hdj, hgs, rfl, fun hB f0 hag => by
  have e := hys hB
  have e2 : (parts.map fun p => (p.1, frEv fr p.2)) = (parts.map fun p => (p.1, frEv f0 p.2)) := List.map_congr_left fun p hp => by rw [agr hag (by simp [Op.operands]; exact ⟨_, hp⟩)]
  rw [← e, e2] at hf
  exact OpV.build hu hpl hz hzs.symm hone hf⟩, hr⟩
end Go.SX
namespace Go.SX
variable [GI : GlobInv]
open Classical
section
variable {P : Program} {d : Nat} {st : St} {dst : Option Tmp} {ty : TypeId} {pos : String} {aft : Array Edge} {gd : Option (Nat × Bool)}
abbrev u8A (c : UInt8) : AV := .v (.int .u8 (c.toNat : Int))
theorem fold_bytes : ∀ (l : List UInt8) (r : ByteArray), (l.map fun c => (c.toNat : Int)).foldl (fun r n => r.push (UInt8.ofNat n.toNat)) r = ⟨r.data ++ l.toArray⟩
 | [], r => by simp
 | c :: l, r => by
  rw [List.map_cons, List.foldl_cons, fold_bytes l]
  have : UInt8.ofNat ((c.toNat : Int)).toNat = c := by simp
  rw [this]
  simp [ByteArray.push]
theorem OpV.bytesStr {a t e : TypeId} {x : Operand} {o : Bool} {l : List UInt8} (hs : P.underlying a = some (.slice e)) (he : P.underlying e = some (.int .u8)) (ht : P.underlying t = some .string) (hx : st.ev x = .slice o 1 (l.map u8A)) :
  OpV P d ⟨dst, .convert a t x, ty, pos, aft, gd⟩ st (.v (sv l)) :=
 OpV.pure (by intro c h; cases h) fun G ac w h => by
  have hr := hx ▸ h.eval x
  generalize hv : ac.eval x = u at hr
  refine ⟨.string ⟨l.toArray⟩, ?_, .v _ _⟩
  rcases asSl_cases (.inl rfl) hr with ⟨rfl, hl⟩ | ⟨ad, c, f, rfl, _, hF, _⟩
  ·have : l = [] := by simpa using hl
   subst this
   simp [execOp, hv, run_convert_bytes_string w a t e none 0 0 hs he ht, Conv.bytesToString]
   rfl
  have hvals := hF.vals (Nat.succ_pos 0)
  have e1 : flatVals 1 (l.map u8A).length f = (l.map fun c => (c.toNat : Int)).map (Value.int .u8) := by
   apply List.ext_getElem?
   intro i
   by_cases hi : i < l.length
   ·have h1 : i < (l.map u8A).length * 1 := by simpa using hi
    rw [flatVals_get h1, Nat.div_one, Nat.mod_one]
    have hxi : (l.map u8A)[i]? = some (u8A l[i]) := by rw [List.getElem?_map, List.getElem?_eq_getElem hi]; rfl
    have hrep := hF.rep i _ 0 _ hxi rfl
    have := rep_v hrep
    rw [this, List.map_map, List.getElem?_map, List.getElem?_eq_getElem hi]
    rfl
   rw [List.getElem?_eq_none (by rw [flatVals_length]; simp; omega), List.getElem?_eq_none (by simp; omega)]
  have e2 := run_loadCells_list (P := P) (w := w) ad _ hvals
  rw [flatVals_length, e1, Nat.mul_one] at e2
  have e3 := run_bytesToString w ad (l.map u8A).length c _ e2
  rw [fold_bytes] at e3
  rw [List.length_map] at e3 hv
  simp [execOp, hv, run_convert_bytes_string w a t e (some ad) l.length c hs he ht, e3]
end
variable {P : Program} {d : Nat} {ops : Array Oper} {rest : List Oper} {sz : Nat} {fr : Nat → AV} {up own : List AObj} {dfs : List Nat} {rnd : Option Nat} {Q : St → Prop} {s : Nat} {ty : TypeId} {pos : String} {aft : Array Edge}
theorem R.bytesStr {a t e : TypeId} {x : Operand} {o : Bool} (l : List UInt8) (hs' : P.underlying a = some (.slice e)) (he : P.underlying e = some (.int .u8)) (ht : P.underlying t = some .string) (hr : ARun P d ops rest ⟨sz, setF s (.v (sv l)) fr, up, own, dfs, rnd⟩ Q)
  (hx : frEv fr x = .slice o 1 (l.map u8A) := by exact sL0) (hs : Nat.blt s sz = true := by rfl) :
  ARun P d ops (⟨some s, .convert a t x, ty, pos, aft, none⟩ :: rest) ⟨sz, fr, up, own, dfs, rnd⟩ Q :=
 ARun.vv rfl rfl hs (OpV.bytesStr hs' he ht hx) hr
end Go.SX
namespace Go.SX
variable [GI : GlobInv]
open Classical
variable {n : Nat} {t : St}
section
variable {P : Program} {d : Nat}

/-- Less is known of a state, and the last of its objects are let go. -/
def StCut (d : Nat) (s t : St) : Prop :=
 (t.up ++ t.own).length ≤ (s.up ++ s.own).length ∧ t.up.length = s.up.length ∧ t.rnd = s.rnd ∧ t.sz = s.sz ∧
  ∀ (G : Gh) (a : Act) (w : World), StRel d G s a w → StRel d { G with n := (t.up ++ t.own).length } t a w

theorem StCut.of_le {s t : St} (h : StLe d s t) (ho : t.own.length = s.own.length) : StCut d s t := by
 refine ⟨by simp [h.2.1, ho], h.2.1, h.2.2.1, h.2.2.2, fun G a w hr => ?_⟩
 have := h.1 G a w hr
 have e : G = { G with n := (t.up ++ t.own).length } := by
  have hn := this.heap.n
  cases G
  simp only at hn ⊢
  rw [hn]
 rw [← e]
 exact this
theorem StCut.of_eq {s t : St} (h : s = t) : StCut d s t := by subst h; exact StCut.of_le (StLe.refl _) rfl

theorem Low.of_le {m : Nat} {x y : AV} (h : Low m x) (hl : Le x y) : Low m y := by
 cases hl with
 | refl => exact h
 | any => exact .any
 | nil own k => exact .slice own k [] (fun x hx => by cases hx)
 | strip own k xs => exact h.strip
 | agg cs cs' hn h1 hh =>
  cases h with
  | agg _ h =>
   refine .agg _ fun y' hy' => ?_
   obtain ⟨i, hi⟩ := List.getElem?_of_mem hy'
   have hlt : i < cs.length := by rw [hn]; exact (List.getElem?_eq_some_iff.1 hi).1
   rcases hh i cs[i] y' (List.getElem?_eq_getElem hlt) hi with e | ⟨e, k, rfl⟩
   ·exact e ▸ h _ (List.getElem_mem hlt)
   exact .slice false k [] (fun x hx => by cases hx)

theorem StCut.take {sz : Nat} {fr fr' : Nat → AV} {up own junk : List AObj} {dfs : List Nat} {rnd : Option Nat} (hf : ∀ i, Le (fr i) (fr' i)) (hlow : ∀ i, Low (up.length + own.length) (fr' i)) (ho : ∀ x ∈ own, ObjLow (up.length + own.length) x) (hd : ∀ o ∈ dfs, o < up.length + own.length) :
  StCut d ⟨sz, fr, up, own ++ junk, dfs, rnd⟩ ⟨sz, fr', up, own, dfs, rnd⟩ := by
 refine ⟨by simp, rfl, rfl, rfl, fun G a w hr => ?_⟩
 have hn := hr.heap.n
 simp only [List.length_append] at hn
 have hget : ∀ (i : Nat) (x : AObj), (up ++ own)[i]? = some x → (up ++ (own ++ junk))[i]? = some x := fun i x hx => by
  rw [← List.append_assoc]
  exact get_up hx
 refine ⟨hr.size, fun s => ?_, ⟨fun i x hx => ?_, rfl, fun i j hi hj e => hr.heap.inj i j ?_ ?_ e⟩, hr.defs, fun o hoo => ?_, hr.defsNodup, hr.defsGe, ⟨hr.tags.ex, hr.tags.obj, hr.tags.tail, hr.tags.globCut (by rw [hn]; simp only [List.length_append]; omega)⟩, hr.rnd, hr.low⟩
 ·exact ((hr.slots s).le (hf s)).cut (by simpa using hlow s)
 ·have hob := hr.heap.obj i x (hget i x hx)
  have hlx : ObjLow (up.length + own.length) x := by
   rcases Nat.lt_or_ge i up.length with h' | h'
   ·rw [List.getElem?_append_left h'] at hx
    have := hr.low x (List.mem_of_getElem? hx)
    cases x with
    | cells t cs => exact fun y hy => (this y hy).mono (by simp)
    | loop sta pd fr sz ps as bd df => exact ⟨fun s => (this.1 s).mono (by simp), by have := this.2; simp only at this; omega⟩
    | defs => trivial
    | dead => trivial
    | bld _ _ _ => trivial
    | gone => trivial
   rw [List.getElem?_append_right h'] at hx
   exact ho x (List.mem_of_getElem? hx)
  exact hob.cut (by simpa using hlx)
 ·simp only [List.length_append] at hi; omega
 ·simp only [List.length_append] at hj; omega
 have h1 := hr.defsAt o hoo
 have h2 := hd o hoo
 simp only at h1
 rw [← List.append_assoc, List.getElem?_append_left (by simpa using h2)] at h1
 exact h1

theorem low1 {n : Nat} {t : TypeId} {x : Value} : ObjLow n (.cells t [.v x]) := fun y hy => by
 have : y = .v x := by simpa using hy
 subst this
 exact .v x
theorem getset {U : List AObj} {i : Nat} {x y : AObj} (h : U[i]? = some x) : (U.set i y)[i]? = some y := by rw [List.getElem?_set_self (List.getElem?_eq_some_iff.1 h).1]
theorem set_same {U : List AObj} {i : Nat} {x : AObj} (h : U[i]? = some x) : U.set i x = U := by
 apply List.ext_getElem?
 intro j
 rw [List.getElem?_set]
 split
 ·rename_i e
  subst e
  split
  ·exact h.symm
  rename_i hlt; rw [List.getElem?_eq_none (by omega)]
 rfl
/-- Less known of one slot. -/
theorem R.wk {ops : Array Oper} {l : List Oper} {sz : Nat} {fr : Nat → AV} {up own : List AObj} {dfs : List Nat} {rnd : Option Nat} {Q : St → Prop} {y : AV} (s : Nat) (y' : AV) (hl : Le y y') (hr : ARun P d ops l ⟨sz, setF s y' fr, up, own, dfs, rnd⟩ Q)
  (h : fr s = y := by exact sL0) : ARun P d ops l ⟨sz, fr, up, own, dfs, rnd⟩ Q :=
 ARun.le (st' := ⟨sz, setF s y' fr, up, own, dfs, rnd⟩) (StLe.frame (s := ⟨sz, fr, up, own, dfs, rnd⟩) fun i => by
  unfold setF
  split
  ·rename_i e; subst e; show Le (fr i) _; rw [h]; exact hl
  exact .refl _) hr
/-- A nil slice is an empty one, and ours. -/
theorem R.nilSl {ops : Array Oper} {l : List Oper} {sz : Nat} {fr : Nat → AV} {up own : List AObj} {dfs : List Nat} {rnd : Option Nat} {Q : St → Prop} (s k : Nat) (hr : ARun P d ops l ⟨sz, setF s (.slice true k []) fr, up, own, dfs, rnd⟩ Q)
  (h : fr s = .nil := by exact sL0) : ARun P d ops l ⟨sz, fr, up, own, dfs, rnd⟩ Q :=
 ARun.le (st' := ⟨sz, setF s (.slice true k []) fr, up, own, dfs, rnd⟩) (StLe.frame (s := ⟨sz, fr, up, own, dfs, rnd⟩) fun i => by
  unfold setF
  split
  ·rename_i e; subst e; show Le (fr i) _; rw [h]; exact .nil _ _
  exact .refl _) hr
theorem lowF_set {s : Nat} {y : AV} {f : Nat → AV} (h : Low n y) (hf : ∀ i, Low n (f i)) : ∀ i, Low n (setF s y f i) := by
 intro i
 unfold setF
 split
 ·exact h
 exact hf i
theorem lowF_any : ∀ i, Low n ((fun _ => .any : Nat → AV) i) := fun _ => .any

/-- How a round of a loop may end: n: what is asked when it comes to an end; N: when the block around the loop is left. -/
def LK {α : Type} (d : Nat) (id : Nat) (I : α → St) (R : α → Prop) (μ : α → Nat) (x : α) (N : St → Prop) (K : Exit → St → Prop) : Exit → St → Prop
 | .normal, s => ∃ y, R y ∧ μ y < μ x ∧ StCut d s (I y) ∧ (I y).own.length = (I x).own.length
 | .exit i, s => if i = id then N s else K (.exit i) s
 | e, s => K e s

theorem AW.loopC {c : Code} {st : St} {K : Exit → St → Prop} {id : Nat} {α : Type} (I : α → St) (R : α → Prop) (μ : α → Nat) (x0 : α) (h0 : R x0) (hst : StLe d st (I x0)) (hown : (I x0).own.length = st.own.length)
  (round : ∀ x, R x → AW P d c (I x) (LK d id I R μ x (K .normal) K)) : AW P d (.block id (.loop c)) st K := by
 refine AW.block ?_
 intro G0 a0 w0 hr0
 let S : Act → World → Nat → Prop := fun a w m => ∃ x G, R x ∧ StRel d G (I x) a w ∧ Keep d G0 w0 G w ∧ ((I x).up.length = st.up.length ∧ (I x).rnd = st.rnd ∧ (I x).sz = st.sz ∧ (I x).own.length = st.own.length) ∧ μ x = m
 have key : ∀ a w, (∃ m, S a w m) → ∃ m, (S a w m ∧ ∀ k, S a w k → m ≤ k) := fun a w h => exists_least h
 refine wpIn_loop (F := Fr (st.rnd.map G0.blk)) (fun a w => ∃ m, S a w m) (fun a w => Classical.epsilon fun m => S a w m ∧ ∀ k, S a w k → m ≤ k)
  ⟨_, x0, G0, h0, hst.1 _ _ _ hr0, Keep.refl _ _ _, ⟨hst.2.1, hst.2.2.1, hst.2.2.2, hown⟩, rfl⟩ ?_
 intro a w hI
 obtain ⟨⟨x, G, hx, hrel, hkeep, ⟨e1, e2, e3, e4⟩, hm⟩, _⟩ := Classical.epsilon_spec (key a w hI)
 have hw := round x hx G a w hrel
 have hF : Fr ((I x).rnd.map G.blk) = Fr (st.rnd.map G0.blk) := fr_keep (st' := I x) hr0 hkeep e2
 rw [hF] at hw
 refine wpIn_mono hw ?_
 rintro e a1 w1 ⟨G1, s1, hr1, hk1, f1, f2, f3, hK⟩
 have hnx : G.n = ((I x).up ++ (I x).own).length := hrel.heap.n
 cases e with
 | normal =>
  obtain ⟨y, hy, hlt, hle, hown'⟩ := hK
  obtain ⟨c1, c2, c3, c4, c5⟩ := hle
  have hcut := c5 _ _ _ hr1
  have hnE : ((I y).up ++ (I y).own).length = G.n := by
   rw [hnx]
   simp only [List.length_append]
   have := c2.trans f1
   omega
  have hk1' : Keep d G w { G1 with n := ((I y).up ++ (I y).own).length } w1 := ⟨hk1.fix, hk1.slot, by rw [← hnE]; exact Nat.le_refl _, hk1.blk, hk1.os, hk1.tape, hk1.output, hk1.size, hk1.old.cut (by rw [hr1.heap.n]; exact c1)⟩
  have hS : S a1 w1 (μ y) := ⟨y, _, hy, hcut, hkeep.trans hk1', ⟨c2.trans (f1.trans e1), c3.trans (f2.trans e2), c4.trans (f3.trans e3), hown'.trans e4⟩, rfl⟩
  have hmin := (Classical.epsilon_spec (key a1 w1 ⟨_, hS⟩)).2 _ hS
  refine ⟨⟨_, hS⟩, ?_⟩
  rw [← hm]
  exact Nat.lt_of_le_of_lt hmin hlt
 | exit i =>
  refine ⟨G1, s1, hr1, hkeep.trans hk1, f1.trans e1, f2.trans e2, f3.trans e3, ?_⟩
  simp only [LK] at hK
  simp only [blockK]
  split
  ·rename_i h; rw [if_pos h] at hK; exact hK
  rename_i h; rw [if_neg h] at hK; exact hK
 | goto l => exact ⟨G1, s1, hr1, hkeep.trans hk1, f1.trans e1, f2.trans e2, f3.trans e3, hK⟩
 | ret => exact ⟨G1, s1, hr1, hkeep.trans hk1, f1.trans e1, f2.trans e2, f3.trans e3, hK⟩
 | panic ch => exact ⟨G1, s1, hr1, hkeep.trans hk1, f1.trans e1, f2.trans e2, f3.trans e3, hK⟩
 | outgrown => exact ⟨G1, s1, hr1, hkeep.trans hk1, f1.trans e1, f2.trans e2, f3.trans e3, hK⟩

/-! ### Ways out, step by step -/
variable {K K' : Exit → St → Prop} {N : St → Prop} {y : Code} {s : St} {i id : Nat}
theorem K.thN (h : AW P d y s K) : thenK (fun s => AW P d y s K) K' .normal s := h
theorem K.thE (h : K (.exit i) s) : thenK N K (.exit i) s := h
theorem K.thR (h : K .ret s) : thenK N K .ret s := h
theorem K.blN (h : K .normal s) : blockK id K .normal s := h
theorem K.blE (h : K .normal s) : blockK i K (.exit i) s := by simp only [blockK, if_true]; exact h
theorem K.blR (h : K .ret s) : blockK id K .ret s := h
section
variable {α : Type} {I : α → St} {R : α → Prop} {μ : α → Nat} {x : α}
theorem K.lpE (h : N s) : LK d i I R μ x N K (.exit i) s := by simp only [LK, if_true]; exact h
theorem K.lpR (h : K .ret s) : LK d id I R μ x N K .ret s := h
theorem K.lpN (y : α) (hR : R y) (hμ : μ y < μ x) (hc : StCut d s (I y)) (ho : (I y).own.length = (I x).own.length := by rfl) : LK d id I R μ x N K .normal s := ⟨y, hR, hμ, hc, ho⟩
end
/-- Ways that meet again. -/
theorem W.join {a b : Code} (T : St) (h1 : AW P d a s (thenK (fun s => StLe d s T) K)) (h2 : AW P d b T K) : AW P d (.seq a b) s K := by
 refine AW.seq (h1.mono fun e s' hs => ?_)
 cases e with
 | normal => exact AW.le hs h2
 | exit i => exact hs
 | goto i => exact hs
 | ret => exact hs
 | panic c => exact hs
 | outgrown => exact hs
theorem K.thJ {T : St} (h : StLe d s T) : thenK (fun s => StLe d s T) K' .normal s := h
theorem StLe.of_eq {s t : St} (h : s = t) : StLe d s t := by subst h; exact StLe.refl _
theorem W.seq {a b : Code} (h : AW P d a s (thenK (fun s => AW P d b s K) K)) : AW P d (.seq a b) s K := AW.seq h
section
variable {sz : Nat} {fr : Nat → AV} {up own : List AObj} {dfs : List Nat} {rnd : Option Nat} {c : Operand} {a b : Code} {B : Bool}
theorem W.keep (l : List Nat) {fr' : Nat → AV} (hq : AW P d y ⟨sz, fr', up, own, dfs, rnd⟩ K) (h : keepL l fr = fr' := by exact sL0) : AW P d y ⟨sz, fr, up, own, dfs, rnd⟩ K := AW.keep l h hq
/-- A loop's test: on, or out. -/
theorem W.condX {i : Nat} (h1 : B = true → AW P d y ⟨sz, fr, up, own, dfs, rnd⟩ K) (h2 : B = false → K (.exit i) ⟨sz, fr, up, own, dfs, rnd⟩) (hc : frEv fr c = .v (.bool B) := by exact sL0) :
  AW P d (.seq (.cond c .skip (.exit i)) y) ⟨sz, fr, up, own, dfs, rnd⟩ K := AW.seq (W.cond (fun e => AW.skip (h1 e)) (fun e => AW.exit (h2 e)) hc)
end
theorem K.fin {rs : List ResultVar} {post : AV → List AObj → Prop} {r : AV} (hres : Res P s rs r) (hp : post r s.up := by exact ⟨rfl, rfl⟩) (hlow : Low n r := by simp) : FK P rs n post .ret s := ⟨.inr rfl, r, hres, hlow, hp⟩
theorem K.finN {rs : List ResultVar} {post : AV → List AObj → Prop} {r : AV} (hres : Res P s rs r) (hp : post r s.up := by exact ⟨rfl, rfl⟩) (hlow : Low n r := by simp) : FK P rs n post .normal s := ⟨.inl rfl, r, hres, hlow, hp⟩
end
end Go.SX
namespace Go.SX
variable [GI : GlobInv]
open Classical
variable {U : List AObj} {args : List AV} {m n : Nat}
section
variable {P : Program} {d : Nat} {ops : Array Oper} {rest : List Oper} {sz : Nat} {fr : Nat → AV} {up own own' : List AObj} {dfs : List Nat} {rnd : Option Nat} {Q : St → Prop} {s : Nat} {ty : TypeId} {pos : String} {aft : Array Edge}

theorem set_oid {O : List AObj} {x : AObj} : (U ++ O).set (oid U.length n) x = U ++ O.set n x := set_append_own
theorem get_oid {O : List AObj} : (U ++ O)[oid U.length n]? = O[n]? := get_own
theorem oid_ne {u : Nat} (h : n ≠ m) : oid u n ≠ oid u m := fun e => h (Nat.add_left_cancel e)
theorem keep1 {l a : Nat} {x y X : AObj} (h : U[l]? = some x) (ha : a ≠ l) : ((U.set l y).set a X)[l]? = some y := by rw [List.getElem?_set_ne ha]; exact getset h
theorem keep2 {l a b : Nat} {x y X Y : AObj} (h : U[l]? = some x) (ha : a ≠ l) (hb : b ≠ l) : (((U.set l y).set a X).set b Y)[l]? = some y := by rw [List.getElem?_set_ne hb]; exact keep1 h ha
theorem setP_nil (f : Nat → AV) : setP [] f = f := rfl
theorem setP_cons (x : Nat × AV) (r : List (Nat × AV)) (f : Nat → AV) : setP (x :: r) f = setP r (setF x.1 x.2 f) := rfl
attribute [go_sem] setP_nil setP_cons List.zip_cons_cons List.zip_nil_left List.zip_nil_right
/-- A call of a round, by an activation that has no objects. -/
theorem R.yield0 {f : Operand} {xs : List Operand} {ats : Array TypeId} {l : Nat} {args : List AV} {post : Bool → List AObj → Prop} (h : AYield P l args up post)
  (hp : ∀ b U, U.length = up.length → post b U → ARun P d ops rest ⟨sz, setF s (.v (.bool b)) fr, U, [], [], rnd⟩ Q)
  (hf : frEv fr f = .yield l := by exact sL0) (ha : xs.map (frEv fr) = args := by exact sL0) (hs : Nat.blt s sz = true := by rfl) :
  ARun P d ops (⟨some s, .call ⟨.value f, xs.toArray, ats⟩, ty, pos, aft, none⟩ :: rest) ⟨sz, fr, up, [], [], rnd⟩ Q := by
 refine ARun.op rfl (Q1 := fun s' => ARun P d ops rest s' Q) ?_ (fun s' e => e)
 intro G a w hr Q'
 have hfr' : Rep G w none (.yield l) (a.eval f) := by
  have := hr.eval f
  have e : St.ev ⟨sz, fr, up, [], [], rnd⟩ f = .yield l := hf
  rwa [e] at this
 generalize hfv : a.eval f = fv at hfr'
 cases hfr' with
 | yield _ _ ho =>
  have hxr := evs_rep hr xs
  have ha' : xs.map (St.ev ⟨sz, fr, up, [], [], rnd⟩) = args := ha
  rw [ha'] at hxr
  have hh : HeapRel G up w := by simpa using hr.heap
  obtain ⟨f', tmps, as, bd, hrun, hround⟩ := h d G w (xs.map a.eval).toArray (by rw [← ha]; simp) hxr hh hr.tags
  refine wpIn_round (by intro c h; cases h) ((run_callYield hfv).trans hrun) hround ?_
  rintro e w' ⟨b, G', H', rfl, hH, hT, hk, hlen, hp'⟩
  have h3 := hr.called hH hT hk (U := H') (O := []) (by simp) hlen (fun o ho => by simp at ho) (by rw [hlen]; have := objs_low hH; rwa [hlen] at this)
  obtain ⟨h4, k4⟩ := h3.took (.v (some (.ret d)) (.bool b)) (s := s) (by simpa using hs)
  exact ⟨.bool b, rfl, _, _, h4, (hk.less (Nat.le_succ d)).trans k4, hlen, rfl, rfl, hp b H' hlen hp'⟩

/-- Ranging over a function. -/
theorem W.range {g : Operand} {ps : Array Tmp} {as bd : Code} {gf : FuncId} {first caps args : List AV} {m : Nat} {K : Exit → St → Prop} (post : AV → List AObj → Prop) (hcall : ∀ args w, (callFunc gf args).run P w = .ok (.enter gf args) w)
  (h : ACall P gf args (up ++ (own ++ [.defs, .loop .ready none (fun s => (fr s).strip) sz ps as bd (oid up.length m)])) post)
  (hp : ∀ r H', post r H' → rangeK P d ⟨sz, fr, up, own, dfs, none⟩ (oid up.length m :: dfs) (m + 1) (oid up.length m) ps as bd K r H')
  (hm : own.length = m := by rfl) (hg : frEv fr g = .fn (.func gf) first caps := by exact sL0) (ha : first ++ [.yield (oid up.length (m + 1))] ++ caps = args := by rfl) :
  AW P d (.rangeFunc g ps as bd) ⟨sz, fr, up, own, dfs, none⟩ K := by
 subst ha
 refine AW.rangeFunc (st := ⟨sz, fr, up, own, dfs, none⟩) (n := up.length) (m := m) hcall hg rfl rfl hm.symm ?_
 exact h.mono hp

/-- What is asked behind the function that is ranged over; the record's parts under names. -/
def rangeV (P : Program) (d sz : Nat) (fr FR : Nat → AV) (up : List AObj) (dfs : List Nat) (l df : Nat) (ps : Array Tmp) (as bd : Code) (K : Exit → St → Prop) (H' : List AObj) : Prop :=
 ∃ U O x pd, H' = U ++ O ∧ U.length = up.length ∧ ((∀ x ∈ up, ObjLow U.length x) → ∀ x ∈ U, ObjLow U.length x) ∧ (∀ o ∈ dfs, (U ++ O)[o]? = some .defs) ∧
  O[l]? = some (.loop x pd FR sz ps as bd df) ∧ x ≠ .busy ∧
  match pd with
  | none => K .normal ⟨sz, fr, U, O.set l (.loop .exhausted none FR sz ps as bd df), dfs, none⟩
  | some c => AW P d c ⟨sz, fr, U, O.set l (.loop .exhausted (some c) FR sz ps as bd df), dfs, none⟩ K
theorem W.rangeV {g : Operand} {ps : Array Tmp} {as bd : Code} {gf : FuncId} {first caps args : List AV} {m : Nat} {K : Exit → St → Prop} (hcall : ∀ args w, (callFunc gf args).run P w = .ok (.enter gf args) w)
  (h : ∀ FR as' bd', FR = (fun s => (fr s).strip) → as' = as → bd' = bd → ∃ post : AV → List AObj → Prop, ACall P gf args (up ++ (own ++ [.defs, .loop .ready none FR sz ps as' bd' (oid up.length m)])) post ∧
   ∀ r H', post r H' → rangeV P d sz fr FR up (oid up.length m :: dfs) (m + 1) (oid up.length m) ps as' bd' K H')
  (hm : own.length = m := by rfl) (hg : frEv fr g = .fn (.func gf) first caps := by exact sL0) (ha : first ++ [.yield (oid up.length (m + 1))] ++ caps = args := by rfl) :
  AW P d (.rangeFunc g ps as bd) ⟨sz, fr, up, own, dfs, none⟩ K := by
 obtain ⟨post, h1, h2⟩ := h _ _ _ rfl rfl rfl
 exact W.range post hcall h1 (fun r H' hp => h2 r H' hp) hm hg ha

/-- A nil slice in a cell of ours is an empty one. -/
theorem StLe.nilOwn {n k : Nat} {t : TypeId} (ho : own[n]? = some (.cells t [.nil])) : StLe d ⟨sz, fr, up, own, dfs, rnd⟩ ⟨sz, fr, up, own.set n (.cells t [.slice true k []]), dfs, rnd⟩ := by
 refine ⟨fun G a w h => ?_, rfl, rfl, rfl⟩
 refine ⟨h.size, h.slots, ⟨fun i x hx => ?_, ?_, h.heap.inj⟩, h.defs, fun o hoo => ?_, h.defsNodup, h.defsGe, h.tags, h.rnd, h.low⟩
 ·by_cases hi : i = up.length + n
  ·subst hi
   simp only at hx
   rw [get_own, List.getElem?_set_self (List.getElem?_eq_some_iff.1 ho).1] at hx
   injection hx with hx
   subst hx
   have hob := h.heap.obj (up.length + n) (.cells t [.nil]) (by simp only [get_own]; exact ho)
   obtain ⟨vs, h1, h2, h3, h4⟩ := hob
   refine ⟨vs, h1, h2, fun j y u p q => ?_, h4⟩
   match j, p with
   | 0, p =>
    have e : y = .slice true k [] := by simpa using p.symm
    subst e
    exact (h3 0 .nil u rfl q).le (.nil _ _)
   | j + 1, p => simp at p
  refine h.heap.obj i x ?_
  simp only at hx ⊢
  rwa [← set_append_own, List.getElem?_set_ne (fun e => hi e.symm)] at hx
 ·have := h.heap.n; simpa using this
 have h1 := h.defsAt o hoo
 simp only at h1 ⊢
 rw [← set_append_own]
 by_cases hi : o = up.length + n
 ·subst hi
  rw [get_own, ho] at h1
  cases h1
 rw [List.getElem?_set_ne (fun e => hi e.symm)]
 exact h1

theorem R.nilOwn {l : List Oper} (n k : Nat) {t : TypeId} (hr : ARun P d ops l ⟨sz, fr, up, own', dfs, rnd⟩ Q) (ho : own[n]? = some (.cells t [.nil]) := by rfl) (hset : own.set n (.cells t [.slice true k []]) = own' := by exact sL0) :
  ARun P d ops l ⟨sz, fr, up, own, dfs, rnd⟩ Q := by
 subst hset
 exact ARun.le (StLe.nilOwn ho) hr
theorem W.nilOwn {c : Code} {K : Exit → St → Prop} (n k : Nat) {t : TypeId} (hr : AW P d c ⟨sz, fr, up, own', dfs, rnd⟩ K) (ho : own[n]? = some (.cells t [.nil]) := by rfl) (hset : own.set n (.cells t [.slice true k []]) = own' := by exact sL0) :
  AW P d c ⟨sz, fr, up, own, dfs, rnd⟩ K := by
 subst hset
 exact AW.le (StLe.nilOwn ho) hr

/-- A nil slice in one of the cells of an object of ours is an empty one. -/
theorem StLe.nilCell {n k j0 : Nat} {t : TypeId} {cs : List AV} (ho : own[n]? = some (.cells t cs)) (hc : cs[j0]? = some .nil) : StLe d ⟨sz, fr, up, own, dfs, rnd⟩ ⟨sz, fr, up, own.set n (.cells t (cs.set j0 (.slice true k []))), dfs, rnd⟩ := by
 refine ⟨fun G a w h => ?_, rfl, rfl, rfl⟩
 refine ⟨h.size, h.slots, ⟨fun i x hx => ?_, ?_, h.heap.inj⟩, h.defs, fun o hoo => ?_, h.defsNodup, h.defsGe, h.tags, h.rnd, h.low⟩
 ·by_cases hi : i = up.length + n
  ·subst hi
   simp only at hx
   rw [get_own, List.getElem?_set_self (List.getElem?_eq_some_iff.1 ho).1] at hx
   injection hx with hx
   subst hx
   have hob := h.heap.obj (up.length + n) (.cells t cs) (by simp only [get_own]; exact ho)
   obtain ⟨vs, h1, h2, h3, h4⟩ := hob
   refine ⟨vs, h1, by simpa using h2, fun j y u p q => ?_, by simpa using h4⟩
   by_cases hj : j = j0
   ·subst hj
    rw [List.getElem?_set_self (List.getElem?_eq_some_iff.1 hc).1] at p
    have e : y = .slice true k [] := by simpa using p.symm
    subst e
    exact (h3 j .nil u hc q).le (.nil _ _)
   rw [List.getElem?_set_ne (fun e => hj e.symm)] at p
   exact h3 j y u p q
  refine h.heap.obj i x ?_
  simp only at hx ⊢
  rwa [← set_append_own, List.getElem?_set_ne (fun e => hi e.symm)] at hx
 ·have := h.heap.n; simpa using this
 have h1 := h.defsAt o hoo
 simp only at h1 ⊢
 rw [← set_append_own]
 by_cases hi : o = up.length + n
 ·subst hi
  rw [get_own, ho] at h1
  cases h1
 rw [List.getElem?_set_ne (fun e => hi e.symm)]
 exact h1
theorem R.nilCell {l : List Oper} (n j0 k : Nat) {t : TypeId} {cs : List AV} (hr : ARun P d ops l ⟨sz, fr, up, own', dfs, rnd⟩ Q) (ho : own[n]? = some (.cells t cs) := by rfl) (hc : cs[j0]? = some .nil := by rfl) (hset : own.set n (.cells t (cs.set j0 (.slice true k []))) = own' := by exact sL0) :
  ARun P d ops l ⟨sz, fr, up, own, dfs, rnd⟩ Q := by
 subst hset
 exact ARun.le (StLe.nilCell ho hc) hr

/-- Objects of whoever waits refer to one another alone. -/
theorem R.assumeLow {l : List Oper} (h : (∀ x ∈ up, ObjLow up.length x) → ARun P d ops l ⟨sz, fr, up, own, dfs, rnd⟩ Q) : ARun P d ops l ⟨sz, fr, up, own, dfs, rnd⟩ Q := fun G a w hr => h hr.low G a w hr

/-! ### Ends of rounds -/
variable {l df : Nat} {ps : Array Tmp} {as bd : Code} {post : Bool → List AObj → Prop} {st : St} {x : LoopState} {pd : Option Code}
theorem K.rdN (hl : st.up[l]? = some (.loop x pd fr sz ps as bd df)) (h : post true (st.up.set l (.loop .ready none fr sz ps as bd df))) : roundK l fr sz ps as bd df post .normal st := ⟨⟨x, pd, hl⟩, h⟩
theorem K.rdR (hl : st.up[l]? = some (.loop x pd fr sz ps as bd df)) (h : post false (st.up.set l (.loop .done (some .ret) fr sz ps as bd df))) : roundK l fr sz ps as bd df post .ret st := ⟨⟨x, pd, hl⟩, h⟩
end
end Go.SX
