/- Texts on the way to this: SchemaTurns answers true for whatever can be read: the card of the law. (part 2) -/
import Derived.RangeFuncRecord
import Derived.Laws.StructEq
import Derived.Test.YtefgfjedonchdaaGreatDoorSchemaTurnsCardSaidPart1
set_option linter.all false
namespace Go.SX
variable [GI : GlobInv]
open Classical
section
variable {P : Program} {d : Nat}
variable {st : St} {dst : Option Tmp} {ty : TypeId} {pos : String} {aft : Array Edge} {gd : Option (Nat × Bool)} {ats : Array TypeId}

/-- The objects below m refer to none behind. -/
theorem objs_low {G : Gh} {H : List AObj} {w : World} (h : HeapRel G H w) : ∀ x ∈ H, ObjLow H.length x := by
  intro x hx
  obtain ⟨i, hi⟩ := List.getElem?_of_mem hx
  have hob := h.obj i x hi
  rw [← h.n]
  cases x with
  | cells t cs =>
    obtain ⟨us, h1, h2, h3, h4⟩ := hob
    intro y hy
    obtain ⟨j, hj⟩ := List.getElem?_of_mem hy
    have hlt : j < us.size := by rw [h2]; exact (List.getElem?_eq_some_iff.1 hj).1
    exact (h3 j y us[j] hj (Array.getElem?_eq_getElem hlt)).low
  | loop sta pd fr sz ps as bd df =>
    obtain ⟨fn, tmps, h1, h2, h3, h4⟩ := hob
    exact ⟨fun s => (h3 s).low, h4⟩
  | defs => trivial
  | dead => trivial

theorem heapRel_blt {G : Gh} {H : List AObj} {w : World} (h : HeapRel G H w) (i : Nat) (hi : i < G.n) : G.blk i < w.heap.size := by
  have hi' : i < H.length := by rw [← h.n]; exact hi
  have ho := h.obj i _ (List.getElem?_eq_getElem hi')
  rcases Nat.lt_or_ge (G.blk i) w.heap.size with h' | h'
  · exact h'
  · have hnone : w.heap[G.blk i]? = none := Array.getElem?_eq_none h'
    revert ho
    cases H[i] with
    | cells t cs => rintro ⟨vs, h1, _⟩; rw [hnone] at h1; cases h1
    | loop st pd fr sz ps as bd df => rintro ⟨fn, tmps, h1, _⟩; rw [hnone] at h1; cases h1
    | defs => intro h1; rw [ObjRel, hnone] at h1; cases h1
    | dead => intro h1; rw [ObjRel, hnone] at h1; cases h1

/-- The record of a loop turns. -/
theorem turn_loop {G : Gh} {H : List AObj} {w : World} {l sz df : Nat} {s : LoopState} {pd : Option Code} {fr : Nat → AV} {ps : Array Tmp} {as bd : Code} (hH : HeapRel G H w) (hT : TagOK G w) (hl : H[l]? = some (.loop s pd fr sz ps as bd df)) :
    ∃ r : Loop, w.heap[G.blk l]? = some (.loop r) ∧ r.state = s ∧ r.pending = pd ∧ r.params = ps ∧ r.assign = as ∧ r.body = bd ∧ r.tmps.size = sz ∧ (∀ s, Rep G w none (fr s) (r.tmps.getD s undef)) ∧ r.defers = G.blk df ∧ df < G.n ∧
      ∀ s' pd', Turn G w G (w.putObj (G.blk l) (.loop { r with state := s', pending := pd' })) ∧ HeapRel G (H.set l (.loop s' pd' fr sz ps as bd df)) (w.putObj (G.blk l) (.loop { r with state := s', pending := pd' })) ∧
        TagOK G (w.putObj (G.blk l) (.loop { r with state := s', pending := pd' })) := by
  obtain ⟨fn, tmps, h1, h2, h3, h4⟩ := hH.obj l _ hl
  refine ⟨_, h1, rfl, rfl, rfl, rfl, rfl, h2, h3, rfl, h4, fun s' pd' => ?_⟩
  have hlt : l < G.n := by rw [hH.n]; exact (List.getElem?_eq_some_iff.1 hl).1
  have hb : G.blk l < w.heap.size := (Array.getElem?_eq_some_iff.1 h1).1
  generalize hW : w.putObj (G.blk l) (.loop { state := s', pending := pd', fn := fn, tmps := tmps, params := ps, assign := as, body := bd, defers := G.blk df }) = w'
  have hself : w'.heap[G.blk l]? = some (.loop { state := s', pending := pd', fn := fn, tmps := tmps, params := ps, assign := as, body := bd, defers := G.blk df }) := by
    rw [← hW]; exact World.putObj_heap_same hb
  have hoth : ∀ b, b ≠ G.blk l → w'.heap[b]? = w.heap[b]? := fun b hb => by rw [← hW]; exact World.putObj_heap_other hb
  have hcell : ∀ (p : Addr), w'.cell? p = w.cell? p := fun p => by
    by_cases hp : p.block = G.blk l
    · simp only [World.cell?, hp, hself, h1]
    · exact cell_of_blk (hoth _ hp)
  have hfz : ∀ (p : Addr), w'.frozen? p = w.frozen? p := fun p => by
    by_cases hp : p.block = G.blk l
    · simp only [World.frozen?, hp, hself, h1]
    · exact frozen_of_blk (hoth _ hp)
  have T : Turn G w G w' := ⟨fun b o hb => ⟨hb, hcell _⟩, fun _ _ _ hb => hb, fun _ _ _ hb => hb, Nat.le_refl _, fun _ _ => rfl, by rw [← hW]; rfl, by rw [← hW]; rfl, by rw [← hW]; rfl, by rw [← hW]; simp, Still.write (G.blk l) (not_virgin_blk (by rw [hH.n]; exact (List.getElem?_eq_some_iff.1 hl).1)) (fun b hb => hoth b hb) (by rw [← hW]; simp)⟩
  refine ⟨T, ⟨fun i x hx => ?_, by rw [hH.n, List.length_set], hH.inj⟩, ⟨fun b o h => ?_, fun b o i h => ?_, fun b o L h => ?_, hT.globKeep T.old⟩⟩
  · rcases Nat.decEq i l with hne | rfl
    · rw [List.getElem?_set_ne (fun e => hne e.symm)] at hx
      have hil : i < G.n := by rw [hH.n]; exact (List.getElem?_eq_some_iff.1 hx).1
      exact T.objRel hil (hoth _ (fun e => hne (hH.inj i l hil hlt e))) (hH.obj i x hx)
    · rw [List.getElem?_set_self (by rw [← hH.n]; exact hlt)] at hx
      injection hx with hx
      subst hx
      exact ⟨fn, tmps, hself, h2, fun s => T.rep (h3 s), h4⟩
  · rw [hcell]; exact hT.ex b o h
  · rw [hfz]; exact hT.obj b o i h
  · rw [hfz]; exact hT.tail b o L h

/-- A new block that holds no cells. -/
theorem StRel.grow {G : Gh} {a : Act} {w : World} (h : StRel d G st a w) {o : Obj} (hc : ∀ i, (w.alloc o).cell? ⟨w.heap.size, i, none⟩ = none) {x : AObj}
    (hx : ∀ G', Turn G w G' (w.alloc o) → G'.n = G.n + 1 → G'.blk G.n = w.heap.size → (∀ i, i < G.n → G'.blk i = G.blk i) → ObjRel G' (w.alloc o) G.n x) :
    ∃ G', StRel d G' { st with own := st.own ++ [x] } a (w.alloc o) ∧ Turn G w G' (w.alloc o) ∧ G'.blk (st.up ++ st.own).length = w.heap.size ∧ (∀ i, i < G.n → G'.blk i = G.blk i) := by
  have hfree : ∀ o, G.tag w.heap.size o = .free := fun o => by
    refine Classical.byContradiction fun hne => ?_
    obtain ⟨u, hu⟩ := h.tags.ex _ _ hne
    have := World.block_lt_of_cell? _ _ hu
    simp at this
  have hgn := h.heap.n
  have hblt := heapRel_blt h.heap
  let G' : Gh := { tag := G.tag, blk := fun i => if i = G.n then w.heap.size else G.blk i, n := G.n + 1 }
  have hcell : ∀ b o', G.tag b o' ≠ .free → (w.alloc o).cell? ⟨b, o', none⟩ = w.cell? ⟨b, o', none⟩ := fun b o' hb => by
    refine World.cell?_alloc_old _ _ _ ?_
    show b ≠ w.heap.size
    rintro rfl
    exact hb (hfree o')
  have hG' : ∀ i, i < G.n → G'.blk i = G.blk i := fun i hi => by simp only [G']; rw [if_neg (by omega)]
  have hGn : G'.blk G.n = w.heap.size := by simp [G']
  have T : Turn G w G' (w.alloc o) :=
    ⟨fun b o' hb => ⟨hb, hcell b o' (by rw [hb]; simp)⟩, fun b o' L hb => hb, fun b o' i hb => hb, Nat.le_succ _, hG', rfl, rfl, rfl, by simp, Still.alloc _ (fun b o' _ => .inl rfl) (fun i hi => by
      by_cases e : i = G.n
      · exact .inr (by rw [e, hGn]; exact Nat.le_refl _)
      · have hi' : i < G.n + 1 := hi
        exact .inl ⟨by omega, hG' i (by omega)⟩)⟩
  refine ⟨G', ?_, T, by rw [← hgn]; exact hGn, hG'⟩
  have hHR : HeapRel G' (st.up ++ (st.own ++ [x])) (w.alloc o) := by
    rw [← List.append_assoc]
    refine ⟨fun i y hy => ?_, by simp only [G', List.length_append, List.length_singleton]; simp only [List.length_append] at hgn; omega, fun i j hi hj e => ?_⟩
    · rcases Nat.lt_or_ge i (st.up ++ st.own).length with hlt | hge
      · rw [List.getElem?_append_left hlt] at hy
        refine T.objRel (by omega) ?_ (h.heap.obj i y hy)
        have := hblt i (by omega)
        show (w.heap.push _)[G.blk i]? = _
        rw [Array.getElem?_push, if_neg (by omega)]
      · have hi : i = (st.up ++ st.own).length := by
          have := (List.getElem?_eq_some_iff.1 hy).1
          simp only [List.length_append, List.length_singleton] at this ⊢
          simp only [List.length_append] at hge
          omega
        subst hi
        simp only [List.getElem?_append_right (Nat.le_refl _), Nat.sub_self, List.getElem?_cons_zero] at hy
        injection hy with hy
        subst hy
        rw [← hgn]
        exact hx G' T rfl hGn hG'
    · simp only [G'] at hi hj e
      by_cases h1 : i = G.n <;> by_cases h2 : j = G.n
      · omega
      · rw [if_pos h1, if_neg h2] at e
        have := hblt j (by omega)
        omega
      · rw [if_neg h1, if_pos h2] at e
        have := hblt i (by omega)
        omega
      · rw [if_neg h1, if_neg h2] at e
        exact h.heap.inj i j (by omega) (by omega) e
  refine h.turn (O := st.own ++ [x]) T hHR rfl (fun o ho => ?_) ⟨fun b o' hb => ?_, fun b o' i hb => ?_, fun b o' L hb => ?_, h.tags.globKeep T.old⟩ h.low
  · have := h.defsAt o ho
    rw [← List.append_assoc, List.getElem?_append_left (List.getElem?_eq_some_iff.1 this).1]
    exact this
  · rw [hcell b o' hb]
    exact h.tags.ex b o' hb
  · rw [World.frozen?_alloc_old]
    · exact h.tags.obj b o' i hb
    · show b ≠ w.heap.size
      rintro rfl
      have hb' : G.tag _ _ = _ := hb
      rw [hfree] at hb'; cases hb'
  · rw [World.frozen?_alloc_old]
    · exact h.tags.tail b o' L hb
    · show b ≠ w.heap.size
      rintro rfl
      have hb' : G.tag _ _ = _ := hb
      rw [hfree] at hb'; cases hb'

theorem cell_new_deferred {w : World} {x : Option (List Deferred)} {i : Nat} : (w.alloc (.deferred x)).cell? ⟨w.heap.size, i, none⟩ = none := by
  simp only [World.cell?, World.alloc_heap_new]
theorem cell_new_loop {w : World} {x : Loop} {i : Nat} : (w.alloc (.loop x)).cell? ⟨w.heap.size, i, none⟩ = none := by
  simp only [World.cell?, World.alloc_heap_new]

/-! ### A call of yield -/

/-- A call of yield, of loop l: it hands back whether it goes on. -/
def AYield (P : Program) (l : Nat) (args : List AV) (H : List AObj) (post : Bool → List AObj → Prop) : Prop :=
  ∀ (d : Nat) (G : Gh) (w : World) (vs : Array Value), vs.size = args.length → (∀ (i : Nat) (y : AV) (u : Value), args[i]? = some y → vs[i]? = some u → Rep G w none y u) → HeapRel G H w → TagOK G w →
    ∃ (f : FuncId) (tmps : Array Value) (as bd : Code), (Instr.yield (G.blk l) vs).run P w = .ok (.round (G.blk l) f tmps as bd) w ∧
      RoundIn Fence.wide 0 P (G.blk l) f tmps as bd w (fun e w' => ∃ (b : Bool) (G' : Gh) (H' : List AObj), e = .returned (.bool b) ∧ HeapRel G' H' w' ∧ TagOK G' w' ∧ Keep (d + 1) G w G' w' ∧ H'.length = H.length ∧ post b H')

theorem AYield.mono {l : Nat} {args : List AV} {H : List AObj} {post post' : Bool → List AObj → Prop} (h : AYield P l args H post) (hp : ∀ b H', post b H' → post' b H') : AYield P l args H post' :=
  fun d G w vs h1 h2 h3 h4 => let ⟨f, tmps, as, bd, e, hr⟩ := h d G w vs h1 h2 h3 h4
    ⟨f, tmps, as, bd, e, hr.mono fun e w' ⟨b, G', H', a, b', c, k, n, p⟩ => ⟨b, G', H', a, b', c, k, n, hp _ _ p⟩⟩

/-- The frame of a round: the loop's, with what was yielded. -/
def setP : List (Nat × AV) → (Nat → AV) → Nat → AV
  | [], f => f
  | x :: r, f => setP r (setF x.1 x.2 f)

/-- How a round may end. -/
def roundK (l : Nat) (fr : Nat → AV) (sz : Nat) (ps : Array Tmp) (as bd : Code) (df : Nat) (post : Bool → List AObj → Prop) : Exit → St → Prop := fun e s =>
  (∃ x pd, s.up[l]? = some (.loop x pd fr sz ps as bd df)) ∧
  match e with
  | .normal => post true (s.up.set l (.loop .ready none fr sz ps as bd df))
  | .ret => post false (s.up.set l (.loop .done (some .ret) fr sz ps as bd df))
  | .exit i => post false (s.up.set l (.loop .done (some (.exit i)) fr sz ps as bd df))
  | .goto i => post false (s.up.set l (.loop .done (some (.goto i)) fr sz ps as bd df))
  | _ => False

theorem setP_rep {G : Gh} {w : World} {l : Nat → Option Loc} : ∀ (ys : List (Nat × AV)) (us : List (Nat × Value)) (f : Nat → AV) (t : Array Value), ys.length = us.length → (∀ (i : Nat) (p : Nat) (y : AV) (q : Nat) (u : Value), ys[i]? = some (p, y) → us[i]? = some (q, u) → p = q ∧ p < t.size ∧ Rep G w none y u) →
    (∀ s, Rep G w (l s) (f s) (t.getD s undef)) → ∀ s, Rep G w (l s) (setP ys f s) ((us.foldl (fun t x => t.setIfInBounds x.1 x.2) t).getD s undef)
  | [], [], f, t, _, _, h => h
  | [], _ :: _, _, _, hn, _, _ => by simp at hn
  | _ :: _, [], _, _, hn, _, _ => by simp at hn
  | (p, y) :: ys, (q, u) :: us, f, t, hn, hyu, h => by
    obtain ⟨rfl, hp, hr⟩ := hyu 0 p y q u rfl rfl
    refine setP_rep ys us _ _ (by simpa using hn) (fun i p' y' q' u' h1 h2 => ?_) (fun s => ?_)
    · have := hyu (i + 1) p' y' q' u' (by simpa using h1) (by simpa using h2)
      simpa using this
    · show Rep G w (l s) (setF p y f s) ((t.setIfInBounds p u).getD s undef)
      rw [getD_setIfInBounds _ _ _ _ hp]
      unfold setF
      by_cases hs : s = p
      · subst hs; simpa using hr.lift
      · simpa [hs] using h s

theorem foldl_set_size : ∀ (us : List (Nat × Value)) (t : Array Value), (us.foldl (fun t x => t.setIfInBounds x.1 x.2) t).size = t.size
  | [], _ => rfl
  | _ :: us, t => by rw [List.foldl_cons, foldl_set_size us]; simp

/-- **A round, from the assignments and the body.** -/
theorem AYield.ofRound {l sz df : Nat} {args : List AV} {H : List AObj} {post : Bool → List AObj → Prop} {pd : Option Code} {fr : Nat → AV} {ps : Array Tmp} {asg bd : Code} (hl : H[l]? = some (.loop .ready pd fr sz ps asg bd df)) (hn : args.length = ps.size)
    (hps : ∀ p ∈ ps, p < sz)
    (h : ∀ d, AW P (d + 1) asg ⟨sz, setP (ps.toList.zip args) fr, H, [], [], some l⟩ (fun e s => e = .normal ∧ ∃ pd', s.up[l]? = some (.loop .ready pd' fr sz ps asg bd df) ∧
      AW P (d + 1) bd { s with up := s.up.set l (.loop .busy pd' fr sz ps asg bd df) } (roundK l fr sz ps asg bd df post))) : AYield P l args H post := by
  intro d G w vs hvs hrep hH hT
  obtain ⟨r, h1, hs, hp, hpa, has, hbd, hsz, hfr, hdf, hdl, _⟩ := turn_loop hH hT hl
  have hrun := run_yield (P := P) (args := vs) h1 (by rw [hvs, hn, hpa])
  refine ⟨_, _, _, _, hrun, ?_⟩
  have hllt : l < H.length := (List.getElem?_eq_some_iff.1 hl).1
  -- the frame of the round
  have hzip : ((r.params.zip vs).foldl (fun tmps (x : Tmp × Value) => tmps.setIfInBounds x.1 x.2) r.tmps) = ((ps.toList.zip vs.toList).foldl (fun t x => t.setIfInBounds x.1 x.2) r.tmps) := by
    rw [← Array.foldl_toList, Array.toList_zip, hpa]
  have hst : StRel (d + 1) G ⟨sz, setP (ps.toList.zip args) fr, H, [], [], some l⟩ { tmps := ((ps.toList.zip vs.toList).foldl (fun t x => t.setIfInBounds x.1 x.2) r.tmps), defers := [] } w := by
    refine ⟨?_, fun s => ?_, by simpa using hH, rfl, (fun o ho => by simp at ho), List.nodup_nil, (fun o ho => by simp at ho), hT, (fun l' hl' => by injection hl' with hl'; subst hl'; exact hllt), objs_low hH⟩
    · exact (foldl_set_size _ _).trans hsz
    · refine setP_rep (l := fun s => some (.slot (d + 1) s)) _ _ _ _ ?_ (fun i p y q u h2 h3 => ?_) (fun s => (hfr s).lift) s
      · have e1 : vs.toList.length = vs.size := rfl
        have e2 : ps.toList.length = ps.size := rfl
        simp only [List.length_zip]; omega
      · rw [List.getElem?_zip_eq_some] at h2 h3
        obtain ⟨a1, a2⟩ := h2
        obtain ⟨b1, b2⟩ := h3
        rw [a1] at b1
        injection b1 with b1
        refine ⟨b1, ?_, hrep i y u a2 (by simpa using b2)⟩
        rw [hsz]
        exact hps p (by simpa using List.mem_of_getElem? a1)
  have hw := h d G _ w hst
  rw [has, hbd]
  have hFr : (Fence.wide.inRound (G.blk l)) = Fr ((some l).map G.blk) := rfl
  refine roundIn_of_wpIn trivial ?_
  rw [hFr]
  have hzip' : ((r.params.zip vs).foldl (fun tmps (x : Tmp × Value) => match x with | (t, a) => tmps.setIfInBounds t a) r.tmps) = ((ps.toList.zip vs.toList).foldl (fun t x => t.setIfInBounds x.1 x.2) r.tmps) := by
    rw [← hzip]
  rw [hzip']
  refine wpIn_mono hw ?_
  rintro e a1 w1 ⟨G1, s1, hr1, k1, e1, e2, e3, rfl, pd', hl1, hbody⟩
  obtain ⟨r1, g1, gs, gp, gpa, gas, gbd, gsz, gfr, gdf, gdl, gturn⟩ := turn_loop hr1.heap hr1.tags (get_up hl1)
  have hblk : G1.blk l = G.blk l := k1.blk l (by rw [hH.n]; exact hllt)
  have e0 : ({ r1 with state := LoopState.busy } : Loop) = { r1 with state := .busy, pending := pd' } := by rw [← gp]
  have hbr := run_beginRound (P := P) g1 gs
  rw [e0] at hbr
  refine ⟨_, by rw [← hblk]; exact hbr, ?_⟩
  obtain ⟨T, hH2, hT2⟩ := gturn .busy pd'
  have hl1lt : l < s1.up.length := (List.getElem?_eq_some_iff.1 hl1).1
  have hst2 : StRel (d + 1) G1 { s1 with up := s1.up.set l (.loop .busy pd' fr sz ps asg bd df) } a1 (w1.putObj (G1.blk l) (.loop { r1 with state := .busy, pending := pd' })) := by
    rw [set_append_up hl1lt] at hH2
    refine hr1.turn (O := s1.own) T hH2 (by simp) (fun o ho => ?_) hT2 ?_
    · have := hr1.defsAt o ho
      have hge := hr1.defsGe o ho
      rw [List.getElem?_append_right (by simpa using hge)]
      rw [List.getElem?_append_right hge] at this
      simpa using this
    · simp only [List.length_set]
      refine objLow_set hr1.low ?_
      have := hr1.low _ (List.mem_of_getElem? hl1)
      exact this
  have hb := hbody G1 a1 _ hst2
  have hF : Fr (({ s1 with up := s1.up.set l (.loop .busy pd' fr sz ps asg bd df) } : St).rnd.map G1.blk) = Fr ((some l).map G.blk) := by
    show Fr (s1.rnd.map G1.blk) = _
    rw [e2]
    simp only [Option.map_some]
    rw [k1.blk l (by rw [hH.n]; exact hllt)]
  rw [hF] at hb
  refine wpIn_mono hb ?_
  rintro e a3 w3 ⟨G3, s3, hr3, k3, f1, f2, f3, ⟨x, pd3, hl3⟩, hpost⟩
  obtain ⟨r3, q1, qs, qp, qpa, qas, qbd, qsz, qfr, qdf, qdl, qturn⟩ := turn_loop hr3.heap hr3.tags (get_up hl3)
  have hGn : G.n = H.length := hH.n
  have hup3 : s3.up.length = H.length := by rw [f1]; simpa using e1
  have hl3lt : l < s3.up.length := (List.getElem?_eq_some_iff.1 hl3).1
  have kT : Keep (d + 1) G w G3 w3 := by
    exact (k1.trans (T.keep (d + 1))).trans k3
  have hblk3 : G3.blk l = G.blk l := kT.blk l (by rw [hH.n]; exact hllt)
  rw [hblk3] at q1
  have fin : ∀ (jump : Option Code) (b : Bool), b = jump.isNone → post b (s3.up.set l (.loop (if jump.isNone then .ready else .done) jump fr sz ps asg bd df)) →
      ∃ v w', (Instr.endRound (G.blk l) jump).run P w3 = .ok v w' ∧ ∃ (b : Bool) (G' : Gh) (H' : List AObj), (Ending.returned v = .returned (.bool b)) ∧ HeapRel G' H' w' ∧ TagOK G' w' ∧ Keep (d + 1) G w G' w' ∧ H'.length = H.length ∧ post b H' := by
    intro jump b hbj hp
    obtain ⟨T4, hH4, hT4⟩ := qturn (if jump.isNone then .ready else .done) jump
    rw [hblk3] at T4 hH4 hT4
    refine ⟨_, _, run_endRound jump q1, b, { G3 with n := s3.up.length }, _, by rw [hbj], ?_, ⟨hT4.ex, hT4.obj, hT4.tail, hT4.globCut (by rw [hr3.heap.n, List.length_append]; omega)⟩, ?_, by simp [hup3], hp⟩
    · rw [set_append_up hl3lt] at hH4
      have hlow4 : ∀ x ∈ s3.up.set l (.loop (if jump.isNone then .ready else .done) jump fr sz ps asg bd df), ObjLow s3.up.length x := by
        refine objLow_set hr3.low ?_
        have := hr3.low _ (List.mem_of_getElem? hl3)
        exact this
      have hn4 := hH4.n
      simp only [List.length_append, List.length_set] at hn4
      refine ⟨fun i x hx => ?_, by simp, fun i j hi hj e => hH4.inj i j (by simp only at hi; omega) (by simp only at hj; omega) e⟩
      have hlow := hlow4 x (List.mem_of_getElem? hx)
      have hob := hH4.obj i x (get_up hx)
      cases x with
      | cells t cs =>
        obtain ⟨vs, h1, h2, h3, h4⟩ := hob
        exact ⟨vs, h1, h2, fun j y u p q => (h3 j y u p q).cut (hlow y (List.mem_of_getElem? p)), h4⟩
      | loop sta pd fr sz ps asg bd df =>
        obtain ⟨fn, tmps, h1, h2, h3, h4⟩ := hob
        exact ⟨fn, tmps, h1, h2, fun s => (h3 s).cut (hlow.1 s), hlow.2⟩
      | defs => exact hob
      | dead => exact hob
    · have kk := kT.trans (T4.keep (d + 1))
      exact ⟨kk.fix, kk.slot, by rw [hGn, ← hup3]; exact Nat.le_refl _, kk.blk, kk.os, kk.tape, kk.output, kk.size, kk.old.cut (by rw [hr3.heap.n, List.length_append]; omega)⟩
  cases e with
  | normal => exact fin none true rfl hpost
  | ret => exact fin (some .ret) false rfl hpost
  | exit i => exact fin (some (.exit i)) false rfl hpost
  | goto i => exact fin (some (.goto i)) false rfl hpost
  | panic c => exact hpost.elim
  | outgrown => exact hpost.elim
end
end Go.SX
namespace Go.SX
variable [GI : GlobInv]
open Classical
section
variable {P : Program} {d : Nat}
variable {st : St} {dst : Option Tmp} {ty : TypeId} {pos : String} {aft : Array Edge} {gd : Option (Nat × Bool)} {ats : Array TypeId}

/-- A round is asked for by an operation. -/
theorem wpIn_round {o : Oper} {a : Act} {w : World} {K : Act → World → Prop} {Q : Exit → Act → World → Prop} {r : Option Nat} {l : Nat} {f : FuncId} {tmps : Array Value} {as bd : Code} (hd : ∀ c, o.op ≠ .defer c)
    (h : (execOp a.eval o).run P w = .ok (.round l f tmps as bd) w) {R : Ending → World → Prop} (hc : RoundIn Fence.wide 0 P l f tmps as bd w R) (hk : ∀ e w', R e w' → ∃ v, e = .returned v ∧ K (a.put o.dst v) w') : o.wpIn (Fr r) 0 P a w K Q := by
  refine ⟨fun _ _ => trivial, ?_⟩
  rw [Oper.semAt_eq _ _ _ hd, h]
  refine ⟨fun h => by simp [Fence.wide] at h, ?_⟩
  have hc' : RoundIn (Fr r) 0 P l f tmps as bd w R := hc
  refine hc'.mono fun e w' hR => ?_
  obtain ⟨v, rfl, hk'⟩ := hk e w' hR
  exact hk'

theorem run_callYield {f : Operand} {xs : List Operand} {l : Nat} {a : Act} {w : World} (hf : a.eval f = .func (.yield l) #[] #[]) :
    (execOp a.eval (⟨dst, .call ⟨.value f, xs.toArray, ats⟩, ty, pos, aft, gd⟩ : Oper)).run P w = (Instr.yield l (xs.map a.eval).toArray).run P w := by
  simp [execOp, resolve, hf, Deferred.ofValue, invoke]

theorem AOp.yield {f : Operand} {xs : List Operand} {l : Nat} {args : List AV} {post : Bool → List AObj → Prop} {s : Nat} {Q : St → Prop}
    (hf : st.ev f = .yield l) (hargs : xs.map st.ev = args) (h : AYield P l args (st.up ++ st.own) post) (hs : s < st.sz)
    (hpost : ∀ b H', H'.length = (st.up ++ st.own).length → post b H' → ∃ U O, H' = U ++ O ∧ U.length = st.up.length ∧ ((∀ x ∈ st.up, ObjLow U.length x) → ∀ x ∈ U, ObjLow U.length x) ∧ ((∀ o ∈ st.defs, (st.up ++ st.own)[o]? = some .defs) → ∀ o ∈ st.defs, (U ++ O)[o]? = some .defs) ∧ Q (({ st with up := U, own := O } : St).set s (.v (.bool b)))) :
    AOp P d ⟨some s, .call ⟨.value f, xs.toArray, ats⟩, ty, pos, aft, gd⟩ st Q := by
  intro G a w hr Q'
  have hfr := hf ▸ hr.eval f
  generalize hfv : a.eval f = fv at hfr
  cases hfr with
  | yield _ _ ho =>
    have hxr := evs_rep hr xs
    subst hargs
    obtain ⟨f', tmps, as, bd, hrun, hround⟩ := h d G w (xs.map a.eval).toArray (by simp) hxr hr.heap hr.tags
    refine wpIn_round (by intro c h; cases h) ((run_callYield hfv).trans hrun) hround ?_
    rintro e w' ⟨b, G', H', rfl, hH, hT, hk, hlen, hp⟩
    obtain ⟨U, O, hUO, hU, hlow, hdf, hQ⟩ := hpost b H' hlen hp
    have h3 := hr.called hH hT hk hUO hU (hdf hr.defsAt) (hlow (by rw [hU]; exact hr.low))
    obtain ⟨h4, k4⟩ := h3.took (.v (some (.ret d)) (.bool b)) (s := s) hs
    exact ⟨.bool b, rfl, _, _, h4, (hk.less (Nat.le_succ d)).trans k4, hU, rfl, rfl, hQ⟩

/-- What is asked when the function that is ranged over has returned. -/
def rangeK (P : Program) (d : Nat) (st : St) (dfs : List Nat) (l df : Nat) (ps : Array Tmp) (as bd : Code) (K : Exit → St → Prop) : AV → List AObj → Prop := fun _ H' =>
  ∃ U O x pd, H' = U ++ O ∧ U.length = st.up.length ∧ ((∀ x ∈ st.up, ObjLow U.length x) → ∀ x ∈ U, ObjLow U.length x) ∧ (∀ o ∈ dfs, (U ++ O)[o]? = some .defs) ∧
    O[l]? = some (.loop x pd (fun s => (st.fr s).strip) st.sz ps as bd df) ∧ x ≠ .busy ∧
    match pd with
    | none => K .normal { st with up := U, own := O.set l (.loop .exhausted none (fun s => (st.fr s).strip) st.sz ps as bd df), defs := dfs }
    | some c => AW P d c { st with up := U, own := O.set l (.loop .exhausted (some c) (fun s => (st.fr s).strip) st.sz ps as bd df), defs := dfs } K

/-- Behind the function that was ranged over. -/
theorem range_post {G2 G : Gh} {w2 w3 : World} {a2 : Act} {st2 : St} {dfs : List Nat} {l df n : Nat} {ps : Array Tmp} {as bd : Code} {K : Exit → St → Prop} {w : World} {a : Act} {st : St} {v : Value}
    (hr : StRel d G st a w) (h2 : StRel d G2 st2 a2 w2) (k2 : Keep d G w G2 w2) (hst2 : st2.up = st.up ∧ st2.rnd = st.rnd ∧ st2.sz = st.sz ∧ st2.fr = st.fr ∧ st2.defs = dfs) (hn : n = st.up.length)
    (hlow : n + l < (st2.up ++ st2.own).length)
    (hp : ∃ (v' : Value) (G' : Gh) (r : AV) (H' : List AObj), Ending.returned v = .returned v' ∧ Rep G' w3 (some (.ret d)) r v' ∧ HeapRel G' H' w3 ∧ TagOK G' w3 ∧ Keep (d + 1) G2 w2 G' w3 ∧ H'.length = (st2.up ++ st2.own).length ∧ rangeK P d st dfs l df ps as bd K r H') :
    rangePost (Fr (st.rnd.map G.blk)) 0 P (G2.blk (n + l)) (fun e => Post d st G w (K e)) a2 (.returned v) w3 := by
  obtain ⟨v', G', r, H', _, hrep, hH, hT, hk, hlen, U, O, x, pd, rfl, hU, hulow, hdf, hl, hbusy, hK⟩ := hp
  obtain ⟨s1, s2, s3, s4, s5⟩ := hst2
  subst hn
  have h3 := h2.called hH hT hk rfl (by rw [s1]; exact hU) (by rw [s5]; exact hdf) (hulow (by rw [hU]; exact hr.low))
  have hl' : (U ++ O)[st.up.length + l]? = some (.loop x pd (fun s => (st.fr s).strip) st.sz ps as bd df) := by rw [← hU, get_own]; exact hl
  obtain ⟨r1, g1, gs, gp, gpa, gas, gbd, gsz, gfr, gdf, gdl, gturn⟩ := turn_loop hH hT hl'
  have hblk : G'.blk (st.up.length + l) = G2.blk (st.up.length + l) := hk.blk _ (by rw [h2.heap.n]; exact hlow)
  have hend := run_endLoop (P := P) g1 (by rw [gs]; exact hbusy)
  obtain ⟨T, hH4, hT4⟩ := gturn .exhausted pd
  have e0 : ({ r1 with state := LoopState.exhausted } : Loop) = { r1 with state := .exhausted, pending := pd } := by rw [← gp]
  rw [e0] at hend
  have h4 : StRel d G' { st with up := U, own := O.set l (.loop .exhausted pd (fun s => (st.fr s).strip) st.sz ps as bd df), defs := dfs } a2 (w3.putObj (G'.blk (st.up.length + l)) (.loop { r1 with state := .exhausted, pending := pd })) := by
    rw [← hU, set_append_own] at hH4
    rw [hU] at hH4
    have h5 := h3.turn (U := U) (O := O.set l (.loop .exhausted pd (fun s => (st.fr s).strip) st.sz ps as bd df)) T hH4 rfl (fun o ho => ?_) hT4 h3.low
    · obtain ⟨q1, q2, q3, q4, q5, q6⟩ := st2
      simp only at s1 s2 s3 s4 s5
      subst s1 s2 s3 s4 s5
      exact h5
    · show (U ++ O.set l _)[o]? = _
      rw [s5] at ho
      have hdo := hdf o ho
      by_cases hol : o = st.up.length + l
      · subst hol
        rw [hl'] at hdo; cases hdo
      · rw [← set_append_own, List.getElem?_set_ne (by rw [hU]; exact fun e => hol e.symm)]
        exact hdo
  have kk : Keep d G w G' (w3.putObj (G'.blk (st.up.length + l)) (.loop { r1 with state := .exhausted, pending := pd })) := (k2.trans (hk.less (Nat.le_succ d))).trans (T.keep d)
  refine ⟨r1.pending, _, by rw [← hblk]; exact hend, ?_⟩
  rw [gp]
  cases pd with
  | none => exact ⟨G', _, h4, kk, hU, rfl, rfl, hK⟩
  | some c =>
    have := hK G' a2 _ h4
    have hF : Fr (({ st with up := U, own := O.set l (.loop .exhausted (some c) (fun s => (st.fr s).strip) st.sz ps as bd df), defs := dfs } : St).rnd.map G'.blk) = Fr (st.rnd.map G.blk) := fr_keep (st' := { st with up := U, own := O.set l (.loop .exhausted (some c) (fun s => (st.fr s).strip) st.sz ps as bd df), defs := dfs }) hr kk rfl
    rw [hF] at this
    exact wpIn_mono this fun e _ _ hp => hp.next kk hU rfl rfl

theorem args_rep {G : Gh} {w : World} {first caps : List AV} {y : AV} {u : Value} {va vc : Array Value} (hna : va.size = first.length) (hnc : vc.size = caps.length) (h1 : ∀ (i : Nat) (y : AV) (u : Value), first[i]? = some y → va[i]? = some u → Rep G w none y u)
    (h2 : ∀ (i : Nat) (y : AV) (u : Value), caps[i]? = some y → vc[i]? = some u → Rep G w none y u) (hy : Rep G w none y u) :
    ∀ (i : Nat) (z : AV) (x : Value), (first ++ [y] ++ caps)[i]? = some z → (va ++ #[u] ++ vc)[i]? = some x → Rep G w none z x := by
  intro i z x hz hx
  rw [List.append_assoc] at hz
  rw [Array.append_assoc] at hx
  rcases Nat.lt_or_ge i first.length with hi | hi
  · rw [List.getElem?_append_left hi] at hz
    rw [Array.getElem?_append_left (by omega)] at hx
    exact h1 i z x hz hx
  · rw [List.getElem?_append_right hi] at hz
    rw [Array.getElem?_append_right (by omega), hna] at hx
    rcases Nat.lt_or_ge (i - first.length) 1 with hj | hj
    · have e : i - first.length = 0 := by omega
      rw [e] at hz hx
      rw [Array.getElem?_append_left (by simp)] at hx
      simp at hz hx
      subst hz; subst hx
      exact hy
    · rw [List.getElem?_append_right (by simpa using hj)] at hz
      rw [Array.getElem?_append_right (by simpa using hj)] at hx
      simp only [List.length_cons, List.length_nil, List.size_toArray] at hz hx
      exact h2 _ z x hz hx

/-- **Ranging over a function, outside of any round.** -/
theorem AW.rangeFunc {g : Operand} {ps : Array Tmp} {as bd : Code} {gf : FuncId} {first caps : List AV} {n m : Nat} {K : Exit → St → Prop} (hcall : ∀ args w, (callFunc gf args).run P w = .ok (.enter gf args) w) (hg : st.ev g = .fn (.func gf) first caps) (hrnd : st.rnd = none)
    (hn : n = st.up.length) (hm : m = st.own.length)
    (h : ACall P gf (first ++ [.yield (n + (m + 1))] ++ caps) (st.up ++ (st.own ++ [.defs, .loop .ready none (fun s => (st.fr s).strip) st.sz ps as bd (n + m)])) (rangeK P d st ((n + m) :: st.defs) (m + 1) (n + m) ps as bd K)) :
    AW P d (.rangeFunc g ps as bd) st K := by
  intro G a w hr
  refine wpIn_rangeFunc ?_
  intro fn _
  subst hn hm
  have hfr := hg ▸ hr.eval g
  generalize hfv : a.eval g = fv at hfr
  obtain ⟨G1, h1, T1, hb1, hold1⟩ := hr.grow (o := .deferred (some [])) (x := .defs) (fun i => cell_new_deferred) (fun G' T hn hb ho => by
    show _ = _
    rw [hb]; exact World.alloc_heap_new _ _)
  have hgn := hr.heap.n
  have hG1n : G1.n = G.n + 1 := by have := h1.heap.n; simp at this hgn; omega
  obtain ⟨G2, h2, T2, hb2, hold2⟩ := h1.grow (o := .loop { state := .ready, pending := none, fn := fn, tmps := a.tmps, params := ps, assign := as, body := bd, defers := w.heap.size })
    (x := .loop .ready none (fun s => (st.fr s).strip) st.sz ps as bd (st.up.length + st.own.length)) (fun i => cell_new_loop) (fun G' T hn hb ho => by
      refine ⟨fn, a.tmps, ?_, hr.size, fun s => T.rep (T1.rep (hr.slots s).strip), by rw [hn, hG1n, hgn, List.length_append]; omega⟩
      rw [hb]
      have : G'.blk (st.up.length + st.own.length) = w.heap.size := by
        rw [ho _ (by rw [hG1n, hgn, List.length_append]; omega), ← List.length_append, hb1]
      rw [this]
      exact World.alloc_heap_new _ _)
  obtain ⟨W2, hW2⟩ : ∃ W2, W2 = (w.alloc (.deferred (some []))).alloc (.loop { state := .ready, pending := none, fn := fn, tmps := a.tmps, params := ps, assign := as, body := bd, defers := w.heap.size }) := ⟨_, rfl⟩
  rw [← hW2] at h2 T2
  have hl1 : (w.alloc (.deferred (some []))).heap.size = w.heap.size + 1 := by simp
  rw [hl1] at hb2
  have hlx : (st.up ++ (st.own ++ [AObj.defs])).length = st.up.length + (st.own.length + 1) := by simp
  rw [hlx] at hb2
  have hd2 : G2.blk (st.up.length + st.own.length) = w.heap.size := by
    rw [hold2 _ (by rw [hG1n, hgn, List.length_append]; omega), ← List.length_append, hb1]
  have e0 : st.own ++ [AObj.defs, .loop .ready none (fun s => (st.fr s).strip) st.sz ps as bd (st.up.length + st.own.length)] = (st.own ++ [AObj.defs]) ++ [.loop .ready none (fun s => (st.fr s).strip) st.sz ps as bd (st.up.length + st.own.length)] := by simp
  rw [e0] at h
  have hro : (Fr (st.rnd.map G.blk)).round = none := by rw [hrnd]; rfl
  rw [hro]
  have k2 : Keep d G w G2 W2 := (T1.keep d).trans (T2.keep d)
  -- the state behind the entry
  have h3 : StRel d G2 { st with own := (st.own ++ [AObj.defs]) ++ [.loop .ready none (fun s => (st.fr s).strip) st.sz ps as bd (st.up.length + st.own.length)], defs := (st.up.length + st.own.length) :: st.defs } { a with defers := [{ target := .collected w.heap.size, args := #[] }] ++ a.defers } W2 := by
    refine ⟨h2.size, h2.slots, h2.heap, ?_, fun o ho => ?_, ?_, fun o ho => ?_, h2.tags, h2.rnd, h2.low⟩
    · have := h2.defs
      simp only at this
      simp only [List.map_cons, List.cons_append, List.nil_append, hd2, this]
    · rcases List.mem_cons.1 ho with rfl | ho
      · show (st.up ++ ((st.own ++ [AObj.defs]) ++ _))[_]? = _
        rw [get_own]
        simp
      · exact h2.defsAt o ho
    · refine List.nodup_cons.2 ⟨fun hm => ?_, h2.defsNodup⟩
      have := hr.defsAt _ hm
      have := (List.getElem?_eq_some_iff.1 this).1
      simp at this
    · rcases List.mem_cons.1 ho with rfl | ho
      · exact Nat.le_add_right _ _
      · exact h2.defsGe o ho
  cases hfr with
  | fn _ _ _ _ va vc hna hnc g1 g2 =>
    refine ⟨w.heap.size + 1, [{ target := .collected w.heap.size, args := #[] }], W2, { target := .fn (.func gf) vc, args := va ++ #[.func (.yield (w.heap.size + 1)) #[] #[]] }, W2, gf, va ++ #[.func (.yield (w.heap.size + 1)) #[] #[]] ++ vc, W2,
      by rw [hW2]; exact run_enterLoop_outer _ _ _ _ _, ?_, fun _ _ => trivial, ?_, fun h => by simp [Fence.wide] at h, ?_⟩
    · simp only [resolve, hfv]
      simp [go_sem, Deferred.ofValue]
    · simp only [invoke]
      exact hcall _ _
    · have hc := h d G2 W2 (va ++ #[.func (.yield (w.heap.size + 1)) #[] #[]] ++ vc) (by simp only [Array.size_append, List.length_append, hna, hnc, List.length_cons, List.length_nil, List.size_toArray]) (fun i y u p q => (args_rep hna hnc (fun i y u p q => T2.rep (T1.rep (g1 i y u p q))) (fun i y u p q => T2.rep (T1.rep (g2 i y u p q)))
        (by rw [← hb2]; exact .yield none _ (by rw [h2.heap.n]; simp only [List.length_append, List.length_cons, List.length_nil]; omega)) i y u p q).lift) h2.heap h2.tags
      have hc' : CallsIn (Fr (st.rnd.map G.blk)) 0 P gf _ _ _ := hc
      refine hc'.mono fun e w' he => ?_
      have hb2' := hb2
      rw [← hb2']
      cases e with
      | returned v => exact range_post hr h3 k2 ⟨rfl, rfl, rfl, rfl, rfl⟩ rfl (by simp only [List.length_append, List.length_cons, List.length_nil]; omega) he
      | panicked c => obtain ⟨v, G', r, H', h, _⟩ := he; cases h
      | outgrown => obtain ⟨v, G', r, H', h, _⟩ := he; cases h
end
end Go.SX
namespace Go.SX
variable [GI : GlobInv]
open Classical
section
variable {P : Program} {d : Nat} {dst : Option Tmp} {ty : TypeId} {pos : String} {aft : Array Edge} {gd : Option (Nat × Bool)} {st : St}

theorem OpV.shr {t u : TypeId} {x y : Operand} {k k' : IntKind} {m : Int} {n : Nat} (hx : st.ev x = .v (.int k m)) (hy : st.ev y = .v (.int k' n)) (hn : n ≤ k.bits) : OpV P d ⟨dst, .binOp .shr t x y u, ty, pos, aft, gd⟩ st (.v (.int k (m.fdiv (2 ^ n)))) :=
  OpV.pure (by intro c h; cases h) fun _ a w h => ⟨_, by
    have h0 : ¬ ((n : Int) < 0) := by omega
    have h1 : min ((n : Int).toNat) k.bits = n := by simp; omega
    simp only [execOp, ev_v h hx, ev_v h hy, eqGuard, binOp, Op.shift, if_neg h0, h1]
    simp, .v _ _⟩

theorem rep_vs {G : Gh} {w : World} {l : Option Loc} {xs : List Value} {u : Value} (h : Rep G w l (.agg (xs.map .v)) u) : u = .agg xs.toArray := by
  cases h with
  | agg _ cs vs hn h1 h =>
    congr 1
    apply Array.ext
    · simpa using hn
    · intro i h2 h3
      have hi : i < xs.length := by simpa using h3
      have := h i (.v xs[i]) vs[i] (by simp [hi]) (Array.getElem?_eq_getElem h2)
      have := rep_v this
      simpa using this

theorem OpV.eqlAgg {t u : TypeId} {x y : Operand} {xs ys : List Value} {b : Bool} (hg : P.eqGuardType P.depth t = false) (hx : st.ev x = .agg (xs.map .v)) (hy : st.ev y = .agg (ys.map .v)) (he : ∀ w, (Op.equal t (.agg xs.toArray) (.agg ys.toArray)).run P w = .ok b w) :
    OpV P d ⟨dst, .binOp .eql t x y u, ty, pos, aft, gd⟩ st (.v (.bool b)) :=
  OpV.pure (by intro c h; cases h) fun _ a w h => ⟨.bool b, by
    have e1 : a.eval x = _ := rep_vs (hx ▸ h.eval x)
    have e2 : a.eval y = _ := rep_vs (hy ▸ h.eval y)
    simp [execOp, e1, e2, eqGuard, hg, binOp, he], .v _ _⟩
theorem OpV.neqAgg {t u : TypeId} {x y : Operand} {xs ys : List Value} {b : Bool} (hg : P.eqGuardType P.depth t = false) (hx : st.ev x = .agg (xs.map .v)) (hy : st.ev y = .agg (ys.map .v)) (he : ∀ w, (Op.equal t (.agg xs.toArray) (.agg ys.toArray)).run P w = .ok b w) :
    OpV P d ⟨dst, .binOp .neq t x y u, ty, pos, aft, gd⟩ st (.v (.bool (!b))) :=
  OpV.pure (by intro c h; cases h) fun _ a w h => ⟨.bool (!b), by
    have e1 : a.eval x = _ := rep_vs (hx ▸ h.eval x)
    have e2 : a.eval y = _ := rep_vs (hy ▸ h.eval y)
    simp [execOp, e1, e2, eqGuard, hg, binOp, he], .v _ _⟩
theorem eqInt (d : Nat) (t : TypeId) (k : IntKind) (a b : Int) (w : World) (h : P.underlying t = some (.int k)) : (Op.equalIn (d + 1) t (.int k a) (.int k b)).run P w = .ok (a == b) w := by
  simp [Op.equalIn, run_underlying h]
theorem eqStr (d : Nat) (t : TypeId) (a b : List UInt8) (w : World) (h : P.underlying t = some .string) : (Op.equalIn (d + 1) t (.string ⟨a.toArray⟩) (.string ⟨b.toArray⟩)).run P w = .ok (a == b) w := by
  simp [run_equalIn_string _ _ _ _ _ h]
theorem OpV.buildArr {t e : TypeId} {n k : Nat} {parts : List (Nat × Operand)} {z : Value} {zs cs : List AV} (hu : P.underlying t = some (.array n e)) (hsz : ∀ w, (sizeOf e).run P w = .ok k w)
    (hz : ∀ w, (zeroValue t).run P w = .ok z w) (hzs : zs = z.cells.toList.map constAV) (hone : zs.all AV.one = true)
    (hf : fillAV (fun i => some (i * k, k)) zs (parts.map fun p => (p.1, st.ev p.2)) = some cs) : OpV P d ⟨dst, .build t parts.toArray, ty, pos, aft, gd⟩ st (.agg cs) :=
  OpV.pure (by intro c h; cases h) fun G a w h => by
    obtain ⟨z1, z2⟩ := zero_rep (G := G) (w := w) hzs
    obtain ⟨vs', f1, f2, f3, f4⟩ := fill_sound (G := G) (w := w) (fun i => some (i * k, k)) (parts.map fun p => (p.1, st.ev p.2)) (parts.map fun p => (p.1, a.eval p.2)) zs cs z.cells (by simp) (fun j p q hp hq => by
        simp only [List.getElem?_map] at hp hq
        rw [Option.map_eq_some_iff] at hp hq
        obtain ⟨p', hp', rfl⟩ := hp
        obtain ⟨q', hq', rfl⟩ := hq
        rw [hp'] at hq'
        injection hq' with hq'
        subst hq'
        exact ⟨rfl, h.eval _⟩) hf z1 z2 (fun y hy => List.all_eq_true.1 hone y hy)
    refine ⟨.agg vs', ?_, .agg _ _ _ f2 f4 f3⟩
    simp only [execOp, Instr.build, Sem.run_bind, hz, Result.andThen_ok, run_underlying hu, hsz, List.map_toArray]
    simp [f1]

/-- A variable that is boxed and written never again. -/
theorem OpV.boxRo {t : TypeId} {x : Operand} {y : AV} (hx : st.ev x = y) (h1 : y.cells.all AV.one = true) : OpV P d ⟨dst, .box t x, ty, pos, aft, gd⟩ st (.ro y.cells) := by
  intro G a w h Q'
  obtain ⟨hc, hcc⟩ := (hx ▸ h.eval x).cells (fun y hy => List.all_eq_true.1 h1 y hy)
  obtain ⟨G', g1, T, g2⟩ := alloc_fix h t (a.eval x).cells
  have hrun : (execOp a.eval (⟨dst, .box t x, ty, pos, aft, gd⟩ : Oper)).run P w = .ok (.value (.pointer (some ⟨w.heap.size, 0, none⟩))) (w.alloc (.cells (a.eval x).cells t)) := by
    simp [execOp, Instr.box, newVar, newRow]
  refine wpIn_value (by intro c h; cases h) hrun ⟨G', _, rfl, g1, T.keep d, ?_⟩
  refine .ro none _ _ (fun j => (a.eval x).cells.getD j undef) rfl (fun y hy => List.all_eq_true.1 h1 y hy) (fun j y hj => ?_) (fun j y hj => ?_)
  · have hlt : j < (a.eval x).cells.size := by rw [hc]; exact (List.getElem?_eq_some_iff.1 hj).1
    refine ⟨by simpa using g2 j hlt, ?_⟩
    rw [Nat.zero_add, World.cell?_alloc_new]
    simp [hlt]
  · have hlt : j < (a.eval x).cells.size := by rw [hc]; exact (List.getElem?_eq_some_iff.1 hj).1
    refine T.rep (hcc j y _ hj ?_)
    simp [hlt]

/-- An element of an array that is at hand, one cell wide. -/
theorem OpV.indexArr {t e : TypeId} {x i : Operand} {len n : Nat} {q : IntKind} {cs : List AV} {y : AV} (hu : P.underlying t = some (.array len e)) (hsz : ∀ w, (sizeOf e).run P w = .ok 1 w) (hagg : ∀ w, (isAgg e).run P w = .ok false w)
    (hx : st.ev x = .agg cs) (hi : st.ev i = .v (.int q (n : Int))) (hn : n < len) (hy : cs[n]? = some y) : OpV P d ⟨dst, .index t x i, ty, pos, aft, gd⟩ st y :=
  OpV.pure (by intro c h; cases h) fun G a w h => by
    have hr := hx ▸ h.eval x
    have hiv : a.eval i = .int q (n : Int) := ev_v h hi
    generalize hv : a.eval x = u at hr
    cases hr with
    | agg _ _ vs hn' h1 hh =>
      have hlt : n < vs.size := by rw [hn']; exact (List.getElem?_eq_some_iff.1 hy).1
      exact ⟨vs[n], by simp [execOp, Instr.index, hv, hiv, run_underlying hu, asIntOf, hn, hsz, part, hagg, hlt], hh _ y _ hy (Array.getElem?_eq_getElem hlt)⟩
end
end Go.SX
