/- Texts on the way to this: QueryPrints answers true for whatever it is handed: what is printed of a query is parsed as the same, unless brackets nest too deep, any query that is right has the text that the reference says, and any other one has none. (part 3) -/
import Derived.Lib.UnsafeStr
import Derived.Laws.BytesString
import Derived.Test.YtldolkjhlcpidaaGreatDoorQueryPrintsCardSaidPart2
set_option linter.all false
namespace Go.Proofs
open Go.RowKit
/-- Where a builder lies: in a block of type T (itself, or what begins with it). -/
def BldAt (T e : TypeId) (b : Nat) (p v : Value) (n : Nat) (bs : List Value) (w : World) : Prop :=
 w.heap[b]? = some (.cells #[p, v] T (0, 0)) ∧ (p = .pointer none ∨ p = .pointer (some ⟨b, 0, none⟩)) ∧ w.ownsRow 0 e 1 v n bs ∧ v.ownBlock ≠ some b

end Go.Proofs

namespace Go.SX
variable [GI : GlobInv]
open Classical

/-- Two objects' blocks differ. -/
theorem AllObj.ne' {G : Gh} {w : World} {i b o : Nat} {x : AObj} (h : AllObj G w i b) (ho : ObjRel G w o x) (hne : i ≠ o) : b ≠ G.blk o := by
 cases x with
 | cells t cs => exact h.ne ho hne
 | loop st pd fr sz ps asg bd df => obtain ⟨cur, e, h1, _⟩ := h; obtain ⟨fn, tmps, g1, _⟩ := ho; rintro rfl; rw [g1] at h1; cases h1
 | defs => obtain ⟨cur, e, h1, _⟩ := h; rintro rfl; rw [ObjRel, h1] at ho; cases ho
 | dead => obtain ⟨cur, e, h1, _⟩ := h; rintro rfl; rw [ObjRel, h1] at ho; cases ho
 | bld t e' bs =>
  obtain ⟨cur, e, h1, h2, h3⟩ := h
  obtain ⟨p, v, g1, _, g3, _⟩ := ho
  rintro rfl
  have a := h3 0 h2
  rw [g3 0 (by omega)] at a
  injection a with a
  exact hne a.symm
 | gone =>
  obtain ⟨cur, e, h1, h2, h3⟩ := h
  obtain ⟨vs, t, fz, g1, g2⟩ := ho
  rintro rfl
  rw [g1] at h1
  injection h1 with h1
  injection h1 with e1 _ _
  subst e1
  have a := h3 0 h2
  rw [g2 0 h2] at a
  cases a
theorem AllObj.uniq {G : Gh} {w : World} {i o b : Nat} (h : AllObj G w i b) (k : AllObj G w o b) : i = o := by
 obtain ⟨cur, e, h1, h2, h3⟩ := h
 obtain ⟨cur', e', g1, g2, g3⟩ := k
 have a := h3 0 h2
 rw [g3 0 g2] at a
 injection a with a
 exact a.symm

/-- Tags of object o's alone turn: the other objects stand as they stood. -/
theorem ObjRel.free {G G' : Gh} {w : World} {i o : Nat} {x : AObj} (h : ObjRel G w i x) (hne : i ≠ o) (ht : ∀ b q, G.tag b q ≠ .obj o → G'.tag b q = G.tag b q) (hb : G'.blk = G.blk) (hn : G'.n = G.n) : ObjRel G' w i x := by
 have hrep : ∀ {l : Option Loc} {y : AV} {u : Value}, Rep G w l y u → Rep G' w l y u := fun hr =>
  hr.mono (fun b q e => ⟨by rw [ht b q (by rw [e]; simp)]; exact e, rfl⟩) (Nat.le_of_eq hn.symm) (fun q _ => by rw [hb]) (fun L _ b q e => by rw [ht b q (by rw [e]; simp)]; exact e)
 have hobj : ∀ b q, G.tag b q = .obj i → G'.tag b q = .obj i := fun b q e => by
  rw [ht b q (by rw [e]; intro e'; injection e' with e'; exact hne e')]; exact e
 cases x with
 | cells t cs =>
  obtain ⟨vs, h1, h2, h3, h4⟩ := h
  exact ⟨vs, by rw [hb]; exact h1, h2, fun j y u p q => hrep (h3 j y u p q), fun j hj => by rw [hb]; exact hobj _ _ (h4 j hj)⟩
 | loop st pd fr sz ps asg bd df =>
  obtain ⟨fn, tmps, h1, h2, h3, h4⟩ := h
  exact ⟨fn, tmps, by rw [hb]; exact h1, h2, fun s => hrep (h3 s), by rw [hn]; exact h4⟩
 | defs => show w.heap[G'.blk i]? = _; rw [hb]; exact h
 | dead => show w.heap[G'.blk i]? = _; rw [hb]; exact h
 | bld t e bs => exact BldRel.turn h (by rw [hb]) hobj rfl (fun _ _ => rfl)
 | gone =>
  obtain ⟨vs, t, fz, h1, h2⟩ := h
  exact ⟨vs, t, fz, by rw [hb]; exact h1, fun j hj => by rw [hb, ht _ _ (by rw [h2 j hj]; simp)]; exact h2 j hj⟩

section
variable {P : Program} {g : FuncId}
open Go.Proofs

theorem bldAt_of {G : Gh} {w : World} {i : Nat} {t e : TypeId} {bs : List UInt8} (h : BldRel G w i t e bs) : ∃ p v, BldAt t e (G.blk i) p v bs.length (Lib.byteCells bs) w ∧ (∀ j, j < 2 → G.tag (G.blk i) j = .obj i) ∧ (∀ g, v ≠ .slice (some ⟨g, 0, none⟩) 0 0) ∧
  ∀ g n cap, v = .slice (some ⟨g, 0, none⟩) n cap → AllObj G w i g ∧ 0 < cap ∧ ∀ j, j < cap → G.tag g j = .obj i := by
 obtain ⟨p, v, h1, h2, h3, h4⟩ := h
 rcases h4 with ⟨rfl, rfl⟩ | ⟨g, cap, cur, rfl, a2, a3, a4, a5, a6, a7, a8, a9⟩
 ·exact ⟨p, _, ⟨h1, h2, ⟨rfl, .inl ⟨rfl, rfl⟩⟩, by simp [Value.ownBlock]⟩, h3, by simp, by simp⟩
 refine ⟨p, _, ⟨h1, h2, ⟨by simp [Lib.byteCells_length], .inr ⟨g, cap, cur, rfl, Nat.zero_le _, a3, a4, a5, by simpa using a7, by simpa [Lib.byteCells] using a8⟩⟩, by simpa [Value.ownBlock] using a2⟩, h3, ?_, ?_⟩
 ·intro g' e'
  injection e' with _ _ e3
  omega
 intro g' n' cap' e'
 injection e' with e1 _ e3
 injection e1 with e1
 injection e1 with e1
 subst e1; subst e3
 exact ⟨⟨cur, e, a3, by omega, fun o ho => a9 o (by omega)⟩, a6, a9⟩

/-- A text written to a builder. -/
theorem ACall.bldWrite {t e : TypeId} {bs s : List UInt8} {H : List AObj} {o : Nat} (ho : H[o]? = some (.bld t e bs))
  (hw : ∀ (b : Nat) (p v : Value) (w : World), BldAt t e b p v bs.length (Lib.byteCells bs) w → Calls P g #[.pointer (some ⟨b, 0, none⟩), .string ⟨s.toArray⟩] w fun e' w' => e' = .returned (.tuple #[.int .i64 s.length, .nilIface]) ∧ ∃ v',
   BldAt t e b (.pointer (some ⟨b, 0, none⟩)) v' (bs.length + s.length) (Lib.byteCells (bs ++ s)) w' ∧
   (w'.os = w.os ∧ w'.tape = w.tape ∧ w'.output = w.output ∧ w.heap.size ≤ w'.heap.size) ∧ (∀ k, k < w.heap.size → k ≠ b → v'.ownBlock ≠ some k → w'.heap[k]? = w.heap[k]?) ∧
   ((v = .slice none 0 0 ∧ v' = v ∧ s.length = 0) ∨ (∃ g cap, v = .slice (some ⟨g, 0, none⟩) bs.length cap ∧ v' = .slice (some ⟨g, 0, none⟩) (bs.length + s.length) cap) ∨ ∃ cap, v' = .slice (some ⟨w.heap.size, 0, none⟩) (bs.length + s.length) cap ∧ 0 < bs.length + s.length)) :
  ACall P g [.ptr o 0, .v (sv s)] H (fun r H' => r = .tup [.v (.int .i64 s.length), .v .nilIface] ∧ H' = H.set o (.bld t e (bs ++ s))) := by
 intro d G w vs hn hv hH hT
 have hol : o < H.length := (List.getElem?_eq_some_iff.1 ho).1
 have hob : BldRel G w o t e bs := hH.obj o _ ho
 obtain ⟨p, v, hat, htg, hcap, hrow⟩ := bldAt_of hob
 have hvs : vs = #[.pointer (some ⟨G.blk o, 0, none⟩), .string ⟨s.toArray⟩] := by
  have h0 := hv 0 _ (vs[0]'(by simp at hn; omega)) rfl (Array.getElem?_eq_getElem _)
  have h1 := hv 1 _ (vs[1]'(by simp at hn; omega)) rfl (Array.getElem?_eq_getElem _)
  have h1' := rep_v h1
  have h0' : vs[0]'(by simp at hn; omega) = .pointer (some ⟨G.blk o, 0, none⟩) := by
   generalize vs[0]'(by simp at hn; omega) = u at h0
   cases h0 with
   | ptr _ _ _ _ => rfl
  apply Array.ext
  ·simpa using hn
  intro i hi1 hi2
  match i with
  | 0 => exact h0'
  | 1 => exact h1'
  | i + 2 => exact absurd hi2 (by simp)
 subst hvs
 refine (callsIn_wide.2 (hw _ p v w hat)).mono ?_
 rintro e' w' ⟨rfl, v', ⟨k1, _, k3, k4⟩, ⟨x1, x2, x3, x4⟩, hfr, hcase⟩
 obtain ⟨a1, _, a3, a4⟩ := hat
 have hself : AllObj G w o (G.blk o) := ⟨_, t, a1, by simp, fun q hq => htg q (by simpa using hq)⟩
 have hblt : G.blk o < w.heap.size := hself.lt
 -- the row that it has now
 have hnew : ∀ g n cap, v' = .slice (some ⟨g, 0, none⟩) n cap → (AllObj G w o g ∧ (∀ j, j < cap → G.tag g j = .obj o) ∧ 0 < cap) ∨ (g = w.heap.size ∧ 0 < bs.length + s.length) := by
  intro g' n' cap' e1
  rcases hcase with ⟨_, e2, _⟩ | ⟨g, cap, e2, e3⟩ | ⟨cap, e2, h0⟩
  ·left
   rw [e2] at e1
   obtain ⟨q1, q2, q3⟩ := hrow _ _ _ e1
   exact ⟨q1, q3, q2⟩
  ·left
   rw [e3] at e1
   injection e1 with e1 _ e4
   injection e1 with e1
   injection e1 with e1
   subst e1; subst e4
   obtain ⟨q1, q2, q3⟩ := hrow _ _ _ e2
   exact ⟨q1, q3, q2⟩
  right
  rw [e2] at e1
  injection e1 with e1
  injection e1 with e1
  injection e1 with e1
  exact ⟨e1.symm, h0⟩
 have hfree : ∀ q, G.tag w.heap.size q = .free := fun q => tag_free_new hT _ q (Nat.le_refl _)
 obtain ⟨capF, hcapF⟩ : ∃ capF : Nat, ∀ g n cap, v' = .slice (some ⟨g, 0, none⟩) n cap → cap = capF := by
  rcases hcase with ⟨e1, e2, _⟩ | ⟨g, cap, _, e3⟩ | ⟨cap, e2, _⟩
  ·exact ⟨0, fun g n cap e => by rw [e2, e1] at e; cases e⟩
  ·exact ⟨cap, fun g n c e => by rw [e3] at e; injection e with _ _ e; exact e.symm⟩
  exact ⟨cap, fun g n c e => by rw [e2] at e; injection e with _ _ e; exact e.symm⟩
 let G' : Gh := { G with tag := fun b q => if v'.ownBlock = some b ∧ q < capF then .obj o else G.tag b q }
 -- what is nobody's but of that row
 have hkeepTag : ∀ b q, G.tag b q ≠ .free → G'.tag b q = G.tag b q := fun b q hb => by
  simp only [G']
  split
  ·rename_i hc
   obtain ⟨hc1, hc2⟩ := hc
   obtain ⟨g, n, cap, rfl⟩ : ∃ g n cap, v' = .slice (some ⟨g, 0, none⟩) n cap := by
    rcases hcase with ⟨e1, e2, _⟩ | ⟨g, cap, _, e3⟩ | ⟨cap, e2, _⟩
    ·rw [e2, e1] at hc1; cases hc1
    ·exact ⟨_, _, _, e3⟩
    exact ⟨_, _, _, e2⟩
   have hbg : g = b := by simpa [Value.ownBlock] using hc1
   subst hbg
   rcases hnew _ _ _ rfl with ⟨q1, _, _⟩ | ⟨rfl, _⟩
   ·exact (q1.tag hT hb).symm
   exact absurd (hfree q) hb
  rfl
 have hsame : ∀ b, b < w.heap.size → ¬ AllObj G w o b → w'.heap[b]? = w.heap[b]? := fun b hb hno => hfr b hb (fun e => hno (e ▸ hself)) (fun e => by
  obtain ⟨g, n, cap, rfl⟩ : ∃ g n cap, v' = .slice (some ⟨g, 0, none⟩) n cap := by
   rcases hcase with ⟨e1, e2, _⟩ | ⟨g, cap, _, e3⟩ | ⟨cap, e2, _⟩
   ·rw [e2, e1] at e; cases e
   ·exact ⟨_, _, _, e3⟩
   exact ⟨_, _, _, e2⟩
  have hbg : g = b := by simpa [Value.ownBlock] using e
  subst hbg
  rcases hnew _ _ _ rfl with ⟨q1, _, _⟩ | ⟨rfl, _⟩
  ·exact hno q1
  omega)
 have hlt : ∀ b q, G.tag b q ≠ .free → b < w.heap.size := fun b q hb => by
  obtain ⟨u, hu⟩ := hT.ex b q hb
  exact World.block_lt_of_cell? _ _ hu
 have hsameT : ∀ b q, G.tag b q ≠ .free → G.tag b q ≠ .obj o → w'.heap[b]? = w.heap[b]? := fun b q hb hno => hsame b (hlt b q hb) (fun ha => hno (ha.tag hT hb))
 have hvirg : ∀ b, Virgin G w b → w'.heap[b]? = w.heap[b]? := fun b hb => hsame b hb.1 (fun ha => by
  obtain ⟨cur, te, c1, c2, c3⟩ := ha
  rcases hb.2.1 0 with e | e <;> rw [c3 0 c2] at e <;> cases e)
 have T : Turn G w G' w' := by
  refine ⟨fun b q hb => ⟨?_, cell_of_blk (hsameT b q (by rw [hb]; simp) (by rw [hb]; simp))⟩, fun b q L hb => ?_, fun b q i hb => ?_, Nat.le_refl _, fun _ _ => rfl, x1, x2, x3, x4, Still.tags hvirg x4 (fun b q hb => .inl ?_) (fun i hi => .inl ⟨hi, rfl⟩)⟩
  ·rw [hkeepTag b q (by rw [hb]; simp)]; exact hb
  ·rw [hkeepTag b q (by rw [hb]; simp)]; exact hb
  ·rw [hkeepTag b q (by rw [hb]; simp)]; exact hb
  by_cases hf : G.tag b q = .free
  ·simp only [G']
   split
   ·rename_i hc
    obtain ⟨hc1, hc2⟩ := hc
    exfalso
    obtain ⟨g, n, cap, rfl⟩ : ∃ g n cap, v' = .slice (some ⟨g, 0, none⟩) n cap := by
     rcases hcase with ⟨e1, e2, _⟩ | ⟨g, cap, _, e3⟩ | ⟨cap, e2, _⟩
     ·rw [e2, e1] at hc1; cases hc1
     ·exact ⟨_, _, _, e3⟩
     exact ⟨_, _, _, e2⟩
    have hbg : g = b := by simpa [Value.ownBlock] using hc1
    subst hbg
    rcases hnew _ _ _ rfl with ⟨_, q2, _⟩ | ⟨rfl, _⟩
    ·rw [q2 q (by rw [hcapF _ _ _ rfl]; exact hc2)] at hf; cases hf
    omega
   rfl
  exact hkeepTag b q hf
 have hrowT : ∀ g n cap, v' = .slice (some ⟨g, 0, none⟩) n cap → ∀ j, j < cap → G'.tag g j = .obj o := fun g n cap e j hj => by
  simp only [G']
  rw [if_pos ⟨by rw [e]; rfl, by rw [← hcapF _ _ _ e]; exact hj⟩]
 refine ⟨_, G', _, _, rfl, ?_, ⟨fun i x hx => ?_, by rw [List.length_set]; exact hH.n, hH.inj⟩, ⟨fun b q hb => ?_, fun b q i hb => ?_, fun b q L hb => ?_, hT.globKeep T.old⟩, T.keep _, by simp, rfl, rfl⟩
 ·refine .tup _ _ _ rfl (fun i y u hy hu => ?_)
  match i with
  | 0 => simp at hy hu; subst hy; subst hu; exact .v _ _
  | 1 => simp at hy hu; subst hy; subst hu; exact .v _ _
  | i + 2 => simp at hy
 ·by_cases hi : i = o
  ·subst hi
   rw [List.getElem?_set_self hol] at hx
   injection hx with hx
   subst hx
   refine ⟨_, v', k1, .inr rfl, fun j hj => by rw [hkeepTag _ _ (by rw [htg j hj]; simp)]; exact htg j hj, ?_⟩
   rcases k3.2 with ⟨e1, h0⟩ | ⟨g, cap, cur, e1, _, c1, c2, c3, c4, c5⟩
   ·exact .inl ⟨e1, List.eq_nil_of_length_eq_zero (by rw [List.length_append]; exact h0)⟩
   refine .inr ⟨g, cap, cur, by rw [e1, List.length_append], by rw [e1] at k4; simpa [Value.ownBlock] using k4, c1, by rw [List.length_append]; exact c2, c3, ?_, by simpa using c4, by simpa [Lib.byteCells] using c5, hrowT _ _ _ e1⟩
   rcases hnew _ _ _ e1 with ⟨_, _, h0⟩ | ⟨_, h0⟩ <;> omega
  rw [List.getElem?_set_ne (fun e => hi e.symm)] at hx
  have hil : i < G.n := by rw [hH.n]; exact (List.getElem?_eq_some_iff.1 hx).1
  have hox := hH.obj i x hx
  refine T.objRel hil (hsame _ hox.blt (fun ha => ha.ne' hox (fun e => hi e.symm) rfl)) hox (fun b hb => hsame b hb.lt (fun ha => hi (hb.uniq ha)))
 ·-- the cells that are somebody's are there
  by_cases hc : v'.ownBlock = some b ∧ q < capF
  ·rcases k3.2 with ⟨e1, _⟩ | ⟨g, cap, cur, e1, _, c1, c2, c3, c4, c5⟩
   ·rw [e1] at hc; cases hc.1
   have hbg : g = b := by rw [e1] at hc; simpa [Value.ownBlock] using hc.1
   subst hbg
   have hcc := hcapF _ _ _ e1
   exact ⟨cur[q]'(by rw [c4]; omega), by simp [World.cell?, c1, show q < cur.size by rw [c4]; omega]⟩
  have hb' : G.tag b q ≠ .free := by
   simp only [G', if_neg hc] at hb; exact hb
  obtain ⟨u, hu⟩ := hT.ex b q hb'
  by_cases hbo : b = G.blk o
  ·subst hbo
   simp only [World.cell?, a1] at hu
   have hq2 : q < 2 := by
    rcases Nat.lt_or_ge q 2 with h' | h'
    ·exact h'
    simp [Array.getElem?_eq_none (show (#[p, v] : Array Value).size ≤ q from h')] at hu
   exact ⟨#[.pointer (some ⟨G.blk o, 0, none⟩), v'][q]'hq2, by simp [World.cell?, k1, hq2]⟩
  by_cases hbr : v'.ownBlock = some b
  ·rcases k3.2 with ⟨e1, _⟩ | ⟨g, cap, cur, e1, _, c1, c2, c3, c4, c5⟩
   ·rw [e1] at hbr; cases hbr
   have hbg : g = b := by rw [e1] at hbr; simpa [Value.ownBlock] using hbr
   subst hbg
   have hcc := hcapF _ _ _ e1
   exfalso
   rcases hnew _ _ _ e1 with ⟨q1, q2, _⟩ | ⟨rfl, _⟩
   ·-- all cells of the row are below its capacity
    rcases hcase with ⟨e2, e3, _⟩ | ⟨g2, cap2, e2, e3⟩ | ⟨cap2, e2, _⟩
    ·rw [e3, e2] at e1; cases e1
    ·rcases a3.2 with ⟨e4, _⟩ | ⟨g3, cap3, cur3, e4, _, d1, _, _, d4, _⟩
     ·rw [e4] at e2; cases e2
     rw [e2] at e4
     injection e4 with e4 _ e5
     injection e4 with e4
     injection e4 with e4
     rw [e3] at e1
     injection e1 with e1 _ e6
     injection e1 with e1
     injection e1 with e1
     subst e1; subst e4
     simp only [World.cell?, d1] at hu
     have : q < cur3.size := by
      rcases Nat.lt_or_ge q cur3.size with h' | h'
      ·exact h'
      simp [Array.getElem?_eq_none h'] at hu
     exact hc ⟨hbr, by rw [d4] at this; omega⟩
    rw [e2] at e1
    injection e1 with e1
    injection e1 with e1
    injection e1 with e1
    have := q1.lt
    omega
   exact hb' (hfree q)
  rw [cell_of_blk (hfr b (hlt b q hb') hbo hbr)]
  exact ⟨u, hu⟩
 ·by_cases hc : v'.ownBlock = some b ∧ q < capF
  ·rcases k3.2 with ⟨e1, _⟩ | ⟨g, cap, cur, e1, _, c1, _⟩
   ·rw [e1] at hc; cases hc.1
   have hbg : g = b := by rw [e1] at hc; simpa [Value.ownBlock] using hc.1
   subst hbg
   simp [World.frozen?, c1]
  have hb' : G.tag b q = .obj i := by
   simp only [G', if_neg hc] at hb; exact hb
  by_cases hbo : b = G.blk o
  ·subst hbo; simp [World.frozen?, k1]
  by_cases hbr : v'.ownBlock = some b
  ·rcases k3.2 with ⟨e1, _⟩ | ⟨g, cap, cur, e1, _, c1, _⟩
   ·rw [e1] at hbr; cases hbr
   have hbg : g = b := by rw [e1] at hbr; simpa [Value.ownBlock] using hbr
   subst hbg
   simp [World.frozen?, c1]
  rw [frozen_of_blk (hfr b (hlt b q (by rw [hb']; simp)) hbo hbr)]
  exact hT.obj b q i hb'
 have hb' : G.tag b q = .tail L := by
  simp only [G'] at hb
  split at hb
  ·cases hb
  exact hb
 rw [frozen_of_blk (hsameT b q (by rw [hb']; simp) (by rw [hb']; simp))]
 exact hT.tail b q L hb'

/-- How many bytes a builder holds. -/
theorem AFun.bldLen {t e : TypeId} {bs : List UInt8} {H : List AObj} {o : Nat} (ho : H[o]? = some (.bld t e bs))
  (hw : ∀ (b : Nat) (p v : Value) (w : World), BldAt t e b p v bs.length (Lib.byteCells bs) w → Calls P g #[.pointer (some ⟨b, 0, none⟩)] w fun e' w' => e' = .returned (.int .i64 bs.length) ∧ w' = w) :
  AFun P g [.ptr o 0] H (.v (.int .i64 bs.length)) := by
 intro d G w vs hn hv hH hT
 have hob : BldRel G w o t e bs := hH.obj o _ ho
 obtain ⟨p, v, hat, _⟩ := bldAt_of hob
 have hvs : vs = #[.pointer (some ⟨G.blk o, 0, none⟩)] := by
  have h0 := hv 0 _ (vs[0]'(by simp at hn; omega)) rfl (Array.getElem?_eq_getElem _)
  have h0' : vs[0]'(by simp at hn; omega) = .pointer (some ⟨G.blk o, 0, none⟩) := by
   generalize vs[0]'(by simp at hn; omega) = u at h0
   cases h0 with
   | ptr _ _ _ _ => rfl
  apply Array.ext
  ·simpa using hn
  intro i hi1 hi2
  match i with
  | 0 => exact h0'
  | i + 1 => simp at hi2
 subst hvs
 refine (callsIn_wide.2 (hw _ p v w hat)).mono ?_
 rintro e' w' ⟨rfl, rfl⟩
 exact ⟨_, G, _, H, rfl, .v _ _, hH, hT, Keep.refl _ _ _, rfl, rfl, rfl⟩

/-- A builder's text; it is a builder no more. -/
theorem ACall.bldString {t e : TypeId} {bs : List UInt8} {H : List AObj} {o : Nat} (ho : H[o]? = some (.bld t e bs))
  (hw : ∀ (b : Nat) (p v : Value) (w : World), BldAt t e b p v bs.length (Lib.byteCells bs) w → (∀ g, v ≠ .slice (some ⟨g, 0, none⟩) 0 0) → Calls P g #[.pointer (some ⟨b, 0, none⟩)] w fun e' w' => e' = .returned (.string ⟨bs.toArray⟩) ∧
   (w'.os = w.os ∧ w'.tape = w.tape ∧ w'.output = w.output ∧ w.heap.size ≤ w'.heap.size) ∧ ∀ k, v.ownBlock ≠ some k → w'.heap[k]? = w.heap[k]?) :
  ACall P g [.ptr o 0] H (fun r H' => r = .v (sv bs) ∧ H' = H.set o (.cells t [.any, .any])) := by
 intro d G w vs hn hv hH hT
 have hol : o < H.length := (List.getElem?_eq_some_iff.1 ho).1
 have hob : BldRel G w o t e bs := hH.obj o _ ho
 obtain ⟨p, v, hat, htg, hcap, hrow⟩ := bldAt_of hob
 have hvs : vs = #[.pointer (some ⟨G.blk o, 0, none⟩)] := by
  have h0 := hv 0 _ (vs[0]'(by simp at hn; omega)) rfl (Array.getElem?_eq_getElem _)
  have h0' : vs[0]'(by simp at hn; omega) = .pointer (some ⟨G.blk o, 0, none⟩) := by
   generalize vs[0]'(by simp at hn; omega) = u at h0
   cases h0 with
   | ptr _ _ _ _ => rfl
  apply Array.ext
  ·simpa using hn
  intro i hi1 hi2
  match i with
  | 0 => exact h0'
  | i + 1 => simp at hi2
 subst hvs
 refine (callsIn_wide.2 (hw _ p v w hat hcap)).mono ?_
 rintro e' w' ⟨rfl, ⟨x1, x2, x3, x4⟩, hfr⟩
 obtain ⟨a1, _, a3, a4⟩ := hat
 have hself : AllObj G w o (G.blk o) := ⟨_, t, a1, by simp, fun q hq => htg q (by simpa using hq)⟩
 have hrowO : ∀ b, v.ownBlock = some b → AllObj G w o b := fun b hb => by
  rcases a3.2 with ⟨e1, _⟩ | ⟨g, cap, cur, e1, _⟩
  ·rw [e1] at hb; cases hb
  have hbg : g = b := by rw [e1] at hb; simpa [Value.ownBlock] using hb
  subst hbg
  exact (hrow _ _ _ e1).1
 have hsame : ∀ b, ¬ AllObj G w o b → w'.heap[b]? = w.heap[b]? := fun b hno => hfr b (fun e => hno (hrowO b e))
 have hlt : ∀ b q, G.tag b q ≠ .free → b < w.heap.size := fun b q hb => by
  obtain ⟨u, hu⟩ := hT.ex b q hb
  exact World.block_lt_of_cell? _ _ hu
 have hsameT : ∀ b q, G.tag b q ≠ .free → G.tag b q ≠ .obj o → w'.heap[b]? = w.heap[b]? := fun b q hb hno => hsame b (fun ha => hno (ha.tag hT hb))
 have hblk : w'.heap[G.blk o]? = w.heap[G.blk o]? := hfr _ a4
 have hvirg : ∀ b, Virgin G w b → w'.heap[b]? = w.heap[b]? := fun b hb => hsame b (fun ha => by
  obtain ⟨cur, te, c1, c2, c3⟩ := ha
  rcases hb.2.1 0 with e | e <;> rw [c3 0 c2] at e <;> cases e)
 have T : Turn G w G w' := ⟨fun b q hb => ⟨hb, cell_of_blk (hsameT b q (by rw [hb]; simp) (by rw [hb]; simp))⟩, fun _ _ _ hb => hb, fun _ _ _ hb => hb, Nat.le_refl _, fun _ _ => rfl, x1, x2, x3, x4,
  Still.tags hvirg x4 (fun _ _ _ => .inl rfl) (fun i hi => .inl ⟨hi, rfl⟩)⟩
 let G' : Gh := { G with tag := fun b q => if b ≠ G.blk o ∧ G.tag b q = .obj o then .free else G.tag b q }
 have htag : ∀ b q, G.tag b q ≠ .obj o → G'.tag b q = G.tag b q := fun b q hb => by
  simp only [G']; rw [if_neg (fun hc => hb hc.2)]
 have htagO : ∀ q, G'.tag (G.blk o) q = G.tag (G.blk o) q := fun q => by
  simp only [G']; rw [if_neg (fun hc => hc.1 rfl)]
 have hst : Still G w G' w' := fun b hb => ⟨hvirg b hb, Nat.lt_of_lt_of_le hb.1 x4, fun q => by
  simp only [G']
  split
  ·exact .inr rfl
  exact hb.2.1 q, hb.2.2⟩
 refine ⟨_, G', _, _, rfl, .v _ _, ⟨fun i x hx => ?_, by rw [List.length_set]; exact hH.n, hH.inj⟩, ⟨fun b q hb => ?_, fun b q i hb => ?_, fun b q L hb => ?_, hT.globKeep hst⟩,
  ⟨fun b q hb => ⟨by rw [htag b q (by rw [hb]; simp)]; exact hb, (T.fix b q hb).2⟩, fun b q e s _ hb => by rw [htag b q (by rw [hb]; simp)]; exact hb, Nat.le_refl _, fun _ _ => rfl, x1, x2, x3, x4, hst⟩, by simp, rfl, rfl⟩
 ·by_cases hi : i = o
  ·subst hi
   rw [List.getElem?_set_self hol] at hx
   injection hx with hx
   subst hx
   refine ⟨#[p, v], hblk.trans a1, rfl, fun j y u hy hu => ?_, fun j hj => (htagO j).trans (htg j (by simpa using hj))⟩
   match j with
   | 0 => simp at hy; subst hy; exact .any _ _
   | 1 => simp at hy; subst hy; exact .any _ _
   | j + 2 => simp at hy
  rw [List.getElem?_set_ne (fun e => hi e.symm)] at hx
  have hil : i < G.n := by rw [hH.n]; exact (List.getElem?_eq_some_iff.1 hx).1
  have hox := hH.obj i x hx
  exact (T.objRel hil (hsame _ (fun ha => ha.ne' hox (fun e => hi e.symm) rfl)) hox (fun b hb => hsame b (fun ha => hi (hb.uniq ha)))).free hi htag rfl rfl
 all_goals
  by_cases hbo : b = G.blk o
 ·subst hbo
  rw [htagO] at hb
  rw [cell_of_blk hblk]; exact hT.ex _ _ hb
 ·have hno : G.tag b q ≠ .obj o := fun e => by simp [G', hbo, e] at hb
  rw [htag b q hno] at hb
  rw [cell_of_blk (hsameT b q hb hno)]; exact hT.ex b q hb
 ·subst hbo
  rw [htagO] at hb
  rw [frozen_of_blk hblk]; exact hT.obj _ _ i hb
 ·have hno : G.tag b q ≠ .obj o := fun e => by simp [G', hbo, e] at hb
  rw [htag b q hno] at hb
  rw [frozen_of_blk (hsameT b q (by rw [hb]; simp) hno)]; exact hT.obj b q i hb
 ·subst hbo
  rw [htagO] at hb
  rw [frozen_of_blk hblk]; exact hT.tail _ _ L hb
 have hno : G.tag b q ≠ .obj o := fun e => by simp [G', hbo, e] at hb
 rw [htag b q hno] at hb
 rw [frozen_of_blk (hsameT b q (by rw [hb]; simp) hno)]; exact hT.tail b q L hb

/-- A new builder, at its zero value. -/
theorem ObjRel.toBld {G : Gh} {w : World} {i : Nat} {t e : TypeId} (h : ObjRel G w i (.cells t [.v (.pointer none), .nil])) : ObjRel G w i (.bld t e []) := by
 obtain ⟨vs, h1, h2, h3, h4⟩ := h
 have hv : vs = #[.pointer none, .slice none 0 0] := by
  have h2' : vs.size = 2 := h2
  have r0 := rep_v (h3 0 _ (vs[0]'(by omega)) rfl (Array.getElem?_eq_getElem _))
  have r1 := h3 1 _ (vs[1]'(by omega)) rfl (Array.getElem?_eq_getElem _)
  have r1' : vs[1]'(by omega) = .slice none 0 0 := by
   generalize vs[1]'(by omega) = u at r1
   cases r1; rfl
  apply Array.ext
  ·simpa using h2'
  intro j hj1 hj2
  match j with
  | 0 => exact r0
  | 1 => exact r1'
  | j + 2 => exact absurd hj2 (by simp)
 subst hv
 exact ⟨_, _, h1, .inl rfl, fun j hj => h4 j (by simpa using hj), .inl ⟨rfl, rfl⟩⟩
end

section
variable {P : Program} {d sz : Nat} {fr : Nat → AV} {up own own' : List AObj} {dfs : List Nat} {rnd : Option Nat} {Q : St → Prop} {ops : Array Oper}
/-- A new builder among the objects of ours. -/
theorem StLe.toBld {n : Nat} {t e : TypeId} (ho : own[n]? = some (.cells t [.v (.pointer none), .nil])) : StLe d ⟨sz, fr, up, own, dfs, rnd⟩ ⟨sz, fr, up, own.set n (.bld t e []), dfs, rnd⟩ := by
 refine ⟨fun G a w h => ?_, rfl, rfl, rfl⟩
 refine ⟨h.size, h.slots, ⟨fun i x hx => ?_, ?_, h.heap.inj⟩, h.defs, fun o hoo => ?_, h.defsNodup, h.defsGe, h.tags, h.rnd, h.low⟩
 ·by_cases hi : i = up.length + n
  ·subst hi
   simp only at hx
   rw [get_own, List.getElem?_set_self (List.getElem?_eq_some_iff.1 ho).1] at hx
   injection hx with hx
   subst hx
   exact (h.heap.obj (up.length + n) _ (by simp only [get_own]; exact ho)).toBld
  refine h.heap.obj i x ?_
  simp only at hx ⊢
  rwa [← set_append_own, List.getElem?_set_ne (fun e => hi e.symm)] at hx
 ·have := h.heap.n; simpa using this
 have h1 := h.defsAt o hoo
 simp only at h1 ⊢
 rw [← set_append_own]
 by_cases hi : o = up.length + n
 ·subst hi
  rw [get_own, ho] at h1
  cases h1
 rw [List.getElem?_set_ne (fun e => hi e.symm)]
 exact h1
theorem R.toBld {l : List Oper} (n : Nat) (t e : TypeId) (hr : ARun P d ops l ⟨sz, fr, up, own', dfs, rnd⟩ Q) (ho : own[n]? = some (.cells t [.v (.pointer none), .nil]) := by rfl) (hset : own.set n (.bld t e []) = own' := by exact sL0) :
  ARun P d ops l ⟨sz, fr, up, own, dfs, rnd⟩ Q := by
 subst hset
 exact ARun.le (StLe.toBld ho) hr
end
end Go.SX
namespace Go.SX
variable [GI : GlobInv]
open Classical
section
variable {P : Program} {d : Nat} {st : St} {dst : Option Tmp} {ty : TypeId} {pos : String} {aft : Array Edge} {gd : Option (Nat × Bool)}
theorem OpV.indexArrPtr {t e : TypeId} {x i : Operand} {len n k o off : Nat} {q : IntKind} (hu : P.underlying t = some (.array len e)) (hsz : ∀ w, (sizeOf e).run P w = .ok k w) (hn : n < len)
  (hx : st.ev x = .ptr o off) (hi : st.ev i = .v (.int q (n : Int))) : OpV P d ⟨dst, .indexAddr t x i, ty, pos, aft, gd⟩ st (.ptr o (off + n * k)) :=
 OpV.pure (by intro c h; cases h) fun G a w h => by
  have hr := hx ▸ h.eval x
  have hi' := ev_v h hi
  generalize hv : a.eval x = u at hr
  cases hr with
  | ptr l o off ho =>
   have hlt' : (n : Int) < len := by omega
   refine ⟨.pointer (some ((⟨G.blk o, off, none⟩ : Addr).add (n * k))), by simp [execOp, Instr.indexAt, asIntOf, hi', hv, run_underlying hu, hn, hlt', hsz, Instr.sureAddr], ?_⟩
   rw [add_of_none rfl]
   exact .ptr _ o _ ho
end
variable {P : Program} {d : Nat} {l0 : List Oper} {kd : Nat} {ops : Array Oper} {rest : List Oper} {sz : Nat} {fr fr' : Nat → AV} {up own own' up' : List AObj} {dfs : List Nat} {rnd : Option Nat} {Q : St → Prop} {E : List Oper → (Nat → AV) → Prop} {s : Nat} {ty : TypeId} {pos : String} {aft : Array Edge}
theorem R.indexArrPtr {t e : TypeId} {x i : Operand} {len k o off off' : Nat} {q : IntKind} {m : Int} (n : Nat) (ht : P.underlying t = some (.array len e)) (hsz : ∀ w, (Go.sizeOf e).run P w = .ok k w) (hn : n < len) (hr : ARun P d ops rest ⟨sz, setF s (.ptr o off') fr, up, own, dfs, rnd⟩ Q) (hx : frEv fr x = .ptr o off := by exact sL0) (hi : frEv fr i = .v (.int q m) := by exact sL0) (hm : m = (n : Int) := by rfl) (hoff : off + n * k = off' := by rfl) (hs : Nat.blt s sz = true := by rfl) :
  ARun P d ops (⟨some s, .indexAddr t x i, ty, pos, aft, none⟩ :: rest) ⟨sz, fr, up, own, dfs, rnd⟩ Q :=
 ARun.vv rfl rfl hs (by subst hm; subst hoff; exact OpV.indexArrPtr (n := n) ht hsz hn hx hi) hr
end Go.SX
namespace Go.SX
variable [GI : GlobInv]
open Classical
section
variable {P : Program} {d : Nat} {st : St} {dst : Option Tmp} {ty : TypeId} {pos : String} {aft : Array Edge} {gd : Option (Nat × Bool)}
abbrev u8A (c : UInt8) : AV := .v (.int .u8 (c.toNat : Int))
theorem fold_bytes : ∀ (l : List UInt8) (r : ByteArray), (l.map fun c => (c.toNat : Int)).foldl (fun r n => r.push (UInt8.ofNat n.toNat)) r = ⟨r.data ++ l.toArray⟩
 | [], r => by simp
 | c :: l, r => by
  rw [List.map_cons, List.foldl_cons, fold_bytes l]
  have : UInt8.ofNat ((c.toNat : Int)).toNat = c := by simp
  rw [this]
  simp [ByteArray.push]
theorem OpV.bytesStr {a t e : TypeId} {x : Operand} {o : Bool} {l : List UInt8} (hs : P.underlying a = some (.slice e)) (he : P.underlying e = some (.int .u8)) (ht : P.underlying t = some .string) (hx : st.ev x = .slice o 1 (l.map u8A)) :
  OpV P d ⟨dst, .convert a t x, ty, pos, aft, gd⟩ st (.v (sv l)) :=
 OpV.pure (by intro c h; cases h) fun G ac w h => by
  have hr := hx ▸ h.eval x
  generalize hv : ac.eval x = u at hr
  refine ⟨.string ⟨l.toArray⟩, ?_, .v _ _⟩
  rcases asSl_cases (.inl rfl) hr with ⟨rfl, hl⟩ | ⟨ad, c, f, rfl, _, hF, _⟩
  ·have : l = [] := by simpa using hl
   subst this
   simp [execOp, hv, run_convert_bytes_string w a t e none 0 0 hs he ht, Conv.bytesToString]
   rfl
  have hvals := hF.vals (Nat.succ_pos 0)
  have e1 : flatVals 1 (l.map u8A).length f = (l.map fun c => (c.toNat : Int)).map (Value.int .u8) := by
   apply List.ext_getElem?
   intro i
   by_cases hi : i < l.length
   ·have h1 : i < (l.map u8A).length * 1 := by simpa using hi
    rw [flatVals_get h1, Nat.div_one, Nat.mod_one]
    have hxi : (l.map u8A)[i]? = some (u8A l[i]) := by rw [List.getElem?_map, List.getElem?_eq_getElem hi]; rfl
    have hrep := hF.rep i _ 0 _ hxi rfl
    have := rep_v hrep
    rw [this, List.map_map, List.getElem?_map, List.getElem?_eq_getElem hi]
    rfl
   rw [List.getElem?_eq_none (by rw [flatVals_length]; simp; omega), List.getElem?_eq_none (by simp; omega)]
  have e2 := run_loadCells_list (P := P) (w := w) ad _ hvals
  rw [flatVals_length, e1, Nat.mul_one] at e2
  have e3 := run_bytesToString w ad (l.map u8A).length c _ e2
  rw [fold_bytes] at e3
  rw [List.length_map] at e3 hv
  simp [execOp, hv, run_convert_bytes_string w a t e (some ad) l.length c hs he ht, e3]
end
variable {P : Program} {d : Nat} {ops : Array Oper} {rest : List Oper} {sz : Nat} {fr : Nat → AV} {up own : List AObj} {dfs : List Nat} {rnd : Option Nat} {Q : St → Prop} {s : Nat} {ty : TypeId} {pos : String} {aft : Array Edge}
theorem R.bytesStr {a t e : TypeId} {x : Operand} {o : Bool} (l : List UInt8) (hs' : P.underlying a = some (.slice e)) (he : P.underlying e = some (.int .u8)) (ht : P.underlying t = some .string) (hr : ARun P d ops rest ⟨sz, setF s (.v (sv l)) fr, up, own, dfs, rnd⟩ Q)
  (hx : frEv fr x = .slice o 1 (l.map u8A) := by exact sL0) (hs : Nat.blt s sz = true := by rfl) :
  ARun P d ops (⟨some s, .convert a t x, ty, pos, aft, none⟩ :: rest) ⟨sz, fr, up, own, dfs, rnd⟩ Q :=
 ARun.vv rfl rfl hs (OpV.bytesStr hs' he ht hx) hr
end Go.SX
namespace Go.SX
variable [GI : GlobInv]
open Classical
variable {n : Nat} {t : St}
section
variable {P : Program} {d : Nat}

/-- Less is known of a state, and the last of its objects are let go. -/
def StCut (d : Nat) (s t : St) : Prop :=
 (t.up ++ t.own).length ≤ (s.up ++ s.own).length ∧ t.up.length = s.up.length ∧ t.rnd = s.rnd ∧ t.sz = s.sz ∧
  ∀ (G : Gh) (a : Act) (w : World), StRel d G s a w → StRel d { G with n := (t.up ++ t.own).length } t a w

theorem StCut.of_le {s t : St} (h : StLe d s t) (ho : t.own.length = s.own.length) : StCut d s t := by
 refine ⟨by simp [h.2.1, ho], h.2.1, h.2.2.1, h.2.2.2, fun G a w hr => ?_⟩
 have := h.1 G a w hr
 have e : G = { G with n := (t.up ++ t.own).length } := by
  have hn := this.heap.n
  cases G
  simp only at hn ⊢
  rw [hn]
 rw [← e]
 exact this
theorem StCut.of_eq {s t : St} (h : s = t) : StCut d s t := by subst h; exact StCut.of_le (StLe.refl _) rfl

theorem Low.of_le {m : Nat} {x y : AV} (h : Low m x) (hl : Le x y) : Low m y := by
 cases hl with
 | refl => exact h
 | any => exact .any
 | nil own k => exact .slice own k [] (fun x hx => by cases hx)
 | strip own k xs => exact h.strip
 | agg cs cs' hn h1 hh =>
  cases h with
  | agg _ h =>
   refine .agg _ fun y' hy' => ?_
   obtain ⟨i, hi⟩ := List.getElem?_of_mem hy'
   have hlt : i < cs.length := by rw [hn]; exact (List.getElem?_eq_some_iff.1 hi).1
   rcases hh i cs[i] y' (List.getElem?_eq_getElem hlt) hi with e | ⟨e, k, rfl⟩
   ·exact e ▸ h _ (List.getElem_mem hlt)
   exact .slice false k [] (fun x hx => by cases hx)

theorem StCut.take {sz : Nat} {fr fr' : Nat → AV} {up own junk : List AObj} {dfs : List Nat} {rnd : Option Nat} (hf : ∀ i, Le (fr i) (fr' i)) (hlow : ∀ i, Low (up.length + own.length) (fr' i)) (ho : ∀ x ∈ own, ObjLow (up.length + own.length) x) (hd : ∀ o ∈ dfs, o < up.length + own.length) :
  StCut d ⟨sz, fr, up, own ++ junk, dfs, rnd⟩ ⟨sz, fr', up, own, dfs, rnd⟩ := by
 refine ⟨by simp, rfl, rfl, rfl, fun G a w hr => ?_⟩
 have hn := hr.heap.n
 simp only [List.length_append] at hn
 have hget : ∀ (i : Nat) (x : AObj), (up ++ own)[i]? = some x → (up ++ (own ++ junk))[i]? = some x := fun i x hx => by
  rw [← List.append_assoc]
  exact get_up hx
 refine ⟨hr.size, fun s => ?_, ⟨fun i x hx => ?_, rfl, fun i j hi hj e => hr.heap.inj i j ?_ ?_ e⟩, hr.defs, fun o hoo => ?_, hr.defsNodup, hr.defsGe, ⟨hr.tags.ex, hr.tags.obj, hr.tags.tail, hr.tags.globCut (by rw [hn]; simp only [List.length_append]; omega)⟩, hr.rnd, hr.low⟩
 ·exact ((hr.slots s).le (hf s)).cut (by simpa using hlow s)
 ·have hob := hr.heap.obj i x (hget i x hx)
  have hlx : ObjLow (up.length + own.length) x := by
   rcases Nat.lt_or_ge i up.length with h' | h'
   ·rw [List.getElem?_append_left h'] at hx
    have := hr.low x (List.mem_of_getElem? hx)
    cases x with
    | cells t cs => exact fun y hy => (this y hy).mono (by simp)
    | loop sta pd fr sz ps as bd df => exact ⟨fun s => (this.1 s).mono (by simp), by have := this.2; simp only at this; omega⟩
    | defs => trivial
    | dead => trivial
    | bld _ _ _ => trivial
    | gone => trivial
   rw [List.getElem?_append_right h'] at hx
   exact ho x (List.mem_of_getElem? hx)
  exact hob.cut (by simpa using hlx)
 ·simp only [List.length_append] at hi; omega
 ·simp only [List.length_append] at hj; omega
 have h1 := hr.defsAt o hoo
 have h2 := hd o hoo
 simp only at h1
 rw [← List.append_assoc, List.getElem?_append_left (by simpa using h2)] at h1
 exact h1

theorem low1 {n : Nat} {t : TypeId} {x : Value} : ObjLow n (.cells t [.v x]) := fun y hy => by
 have : y = .v x := by simpa using hy
 subst this
 exact .v x
theorem getset {U : List AObj} {i : Nat} {x y : AObj} (h : U[i]? = some x) : (U.set i y)[i]? = some y := by rw [List.getElem?_set_self (List.getElem?_eq_some_iff.1 h).1]
theorem set_same {U : List AObj} {i : Nat} {x : AObj} (h : U[i]? = some x) : U.set i x = U := by
 apply List.ext_getElem?
 intro j
 rw [List.getElem?_set]
 split
 ·rename_i e
  subst e
  split
  ·exact h.symm
  rename_i hlt; rw [List.getElem?_eq_none (by omega)]
 rfl
/-- Less known of one slot. -/
theorem R.wk {ops : Array Oper} {l : List Oper} {sz : Nat} {fr : Nat → AV} {up own : List AObj} {dfs : List Nat} {rnd : Option Nat} {Q : St → Prop} {y : AV} (s : Nat) (y' : AV) (hl : Le y y') (hr : ARun P d ops l ⟨sz, setF s y' fr, up, own, dfs, rnd⟩ Q)
  (h : fr s = y := by exact sL0) : ARun P d ops l ⟨sz, fr, up, own, dfs, rnd⟩ Q :=
 ARun.le (st' := ⟨sz, setF s y' fr, up, own, dfs, rnd⟩) (StLe.frame (s := ⟨sz, fr, up, own, dfs, rnd⟩) fun i => by
  unfold setF
  split
  ·rename_i e; subst e; show Le (fr i) _; rw [h]; exact hl
  exact .refl _) hr
theorem lowF_set {s : Nat} {y : AV} {f : Nat → AV} (h : Low n y) (hf : ∀ i, Low n (f i)) : ∀ i, Low n (setF s y f i) := by
 intro i
 unfold setF
 split
 ·exact h
 exact hf i
theorem lowF_any : ∀ i, Low n ((fun _ => .any : Nat → AV) i) := fun _ => .any

/-- How a round of a loop may end: n: what is asked when it comes to an end; N: when the block around the loop is left. -/
def LK {α : Type} (d : Nat) (id : Nat) (I : α → St) (R : α → Prop) (μ : α → Nat) (x : α) (N : St → Prop) (K : Exit → St → Prop) : Exit → St → Prop
 | .normal, s => ∃ y, R y ∧ μ y < μ x ∧ StCut d s (I y) ∧ (I y).own.length = (I x).own.length
 | .exit i, s => if i = id then N s else K (.exit i) s
 | e, s => K e s

theorem AW.loopC {c : Code} {st : St} {K : Exit → St → Prop} {id : Nat} {α : Type} (I : α → St) (R : α → Prop) (μ : α → Nat) (x0 : α) (h0 : R x0) (hst : StLe d st (I x0)) (hown : (I x0).own.length = st.own.length)
  (round : ∀ x, R x → AW P d c (I x) (LK d id I R μ x (K .normal) K)) : AW P d (.block id (.loop c)) st K := by
 refine AW.block ?_
 intro G0 a0 w0 hr0
 let S : Act → World → Nat → Prop := fun a w m => ∃ x G, R x ∧ StRel d G (I x) a w ∧ Keep d G0 w0 G w ∧ ((I x).up.length = st.up.length ∧ (I x).rnd = st.rnd ∧ (I x).sz = st.sz ∧ (I x).own.length = st.own.length) ∧ μ x = m
 have key : ∀ a w, (∃ m, S a w m) → ∃ m, (S a w m ∧ ∀ k, S a w k → m ≤ k) := fun a w h => exists_least h
 refine wpIn_loop (F := Fr (st.rnd.map G0.blk)) (fun a w => ∃ m, S a w m) (fun a w => Classical.epsilon fun m => S a w m ∧ ∀ k, S a w k → m ≤ k)
  ⟨_, x0, G0, h0, hst.1 _ _ _ hr0, Keep.refl _ _ _, ⟨hst.2.1, hst.2.2.1, hst.2.2.2, hown⟩, rfl⟩ ?_
 intro a w hI
 obtain ⟨⟨x, G, hx, hrel, hkeep, ⟨e1, e2, e3, e4⟩, hm⟩, _⟩ := Classical.epsilon_spec (key a w hI)
 have hw := round x hx G a w hrel
 have hF : Fr ((I x).rnd.map G.blk) = Fr (st.rnd.map G0.blk) := fr_keep (st' := I x) hr0 hkeep e2
 rw [hF] at hw
 refine wpIn_mono hw ?_
 rintro e a1 w1 ⟨G1, s1, hr1, hk1, f1, f2, f3, hK⟩
 have hnx : G.n = ((I x).up ++ (I x).own).length := hrel.heap.n
 cases e with
 | normal =>
  obtain ⟨y, hy, hlt, hle, hown'⟩ := hK
  obtain ⟨c1, c2, c3, c4, c5⟩ := hle
  have hcut := c5 _ _ _ hr1
  have hnE : ((I y).up ++ (I y).own).length = G.n := by
   rw [hnx]
   simp only [List.length_append]
   have := c2.trans f1
   omega
  have hk1' : Keep d G w { G1 with n := ((I y).up ++ (I y).own).length } w1 := ⟨hk1.fix, hk1.slot, by rw [← hnE]; exact Nat.le_refl _, hk1.blk, hk1.os, hk1.tape, hk1.output, hk1.size, hk1.old.cut (by rw [hr1.heap.n]; exact c1)⟩
  have hS : S a1 w1 (μ y) := ⟨y, _, hy, hcut, hkeep.trans hk1', ⟨c2.trans (f1.trans e1), c3.trans (f2.trans e2), c4.trans (f3.trans e3), hown'.trans e4⟩, rfl⟩
  have hmin := (Classical.epsilon_spec (key a1 w1 ⟨_, hS⟩)).2 _ hS
  refine ⟨⟨_, hS⟩, ?_⟩
  rw [← hm]
  exact Nat.lt_of_le_of_lt hmin hlt
 | exit i =>
  refine ⟨G1, s1, hr1, hkeep.trans hk1, f1.trans e1, f2.trans e2, f3.trans e3, ?_⟩
  simp only [LK] at hK
  simp only [blockK]
  split
  ·rename_i h; rw [if_pos h] at hK; exact hK
  rename_i h; rw [if_neg h] at hK; exact hK
 | goto l => exact ⟨G1, s1, hr1, hkeep.trans hk1, f1.trans e1, f2.trans e2, f3.trans e3, hK⟩
 | ret => exact ⟨G1, s1, hr1, hkeep.trans hk1, f1.trans e1, f2.trans e2, f3.trans e3, hK⟩
 | panic ch => exact ⟨G1, s1, hr1, hkeep.trans hk1, f1.trans e1, f2.trans e2, f3.trans e3, hK⟩
 | outgrown => exact ⟨G1, s1, hr1, hkeep.trans hk1, f1.trans e1, f2.trans e2, f3.trans e3, hK⟩

/-! ### Ways out, step by step -/
variable {K K' : Exit → St → Prop} {N : St → Prop} {y : Code} {s : St} {i id : Nat}
theorem K.thN (h : AW P d y s K) : thenK (fun s => AW P d y s K) K' .normal s := h
theorem K.thE (h : K (.exit i) s) : thenK N K (.exit i) s := h
theorem K.thR (h : K .ret s) : thenK N K .ret s := h
theorem K.blN (h : K .normal s) : blockK id K .normal s := h
theorem K.blE (h : K .normal s) : blockK i K (.exit i) s := by simp only [blockK, if_true]; exact h
theorem K.blR (h : K .ret s) : blockK id K .ret s := h
section
variable {α : Type} {I : α → St} {R : α → Prop} {μ : α → Nat} {x : α}
theorem K.lpE (h : N s) : LK d i I R μ x N K (.exit i) s := by simp only [LK, if_true]; exact h
theorem K.lpR (h : K .ret s) : LK d id I R μ x N K .ret s := h
theorem K.lpN (y : α) (hR : R y) (hμ : μ y < μ x) (hc : StCut d s (I y)) (ho : (I y).own.length = (I x).own.length := by rfl) : LK d id I R μ x N K .normal s := ⟨y, hR, hμ, hc, ho⟩
end
/-- Ways that meet again. -/
theorem W.join {a b : Code} (T : St) (h1 : AW P d a s (thenK (fun s => StLe d s T) K)) (h2 : AW P d b T K) : AW P d (.seq a b) s K := by
 refine AW.seq (h1.mono fun e s' hs => ?_)
 cases e with
 | normal => exact AW.le hs h2
 | exit i => exact hs
 | goto i => exact hs
 | ret => exact hs
 | panic c => exact hs
 | outgrown => exact hs
theorem K.thJ {T : St} (h : StLe d s T) : thenK (fun s => StLe d s T) K' .normal s := h
theorem StLe.of_eq {s t : St} (h : s = t) : StLe d s t := by subst h; exact StLe.refl _
theorem W.seq {a b : Code} (h : AW P d a s (thenK (fun s => AW P d b s K) K)) : AW P d (.seq a b) s K := AW.seq h
section
variable {sz : Nat} {fr : Nat → AV} {up own : List AObj} {dfs : List Nat} {rnd : Option Nat} {c : Operand} {a b : Code} {B : Bool}
theorem W.keep (l : List Nat) {fr' : Nat → AV} (hq : AW P d y ⟨sz, fr', up, own, dfs, rnd⟩ K) (h : keepL l fr = fr' := by exact sL0) : AW P d y ⟨sz, fr, up, own, dfs, rnd⟩ K := AW.keep l h hq
/-- A loop's test: on, or out. -/
theorem W.condX {i : Nat} (h1 : B = true → AW P d y ⟨sz, fr, up, own, dfs, rnd⟩ K) (h2 : B = false → K (.exit i) ⟨sz, fr, up, own, dfs, rnd⟩) (hc : frEv fr c = .v (.bool B) := by exact sL0) :
  AW P d (.seq (.cond c .skip (.exit i)) y) ⟨sz, fr, up, own, dfs, rnd⟩ K := AW.seq (W.cond (fun e => AW.skip (h1 e)) (fun e => AW.exit (h2 e)) hc)
end
theorem K.fin {rs : List ResultVar} {post : AV → List AObj → Prop} {r : AV} (hres : Res P s rs r) (hp : post r s.up := by exact ⟨rfl, rfl⟩) (hlow : Low n r := by simp) : FK P rs n post .ret s := ⟨.inr rfl, r, hres, hlow, hp⟩
theorem K.finN {rs : List ResultVar} {post : AV → List AObj → Prop} {r : AV} (hres : Res P s rs r) (hp : post r s.up := by exact ⟨rfl, rfl⟩) (hlow : Low n r := by simp) : FK P rs n post .normal s := ⟨.inl rfl, r, hres, hlow, hp⟩
end
end Go.SX
namespace Go.SX
variable [GI : GlobInv]
open Classical
variable {U : List AObj} {args : List AV} {m n : Nat}
section
variable {P : Program} {d : Nat} {ops : Array Oper} {rest : List Oper} {sz : Nat} {fr : Nat → AV} {up own own' : List AObj} {dfs : List Nat} {rnd : Option Nat} {Q : St → Prop} {s : Nat} {ty : TypeId} {pos : String} {aft : Array Edge}

theorem set_oid {O : List AObj} {x : AObj} : (U ++ O).set (oid U.length n) x = U ++ O.set n x := set_append_own
theorem get_oid {O : List AObj} : (U ++ O)[oid U.length n]? = O[n]? := get_own
theorem oid_ne {u : Nat} (h : n ≠ m) : oid u n ≠ oid u m := fun e => h (Nat.add_left_cancel e)
theorem keep1 {l a : Nat} {x y X : AObj} (h : U[l]? = some x) (ha : a ≠ l) : ((U.set l y).set a X)[l]? = some y := by rw [List.getElem?_set_ne ha]; exact getset h
theorem keep2 {l a b : Nat} {x y X Y : AObj} (h : U[l]? = some x) (ha : a ≠ l) (hb : b ≠ l) : (((U.set l y).set a X).set b Y)[l]? = some y := by rw [List.getElem?_set_ne hb]; exact keep1 h ha
theorem setP_nil (f : Nat → AV) : setP [] f = f := rfl
theorem setP_cons (x : Nat × AV) (r : List (Nat × AV)) (f : Nat → AV) : setP (x :: r) f = setP r (setF x.1 x.2 f) := rfl
attribute [go_sem] setP_nil setP_cons List.zip_cons_cons List.zip_nil_left List.zip_nil_right
/-- A call of a round, by an activation that has no objects. -/
theorem R.yield0 {f : Operand} {xs : List Operand} {ats : Array TypeId} {l : Nat} {args : List AV} {post : Bool → List AObj → Prop} (h : AYield P l args up post)
  (hp : ∀ b U, U.length = up.length → post b U → ARun P d ops rest ⟨sz, setF s (.v (.bool b)) fr, U, [], [], rnd⟩ Q)
  (hf : frEv fr f = .yield l := by exact sL0) (ha : xs.map (frEv fr) = args := by exact sL0) (hs : Nat.blt s sz = true := by rfl) :
  ARun P d ops (⟨some s, .call ⟨.value f, xs.toArray, ats⟩, ty, pos, aft, none⟩ :: rest) ⟨sz, fr, up, [], [], rnd⟩ Q := by
 refine ARun.op rfl (Q1 := fun s' => ARun P d ops rest s' Q) ?_ (fun s' e => e)
 intro G a w hr Q'
 have hfr' : Rep G w none (.yield l) (a.eval f) := by
  have := hr.eval f
  have e : St.ev ⟨sz, fr, up, [], [], rnd⟩ f = .yield l := hf
  rwa [e] at this
 generalize hfv : a.eval f = fv at hfr'
 cases hfr' with
 | yield _ _ ho =>
  have hxr := evs_rep hr xs
  have ha' : xs.map (St.ev ⟨sz, fr, up, [], [], rnd⟩) = args := ha
  rw [ha'] at hxr
  have hh : HeapRel G up w := by simpa using hr.heap
  obtain ⟨f', tmps, as, bd, hrun, hround⟩ := h d G w (xs.map a.eval).toArray (by rw [← ha]; simp) hxr hh hr.tags
  refine wpIn_round (by intro c h; cases h) ((run_callYield hfv).trans hrun) hround ?_
  rintro e w' ⟨b, G', H', rfl, hH, hT, hk, hlen, hp'⟩
  have h3 := hr.called hH hT hk (U := H') (O := []) (by simp) hlen (fun o ho => by simp at ho) (by rw [hlen]; have := objs_low hH; rwa [hlen] at this)
  obtain ⟨h4, k4⟩ := h3.took (.v (some (.ret d)) (.bool b)) (s := s) (by simpa using hs)
  exact ⟨.bool b, rfl, _, _, h4, (hk.less (Nat.le_succ d)).trans k4, hlen, rfl, rfl, hp b H' hlen hp'⟩

/-- Ranging over a function. -/
theorem W.range {g : Operand} {ps : Array Tmp} {as bd : Code} {gf : FuncId} {first caps args : List AV} {m : Nat} {K : Exit → St → Prop} (post : AV → List AObj → Prop) (hcall : ∀ args w, (callFunc gf args).run P w = .ok (.enter gf args) w)
  (h : ACall P gf args (up ++ (own ++ [.defs, .loop .ready none (fun s => (fr s).strip) sz ps as bd (oid up.length m)])) post)
  (hp : ∀ r H', post r H' → rangeK P d ⟨sz, fr, up, own, dfs, none⟩ (oid up.length m :: dfs) (m + 1) (oid up.length m) ps as bd K r H')
  (hm : own.length = m := by rfl) (hg : frEv fr g = .fn (.func gf) first caps := by exact sL0) (ha : first ++ [.yield (oid up.length (m + 1))] ++ caps = args := by rfl) :
  AW P d (.rangeFunc g ps as bd) ⟨sz, fr, up, own, dfs, none⟩ K := by
 subst ha
 refine AW.rangeFunc (st := ⟨sz, fr, up, own, dfs, none⟩) (n := up.length) (m := m) hcall hg rfl rfl hm.symm ?_
 exact h.mono hp

/-- What is asked behind the function that is ranged over; the record's parts under names. -/
def rangeV (P : Program) (d sz : Nat) (fr FR : Nat → AV) (up : List AObj) (dfs : List Nat) (l df : Nat) (ps : Array Tmp) (as bd : Code) (K : Exit → St → Prop) (H' : List AObj) : Prop :=
 ∃ U O x pd, H' = U ++ O ∧ U.length = up.length ∧ ((∀ x ∈ up, ObjLow U.length x) → ∀ x ∈ U, ObjLow U.length x) ∧ (∀ o ∈ dfs, (U ++ O)[o]? = some .defs) ∧
  O[l]? = some (.loop x pd FR sz ps as bd df) ∧ x ≠ .busy ∧
  match pd with
  | none => K .normal ⟨sz, fr, U, O.set l (.loop .exhausted none FR sz ps as bd df), dfs, none⟩
  | some c => AW P d c ⟨sz, fr, U, O.set l (.loop .exhausted (some c) FR sz ps as bd df), dfs, none⟩ K
theorem W.rangeV {g : Operand} {ps : Array Tmp} {as bd : Code} {gf : FuncId} {first caps args : List AV} {m : Nat} {K : Exit → St → Prop} (hcall : ∀ args w, (callFunc gf args).run P w = .ok (.enter gf args) w)
  (h : ∀ FR as' bd', FR = (fun s => (fr s).strip) → as' = as → bd' = bd → ∃ post : AV → List AObj → Prop, ACall P gf args (up ++ (own ++ [.defs, .loop .ready none FR sz ps as' bd' (oid up.length m)])) post ∧
   ∀ r H', post r H' → rangeV P d sz fr FR up (oid up.length m :: dfs) (m + 1) (oid up.length m) ps as' bd' K H')
  (hm : own.length = m := by rfl) (hg : frEv fr g = .fn (.func gf) first caps := by exact sL0) (ha : first ++ [.yield (oid up.length (m + 1))] ++ caps = args := by rfl) :
  AW P d (.rangeFunc g ps as bd) ⟨sz, fr, up, own, dfs, none⟩ K := by
 obtain ⟨post, h1, h2⟩ := h _ _ _ rfl rfl rfl
 exact W.range post hcall h1 (fun r H' hp => h2 r H' hp) hm hg ha

/-- A nil slice in a cell of ours is an empty one. -/
theorem StLe.nilOwn {n k : Nat} {t : TypeId} (ho : own[n]? = some (.cells t [.nil])) : StLe d ⟨sz, fr, up, own, dfs, rnd⟩ ⟨sz, fr, up, own.set n (.cells t [.slice true k []]), dfs, rnd⟩ := by
 refine ⟨fun G a w h => ?_, rfl, rfl, rfl⟩
 refine ⟨h.size, h.slots, ⟨fun i x hx => ?_, ?_, h.heap.inj⟩, h.defs, fun o hoo => ?_, h.defsNodup, h.defsGe, h.tags, h.rnd, h.low⟩
 ·by_cases hi : i = up.length + n
  ·subst hi
   simp only at hx
   rw [get_own, List.getElem?_set_self (List.getElem?_eq_some_iff.1 ho).1] at hx
   injection hx with hx
   subst hx
   have hob := h.heap.obj (up.length + n) (.cells t [.nil]) (by simp only [get_own]; exact ho)
   obtain ⟨vs, h1, h2, h3, h4⟩ := hob
   refine ⟨vs, h1, h2, fun j y u p q => ?_, h4⟩
   match j, p with
   | 0, p =>
    have e : y = .slice true k [] := by simpa using p.symm
    subst e
    exact (h3 0 .nil u rfl q).le (.nil _ _)
   | j + 1, p => simp at p
  refine h.heap.obj i x ?_
  simp only at hx ⊢
  rwa [← set_append_own, List.getElem?_set_ne (fun e => hi e.symm)] at hx
 ·have := h.heap.n; simpa using this
 have h1 := h.defsAt o hoo
 simp only at h1 ⊢
 rw [← set_append_own]
 by_cases hi : o = up.length + n
 ·subst hi
  rw [get_own, ho] at h1
  cases h1
 rw [List.getElem?_set_ne (fun e => hi e.symm)]
 exact h1

theorem R.nilOwn {l : List Oper} (n k : Nat) {t : TypeId} (hr : ARun P d ops l ⟨sz, fr, up, own', dfs, rnd⟩ Q) (ho : own[n]? = some (.cells t [.nil]) := by rfl) (hset : own.set n (.cells t [.slice true k []]) = own' := by exact sL0) :
  ARun P d ops l ⟨sz, fr, up, own, dfs, rnd⟩ Q := by
 subst hset
 exact ARun.le (StLe.nilOwn ho) hr
theorem W.nilOwn {c : Code} {K : Exit → St → Prop} (n k : Nat) {t : TypeId} (hr : AW P d c ⟨sz, fr, up, own', dfs, rnd⟩ K) (ho : own[n]? = some (.cells t [.nil]) := by rfl) (hset : own.set n (.cells t [.slice true k []]) = own' := by exact sL0) :
  AW P d c ⟨sz, fr, up, own, dfs, rnd⟩ K := by
 subst hset
 exact AW.le (StLe.nilOwn ho) hr

/-- A nil slice in one of the cells of an object of ours is an empty one. -/
theorem StLe.nilCell {n k j0 : Nat} {t : TypeId} {cs : List AV} (ho : own[n]? = some (.cells t cs)) (hc : cs[j0]? = some .nil) : StLe d ⟨sz, fr, up, own, dfs, rnd⟩ ⟨sz, fr, up, own.set n (.cells t (cs.set j0 (.slice true k []))), dfs, rnd⟩ := by
 refine ⟨fun G a w h => ?_, rfl, rfl, rfl⟩
 refine ⟨h.size, h.slots, ⟨fun i x hx => ?_, ?_, h.heap.inj⟩, h.defs, fun o hoo => ?_, h.defsNodup, h.defsGe, h.tags, h.rnd, h.low⟩
 ·by_cases hi : i = up.length + n
  ·subst hi
   simp only at hx
   rw [get_own, List.getElem?_set_self (List.getElem?_eq_some_iff.1 ho).1] at hx
   injection hx with hx
   subst hx
   have hob := h.heap.obj (up.length + n) (.cells t cs) (by simp only [get_own]; exact ho)
   obtain ⟨vs, h1, h2, h3, h4⟩ := hob
   refine ⟨vs, h1, by simpa using h2, fun j y u p q => ?_, by simpa using h4⟩
   by_cases hj : j = j0
   ·subst hj
    rw [List.getElem?_set_self (List.getElem?_eq_some_iff.1 hc).1] at p
    have e : y = .slice true k [] := by simpa using p.symm
    subst e
    exact (h3 j .nil u hc q).le (.nil _ _)
   rw [List.getElem?_set_ne (fun e => hj e.symm)] at p
   exact h3 j y u p q
  refine h.heap.obj i x ?_
  simp only at hx ⊢
  rwa [← set_append_own, List.getElem?_set_ne (fun e => hi e.symm)] at hx
 ·have := h.heap.n; simpa using this
 have h1 := h.defsAt o hoo
 simp only at h1 ⊢
 rw [← set_append_own]
 by_cases hi : o = up.length + n
 ·subst hi
  rw [get_own, ho] at h1
  cases h1
 rw [List.getElem?_set_ne (fun e => hi e.symm)]
 exact h1
theorem R.nilCell {l : List Oper} (n j0 k : Nat) {t : TypeId} {cs : List AV} (hr : ARun P d ops l ⟨sz, fr, up, own', dfs, rnd⟩ Q) (ho : own[n]? = some (.cells t cs) := by rfl) (hc : cs[j0]? = some .nil := by rfl) (hset : own.set n (.cells t (cs.set j0 (.slice true k []))) = own' := by exact sL0) :
  ARun P d ops l ⟨sz, fr, up, own, dfs, rnd⟩ Q := by
 subst hset
 exact ARun.le (StLe.nilCell ho hc) hr

/-- Objects of whoever waits refer to one another alone. -/
theorem R.assumeLow {l : List Oper} (h : (∀ x ∈ up, ObjLow up.length x) → ARun P d ops l ⟨sz, fr, up, own, dfs, rnd⟩ Q) : ARun P d ops l ⟨sz, fr, up, own, dfs, rnd⟩ Q := fun G a w hr => h hr.low G a w hr

/-! ### Ends of rounds -/
variable {l df : Nat} {ps : Array Tmp} {as bd : Code} {post : Bool → List AObj → Prop} {st : St} {x : LoopState} {pd : Option Code}
theorem K.rdN (hl : st.up[l]? = some (.loop x pd fr sz ps as bd df)) (h : post true (st.up.set l (.loop .ready none fr sz ps as bd df))) : roundK l fr sz ps as bd df post .normal st := ⟨⟨x, pd, hl⟩, h⟩
theorem K.rdR (hl : st.up[l]? = some (.loop x pd fr sz ps as bd df)) (h : post false (st.up.set l (.loop .done (some .ret) fr sz ps as bd df))) : roundK l fr sz ps as bd df post .ret st := ⟨⟨x, pd, hl⟩, h⟩
end
end Go.SX
