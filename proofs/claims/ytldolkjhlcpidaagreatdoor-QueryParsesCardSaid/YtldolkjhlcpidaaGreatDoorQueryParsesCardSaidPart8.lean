/- Texts on the way to this: QueryParses answers true for whatever it is handed: any source of up to 2000 bytes is parsed as the reference says, or the first fault is told; what is parsed is right, and printed it is parsed as the same. (part 8) -/
import Derived.Lib.AtoiAllCases
import Derived.Lib.AtoiTie
import Derived.Test.YtldolkjhlcpidaaGreatDoorQueryParsesCardSaidPart7
set_option linter.all false
namespace Go.SX.Nb
open Go Go.SX Go.Proofs
variable [ErrAt]
set_option maxRecDepth 4000
/-- within, with the function that gathers a call's kids. -/
theorem AC1 (l : List Tok) (S : PS) (a : Int) (t : Str) (Dv : Fam) (o : Nat) (Hp : List AObj) (A0 A1 : AObj) (l0 : ObjLow 0 A0) (ho : Hp[o]? = some (pr l S)) (hi : S.i < l.length) (hl : TokEnd l) (hll : l.length ≤ 1048576) (hnl : S.nest ≤ 30) (hd : DeepC l Dv S.nest) :
  ACall Tryz.prog 169 [.ptr o 0, A3 a, .fn (.func 208) [] [.ptr (oid Hp.length 2) 0, .ro [.ptr o 0]]] (Hp ++ [A0, A1, xo true t []]) (fun r H' => r = Af (if S.nest = 30 then Aj else .mk 6 t noV (F8 l a Dv.ei S).1) ∧ H' = Hp.set o (pr l (F8 l a Dv.ei S).2) ++ [A0, A1, xo true t (F8 l a Dv.ei S).1]) := by
 have hlt := (List.getElem?_eq_some_iff.1 ho).1
 have ho' : (Hp ++ [A0, A1, xo true t []])[o]? = some (pr l S) := Ab ho
 by_cases h30 : S.nest = 30
 ·refine (sn l S a 208 [] [.ptr (oid Hp.length 2) 0, .ro [.ptr o 0]] Aj (Al S) o (Hp ++ [A0, A1, xo true t []]) ((Hp ++ [A0, A1, xo true t []]).set o (pr l (Al S))) ho' (by omega) Tryz.call208 (by simp) (Aa ho') rfl (fun h => h) (fun h => absurd h30 h)).mono fun r H' h => ?_
  have e : F8 l a Dv.ei S = ([], B4 18 a S) := if_pos (by rw [h30]; rfl)
  rw [e, if_pos h30]
  obtain ⟨h1, h2⟩ := h.1 h30
  exact ⟨h1, by rw [h2, List.set_append_left _ _ hlt]⟩
 have hq := Lb (S := Al S) hl hi (hd.ei h30).1
 refine (sn l S a 208 [] [.ptr (oid Hp.length 2) 0, .ro [.ptr o 0]] (.mk 6 t noV (Ea l Dv.ei (Al S)).1) (Ea l Dv.ei (Al S)).2 o (Hp ++ [A0, A1, xo true t []]) (Hp.set o (pr l (Ea l Dv.ei (Al S)).2) ++ [A0, A1, xo true t (Ea l Dv.ei (Al S)).1]) ho' (by omega) Tryz.call208 (by simp) (Ab (Aa ho)) hq.nest (fun h y hy => ?_) (fun _ own => ?_)).mono fun r H' h => ?_
 ·rw [List.set_append_left _ _ hlt] at h
  rcases List.mem_append.1 hy with hy | hy
  ·rcases List.mem_or_eq_of_mem_set hy with h1 | h1
   ·obtain ⟨i, hi', rfl⟩ := List.getElem_of_mem h1
    by_cases hio : i = o
    ·subst hio
     have : Hp[i] = pr l S := by rw [List.getElem?_eq_getElem hi'] at ho; injection ho
     rw [this]; exact C1
    refine h _ (List.mem_append_left _ ?_)
    rw [List.mem_iff_getElem?]
    exact ⟨i, by rw [List.getElem?_set_ne (Ne.symm hio), List.getElem?_eq_getElem hi']⟩
   rw [h1]; exact C1
  simp only [List.mem_cons, List.not_mem_nil, or_false] at hy
  rcases hy with rfl | rfl | rfl
  ·exact h _ (List.mem_append_right _ (by simp))
  ·exact h _ (List.mem_append_right _ (by simp))
  exact yr
 ·have hoid : oid Hp.length 2 ≠ o := by unfold oid; omega
  have e1 : (Hp ++ [A0, A1, xo true t []]).set o (pr l (Al S)) ++ own = (Hp.set o (pr l (Al S)) ++ [A0, A1, xo true t []]) ++ own := by rw [List.set_append_left _ _ hlt]
  rw [e1]
  have g1 : ((Hp.set o (pr l (Al S)) ++ [A0, A1, xo true t []]) ++ own)[o]? = some (pr l (Al S)) := Ab (Ab (Aa ho))
  have g2 : ((Hp.set o (pr l (Al S)) ++ [A0, A1, xo true t []]) ++ own)[oid Hp.length 2]? = some (xo true t []) := Ab (by
   have := Ap (U := Hp.set o (pr l (Al S))) (O := [A0, A1, xo true t []]) (n := 2)
   rw [List.length_set] at this
   exact this)
  refine (ADu l (Al S) t Dv o (oid Hp.length 2) _ hoid g1 g2 hi hl hll (hd.ei h30).1 (hd.ei h30).2).mono fun r H' h => ⟨h.1, h.2.trans ?_⟩
  rw [List.append_assoc, List.set_append_left _ _ (by simpa using hlt), List.set_set]
  have := Ed (U := Hp.set o (pr l (Ea l Dv.ei (Al S)).2)) (O := [A0, A1, xo true t []] ++ own) (n := 2) (x := xo true t (Ea l Dv.ei (Al S)).1)
  rw [List.length_set] at this
  rw [this]
  simp
 have e : F8 l a Dv.ei S = ((Ea l Dv.ei (Al S)).1, Do (Ea l Dv.ei (Al S)).2) := if_neg (by
  show ¬ (((S.nest : Int) == 30) = true)
  simp
  omega)
 rw [e, if_neg h30]
 obtain ⟨h1, h2⟩ := h.2 h30
 exact ⟨h1, by rw [h2, List.set_append_left _ _ (by simpa using hlt), List.set_set]⟩
theorem ADv (l : List Tok) (S : PS) (Dv : Fam) (t : Tok) (o : Nat) (Hp : List AObj) (ho : Hp[o]? = some (pr l S)) (hi : (A2 S).i < l.length) (hl : TokEnd l) (hll : l.length ≤ 1048576) (hnl : S.nest ≤ 30) (hd : DeepC l Dv S.nest) : ACall Tryz.prog 206 [.ptr o 0, D0 t] Hp (fun r H' => r = Af (Dx l Dv t S).1 ∧ H' = Hp.set o (pr l (Dx l Dv t S).2)) := by
 have hi0 : S.i < l.length := by have : S.i + 1 < l.length := hi; omega
 have hol := (List.getElem?_eq_some_iff.1 ho).1
 have hkf : KFact l (A2 S) (Av l Dv S) := Qa hl _ hi (fun h => (hd.ei h).1)
 refine ACall.body [.cell 4 28] [0, 1] Tryz.func206 Tryz.ntmps206 (fun d => ?_)
 refine gu ?_;refine J4 ?_;refine R.fin [2, 3, 4] ?_;refine gm ?_;refine R.call Tryz.call101 (ABo t.text _) ?_;refine B3 ?_;refine Rk ?_;refine Pg ?_;refine R.fin [2, 3, 4, 5, 12] ?_
 refine W.cond (fun ht12 => ?_) (fun ht12 => ?_)
 ·have hlt0 : B7 t.text < 0 := by simpa using ht12
  have e : Dx l Dv t S = (Aj, B4 9 t.at_ S) := if_pos hlt0
  refine gj ?_;refine Z37 ?_;refine R.callUp Tryz.call82 ho (by simp) C1 (c82 l S 9 t.at_ o _ (Ab ho)) ?_;refine Z89 ?_;exact Z83
 have hge : ¬ B7 t.text < 0 := by simpa using ht12
 refine Oa ?_;refine Ff ?_;refine R.callUp Tryz.call141 ho (by simp) C1 (mi l S o _ (Ab ho) hi0 hll) ?_;refine Z10 ?_;refine R.fin [2, 3, 4, 5, 6] ?_;refine AAi ?_;refine Z10 ?_;refine R.fin [2, 3, 4, 5, 6, 7] ?_;refine B9 ?_;refine R.nilCell 2 5 6 ?_;refine Ff ?_;refine Z90 ?_;refine R.makeFunc ?_
 refine R.callX (up' := (Hp.set o (pr l (A2 S))).set o (pr l (Av l Dv S).2)) (own' := [I2, .cells 52 [A3 (A4 l S.i).kind, A7 (A4 l S.i).text, A3 (A4 l S.i).at_], xo true t.text (Av l Dv S).1]) Tryz.call169 (by have := AC1 l (A2 S) (A4 l S.i).at_ t.text Dv o (Hp.set o (pr l (A2 S))) I2 (.cells 52 [A3 (A4 l S.i).kind, A7 (A4 l S.i).text, A3 (A4 l S.i).at_]) cn (Aa ho) hi hl hll hnl hd; rw [List.length_set] at this; exact this) (by simp) (fun h => sq h C1) ?_
 refine R.fin [2, 3, 4, 5, 7] ?_;refine gj ?_;refine R.callUp Tryz.call207 (Aa (Aa ho)) (by simp) C1 (ABs l (Av l Dv S).2 Aw o _ (Ab (Aa (Aa ho))) hkf.lt hll) ?_;refine R.fin [2, 3, 4, 5, 7] ?_;refine Z29 ?_;refine Ff ?_;refine Z85 ?_;refine R.loadUp jA (Aa (Aa (Aa ho))) ?_;refine Rh ?_;refine G.fieldAddrPtr (fo := 5) jU Tryz.sizeOf26 ?_;refine G.loadOwn jA ?_;refine G.len jU ?_;refine G.move ?_;refine G.neq ?_;refine F6 ?_;refine R.fin [2, 3, 4, 7, 41] ?_
 refine W.cond (fun ht41 => ?_) (fun ht41 => ?_)
 ·have e : Dx l Dv t S = (Aj, B4 8 t.at_ (Ay l Aw (Av l Dv S).2)) := by
   unfold Dx
   rw [if_neg hge, if_pos (by have := ht41; simp only [List.length_map] at this; exact this)]
  refine gj ?_;refine Z37 ?_;refine R.callUp Tryz.call82 (Aa (Aa (Aa ho))) (by simp) C1 (c82 l (Ay l Aw (Av l Dv S).2) 8 t.at_ o _ (Ab (Aa (Aa (Aa ho))))) ?_;refine gw ?_;exact K.fin (V.one (V.cellN jA jS)) ⟨by rw [e, A8], by rw [e, List.set_set, List.set_set, List.set_set]⟩ (hlow := low_agg _)
 have e : Dx l Dv t S = (.mk 6 t.text noV (Av l Dv S).1, (Ay l Aw (Av l Dv S).2)) := by
  unfold Dx
  rw [if_neg hge, if_neg (by have := ht41; simp only [List.length_map] at this; rw [Bool.eq_false_iff] at this; exact this)]
 refine Zd ?_;refine Z89 ?_;exact K.fin (V.one (V.cellN jA jS)) ⟨by rw [e, Up]; rfl, by rw [e, List.set_set, List.set_set]⟩ (hlow := by have := Ag Hp.length (.mk 6 t.text noV (Av l Dv S).1); rw [Up] at this; simpa using this)

theorem ja {l : List Tok} (hl : TokEnd l) (hll : l.length ≤ 1048576) (n : Nat) (Dv : Fam) (hn : n ≤ 30) (hd : DeepC l Dv n) : Wy l Dv n := fun o Hp S t ho hi hS _ _ => by
 subst hS
 exact ADv l S Dv t o Hp ho hi hl hll hn hd
/-! Queries: what query.Parse, Print, Right, Same answer. -/
structure Qry where
 all : Bool
 cols : List Str
 whr : Expr
 lim : Int
/-- A parser: where it is, and the first fault. -/
structure QS where
 i : Nat
 code : Int
 at_ : Int
def Bq (l : List Tok) (e : Int) (S : QS) : QS := if S.code == 0 then ⟨S.i, e, ((A4 l S.i).at_ : Int)⟩ else S
def isQ (l : List Tok) (s : Str) (S : QS) : Bool := ((S.code == 0) && (((A4 l S.i).kind == 5) || ((A4 l S.i).kind == 2))) && ((A4 l S.i).text == s)
def Ai (S : QS) : QS := ⟨S.i + 1, S.code, S.at_⟩
def Xn (l : List Tok) (s : Str) (S : QS) : QS := if isQ l s S then Ai S else S
def Ei (l : List Tok) (s : Str) (S : QS) : QS := if isQ l s S then Ai S else Bq l 8 S
def Cd (l : List Tok) (r : Qry × QS) : Qry × QS :=
 if r.2.code != 0 then r else if (A4 l r.2.i).kind != 1 then (r.1, Bq l 8 r.2) else if (r.1.cols.length : Int) == 12 then (r.1, Bq l 3 r.2)
 else (⟨r.1.all, r.1.cols ++ [(A4 l r.2.i).text], r.1.whr, r.1.lim⟩, Ai r.2)
def Cq (l : List Tok) : Nat → Qry × QS → Qry × QS
 | 0, r => r
 | n + 1, r => if isQ l [44] r.2 then Cq l n (Cd l (r.1, Ai r.2)) else r
def Ec (b : Bool) (q : Qry) : Qry := ⟨b, q.cols, q.whr, q.lim⟩
def Du (l : List Tok) (r : Qry × QS) : Qry × QS := if isQ l [42] r.2 then (Ec true r.1, Ai r.2) else Cq l l.length (Cd l (Ec false r.1, r.2))
def De : Str := [119, 104, 101, 114, 101]
def Cr : Str := [108, 105, 109, 105, 116]
def Fb : Str := [115, 101, 108, 101, 99, 116]
def Cs (l : List Tok) (r : Qry × QS) : Qry × QS :=
 if isQ l De r.2 then
  if (atM l (r.2.i + 1)).2.2.1 != 0 then (r.1, ⟨r.2.i + 1, (atM l (r.2.i + 1)).2.2.1, (atM l (r.2.i + 1)).2.2.2⟩)
  else (⟨r.1.all, r.1.cols, (atM l (r.2.i + 1)).1, r.1.lim⟩, ⟨(atM l (r.2.i + 1)).2.1.toNat, r.2.code, r.2.at_⟩)
 else r
/-- The number that strconv.Atoi hands back. -/
def Gs (s : Str) : Int := match Lib.atoiAll s with | .ok v => v | .range => Lib.atoiSat s | _ => 0
def Ck (l : List Tok) (r : Qry × QS) : Qry × QS :=
 if isQ l Cr r.2 then
  if (A4 l (r.2.i + 1)).kind != 3 then (r.1, Bq l 8 (Ai r.2))
  else if decide ((100000 : Int) < Gs (A4 l (r.2.i + 1)).text) then (r.1, Bq l 3 (Ai r.2))
  else (⟨r.1.all, r.1.cols, r.1.whr, Gs (A4 l (r.2.i + 1)).text⟩, Ai (Ai r.2))
 else r
def K2 : Qry := ⟨false, [], Aj, 0⟩
def bj (l : List Tok) (S : QS) : QS := if (A4 l S.i).kind != 0 then Bq l 8 S else S
def Qt (l : List Tok) : Qry × QS :=
 let r := Ck l (Cs l (Du l (⟨false, [], Aj, -1⟩, Ei l Fb ⟨0, 0, 0⟩)))
 (r.1, bj l (Ei l [59] r.2))
def Eo (l : List Tok) : Qry × Int × Int := if (Qt l).2.code != 0 then (K2, (Qt l).2.code, (Qt l).2.at_) else ((Qt l).1, 0, 0)
def An (s : Str) : Qry × Int × Int := if (A6 s).2.1 != 0 then (K2, (A6 s).2.1, ((A6 s).2.2 : Int)) else Eo (A6 s).1
def Ej (q : Qry) : Bool := !(eqE q.whr Aj)
def Ft (q : Qry) : Bool :=
 if (((q.all != ((q.cols.length : Int) == 0)) || decide ((12 : Int) < (q.cols.length : Int))) || decide (q.lim < -1)) || decide ((100000 : Int) < q.lim) then false
 else (q.cols.all Ch) && (!(Ej q) || Bt q.whr)
def nx (a b : Qry) : Bool := (((a.all == b.all) && (a.lim == b.lim)) && decide (a.cols = b.cols)) && eqE a.whr b.whr
def I3 : List Str → Str
 | [] => []
 | a :: r => [44, 32] ++ a ++ I3 r
def Mk (c : List Str) : Str := (I3 c).drop 2
def ue : Str := Fb ++ [32]
def Xo : Str := [32] ++ De ++ [32]
def Xp : Str := [32] ++ Cr ++ [32]
def Cl (q : Qry) : Str :=
 ue ++ (if q.all then [42] else Mk q.cols) ++ (if Ej q then Xo ++ Ac q.whr else []) ++ (if q.lim != -1 then Xp ++ Lib.itoa q.lim else []) ++ [59]
/-! The words of what is printed. -/
def I4 : List Str → List TK
 | [] => []
 | a :: r => (5, [44]) :: (1, a) :: I4 r
def Lg (q : Qry) : List TK := if q.all then [(5, [42])] else (I4 q.cols).drop 1
def Kz (q : Qry) : List TK := if Ej q then (2, De) :: Ah q.whr else []
def Gi (q : Qry) : List TK := if q.lim != -1 then [(2, Cr), (3, Lib.itoa q.lim)] else []
def ny (q : Qry) : List TK := (2, Fb) :: (Lg q ++ (Kz q ++ (Gi q ++ [(5, [59])])))
end Go.SX.Nb
namespace Go.SX
variable [GI : GlobInv]
open Classical
section
variable {P : Program} {d : Nat} {st : St} {ty : TypeId} {pos : String} {aft : Array Edge} {gd : Option (Nat × Bool)}
/-- A variable of its own, not laid yet. -/
theorem AOp.allocP {t : TypeId} {z : Value} {k s : Nat} (hz : ∀ w, (zeroValue t).run P w = .ok z w) (hk : z.cells.size = k) (hs : s < st.sz) :
  AOp P d ⟨some s, .alloc t, ty, pos, aft, gd⟩ st (· = st.set s (.cellp k)) := by
 subst hk
 intro G a w h Q'
 let G' : Gh := { G with tag := fun b o => if b = w.heap.size ∧ o < z.cells.size then .tail (.slot d s) else G.tag b o }
 have hfree : ∀ o, G.tag w.heap.size o = .free := fun o => Cy h.tags _ o (Nat.le_refl _)
 have hne : ∀ b o, G.tag b o ≠ .free → ¬ (b = w.heap.size ∧ o < z.cells.size) := fun b o hb hc => by rw [hc.1] at hb; exact hb (hfree o)
 have hkeep : ∀ b o, G.tag b o ≠ .free → G'.tag b o = G.tag b o := fun b o hb => by simp only [G']; rw [if_neg (hne b o hb)]
 have hcell : ∀ b o, G.tag b o ≠ .free → (w.alloc (.cells z.cells t)).cell? ⟨b, o, none⟩ = w.cell? ⟨b, o, none⟩ := fun b o hb => by
  refine World.cell?_alloc_old _ _ _ ?_
  show b ≠ w.heap.size
  rintro rfl
  exact hb (hfree o)
 have T : Turn G w G' (w.alloc (.cells z.cells t)) := by
  refine ⟨fun b o hb => ⟨by rw [hkeep b o (by rw [hb]; simp)]; exact hb, hcell b o (by rw [hb]; simp)⟩, fun b o L hb => by rw [hkeep b o (by rw [hb]; simp)]; exact hb, fun b o i hb => by rw [hkeep b o (by rw [hb]; simp)]; exact hb, Nat.le_refl _, fun o ho => rfl, rfl, rfl, rfl, by simp, Still.alloc _ (fun b o hb => .inl (by simp only [G']; rw [if_neg (by omega)])) (fun i hi => .inl ⟨hi, rfl⟩)⟩
 have h1 : StRel d G' st a (w.alloc (.cells z.cells t)) := by
  refine h.turn (U := st.up) (O := st.own) T ⟨fun i x hx => T.objRel ?_ ?_ (h.heap.obj i x hx) (fun b hb => ?_), h.heap.n, h.heap.inj⟩ rfl h.defsAt ⟨fun b o hb => ?_, fun b o i hb => ?_, fun b o L hb => ?_, h.tags.globKeep T.old⟩ h.low
  ·rw [h.heap.n]; exact (List.getElem?_eq_some_iff.1 hx).1
  ·have := (h.heap.obj i x hx).blt
   show (w.heap.push _)[G.blk i]? = _
   rw [Array.getElem?_push, if_neg (by omega)]
  ·have := hb.lt
   show (w.heap.push _)[b]? = _
   rw [Array.getElem?_push, if_neg (by omega)]
  ·simp only [G'] at hb
   split at hb
   ·rename_i hc
    obtain ⟨rfl, hlt⟩ := hc
    exact ⟨z.cells[o], by rw [World.cell?_alloc_new]; exact Array.getElem?_eq_getElem hlt⟩
   rw [hcell b o hb]
   exact h.tags.ex b o hb
  ·simp only [G'] at hb
   split at hb
   ·cases hb
   rw [World.frozen?_alloc_old]
   ·exact h.tags.obj b o i hb
   show b ≠ w.heap.size
   rintro rfl
   rw [hfree] at hb; cases hb
  simp only [G'] at hb
  split at hb
  ·rename_i hc
   obtain ⟨rfl, hlt⟩ := hc
   exact World.frozen?_alloc_new _ _ _ _
  rw [World.frozen?_alloc_old]
  ·exact h.tags.tail b o L hb
  show b ≠ w.heap.size
  rintro rfl
  rw [hfree] at hb; cases hb
 have hrun : (execOp a.eval (⟨some s, .alloc t, ty, pos, aft, gd⟩ : Oper)).run P w = .ok (.value (.pointer (some ⟨w.heap.size, 0, none⟩))) (w.alloc (.cells z.cells t)) := by
  simp [execOp, Instr.alloc, hz, newVar, newRow]
 refine Bv (by intro c h; cases h) hrun ⟨G', _, h1.put (s := s) (y := .cellp z.cells.size) hs ?_, T.keep d, rfl, rfl, rfl, rfl⟩
 exact .cellp _ _ _ ⟨_, rfl, fun o ho => by simp [G', ho]⟩

/-- It is laid: from now on nobody writes it. -/
theorem AOp.storeP {t : TypeId} {x : Operand} {r k : Nat} {y : AV} (hsz : ∀ w, (sizeOf t).run P w = .ok k w) (hf : st.fr r = .cellp k) (hx : st.ev x = y) (hk : y.cells.length = k) (hk0 : 0 < k) (h1 : y.cells.all AV.one = true) :
  AOp P d ⟨none, .store t (.tmp r) x, ty, pos, aft, gd⟩ st (· = st.set r (.ro y.cells)) := by
 intro G a w h Q'
 have hone : ∀ c ∈ y.cells, c.one = true := fun c hc => List.all_eq_true.1 h1 c hc
 obtain ⟨hc, hcc⟩ := (hx ▸ h.eval x).cells hone
 have hsl := h.slots r
 rw [hf] at hsl
 generalize hv : a.tmps.getD r undef = v at hsl
 cases hsl with
 | cellp l k b ho =>
  obtain ⟨L, hL, ht⟩ := ho
  injection hL with hL
  subst hL
  let us := (a.eval x).cells.toList
  have hul : us.length = k := by simp only [us, Array.length_toList]; omega
  have huone : ∀ u ∈ us, u.oneCell' = true := fun u hu => by
   obtain ⟨j, hj⟩ := List.getElem?_of_mem hu
   have hj' : (a.eval x).cells[j]? = some u := by rw [← Array.getElem?_toList]; exact hj
   have hlt : j < y.cells.length := by rw [← hc]; exact (Array.getElem?_eq_some_iff.1 hj').1
   exact (hcc j _ u (List.getElem?_eq_getElem hlt) hj').one (hone _ (List.getElem_mem hlt))
  have hrun0 := run_storeCells_cells (P := P) b 0 us 0 w (fun j hj => by
    obtain ⟨u, hu⟩ := h.tags.ex b j (by rw [ht j (by omega)]; simp)
    simp only [Nat.add_zero, Nat.zero_add]; rw [hu]; rfl) (fun j hj => by simpa using h.tags.tail _ _ _ (ht j (by omega))) huone
  simp only [Nat.add_zero] at hrun0
  let W := w.setCells b 0 us
  let G' : Gh := { G with tag := fun b' o => if b' = b ∧ o < k then .fix else G.tag b' o }
  have htag : ∀ b' o, G.tag b' o ≠ .tail (.slot d r) → G'.tag b' o = G.tag b' o := fun b' o hb => by
   simp only [G']
   rw [if_neg]
   rintro ⟨rfl, ho⟩
   exact hb (ht o ho)
  have hout : ∀ b' o, ¬ (b' = b ∧ o < k) → W.cell? ⟨b', o, none⟩ = w.cell? ⟨b', o, none⟩ := fun b' o hn =>
   World.cell?_setCells_out _ us 0 w ⟨b', o, none⟩ (fun hb _ => by
    simp only at hb ⊢
    exact .inr (Nat.le_of_not_lt fun h'' => hn ⟨hb, by omega⟩))
  have hcell : ∀ b' o, G.tag b' o ≠ .tail (.slot d r) → W.cell? ⟨b', o, none⟩ = w.cell? ⟨b', o, none⟩ := fun b' o hb => hout b' o (fun hn => hb (by rw [hn.1]; exact ht o hn.2))
  have hnb : ∀ i, i < G.n → G.blk i ≠ b := Iz h.heap h.tags (ht 0 hk0)
  have hheap : ∀ b', b' ≠ b → W.heap[b']? = w.heap[b']? := fun b' hb => C5 _ _ _ _ _ hb
  have hsize : W.heap.size = w.heap.size := C4 _ _ _ _
  have hstill : Still G w G' W := Still.tags (fun b' hb' => hheap b' (fun e => Gk (ht 0 hk0) (e ▸ hb'))) (Nat.le_of_eq hsize.symm) (fun b' o _ => by
   by_cases hc : b' = b ∧ o < k
   ·exact .inr ⟨_, by rw [hc.1]; exact ht o hc.2⟩
   exact .inl (by simp only [G']; rw [if_neg hc])) (fun i hi => .inl ⟨hi, rfl⟩)
  have hfix : ∀ b' o, G.tag b' o = .fix → G'.tag b' o = .fix ∧ W.cell? ⟨b', o, none⟩ = w.cell? ⟨b', o, none⟩ := fun b' o hb => ⟨by rw [htag b' o (by rw [hb]; simp)]; exact hb, hcell b' o (by rw [hb]; simp)⟩
  have htail : ∀ b' o L, L ≠ .slot d r → G.tag b' o = .tail L → G'.tag b' o = .tail L := fun b' o L hL hb => by
   rw [htag b' o (by rw [hb]; intro e; injection e with e; exact hL e)]; exact hb
  have hobj : ∀ b' o i, G.tag b' o = .obj i → G'.tag b' o = .obj i := fun b' o i hb => by rw [htag b' o (by rw [hb]; simp)]; exact hb
  have hrep : ∀ {l : Option Loc} {z : AV} {u : Value}, l ≠ some (.slot d r) → Rep G w l z u → Rep G' W l z u := fun hl hz =>
   hz.mono (G' := G') hfix (Nat.le_refl _) (fun _ _ => rfl) (fun L hL b' o ht' => htail b' o L (fun e => hl (by rw [hL, e])) ht')
  have hkeep : Keep d G w G' W := ⟨hfix, fun b' o e s he ht' => htail b' o _ (by rintro ⟨⟩; omega) ht', Nat.le_refl _, fun _ _ => rfl, E0 _ _ _ _, D4 _ _ _ _, Ce _ _ _ _, Nat.le_of_eq hsize.symm, hstill⟩
  have hvec : ∀ j u, us[j]? = some u → W.cell? ⟨b, j, none⟩ = some u := fun j u hu => by
   have hj := (List.getElem?_eq_some_iff.1 hu).1
   have hex : ∃ u', w.cell? ⟨b, j, none⟩ = some u' := h.tags.ex b j (by rw [ht j (by omega)]; simp)
   obtain ⟨u', hu'⟩ := hex
   have hbk : ∃ vs e fz, w.heap[b]? = some (.cells vs e fz) := by
    simp only [World.cell?] at hu'
    split at hu'
    ·rename_i vs e fz hb; exact ⟨vs, e, fz, hb⟩
    cases hu'
   obtain ⟨vs, e, fz, hbk⟩ := hbk
   have hlen : 0 + us.length ≤ vs.size := by
    rw [hul, Nat.zero_add]
    rcases Nat.lt_or_ge vs.size k with h' | h'
    ·exfalso
     obtain ⟨u2, hu2⟩ := h.tags.ex b vs.size (by rw [ht _ h']; simp)
     simp [World.cell?, hbk] at hu2
    exact h'
   obtain ⟨vs', b1, b2, b3⟩ := H4 b e fz us 0 w vs hbk hlen
   have b3' := b3 j
   rw [if_pos (by omega)] at b3'
   show (w.setCells b 0 us).cell? ⟨b, j, none⟩ = some u
   simp only [World.cell?, b1]
   rw [b3', Nat.sub_zero]
   exact hu
  have hst : StRel d G' (st.set r (.ro y.cells)) a W := by
   refine ⟨h.size, fun s => ?_, ⟨fun i z hz => ?_, h.heap.n, h.heap.inj⟩, h.defs, h.defsAt, h.defsNodup, h.defsGe, ⟨fun b' o hb => ?_, fun b' o i hb => ?_, fun b' o L hb => ?_, h.tags.globKeep hstill⟩, h.rnd, h.low⟩
   ·show Rep G' W _ (A5 r (.ro y.cells) st.fr s) _
    unfold A5
    by_cases hs : s = r
    ·subst hs
     rw [if_pos rfl, hv]
     refine .ro _ _ ⟨b, 0, none⟩ (fun j => (a.eval x).cells.getD j undef) rfl hone (fun j c hj => ?_) (fun j c hj => ?_)
     all_goals
      have hlt : j < y.cells.length := (List.getElem?_eq_some_iff.1 hj).1
      have hu : (a.eval x).cells[j]? = some ((a.eval x).cells[j]'(by omega)) := Array.getElem?_eq_getElem _
      have e1 : (a.eval x).cells.getD j undef = (a.eval x).cells[j]'(by omega) := by rw [Array.getD_eq_getD_getElem?, hu]; rfl
      rw [e1]
     ·refine ⟨by simp only [G', Nat.zero_add]; rw [if_pos ⟨trivial, by omega⟩], ?_⟩
      rw [Nat.zero_add]
      exact hvec j _ (by simp only [us]; rw [Array.getElem?_toList]; exact hu)
     exact hrep (by simp) (hcc j c _ hj hu)
    rw [if_neg hs]
    exact hrep (by simp; exact fun e => hs e) (h.slots s)
   ·have hob := h.heap.obj i z hz
    have hi : i < G.n := by rw [h.heap.n]; exact (List.getElem?_eq_some_iff.1 hz).1
    have hb := hheap (G.blk i) (hnb i hi)
    cases z with
    | cells t cs =>
     obtain ⟨vs, a1, a2, a3, a4⟩ := hob
     exact ⟨vs, hb.trans a1, a2, fun j y u p q => hrep (by simp) (a3 j y u p q), fun j hj => hobj _ _ _ (a4 j hj)⟩
    | loop sta pd fr sz ps asg bd df =>
     obtain ⟨fn, tmps, a1, a2, a3, a4⟩ := hob
     exact ⟨fn, tmps, hb.trans a1, a2, fun s => hrep (by simp) (a3 s), a4⟩
    | defs => exact hb.trans hob
    | dead => exact hb.trans hob
    | bld t e bs => exact BldRel.turn hob rfl (fun b' o ho => hobj b' o i ho) hb (fun b' ha => hheap b' (fun e => by
      have := ha.tag h.tags (o := 0) (by rw [e, ht 0 hk0]; simp)
      rw [e, ht 0 hk0] at this; cases this))
    | gone =>
     obtain ⟨vs, t, fz, a1, a2⟩ := hob
     exact ⟨vs, t, fz, hb.trans a1, fun j hj => (hfix _ _ (a2 j hj)).1⟩
   ·by_cases hc : b' = b ∧ o < k
    ·obtain ⟨rfl, ho⟩ := hc
     exact ⟨us[o]'(by omega), hvec o _ (List.getElem?_eq_getElem _)⟩
    rw [hout b' o hc]
    simp only [G', if_neg hc] at hb
    exact h.tags.ex b' o hb
   ·rw [World.frozen?_setCells]
    simp only [G'] at hb
    split at hb
    ·cases hb
    exact h.tags.obj b' o i hb
   rw [World.frozen?_setCells]
   simp only [G'] at hb
   split at hb
   ·cases hb
   exact h.tags.tail b' o L hb
  have hrun : (execOp a.eval (⟨none, .store t (.tmp r) x, ty, pos, aft, gd⟩ : Oper)).run P w = .ok .skip W :=
   E2 hsz (show a.eval (.tmp r) = _ from hv) (by omega) hrun0
  exact Di (by intro c h; cases h) hrun ⟨G', _, hst, hkeep, rfl, rfl, rfl, rfl⟩
end
section
variable {P : Program} {d : Nat} {sz : Nat} {dfs : List Nat} {rnd : Option Nat} {l0 : List Oper} {up own : (Nat → Bool) → List AObj} {E : List Oper → (Nat → AV) → Prop} {S : List SegY} {l : List Oper} {fr : Nat → AV} {ty : TypeId} {pos : String} {aft : Array Edge} {s : Nat} {T F : List Nat}
theorem Y.allocP {t : TypeId} {z : Value} {k : Nat} (hz : ∀ w, (zeroValue t).run P w = .ok z w) (h : ChainY P d l0 sz up own dfs rnd E S l (A5 s (.cellp k) fr)) (hk : z.cells.size = k := by rfl) (hs : Nat.blt s sz = true := by rfl) :
  ChainY P d l0 sz up own dfs rnd E (.s [s] none T F :: S) (⟨some s, .alloc t, ty, pos, aft, none⟩ :: l) fr := by
 refine ⟨_, l, [(s, .cellp k)], rfl, ⟨rfl, rfl, fun B f _ _ _ hf => ?_⟩, h⟩
 exact AOp.allocP (st := ⟨sz, f, up B, own B, dfs, rnd⟩) hz hk (by simpa using hs)
theorem Y.storeP {t : TypeId} {x : Operand} {r k : Nat} {y : AV} {ys : List AV} (hsz : ∀ w, (Go.sizeOf t).run P w = .ok k w) (h : ChainY P d l0 sz up own dfs rnd E S l (A5 r (.ro ys) fr))
  (hf : fr r = .cellp k := by exact sL0) (hx : A9 fr x = y := by exact sL0) (hc : y.cells = ys := by exact sL0)
  (hk : ys.length = k := by rfl) (hk0 : 0 < k := by decide) (h1 : ys.all AV.one = true := by exact sL4) :
  ChainY P d l0 sz up own dfs rnd E (.s [r] none T F :: S) (⟨none, .store t (.tmp r) x, ty, pos, aft, none⟩ :: l) fr := by
 subst hc
 refine ⟨_, l, [(r, .ro y.cells)], rfl, ⟨rfl, rfl, fun B f _ _ _ hfr => ?_⟩, h⟩
 have e : f r = fr r := hfr r (by simp [lk, Tv, Op.operands])
 have ex : A9 f x = y := by rw [agr hfr (by simp [Op.operands])]; exact hx
 exact AOp.storeP (st := ⟨sz, f, up B, own B, dfs, rnd⟩) hsz (e.trans hf) ex hk hk0 h1
end
end Go.SX
