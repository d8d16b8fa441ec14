/- Texts on the way to this: QueryParses answers true for whatever it is handed: any source of up to 2000 bytes is parsed as the reference says, or the first fault is told; what is parsed is right, and printed it is parsed as the same. (part 11) -/
import Derived.Test.YtldolkjhlcpidaaGreatDoorQueryParsesCardSaidPart10
set_option linter.all false
namespace Go.SX.Nb
open Go Go.SX Go.Proofs
variable [ErrAt]
set_option maxRecDepth 4000
theorem AE4 : Tryz.prog.eqGuardType Tryz.prog.depth 33 = false := by kernel_rfl
theorem vt (k n k' n' : Int) (w : World) : (Op.equal 33 (.agg #[.int .i64 k, .int .i64 n]) (.agg #[.int .i64 k', .int .i64 n'])).run Tryz.prog w = .ok (k == k' && n == n') w := by
 have h1 : Tryz.prog.stoodInHeld 33 = false := by kernel_rfl
 show (Op.equalIn (9999 + 1) _ _ _).run _ _ = _
 rw [Op.equalIn]
 generalize hd : (9999 : Nat) = d
 obtain ⟨d, rfl⟩ : ∃ e, d = e + 1 := ⟨9998, hd.symm⟩
 clear hd
 simp [run_underlying Tryz.underlying33, h1, part, cc _ _ _ _ _ _ Tryz.underlying31, cc _ _ _ _ _ _ Tryz.underlying3, Tryz.isAgg31, Tryz.isAgg3]
 by_cases e1 : k = k' <;> by_cases e2 : n = n' <;> simp [e1, e2]
theorem ACn {q : Qry} (h : PdOk q) : QW q := by
 have hw : okE 61 q.whr ∧ sizeE q.whr ≤ 1048576 := by
  cases ha : Ej q with
  | false => rw [Xy ha]; exact ⟨Jr (by decide), by decide⟩
  | true =>
   obtain ⟨h1, h2⟩ := Tn (h.tree ha)
   exact ⟨Db (by decide) h1, by omega⟩
 refine ⟨hw.1, hw.2, h.rng, by have := h.len; omega, fun s hs => ?_⟩
 have := h.names s hs
 rw [E8, Pm] at this
 simp only [Bool.and_eq_true, Bool.not_eq_true', Bool.or_eq_false_iff, decide_eq_false_iff_not] at this
 omega
theorem Ya (s : Str) : QW (An s).1 := by
 by_cases h : (An s).2.1 = 0
 ·exact ACn (Nj h)
 have : (An s).1 = K2 := by
  unfold An at h ⊢
  split
  ·rfl
  rename_i h1
  rw [if_neg h1] at h
  unfold Eo at h ⊢
  split
  ·rfl
  rename_i h2
  rw [if_neg h2] at h
  exact absurd rfl h
 rw [this]
 exact vr
theorem bw {s : Str} (h : (An s).2.1 = 0) : Hz (An s).1 = ([], 3) ∨ (Hz (An s).1 = (Cl (An s).1, 0) ∧ (Cl (An s).1).length ≤ 4000 ∧ An (Cl (An s).1) = ((An s).1, 0, 0)) := by
 have hr := Iy h
 by_cases hl : decide ((4000 : Int) < ((Cl (An s).1).length : Int)) = true
 ·exact .inl (V3 hr hl)
 have hl4 : (Cl (An s).1).length ≤ 4000 := by simp only [decide_eq_true_eq] at hl; omega
 exact .inr ⟨fa hr (by simpa using hl), hl4, V0 h hl4⟩
theorem pt {q : Qry} : (Hz q).1.length ≤ 4000 := by
 unfold Hz
 split
 ·split
  ·exact Nat.zero_le _
  rename_i h
  simp only [decide_eq_true_eq] at h
  show (Cl q).length ≤ 4000
  omega
 exact Nat.zero_le _
theorem c3 (s : Str) (Hp : List AObj) : AFun Tryz.prog 3 [A7 s] Hp (Ao true) := by
 refine ACall.body [.tmp 2] [0] Tryz.func3 Tryz.ntmps3 (fun d => ?_)
 refine Lq ?_;refine Z29 ?_;refine R.call Tryz.call5 (c5 _) ?_;refine R.not ?_;refine R.fin [0, 12] ?_
 refine W.cond (fun ht12 => ?_) (fun ht12 => ?_)
 ·cases ht12
 refine Vy ?_;refine Za ?_;refine R.fin [0, 15] ?_
 refine W.cond (fun ht15 => ?_) (fun ht15 => ?_)
 ·refine Z24 ?_;exact AAq
 have hs2 : s.length ≤ 2000 := by simp at ht15; omega
 have hw := Ya s
 refine Ls ?_;refine R.call Tryz.call6 (c6 s (by omega) _) ?_;refine Z78 ?_;refine gn ?_;refine Rj ?_;refine Z0 ?_;refine R.call Tryz.call7 (c7 s (by omega) _) ?_;refine Z78 ?_;refine gn ?_;refine R.fin [3, 4, 5, 6] ?_;refine W.seq ?_;refine Z20 ?_;refine Kr ?_;refine R.neqAgg AE4 (vt (An s).2.1 (An s).2.2 (An s).2.1 (An s).2.2) ?_;refine C3 ?_;refine G.loadOwnN jA jS ?_;refine G.loadOwnN jA jS ?_;refine G.call Tryz.call8 (fun hB => c8 (An s).1 (An s).1 hw _) ?_;refine G.not ?_;refine H7 ?_;refine R.fin [3, 4, 34] ?_
 refine W.cond (fun ht34 => ?_) (fun ht34 => ?_)
 ·simp [Tp] at ht34
 refine Zi ?_;refine xk ?_;refine R.fin [3, 37] ?_
 refine W.cond (fun ht37 => ?_) (fun ht37 => ?_)
 ·refine Z24 ?_;exact AAq
 have h0 : (An s).2.1 = 0 := by simpa using ht37
 have hr := Iy h0
 have hlaw := bw h0
 refine Zd ?_;refine R.call Tryz.call9 (c9 (An s).1 hw _) ?_;refine Zg ?_;refine R.fin [3, 7, 8] ?_;refine Z0 ?_
 refine R.call Tryz.call6 (c6 (Hz (An s).1).1 (by have := pt (q := (An s).1); omega) _) ?_
 refine Z78 ?_;refine gn ?_;refine R.fin [3, 8, 9, 10] ?_;refine Z20 ?_;refine R.call Tryz.call10 (c10 (An s).1 hw _) ?_;refine Z14 ?_;refine G.eql ?_;refine Rg ?_;refine G.eql ?_;refine G.move ?_;refine G.fieldAddrPtr (fo := 0) jU Tryz.sizeOf31 ?_;refine G.loadOwn jA ?_;refine G.eql ?_;refine G.pickAnd ?_;refine G.move ?_;refine G.loadOwnN jA jS ?_;refine G.loadOwnN jA jS ?_;refine G.call Tryz.call8 (fun hB => c8 (An (Hz (An s).1).1).1 (An s).1 (Ya _) _) ?_;refine G.pickAnd ?_;refine G.pickOr ?_;refine ge ?_;exact K.fin (V.one V.tmp) ⟨by rcases hlaw with h | ⟨h1, _, h2⟩; (rw [h, hr]; rfl); (rw [h1, h2, hr, Tp]; rfl), rfl⟩

end Go.SX.Nb
