/- Texts on the way to this: FuseOver answers true for whatever it is handed: any tree over any trees of any columns is what the chapter says, or the error, and the weight of trees is the sum of their nodes. (part 4) -/
import Derived.Test.YtepoiomaocjhfaaGreatDoorProg
import Derived.Test.YtepoiomaocjhfaaGreatDoorFuseOverCardSaidPart3
set_option linter.all false
namespace Go.SX.Nb
open Go Go.SX Go.Proofs
structure Hk (q : Prop) : Prop where h : q
variable {p q : Prop}
theorem Z0(k:q)(h:Hk q→p:=by intro qk;refine Cs ?_;refine R.go ?_;exact qk.h):p:=h ⟨k⟩
theorem Z1(k:q)(h:Hk q→p:=by intro qk;refine R.go ?_;refine R.go ?_;exact qk.h):p:=h ⟨k⟩
theorem Z2(k:q)(h:Hk q→p:=by intro qk;refine R.fin [2] ?_;refine AW.ret ?_;exact qk.h):p:=h ⟨k⟩
theorem Z4(k:q)(h:Hk q→p:=by intro qk;refine Z0 ?_;refine R.go ?_;exact qk.h):p:=h ⟨k⟩
theorem Z5(k:q)(h:Hk q→p:=by intro qk;refine K.blR ?_;refine K.thR ?_;exact qk.h):p:=h ⟨k⟩
theorem Z6(k:q)(h:Hk q→p:=by intro qk;refine AW.skip ?_;refine K.thN ?_;exact qk.h):p:=h ⟨k⟩
theorem Z7(k:q)(h:Hk q→p:=by intro qk;refine Z0 ?_;refine Z1 ?_;exact qk.h):p:=h ⟨k⟩
theorem Z9(k:q)(h:Hk q→p:=by intro qk;refine G.go ?_;refine G.go ?_;exact qk.h):p:=h ⟨k⟩
theorem Z11(k:q)(h:Hk q→p:=by intro qk;refine Fa ?_;refine Z2 ?_;exact qk.h):p:=h ⟨k⟩
theorem Z12(k:q)(h:Hk q→p:=by intro qk;refine K.blN ?_;refine K.thN ?_;exact qk.h):p:=h ⟨k⟩
theorem Z13(k:q)(h:Hk q→p:=by intro qk;refine AW.region ?_;refine Z1 ?_;exact qk.h):p:=h ⟨k⟩
theorem Z15(k:q)(h:Hk q→p:=by intro qk;refine R.alloc jZ ?_;refine Fa ?_;exact qk.h):p:=h ⟨k⟩
theorem Z16(k:q)(h:Hk q→p:=by intro qk;refine AW.skip ?_;refine Z12 ?_;exact qk.h):p:=h ⟨k⟩
theorem Z17(k:q)(h:Hk q→p:=by intro qk;refine D.go ?_;refine D.go ?_;exact qk.h):p:=h ⟨k⟩
theorem Z18(k:q)(h:Hk q→p:=by intro qk;refine W.seq ?_;refine Z7 ?_;exact qk.h):p:=h ⟨k⟩
theorem Z19(k:q)(h:Hk q→p:=by intro qk;refine W.seq ?_;refine AW.block ?_;exact qk.h):p:=h ⟨k⟩
theorem Z20(k:q)(h:Hk q→p:=by intro qk;refine Z0 ?_;refine Z2 ?_;exact qk.h):p:=h ⟨k⟩
theorem Z21(k:q)(h:Hk q→p:=by intro qk;refine Cs ?_;refine I6 ?_;refine Ud ?_;exact qk.h):p:=h ⟨k⟩
theorem Z23(k:q)(h:Hk q→p:=by intro qk;refine AW.ret ?_;refine K.thR ?_;exact qk.h):p:=h ⟨k⟩
theorem Z24(k:q)(h:Hk q→p:=by intro qk;refine Cs ?_;refine X0 ?_;exact qk.h):p:=h ⟨k⟩
theorem Z25(k:q)(h:Hk q→p:=by intro qk;refine Z1 ?_;refine R.go ?_;exact qk.h):p:=h ⟨k⟩
theorem Z26(k:q)(h:Hk q→p:=by intro qk;refine R.fin [4] ?_;refine AW.ret ?_;exact qk.h):p:=h ⟨k⟩
theorem Z27(k:q)(h:Hk q→p:=by intro qk;refine K.lpE ?_;refine K.thN ?_;exact qk.h):p:=h ⟨k⟩
theorem Z28(k:q)(h:Hk q→p:=by intro qk;refine W.seq ?_;refine Z4 ?_;exact qk.h):p:=h ⟨k⟩
theorem Z29(k:q)(h:Hk q→p:=by intro qk;refine Cs ?_;refine R.alloc jZ ?_;exact qk.h):p:=h ⟨k⟩
theorem Z30(k:q)(h:Hk q→p:=by intro qk;refine Z21 ?_;refine Z11 ?_;exact qk.h):p:=h ⟨k⟩
theorem Z32(k:q)(h:Hk q→p:=by intro qk;refine K.lpR ?_;refine K.thR ?_;exact qk.h):p:=h ⟨k⟩
theorem Z33(k:q)(h:Hk q→p:=by intro qk;refine Z7 ?_;refine R.go ?_;exact qk.h):p:=h ⟨k⟩
theorem Z34(k:q)(h:Hk q→p:=by intro qk;refine W.seq ?_;refine Z0 ?_;exact qk.h):p:=h ⟨k⟩
theorem Z35(k:q)(h:Hk q→p:=by intro qk;refine Z13 ?_;refine R.go ?_;exact qk.h):p:=h ⟨k⟩
theorem Z36(k:q)(h:Hk q→p:=by intro qk;refine Z1 ?_;refine Z9 ?_;exact qk.h):p:=h ⟨k⟩
theorem Z37(k:q)(h:Hk q→p:=by intro qk;refine AW.exit ?_;refine K.thE ?_;exact qk.h):p:=h ⟨k⟩
theorem Z38(k:q)(h:Hk q→p:=by intro qk;refine Z0 ?_;refine R.fin [0] ?_;exact qk.h):p:=h ⟨k⟩
theorem Z40(k:q)(h:Hk q→p:=by intro qk;refine Z1 ?_;refine Z2 ?_;exact qk.h):p:=h ⟨k⟩
theorem Z41(h:p:=by refine Z5 ?_;exact rc):p:=h
theorem Z42(k:q)(h:Hk q→p:=by intro qk;refine Z5 ?_;refine Z32 ?_;exact qk.h):p:=h ⟨k⟩
theorem Z43(h:p:=by refine Z5 ?_;exact K.fin (V.one V.tmp) ⟨by rw [hn]; first | (simp only [ht22, ht25, ht33, ht41, ht41, hk3, hk6, Bool.true_or, Bool.false_or, Bool.or_true, Bool.or_false, if_true, if_false, Bool.false_eq_true, ↓reduceIte] <;> rfl) | (simp only [ht22, ht25, ht33, ht41, ht41, hk3, Bool.true_or, Bool.false_or, Bool.or_true, if_true, if_false, Bool.false_eq_true, ↓reduceIte] <;> rfl) | (simp only [ht22, ht25, ht33, ht41, ht41, if_true, if_false, Bool.false_eq_true, ↓reduceIte] <;> rfl), rfl⟩):p:=h
theorem Z44(h:p:=by refine D.buildSlice jU jS jZ ?_;exact Sm):p:=h
theorem Z45(h:p:=by refine Z5 ?_;exact vr):p:=h
theorem Z46(k:q)(h:Hk q→p:=by intro qk;refine Z18 ?_;refine R.go ?_;exact qk.h):p:=h ⟨k⟩
theorem Z47(h:p:=by refine Z20 ?_;refine Z5 ?_;exact K.fin (V.one V.tmp) ⟨by simp_all [M9], rfl⟩):p:=h
theorem Z48(h:p:=by refine K.thJ ?_;exact StLe.of_eq (by simp [*])):p:=h
theorem Z49(k:q)(h:Hk q→p:=by intro qk;refine R.go ?_;refine R.fin [6, 7] ?_;exact qk.h):p:=h ⟨k⟩
theorem Z50(h:p:=by refine Z30 ?_;refine Z5 ?_;exact vq):p:=h
theorem Z51(k:q)(h:Hk q→p:=by intro qk;refine Z29 ?_;refine R.fin [0, 2] ?_;exact qk.h):p:=h ⟨k⟩
theorem Z52(k:q)(h:Hk q→p:=by intro qk;refine Z0 ?_;refine R.callUp Tryz.call250 ho (by simp) Bj (jn l S o _ (A5 ho) hi hll) ?_;exact qk.h):p:=h ⟨k⟩
theorem Z53(k:q)(h:Hk q→p:=by intro qk;refine R.fin [] ?_;refine K.blN ?_;exact qk.h):p:=h ⟨k⟩
theorem Z54(k:q)(h:Hk q→p:=by intro qk;refine Z0 ?_;refine R.fin [0, 1] ?_;exact qk.h):p:=h ⟨k⟩
theorem Z55(k:q)(h:Hk q→p:=by intro qk;refine AW.ret ?_;refine Z5 ?_;exact qk.h):p:=h ⟨k⟩
theorem Z56(k:q)(h:Hk q→p:=by intro qk;refine Z17 ?_;refine D.go ?_;exact qk.h):p:=h ⟨k⟩
theorem Z57(h:p:=by refine Z23 ?_;exact rd):p:=h
theorem Z58(k:q)(h:Hk q→p:=by intro qk;refine Z9 ?_;refine G.go ?_;exact qk.h):p:=h ⟨k⟩
theorem Z59(k:q)(h:Hk q→p:=by intro qk;refine Z37 ?_;refine Z27 ?_;exact qk.h):p:=h ⟨k⟩
theorem Z60(h:p:=by refine Z53 ?_;exact K.finN .nores ⟨rfl, by rw [pe] <;> simp [d7]⟩):p:=h
theorem Z62(k:q)(h:Hk q→p:=by intro qk;refine Z6 ?_;refine Z19 ?_;exact qk.h):p:=h ⟨k⟩
theorem Z63(k:q)(h:Hk q→p:=by intro qk;refine Cs ?_;refine Wy ?_;exact qk.h):p:=h ⟨k⟩
theorem Z64(k:q)(h:Hk q→p:=by intro qk;refine Z4 ?_;refine R.fin [1] ?_;exact qk.h):p:=h ⟨k⟩
theorem Z65(k:q)(h:Hk q→p:=by intro qk;refine W.seq ?_;refine Cs ?_;exact qk.h):p:=h ⟨k⟩
theorem Z66(h:p:=by refine Z17 ?_;exact Sm):p:=h
theorem Z67(k:q)(h:Hk q→p:=by intro qk;refine R.fin [6] ?_;refine AW.ret ?_;exact qk.h):p:=h ⟨k⟩
theorem Z68(h:p:=by refine D.go ?_;exact Sm):p:=h
theorem Z69(k:q)(h:Hk q→p:=by intro qk;refine R.go ?_;refine Fa ?_;exact qk.h):p:=h ⟨k⟩
theorem Z70(k:q)(h:Hk q→p:=by intro qk;refine Z9 ?_;refine Z40 ?_;exact qk.h):p:=h ⟨k⟩
theorem Z72(k:q)(h:Hk q→p:=by intro qk;refine Z1 ?_;refine Z1 ?_;exact qk.h):p:=h ⟨k⟩
theorem Z73(k:q)(h:Hk q→p:=by intro qk;refine R.fin [4, 5] ?_;refine Z23 ?_;exact qk.h):p:=h ⟨k⟩
theorem Z74(k:q)(h:Hk q→p:=by intro qk;refine Z4 ?_;refine R.fin [2, 18] ?_;exact qk.h):p:=h ⟨k⟩
theorem Z76(h:p:=by refine Z30 ?_;refine Z5 ?_;exact vp):p:=h
theorem Z78(h:p:=by refine Z26 ?_;exact K.fin (V.one V.tmp) ⟨by rw [← di]; try rfl, rfl⟩):p:=h
theorem Z79(k:q)(h:Hk q→p:=by intro qk;refine Z4 ?_;refine R.fin [13] ?_;exact qk.h):p:=h ⟨k⟩
theorem Z80(k:q)(h:Hk q→p:=by intro qk;refine Z0 ?_;refine Fa ?_;exact qk.h):p:=h ⟨k⟩
theorem Z81(k:q)(h:Hk q→p:=by intro qk;refine Z16 ?_;refine Z13 ?_;exact qk.h):p:=h ⟨k⟩
theorem Z82(k:q)(h:Hk q→p:=by intro qk;refine Z1 ?_;refine G.go ?_;exact qk.h):p:=h ⟨k⟩
theorem Z83(k:q)(h:Hk q→p:=by intro qk;refine Z4 ?_;refine R.fin [2, 3, 9] ?_;exact qk.h):p:=h ⟨k⟩
theorem Z85(h:p:=by refine K.thR ?_;exact vi):p:=h
theorem Z86(k:q)(h:Hk q→p:=by intro qk;refine Z36 ?_;refine G.go ?_;exact qk.h):p:=h ⟨k⟩
theorem Z87(k:q)(h:Hk q→p:=by intro qk;refine AW.block ?_;refine Z4 ?_;exact qk.h):p:=h ⟨k⟩
theorem Z88(k:q)(h:Hk q→p:=by intro qk;refine Z19 ?_;refine Cs ?_;exact qk.h):p:=h ⟨k⟩
theorem Z89(k:q)(h:Hk q→p:=by intro qk;refine Z1 ?_;refine Z25 ?_;exact qk.h):p:=h ⟨k⟩
theorem Z90(h:p:=by refine Z16 ?_;refine Z20 ?_;exact K.fin (V.one V.tmp) ⟨by simp_all [M9], rfl⟩):p:=h
theorem Z92(h:p:=by refine Z16 ?_;refine Z21 ?_;refine Z11 ?_;exact vq):p:=h
theorem Z93(k:q)(h:Hk q→p:=by intro qk;refine Z24 ?_;refine Fa ?_;exact qk.h):p:=h ⟨k⟩
theorem Z94(k:q)(h:Hk q→p:=by intro qk;refine R.go ?_;refine I6 ?_;exact qk.h):p:=h ⟨k⟩
theorem Z95(h:p:=by refine R.fin [1, 2, 3, 7, 8, 9, 10] ?_;exact K.lpN (i + 1, q) ⟨hlt, Wb hlt hw ht46, hq5⟩ (by dsimp only; omega) (StCut.of_eq (by subst hq; dsimp only; rw [hwn] <;> rfl))):p:=h
theorem Z96(k:q)(h:Hk q→p:=by intro qk;refine Z16 ?_;refine Z35 ?_;exact qk.h):p:=h ⟨k⟩
theorem Z97(h:p:=by refine Z42 ?_;exact rd):p:=h
theorem Z98(h:p:=by refine AW.skip ?_;exact Z48):p:=h
theorem Z99(k:q)(h:Hk q→p:=by intro qk;refine H.go ?_;refine H.go ?_;exact qk.h):p:=h ⟨k⟩
theorem tt(h:p:=by refine Z55 ?_;exact rd):p:=h
theorem qn(h:p:=by refine Z26 ?_;exact Sl):p:=h
theorem fx(h:p:=by refine Z40 ?_;exact Sl):p:=h
theorem U1(k:q)(h:Hk q→p:=by intro qk;refine Z15 ?_;refine R.fin [0, 2, 3] ?_;exact qk.h):p:=h ⟨k⟩
theorem Lo(k:q)(h:Hk q→p:=by intro qk;refine Z9 ?_;refine R.go ?_;exact qk.h):p:=h ⟨k⟩
theorem Nf(k:q)(h:Hk q→p:=by intro qk;refine R.go ?_;refine Z15 ?_;exact qk.h):p:=h ⟨k⟩
theorem Sg(k:q)(h:Hk q→p:=by intro qk;refine AW.region ?_;refine R.go ?_;exact qk.h):p:=h ⟨k⟩
theorem qo(k:q)(h:Hk q→p:=by intro qk;refine R.go ?_;refine Et ?_;exact qk.h):p:=h ⟨k⟩
theorem Ng(k:q)(h:Hk q→p:=by intro qk;refine Z12 ?_;refine Z13 ?_;exact qk.h):p:=h ⟨k⟩
theorem qq(k:q)(h:Hk q→p:=by intro qk;refine Z4 ?_;refine X0 ?_;exact qk.h):p:=h ⟨k⟩
theorem qr(k:q)(h:Hk q→p:=by intro qk;refine X0 ?_;refine Z11 ?_;exact qk.h):p:=h ⟨k⟩
theorem Nh(k:q)(h:Hk q→p:=by intro qk;refine Z19 ?_;refine Z0 ?_;exact qk.h):p:=h ⟨k⟩
theorem Ws(k:q)(h:Hk q→p:=by intro qk;refine R.fin [4, 5] ?_;refine AW.ret ?_;exact qk.h):p:=h ⟨k⟩
theorem qt(h:p:=by refine K.thR ?_;exact i6):p:=h
theorem qu(k:q)(h:Hk q→p:=by intro qk;refine R.alloc jZ ?_;refine Z69 ?_;exact qk.h):p:=h ⟨k⟩
theorem bc(k:q)(h:Hk q→p:=by intro qk;refine Z0 ?_;refine R.fin [0, 1, 7, 8, 9] ?_;exact qk.h):p:=h ⟨k⟩
theorem g0(k:q)(h:Hk q→p:=by intro qk;refine I6 ?_;refine R.assignT ?_;exact qk.h):p:=h ⟨k⟩
theorem Lp(k:q)(h:Hk q→p:=by intro qk;refine Z6 ?_;refine Z7 ?_;exact qk.h):p:=h ⟨k⟩
theorem mc(h:p:=by refine Z11 ?_;exact K.fin (V.one (V.cellN jA jS))):p:=h
theorem U3(k:q)(h:Hk q→p:=by intro qk;refine R.fin [6] ?_;refine Z23 ?_;exact qk.h):p:=h ⟨k⟩
theorem qv(h:p:=by refine Z5 ?_;exact K.fin (V.one V.tmp) ⟨by simp_all [Yb], rfl⟩):p:=h
theorem Sh(k:q)(h:Hk q→p:=by intro qk;refine Z27 ?_;refine Z0 ?_;exact qk.h):p:=h ⟨k⟩
theorem Px(k:q)(h:Hk q→p:=by intro qk;refine Z12 ?_;refine Z35 ?_;exact qk.h):p:=h ⟨k⟩
theorem tw(h:p:=by refine R.fin [] ?_;exact K.finN .nores (hp := ⟨Zm m x, k, by unfold N1; rw [hT]; rfl, rfl, by exact dq⟩)):p:=h
theorem g7(h:p:=by refine W.keep [3, 8] ?_;exact Z98):p:=h
theorem Si(k:q)(h:Hk q→p:=by intro qk;refine G.go ?_;refine R.go ?_;exact qk.h):p:=h ⟨k⟩
theorem U4(k:q)(h:Hk q→p:=by intro qk;refine Z16 ?_;refine Z20 ?_;exact qk.h):p:=h ⟨k⟩
theorem tx(h:p:=by refine Z26 ?_;exact K.fin (V.one V.tmp) ⟨by rw [X4 (H6 (by simp at ht9; omega) hx.2)], rfl⟩):p:=h
theorem be(k:q)(h:Hk q→p:=by intro qk;refine Fa ?_;refine qo ?_;exact qk.h):p:=h ⟨k⟩
theorem bf(k:q)(h:Hk q→p:=by intro qk;refine AW.region ?_;refine R.moveT ?_;exact qk.h):p:=h ⟨k⟩
theorem O2(k:q)(h:Hk q→p:=by intro qk;refine Z6 ?_;refine Z0 ?_;exact qk.h):p:=h ⟨k⟩
theorem g8(k:q)(h:Hk q→p:=by intro qk;refine R.fin [2, 3, 4, 5] ?_;refine AW.ret ?_;exact qk.h):p:=h ⟨k⟩
theorem tz(h:p:=by refine R.fin [1, 3, 4] ?_;exact K.lpN (x + 1) hlt (by omega) (by simp only [em]; exact StCut.of_eq rfl)):p:=h
theorem u6(h:p:=by refine Z26 ?_;exact K.fin (V.one V.tmp) ⟨by first | (rw [hgy hf]; rfl) | (rw [hgv hf]; rfl), rfl⟩):p:=h
theorem U5(k:q)(h:Hk q→p:=by intro qk;refine Z6 ?_;refine Cs ?_;exact qk.h):p:=h ⟨k⟩
theorem bg(k:q)(h:Hk q→p:=by intro qk;refine Z4 ?_;refine Z26 ?_;exact qk.h):p:=h ⟨k⟩
theorem Wt(k:q)(h:Hk q→p:=by intro qk;refine Cs ?_;refine R.box ?_;exact qk.h):p:=h ⟨k⟩
theorem g9(k:q)(h:Hk q→p:=by intro qk;refine R.fin [2, 3, 4, 5] ?_;refine Z55 ?_;exact qk.h):p:=h ⟨k⟩
theorem u7(h:p:=by refine D.build (places := #[(0, 1), (1, 1)]) jU (fun w => by simp) jZ ?_;exact Sm):p:=h
theorem U6(k:q)(h:Hk q→p:=by intro qk;refine Z20 ?_;refine Z42 ?_;exact qk.h):p:=h ⟨k⟩
theorem ua(h:p:=by refine K.thR ?_;exact rc):p:=h
theorem qw(k:q)(h:Hk q→p:=by intro qk;refine Z0 ?_;refine R.call Tryz.call258 (w7 l S o _ (A5 ho) hi) ?_;exact qk.h):p:=h ⟨k⟩
theorem ub(h:p:=by refine U4 ?_;exact rc):p:=h
theorem ga(h:p:=by refine Z36 ?_;refine Z70 ?_;exact Z45):p:=h
theorem uc(h:p:=by refine G.call Tryz.call109 (fun hB => w4 e.text Jf hs (by decide) _) ?_;exact ga):p:=h
theorem qx(k:q)(h:Hk q→p:=by intro qk;refine Z0 ?_;refine R.call Tryz.call88 (c88 L i o _ (A5 ho) hi) ?_;exact qk.h):p:=h ⟨k⟩
theorem U7(k:q)(h:Hk q→p:=by intro qk;refine Z25 ?_;refine Z15 ?_;refine R.go ?_;exact qk.h):p:=h ⟨k⟩
theorem U8(k:q)(h:Hk q→p:=by intro qk;refine Z17 ?_;refine Z56 ?_;exact qk.h):p:=h ⟨k⟩
theorem Sj(k:q)(h:Hk q→p:=by intro qk;refine Z4 ?_;refine Z2 ?_;exact qk.h):p:=h ⟨k⟩
theorem Sk(k:q)(h:Hk q→p:=by intro qk;refine Z9 ?_;refine Z9 ?_;exact qk.h):p:=h ⟨k⟩
theorem gb(k:q)(h:Hk q→p:=by intro qk;refine Et ?_;refine AW.ret ?_;exact qk.h):p:=h ⟨k⟩
theorem U9(k:q)(h:Hk q→p:=by intro qk;refine Z62 ?_;refine Z4 ?_;exact qk.h):p:=h ⟨k⟩
theorem Ua(k:q)(h:Hk q→p:=by intro qk;refine Z7 ?_;refine Z70 ?_;exact qk.h):p:=h ⟨k⟩
theorem Ub(k:q)(h:Hk q→p:=by intro qk;refine Z59 ?_;refine Z20 ?_;exact qk.h):p:=h ⟨k⟩
theorem ud(h:p:=by refine U4 ?_;exact vr):p:=h
theorem ue(h:p:=by refine Z23 ?_;exact vo):p:=h
theorem uf(k:q)(h:Hk q→p:=by intro qk;refine Y.buildSlice jU Tryz.sizeOf9 Tryz.zeroValue9 ?_;refine Y.tail (tn := [2]) (U := U2 L Hp o om j (mvO m)) ?_;exact qk.h):p:=h ⟨k⟩
theorem gc(h:p:=by refine R.go ?_;refine Z2 ?_;exact Sl):p:=h
theorem qy(k:q)(h:Hk q→p:=by intro qk;refine I6 ?_;refine I6 ?_;exact qk.h):p:=h ⟨k⟩
theorem ge(k:q)(h:Hk q→p:=by intro qk;refine Z96 ?_;refine H5 ?_;exact qk.h):p:=h ⟨k⟩
theorem ug(h:p:=by refine Z11 ?_;exact K.fin (V.one (V.cellN jA jS)) ⟨by simp [ht5], rfl⟩):p:=h
theorem gg(h:p:=by refine Z17 ?_;exact Z66):p:=h
theorem uh(k:q)(h:Hk q→p:=by intro qk;refine X0 ?_;refine Fa ?_;exact qk.h):p:=h ⟨k⟩
theorem ui(k:q)(h:Hk q→p:=by intro qk;refine Z7 ?_;refine R.callUp Tryz.call221 ho (by simp) Bj (cw l S 8 (A7 l S.i).at_ o _ (A5 ho)) ?_;exact qk.h):p:=h ⟨k⟩
theorem uj(h:p:=by refine Z42 ?_;exact K.fin (V.two V.tmp V.tmp) ⟨by rw [hbad], rfl⟩):p:=h
theorem uk(h:p:=by refine Z32 ?_;exact K.fin (V.one V.tmp) ⟨by rw [hx.eq, hw], rfl⟩):p:=h
theorem gh(h:p:=by refine Z20 ?_;refine Z5 ?_;exact K.fin (V.one V.tmp) ⟨by simp_all [Kk], rfl⟩):p:=h
theorem Uc(k:q)(h:Hk q→p:=by intro qk;refine Z6 ?_;refine Z34 ?_;exact qk.h):p:=h ⟨k⟩
theorem gi(k:q)(h:Hk q→p:=by intro qk;refine R.nilSl 6 2 ?_;refine Z49 ?_;exact qk.h):p:=h ⟨k⟩
theorem gj(k:q)(h:Hk q→p:=by intro qk;refine Z4 ?_;refine R.fin [3, 8] ?_;exact qk.h):p:=h ⟨k⟩
theorem Wu(k:q)(h:Hk q→p:=by intro qk;refine Z58 ?_;refine R.go ?_;exact qk.h):p:=h ⟨k⟩
theorem ul(h:p:=by refine Z5 ?_;exact i6):p:=h
theorem md(h:p:=by refine K.blN ?_;refine K.thJ ?_;exact StLe.of_eq (by rw [e] <;> rfl)):p:=h
theorem me(k:q)(h:Hk q→p:=by intro qk;refine R.fin [2, 3, 4, 5] ?_;refine Z23 ?_;exact qk.h):p:=h ⟨k⟩
theorem um(k:q)(h:Hk q→p:=by intro qk;refine W.drawQ [0, 1, 3, 7, 15, 3, 35, 99, 255, 511, 1023] 8 Ad (by kernel_rfl) ?_;refine Z17 ?_;exact qk.h):p:=h ⟨k⟩
theorem un(h:p:=by refine R.call Tryz.call44 (c44 61 e hok (by decide) _) ?_;exact fx):p:=h
theorem gk(k:q)(h:Hk q→p:=by intro qk;refine Z4 ?_;refine H5 ?_;exact qk.h):p:=h ⟨k⟩
theorem bh(k:q)(h:Hk q→p:=by intro qk;refine R.go ?_;refine qu ?_;exact qk.h):p:=h ⟨k⟩
theorem uo(k:q)(h:Hk q→p:=by intro qk;refine Z51 ?_;refine W.drawQ [0, 1, 3, 7, 0, 16, 48, 112, 255, 511, 1023] 8 Ad (by kernel_rfl) ?_;exact qk.h):p:=h ⟨k⟩
theorem gm(k:q)(h:Hk q→p:=by intro qk;refine R.fin [4] ?_;refine Z23 ?_;exact qk.h):p:=h ⟨k⟩
theorem uq(h:p:=by refine Z42 ?_;exact r8):p:=h
theorem ur(h:p:=by refine Z42 ?_;exact ra):p:=h
theorem ut(k:q)(h:Hk q→p:=by intro qk;refine R.fin [0, 3, 4] ?_;refine W.drawQ [0, 1, 3, 0, 8, 24, 56, 127] 7 Ad (by kernel_rfl) ?_;exact qk.h):p:=h ⟨k⟩
theorem mf(h:p:=by refine bg ?_;refine Z42 ?_;exact K.fin (V.one V.tmp) ⟨by rw [kr hlt ht16 hx.2], rfl⟩):p:=h
theorem bi(k:q)(h:Hk q→p:=by intro qk;refine Z93 ?_;refine R.nilCell 1 5 6 ?_;refine Z49 ?_;exact qk.h):p:=h ⟨k⟩
theorem mg(h:p:=by refine D.go ?_;exact Z44):p:=h
theorem uu(h:p:=by refine R.go ?_;refine Z73 ?_;exact rb):p:=h
theorem qz(h:p:=by refine R.nilTmp 4 2 false ?_;exact uu):p:=h
theorem uv(k:q)(h:Hk q→p:=by intro qk;refine Ud ?_;refine Fa ?_;exact qk.h):p:=h ⟨k⟩
theorem mh(k:q)(h:Hk q→p:=by intro qk;refine Z4 ?_;refine R.fin [2, 3, 18] ?_;exact qk.h):p:=h ⟨k⟩
theorem Wv(k:q)(h:Hk q→p:=by intro qk;refine Z36 ?_;refine Z9 ?_;exact qk.h):p:=h ⟨k⟩
theorem gn(k:q)(h:Hk q→p:=by intro qk;refine Z33 ?_;refine R.fin [0] ?_;exact qk.h):p:=h ⟨k⟩
theorem gq(k:q)(h:Hk q→p:=by intro qk;refine Z0 ?_;refine R.alloc jZ ?_;exact qk.h):p:=h ⟨k⟩
theorem Ww(k:q)(h:Hk q→p:=by intro qk;refine Z64 ?_;refine Z0 ?_;exact qk.h):p:=h ⟨k⟩
theorem mi(h:p:=by refine Z16 ?_;refine Z30 ?_;exact vp):p:=h
theorem mj(h:p:=by refine Z81 ?_;refine R.fin [0, 1, 7, 8] ?_;exact K.lpN (x + 1) ⟨hlt, Bk hlt hx.2 ht16⟩ (by omega) (StCut.of_eq rfl)):p:=h
theorem uw(k:q)(h:Hk q→p:=by intro qk;refine Z0 ?_;refine Wy ?_;exact qk.h):p:=h ⟨k⟩
theorem Wx(k:q)(h:Hk q→p:=by intro qk;refine Z6 ?_;refine Z4 ?_;exact qk.h):p:=h ⟨k⟩
theorem gr(k:q)(h:Hk q→p:=by intro qk;refine AW.block ?_;refine Z28 ?_;exact qk.h):p:=h ⟨k⟩
theorem r6(k:q)(h:Hk q→p:=by intro qk;refine R.go ?_;refine R.call Tryz.call74 (c74 e _) ?_;exact qk.h):p:=h ⟨k⟩
theorem ml(h:p:=by refine Sh ?_;refine Z26 ?_;exact K.fin (V.one V.tmp) ⟨by rw [Y7 (Vq hxe hx.2)], rfl⟩):p:=h
theorem bj(k:q)(h:Hk q→p:=by intro qk;refine Z19 ?_;refine Z4 ?_;refine R.fin [0, 1, 5, 7, 8] ?_;refine Z7 ?_;exact qk.h):p:=h ⟨k⟩
theorem ux(h:p:=by refine K.lpE ?_;exact K.finN .nores (hp := by rw [hxe])):p:=h
theorem gt(k:q)(h:Hk q→p:=by intro qk;refine Z6 ?_;refine AW.block ?_;exact qk.h):p:=h ⟨k⟩
theorem mm(k:q)(h:Hk q→p:=by intro qk;refine R.fin [3, 9] ?_;refine K.thN ?_;exact qk.h):p:=h ⟨k⟩
theorem bn(k:q)(h:Hk q→p:=by intro qk;refine Z54 ?_;refine Z18 ?_;refine R.fin [0, 1, 7, 8] ?_;exact qk.h):p:=h ⟨k⟩
theorem gu(k:q)(h:Hk q→p:=by intro qk;refine D.go ?_;refine D.tail ?_;exact qk.h):p:=h ⟨k⟩
theorem bo(k:q)(h:Hk q→p:=by intro qk;refine Z17 ?_;refine Z17 ?_;exact qk.h):p:=h ⟨k⟩
theorem mn(h:p:=by refine Z1 ?_;exact qn):p:=h
theorem bq(h:p:=by exact ⟨rfl, Below.refl _ _⟩):p:=h
theorem Sl(h:p:=by exact K.fin (V.one V.tmp)):p:=h
theorem Cs(k:q)(h:Hk q→p:=by intro qk;refine AW.seqR ?_;exact qk.h):p:=h ⟨k⟩
theorem H5(k:q)(h:Hk q→p:=by intro qk;refine R.fin [0, 3] ?_;exact qk.h):p:=h ⟨k⟩
theorem uz(h:p:=by exact h (y, j) (by rw [List.mem_zipIdx_iff_getElem?]; exact hj)):p:=h
theorem v6(h:p:=by exact K.fin (V.one V.tmp) ⟨by simp [D8, ht5], rfl⟩):p:=h
theorem v7(h:p:=by exact K.fin (V.one V.tmp) ⟨by simp [D8, ht5, ht16, ht22], rfl⟩):p:=h
theorem br(k:q)(h:Hk q→p:=by intro qk;refine R.fin [0, 1, 5, 7, 8, 16] ?_;exact qk.h):p:=h ⟨k⟩
theorem Ip(k:q)(h:Hk q→p:=by intro qk;refine R.makeFunc ?_;exact qk.h):p:=h ⟨k⟩
theorem Et(k:q)(h:Hk q→p:=by intro qk;refine R.fin [2, 3] ?_;exact qk.h):p:=h ⟨k⟩
theorem Fa(k:q)(h:Hk q→p:=by intro qk;refine R.storeOwn jS ?_;exact qk.h):p:=h ⟨k⟩
theorem Wy(k:q)(h:Hk q→p:=by intro qk;refine R.build (places := #[(0, 1), (1, 1), (2, 1)]) jU (fun w => by simp) jZ ?_;exact qk.h):p:=h ⟨k⟩
theorem v8(h:p:=by exact K.fin (V.one V.tmp) ⟨by simp only [E1, hp, ht7, ht14, ht23, ht27, Bool.not_true, Bool.false_eq_true, if_false, if_true]; try rfl, rfl⟩):p:=h
theorem vd(h:p:=by exact K.fin (V.two (V.cellN jA jS) V.tmp) ⟨by simp only [Uk, ht17, if_true, if_false, Bool.false_eq_true]; rfl, rfl⟩):p:=h
theorem ve(h:p:=by exact K.fin (V.four V.tmp V.tmp V.tmp V.tmp) ⟨by simp only [K6, ht11, ht17, if_true, if_false, Bool.false_eq_true]; try rfl, rfl⟩):p:=h
theorem vf(h:p:=by exact K.fin (V.four V.tmp V.tmp V.tmp V.tmp) ⟨by simp only [Od, ht18, ht23, if_true, if_false, Bool.false_eq_true]; try rfl, rfl⟩):p:=h
theorem vg(h:p:=by exact K.fin (V.four V.tmp V.tmp V.tmp V.tmp) ⟨by simp only [B4, ht6, ht17, ht28, if_true, if_false, Bool.false_eq_true], rfl⟩):p:=h
theorem gw(h:p:=by exact absurd h (by decide)):p:=h
theorem r7(k:q)(h:Hk q→p:=by intro qk;refine K.rdN (Yn hL (C1 (by decide)) (C1 (by decide))) ?_;exact qk.h):p:=h ⟨k⟩
theorem I6(k:q)(h:Hk q→p:=by intro qk;refine R.buildSlice jU jS jZ ?_;exact qk.h):p:=h ⟨k⟩
theorem Ud(k:q)(h:Hk q→p:=by intro qk;refine R.build (places := #[(0, 1), (1, 1)]) jU (fun w => by simp) jZ ?_;exact qk.h):p:=h ⟨k⟩
theorem gx(h:p:=by exact ⟨hFRl, by simp [oid]⟩):p:=h
theorem gy(h:p:=by exact Hq (fun x hx => ObjLow.le (by omega) (hlow x hx)) hOl x hx):p:=h
theorem bt(k:q)(h:Hk q→p:=by intro qk;refine K.lpN (x + 1) hlt (by omega) ?_;exact qk.h):p:=h ⟨k⟩
theorem Wz(k:q)(h:Hk q→p:=by intro qk;refine R.fin [0, 1, 2, 6] ?_;exact qk.h):p:=h ⟨k⟩
theorem X0(k:q)(h:Hk q→p:=by intro qk;refine R.build (places := #[(0, 1), (1, 1), (2, 3), (5, 1)]) jU (fun w => by simp) jZ ?_;exact qk.h):p:=h ⟨k⟩
theorem Sm(h:p:=by exact D.end rfl rfl):p:=h
theorem r8(h:p:=by exact K.fin (V.one V.tmp) ⟨by rw [hf], rfl⟩):p:=h
theorem vh(h:p:=by exact ⟨Nat.lt_succ_self i, hl.step hi (by rw [hk]; decide)⟩):p:=h
theorem X1(h:p:=by exact ⟨by omega, c2, c3⟩):p:=h
theorem vi(h:p:=by exact K.fin (V.one (V.cellN jA jS)) ⟨by rw [e, A8], by rw [e]⟩ (hlow := low_agg _)):p:=h
theorem gz(h:p:=by exact (Be hX (e)).elim):p:=h
theorem bu(k:q)(h:Hk q→p:=by intro qk;refine R.fin [2, 6, 13, 14, 15] ?_;exact qk.h):p:=h ⟨k⟩
theorem r9(h:p:=by exact K.fin (V.two V.tmp V.tmp) ⟨by rw [hk], rfl⟩):p:=h
theorem vj(h:p:=by exact K.fin (V.two V.tmp V.tmp) ⟨by rw [hk, hk2], rfl⟩):p:=h
theorem ra(h:p:=by exact K.fin (V.one V.tmp) ⟨by rw [hm], rfl⟩):p:=h
theorem rb(h:p:=by exact K.fin (V.two V.tmp V.tmp) ⟨by rw [hm] <;> rfl, rfl⟩):p:=h
theorem vk(h:p:=by exact K.fin (V.one V.tmp) ⟨by rw [hn]; first | (simp only [ht22, ht25, ht33, ht41, ht41, ht50, ht58, hk3, hk6, Bool.true_or, Bool.false_or, Bool.or_true, Bool.or_false, if_true, if_false, Bool.false_eq_true, ↓reduceIte] <;> rfl) | (simp only [ht22, ht25, ht33, ht41, ht41, ht50, ht58, hk3, Bool.true_or, Bool.false_or, Bool.or_true, if_true, if_false, Bool.false_eq_true, ↓reduceIte] <;> rfl) | (simp only [ht22, ht25, ht33, ht41, ht41, ht50, ht58, if_true, if_false, Bool.false_eq_true, ↓reduceIte] <;> rfl), rfl⟩):p:=h
theorem i6(h:p:=by exact K.fin (V.one V.tmp) ⟨by rw [hm] <;> rfl, rfl⟩):p:=h
theorem vl(h:p:=by exact (Be hX (by first | exact by unfold N1; rw [hT]; rfl | exact hT)).elim):p:=h
theorem vm(h:p:=by exact (wo L i o _ (A5 (Cg ho hne)) hi hl hll).ok hT):p:=h
theorem i7(k:q)(h:Hk q→p:=by intro qk;refine AW.upEq (Lh ho hm).symm ?_;exact qk.h):p:=h ⟨k⟩
theorem vn(h:p:=by exact K.fin (V.two (V.cellN jA jS) V.tmp) ⟨by rw [hm]; show _ = AV.tup [A3 Aa, An false]; rw [A8]; rfl, rfl⟩ (hlow := by simp [or_imp, forall_and])):p:=h
theorem vo(h:p:=by exact K.fin (V.two V.tmp V.tmp) ⟨by rw [hsh] <;> rfl, rfl⟩):p:=h
theorem vp(h:p:=by exact K.fin (V.one (V.cellN jA jS)) ⟨by first | exact s9 (by simp_all [Ey]) | exact kc (by simp_all [Ey]) | exact sa (by simp_all [Ey]), rfl⟩):p:=h
theorem vq(h:p:=by exact K.fin (V.one (V.cellN jA jS)) ⟨by first | exact kc (by simp_all [Ge]), rfl⟩):p:=h
theorem rc(h:p:=by exact K.fin (V.one V.tmp) ⟨by simp_all [E2, H9, cy], rfl⟩):p:=h
theorem vr(h:p:=by exact K.fin (V.one V.tmp) ⟨by simp_all [C2, H9], rfl⟩):p:=h
theorem rd(h:p:=by exact K.fin (V.two (V.cellN jA jS) V.tmp) ⟨by rw [hm]; show _ = AV.tup [A3 Aa, A2 _]; rw [A8]; rfl, rfl⟩ (hlow := by simp [or_imp, forall_and])):p:=h
end Go.SX.Nb
namespace Go.SX.Nb
open Go Go.SX Go.Proofs
@[reducible, instance] def JA2 := JA.mk (P := Tryz.prog) Tryz.isAgg2
@[reducible, instance] def JA3 := JA.mk (P := Tryz.prog) Tryz.isAgg3
@[reducible, instance] def JA4 := JA.mk (P := Tryz.prog) Tryz.isAgg4
@[reducible, instance] def JA9 := JA.mk (P := Tryz.prog) Tryz.isAgg9
@[reducible, instance] def AAp := JA.mk (P := Tryz.prog) Tryz.isAgg22
@[reducible, instance] def AAq := JA.mk (P := Tryz.prog) Tryz.isAgg23
@[reducible, instance] def AAr := JA.mk (P := Tryz.prog) Tryz.isAgg27
@[reducible, instance] def AAs := JA.mk (P := Tryz.prog) Tryz.isAgg34
@[reducible, instance] def AAt := JA.mk (P := Tryz.prog) Tryz.isAgg37
@[reducible, instance] def AAu := JA.mk (P := Tryz.prog) Tryz.isAgg42
@[reducible, instance] def AAv := JA.mk (P := Tryz.prog) Tryz.isAgg43
@[reducible, instance] def AAw := JA.mk (P := Tryz.prog) Tryz.isAgg45
@[reducible, instance] def AAx := JA.mk (P := Tryz.prog) Tryz.isAgg58
@[reducible, instance] def AAy := JA.mk (P := Tryz.prog) Tryz.isAgg60
@[reducible, instance] def AAz := JA.mk (P := Tryz.prog) Tryz.isAgg64
@[reducible, instance] def AB0 := JA.mk (P := Tryz.prog) Tryz.isAgg91
@[reducible, instance] def AB1 := JA.mk (P := Tryz.prog) Tryz.isAgg94
@[reducible, instance] def AA5 := JA.mk (P := Tryz.prog) Tryz.isAgg125
@[reducible, instance] def AA6 := JA.mk (P := Tryz.prog) Tryz.isAgg146
@[reducible, instance] def AA7 := JA.mk (P := Tryz.prog) Tryz.isAgg148
@[reducible, instance] def AA8 := JA.mk (P := Tryz.prog) Tryz.isAgg155
@[reducible, instance] def AA9 := JA.mk (P := Tryz.prog) Tryz.isAgg220
@[reducible, instance] def JS2 := JS.mk (P := Tryz.prog) Tryz.sizeOf2
@[reducible, instance] def JS3 := JS.mk (P := Tryz.prog) Tryz.sizeOf3
@[reducible, instance] def JS4 := JS.mk (P := Tryz.prog) Tryz.sizeOf4
@[reducible, instance] def JS5 := JS.mk (P := Tryz.prog) Tryz.sizeOf5
@[reducible, instance] def JS9 := JS.mk (P := Tryz.prog) Tryz.sizeOf9
@[reducible, instance] def AB2 := JS.mk (P := Tryz.prog) Tryz.sizeOf22
@[reducible, instance] def AB3 := JS.mk (P := Tryz.prog) Tryz.sizeOf23
@[reducible, instance] def AB4 := JS.mk (P := Tryz.prog) Tryz.sizeOf27
@[reducible, instance] def AB5 := JS.mk (P := Tryz.prog) Tryz.sizeOf34
@[reducible, instance] def AB6 := JS.mk (P := Tryz.prog) Tryz.sizeOf37
@[reducible, instance] def AB7 := JS.mk (P := Tryz.prog) Tryz.sizeOf42
@[reducible, instance] def AB8 := JS.mk (P := Tryz.prog) Tryz.sizeOf43
@[reducible, instance] def AB9 := JS.mk (P := Tryz.prog) Tryz.sizeOf45
@[reducible, instance] def ABa := JS.mk (P := Tryz.prog) Tryz.sizeOf58
@[reducible, instance] def ABb := JS.mk (P := Tryz.prog) Tryz.sizeOf60
@[reducible, instance] def ABc := JS.mk (P := Tryz.prog) Tryz.sizeOf64
@[reducible, instance] def ABd := JS.mk (P := Tryz.prog) Tryz.sizeOf91
@[reducible, instance] def AAa := JS.mk (P := Tryz.prog) Tryz.sizeOf107
@[reducible, instance] def AAb := JS.mk (P := Tryz.prog) Tryz.sizeOf125
@[reducible, instance] def AAc := JS.mk (P := Tryz.prog) Tryz.sizeOf146
@[reducible, instance] def AAd := JS.mk (P := Tryz.prog) Tryz.sizeOf148
@[reducible, instance] def JU3 := JU.mk (P := Tryz.prog) Tryz.underlying3
@[reducible, instance] def JU4 := JU.mk (P := Tryz.prog) Tryz.underlying4
@[reducible, instance] def JU5 := JU.mk (P := Tryz.prog) Tryz.underlying5
@[reducible, instance] def JU9 := JU.mk (P := Tryz.prog) Tryz.underlying9
@[reducible, instance] def ABe := JU.mk (P := Tryz.prog) Tryz.underlying20
@[reducible, instance] def ABf := JU.mk (P := Tryz.prog) Tryz.underlying22
@[reducible, instance] def ABg := JU.mk (P := Tryz.prog) Tryz.underlying23
@[reducible, instance] def ABh := JU.mk (P := Tryz.prog) Tryz.underlying34
@[reducible, instance] def ABi := JU.mk (P := Tryz.prog) Tryz.underlying37
@[reducible, instance] def ABj := JU.mk (P := Tryz.prog) Tryz.underlying42
@[reducible, instance] def ABk := JU.mk (P := Tryz.prog) Tryz.underlying43
@[reducible, instance] def ABl := JU.mk (P := Tryz.prog) Tryz.underlying45
@[reducible, instance] def ABm := JU.mk (P := Tryz.prog) Tryz.underlying58
@[reducible, instance] def ABn := JU.mk (P := Tryz.prog) Tryz.underlying60
@[reducible, instance] def ABo := JU.mk (P := Tryz.prog) Tryz.underlying64
@[reducible, instance] def ABp := JU.mk (P := Tryz.prog) Tryz.underlying91
@[reducible, instance] def ABq := JU.mk (P := Tryz.prog) Tryz.underlying96
@[reducible, instance] def AAe := JU.mk (P := Tryz.prog) Tryz.underlying105
@[reducible, instance] def AAf := JU.mk (P := Tryz.prog) Tryz.underlying109
@[reducible, instance] def AAg := JU.mk (P := Tryz.prog) Tryz.underlying125
@[reducible, instance] def AAh := JU.mk (P := Tryz.prog) Tryz.underlying146
@[reducible, instance] def AAi := JU.mk (P := Tryz.prog) Tryz.underlying148
@[reducible, instance] def AAj := JU.mk (P := Tryz.prog) Tryz.underlying184
@[reducible, instance] def AAk := JU.mk (P := Tryz.prog) Tryz.underlying222
@[reducible, instance] def JZ3 := JZ.mk (P := Tryz.prog) Tryz.zeroValue3
@[reducible, instance] def JZ4 := JZ.mk (P := Tryz.prog) Tryz.zeroValue4
@[reducible, instance] def JZ5 := JZ.mk (P := Tryz.prog) Tryz.zeroValue5
@[reducible, instance] def JZ9 := JZ.mk (P := Tryz.prog) Tryz.zeroValue9
@[reducible, instance] def ABr := JZ.mk (P := Tryz.prog) Tryz.zeroValue22
@[reducible, instance] def ABs := JZ.mk (P := Tryz.prog) Tryz.zeroValue23
@[reducible, instance] def ABt := JZ.mk (P := Tryz.prog) Tryz.zeroValue27
@[reducible, instance] def ABu := JZ.mk (P := Tryz.prog) Tryz.zeroValue34
@[reducible, instance] def ABv := JZ.mk (P := Tryz.prog) Tryz.zeroValue37
@[reducible, instance] def ABw := JZ.mk (P := Tryz.prog) Tryz.zeroValue42
@[reducible, instance] def ABx := JZ.mk (P := Tryz.prog) Tryz.zeroValue43
@[reducible, instance] def ABy := JZ.mk (P := Tryz.prog) Tryz.zeroValue45
@[reducible, instance] def ABz := JZ.mk (P := Tryz.prog) Tryz.zeroValue58
@[reducible, instance] def AC0 := JZ.mk (P := Tryz.prog) Tryz.zeroValue60
@[reducible, instance] def AC1 := JZ.mk (P := Tryz.prog) Tryz.zeroValue64
@[reducible, instance] def AC2 := JZ.mk (P := Tryz.prog) Tryz.zeroValue91
@[reducible, instance] def AC3 := JZ.mk (P := Tryz.prog) Tryz.zeroValue96
@[reducible, instance] def AAl := JZ.mk (P := Tryz.prog) Tryz.zeroValue109
@[reducible, instance] def AAm := JZ.mk (P := Tryz.prog) Tryz.zeroValue125
@[reducible, instance] def AAn := JZ.mk (P := Tryz.prog) Tryz.zeroValue148
@[reducible, instance] def AAo := JZ.mk (P := Tryz.prog) Tryz.zeroValue222
end Go.SX.Nb
