/- Texts on the way to this: SoundTells answers true for whatever it is handed: which move is the first that is not sound and why, the columns behind it, and what is lost, are as the reference tells. (part 4) -/
import Derived.Test.YtepoiomaocjhfaaGreatDoorProg
import Derived.Test.YtepoiomaocjhfaaGreatDoorSoundTellsCardSaidPart3
set_option linter.all false
namespace Go.SX.Nb
open Go Go.SX Go.Proofs
structure Hk (q : Prop) : Prop where h : q
variable {p q : Prop}
theorem Z0(k:q)(h:Hk q→p:=by intro qk;refine R.go ?_;refine R.go ?_;exact qk.h):p:=h ⟨k⟩
theorem Z1(k:q)(h:Hk q→p:=by intro qk;refine Cs ?_;refine Z0 ?_;exact qk.h):p:=h ⟨k⟩
theorem Z2(k:q)(h:Hk q→p:=by intro qk;refine Cs ?_;refine R.go ?_;exact qk.h):p:=h ⟨k⟩
theorem Z3(k:q)(h:Hk q→p:=by intro qk;refine R.fin [2] ?_;refine AW.ret ?_;exact qk.h):p:=h ⟨k⟩
theorem Z5(k:q)(h:Hk q→p:=by intro qk;refine AW.skip ?_;refine K.thN ?_;exact qk.h):p:=h ⟨k⟩
theorem Z6(k:q)(h:Hk q→p:=by intro qk;refine K.blR ?_;refine K.thR ?_;exact qk.h):p:=h ⟨k⟩
theorem Z7(k:q)(h:Hk q→p:=by intro qk;refine G.go ?_;refine G.go ?_;exact qk.h):p:=h ⟨k⟩
theorem Z8(k:q)(h:Hk q→p:=by intro qk;refine W.seq ?_;refine Z1 ?_;exact qk.h):p:=h ⟨k⟩
theorem Z10(k:q)(h:Hk q→p:=by intro qk;refine K.blN ?_;refine K.thN ?_;exact qk.h):p:=h ⟨k⟩
theorem Z12(k:q)(h:Hk q→p:=by intro qk;refine AW.region ?_;refine Z0 ?_;exact qk.h):p:=h ⟨k⟩
theorem Z13(k:q)(h:Hk q→p:=by intro qk;refine En ?_;refine Z3 ?_;exact qk.h):p:=h ⟨k⟩
theorem Z14(k:q)(h:Hk q→p:=by intro qk;refine D.go ?_;refine D.go ?_;exact qk.h):p:=h ⟨k⟩
theorem Z15(k:q)(h:Hk q→p:=by intro qk;refine AW.skip ?_;refine Z10 ?_;exact qk.h):p:=h ⟨k⟩
theorem Z17(k:q)(h:Hk q→p:=by intro qk;refine R.fin [4, 5] ?_;refine AW.ret ?_;exact qk.h):p:=h ⟨k⟩
theorem Z18(k:q)(h:Hk q→p:=by intro qk;refine W.seq ?_;refine AW.block ?_;exact qk.h):p:=h ⟨k⟩
theorem Z19(k:q)(h:Hk q→p:=by intro qk;refine Y.bot (fun B hT => Nh (hT 0 (by simp))) ?_;refine Y.bot (fun B hT => Nh (hT 0 (by simp))) ?_;exact qk.h):p:=h ⟨k⟩
theorem Z20(k:q)(h:Hk q→p:=by intro qk;refine Z1 ?_;refine R.go ?_;exact qk.h):p:=h ⟨k⟩
theorem Z21(k:q)(h:Hk q→p:=by intro qk;refine Ju ?_;refine En ?_;exact qk.h):p:=h ⟨k⟩
theorem Z22(k:q)(h:Hk q→p:=by intro qk;refine Z2 ?_;refine Z3 ?_;exact qk.h):p:=h ⟨k⟩
theorem Z23(k:q)(h:Hk q→p:=by intro qk;refine R.fin [4] ?_;refine AW.ret ?_;exact qk.h):p:=h ⟨k⟩
theorem Z24(k:q)(h:Hk q→p:=by intro qk;refine Z0 ?_;refine R.go ?_;exact qk.h):p:=h ⟨k⟩
theorem Z25(k:q)(h:Hk q→p:=by intro qk;refine Z0 ?_;refine Z7 ?_;exact qk.h):p:=h ⟨k⟩
theorem Z26(k:q)(h:Hk q→p:=by intro qk;refine Cs ?_;refine Hw ?_;refine Tx ?_;exact qk.h):p:=h ⟨k⟩
theorem Z28(k:q)(h:Hk q→p:=by intro qk;refine K.lpE ?_;refine K.thN ?_;exact qk.h):p:=h ⟨k⟩
theorem Z29(k:q)(h:Hk q→p:=by intro qk;refine K.lpR ?_;refine K.thR ?_;exact qk.h):p:=h ⟨k⟩
theorem Z30(k:q)(h:Hk q→p:=by intro qk;refine Z12 ?_;refine R.go ?_;exact qk.h):p:=h ⟨k⟩
theorem Z31(k:q)(h:Hk q→p:=by intro qk;refine AW.exit ?_;refine K.thE ?_;exact qk.h):p:=h ⟨k⟩
theorem Z32(k:q)(h:Hk q→p:=by intro qk;refine W.seq ?_;refine Z2 ?_;exact qk.h):p:=h ⟨k⟩
theorem Z33(k:q)(h:Hk q→p:=by intro qk;refine Cs ?_;refine Ju ?_;exact qk.h):p:=h ⟨k⟩
theorem Z34(k:q)(h:Hk q→p:=by intro qk;refine Z26 ?_;refine Z13 ?_;exact qk.h):p:=h ⟨k⟩
theorem Z35(k:q)(h:Hk q→p:=by intro qk;refine Z6 ?_;refine Z29 ?_;exact qk.h):p:=h ⟨k⟩
theorem Z36(k:q)(h:Hk q→p:=by intro qk;refine Z8 ?_;refine R.go ?_;exact qk.h):p:=h ⟨k⟩
theorem Z38(k:q)(h:Hk q→p:=by intro qk;refine Z0 ?_;refine Z3 ?_;exact qk.h):p:=h ⟨k⟩
theorem Z39(k:q)(h:Hk q→p:=by intro qk;refine Z5 ?_;refine Z18 ?_;exact qk.h):p:=h ⟨k⟩
theorem Z40(k:q)(h:Hk q→p:=by intro qk;refine Z2 ?_;refine R.fin [0] ?_;exact qk.h):p:=h ⟨k⟩
theorem Z41(k:q)(h:Hk q→p:=by intro qk;refine Z17 ?_;refine K.thR ?_;exact qk.h):p:=h ⟨k⟩
theorem Z42(k:q)(h:Hk q→p:=by intro qk;refine Z31 ?_;refine Z28 ?_;exact qk.h):p:=h ⟨k⟩
theorem Z43(k:q)(h:Hk q→p:=by intro qk;refine AW.ret ?_;refine K.thR ?_;exact qk.h):p:=h ⟨k⟩
theorem Z45(k:q)(h:Hk q→p:=by intro qk;refine Z1 ?_;refine Z0 ?_;exact qk.h):p:=h ⟨k⟩
theorem Z46(h:p:=by refine K.thJ ?_;exact StLe.of_eq (by unfold Gp; first | (simp only [ht38, ht41, ht49, ht57, ht57, ht66, ht74, hk3, hk6, Bool.true_or, Bool.false_or, Bool.or_true, Bool.or_false, if_true, if_false, Bool.false_eq_true, ↓reduceIte] <;> rfl) | (simp only [ht38, ht41, ht49, ht57, ht57, ht66, ht74, hk3, Bool.true_or, Bool.false_or, Bool.or_true, if_true, if_false, Bool.false_eq_true, ↓reduceIte] <;> rfl) | (simp only [ht38, ht41, ht49, ht57, ht57, ht66, ht74, if_true, if_false, Bool.false_eq_true, ↓reduceIte] <;> rfl))):p:=h
theorem Z47(h:p:=by refine Z6 ?_;exact qb):p:=h
theorem Z48(h:p:=by refine Z6 ?_;exact K.fin (V.one V.tmp) ⟨by rw [hn]; first | (simp only [ht22, ht25, ht33, ht41, ht41, hk3, hk6, Bool.true_or, Bool.false_or, Bool.or_true, Bool.or_false, if_true, if_false, Bool.false_eq_true, ↓reduceIte] <;> rfl) | (simp only [ht22, ht25, ht33, ht41, ht41, hk3, Bool.true_or, Bool.false_or, Bool.or_true, if_true, if_false, Bool.false_eq_true, ↓reduceIte] <;> rfl) | (simp only [ht22, ht25, ht33, ht41, ht41, if_true, if_false, Bool.false_eq_true, ↓reduceIte] <;> rfl), rfl⟩):p:=h
theorem Z49(h:p:=by refine D.buildSlice jU jS jZ ?_;exact Km):p:=h
theorem Z50(h:p:=by refine K.thJ ?_;exact StLe.of_eq (by unfold Gp; first | (simp only [ht38, ht41, ht49, ht57, ht57, hk3, hk6, Bool.true_or, Bool.false_or, Bool.or_true, Bool.or_false, if_true, if_false, Bool.false_eq_true, ↓reduceIte] <;> rfl) | (simp only [ht38, ht41, ht49, ht57, ht57, hk3, Bool.true_or, Bool.false_or, Bool.or_true, if_true, if_false, Bool.false_eq_true, ↓reduceIte] <;> rfl) | (simp only [ht38, ht41, ht49, ht57, ht57, if_true, if_false, Bool.false_eq_true, ↓reduceIte] <;> rfl))):p:=h
theorem Z52(k:q)(h:Hk q→p:=by intro qk;refine Z2 ?_;refine R.fin [0, 1] ?_;exact qk.h):p:=h ⟨k⟩
theorem Z53(h:p:=by refine Z22 ?_;refine Z6 ?_;exact K.fin (V.one V.tmp) ⟨by simp_all [M3], rfl⟩):p:=h
theorem Z54(k:q)(h:Hk q→p:=by intro qk;refine Z8 ?_;refine Z0 ?_;exact qk.h):p:=h ⟨k⟩
theorem Z55(k:q)(h:Hk q→p:=by intro qk;refine Z14 ?_;refine D.go ?_;exact qk.h):p:=h ⟨k⟩
theorem Z56(k:q)(h:Hk q→p:=by intro qk;refine Z25 ?_;refine G.go ?_;exact qk.h):p:=h ⟨k⟩
theorem Z57(h:p:=by refine Z35 ?_;exact gg):p:=h
theorem Z58(h:p:=by refine Z34 ?_;refine Z6 ?_;exact ud):p:=h
theorem Z59(k:q)(h:Hk q→p:=by intro qk;refine AW.region ?_;refine R.go ?_;exact qk.h):p:=h ⟨k⟩
theorem Z60(k:q)(h:Hk q→p:=by intro qk;refine Z33 ?_;refine R.fin [0, 2] ?_;exact qk.h):p:=h ⟨k⟩
theorem Z61(k:q)(h:Hk q→p:=by intro qk;refine Z15 ?_;refine Z30 ?_;exact qk.h):p:=h ⟨k⟩
theorem Z62(k:q)(h:Hk q→p:=by intro qk;refine Z25 ?_;refine Z7 ?_;exact qk.h):p:=h ⟨k⟩
theorem Z63(k:q)(h:Hk q→p:=by intro qk;refine Z2 ?_;refine R.callUp Tryz.call250 ho (by simp) Bk (j5 l S o _ (A5 ho) hi hll) ?_;exact qk.h):p:=h ⟨k⟩
theorem Z65(k:q)(h:Hk q→p:=by intro qk;refine H.go ?_;refine H.go ?_;exact qk.h):p:=h ⟨k⟩
theorem Z66(h:p:=by refine Z14 ?_;exact Km):p:=h
theorem Z67(k:q)(h:Hk q→p:=by intro qk;refine Z0 ?_;refine Z0 ?_;exact qk.h):p:=h ⟨k⟩
theorem Z68(k:q)(h:Hk q→p:=by intro qk;refine G.go ?_;refine R.go ?_;exact qk.h):p:=h ⟨k⟩
theorem Z69(k:q)(h:Hk q→p:=by intro qk;refine W.seq ?_;refine Cs ?_;exact qk.h):p:=h ⟨k⟩
theorem Z70(k:q)(h:Hk q→p:=by intro qk;refine R.go ?_;refine Hw ?_;exact qk.h):p:=h ⟨k⟩
theorem Z71(h:p:=by refine K.thR ?_;exact gb):p:=h
theorem Z72(k:q)(h:Hk q→p:=by intro qk;refine Cs ?_;refine Wg ?_;exact qk.h):p:=h ⟨k⟩
theorem Z73(k:q)(h:Hk q→p:=by intro qk;refine Cs ?_;refine R.freeze (k := 2) (n := 1) 5 1 [Ag ⟨y.name, (c.getD (Ar s c).toNat ⟨[], 0⟩).kind⟩] hcc rfl rfl (V9 [⟨y.name, (c.getD (Ar s c).toNat ⟨[], 0⟩).kind⟩]) (Va [⟨y.name, (c.getD (Ar s c).toNat ⟨[], 0⟩).kind⟩]) (P5 [⟨y.name, (c.getD (Ar s c).toNat ⟨[], 0⟩).kind⟩]) ?_;exact qk.h):p:=h ⟨k⟩
theorem Z74(h:p:=by refine K.thR ?_;exact K.fin (V.one (V.cellN jA jS)) ⟨by rw [e, Ab], by rw [e]⟩ (hlow := low_agg _)):p:=h
theorem Z75(h:p:=by refine D.go ?_;exact Km):p:=h
theorem Z77(k:q)(h:Hk q→p:=by intro qk;refine Z0 ?_;refine Z24 ?_;exact qk.h):p:=h ⟨k⟩
theorem Z78(k:q)(h:Hk q→p:=by intro qk;refine Z2 ?_;refine Z23 ?_;exact qk.h):p:=h ⟨k⟩
theorem Z80(k:q)(h:Hk q→p:=by intro qk;refine AW.ret ?_;refine Z6 ?_;exact qk.h):p:=h ⟨k⟩
theorem Z81(k:q)(h:Hk q→p:=by intro qk;refine Z1 ?_;refine R.fin [1] ?_;exact qk.h):p:=h ⟨k⟩
theorem Z82(k:q)(h:Hk q→p:=by intro qk;refine AW.region ?_;refine R.moveT ?_;exact qk.h):p:=h ⟨k⟩
theorem Z83(k:q)(h:Hk q→p:=by intro qk;refine Z8 ?_;refine R.fin [11, 235] ?_;exact qk.h):p:=h ⟨k⟩
theorem Z84(k:q)(h:Hk q→p:=by intro qk;refine Z1 ?_;refine R.fin [2, 18] ?_;exact qk.h):p:=h ⟨k⟩
theorem Z85(k:q)(h:Hk q→p:=by intro qk;refine Z5 ?_;refine Z20 ?_;exact qk.h):p:=h ⟨k⟩
theorem Z86(h:p:=by refine Z34 ?_;refine Z6 ?_;exact uc):p:=h
theorem Z87(k:q)(h:Hk q→p:=by intro qk;refine Z1 ?_;refine Z41 ?_;exact qk.h):p:=h ⟨k⟩
theorem Z88(k:q)(h:Hk q→p:=by intro qk;refine R.fin [6] ?_;refine AW.ret ?_;exact qk.h):p:=h ⟨k⟩
theorem Z92(k:q)(h:Hk q→p:=by intro qk;refine Cs ?_;refine Hw ?_;exact qk.h):p:=h ⟨k⟩
theorem Z93(k:q)(h:Hk q→p:=by intro qk;refine R.fin [] ?_;refine K.blN ?_;exact qk.h):p:=h ⟨k⟩
theorem Z94(k:q)(h:Hk q→p:=by intro qk;refine Z1 ?_;refine R.fin [13] ?_;exact qk.h):p:=h ⟨k⟩
theorem Z96(h:p:=by refine R.fin [0, 1, 7, 8] ?_;exact K.lpN (x + 1) ⟨hlt, Aw hlt hx.2 ht16⟩ (by omega) (StCut.of_eq rfl)):p:=h
theorem Z97(k:q)(h:Hk q→p:=by intro qk;refine Z1 ?_;refine R.fin [2, 3, 9] ?_;exact qk.h):p:=h ⟨k⟩
theorem Z98(k:q)(h:Hk q→p:=by intro qk;refine Z10 ?_;refine Z30 ?_;exact qk.h):p:=h ⟨k⟩
theorem Z99(k:q)(h:Hk q→p:=by intro qk;refine Z5 ?_;refine Z32 ?_;exact qk.h):p:=h ⟨k⟩
theorem Js(k:q)(h:Hk q→p:=by intro qk;refine Z15 ?_;refine Z12 ?_;exact qk.h):p:=h ⟨k⟩
theorem N1(k:q)(h:Hk q→p:=by intro qk;refine Z18 ?_;refine Cs ?_;exact qk.h):p:=h ⟨k⟩
theorem Wc(h:p:=by refine Z38 ?_;exact bf):p:=h
theorem ou(h:p:=by refine Z23 ?_;exact bf):p:=h
theorem N2(h:p:=by refine Z15 ?_;refine Z22 ?_;exact K.fin (V.one V.tmp) ⟨by simp_all [M3], rfl⟩):p:=h
theorem N3(h:p:=by refine Z15 ?_;refine Z26 ?_;refine Z13 ?_;exact ud):p:=h
theorem Jt(k:q)(h:Hk q→p:=by intro qk;refine Z0 ?_;refine G.go ?_;exact qk.h):p:=h ⟨k⟩
theorem Ki(k:q)(h:Hk q→p:=by intro qk;refine Z14 ?_;refine Z14 ?_;exact qk.h):p:=h ⟨k⟩
theorem Kj(k:q)(h:Hk q→p:=by intro qk;refine Z7 ?_;refine G.go ?_;exact qk.h):p:=h ⟨k⟩
theorem ov(h:p:=by refine Z78 ?_;exact K.fin (V.one V.tmp) ⟨by rw [Xr (E6 hxe hx.2)], rfl⟩):p:=h
theorem ow(k:q)(h:Hk q→p:=by intro qk;refine R.nilTmp 4 2 false ?_;refine R.go ?_;exact qk.h):p:=h ⟨k⟩
theorem rq(k:q)(h:Hk q→p:=by intro qk;refine Cs ?_;refine R.freeze (k := 2) (n := 1) 5 1 [Ag ⟨y.name, y.kind⟩] hcc rfl rfl (V9 [⟨y.name, y.kind⟩]) (Va [⟨y.name, y.kind⟩]) (P5 [⟨y.name, y.kind⟩]) ?_;exact qk.h):p:=h ⟨k⟩
theorem Pm(k:q)(h:Hk q→p:=by intro qk;refine Z22 ?_;refine Z35 ?_;exact qk.h):p:=h ⟨k⟩
theorem Ns(k:q)(h:Hk q→p:=by intro qk;refine AW.block ?_;refine Z1 ?_;exact qk.h):p:=h ⟨k⟩
theorem Li(k:q)(h:Hk q→p:=by intro qk;refine Z85 ?_;refine Z17 ?_;exact qk.h):p:=h ⟨k⟩
theorem oy(k:q)(h:Hk q→p:=by intro qk;refine Cs ?_;refine ga ?_;exact qk.h):p:=h ⟨k⟩
theorem Tq(k:q)(h:Hk q→p:=by intro qk;refine Z21 ?_;refine R.fin [0, 2, 3] ?_;exact qk.h):p:=h ⟨k⟩
theorem ku(h:p:=by refine K.thP ?_;exact K.finPP ⟨_, _, e, rfl, .refl ho⟩):p:=h
theorem rr(h:p:=by refine R.fin [0, 1, 2, 10, 11] ?_;exact K.lpN (i + 1) hli (by omega) (StCut.of_eq (by simp only [hst, List.map_append, List.map_cons, List.map_nil] <;> rfl))):p:=h
theorem oz(h:p:=by refine Z35 ?_;exact K.fin (V.one V.tmp) ⟨by rw [jm hlt ht16 hx.2], rfl⟩):p:=h
theorem Kk(k:q)(h:Hk q→p:=by intro qk;refine Z8 ?_;refine Z24 ?_;exact qk.h):p:=h ⟨k⟩
theorem Lj(k:q)(h:Hk q→p:=by intro qk;refine Z39 ?_;refine Z1 ?_;exact qk.h):p:=h ⟨k⟩
theorem Tr(k:q)(h:Hk q→p:=by intro qk;refine En ?_;refine R.go ?_;refine Fl ?_;exact qk.h):p:=h ⟨k⟩
theorem p8(k:q)(h:Hk q→p:=by intro qk;refine Z1 ?_;refine ga ?_;exact qk.h):p:=h ⟨k⟩
theorem p9(k:q)(h:Hk q→p:=by intro qk;refine ga ?_;refine Z13 ?_;exact qk.h):p:=h ⟨k⟩
theorem pc(h:p:=by refine Z23 ?_;exact K.fin (V.one V.tmp) ⟨by rw [← cv]; try rfl, rfl⟩):p:=h
theorem aw(k:q)(h:Hk q→p:=by intro qk;refine En ?_;refine Fl ?_;exact qk.h):p:=h ⟨k⟩
theorem Nt(k:q)(h:Hk q→p:=by intro qk;refine R.go ?_;refine Z21 ?_;exact qk.h):p:=h ⟨k⟩
theorem Kl(k:q)(h:Hk q→p:=by intro qk;refine Z5 ?_;refine Z2 ?_;exact qk.h):p:=h ⟨k⟩
theorem pe(k:q)(h:Hk q→p:=by intro qk;refine Z39 ?_;refine W.drawQ [0, 0, 3, 7, 0, 0, 48, 112, 255] 8 Aa (by kernel_rfl) ?_;exact qk.h):p:=h ⟨k⟩
theorem pg(h:p:=by refine Pm ?_;exact gb):p:=h
theorem Nu(k:q)(h:Hk q→p:=by intro qk;refine R.fin [11, 12] ?_;refine Z10 ?_;refine Z83 ?_;exact qk.h):p:=h ⟨k⟩
theorem Lk(k:q)(h:Hk q→p:=by intro qk;refine Z5 ?_;refine Z1 ?_;exact qk.h):p:=h ⟨k⟩
theorem rt(k:q)(h:Hk q→p:=by intro qk;refine R.go ?_;refine En ?_;exact qk.h):p:=h ⟨k⟩
theorem Nv(k:q)(h:Hk q→p:=by intro qk;refine Z7 ?_;refine R.go ?_;exact qk.h):p:=h ⟨k⟩
theorem kv(h:p:=by refine Z13 ?_;exact K.fin (V.one (V.cellN jA jS))):p:=h
theorem ph(k:q)(h:Hk q→p:=by intro qk;refine Cs ?_;refine Tx ?_;exact qk.h):p:=h ⟨k⟩
theorem Nw(k:q)(h:Hk q→p:=by intro qk;refine Z2 ?_;refine R.nilSl 6 2 ?_;refine R.go ?_;refine R.fin [6, 7] ?_;exact qk.h):p:=h ⟨k⟩
theorem Wd(k:q)(h:Hk q→p:=by intro qk;refine Z61 ?_;refine Ib ?_;exact qk.h):p:=h ⟨k⟩
theorem Pn(k:q)(h:Hk q→p:=by intro qk;refine Z10 ?_;refine Z12 ?_;exact qk.h):p:=h ⟨k⟩
theorem pi(h:p:=by refine Z38 ?_;refine Z6 ?_;exact ue):p:=h
theorem ru(h:p:=by refine R.fin [] ?_;exact K.finPN .nores (hp := ⟨Zl m x, k, by unfold L6; rw [hT]; rfl, rfl, by exact dl⟩)):p:=h
theorem Ts(k:q)(h:Hk q→p:=by intro qk;refine K.thP ?_;refine K.blP ?_;exact qk.h):p:=h ⟨k⟩
theorem Nx(k:q)(h:Hk q→p:=by intro qk;refine Z20 ?_;refine Z7 ?_;exact qk.h):p:=h ⟨k⟩
theorem S4(k:q)(h:Hk q→p:=by intro qk;refine Z65 ?_;refine H.go ?_;exact qk.h):p:=h ⟨k⟩
theorem We(k:q)(h:Hk q→p:=by intro qk;refine Z1 ?_;refine Ib ?_;exact qk.h):p:=h ⟨k⟩
theorem f6(k:q)(h:Hk q→p:=by intro qk;refine R.fin [0, 1, 5, 7, 8] ?_;refine Z20 ?_;exact qk.h):p:=h ⟨k⟩
theorem rx(h:p:=by refine Z78 ?_;exact K.fin (V.one V.tmp) ⟨by rw [Wl (Gj (by simp at ht9; omega) hx.2)], rfl⟩):p:=h
theorem S5(k:q)(h:Hk q→p:=by intro qk;refine Z39 ?_;refine Z20 ?_;exact qk.h):p:=h ⟨k⟩
theorem f7(k:q)(h:Hk q→p:=by intro qk;refine R.fin [2, 3, 4, 5] ?_;refine AW.ret ?_;exact qk.h):p:=h ⟨k⟩
theorem ry(h:p:=by refine S9 ?_;exact K.lpN (x + 1) hlt (by omega) (by simp only [em]; exact StCut.of_eq rfl)):p:=h
theorem f8(k:q)(h:Hk q→p:=by intro qk;refine Z2 ?_;refine R.fin [0, 1, 7, 8, 9] ?_;exact qk.h):p:=h ⟨k⟩
theorem f9(k:q)(h:Hk q→p:=by intro qk;refine R.fin [2, 3, 4, 5] ?_;refine Z80 ?_;exact qk.h):p:=h ⟨k⟩
theorem ax(h:p:=by refine D.go ?_;exact Z49):p:=h
theorem S6(k:q)(h:Hk q→p:=by intro qk;refine Z1 ?_;refine Z23 ?_;exact qk.h):p:=h ⟨k⟩
theorem rz(h:p:=by refine D.build (places := #[(0, 1), (1, 1)]) jU (fun w => by simp) jZ ?_;exact Km):p:=h
theorem fe(h:p:=by refine Z62 ?_;exact pi):p:=h
theorem Tt(k:q)(h:Hk q→p:=by intro qk;refine Z38 ?_;refine Z6 ?_;exact qk.h):p:=h ⟨k⟩
theorem Wf(k:q)(h:Hk q→p:=by intro qk;refine D.go ?_;refine D.tail ?_;exact qk.h):p:=h ⟨k⟩
theorem s6(h:p:=by refine K.thR ?_;exact qb):p:=h
theorem ff(k:q)(h:Hk q→p:=by intro qk;refine Z36 ?_;refine R.fin [0, 1, 7, 8] ?_;exact qk.h):p:=h ⟨k⟩
theorem s7(h:p:=by refine G.call Tryz.call109 (fun hB => um e.text J2 hs (by decide) _) ?_;exact fe):p:=h
theorem pj(k:q)(h:Hk q→p:=by intro qk;refine Z2 ?_;refine R.call Tryz.call258 (uo l S o _ (A5 ho) hi) ?_;exact qk.h):p:=h ⟨k⟩
theorem ay(k:q)(h:Hk q→p:=by intro qk;refine Ju ?_;refine rt ?_;exact qk.h):p:=h ⟨k⟩
theorem S7(k:q)(h:Hk q→p:=by intro qk;refine Z18 ?_;refine Z2 ?_;exact qk.h):p:=h ⟨k⟩
theorem s8(h:p:=by refine Z35 ?_;exact K.fin (V.two V.tmp V.tmp) ⟨by rw [Xd hr hkn]; try rfl, rfl⟩):p:=h
theorem s9(h:p:=by refine Z22 ?_;exact qb):p:=h
theorem pk(k:q)(h:Hk q→p:=by intro qk;refine R.go ?_;refine R.call Tryz.call166 (P4 (ks.getD 0 0) 1 _) ?_;exact qk.h):p:=h ⟨k⟩
theorem pl(k:q)(h:Hk q→p:=by intro qk;refine R.go ?_;refine R.call Tryz.call166 (P4 (ks.getD 0 0) 2 _) ?_;exact qk.h):p:=h ⟨k⟩
theorem pm(k:q)(h:Hk q→p:=by intro qk;refine Z2 ?_;refine R.call Tryz.call88 (c88 L i o _ (A5 ho) hi) ?_;exact qk.h):p:=h ⟨k⟩
theorem fg(k:q)(h:Hk q→p:=by intro qk;refine R.fin [6] ?_;refine Z43 ?_;exact qk.h):p:=h ⟨k⟩
theorem S8(k:q)(h:Hk q→p:=by intro qk;refine Z7 ?_;refine Z7 ?_;exact qk.h):p:=h ⟨k⟩
theorem sa(h:p:=by refine Z43 ?_;exact K.fin (V.two V.tmp V.tmp) ⟨by rw [ix hr]; try rfl, rfl⟩):p:=h
theorem Tu(k:q)(h:Hk q→p:=by intro qk;refine Z42 ?_;refine Z22 ?_;exact qk.h):p:=h ⟨k⟩
theorem Tv(k:q)(h:Hk q→p:=by intro qk;refine Z40 ?_;refine Z36 ?_;exact qk.h):p:=h ⟨k⟩
theorem sb(h:p:=by refine Z35 ?_;exact lc):p:=h
theorem sc(h:p:=by refine Z22 ?_;exact ue):p:=h
theorem sd(h:p:=by refine Z23 ?_;exact K.fin (V.one V.tmp) ⟨by rw [mz h3] <;> rfl, rfl⟩):p:=h
theorem se(k:q)(h:Hk q→p:=by intro qk;refine Y.buildSlice jU Tryz.sizeOf9 Tryz.zeroValue9 ?_;refine Y.tail (tn := [2]) (U := U2 L Hp o om j (mvO m)) ?_;exact qk.h):p:=h ⟨k⟩
theorem pq(k:q)(h:Hk q→p:=by intro qk;refine Hw ?_;refine Hw ?_;exact qk.h):p:=h ⟨k⟩
theorem pt(h:p:=by refine R.fin [0, 1, 5, 6] ?_;refine K.lpN (x + 1) hlt (by omega) ?_;exact StCut.of_eq (by simp only [Sz hlt hq, hp, ↓reduceIte, Bool.false_eq_true, List.append_nil, List.map_append, List.map_cons, List.map_nil]; rfl)):p:=h
theorem Tw(k:q)(h:Hk q→p:=by intro qk;refine Z1 ?_;refine Z56 ?_;exact qk.h):p:=h ⟨k⟩
theorem sg(h:p:=by refine Z13 ?_;exact K.fin (V.one (V.cellN jA jS)) ⟨by simp [ht5], rfl⟩):p:=h
theorem sh(k:q)(h:Hk q→p:=by intro qk;refine Z20 ?_;refine R.callUp Tryz.call221 ho (by simp) Bk (cn l S 8 (A7 l S.i).at_ o _ (A5 ho)) ?_;exact qk.h):p:=h ⟨k⟩
theorem fh(h:p:=by refine Z14 ?_;exact Z66):p:=h
theorem si(k:q)(h:Hk q→p:=by intro qk;refine ga ?_;refine En ?_;exact qk.h):p:=h ⟨k⟩
theorem sj(h:p:=by refine Z38 ?_;exact Z47):p:=h
theorem sk(h:p:=by refine Z17 ?_;exact lc):p:=h
theorem sm(h:p:=by refine Z35 ?_;exact K.fin (V.two V.tmp V.tmp) ⟨by rw [hbad], rfl⟩):p:=h
theorem so(h:p:=by refine Z6 ?_;exact q8):p:=h
theorem sq(h:p:=by refine Z29 ?_;exact K.fin (V.one V.tmp) ⟨by rw [hx.eq, hw], rfl⟩):p:=h
theorem fj(h:p:=by refine Z1 ?_;refine ow ?_;refine Z41 ?_;exact lc):p:=h
theorem fk(h:p:=by refine Z22 ?_;exact Z71):p:=h
theorem az(k:q)(h:Hk q→p:=by intro qk;refine AW.block ?_;refine Z8 ?_;exact qk.h):p:=h ⟨k⟩
theorem sr(h:p:=by refine Z35 ?_;exact K.fin (V.two V.tmp V.tmp) ⟨by rw [hkb], rfl⟩):p:=h
theorem ss(h:p:=by refine Tt ?_;exact gb):p:=h
theorem fl(k:q)(h:Hk q→p:=by intro qk;refine Z99 ?_;refine Ib ?_;exact qk.h):p:=h ⟨k⟩
theorem b6(k:q)(h:Hk q→p:=by intro qk;refine Cs ?_;refine Z21 ?_;exact qk.h):p:=h ⟨k⟩
theorem b7(k:q)(h:Hk q→p:=by intro qk;refine K.lpE ?_;refine Z98 ?_;exact qk.h):p:=h ⟨k⟩
theorem fm(k:q)(h:Hk q→p:=by intro qk;refine Z20 ?_;refine R.fin [1, 2] ?_;exact qk.h):p:=h ⟨k⟩
theorem kw(h:p:=by refine K.blN ?_;refine K.thJ ?_;exact StLe.of_eq (by rw [e] <;> rfl)):p:=h
theorem su(h:p:=by refine Z87 ?_;exact lb):p:=h
theorem b8(k:q)(h:Hk q→p:=by intro qk;refine Z14 ?_;refine D.tail ?_;exact qk.h):p:=h ⟨k⟩
theorem sw(h:p:=by refine Z38 ?_;exact gb):p:=h
theorem fp(h:p:=by refine Z0 ?_;exact ou):p:=h
theorem pu(h:p:=by refine Z3 ?_;exact bf):p:=h
theorem kx(k:q)(h:Hk q→p:=by intro qk;refine R.fin [2, 3, 4, 5] ?_;refine Z43 ?_;exact qk.h):p:=h ⟨k⟩
theorem sx(k:q)(h:Hk q→p:=by intro qk;refine W.drawQ [0, 1, 3, 7, 15, 3, 35, 99, 255, 511, 1023] 8 Aa (by kernel_rfl) ?_;refine Z14 ?_;exact qk.h):p:=h ⟨k⟩
theorem b9(k:q)(h:Hk q→p:=by intro qk;refine Z78 ?_;refine K.thR ?_;exact qk.h):p:=h ⟨k⟩
theorem sy(k:q)(h:Hk q→p:=by intro qk;refine W.drawQ [0, 1, 3, 7, 0, 16, 48, 112, 240, 511, 1023] 9 Aa (by kernel_rfl) ?_;refine Z14 ?_;exact qk.h):p:=h ⟨k⟩
theorem t6(h:p:=by refine Z17 ?_;exact lb):p:=h
theorem t7(k:q)(h:Hk q→p:=by intro qk;refine Z60 ?_;refine W.drawQ [0, 1, 3, 7, 0, 16, 48, 112, 255, 511, 1023] 8 Aa (by kernel_rfl) ?_;exact qk.h):p:=h ⟨k⟩
theorem t8(h:p:=by refine Z35 ?_;exact pz):p:=h
theorem tc(h:p:=by refine fg ?_;exact gg):p:=h
theorem ba(k:q)(h:Hk q→p:=by intro qk;refine R.go ?_;refine G.go ?_;exact qk.h):p:=h ⟨k⟩
theorem ky(h:p:=by refine Z19 ?_;refine Z19 ?_;exact lf):p:=h
theorem pv(h:p:=by refine Z25 ?_;exact sj):p:=h
theorem bb(k:q)(h:Hk q→p:=by intro qk;refine Z30 ?_;refine Z7 ?_;refine Z0 ?_;refine R.fin [1, 3, 4, 5] ?_;refine K.blN ?_;exact qk.h):p:=h ⟨k⟩
theorem td(h:p:=by refine Z88 ?_;exact gg):p:=h
theorem bc(k:q)(h:Hk q→p:=by intro qk;refine Z82 ?_;refine Z70 ?_;exact qk.h):p:=h ⟨k⟩
theorem kz(h:p:=by refine Z22 ?_;refine K.thR ?_;exact gg):p:=h
theorem fq(k:q)(h:Hk q→p:=by intro qk;refine Z92 ?_;refine Hy ?_;exact qk.h):p:=h ⟨k⟩
theorem fu(k:q)(h:Hk q→p:=by intro qk;refine D.tail ?_;refine G.go ?_;exact qk.h):p:=h ⟨k⟩
theorem tg(h:p:=by refine R.call Tryz.call145 (c145 e.text _) ?_;exact pv):p:=h
theorem l3(k:q)(h:Hk q→p:=by intro qk;refine Z1 ?_;refine R.fin [2, 3, 18] ?_;exact qk.h):p:=h ⟨k⟩
theorem fw(k:q)(h:Hk q→p:=by intro qk;refine Cs ?_;refine R.box ?_;exact qk.h):p:=h ⟨k⟩
theorem fx(k:q)(h:Hk q→p:=by intro qk;refine Z45 ?_;refine R.fin [0] ?_;exact qk.h):p:=h ⟨k⟩
theorem l4(h:p:=by refine Z19 ?_;refine Y.bot (fun B hT => Nh (hT 0 (by simp))) ?_;exact lf):p:=h
theorem l5(h:p:=by refine Z15 ?_;refine Z34 ?_;exact uc):p:=h
theorem th(k:q)(h:Hk q→p:=by intro qk;refine Z2 ?_;refine Wg ?_;exact qk.h):p:=h ⟨k⟩
theorem pw(k:q)(h:Hk q→p:=by intro qk;refine R.go ?_;refine R.call Tryz.call74 (c74 e _) ?_;exact qk.h):p:=h ⟨k⟩
theorem l6(h:p:=by refine Z42 ?_;refine Z22 ?_;exact gg):p:=h
theorem l7(h:p:=by refine Z0 ?_;refine Z23 ?_;exact K.fin (V.one V.tmp) ⟨by first | (rw [hgy hf]; rfl) | (rw [hgv hf]; rfl), rfl⟩):p:=h
theorem l8(k:q)(h:Hk q→p:=by intro qk;refine R.fin [3, 9] ?_;refine K.thN ?_;exact qk.h):p:=h ⟨k⟩
theorem l9(k:q)(h:Hk q→p:=by intro qk;refine R.fin [0, 3, 5] ?_;refine Z36 ?_;exact qk.h):p:=h ⟨k⟩
theorem be(h:p:=by exact ⟨rfl, Below.refl _ _⟩):p:=h
theorem Ib(k:q)(h:Hk q→p:=by intro qk;refine R.fin [0, 3] ?_;exact qk.h):p:=h ⟨k⟩
theorem Po(k:q)(h:Hk q→p:=by intro qk;refine R.fin [0, 1, 5] ?_;exact qk.h):p:=h ⟨k⟩
theorem tj(h:p:=by exact h (y, j) (by rw [List.mem_zipIdx_iff_getElem?]; exact hj)):p:=h
theorem tm(h:p:=by exact K.fin (V.one V.tmp) ⟨by simp [Ee, ht5], rfl⟩):p:=h
theorem tq(h:p:=by exact K.fin (V.one V.tmp) ⟨by simp [Ee, ht5, ht16, ht22], rfl⟩):p:=h
theorem bf(h:p:=by exact K.fin (V.one V.tmp)):p:=h
theorem g0(k:q)(h:Hk q→p:=by intro qk;refine R.fin [0, 1, 5, 7, 8, 16] ?_;exact qk.h):p:=h ⟨k⟩
theorem Ja(k:q)(h:Hk q→p:=by intro qk;refine R.makeFunc ?_;exact qk.h):p:=h ⟨k⟩
theorem Cs(k:q)(h:Hk q→p:=by intro qk;refine AW.seqR ?_;exact qk.h):p:=h ⟨k⟩
theorem Fl(k:q)(h:Hk q→p:=by intro qk;refine R.fin [2, 3] ?_;exact qk.h):p:=h ⟨k⟩
theorem En(k:q)(h:Hk q→p:=by intro qk;refine R.storeOwn jS ?_;exact qk.h):p:=h ⟨k⟩
theorem Wg(k:q)(h:Hk q→p:=by intro qk;refine R.build (places := #[(0, 1), (1, 1), (2, 1)]) jU (fun w => by simp) jZ ?_;exact qk.h):p:=h ⟨k⟩
theorem tr(h:p:=by exact K.fin (V.one V.tmp) ⟨by simp only [Ft, hp, ht7, ht14, ht23, ht27, Bool.not_true, Bool.false_eq_true, if_false, if_true]; try rfl, rfl⟩):p:=h
theorem tt(h:p:=by exact K.fin (V.two (V.cellN jA jS) V.tmp) ⟨by simp only [U5, ht17, if_true, if_false, Bool.false_eq_true]; rfl, rfl⟩):p:=h
theorem tw(h:p:=by exact K.fin (V.four V.tmp V.tmp V.tmp V.tmp) ⟨by simp only [Jx, ht11, ht17, if_true, if_false, Bool.false_eq_true]; try rfl, rfl⟩):p:=h
theorem tx(h:p:=by exact K.fin (V.four V.tmp V.tmp V.tmp V.tmp) ⟨by simp only [O6, ht18, ht23, if_true, if_false, Bool.false_eq_true]; try rfl, rfl⟩):p:=h
theorem tz(h:p:=by exact K.fin (V.four V.tmp V.tmp V.tmp V.tmp) ⟨by simp only [B5, ht6, ht17, ht28, if_true, if_false, Bool.false_eq_true], rfl⟩):p:=h
theorem g7(h:p:=by exact absurd h (by decide)):p:=h
theorem Ju(k:q)(h:Hk q→p:=by intro qk;refine R.alloc jZ ?_;exact qk.h):p:=h ⟨k⟩
theorem px(k:q)(h:Hk q→p:=by intro qk;refine K.rdN (o7 hL (oid_ne (by decide)) (oid_ne (by decide))) ?_;exact qk.h):p:=h ⟨k⟩
theorem Hw(k:q)(h:Hk q→p:=by intro qk;refine R.buildSlice jU jS jZ ?_;exact qk.h):p:=h ⟨k⟩
theorem Tx(k:q)(h:Hk q→p:=by intro qk;refine R.build (places := #[(0, 1), (1, 1)]) jU (fun w => by simp) jZ ?_;exact qk.h):p:=h ⟨k⟩
theorem g8(h:p:=by exact ⟨hFRl, by simp [oid]⟩):p:=h
theorem g9(h:p:=by exact Hn (fun x hx => ObjLow.le (by omega) (hlow x hx)) hOl x hx):p:=h
theorem py(k:q)(h:Hk q→p:=by intro qk;refine K.rdR (o7 hL (oid_ne (by decide)) (oid_ne (by decide))) ?_;exact qk.h):p:=h ⟨k⟩
theorem la(k:q)(h:Hk q→p:=by intro qk;refine K.rdN (ew hL (oid_ne (by decide))) ?_;exact qk.h):p:=h ⟨k⟩
theorem Hy(k:q)(h:Hk q→p:=by intro qk;refine R.assignT ?_;exact qk.h):p:=h ⟨k⟩
theorem Wh(k:q)(h:Hk q→p:=by intro qk;refine R.fin [0, 1, 2, 6] ?_;exact qk.h):p:=h ⟨k⟩
theorem ga(k:q)(h:Hk q→p:=by intro qk;refine R.build (places := #[(0, 1), (1, 1), (2, 3), (5, 1)]) jU (fun w => by simp) jZ ?_;exact qk.h):p:=h ⟨k⟩
theorem S9(k:q)(h:Hk q→p:=by intro qk;refine R.fin [1, 3, 4] ?_;exact qk.h):p:=h ⟨k⟩
theorem u4(h:p:=by exact K.fin (V.one V.tmp) ⟨by rw [decide_eq_false hne], rfl⟩):p:=h
theorem bg(k:q)(h:Hk q→p:=by intro qk;refine R.fin [0, 1, 5, 6, 7] ?_;exact qk.h):p:=h ⟨k⟩
theorem pz(h:p:=by exact K.fin (V.one V.tmp) ⟨by rw [hf], rfl⟩):p:=h
theorem bh(k:q)(h:Hk q→p:=by intro qk;refine R.fin [2, 6, 13, 14, 15] ?_;exact qk.h):p:=h ⟨k⟩
theorem lb(h:p:=by exact K.fin (V.two V.tmp V.tmp) ⟨by rw [hk], rfl⟩):p:=h
theorem q8(h:p:=by exact K.fin (V.two V.tmp V.tmp) ⟨by rw [hk, hk2], rfl⟩):p:=h
theorem lc(h:p:=by exact K.fin (V.two V.tmp V.tmp) ⟨by rw [hm] <;> rfl, rfl⟩):p:=h
theorem u5(h:p:=by exact K.fin (V.one V.tmp) ⟨by rw [hn]; first | (simp only [ht22, ht25, ht33, ht41, ht41, ht50, ht58, hk3, hk6, Bool.true_or, Bool.false_or, Bool.or_true, Bool.or_false, if_true, if_false, Bool.false_eq_true, ↓reduceIte] <;> rfl) | (simp only [ht22, ht25, ht33, ht41, ht41, ht50, ht58, hk3, Bool.true_or, Bool.false_or, Bool.or_true, if_true, if_false, Bool.false_eq_true, ↓reduceIte] <;> rfl) | (simp only [ht22, ht25, ht33, ht41, ht41, ht50, ht58, if_true, if_false, Bool.false_eq_true, ↓reduceIte] <;> rfl), rfl⟩):p:=h
theorem gb(h:p:=by exact K.fin (V.one V.tmp) ⟨by rw [hm] <;> rfl, rfl⟩):p:=h
theorem gc(k:q)(h:Hk q→p:=by intro qk;refine R.fin [0, 7, 8, 10, 26, 27, 28, 33, 34, 35] ?_;exact qk.h):p:=h ⟨k⟩
theorem u6(h:p:=by exact K.fin (V.two V.tmp V.tmp) ⟨by rw [hm], rfl⟩ (hlow := by simp only [Yb, List.mem_cons, List.mem_nil_iff, or_false]; rintro y (rfl | rfl); exact J5; simp)):p:=h
theorem Km(h:p:=by exact D.end rfl rfl):p:=h
theorem lf(h:p:=by exact Y.endBot (Nh rfl)):p:=h
theorem u7(h:p:=by exact ⟨Nat.lt_succ_self i, hl.step hi (by rw [hk]; decide)⟩):p:=h
theorem Wi(h:p:=by exact ⟨by omega, c2, c3⟩):p:=h
theorem q9(k:q)(h:Hk q→p:=by intro qk;refine RK.callBad Tryz.call89 (c89 L i o 8 _ (A5 ho) hi) ?_;exact qk.h):p:=h ⟨k⟩
theorem u9(h:p:=by exact K.finPP ⟨_, _, by unfold L6; rw [hT]; rfl, rfl, j', m, Y2 hne hm⟩):p:=h
theorem ua(h:p:=by exact (jx L i o _ (A5 (B1 ho hne)) hi hl hll).ok hT):p:=h
theorem ge(k:q)(h:Hk q→p:=by intro qk;refine AW.upEq (Lc ho hm).symm ?_;exact qk.h):p:=h ⟨k⟩
theorem ub(k:q)(h:Hk q→p:=by intro qk;refine RK.callBad Tryz.call155 ((Y3 L m i o om (U2 L Hp o om i (mvO m) ++ [.cells 94 [.ptr o 0], .cells 155 [.ptr om 0]]) hne (A5 (B1 ho hne)) (A5 (By hm)) hi hl hll hb).bad h1) ?_;exact qk.h):p:=h ⟨k⟩
theorem uc(h:p:=by exact K.fin (V.one (V.cellN jA jS)) ⟨by first | exact r7 (by simp_all [C8]) | exact ji (by simp_all [C8]) | exact r8 (by simp_all [C8]), rfl⟩):p:=h
theorem ud(h:p:=by exact K.fin (V.one (V.cellN jA jS)) ⟨by first | exact ji (by simp_all [D7]), rfl⟩):p:=h
theorem qb(h:p:=by exact K.fin (V.one V.tmp) ⟨by simp_all [Er, Kr, cp], rfl⟩):p:=h
theorem ue(h:p:=by exact K.fin (V.one V.tmp) ⟨by simp_all [Da, Kr], rfl⟩):p:=h
theorem gg(h:p:=by exact K.fin (V.one V.tmp) ⟨by rw [hm], rfl⟩):p:=h
end Go.SX.Nb
namespace Go.SX.Nb
open Go Go.SX Go.Proofs
@[reducible, instance] def JA2 := JA.mk (P := Tryz.prog) Tryz.isAgg2
@[reducible, instance] def JA3 := JA.mk (P := Tryz.prog) Tryz.isAgg3
@[reducible, instance] def JA4 := JA.mk (P := Tryz.prog) Tryz.isAgg4
@[reducible, instance] def JA9 := JA.mk (P := Tryz.prog) Tryz.isAgg9
@[reducible, instance] def zi := JA.mk (P := Tryz.prog) Tryz.isAgg22
@[reducible, instance] def zj := JA.mk (P := Tryz.prog) Tryz.isAgg23
@[reducible, instance] def zk := JA.mk (P := Tryz.prog) Tryz.isAgg27
@[reducible, instance] def zl := JA.mk (P := Tryz.prog) Tryz.isAgg34
@[reducible, instance] def zm := JA.mk (P := Tryz.prog) Tryz.isAgg37
@[reducible, instance] def zn := JA.mk (P := Tryz.prog) Tryz.isAgg42
@[reducible, instance] def zo := JA.mk (P := Tryz.prog) Tryz.isAgg43
@[reducible, instance] def zp := JA.mk (P := Tryz.prog) Tryz.isAgg45
@[reducible, instance] def zq := JA.mk (P := Tryz.prog) Tryz.isAgg58
@[reducible, instance] def zr := JA.mk (P := Tryz.prog) Tryz.isAgg60
@[reducible, instance] def zt := JA.mk (P := Tryz.prog) Tryz.isAgg64
@[reducible, instance] def zu := JA.mk (P := Tryz.prog) Tryz.isAgg91
@[reducible, instance] def zv := JA.mk (P := Tryz.prog) Tryz.isAgg94
@[reducible, instance] def yu := JA.mk (P := Tryz.prog) Tryz.isAgg125
@[reducible, instance] def yw := JA.mk (P := Tryz.prog) Tryz.isAgg146
@[reducible, instance] def yx := JA.mk (P := Tryz.prog) Tryz.isAgg148
@[reducible, instance] def yy := JA.mk (P := Tryz.prog) Tryz.isAgg155
@[reducible, instance] def yz := JA.mk (P := Tryz.prog) Tryz.isAgg220
@[reducible, instance] def JS2 := JS.mk (P := Tryz.prog) Tryz.sizeOf2
@[reducible, instance] def JS3 := JS.mk (P := Tryz.prog) Tryz.sizeOf3
@[reducible, instance] def JS4 := JS.mk (P := Tryz.prog) Tryz.sizeOf4
@[reducible, instance] def JS9 := JS.mk (P := Tryz.prog) Tryz.sizeOf9
@[reducible, instance] def zw := JS.mk (P := Tryz.prog) Tryz.sizeOf22
@[reducible, instance] def zx := JS.mk (P := Tryz.prog) Tryz.sizeOf23
@[reducible, instance] def zy := JS.mk (P := Tryz.prog) Tryz.sizeOf27
@[reducible, instance] def zz := JS.mk (P := Tryz.prog) Tryz.sizeOf34
@[reducible, instance] def AA0 := JS.mk (P := Tryz.prog) Tryz.sizeOf37
@[reducible, instance] def AA1 := JS.mk (P := Tryz.prog) Tryz.sizeOf42
@[reducible, instance] def AA2 := JS.mk (P := Tryz.prog) Tryz.sizeOf43
@[reducible, instance] def AA3 := JS.mk (P := Tryz.prog) Tryz.sizeOf45
@[reducible, instance] def AA4 := JS.mk (P := Tryz.prog) Tryz.sizeOf58
@[reducible, instance] def AA5 := JS.mk (P := Tryz.prog) Tryz.sizeOf60
@[reducible, instance] def AA6 := JS.mk (P := Tryz.prog) Tryz.sizeOf64
@[reducible, instance] def AA7 := JS.mk (P := Tryz.prog) Tryz.sizeOf91
@[reducible, instance] def z6 := JS.mk (P := Tryz.prog) Tryz.sizeOf125
@[reducible, instance] def z7 := JS.mk (P := Tryz.prog) Tryz.sizeOf146
@[reducible, instance] def z8 := JS.mk (P := Tryz.prog) Tryz.sizeOf148
@[reducible, instance] def JU3 := JU.mk (P := Tryz.prog) Tryz.underlying3
@[reducible, instance] def JU4 := JU.mk (P := Tryz.prog) Tryz.underlying4
@[reducible, instance] def JU5 := JU.mk (P := Tryz.prog) Tryz.underlying5
@[reducible, instance] def JU9 := JU.mk (P := Tryz.prog) Tryz.underlying9
@[reducible, instance] def AA8 := JU.mk (P := Tryz.prog) Tryz.underlying20
@[reducible, instance] def AA9 := JU.mk (P := Tryz.prog) Tryz.underlying22
@[reducible, instance] def AAa := JU.mk (P := Tryz.prog) Tryz.underlying23
@[reducible, instance] def AAb := JU.mk (P := Tryz.prog) Tryz.underlying34
@[reducible, instance] def AAc := JU.mk (P := Tryz.prog) Tryz.underlying37
@[reducible, instance] def AAd := JU.mk (P := Tryz.prog) Tryz.underlying42
@[reducible, instance] def AAe := JU.mk (P := Tryz.prog) Tryz.underlying43
@[reducible, instance] def AAf := JU.mk (P := Tryz.prog) Tryz.underlying45
@[reducible, instance] def AAg := JU.mk (P := Tryz.prog) Tryz.underlying58
@[reducible, instance] def AAh := JU.mk (P := Tryz.prog) Tryz.underlying60
@[reducible, instance] def AAi := JU.mk (P := Tryz.prog) Tryz.underlying64
@[reducible, instance] def AAj := JU.mk (P := Tryz.prog) Tryz.underlying91
@[reducible, instance] def AAk := JU.mk (P := Tryz.prog) Tryz.underlying96
@[reducible, instance] def za := JU.mk (P := Tryz.prog) Tryz.underlying125
@[reducible, instance] def zb := JU.mk (P := Tryz.prog) Tryz.underlying146
@[reducible, instance] def zc := JU.mk (P := Tryz.prog) Tryz.underlying148
@[reducible, instance] def zd := JU.mk (P := Tryz.prog) Tryz.underlying184
@[reducible, instance] def ze := JU.mk (P := Tryz.prog) Tryz.underlying222
@[reducible, instance] def JZ3 := JZ.mk (P := Tryz.prog) Tryz.zeroValue3
@[reducible, instance] def JZ4 := JZ.mk (P := Tryz.prog) Tryz.zeroValue4
@[reducible, instance] def JZ9 := JZ.mk (P := Tryz.prog) Tryz.zeroValue9
@[reducible, instance] def AAl := JZ.mk (P := Tryz.prog) Tryz.zeroValue22
@[reducible, instance] def AAm := JZ.mk (P := Tryz.prog) Tryz.zeroValue23
@[reducible, instance] def AAn := JZ.mk (P := Tryz.prog) Tryz.zeroValue27
@[reducible, instance] def AAo := JZ.mk (P := Tryz.prog) Tryz.zeroValue34
@[reducible, instance] def AAp := JZ.mk (P := Tryz.prog) Tryz.zeroValue37
@[reducible, instance] def AAq := JZ.mk (P := Tryz.prog) Tryz.zeroValue42
@[reducible, instance] def AAr := JZ.mk (P := Tryz.prog) Tryz.zeroValue45
@[reducible, instance] def AAs := JZ.mk (P := Tryz.prog) Tryz.zeroValue58
@[reducible, instance] def AAt := JZ.mk (P := Tryz.prog) Tryz.zeroValue60
@[reducible, instance] def AAu := JZ.mk (P := Tryz.prog) Tryz.zeroValue64
@[reducible, instance] def AAv := JZ.mk (P := Tryz.prog) Tryz.zeroValue91
@[reducible, instance] def AAw := JZ.mk (P := Tryz.prog) Tryz.zeroValue96
@[reducible, instance] def zf := JZ.mk (P := Tryz.prog) Tryz.zeroValue125
@[reducible, instance] def zg := JZ.mk (P := Tryz.prog) Tryz.zeroValue148
@[reducible, instance] def zh := JZ.mk (P := Tryz.prog) Tryz.zeroValue222
end Go.SX.Nb
