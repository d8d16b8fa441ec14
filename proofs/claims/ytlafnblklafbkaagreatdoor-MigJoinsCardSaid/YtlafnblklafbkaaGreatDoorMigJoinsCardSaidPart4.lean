/- Texts on the way to this: MigJoins answers true for whatever it is handed: two sources of up to 1500 bytes that are migrations, one behind the other, are both, if there are not too many moves; its chapter's example is parsed and printed. (part 4) -/
import Derived.Test.YtlafnblklafbkaaGreatDoorProg
import Derived.Test.YtlafnblklafbkaaGreatDoorMigJoinsCardSaidPart3
set_option linter.all false
namespace Go.SX.Nb
open Go Go.SX Go.Proofs
structure Hk (q:Prop):Prop where h:q
variable {p q:Prop}
theorem Z0(k:q)(h:Hk q→p:=by intro qk;refine R.go ?_;refine R.go ?_;exact qk.h):p:=h ⟨k⟩
theorem Z1(k:q)(h:Hk q→p:=by intro qk;refine Dn ?_;refine Z0 ?_;exact qk.h):p:=h ⟨k⟩
theorem Z2(k:q)(h:Hk q→p:=by intro qk;refine Dn ?_;refine R.go ?_;exact qk.h):p:=h ⟨k⟩
theorem Z3(k:q)(h:Hk q→p:=by intro qk;refine R.fin [2] ?_;refine AW.ret ?_;exact qk.h):p:=h ⟨k⟩
theorem Z4(k:q)(h:Hk q→p:=by intro qk;refine G.go ?_;refine G.go ?_;exact qk.h):p:=h ⟨k⟩
theorem Z5(k:q)(h:Hk q→p:=by intro qk;refine D.go ?_;refine D.go ?_;exact qk.h):p:=h ⟨k⟩
theorem Z6(k:q)(h:Hk q→p:=by intro qk;refine AW.skip ?_;refine K.thN ?_;exact qk.h):p:=h ⟨k⟩
theorem Z7(k:q)(h:Hk q→p:=by intro qk;refine Y.bot (fun B hT=>Mw (hT 0 (by simp))) ?_;refine Y.bot (fun B hT=>Mw (hT 0 (by simp))) ?_;exact qk.h):p:=h ⟨k⟩
theorem Z8(k:q)(h:Hk q→p:=by intro qk;refine K.blR ?_;refine K.thR ?_;exact qk.h):p:=h ⟨k⟩
theorem Z9(k:q)(h:Hk q→p:=by intro qk;refine Z0 ?_;refine R.go ?_;exact qk.h):p:=h ⟨k⟩
theorem Z10(k:q)(h:Hk q→p:=by intro qk;refine R.alloc jZ ?_;refine Hs ?_;exact qk.h):p:=h ⟨k⟩
theorem Z11(k:q)(h:Hk q→p:=by intro qk;refine W.seq ?_;refine Z1 ?_;exact qk.h):p:=h ⟨k⟩
theorem Z12(k:q)(h:Hk q→p:=by intro qk;refine Hc ?_;refine AW.ret ?_;exact qk.h):p:=h ⟨k⟩
theorem Z13(k:q)(h:Hk q→p:=by intro qk;refine K.blN ?_;refine K.thN ?_;exact qk.h):p:=h ⟨k⟩
theorem Z14(k:q)(h:Hk q→p:=by intro qk;refine R.fin [4] ?_;refine AW.ret ?_;exact qk.h):p:=h ⟨k⟩
theorem Z15(k:q)(h:Hk q→p:=by intro qk;refine Dn ?_;refine R.alloc jZ ?_;exact qk.h):p:=h ⟨k⟩
theorem Z16(k:q)(h:Hk q→p:=by intro qk;refine Hs ?_;refine Z3 ?_;exact qk.h):p:=h ⟨k⟩
theorem Z17(k:q)(h:Hk q→p:=by intro qk;refine AW.region ?_;refine Z0 ?_;exact qk.h):p:=h ⟨k⟩
theorem Z18(k:q)(h:Hk q→p:=by intro qk;refine Z1 ?_;refine R.go ?_;exact qk.h):p:=h ⟨k⟩
theorem Z19(k:q)(h:Hk q→p:=by intro qk;refine Z0 ?_;refine Z4 ?_;exact qk.h):p:=h ⟨k⟩
theorem Z20(k:q)(h:Hk q→p:=by intro qk;refine W.seq ?_;refine AW.block ?_;exact qk.h):p:=h ⟨k⟩
theorem Z21(h:p:=by refine D.buildSlice jU jS jZ ?_;exact K3):p:=h
theorem Z22(h:p:=by refine K.thR ?_;exact dg):p:=h
theorem Z23(h:p:=by refine Z8 ?_;exact K.fin (V.one V.tmp) ⟨by rw [hn];first|(simp only [ht22,ht25,ht33,ht41,ht41,hk3,hk6,Bool.true_or,Bool.false_or,Bool.or_true,Bool.or_false,if_true,if_false,Bool.false_eq_true,↓reduceIte]<;>rfl)|(simp only [ht22,ht25,ht33,ht41,ht41,hk3,Bool.true_or,Bool.false_or,Bool.or_true,if_true,if_false,Bool.false_eq_true,↓reduceIte]<;>rfl)|(simp only [ht22,ht25,ht33,ht41,ht41,if_true,if_false,Bool.false_eq_true,↓reduceIte]<;>rfl),rfl⟩):p:=h
theorem Z25(k:q)(h:Hk q→p:=by intro qk;refine AW.skip ?_;refine Z13 ?_;exact qk.h):p:=h ⟨k⟩
theorem Z26(h:p:=by refine K.thJ ?_;exact StLe.of_eq (by simp [*])):p:=h
theorem Z27(k:q)(h:Hk q→p:=by intro qk;refine Z1 ?_;refine Z0 ?_;exact qk.h):p:=h ⟨k⟩
theorem Z28(k:q)(h:Hk q→p:=by intro qk;refine AW.region ?_;refine Z9 ?_;exact qk.h):p:=h ⟨k⟩
theorem Z29(k:q)(h:Hk q→p:=by intro qk;refine R.fin [2,3,4,5] ?_;refine AW.ret ?_;exact qk.h):p:=h ⟨k⟩
theorem Z30(k:q)(h:Hk q→p:=by intro qk;refine Z5 ?_;refine D.go ?_;exact qk.h):p:=h ⟨k⟩
theorem Z31(k:q)(h:Hk q→p:=by intro qk;refine Z2 ?_;refine R.callUp Tryz.call245 ho (by simp) Bg (el l S o _ (A4 ho) hi hll) ?_;exact qk.h):p:=h ⟨k⟩
theorem Z32(k:q)(h:Hk q→p:=by intro qk;refine Z15 ?_;refine R.fin [0,2] ?_;exact qk.h):p:=h ⟨k⟩
theorem Z33(k:q)(h:Hk q→p:=by intro qk;refine K.lpE ?_;refine K.thN ?_;exact qk.h):p:=h ⟨k⟩
theorem Z34(k:q)(h:Hk q→p:=by intro qk;refine Z19 ?_;refine Z4 ?_;exact qk.h):p:=h ⟨k⟩
theorem Z35(k:q)(h:Hk q→p:=by intro qk;refine Z0 ?_;refine Z3 ?_;exact qk.h):p:=h ⟨k⟩
theorem Z36(h:p:=by refine Z5 ?_;exact K3):p:=h
theorem Z37(k:q)(h:Hk q→p:=by intro qk;refine Z8 ?_;refine K.lpR ?_;exact qk.h):p:=h ⟨k⟩
theorem Z38(h:p:=by refine D.go ?_;exact K3):p:=h
theorem Z40(k:q)(h:Hk q→p:=by intro qk;refine Z2 ?_;refine Z3 ?_;exact qk.h):p:=h ⟨k⟩
theorem Z41(k:q)(h:Hk q→p:=by intro qk;refine Dn ?_;refine Za ?_;exact qk.h):p:=h ⟨k⟩
theorem Z42(k:q)(h:Hk q→p:=by intro qk;refine W.seq ?_;refine Z2 ?_;exact qk.h):p:=h ⟨k⟩
theorem Z43(h:p:=by refine K.thR ?_;exact K.fin (V.one (V.cellN jA jS)) ⟨by rw [e,A9],by rw [e]⟩ (hlow:=low_agg _)):p:=h
theorem Z46(k:q)(h:Hk q→p:=by intro qk;refine AW.exit ?_;refine K.thE ?_;exact qk.h):p:=h ⟨k⟩
theorem Z47(k:q)(h:Hk q→p:=by intro qk;refine Z2 ?_;refine R.fin [0,1] ?_;exact qk.h):p:=h ⟨k⟩
theorem Z48(k:q)(h:Hk q→p:=by intro qk;refine Z11 ?_;refine R.go ?_;exact qk.h):p:=h ⟨k⟩
theorem Z50(k:q)(h:Hk q→p:=by intro qk;refine W.seq ?_;refine Dn ?_;exact qk.h):p:=h ⟨k⟩
theorem Z51(k:q)(h:Hk q→p:=by intro qk;refine Z37 ?_;refine K.thR ?_;exact qk.h):p:=h ⟨k⟩
theorem Z52(k:q)(h:Hk q→p:=by intro qk;refine R.fin [6] ?_;refine AW.ret ?_;exact qk.h):p:=h ⟨k⟩
theorem Z53(k:q)(h:Hk q→p:=by intro qk;refine Z0 ?_;refine Z0 ?_;exact qk.h):p:=h ⟨k⟩
theorem Z54(h:p:=by refine R.fin [0,1,7,8] ?_;exact K.lpN (x+1) ⟨hlt,Gt hlt hx.2 ht16⟩ (by omega) (StCut.of_eq rfl)):p:=h
theorem Z55(k:q)(h:Hk q→p:=by intro qk;refine Z2 ?_;refine Z14 ?_;exact qk.h):p:=h ⟨k⟩
theorem Z56(k:q)(h:Hk q→p:=by intro qk;refine Z2 ?_;refine R.fin [0] ?_;exact qk.h):p:=h ⟨k⟩
theorem Z57(k:q)(h:Hk q→p:=by intro qk;refine R.go ?_;refine Hs ?_;exact qk.h):p:=h ⟨k⟩
theorem Z58(k:q)(h:Hk q→p:=by intro qk;refine Z11 ?_;refine Z0 ?_;exact qk.h):p:=h ⟨k⟩
theorem Z59(k:q)(h:Hk q→p:=by intro qk;refine G.go ?_;refine R.go ?_;exact qk.h):p:=h ⟨k⟩
theorem Z60(k:q)(h:Hk q→p:=by intro qk;refine R.fin [] ?_;refine K.blN ?_;exact qk.h):p:=h ⟨k⟩
theorem Z61(h:p:=by refine AW.skip ?_;exact Z26):p:=h
theorem Z62(k:q)(h:Hk q→p:=by intro qk;refine Z12 ?_;refine K.thR ?_;exact qk.h):p:=h ⟨k⟩
theorem Z63(h:p:=by refine Z55 ?_;exact K.fin (V.one V.tmp) ⟨by rw [Wg (U4 hxe hx.2)],rfl⟩):p:=h
theorem Z64(k:q)(h:Hk q→p:=by intro qk;refine AW.block ?_;refine Z1 ?_;exact qk.h):p:=h ⟨k⟩
theorem Z65(k:q)(h:Hk q→p:=by intro qk;refine Dn ?_;refine de ?_;exact qk.h):p:=h ⟨k⟩
theorem Z66(k:q)(h:Hk q→p:=by intro qk;refine Z10 ?_;refine R.fin [0,2,3] ?_;exact qk.h):p:=h ⟨k⟩
theorem Z67(h:p:=by refine K.thP ?_;exact K.finPP ⟨_,_,e,rfl,.refl ho⟩):p:=h
theorem Z68(h:p:=by refine Z51 ?_;exact K.fin (V.one V.tmp) ⟨by rw [fq hlt ht16 hx.2],rfl⟩):p:=h
theorem Z69(k:q)(h:Hk q→p:=by intro qk;refine G.go ?_;refine Z34 ?_;exact qk.h):p:=h ⟨k⟩
theorem Z70(k:q)(h:Hk q→p:=by intro qk;refine Z1 ?_;refine R.fin [1] ?_;exact qk.h):p:=h ⟨k⟩
theorem Z71(k:q)(h:Hk q→p:=by intro qk;refine de ?_;refine Z16 ?_;exact qk.h):p:=h ⟨k⟩
theorem Z72(h:p:=by refine Z14 ?_;exact K.fin (V.one V.tmp) ⟨by rw [←ar];try rfl,rfl⟩):p:=h
theorem Z74(k:q)(h:Hk q→p:=by intro qk;refine H.go ?_;refine H.go ?_;exact qk.h):p:=h ⟨k⟩
theorem Z75(k:q)(h:Hk q→p:=by intro qk;refine Hs ?_;refine R.go ?_;exact qk.h):p:=h ⟨k⟩
theorem Z76(h:p:=by refine Z35 ?_;exact Yz):p:=h
theorem Z77(h:p:=by refine Z16 ?_;exact K.fin (V.one (V.cellN jA jS))):p:=h
theorem Z78(h:p:=by refine Z8 ?_;exact K.fin (V.one V.tmp) ⟨by simp_all [Wi],rfl⟩):p:=h
theorem Z79(k:q)(h:Hk q→p:=by intro qk;refine Z6 ?_;refine Z20 ?_;exact qk.h):p:=h ⟨k⟩
theorem Z80(h:p:=by refine Z35 ?_;refine Z8 ?_;exact pw):p:=h
theorem Z81(h:p:=by refine R.fin [] ?_;exact K.finPN .nores (hp:=⟨Xp m x,k,by unfold Ii;rw [hT];rfl,rfl,by exact b9⟩)):p:=h
theorem Z82(k:q)(h:Hk q→p:=by intro qk;refine K.thP ?_;refine K.blP ?_;exact qk.h):p:=h ⟨k⟩
theorem Z83(k:q)(h:Hk q→p:=by intro qk;refine Z0 ?_;refine Z9 ?_;exact qk.h):p:=h ⟨k⟩
theorem Z84(h:p:=by refine W.keep [3,8] ?_;exact Z61):p:=h
theorem Z85(h:p:=by refine R.fin [] ?_;refine K.blN ?_;exact K.finN .nores ⟨rfl,by rw [pe]<;>simp [aa]⟩):p:=h
theorem Z87(k:q)(h:Hk q→p:=by intro qk;refine Z46 ?_;refine Z33 ?_;exact qk.h):p:=h ⟨k⟩
theorem Z88(k:q)(h:Hk q→p:=by intro qk;refine Z0 ?_;refine G.go ?_;exact qk.h):p:=h ⟨k⟩
theorem Z89(k:q)(h:Hk q→p:=by intro qk;refine R.alloc jZ ?_;refine Z57 ?_;exact qk.h):p:=h ⟨k⟩
theorem Z90(k:q)(h:Hk q→p:=by intro qk;refine Z5 ?_;refine Z5 ?_;exact qk.h):p:=h ⟨k⟩
theorem Z91(h:p:=by refine Z14 ?_;exact Yz):p:=h
theorem Z92(h:p:=by refine D.go ?_;exact Z21):p:=h
theorem Z93(k:q)(h:Hk q→p:=by intro qk;refine D.go ?_;refine D.tail ?_;exact qk.h):p:=h ⟨k⟩
theorem Z94(h:p:=by refine D.build (places:=#[(0,1),(1,1)]) jU (fun w=>by simp) jZ ?_;exact K3):p:=h
theorem Z95(k:q)(h:Hk q→p:=by intro qk;refine Z2 ?_;refine R.call Tryz.call257 (qb l S o _ (A4 ho) hi) ?_;exact qk.h):p:=h ⟨k⟩
theorem Z96(k:q)(h:Hk q→p:=by intro qk;refine Z2 ?_;refine R.call Tryz.call48 (c48 L i o _ (A4 ho) hi) ?_;exact qk.h):p:=h ⟨k⟩
theorem Z97(k:q)(h:Hk q→p:=by intro qk;refine AW.region ?_;refine R.go ?_;exact qk.h):p:=h ⟨k⟩
theorem Z98(k:q)(h:Hk q→p:=by intro qk;refine AW.ret ?_;refine K.thR ?_;exact qk.h):p:=h ⟨k⟩
theorem Z99(h:p:=by refine Z37 ?_;exact Z22):p:=h
theorem V8(k:q)(h:Hk q→p:=by intro qk;refine Z35 ?_;refine Z8 ?_;exact qk.h):p:=h ⟨k⟩
theorem V9(k:q)(h:Hk q→p:=by intro qk;refine Z25 ?_;refine Z40 ?_;exact qk.h):p:=h ⟨k⟩
theorem Ss(k:q)(h:Hk q→p:=by intro qk;refine Z18 ?_;refine Z4 ?_;exact qk.h):p:=h ⟨k⟩
theorem o6(h:p:=by refine V9 ?_;exact pw):p:=h
theorem Rd(k:q)(h:Hk q→p:=by intro qk;refine Z6 ?_;refine Z2 ?_;exact qk.h):p:=h ⟨k⟩
theorem o7(h:p:=by refine Z62 ?_;exact pm):p:=h
theorem o8(k:q)(h:Hk q→p:=by intro qk;refine Y.buildSlice jU Tryz.sizeOf9 Tryz.zeroValue9 ?_;refine Y.tail (tn:=[2]) (U:=U2 L Hp o om j (mvO m)) ?_;exact qk.h):p:=h ⟨k⟩
theorem o9(h:p:=by refine Z62 ?_;exact mg):p:=h
theorem cy(k:q)(h:Hk q→p:=by intro qk;refine Hs ?_;refine Z52 ?_;exact qk.h):p:=h ⟨k⟩
theorem oa(h:p:=by refine Z16 ?_;exact K.fin (V.one (V.cellN jA jS)) ⟨by simp [ht5],rfl⟩):p:=h
theorem Su(k:q)(h:Hk q→p:=by intro qk;refine Z11 ?_;refine Z9 ?_;exact qk.h):p:=h ⟨k⟩
theorem ob(k:q)(h:Hk q→p:=by intro qk;refine Z18 ?_;refine R.callUp Tryz.call217 ho (by simp) Bg (Zx l S 8 (A2 l S.i).at_ o _ (A4 ho)) ?_;exact qk.h):p:=h ⟨k⟩
theorem oc(k:q)(h:Hk q→p:=by intro qk;refine de ?_;refine Hs ?_;exact qk.h):p:=h ⟨k⟩
theorem Va(k:q)(h:Hk q→p:=by intro qk;refine Z25 ?_;refine Z28 ?_;exact qk.h):p:=h ⟨k⟩
theorem od(k:q)(h:Hk q→p:=by intro qk;refine Z79 ?_;refine W.draw [0,1,0,7,15,0,32,0,224,480,1023,2047] 10 Aa (by kernel_rfl) ?_;exact qk.h):p:=h ⟨k⟩
theorem Sv(k:q)(h:Hk q→p:=by intro qk;refine Z6 ?_;refine Z18 ?_;exact qk.h):p:=h ⟨k⟩
theorem cz(h:p:=by refine Z40 ?_;refine Z8 ?_;exact K.fin (V.one V.tmp) ⟨by simp_all [Jt],rfl⟩):p:=h
theorem oe(h:p:=by refine V8 ?_;exact dg):p:=h
theorem d7(h:p:=by refine R.fin [10] ?_;refine Z13 ?_;refine Z27 ?_;refine Z12 ?_;exact pv):p:=h
theorem Vb(k:q)(h:Hk q→p:=by intro qk;refine Z25 ?_;refine Z17 ?_;exact qk.h):p:=h ⟨k⟩
theorem d8(h:p:=by refine Z5 ?_;exact Z36):p:=h
theorem d9(k:q)(h:Hk q→p:=by intro qk;refine Z1 ?_;refine R.fin [3,8] ?_;exact qk.h):p:=h ⟨k⟩
theorem og(k:q)(h:Hk q→p:=by intro qk;refine W.drawQ [0,1,3,7,15,3,35,99,255,511,1023] 8 Aa (by kernel_rfl) ?_;refine Z5 ?_;exact qk.h):p:=h ⟨k⟩
theorem oh(k:q)(h:Hk q→p:=by intro qk;refine Z32 ?_;refine W.drawQ [0,1,3,7,0,16,48,112,255,511,1023] 8 Aa (by kernel_rfl) ?_;exact qk.h):p:=h ⟨k⟩
theorem iz(h:p:=by refine K.blN ?_;refine K.thJ ?_;exact StLe.of_eq (by rw [e]<;>rfl)):p:=h
theorem Vc(k:q)(h:Hk q→p:=by intro qk;refine Z5 ?_;refine Z30 ?_;exact qk.h):p:=h ⟨k⟩
theorem oi(h:p:=by refine K.thR ?_;exact K.fin (V.one V.tmp) ⟨by rw [hf],rfl⟩):p:=h
theorem ol(h:p:=by refine Z51 ?_;exact K.fin (V.one V.tmp) ⟨by rw [hf],rfl⟩):p:=h
theorem oo(k:q)(h:Hk q→p:=by intro qk;refine R.fin [0,3,4] ?_;refine W.drawQ [0,1,3,0,8,24,56,127] 7 Aa (by kernel_rfl) ?_;exact qk.h):p:=h ⟨k⟩
theorem ot(k:q)(h:Hk q→p:=by intro qk;refine Z1 ?_;refine de ?_;exact qk.h):p:=h ⟨k⟩
theorem mc(k:q)(h:Hk q→p:=by intro qk;refine R.go ?_;refine R.call Tryz.call106 (s8 e _) ?_;exact qk.h):p:=h ⟨k⟩
theorem ou(k:q)(h:Hk q→p:=by intro qk;refine Zb ?_;refine Hs ?_;exact qk.h):p:=h ⟨k⟩
theorem ov(k:q)(h:Hk q→p:=by intro qk;refine G.call Tryz.call144 (fun hB=>q8 e.text J2 hs (by decide) _) ?_;refine Z34 ?_;exact qk.h):p:=h ⟨k⟩
theorem da(k:q)(h:Hk q→p:=by intro qk;refine Z27 ?_;refine R.fin [0] ?_;exact qk.h):p:=h ⟨k⟩
theorem j4(h:p:=by refine Z7 ?_;refine Z7 ?_;exact j8):p:=h
theorem ow(k:q)(h:Hk q→p:=by intro qk;refine Z2 ?_;refine Za ?_;exact qk.h):p:=h ⟨k⟩
theorem db(k:q)(h:Hk q→p:=by intro qk;refine Z20 ?_;refine Dn ?_;exact qk.h):p:=h ⟨k⟩
theorem j5(h:p:=by refine Z7 ?_;refine Y.bot (fun B hT=>Mw (hT 0 (by simp))) ?_;exact j8):p:=h
theorem Yy(k:q)(h:Hk q→p:=by intro qk;refine Z75 ?_;refine Z12 ?_;exact qk.h):p:=h ⟨k⟩
theorem Sw(h:p:=by exact ⟨rfl,Below.refl _ _⟩):p:=h
theorem Dn(k:q)(h:Hk q→p:=by intro qk;refine AW.seqR ?_;exact qk.h):p:=h ⟨k⟩
theorem Yz(h:p:=by exact K.fin (V.one V.tmp)):p:=h
theorem Hs(k:q)(h:Hk q→p:=by intro qk;refine R.storeOwn jS ?_;exact qk.h):p:=h ⟨k⟩
theorem Hc(k:q)(h:Hk q→p:=by intro qk;refine R.fin [2,3] ?_;exact qk.h):p:=h ⟨k⟩
theorem Za(k:q)(h:Hk q→p:=by intro qk;refine R.build (places:=#[(0,1),(1,1),(2,1)]) jU (fun w=>by simp) jZ ?_;exact qk.h):p:=h ⟨k⟩
theorem oy(h:p:=by exact K.fin (V.one V.tmp) ⟨by simp only [Dp,hp,ht7,ht14,ht23,ht27,Bool.not_true,Bool.false_eq_true,if_false,if_true];try rfl,rfl⟩):p:=h
theorem oz(h:p:=by exact K.fin (V.two (V.cellN jA jS) V.tmp) ⟨by simp only [T3,ht17,if_true,if_false,Bool.false_eq_true];rfl,rfl⟩):p:=h
theorem L1(k:q)(h:Hk q→p:=by intro qk;refine R.fin [0,3] ?_;exact qk.h):p:=h ⟨k⟩
theorem p8(h:p:=by exact K.fin (V.four V.tmp V.tmp V.tmp V.tmp) ⟨by simp only [Gf,ht11,ht17,if_true,if_false,Bool.false_eq_true];try rfl,rfl⟩):p:=h
theorem p9(h:p:=by exact K.fin (V.four V.tmp V.tmp V.tmp V.tmp) ⟨by simp only [K6,ht18,ht23,if_true,if_false,Bool.false_eq_true];try rfl,rfl⟩):p:=h
theorem pc(h:p:=by exact K.fin (V.four V.tmp V.tmp V.tmp V.tmp) ⟨by simp only [Ao,ht6,ht17,ht28,if_true,if_false,Bool.false_eq_true],rfl⟩):p:=h
theorem dc(h:p:=by exact absurd h (by decide)):p:=h
theorem Re(k:q)(h:Hk q→p:=by intro qk;refine R.buildSlice jU jS jZ ?_;exact qk.h):p:=h ⟨k⟩
theorem Zb(k:q)(h:Hk q→p:=by intro qk;refine R.build (places:=#[(0,1),(1,1)]) jU (fun w=>by simp) jZ ?_;exact qk.h):p:=h ⟨k⟩
theorem j6(h:p:=by exact ⟨hFRl,by simp [oid]⟩):p:=h
theorem dd(h:p:=by exact Mq (fun x hx=>ObjLow.le (by omega) (hlow x hx)) hOl x hx):p:=h
theorem Vd(k:q)(h:Hk q→p:=by intro qk;refine R.fin [0,1,2,6] ?_;exact qk.h):p:=h ⟨k⟩
theorem de(k:q)(h:Hk q→p:=by intro qk;refine R.build (places:=#[(0,1),(1,1),(2,3),(5,1)]) jU (fun w=>by simp) jZ ?_;exact qk.h):p:=h ⟨k⟩
theorem pg(h:p:=by exact K.fin (V.one V.tmp) ⟨by rw [decide_eq_false hne],rfl⟩):p:=h
theorem ph(h:p:=by exact ⟨Nat.lt_succ_self i,hl.step hi (by rw [hk];decide)⟩):p:=h
theorem Ve(h:p:=by exact ⟨by omega,c2,c3⟩):p:=h
theorem pi(h:p:=by exact ⟨(J4 _ _ _).trans hS,fun h=>absurd h (Fm (by decide) _)⟩):p:=h
theorem pj(h:p:=by exact bad _ _ ((J4 _ _ _).trans hS) (Fm (by decide) _)):p:=h
theorem j7(h:p:=by exact fun h=>absurd h (Fm (by decide) _)):p:=h
theorem md(h:p:=by exact ⟨by kernel_rfl,by decide +kernel,by decide +kernel⟩):p:=h
theorem me(h:p:=by exact absurd hc (Fm (by decide) _)):p:=h
theorem Vf(h:p:=by exact ⟨(fun h=>by cases h),(fun h=>by cases h)⟩):p:=h
theorem pk(h:p:=by exact ⟨m',Oj Z V m' hm' (by simp at hm;omega),rfl⟩):p:=h
theorem pl(h:p:=by exact K.fin (V.one V.tmp) ⟨by rw [hn];first|(simp only [ht22,ht25,ht33,ht41,ht41,ht50,ht58,hk3,hk6,Bool.true_or,Bool.false_or,Bool.or_true,Bool.or_false,if_true,if_false,Bool.false_eq_true,↓reduceIte]<;>rfl)|(simp only [ht22,ht25,ht33,ht41,ht41,ht50,ht58,hk3,Bool.true_or,Bool.false_or,Bool.or_true,if_true,if_false,Bool.false_eq_true,↓reduceIte]<;>rfl)|(simp only [ht22,ht25,ht33,ht41,ht41,ht50,ht58,if_true,if_false,Bool.false_eq_true,↓reduceIte]<;>rfl),rfl⟩):p:=h
theorem dg(h:p:=by exact K.fin (V.one V.tmp) ⟨by rw [hm]<;>rfl,rfl⟩):p:=h
theorem pm(h:p:=by exact K.fin (V.two V.tmp V.tmp) ⟨by rw [hsh]<;>rfl,rfl⟩):p:=h
theorem K3(h:p:=by exact D.end rfl rfl):p:=h
theorem j8(h:p:=by exact Y.endBot (Mw rfl)):p:=h
theorem mf(k:q)(h:Hk q→p:=by intro qk;refine RK.callBad Tryz.call49 (c49 L i o 8 _ (A4 ho) hi) ?_;exact qk.h):p:=h ⟨k⟩
theorem pq(h:p:=by exact K.finPP ⟨_,_,by unfold Ii;rw [hT];rfl,rfl,j',m,Wm hne hm⟩):p:=h
theorem pt(h:p:=by exact (gh L i o _ (A4 (Av ho hne)) hi hl hll).ok hT):p:=h
theorem dh(k:q)(h:Hk q→p:=by intro qk;refine AW.upEq (Kt ho hm).symm ?_;exact qk.h):p:=h ⟨k⟩
theorem pu(k:q)(h:Hk q→p:=by intro qk;refine RK.callBad Tryz.call123 ((Wn L m i o om (U2 L Hp o om i (mvO m)++[.cells 51 [.ptr o 0],.cells 102 [.ptr om 0]]) hne (A4 (Av ho hne)) (A4 (Bw hm)) hi hl hll hb).bad h1) ?_;exact qk.h):p:=h ⟨k⟩
theorem mg(h:p:=by exact K.fin (V.two V.tmp V.tmp) ⟨by rw [hm]<;>rfl,rfl⟩):p:=h
theorem pv(h:p:=by exact K.fin (V.two V.tmp V.tmp) ⟨by rw [e]<;>rfl,rfl⟩):p:=h
theorem di(h:p:=by exact absurd hc (N1 h0 (by decide))):p:=h
theorem pw(h:p:=by exact K.fin (V.one V.tmp) ⟨by simp_all [Bj,F1],rfl⟩):p:=h
end Go.SX.Nb
namespace Go.SX.Nb
open Go Go.SX Go.Proofs
@[reducible,instance] def JA2:=JA.mk (P:=Tryz.prog) Tryz.isAgg2
@[reducible,instance] def JA3:=JA.mk (P:=Tryz.prog) Tryz.isAgg3
@[reducible,instance] def JA4:=JA.mk (P:=Tryz.prog) Tryz.isAgg4
@[reducible,instance] def JA9:=JA.mk (P:=Tryz.prog) Tryz.isAgg9
@[reducible,instance] def u7:=JA.mk (P:=Tryz.prog) Tryz.isAgg23
@[reducible,instance] def ua:=JA.mk (P:=Tryz.prog) Tryz.isAgg24
@[reducible,instance] def ub:=JA.mk (P:=Tryz.prog) Tryz.isAgg26
@[reducible,instance] def uc:=JA.mk (P:=Tryz.prog) Tryz.isAgg29
@[reducible,instance] def ud:=JA.mk (P:=Tryz.prog) Tryz.isAgg40
@[reducible,instance] def ue:=JA.mk (P:=Tryz.prog) Tryz.isAgg45
@[reducible,instance] def uf:=JA.mk (P:=Tryz.prog) Tryz.isAgg47
@[reducible,instance] def ug:=JA.mk (P:=Tryz.prog) Tryz.isAgg48
@[reducible,instance] def uh:=JA.mk (P:=Tryz.prog) Tryz.isAgg51
@[reducible,instance] def ui:=JA.mk (P:=Tryz.prog) Tryz.isAgg59
@[reducible,instance] def uj:=JA.mk (P:=Tryz.prog) Tryz.isAgg64
@[reducible,instance] def uk:=JA.mk (P:=Tryz.prog) Tryz.isAgg67
@[reducible,instance] def ul:=JA.mk (P:=Tryz.prog) Tryz.isAgg69
@[reducible,instance] def tr:=JA.mk (P:=Tryz.prog) Tryz.isAgg102
@[reducible,instance] def tt:=JA.mk (P:=Tryz.prog) Tryz.isAgg221
@[reducible,instance] def JS2:=JS.mk (P:=Tryz.prog) Tryz.sizeOf2
@[reducible,instance] def JS3:=JS.mk (P:=Tryz.prog) Tryz.sizeOf3
@[reducible,instance] def JS4:=JS.mk (P:=Tryz.prog) Tryz.sizeOf4
@[reducible,instance] def JS9:=JS.mk (P:=Tryz.prog) Tryz.sizeOf9
@[reducible,instance] def um:=JS.mk (P:=Tryz.prog) Tryz.sizeOf23
@[reducible,instance] def un:=JS.mk (P:=Tryz.prog) Tryz.sizeOf24
@[reducible,instance] def uo:=JS.mk (P:=Tryz.prog) Tryz.sizeOf26
@[reducible,instance] def uq:=JS.mk (P:=Tryz.prog) Tryz.sizeOf29
@[reducible,instance] def ur:=JS.mk (P:=Tryz.prog) Tryz.sizeOf40
@[reducible,instance] def ut:=JS.mk (P:=Tryz.prog) Tryz.sizeOf45
@[reducible,instance] def uu:=JS.mk (P:=Tryz.prog) Tryz.sizeOf47
@[reducible,instance] def uv:=JS.mk (P:=Tryz.prog) Tryz.sizeOf48
@[reducible,instance] def uw:=JS.mk (P:=Tryz.prog) Tryz.sizeOf59
@[reducible,instance] def ux:=JS.mk (P:=Tryz.prog) Tryz.sizeOf64
@[reducible,instance] def uz:=JS.mk (P:=Tryz.prog) Tryz.sizeOf67
@[reducible,instance] def v6:=JS.mk (P:=Tryz.prog) Tryz.sizeOf69
@[reducible,instance] def v7:=JS.mk (P:=Tryz.prog) Tryz.sizeOf74
@[reducible,instance] def JU3:=JU.mk (P:=Tryz.prog) Tryz.underlying3
@[reducible,instance] def JU4:=JU.mk (P:=Tryz.prog) Tryz.underlying4
@[reducible,instance] def JU5:=JU.mk (P:=Tryz.prog) Tryz.underlying5
@[reducible,instance] def JU9:=JU.mk (P:=Tryz.prog) Tryz.underlying9
@[reducible,instance] def v8:=JU.mk (P:=Tryz.prog) Tryz.underlying20
@[reducible,instance] def vd:=JU.mk (P:=Tryz.prog) Tryz.underlying23
@[reducible,instance] def ve:=JU.mk (P:=Tryz.prog) Tryz.underlying26
@[reducible,instance] def vf:=JU.mk (P:=Tryz.prog) Tryz.underlying29
@[reducible,instance] def vg:=JU.mk (P:=Tryz.prog) Tryz.underlying40
@[reducible,instance] def vh:=JU.mk (P:=Tryz.prog) Tryz.underlying45
@[reducible,instance] def vi:=JU.mk (P:=Tryz.prog) Tryz.underlying47
@[reducible,instance] def vj:=JU.mk (P:=Tryz.prog) Tryz.underlying48
@[reducible,instance] def vk:=JU.mk (P:=Tryz.prog) Tryz.underlying53
@[reducible,instance] def vl:=JU.mk (P:=Tryz.prog) Tryz.underlying59
@[reducible,instance] def vm:=JU.mk (P:=Tryz.prog) Tryz.underlying64
@[reducible,instance] def vn:=JU.mk (P:=Tryz.prog) Tryz.underlying67
@[reducible,instance] def vo:=JU.mk (P:=Tryz.prog) Tryz.underlying69
@[reducible,instance] def tw:=JU.mk (P:=Tryz.prog) Tryz.underlying160
@[reducible,instance] def tx:=JU.mk (P:=Tryz.prog) Tryz.underlying223
@[reducible,instance] def JZ3:=JZ.mk (P:=Tryz.prog) Tryz.zeroValue3
@[reducible,instance] def JZ4:=JZ.mk (P:=Tryz.prog) Tryz.zeroValue4
@[reducible,instance] def JZ9:=JZ.mk (P:=Tryz.prog) Tryz.zeroValue9
@[reducible,instance] def vp:=JZ.mk (P:=Tryz.prog) Tryz.zeroValue23
@[reducible,instance] def vq:=JZ.mk (P:=Tryz.prog) Tryz.zeroValue26
@[reducible,instance] def vr:=JZ.mk (P:=Tryz.prog) Tryz.zeroValue47
@[reducible,instance] def vt:=JZ.mk (P:=Tryz.prog) Tryz.zeroValue48
@[reducible,instance] def vu:=JZ.mk (P:=Tryz.prog) Tryz.zeroValue53
@[reducible,instance] def vw:=JZ.mk (P:=Tryz.prog) Tryz.zeroValue59
@[reducible,instance] def vx:=JZ.mk (P:=Tryz.prog) Tryz.zeroValue64
@[reducible,instance] def vy:=JZ.mk (P:=Tryz.prog) Tryz.zeroValue67
@[reducible,instance] def vz:=JZ.mk (P:=Tryz.prog) Tryz.zeroValue69
@[reducible,instance] def w4:=JZ.mk (P:=Tryz.prog) Tryz.zeroValue74
@[reducible,instance] def tz:=JZ.mk (P:=Tryz.prog) Tryz.zeroValue160
@[reducible,instance] def u6:=JZ.mk (P:=Tryz.prog) Tryz.zeroValue223
end Go.SX.Nb
