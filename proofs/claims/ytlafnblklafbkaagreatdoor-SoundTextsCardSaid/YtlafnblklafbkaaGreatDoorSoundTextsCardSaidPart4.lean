/- Texts on the way to this: SoundTexts answers true for whatever it is handed: of any columns and any source that is a migration: printed, and parsed again, it is sound, or is not, at the same move, for the same reason (up to 50 columns, 3000 bytes). (part 4) -/
import Derived.Test.YtlafnblklafbkaaGreatDoorProg
import Derived.Test.YtlafnblklafbkaaGreatDoorSoundTextsCardSaidPart3
set_option linter.all false
namespace Go.SX.Nb
open Go Go.SX Go.Proofs
structure Hk (q:Prop):Prop where h:q
variable {p q:Prop}
theorem Z0(k:q)(h:Hk q→p:=by intro qk;refine R.go ?_;refine R.go ?_;exact qk.h):p:=h ⟨k⟩
theorem Z1(k:q)(h:Hk q→p:=by intro qk;refine Dq ?_;refine Z0 ?_;exact qk.h):p:=h ⟨k⟩
theorem Z3(k:q)(h:Hk q→p:=by intro qk;refine Dq ?_;refine R.go ?_;exact qk.h):p:=h ⟨k⟩
theorem Z4(k:q)(h:Hk q→p:=by intro qk;refine R.fin [2] ?_;refine AW.ret ?_;exact qk.h):p:=h ⟨k⟩
theorem Z7(k:q)(h:Hk q→p:=by intro qk;refine Fk ?_;refine Z4 ?_;exact qk.h):p:=h ⟨k⟩
theorem Z8(k:q)(h:Hk q→p:=by intro qk;refine AW.skip ?_;refine K.thN ?_;exact qk.h):p:=h ⟨k⟩
theorem Z9(k:q)(h:Hk q→p:=by intro qk;refine G.go ?_;refine G.go ?_;exact qk.h):p:=h ⟨k⟩
theorem Z10(k:q)(h:Hk q→p:=by intro qk;refine K.blR ?_;refine K.thR ?_;exact qk.h):p:=h ⟨k⟩
theorem Z11(k:q)(h:Hk q→p:=by intro qk;refine AW.region ?_;refine Z0 ?_;exact qk.h):p:=h ⟨k⟩
theorem Z12(k:q)(h:Hk q→p:=by intro qk;refine Y.bot (fun B hT=>P7 (hT 0 (by simp))) ?_;refine Y.bot (fun B hT=>P7 (hT 0 (by simp))) ?_;exact qk.h):p:=h ⟨k⟩
theorem Z13(k:q)(h:Hk q→p:=by intro qk;refine Z1 ?_;refine R.go ?_;exact qk.h):p:=h ⟨k⟩
theorem Z14(k:q)(h:Hk q→p:=by intro qk;refine K.blN ?_;refine K.thN ?_;exact qk.h):p:=h ⟨k⟩
theorem Z15(k:q)(h:Hk q→p:=by intro qk;refine D.go ?_;refine D.go ?_;exact qk.h):p:=h ⟨k⟩
theorem Z16(k:q)(h:Hk q→p:=by intro qk;refine R.alloc jZ ?_;refine Fk ?_;exact qk.h):p:=h ⟨k⟩
theorem Z17(k:q)(h:Hk q→p:=by intro qk;refine Dq ?_;refine Ru ?_;refine W9 ?_;exact qk.h):p:=h ⟨k⟩
theorem Z19(k:q)(h:Hk q→p:=by intro qk;refine Z0 ?_;refine R.go ?_;exact qk.h):p:=h ⟨k⟩
theorem Z20(k:q)(h:Hk q→p:=by intro qk;refine AW.skip ?_;refine Z14 ?_;exact qk.h):p:=h ⟨k⟩
theorem Z21(k:q)(h:Hk q→p:=by intro qk;refine W.seq ?_;refine Z1 ?_;exact qk.h):p:=h ⟨k⟩
theorem Z22(k:q)(h:Hk q→p:=by intro qk;refine AW.ret ?_;refine K.thR ?_;exact qk.h):p:=h ⟨k⟩
theorem Z23(k:q)(h:Hk q→p:=by intro qk;refine Dq ?_;refine R.alloc jZ ?_;exact qk.h):p:=h ⟨k⟩
theorem Z24(k:q)(h:Hk q→p:=by intro qk;refine W.seq ?_;refine AW.block ?_;exact qk.h):p:=h ⟨k⟩
theorem Z25(k:q)(h:Hk q→p:=by intro qk;refine Z17 ?_;refine Z7 ?_;exact qk.h):p:=h ⟨k⟩
theorem Z26(k:q)(h:Hk q→p:=by intro qk;refine Z25 ?_;refine K.blR ?_;exact qk.h):p:=h ⟨k⟩
theorem Z27(k:q)(h:Hk q→p:=by intro qk;refine R.fin [4] ?_;refine AW.ret ?_;exact qk.h):p:=h ⟨k⟩
theorem Z28(k:q)(h:Hk q→p:=by intro qk;refine Z1 ?_;refine Z0 ?_;exact qk.h):p:=h ⟨k⟩
theorem Z29(k:q)(h:Hk q→p:=by intro qk;refine Z4 ?_;refine Z10 ?_;exact qk.h):p:=h ⟨k⟩
theorem Z31(h:p:=by refine D.buildSlice jU jS jZ ?_;exact My):p:=h
theorem Z32(h:p:=by refine Z29 ?_;exact K.fin (V.one V.tmp) ⟨by rw [hn];first|(simp only [ht22,ht25,ht33,ht41,ht41,hk3,hk6,Bool.true_or,Bool.false_or,Bool.or_true,Bool.or_false,if_true,if_false,Bool.false_eq_true,↓reduceIte]<;>rfl)|(simp only [ht22,ht25,ht33,ht41,ht41,hk3,Bool.true_or,Bool.false_or,Bool.or_true,if_true,if_false,Bool.false_eq_true,↓reduceIte]<;>rfl)|(simp only [ht22,ht25,ht33,ht41,ht41,if_true,if_false,Bool.false_eq_true,↓reduceIte]<;>rfl),rfl⟩):p:=h
theorem Z33(h:p:=by refine Z29 ?_;exact zu):p:=h
theorem Z34(k:q)(h:Hk q→p:=by intro qk;refine Gn ?_;refine AW.ret ?_;exact qk.h):p:=h ⟨k⟩
theorem Z35(k:q)(h:Hk q→p:=by intro qk;refine W.seq ?_;refine Z13 ?_;exact qk.h):p:=h ⟨k⟩
theorem Z36(k:q)(h:Hk q→p:=by intro qk;refine K.lpE ?_;refine K.thN ?_;exact qk.h):p:=h ⟨k⟩
theorem Z37(h:p:=by refine K.thJ ?_;exact StLe.of_eq (by simp [*])):p:=h
theorem Z38(k:q)(h:Hk q→p:=by intro qk;refine Z23 ?_;refine R.fin [0,2] ?_;exact qk.h):p:=h ⟨k⟩
theorem Z39(k:q)(h:Hk q→p:=by intro qk;refine K.lpR ?_;refine K.thR ?_;exact qk.h):p:=h ⟨k⟩
theorem Z40(h:p:=by refine Z26 ?_;refine K.thR ?_;exact zt):p:=h
theorem Z41(k:q)(h:Hk q→p:=by intro qk;refine Z3 ?_;refine R.callUp Tryz.call245 ho (by simp) Bv (n8 l S o _ (A4 ho) hi hll) ?_;exact qk.h):p:=h ⟨k⟩
theorem Z42(k:q)(h:Hk q→p:=by intro qk;refine Z0 ?_;refine Z9 ?_;exact qk.h):p:=h ⟨k⟩
theorem Z43(k:q)(h:Hk q→p:=by intro qk;refine R.fin [] ?_;refine K.blN ?_;exact qk.h):p:=h ⟨k⟩
theorem Z44(h:p:=by refine Z15 ?_;exact My):p:=h
theorem Z45(k:q)(h:Hk q→p:=by intro qk;refine Z0 ?_;refine Z19 ?_;exact qk.h):p:=h ⟨k⟩
theorem Z46(k:q)(h:Hk q→p:=by intro qk;refine W.seq ?_;refine Z3 ?_;exact qk.h):p:=h ⟨k⟩
theorem Z47(h:p:=by refine D.go ?_;exact My):p:=h
theorem Z48(k:q)(h:Hk q→p:=by intro qk;refine Z3 ?_;refine R.fin [0] ?_;exact qk.h):p:=h ⟨k⟩
theorem Z49(k:q)(h:Hk q→p:=by intro qk;refine W.seq ?_;refine Dq ?_;exact qk.h):p:=h ⟨k⟩
theorem Z50(h:p:=by refine Z43 ?_;exact K.finN .nores ⟨rfl,by rw [pe]<;>simp [Qn]⟩):p:=h
theorem Z51(k:q)(h:Hk q→p:=by intro qk;refine R.go ?_;refine Fk ?_;exact qk.h):p:=h ⟨k⟩
theorem Z52(k:q)(h:Hk q→p:=by intro qk;refine Dq ?_;refine ge ?_;exact qk.h):p:=h ⟨k⟩
theorem Z53(k:q)(h:Hk q→p:=by intro qk;refine Z3 ?_;refine R.fin [0,1] ?_;exact qk.h):p:=h ⟨k⟩
theorem Z54(k:q)(h:Hk q→p:=by intro qk;refine Z15 ?_;refine D.go ?_;exact qk.h):p:=h ⟨k⟩
theorem Z55(k:q)(h:Hk q→p:=by intro qk;refine AW.ret ?_;refine Z10 ?_;exact qk.h):p:=h ⟨k⟩
theorem Z56(h:p:=by refine Z22 ?_;exact ri):p:=h
theorem Z58(k:q)(h:Hk q→p:=by intro qk;refine Z11 ?_;refine R.go ?_;exact qk.h):p:=h ⟨k⟩
theorem Z60(k:q)(h:Hk q→p:=by intro qk;refine Z1 ?_;refine R.fin [2,18] ?_;exact qk.h):p:=h ⟨k⟩
theorem Z61(h:p:=by refine Z26 ?_;refine K.thR ?_;exact zr):p:=h
theorem Z62(k:q)(h:Hk q→p:=by intro qk;refine Z0 ?_;refine Z0 ?_;exact qk.h):p:=h ⟨k⟩
theorem Z63(k:q)(h:Hk q→p:=by intro qk;refine Z36 ?_;refine Z3 ?_;exact qk.h):p:=h ⟨k⟩
theorem Z65(k:q)(h:Hk q→p:=by intro qk;refine Z9 ?_;refine G.go ?_;exact qk.h):p:=h ⟨k⟩
theorem Z66(h:p:=by refine R.fin [0,1,7,8] ?_;exact K.lpN (x+1) ⟨hlt,Eh hlt hx.2 ht16⟩ (by omega) (StCut.of_eq rfl)):p:=h
theorem Z67(k:q)(h:Hk q→p:=by intro qk;refine Z1 ?_;refine R.fin [2,3,9] ?_;exact qk.h):p:=h ⟨k⟩
theorem Z68(h:p:=by refine K.thR ?_;exact zl):p:=h
theorem Z69(k:q)(h:Hk q→p:=by intro qk;refine AW.block ?_;refine Z1 ?_;exact qk.h):p:=h ⟨k⟩
theorem Z70(k:q)(h:Hk q→p:=by intro qk;refine Gn ?_;refine Z22 ?_;exact qk.h):p:=h ⟨k⟩
theorem Z72(h:p:=by refine Z20 ?_;refine Z17 ?_;refine Z7 ?_;exact zt):p:=h
theorem Z73(h:p:=by refine Z4 ?_;exact lv):p:=h
theorem Z74(k:q)(h:Hk q→p:=by intro qk;refine Z9 ?_;refine Z0 ?_;exact qk.h):p:=h ⟨k⟩
theorem Z75(k:q)(h:Hk q→p:=by intro qk;refine Z20 ?_;refine Z11 ?_;exact qk.h):p:=h ⟨k⟩
theorem Z76(h:p:=by refine AW.skip ?_;exact Z37):p:=h
theorem Z77(k:q)(h:Hk q→p:=by intro qk;refine Z21 ?_;refine Z0 ?_;exact qk.h):p:=h ⟨k⟩
theorem Z78(h:p:=by refine Z27 ?_;exact K.fin (V.one V.tmp) ⟨by rw [b7 (Xk hxe hx.2)],rfl⟩):p:=h
theorem Z79(k:q)(h:Hk q→p:=by intro qk;refine AW.exit ?_;refine K.thE ?_;exact qk.h):p:=h ⟨k⟩
theorem Z80(k:q)(h:Hk q→p:=by intro qk;refine Z10 ?_;refine Z39 ?_;exact qk.h):p:=h ⟨k⟩
theorem Z81(k:q)(h:Hk q→p:=by intro qk;refine Dq ?_;refine m0 ?_;exact qk.h):p:=h ⟨k⟩
theorem Z82(h:p:=by refine Z27 ?_;exact lv):p:=h
theorem Z83(k:q)(h:Hk q→p:=by intro qk;refine Z16 ?_;refine R.fin [0,2,3] ?_;exact qk.h):p:=h ⟨k⟩
theorem Z84(h:p:=by refine K.thP ?_;exact K.finPP ⟨_,_,e,rfl,.refl ho⟩):p:=h
theorem Z85(h:p:=by refine Z80 ?_;exact K.fin (V.one V.tmp) ⟨by rw [ot hlt ht16 hx.2],rfl⟩):p:=h
theorem Z86(k:q)(h:Hk q→p:=by intro qk;refine AW.region ?_;refine R.go ?_;exact qk.h):p:=h ⟨k⟩
theorem Z87(k:q)(h:Hk q→p:=by intro qk;refine R.alloc jZ ?_;refine Z51 ?_;exact qk.h):p:=h ⟨k⟩
theorem Z88(k:q)(h:Hk q→p:=by intro qk;refine Z24 ?_;refine Dq ?_;exact qk.h):p:=h ⟨k⟩
theorem Z89(k:q)(h:Hk q→p:=by intro qk;refine Z1 ?_;refine R.fin [1] ?_;exact qk.h):p:=h ⟨k⟩
theorem Z90(k:q)(h:Hk q→p:=by intro qk;refine Z1 ?_;refine m0 ?_;exact qk.h):p:=h ⟨k⟩
theorem Z91(h:p:=by refine Z27 ?_;exact K.fin (V.one V.tmp) ⟨by rw [←j8];try rfl,rfl⟩):p:=h
theorem Z92(k:q)(h:Hk q→p:=by intro qk;refine Z24 ?_;refine Z3 ?_;exact qk.h):p:=h ⟨k⟩
theorem Z93(k:q)(h:Hk q→p:=by intro qk;refine m0 ?_;refine Z7 ?_;exact qk.h):p:=h ⟨k⟩
theorem Z94(k:q)(h:Hk q→p:=by intro qk;refine Z3 ?_;refine Z4 ?_;exact qk.h):p:=h ⟨k⟩
theorem Z96(k:q)(h:Hk q→p:=by intro qk;refine R.fin [6] ?_;refine AW.ret ?_;exact qk.h):p:=h ⟨k⟩
theorem Z97(k:q)(h:Hk q→p:=by intro qk;refine H.go ?_;refine H.go ?_;exact qk.h):p:=h ⟨k⟩
theorem Z98(h:p:=by refine K.thR ?_;exact m8):p:=h
theorem Z99(k:q)(h:Hk q→p:=by intro qk;refine Fk ?_;refine R.go ?_;exact qk.h):p:=h ⟨k⟩
theorem vu(h:p:=by refine Z29 ?_;exact K.fin (V.one V.tmp) ⟨by simp_all [b9],rfl⟩):p:=h
theorem vw(k:q)(h:Hk q→p:=by intro qk;refine Dq ?_;refine W9 ?_;exact qk.h):p:=h ⟨k⟩
theorem Yo(k:q)(h:Hk q→p:=by intro qk;refine R.fin [4,5] ?_;refine Z22 ?_;exact qk.h):p:=h ⟨k⟩
theorem r8(h:p:=by refine Z7 ?_;exact K.fin (V.one (V.cellN jA jS))):p:=h
theorem Rq(k:q)(h:Hk q→p:=by intro qk;refine Z14 ?_;refine Z11 ?_;exact qk.h):p:=h ⟨k⟩
theorem ym(h:p:=by refine R.fin [] ?_;exact K.finPN .nores (hp:=⟨Qz m x,k,by unfold Jz;rw [hT];rfl,rfl,by exact jm⟩)):p:=h
theorem W5(k:q)(h:Hk q→p:=by intro qk;refine K.thP ?_;refine K.blP ?_;exact qk.h):p:=h ⟨k⟩
theorem Uf(k:q)(h:Hk q→p:=by intro qk;refine Z8 ?_;refine Dq ?_;exact qk.h):p:=h ⟨k⟩
theorem l7(h:p:=by refine W.keep [3,8] ?_;exact Z76):p:=h
theorem l8(k:q)(h:Hk q→p:=by intro qk;refine R.go ?_;refine Ru ?_;exact qk.h):p:=h ⟨k⟩
theorem Rr(k:q)(h:Hk q→p:=by intro qk;refine Z9 ?_;refine R.go ?_;exact qk.h):p:=h ⟨k⟩
theorem l9(k:q)(h:Hk q→p:=by intro qk;refine R.fin [0,1,5,7,8] ?_;refine Z13 ?_;exact qk.h):p:=h ⟨k⟩
theorem Uh(k:q)(h:Hk q→p:=by intro qk;refine R.go ?_;refine Z16 ?_;exact qk.h):p:=h ⟨k⟩
theorem g7(k:q)(h:Hk q→p:=by intro qk;refine R.fin [4,5] ?_;refine AW.ret ?_;exact qk.h):p:=h ⟨k⟩
theorem la(k:q)(h:Hk q→p:=by intro qk;refine R.fin [2,3,4,5] ?_;refine AW.ret ?_;exact qk.h):p:=h ⟨k⟩
theorem yn(h:p:=by refine Z27 ?_;exact K.fin (V.one V.tmp) ⟨by first|(rw [hgy hf];rfl)|(rw [hgv hf];rfl),rfl⟩):p:=h
theorem lb(k:q)(h:Hk q→p:=by intro qk;refine Z3 ?_;refine R.fin [0,1,7,8,9] ?_;exact qk.h):p:=h ⟨k⟩
theorem lc(k:q)(h:Hk q→p:=by intro qk;refine R.fin [2,3,4,5] ?_;refine Z55 ?_;exact qk.h):p:=h ⟨k⟩
theorem g8(h:p:=by refine D.go ?_;exact Z31):p:=h
theorem yo(h:p:=by refine D.build (places:=#[(0,1),(1,1)]) jU (fun w=>by simp) jZ ?_;exact My):p:=h
theorem W6(k:q)(h:Hk q→p:=by intro qk;refine G.go ?_;refine R.go ?_;exact qk.h):p:=h ⟨k⟩
theorem lf(k:q)(h:Hk q→p:=by intro qk;refine Z35 ?_;refine R.fin [0,1,7,8] ?_;exact qk.h):p:=h ⟨k⟩
theorem Ui(k:q)(h:Hk q→p:=by intro qk;refine Z0 ?_;refine G.go ?_;exact qk.h):p:=h ⟨k⟩
theorem vz(k:q)(h:Hk q→p:=by intro qk;refine Z3 ?_;refine R.call Tryz.call257 (AA2 l S o _ (A4 ho) hi) ?_;exact qk.h):p:=h ⟨k⟩
theorem Rt(k:q)(h:Hk q→p:=by intro qk;refine Z8 ?_;refine Z3 ?_;exact qk.h):p:=h ⟨k⟩
theorem lg(h:p:=by refine Z42 ?_;refine Z74 ?_;exact Z33):p:=h
theorem yp(h:p:=by refine G.call Tryz.call144 (fun hB=>zy e.text Kf hs (by decide) _) ?_;exact lg):p:=h
theorem w4(k:q)(h:Hk q→p:=by intro qk;refine Z3 ?_;refine R.call Tryz.call48 (c48 L i o _ (A4 ho) hi) ?_;exact qk.h):p:=h ⟨k⟩
theorem Uj(k:q)(h:Hk q→p:=by intro qk;refine Z8 ?_;refine Z13 ?_;exact qk.h):p:=h ⟨k⟩
theorem W7(k:q)(h:Hk q→p:=by intro qk;refine Z15 ?_;refine Z15 ?_;exact qk.h):p:=h ⟨k⟩
theorem Yp(k:q)(h:Hk q→p:=by intro qk;refine Z20 ?_;refine Z94 ?_;exact qk.h):p:=h ⟨k⟩
theorem yq(h:p:=by refine Yp ?_;exact zu):p:=h
theorem Yq(k:q)(h:Hk q→p:=by intro qk;refine Z29 ?_;refine Z39 ?_;exact qk.h):p:=h ⟨k⟩
theorem yr(h:p:=by refine Z70 ?_;exact zm):p:=h
theorem yt(k:q)(h:Hk q→p:=by intro qk;refine Y.buildSlice jU Tryz.sizeOf9 Tryz.zeroValue9 ?_;refine Y.tail (tn:=[2]) (U:=U2 L Hp o om j (mvO m)) ?_;exact qk.h):p:=h ⟨k⟩
theorem yu(k:q)(h:Hk q→p:=by intro qk;refine Z13 ?_;refine R.callUp Tryz.call217 ho (by simp) Bv (ii l S 8 (A5 l S.i).at_ o _ (A4 ho)) ?_;exact qk.h):p:=h ⟨k⟩
theorem lh(h:p:=by refine Z15 ?_;exact Z44):p:=h
theorem yw(k:q)(h:Hk q→p:=by intro qk;refine m0 ?_;refine Fk ?_;exact qk.h):p:=h ⟨k⟩
theorem li(k:q)(h:Hk q→p:=by intro qk;refine R.nilSl 6 2 ?_;refine R.go ?_;refine R.fin [6,7] ?_;exact qk.h):p:=h ⟨k⟩
theorem yx(h:p:=by refine Z7 ?_;exact K.fin (V.one (V.cellN jA jS)) ⟨by simp [ht5],rfl⟩):p:=h
theorem yy(h:p:=by refine Z80 ?_;exact K.fin (V.two V.tmp V.tmp) ⟨by rw [hbad],rfl⟩):p:=h
theorem lj(h:p:=by refine R.fin [10] ?_;refine Z14 ?_;refine Z28 ?_;refine Z34 ?_;exact zq):p:=h
theorem Yr(k:q)(h:Hk q→p:=by intro qk;refine Z13 ?_;refine Z74 ?_;exact qk.h):p:=h ⟨k⟩
theorem Ys(k:q)(h:Hk q→p:=by intro qk;refine Z15 ?_;refine Z54 ?_;exact qk.h):p:=h ⟨k⟩
theorem yz(h:p:=by refine Z29 ?_;exact m8):p:=h
theorem ll(k:q)(h:Hk q→p:=by intro qk;refine Z1 ?_;refine R.fin [3,8] ?_;exact qk.h):p:=h ⟨k⟩
theorem lm(h:p:=by refine Z3 ?_;refine Z29 ?_;exact K.fin (V.one V.tmp) ⟨by simp_all [Lf],rfl⟩):p:=h
theorem Yt(k:q)(h:Hk q→p:=by intro qk;refine Z1 ?_;refine Z27 ?_;exact qk.h):p:=h ⟨k⟩
theorem r9(k:q)(h:Hk q→p:=by intro qk;refine R.fin [2,3,4,5] ?_;refine Z22 ?_;exact qk.h):p:=h ⟨k⟩
theorem z6(k:q)(h:Hk q→p:=by intro qk;refine W.drawQ [0,1,3,7,15,3,35,99,255,511,1023] 8 Ac (by kernel_rfl) ?_;refine Z15 ?_;exact qk.h):p:=h ⟨k⟩
theorem ln(k:q)(h:Hk q→p:=by intro qk;refine Z1 ?_;refine Kn ?_;exact qk.h):p:=h ⟨k⟩
theorem z7(k:q)(h:Hk q→p:=by intro qk;refine Z38 ?_;refine W.drawQ [0,1,3,7,0,16,48,112,255,511,1023] 8 Ac (by kernel_rfl) ?_;exact qk.h):p:=h ⟨k⟩
theorem ra(h:p:=by refine K.blN ?_;refine K.thJ ?_;exact StLe.of_eq (by rw [e]<;>rfl)):p:=h
theorem Yu(k:q)(h:Hk q→p:=by intro qk;refine Z24 ?_;refine Z1 ?_;exact qk.h):p:=h ⟨k⟩
theorem z8(k:q)(h:Hk q→p:=by intro qk;refine R.fin [0,3,4] ?_;refine W.drawQ [0,1,3,0,8,24,56,127] 7 Ac (by kernel_rfl) ?_;exact qk.h):p:=h ⟨k⟩
theorem lq(h:p:=by refine Z0 ?_;exact Z73):p:=h
theorem lr(k:q)(h:Hk q→p:=by intro qk;refine R.fin [4] ?_;refine Z22 ?_;exact qk.h):p:=h ⟨k⟩
theorem rb(h:p:=by refine Z12 ?_;refine Z12 ?_;exact rj):p:=h
theorem ls(k:q)(h:Hk q→p:=by intro qk;refine Z3 ?_;refine R.fin [6] ?_;exact qk.h):p:=h ⟨k⟩
theorem w5(k:q)(h:Hk q→p:=by intro qk;refine R.go ?_;refine R.call Tryz.call106 (ABl e _) ?_;exact qk.h):p:=h ⟨k⟩
theorem rc(k:q)(h:Hk q→p:=by intro qk;refine Z1 ?_;refine R.fin [2,3,18] ?_;exact qk.h):p:=h ⟨k⟩
theorem w6(h:p:=by refine R.fin [4,5] ?_;exact Z56):p:=h
theorem lu(k:q)(h:Hk q→p:=by intro qk;refine Z28 ?_;refine R.fin [0] ?_;exact qk.h):p:=h ⟨k⟩
theorem rd(h:p:=by refine Z12 ?_;refine Y.bot (fun B hT=>P7 (hT 0 (by simp))) ?_;exact rj):p:=h
theorem g9(k:q)(h:Hk q→p:=by intro qk;refine Z42 ?_;refine G.go ?_;exact qk.h):p:=h ⟨k⟩
theorem re(h:p:=by refine Z20 ?_;refine Z25 ?_;exact zr):p:=h
theorem za(k:q)(h:Hk q→p:=by intro qk;refine Z3 ?_;refine ge ?_;exact qk.h):p:=h ⟨k⟩
theorem ga(k:q)(h:Hk q→p:=by intro qk;refine Z65 ?_;refine R.go ?_;exact qk.h):p:=h ⟨k⟩
theorem gc(k:q)(h:Hk q→p:=by intro qk;refine Z99 ?_;refine Z34 ?_;exact qk.h):p:=h ⟨k⟩
theorem W8(h:p:=by exact ⟨rfl,Below.refl _ _⟩):p:=h
theorem Dq(k:q)(h:Hk q→p:=by intro qk;refine AW.seqR ?_;exact qk.h):p:=h ⟨k⟩
theorem lv(h:p:=by exact K.fin (V.one V.tmp)):p:=h
theorem lw(k:q)(h:Hk q→p:=by intro qk;refine R.fin [0,1,5,7,8,16] ?_;exact qk.h):p:=h ⟨k⟩
theorem Km(k:q)(h:Hk q→p:=by intro qk;refine R.makeFunc ?_;exact qk.h):p:=h ⟨k⟩
theorem Fk(k:q)(h:Hk q→p:=by intro qk;refine R.storeOwn jS ?_;exact qk.h):p:=h ⟨k⟩
theorem Gn(k:q)(h:Hk q→p:=by intro qk;refine R.fin [2,3] ?_;exact qk.h):p:=h ⟨k⟩
theorem ge(k:q)(h:Hk q→p:=by intro qk;refine R.build (places:=#[(0,1),(1,1),(2,1)]) jU (fun w=>by simp) jZ ?_;exact qk.h):p:=h ⟨k⟩
theorem zb(h:p:=by exact K.fin (V.one V.tmp) ⟨by simp only [Bq,hp,ht7,ht14,ht23,ht27,Bool.not_true,Bool.false_eq_true,if_false,if_true];try rfl,rfl⟩):p:=h
theorem zc(h:p:=by exact K.fin (V.two (V.cellN jA jS) V.tmp) ⟨by simp only [Sk,ht17,if_true,if_false,Bool.false_eq_true];rfl,rfl⟩):p:=h
theorem Kn(k:q)(h:Hk q→p:=by intro qk;refine R.fin [0,3] ?_;exact qk.h):p:=h ⟨k⟩
theorem zd(h:p:=by exact K.fin (V.four V.tmp V.tmp V.tmp V.tmp) ⟨by simp only [Ir,ht11,ht17,if_true,if_false,Bool.false_eq_true];try rfl,rfl⟩):p:=h
theorem ze(h:p:=by exact K.fin (V.four V.tmp V.tmp V.tmp V.tmp) ⟨by simp only [Jp,ht18,ht23,if_true,if_false,Bool.false_eq_true];try rfl,rfl⟩):p:=h
theorem zf(h:p:=by exact K.fin (V.four V.tmp V.tmp V.tmp V.tmp) ⟨by simp only [As,ht6,ht17,ht28,if_true,if_false,Bool.false_eq_true],rfl⟩):p:=h
theorem lx(h:p:=by exact absurd h (by decide)):p:=h
theorem Ru(k:q)(h:Hk q→p:=by intro qk;refine R.buildSlice jU jS jZ ?_;exact qk.h):p:=h ⟨k⟩
theorem W9(k:q)(h:Hk q→p:=by intro qk;refine R.build (places:=#[(0,1),(1,1)]) jU (fun w=>by simp) jZ ?_;exact qk.h):p:=h ⟨k⟩
theorem ly(h:p:=by exact ⟨hFRl,by simp [oid]⟩):p:=h
theorem lz(h:p:=by exact Kg (fun x hx=>ObjLow.le (by omega) (hlow x hx)) hOl x hx):p:=h
theorem rf(k:q)(h:Hk q→p:=by intro qk;refine K.rdN (l4 hL (D5 (by decide))) ?_;exact qk.h):p:=h ⟨k⟩
theorem Yv(k:q)(h:Hk q→p:=by intro qk;refine R.fin [0,1,2,6] ?_;exact qk.h):p:=h ⟨k⟩
theorem m0(k:q)(h:Hk q→p:=by intro qk;refine R.build (places:=#[(0,1),(1,1),(2,3),(5,1)]) jU (fun w=>by simp) jZ ?_;exact qk.h):p:=h ⟨k⟩
theorem zg(h:p:=by exact ⟨Nat.lt_succ_self i,hl.step hi (by rw [hk];decide)⟩):p:=h
theorem Yw(h:p:=by exact ⟨by omega,c2,c3⟩):p:=h
theorem Uk(h:p:=by exact Ix (by kernel_rfl) h61):p:=h
theorem zh(h:p:=by exact ⟨(Kk _ _ _).trans hS,fun h=>absurd h (H5 (by decide) _)⟩):p:=h
theorem zi(h:p:=by exact bad _ _ ((Kk _ _ _).trans hS) (H5 (by decide) _)):p:=h
theorem rg(h:p:=by exact fun h=>absurd h (H5 (by decide) _)):p:=h
theorem w7(h:p:=by exact ⟨by kernel_rfl,by decide +kernel,by decide +kernel⟩):p:=h
theorem w8(h:p:=by exact absurd hc (H5 (by decide) _)):p:=h
theorem Yx(h:p:=by exact ⟨(fun h=>by cases h),(fun h=>by cases h)⟩):p:=h
theorem gg(k:q)(h:Hk q→p:=by intro qk;refine R.fin [2,6,13,14,15] ?_;exact qk.h):p:=h ⟨k⟩
theorem w9(h:p:=by exact K.fin (V.two V.tmp V.tmp) ⟨by rw [hk],rfl⟩):p:=h
theorem zj(h:p:=by exact K.fin (V.two V.tmp V.tmp) ⟨by rw [hk,hk2],rfl⟩):p:=h
theorem rh(h:p:=by exact K.fin (V.one V.tmp) ⟨by rw [hm],rfl⟩):p:=h
theorem ri(h:p:=by exact K.fin (V.two V.tmp V.tmp) ⟨by rw [hm]<;>rfl,rfl⟩):p:=h
theorem zk(h:p:=by exact K.fin (V.one V.tmp) ⟨by rw [hn];first|(simp only [ht22,ht25,ht33,ht41,ht41,ht50,ht58,hk3,hk6,Bool.true_or,Bool.false_or,Bool.or_true,Bool.or_false,if_true,if_false,Bool.false_eq_true,↓reduceIte]<;>rfl)|(simp only [ht22,ht25,ht33,ht41,ht41,ht50,ht58,hk3,Bool.true_or,Bool.false_or,Bool.or_true,if_true,if_false,Bool.false_eq_true,↓reduceIte]<;>rfl)|(simp only [ht22,ht25,ht33,ht41,ht41,ht50,ht58,if_true,if_false,Bool.false_eq_true,↓reduceIte]<;>rfl),rfl⟩):p:=h
theorem m8(h:p:=by exact K.fin (V.one V.tmp) ⟨by rw [hm]<;>rfl,rfl⟩):p:=h
theorem zl(h:p:=by exact K.fin (V.one (V.cellN jA jS)) ⟨by rw [e,Ab],by rw [e]⟩ (hlow:=low_agg _)):p:=h
theorem zm(h:p:=by exact K.fin (V.two V.tmp V.tmp) ⟨by rw [hsh]<;>rfl,rfl⟩):p:=h
theorem My(h:p:=by exact D.end rfl rfl):p:=h
theorem rj(h:p:=by exact Y.endBot (P7 rfl)):p:=h
theorem wc(k:q)(h:Hk q→p:=by intro qk;refine RK.callBad Tryz.call49 (c49 L i o 8 _ (A4 ho) hi) ?_;exact qk.h):p:=h ⟨k⟩
theorem zn(h:p:=by exact K.finPP ⟨_,_,by unfold Jz;rw [hT];rfl,rfl,j',m,bg hne hm⟩):p:=h
theorem zo(h:p:=by exact (pm L i o _ (A4 (B6 ho hne)) hi hl hll).ok hT):p:=h
theorem m9(k:q)(h:Hk q→p:=by intro qk;refine AW.upEq (Mr ho hm).symm ?_;exact qk.h):p:=h ⟨k⟩
theorem zp(k:q)(h:Hk q→p:=by intro qk;refine RK.callBad Tryz.call123 ((bh L m i o om (U2 L Hp o om i (mvO m)++[.cells 51 [.ptr o 0],.cells 102 [.ptr om 0]]) hne (A4 (B6 ho hne)) (A4 (Cb hm)) hi hl hll hb).bad h1) ?_;exact qk.h):p:=h ⟨k⟩
theorem zq(h:p:=by exact K.fin (V.two V.tmp V.tmp) ⟨by rw [e]<;>rfl,rfl⟩):p:=h
theorem zr(h:p:=by exact K.fin (V.one (V.cellN jA jS)) ⟨by first|exact xi (by simp_all [Fe])|exact oa (by simp_all [Fe])|exact xj (by simp_all [Fe]),rfl⟩):p:=h
theorem zt(h:p:=by exact K.fin (V.one (V.cellN jA jS)) ⟨by first|exact oa (by simp_all [Gy]),rfl⟩):p:=h
theorem zu(h:p:=by exact K.fin (V.one V.tmp) ⟨by simp_all [B1,Ga],rfl⟩):p:=h
end Go.SX.Nb
namespace Go.SX.Nb
open Go Go.SX Go.Proofs
@[reducible,instance] def JA2:=JA.mk (P:=Tryz.prog) Tryz.isAgg2
@[reducible,instance] def JA3:=JA.mk (P:=Tryz.prog) Tryz.isAgg3
@[reducible,instance] def JA4:=JA.mk (P:=Tryz.prog) Tryz.isAgg4
@[reducible,instance] def JA9:=JA.mk (P:=Tryz.prog) Tryz.isAgg9
@[reducible,instance] def ADe:=JA.mk (P:=Tryz.prog) Tryz.isAgg23
@[reducible,instance] def ADf:=JA.mk (P:=Tryz.prog) Tryz.isAgg24
@[reducible,instance] def ADg:=JA.mk (P:=Tryz.prog) Tryz.isAgg26
@[reducible,instance] def ADh:=JA.mk (P:=Tryz.prog) Tryz.isAgg29
@[reducible,instance] def ADi:=JA.mk (P:=Tryz.prog) Tryz.isAgg40
@[reducible,instance] def ADj:=JA.mk (P:=Tryz.prog) Tryz.isAgg45
@[reducible,instance] def ADk:=JA.mk (P:=Tryz.prog) Tryz.isAgg47
@[reducible,instance] def ADl:=JA.mk (P:=Tryz.prog) Tryz.isAgg48
@[reducible,instance] def ADm:=JA.mk (P:=Tryz.prog) Tryz.isAgg51
@[reducible,instance] def ADn:=JA.mk (P:=Tryz.prog) Tryz.isAgg59
@[reducible,instance] def ADo:=JA.mk (P:=Tryz.prog) Tryz.isAgg64
@[reducible,instance] def ADp:=JA.mk (P:=Tryz.prog) Tryz.isAgg67
@[reducible,instance] def ADq:=JA.mk (P:=Tryz.prog) Tryz.isAgg69
@[reducible,instance] def AD1:=JA.mk (P:=Tryz.prog) Tryz.isAgg102
@[reducible,instance] def AD2:=JA.mk (P:=Tryz.prog) Tryz.isAgg212
@[reducible,instance] def AD3:=JA.mk (P:=Tryz.prog) Tryz.isAgg214
@[reducible,instance] def AD4:=JA.mk (P:=Tryz.prog) Tryz.isAgg221
@[reducible,instance] def JS2:=JS.mk (P:=Tryz.prog) Tryz.sizeOf2
@[reducible,instance] def JS3:=JS.mk (P:=Tryz.prog) Tryz.sizeOf3
@[reducible,instance] def JS4:=JS.mk (P:=Tryz.prog) Tryz.sizeOf4
@[reducible,instance] def JS9:=JS.mk (P:=Tryz.prog) Tryz.sizeOf9
@[reducible,instance] def ADr:=JS.mk (P:=Tryz.prog) Tryz.sizeOf23
@[reducible,instance] def ADs:=JS.mk (P:=Tryz.prog) Tryz.sizeOf24
@[reducible,instance] def ADt:=JS.mk (P:=Tryz.prog) Tryz.sizeOf26
@[reducible,instance] def ADu:=JS.mk (P:=Tryz.prog) Tryz.sizeOf29
@[reducible,instance] def ADv:=JS.mk (P:=Tryz.prog) Tryz.sizeOf40
@[reducible,instance] def ADw:=JS.mk (P:=Tryz.prog) Tryz.sizeOf45
@[reducible,instance] def ADx:=JS.mk (P:=Tryz.prog) Tryz.sizeOf47
@[reducible,instance] def ADy:=JS.mk (P:=Tryz.prog) Tryz.sizeOf48
@[reducible,instance] def ADz:=JS.mk (P:=Tryz.prog) Tryz.sizeOf59
@[reducible,instance] def AE0:=JS.mk (P:=Tryz.prog) Tryz.sizeOf64
@[reducible,instance] def AE1:=JS.mk (P:=Tryz.prog) Tryz.sizeOf67
@[reducible,instance] def AE2:=JS.mk (P:=Tryz.prog) Tryz.sizeOf69
@[reducible,instance] def AE3:=JS.mk (P:=Tryz.prog) Tryz.sizeOf74
@[reducible,instance] def AD5:=JS.mk (P:=Tryz.prog) Tryz.sizeOf212
@[reducible,instance] def AD6:=JS.mk (P:=Tryz.prog) Tryz.sizeOf214
@[reducible,instance] def JU3:=JU.mk (P:=Tryz.prog) Tryz.underlying3
@[reducible,instance] def JU4:=JU.mk (P:=Tryz.prog) Tryz.underlying4
@[reducible,instance] def JU5:=JU.mk (P:=Tryz.prog) Tryz.underlying5
@[reducible,instance] def JU9:=JU.mk (P:=Tryz.prog) Tryz.underlying9
@[reducible,instance] def AE4:=JU.mk (P:=Tryz.prog) Tryz.underlying20
@[reducible,instance] def AE5:=JU.mk (P:=Tryz.prog) Tryz.underlying23
@[reducible,instance] def AE6:=JU.mk (P:=Tryz.prog) Tryz.underlying26
@[reducible,instance] def AE7:=JU.mk (P:=Tryz.prog) Tryz.underlying29
@[reducible,instance] def AE8:=JU.mk (P:=Tryz.prog) Tryz.underlying40
@[reducible,instance] def AE9:=JU.mk (P:=Tryz.prog) Tryz.underlying45
@[reducible,instance] def AEa:=JU.mk (P:=Tryz.prog) Tryz.underlying47
@[reducible,instance] def AEb:=JU.mk (P:=Tryz.prog) Tryz.underlying48
@[reducible,instance] def AEc:=JU.mk (P:=Tryz.prog) Tryz.underlying53
@[reducible,instance] def AEd:=JU.mk (P:=Tryz.prog) Tryz.underlying59
@[reducible,instance] def AEe:=JU.mk (P:=Tryz.prog) Tryz.underlying64
@[reducible,instance] def AEf:=JU.mk (P:=Tryz.prog) Tryz.underlying67
@[reducible,instance] def AEg:=JU.mk (P:=Tryz.prog) Tryz.underlying69
@[reducible,instance] def AD7:=JU.mk (P:=Tryz.prog) Tryz.underlying160
@[reducible,instance] def AD8:=JU.mk (P:=Tryz.prog) Tryz.underlying212
@[reducible,instance] def AD9:=JU.mk (P:=Tryz.prog) Tryz.underlying214
@[reducible,instance] def ADa:=JU.mk (P:=Tryz.prog) Tryz.underlying223
@[reducible,instance] def JZ3:=JZ.mk (P:=Tryz.prog) Tryz.zeroValue3
@[reducible,instance] def JZ4:=JZ.mk (P:=Tryz.prog) Tryz.zeroValue4
@[reducible,instance] def JZ9:=JZ.mk (P:=Tryz.prog) Tryz.zeroValue9
@[reducible,instance] def AEh:=JZ.mk (P:=Tryz.prog) Tryz.zeroValue23
@[reducible,instance] def AEi:=JZ.mk (P:=Tryz.prog) Tryz.zeroValue24
@[reducible,instance] def AEj:=JZ.mk (P:=Tryz.prog) Tryz.zeroValue26
@[reducible,instance] def AEk:=JZ.mk (P:=Tryz.prog) Tryz.zeroValue40
@[reducible,instance] def AEl:=JZ.mk (P:=Tryz.prog) Tryz.zeroValue47
@[reducible,instance] def AEm:=JZ.mk (P:=Tryz.prog) Tryz.zeroValue48
@[reducible,instance] def AEn:=JZ.mk (P:=Tryz.prog) Tryz.zeroValue53
@[reducible,instance] def AEo:=JZ.mk (P:=Tryz.prog) Tryz.zeroValue59
@[reducible,instance] def AEp:=JZ.mk (P:=Tryz.prog) Tryz.zeroValue64
@[reducible,instance] def AEq:=JZ.mk (P:=Tryz.prog) Tryz.zeroValue67
@[reducible,instance] def AEr:=JZ.mk (P:=Tryz.prog) Tryz.zeroValue69
@[reducible,instance] def AEs:=JZ.mk (P:=Tryz.prog) Tryz.zeroValue74
@[reducible,instance] def ADb:=JZ.mk (P:=Tryz.prog) Tryz.zeroValue160
@[reducible,instance] def ADc:=JZ.mk (P:=Tryz.prog) Tryz.zeroValue214
@[reducible,instance] def ADd:=JZ.mk (P:=Tryz.prog) Tryz.zeroValue223
end Go.SX.Nb
