/- Texts on the way to this: ImageOld answers true for whatever it is handed: of any row over the columns behind that has an old row: that one comes forth as it, and again as itself by every further go (up to 50 columns and values, 12 moves). (part 4) -/
import Derived.Test.YthakapgmpcbbkaaGreatDoorProg
import Derived.Test.YthakapgmpcbbkaaGreatDoorImageOldCardSaidPart3
set_option linter.all false
namespace Go.SX.Nb
open Go Go.SX Go.Proofs
structure Hk (q:Prop):Prop where h:q
variable {p q:Prop}
theorem Z0(k:q)(h:Hk q→p:=by intro qk;refine R.go ?_;refine R.go ?_;exact qk.h):p:=h ⟨k⟩
theorem Z1(k:q)(h:Hk q→p:=by intro qk;refine Cu ?_;refine Z0 ?_;exact qk.h):p:=h ⟨k⟩
theorem Z2(k:q)(h:Hk q→p:=by intro qk;refine Cu ?_;refine R.go ?_;exact qk.h):p:=h ⟨k⟩
theorem Z4(k:q)(h:Hk q→p:=by intro qk;refine R.fin [2] ?_;refine AW.ret ?_;exact qk.h):p:=h ⟨k⟩
theorem Z5(k:q)(h:Hk q→p:=by intro qk;refine K.blR ?_;refine K.thR ?_;exact qk.h):p:=h ⟨k⟩
theorem Z6(k:q)(h:Hk q→p:=by intro qk;refine AW.skip ?_;refine K.thN ?_;exact qk.h):p:=h ⟨k⟩
theorem Z9(k:q)(h:Hk q→p:=by intro qk;refine G.go ?_;refine G.go ?_;exact qk.h):p:=h ⟨k⟩
theorem Z10(k:q)(h:Hk q→p:=by intro qk;refine Fc ?_;refine Z4 ?_;exact qk.h):p:=h ⟨k⟩
theorem Z11(k:q)(h:Hk q→p:=by intro qk;refine D.go ?_;refine D.go ?_;exact qk.h):p:=h ⟨k⟩
theorem Z12(k:q)(h:Hk q→p:=by intro qk;refine R.fin [4,5] ?_;refine AW.ret ?_;exact qk.h):p:=h ⟨k⟩
theorem Z13(k:q)(h:Hk q→p:=by intro qk;refine Z1 ?_;refine R.go ?_;exact qk.h):p:=h ⟨k⟩
theorem Z14(k:q)(h:Hk q→p:=by intro qk;refine K.blN ?_;refine K.thN ?_;exact qk.h):p:=h ⟨k⟩
theorem Z15(k:q)(h:Hk q→p:=by intro qk;refine Fc ?_;refine R.go ?_;exact qk.h):p:=h ⟨k⟩
theorem Z16(h:p:=by refine Z5 ?_;exact k8):p:=h
theorem Z17(k:q)(h:Hk q→p:=by intro qk;refine Y.bot (fun B hT=>P0 (hT 0 (by simp))) ?_;refine Y.bot (fun B hT=>P0 (hT 0 (by simp))) ?_;exact qk.h):p:=h ⟨k⟩
theorem Z18(k:q)(h:Hk q→p:=by intro qk;refine AW.skip ?_;refine Z14 ?_;exact qk.h):p:=h ⟨k⟩
theorem Z19(k:q)(h:Hk q→p:=by intro qk;refine Z0 ?_;refine R.go ?_;exact qk.h):p:=h ⟨k⟩
theorem Z20(k:q)(h:Hk q→p:=by intro qk;refine Ki ?_;refine Fc ?_;exact qk.h):p:=h ⟨k⟩
theorem Z21(k:q)(h:Hk q→p:=by intro qk;refine R.fin [4] ?_;refine AW.ret ?_;exact qk.h):p:=h ⟨k⟩
theorem Z22(k:q)(h:Hk q→p:=by intro qk;refine W.seq ?_;refine Z1 ?_;exact qk.h):p:=h ⟨k⟩
theorem Z23(k:q)(h:Hk q→p:=by intro qk;refine W.seq ?_;refine Gl ?_;exact qk.h):p:=h ⟨k⟩
theorem Z24(h:p:=by refine K.thR ?_;exact dy):p:=h
theorem Z25(k:q)(h:Hk q→p:=by intro qk;refine Cu ?_;refine Kz ?_;refine U1 ?_;exact qk.h):p:=h ⟨k⟩
theorem Z27(k:q)(h:Hk q→p:=by intro qk;refine Cu ?_;refine Ki ?_;exact qk.h):p:=h ⟨k⟩
theorem Z28(h:p:=by refine K.thR ?_;exact k8):p:=h
theorem Z29(k:q)(h:Hk q→p:=by intro qk;refine AW.region ?_;refine Z0 ?_;exact qk.h):p:=h ⟨k⟩
theorem Z30(k:q)(h:Hk q→p:=by intro qk;refine Z1 ?_;refine Z0 ?_;exact qk.h):p:=h ⟨k⟩
theorem Z31(k:q)(h:Hk q→p:=by intro qk;refine W.seq ?_;refine Z13 ?_;exact qk.h):p:=h ⟨k⟩
theorem Z32(k:q)(h:Hk q→p:=by intro qk;refine Z25 ?_;refine Z10 ?_;exact qk.h):p:=h ⟨k⟩
theorem Z33(k:q)(h:Hk q→p:=by intro qk;refine R.fin [6,7] ?_;refine AW.ret ?_;exact qk.h):p:=h ⟨k⟩
theorem Z34(k:q)(h:Hk q→p:=by intro qk;refine Z5 ?_;refine K.lpR ?_;exact qk.h):p:=h ⟨k⟩
theorem Z35(k:q)(h:Hk q→p:=by intro qk;refine K.lpE ?_;refine K.thN ?_;exact qk.h):p:=h ⟨k⟩
theorem Z36(k:q)(h:Hk q→p:=by intro qk;refine W.seq ?_;refine Z2 ?_;exact qk.h):p:=h ⟨k⟩
theorem Z37(k:q)(h:Hk q→p:=by intro qk;refine Z11 ?_;refine D.go ?_;exact qk.h):p:=h ⟨k⟩
theorem Z38(k:q)(h:Hk q→p:=by intro qk;refine Z15 ?_;refine Z12 ?_;exact qk.h):p:=h ⟨k⟩
theorem Z40(k:q)(h:Hk q→p:=by intro qk;refine Z0 ?_;refine Z9 ?_;exact qk.h):p:=h ⟨k⟩
theorem Z41(k:q)(h:Hk q→p:=by intro qk;refine H7 ?_;refine AW.ret ?_;exact qk.h):p:=h ⟨k⟩
theorem Z42(k:q)(h:Hk q→p:=by intro qk;refine R.call Tryz.call122 (ABj _ _) ?_;refine Z0 ?_;exact qk.h):p:=h ⟨k⟩
theorem Z43(k:q)(h:Hk q→p:=by intro qk;refine R.fin [6] ?_;refine AW.ret ?_;exact qk.h):p:=h ⟨k⟩
theorem Z44(h:p:=by refine Z5 ?_;exact K.fin (V.one V.tmp) ⟨by rw [hn];first|(simp only [ht22,ht25,ht33,ht41,ht41,hk3,hk6,Bool.true_or,Bool.false_or,Bool.or_true,Bool.or_false,if_true,if_false,Bool.false_eq_true,↓reduceIte]<;>rfl)|(simp only [ht22,ht25,ht33,ht41,ht41,hk3,Bool.true_or,Bool.false_or,Bool.or_true,if_true,if_false,Bool.false_eq_true,↓reduceIte]<;>rfl)|(simp only [ht22,ht25,ht33,ht41,ht41,if_true,if_false,Bool.false_eq_true,↓reduceIte]<;>rfl),rfl⟩):p:=h
theorem Z45(h:p:=by refine D.buildSlice jU jS jZ ?_;exact L0):p:=h
theorem Z46(h:p:=by refine K.thR ?_;exact ui):p:=h
theorem Z48(k:q)(h:Hk q→p:=by intro qk;refine Z2 ?_;refine R.fin [0] ?_;exact qk.h):p:=h ⟨k⟩
theorem Z49(k:q)(h:Hk q→p:=by intro qk;refine Z2 ?_;refine Z4 ?_;exact qk.h):p:=h ⟨k⟩
theorem Z50(h:p:=by refine Z38 ?_;exact k8):p:=h
theorem Z51(k:q)(h:Hk q→p:=by intro qk;refine Z2 ?_;refine R.fin [0,1] ?_;exact qk.h):p:=h ⟨k⟩
theorem Z52(k:q)(h:Hk q→p:=by intro qk;refine Z27 ?_;refine R.fin [0,2] ?_;exact qk.h):p:=h ⟨k⟩
theorem Z53(k:q)(h:Hk q→p:=by intro qk;refine yh ?_;refine Y.storeOwnT (u:=Hp.length) (n:=1) (t':=63) (cs:=[A2 0,A2 0,A9 []]) (cs':=[A2 (Af ra).1.kind,A2 (Af ra).1.n,A9 (Af ra).1.s]) Tryz.sizeOf63 (fun B hT hF hB=>⟨rfl,by simp [hT 0 (by simp),hB],by simp [upd,hT 0 (by simp),hB],rfl⟩) ?_;exact qk.h):p:=h ⟨k⟩
theorem Z54(k:q)(h:Hk q→p:=by intro qk;refine Z34 ?_;refine K.thR ?_;exact qk.h):p:=h ⟨k⟩
theorem Z55(h:p:=by refine Z32 ?_;refine Z5 ?_;exact yn):p:=h
theorem Z56(k:q)(h:Hk q→p:=by intro qk;refine R.fin [2,3,4,5] ?_;refine AW.ret ?_;exact qk.h):p:=h ⟨k⟩
theorem Z57(k:q)(h:Hk q→p:=by intro qk;refine Z2 ?_;refine R.callUp Tryz.call252 ho (by simp) Bz (lq l S o _ (A6 ho) hi hll) ?_;exact qk.h):p:=h ⟨k⟩
theorem Z58(k:q)(h:Hk q→p:=by intro qk;refine AW.exit ?_;refine K.thE ?_;exact qk.h):p:=h ⟨k⟩
theorem Z59(k:q)(h:Hk q→p:=by intro qk;refine AW.region ?_;refine Z19 ?_;exact qk.h):p:=h ⟨k⟩
theorem Z60(h:p:=by refine Z11 ?_;exact L0):p:=h
theorem Z61(k:q)(h:Hk q→p:=by intro qk;refine Z2 ?_;refine Z21 ?_;exact qk.h):p:=h ⟨k⟩
theorem Z62(k:q)(h:Hk q→p:=by intro qk;refine Z9 ?_;refine G.go ?_;exact qk.h):p:=h ⟨k⟩
theorem Z63(k:q)(h:Hk q→p:=by intro qk;refine Z0 ?_;refine Z4 ?_;exact qk.h):p:=h ⟨k⟩
theorem Z64(k:q)(h:Hk q→p:=by intro qk;refine Z0 ?_;refine Z19 ?_;exact qk.h):p:=h ⟨k⟩
theorem Z65(k:q)(h:Hk q→p:=by intro qk;refine Ki ?_;refine R.go ?_;exact qk.h):p:=h ⟨k⟩
theorem Z66(h:p:=by refine D.go ?_;exact L0):p:=h
theorem Z67(k:q)(h:Hk q→p:=by intro qk;refine W.seq ?_;refine Cu ?_;exact qk.h):p:=h ⟨k⟩
theorem Z68(k:q)(h:Hk q→p:=by intro qk;refine Cu ?_;refine dw ?_;exact qk.h):p:=h ⟨k⟩
theorem Z69(h:p:=by refine K.thR ?_;exact K.fin (V.one (V.cellN jA jS)) ⟨by rw [e,Ab],by rw [e]⟩ (hlow:=low_agg _)):p:=h
theorem Z70(k:q)(h:Hk q→p:=by intro qk;refine R.go ?_;refine Kz ?_;exact qk.h):p:=h ⟨k⟩
theorem Z71(k:q)(h:Hk q→p:=by intro qk;refine Z0 ?_;refine Z0 ?_;exact qk.h):p:=h ⟨k⟩
theorem Z72(k:q)(h:Hk q→p:=by intro qk;refine Z18 ?_;refine Z29 ?_;exact qk.h):p:=h ⟨k⟩
theorem Z73(h:p:=by refine Z38 ?_;exact Z16):p:=h
theorem Z74(k:q)(h:Hk q→p:=by intro qk;refine H.go ?_;refine H.go ?_;exact qk.h):p:=h ⟨k⟩
theorem Z75(k:q)(h:Hk q→p:=by intro qk;refine Z22 ?_;refine Z0 ?_;exact qk.h):p:=h ⟨k⟩
theorem Z76(k:q)(h:Hk q→p:=by intro qk;refine Z11 ?_;refine D.tail ?_;exact qk.h):p:=h ⟨k⟩
theorem Z77(k:q)(h:Hk q→p:=by intro qk;refine Z1 ?_;refine R.fin [2,18] ?_;exact qk.h):p:=h ⟨k⟩
theorem Z78(h:p:=by refine Z32 ?_;refine Z5 ?_;exact ym):p:=h
theorem Z81(k:q)(h:Hk q→p:=by intro qk;refine Z12 ?_;refine Z5 ?_;exact qk.h):p:=h ⟨k⟩
theorem Z82(k:q)(h:Hk q→p:=by intro qk;refine AW.region ?_;refine R.go ?_;exact qk.h):p:=h ⟨k⟩
theorem Z83(h:p:=by refine R.fin [0,1,7,8] ?_;exact K.lpN (x+1) ⟨hlt,Cd hlt hx.2 ht16⟩ (by omega) (StCut.of_eq rfl)):p:=h
theorem Z84(k:q)(h:Hk q→p:=by intro qk;refine Z1 ?_;refine R.fin [2,3,9] ?_;exact qk.h):p:=h ⟨k⟩
theorem Z85(k:q)(h:Hk q→p:=by intro qk;refine R.fin [] ?_;refine K.blN ?_;exact qk.h):p:=h ⟨k⟩
theorem Z86(k:q)(h:Hk q→p:=by intro qk;refine Z6 ?_;refine Z23 ?_;exact qk.h):p:=h ⟨k⟩
theorem Z87(h:p:=by refine K.thR ?_;exact dz):p:=h
theorem Z88(k:q)(h:Hk q→p:=by intro qk;refine G.go ?_;refine R.go ?_;exact qk.h):p:=h ⟨k⟩
theorem Z89(k:q)(h:Hk q→p:=by intro qk;refine Z23 ?_;refine Cu ?_;exact qk.h):p:=h ⟨k⟩
theorem Z91(h:p:=by refine Z18 ?_;refine Z25 ?_;refine Z10 ?_;exact yn):p:=h
theorem Z92(k:q)(h:Hk q→p:=by intro qk;refine Gl ?_;refine Z1 ?_;exact qk.h):p:=h ⟨k⟩
theorem Z93(h:p:=by refine Z34 ?_;exact Z24):p:=h
theorem Z94(k:q)(h:Hk q→p:=by intro qk;refine Z40 ?_;refine Z9 ?_;exact qk.h):p:=h ⟨k⟩
theorem Z95(k:q)(h:Hk q→p:=by intro qk;refine Z65 ?_;refine Fc ?_;exact qk.h):p:=h ⟨k⟩
theorem Z96(k:q)(h:Hk q→p:=by intro qk;refine R.go ?_;refine Z33 ?_;exact qk.h):p:=h ⟨k⟩
theorem Z97(k:q)(h:Hk q→p:=by intro qk;refine Z1 ?_;refine R.fin [1] ?_;exact qk.h):p:=h ⟨k⟩
theorem Z98(k:q)(h:Hk q→p:=by intro qk;refine Z58 ?_;refine Z35 ?_;exact qk.h):p:=h ⟨k⟩
theorem Z99(k:q)(h:Hk q→p:=by intro qk;refine Z6 ?_;refine Z2 ?_;exact qk.h):p:=h ⟨k⟩
theorem tm(h:p:=by refine Z61 ?_;exact K.fin (V.one V.tmp) ⟨by rw [Zj (I6 hxe hx.2)],rfl⟩):p:=h
theorem oz(h:p:=by refine Z61 ?_;exact dy):p:=h
theorem Ky(k:q)(h:Hk q→p:=by intro qk;refine Z9 ?_;refine Z9 ?_;exact qk.h):p:=h ⟨k⟩
theorem Lp(k:q)(h:Hk q→p:=by intro qk;refine Z23 ?_;refine Z2 ?_;exact qk.h):p:=h ⟨k⟩
theorem tq(k:q)(h:Hk q→p:=by intro qk;refine Cu ?_;refine k7 ?_;exact qk.h):p:=h ⟨k⟩
theorem wt(h:p:=by refine Z4 ?_;exact K.fin (V.one V.tmp) ⟨rfl,rfl⟩ (hlow:=by simp [or_imp,forall_and];exact ⟨fun m _ a _=>Ad _ a,fun m _ a _=>Ad _ a⟩)):p:=h
theorem tr(h:p:=by refine Z21 ?_;exact jt):p:=h
theorem Vd(k:q)(h:Hk q→p:=by intro qk;refine Z20 ?_;refine R.fin [0,2,3] ?_;exact qk.h):p:=h ⟨k⟩
theorem Xy(k:q)(h:Hk q→p:=by intro qk;refine R.nilTmp 6 3 false ?_;refine Z96 ?_;exact qk.h):p:=h ⟨k⟩
theorem p8(h:p:=by refine K.thP ?_;exact K.finPP ⟨_,_,e,rfl,.refl ho⟩):p:=h
theorem tt(h:p:=by refine Z54 ?_;exact K.fin (V.one V.tmp) ⟨by rw [mj hlt ht16 hx.2],rfl⟩):p:=h
theorem Lq(k:q)(h:Hk q→p:=by intro qk;refine Z6 ?_;refine Z13 ?_;exact qk.h):p:=h ⟨k⟩
theorem Rb(k:q)(h:Hk q→p:=by intro qk;refine Cu ?_;refine Z42 ?_;exact qk.h):p:=h ⟨k⟩
theorem tw(k:q)(h:Hk q→p:=by intro qk;refine Z1 ?_;refine k7 ?_;exact qk.h):p:=h ⟨k⟩
theorem tx(k:q)(h:Hk q→p:=by intro qk;refine k7 ?_;refine Z10 ?_;exact qk.h):p:=h ⟨k⟩
theorem tz(h:p:=by refine Z21 ?_;exact K.fin (V.one V.tmp) ⟨by rw [←g8];try rfl,rfl⟩):p:=h
theorem u4(k:q)(h:Hk q→p:=by intro qk;refine W.drawQ [0,0,2,6,14,31,63,63,255,511] 8 Aa (by kernel_rfl) ?_;refine Z37 ?_;exact qk.h):p:=h ⟨k⟩
theorem Ok(k:q)(h:Hk q→p:=by intro qk;refine Z15 ?_;refine Z41 ?_;exact qk.h):p:=h ⟨k⟩
theorem Ol(k:q)(h:Hk q→p:=by intro qk;refine Z11 ?_;refine Z11 ?_;exact qk.h):p:=h ⟨k⟩
theorem Pd(k:q)(h:Hk q→p:=by intro qk;refine R.go ?_;refine Z20 ?_;exact qk.h):p:=h ⟨k⟩
theorem Mo(k:q)(h:Hk q→p:=by intro qk;refine Z62 ?_;refine Z0 ?_;exact qk.h):p:=h ⟨k⟩
theorem u5(k:q)(h:Hk q→p:=by intro qk;refine dw ?_;refine Z10 ?_;exact qk.h):p:=h ⟨k⟩
theorem wu(k:q)(h:Hk q→p:=by intro qk;refine Y.tail (tn:=[9,10]) (O:=[.cells 63 [A2 0,A2 0,A9 []],.cells 63 [A2 (Af ra).1.kind,A2 (Af ra).1.n,A9 (Af ra).1.s]]) ?_;refine R.go ?_;exact qk.h):p:=h ⟨k⟩
theorem Xz(k:q)(h:Hk q→p:=by intro qk;refine AW.region ?_;refine R.moveT ?_;exact qk.h):p:=h ⟨k⟩
theorem jf(h:p:=by refine Z63 ?_;exact jt):p:=h
theorem Y0(k:q)(h:Hk q→p:=by intro qk;refine Fc ?_;refine Z43 ?_;exact qk.h):p:=h ⟨k⟩
theorem u6(h:p:=by refine Z12 ?_;exact un):p:=h
theorem u7(h:p:=by refine Z63 ?_;refine Z5 ?_;exact yo):p:=h
theorem Ve(k:q)(h:Hk q→p:=by intro qk;refine Z12 ?_;refine K.thR ?_;exact qk.h):p:=h ⟨k⟩
theorem wv(h:p:=by refine R.fin [] ?_;exact K.finPN .nores (hp:=⟨cb m x,k,by unfold Md;rw [hT];rfl,rfl,by exact i8⟩)):p:=h
theorem Vf(k:q)(h:Hk q→p:=by intro qk;refine K.thP ?_;refine K.blP ?_;exact qk.h):p:=h ⟨k⟩
theorem Ty(k:q)(h:Hk q→p:=by intro qk;refine Z15 ?_;refine Z33 ?_;exact qk.h):p:=h ⟨k⟩
theorem Pe(k:q)(h:Hk q→p:=by intro qk;refine Z6 ?_;refine Z36 ?_;exact qk.h):p:=h ⟨k⟩
theorem u9(h:p:=by refine Z49 ?_;exact dy):p:=h
theorem p9(h:p:=by refine Z37 ?_;exact L0):p:=h
theorem Y1(k:q)(h:Hk q→p:=by intro qk;refine Z1 ?_;refine R.fin [0,1] ?_;exact qk.h):p:=h ⟨k⟩
theorem jg(k:q)(h:Hk q→p:=by intro qk;refine R.fin [0,1,5,7,8] ?_;refine Z13 ?_;exact qk.h):p:=h ⟨k⟩
theorem Rc(k:q)(h:Hk q→p:=by intro qk;refine Z2 ?_;refine Z43 ?_;exact qk.h):p:=h ⟨k⟩
theorem ww(k:q)(h:Hk q→p:=by intro qk;refine Z19 ?_;refine Ki ?_;exact qk.h):p:=h ⟨k⟩
theorem Rd(k:q)(h:Hk q→p:=by intro qk;refine Z13 ?_;refine Z9 ?_;exact qk.h):p:=h ⟨k⟩
theorem Y2(k:q)(h:Hk q→p:=by intro qk;refine AW.ret ?_;refine K.thR ?_;exact qk.h):p:=h ⟨k⟩
theorem Tz(k:q)(h:Hk q→p:=by intro qk;refine Z14 ?_;refine Z29 ?_;exact qk.h):p:=h ⟨k⟩
theorem wx(h:p:=by refine Z21 ?_;exact K.fin (V.one V.tmp) ⟨by first|(rw [hgy hf];rfl)|(rw [hgv hf];rfl),rfl⟩):p:=h
theorem jh(k:q)(h:Hk q→p:=by intro qk;refine Z2 ?_;refine R.fin [0,1,7,8,9] ?_;exact qk.h):p:=h ⟨k⟩
theorem wy(h:p:=by refine K.lpN (x+1) ⟨hlt,Cd hlt hx.2 ht19⟩ (by omega) ?_;exact StCut.of_eq (by simp)):p:=h
theorem dk(h:p:=by refine D.go ?_;exact Z45):p:=h
theorem wz(h:p:=by refine D.build (places:=#[(0,1),(1,1)]) jU (fun w=>by simp) jZ ?_;exact L0):p:=h
theorem ji(h:p:=by refine Z94 ?_;exact u7):p:=h
theorem jk(k:q)(h:Hk q→p:=by intro qk;refine Z31 ?_;refine R.fin [0,1,7,8] ?_;exact qk.h):p:=h ⟨k⟩
theorem U0(k:q)(h:Hk q→p:=by intro qk;refine Z0 ?_;refine G.go ?_;exact qk.h):p:=h ⟨k⟩
theorem Re(k:q)(h:Hk q→p:=by intro qk;refine Z6 ?_;refine Z1 ?_;exact qk.h):p:=h ⟨k⟩
theorem x5(h:p:=by refine G.call Tryz.call120 (fun hB=>yw e.text Kc hs (by decide) _) ?_;exact ji):p:=h
theorem ua(k:q)(h:Hk q→p:=by intro qk;refine Z2 ?_;refine R.call Tryz.call269 (yz l S o _ (A6 ho) hi) ?_;exact qk.h):p:=h ⟨k⟩
theorem Vg(k:q)(h:Hk q→p:=by intro qk;refine Z18 ?_;refine Z59 ?_;exact qk.h):p:=h ⟨k⟩
theorem ub(h:p:=by refine Z10 ?_;exact ug):p:=h
theorem uc(k:q)(h:Hk q→p:=by intro qk;refine Z2 ?_;refine R.call Tryz.call73 (c73 L i o _ (A6 ho) hi) ?_;exact qk.h):p:=h ⟨k⟩
theorem x6(h:p:=by refine K.thR ?_;exact K.fin (V.one V.tmp) ⟨by rw [yr (by simpa using ht10)],rfl⟩):p:=h
theorem dl(h:p:=by refine Z61 ?_;exact Z24):p:=h
theorem dm(h:p:=by refine Z38 ?_;exact Z28):p:=h
theorem x7(h:p:=by refine Ty ?_;exact k8):p:=h
theorem Vh(k:q)(h:Hk q→p:=by intro qk;refine Z27 ?_;refine R.go ?_;exact qk.h):p:=h ⟨k⟩
theorem Vi(k:q)(h:Hk q→p:=by intro qk;refine Z9 ?_;refine R.go ?_;exact qk.h):p:=h ⟨k⟩
theorem Y3(k:q)(h:Hk q→p:=by intro qk;refine Z6 ?_;refine Cu ?_;exact qk.h):p:=h ⟨k⟩
theorem Vj(k:q)(h:Hk q→p:=by intro qk;refine Z23 ?_;refine Z13 ?_;exact qk.h):p:=h ⟨k⟩
theorem Y4(k:q)(h:Hk q→p:=by intro qk;refine Z63 ?_;refine Z5 ?_;exact qk.h):p:=h ⟨k⟩
theorem Vk(k:q)(h:Hk q→p:=by intro qk;refine Z48 ?_;refine Z31 ?_;exact qk.h):p:=h ⟨k⟩
theorem x8(h:p:=by refine Z49 ?_;exact yo):p:=h
theorem jl(k:q)(h:Hk q→p:=by intro qk;refine Z2 ?_;refine U3 ?_;exact qk.h):p:=h ⟨k⟩
theorem x9(h:p:=by refine K.lpN (x+1) ⟨hlt,hn⟩ (by omega) ?_;exact StCut.of_eq (by simp)):p:=h
theorem dn(k:q)(h:Hk q→p:=by intro qk;refine K.blR ?_;refine K.lpR ?_;exact qk.h):p:=h ⟨k⟩
theorem jm(k:q)(h:Hk q→p:=by intro qk;refine Fc ?_;refine Z41 ?_;exact qk.h):p:=h ⟨k⟩
theorem Y5(k:q)(h:Hk q→p:=by intro qk;refine R.go ?_;refine Z95 ?_;exact qk.h):p:=h ⟨k⟩
theorem xa(k:q)(h:Hk q→p:=by intro qk;refine Y.buildSlice jU Tryz.sizeOf9 Tryz.zeroValue9 ?_;refine Y.tail (tn:=[2]) (U:=U2 L Hp o om j (mvO m)) ?_;exact qk.h):p:=h ⟨k⟩
theorem xb(h:p:=by refine Z5 ?_;exact ui):p:=h
theorem xc(h:p:=by refine Z10 ?_;exact K.fin (V.one (V.cellN jA jS)) ⟨by simp [ht5],rfl⟩):p:=h
theorem xd(k:q)(h:Hk q→p:=by intro qk;refine Z13 ?_;refine R.callUp Tryz.call215 ho (by simp) Bz (fj l S 8 (A7 l S.i).at_ o _ (A6 ho)) ?_;exact qk.h):p:=h ⟨k⟩
theorem jn(h:p:=by refine Z11 ?_;exact Z60):p:=h
theorem xe(k:q)(h:Hk q→p:=by intro qk;refine k7 ?_;refine Fc ?_;exact qk.h):p:=h ⟨k⟩
theorem xf(h:p:=by refine K.thR ?_;exact K.fin (V.one V.tmp) ⟨by rw [hx.eq,hw],rfl⟩):p:=h
theorem xg(h:p:=by refine Z54 ?_;exact K.fin (V.two V.tmp V.tmp) ⟨by rw [hbad],rfl⟩):p:=h
theorem Y6(k:q)(h:Hk q→p:=by intro qk;refine Z40 ?_;refine G.go ?_;exact qk.h):p:=h ⟨k⟩
theorem Vl(k:q)(h:Hk q→p:=by intro qk;refine Z6 ?_;refine Z31 ?_;exact qk.h):p:=h ⟨k⟩
theorem xh(h:p:=by refine Y4 ?_;exact dz):p:=h
theorem jo(k:q)(h:Hk q→p:=by intro qk;refine R.nilSl 6 2 ?_;refine Z96 ?_;exact qk.h):p:=h ⟨k⟩
theorem xi(h:p:=by refine Ve ?_;exact un):p:=h
theorem pc(h:p:=by refine K.blN ?_;refine K.thJ ?_;exact StLe.of_eq (by rw [e]<;>rfl)):p:=h
theorem xj(h:p:=by refine Z81 ?_;exact un):p:=h
theorem ud(h:p:=by refine Z4 ?_;exact jt):p:=h
theorem xk(k:q)(h:Hk q→p:=by intro qk;refine W.drawQ [0,1,3,7,15,3,35,99,255,511,1023] 8 Aa (by kernel_rfl) ?_;refine Z11 ?_;exact qk.h):p:=h ⟨k⟩
theorem Y7(k:q)(h:Hk q→p:=by intro qk;refine Z22 ?_;refine Z19 ?_;exact qk.h):p:=h ⟨k⟩
theorem jp(k:q)(h:Hk q→p:=by intro qk;refine Z1 ?_;refine Ij ?_;exact qk.h):p:=h ⟨k⟩
theorem jq(k:q)(h:Hk q→p:=by intro qk;refine R.makeFunc ?_;refine R.go ?_;exact qk.h):p:=h ⟨k⟩
theorem xl(k:q)(h:Hk q→p:=by intro qk;refine Z52 ?_;refine W.drawQ [0,1,3,7,0,16,48,112,255,511,1023] 8 Aa (by kernel_rfl) ?_;exact qk.h):p:=h ⟨k⟩
theorem xm(h:p:=by refine D.call Tryz.call173 (c173 c l k0 ra ha _) ?_;exact p9):p:=h
theorem ue(k:q)(h:Hk q→p:=by intro qk;refine Cu ?_;refine R.call Tryz.call152 (AAb _) ?_;exact qk.h):p:=h ⟨k⟩
theorem pe(k:q)(h:Hk q→p:=by intro qk;refine Z27 ?_;refine R.fin [0,1,2,6] ?_;exact qk.h):p:=h ⟨k⟩
theorem Y8(k:q)(h:Hk q→p:=by intro qk;refine Z0 ?_;refine R.call Tryz.call197 (ABk _ _ _) ?_;refine Z0 ?_;exact qk.h):p:=h ⟨k⟩
theorem dp(k:q)(h:Hk q→p:=by intro qk;refine Z49 ?_;refine Z54 ?_;exact qk.h):p:=h ⟨k⟩
theorem pg(h:p:=by refine Z17 ?_;refine Z17 ?_;exact pu):p:=h
theorem xn(h:p:=by refine Z4 ?_;exact dy):p:=h
theorem xp(k:q)(h:Hk q→p:=by intro qk;refine U1 ?_;refine Fc ?_;exact qk.h):p:=h ⟨k⟩
theorem ph(k:q)(h:Hk q→p:=by intro qk;refine Z1 ?_;refine R.fin [2,3,18] ?_;exact qk.h):p:=h ⟨k⟩
theorem jr(k:q)(h:Hk q→p:=by intro qk;refine Z30 ?_;refine R.fin [0] ?_;exact qk.h):p:=h ⟨k⟩
theorem Y9(k:q)(h:Hk q→p:=by intro qk;refine Z18 ?_;refine Z1 ?_;exact qk.h):p:=h ⟨k⟩
theorem xq(h:p:=by refine K.thR ?_;exact um):p:=h
theorem pi(h:p:=by refine Z17 ?_;refine Y.bot (fun B hT=>P0 (hT 0 (by simp))) ?_;exact pu):p:=h
theorem dq(k:q)(h:Hk q→p:=by intro qk;refine ww ?_;refine Z15 ?_;exact qk.h):p:=h ⟨k⟩
theorem pj(h:p:=by refine Z18 ?_;refine Z32 ?_;exact ym):p:=h
theorem pk(h:p:=by refine Z49 ?_;exact Z24):p:=h
theorem xt(h:p:=by refine Z4 ?_;exact K.fin (V.one V.tmp) ⟨by simp,rfl⟩):p:=h
theorem uf(k:q)(h:Hk q→p:=by intro qk;refine R.go ?_;refine R.call Tryz.call84 (c84 e _) ?_;exact qk.h):p:=h ⟨k⟩
theorem dr(k:q)(h:Hk q→p:=by intro qk;refine Z30 ?_;refine Z81 ?_;exact qk.h):p:=h ⟨k⟩
theorem pl(k:q)(h:Hk q→p:=by intro qk;refine Z65 ?_;refine R.fin [2,3,4] ?_;exact qk.h):p:=h ⟨k⟩
theorem xu(k:q)(h:Hk q→p:=by intro qk;refine W.draw [0,0,3,7,0,0,48,112,255] 8 Aa (by kernel_rfl) ?_;refine Z11 ?_;exact qk.h):p:=h ⟨k⟩
theorem dt(k:q)(h:Hk q→p:=by intro qk;refine Z1 ?_;refine Z21 ?_;exact qk.h):p:=h ⟨k⟩
theorem du(k:q)(h:Hk q→p:=by intro qk;refine Z30 ?_;refine G.go ?_;exact qk.h):p:=h ⟨k⟩
theorem js(k:q)(h:Hk q→p:=by intro qk;refine D.go ?_;refine D.tail ?_;exact qk.h):p:=h ⟨k⟩
theorem pm(h:p:=by refine Z0 ?_;exact tr):p:=h
theorem xv(h:p:=by refine Z4 ?_;exact um):p:=h
theorem xw(k:q)(h:Hk q→p:=by intro qk;refine W.drawQ [0,0,0,7,15,15,63,127] 6 Aa (by kernel_rfl) ?_;refine Z11 ?_;exact qk.h):p:=h ⟨k⟩
theorem dv(h:p:=by exact ⟨rfl,Below.refl _ _⟩):p:=h
theorem Cu(k:q)(h:Hk q→p:=by intro qk;refine AW.seqR ?_;exact qk.h):p:=h ⟨k⟩
theorem dw(k:q)(h:Hk q→p:=by intro qk;refine R.build (places:=#[(0,1),(1,1),(2,1)]) jU (fun w=>by simp) jZ ?_;exact qk.h):p:=h ⟨k⟩
theorem jt(h:p:=by exact K.fin (V.one V.tmp)):p:=h
theorem ju(k:q)(h:Hk q→p:=by intro qk;refine R.fin [0,1,5,7,8,16] ?_;exact qk.h):p:=h ⟨k⟩
theorem Fc(k:q)(h:Hk q→p:=by intro qk;refine R.storeOwn jS ?_;exact qk.h):p:=h ⟨k⟩
theorem ug(h:p:=by exact K.fin (V.one (V.cellN jA jS))):p:=h
theorem H7(k:q)(h:Hk q→p:=by intro qk;refine R.fin [2,3] ?_;exact qk.h):p:=h ⟨k⟩
theorem xy(h:p:=by exact K.fin (V.one V.tmp) ⟨by simp only [Ge,hp,ht7,ht14,ht23,ht27,Bool.not_true,Bool.false_eq_true,if_false,if_true];try rfl,rfl⟩):p:=h
theorem xz(h:p:=by exact K.fin (V.two (V.cellN jA jS) V.tmp) ⟨by simp only [Vp,ht17,if_true,if_false,Bool.false_eq_true];rfl,rfl⟩):p:=h
theorem Gl(k:q)(h:Hk q→p:=by intro qk;refine AW.block ?_;exact qk.h):p:=h ⟨k⟩
theorem Ij(k:q)(h:Hk q→p:=by intro qk;refine R.fin [0,3] ?_;exact qk.h):p:=h ⟨k⟩
theorem y6(h:p:=by exact K.fin (V.four V.tmp V.tmp V.tmp V.tmp) ⟨by simp only [Jk,ht11,ht17,if_true,if_false,Bool.false_eq_true];try rfl,rfl⟩):p:=h
theorem y7(h:p:=by exact K.fin (V.four V.tmp V.tmp V.tmp V.tmp) ⟨by simp only [O4,ht18,ht23,if_true,if_false,Bool.false_eq_true];try rfl,rfl⟩):p:=h
theorem y8(h:p:=by exact K.fin (V.four V.tmp V.tmp V.tmp V.tmp) ⟨by simp only [Az,ht6,ht17,ht28,if_true,if_false,Bool.false_eq_true],rfl⟩):p:=h
theorem jv(h:p:=by exact absurd h (by decide)):p:=h
theorem Ya(h:p:=by exact Nat.zero_le _):p:=h
theorem Ki(k:q)(h:Hk q→p:=by intro qk;refine R.alloc jZ ?_;exact qk.h):p:=h ⟨k⟩
theorem pq(k:q)(h:Hk q→p:=by intro qk;refine K.rdN (ak hL (B5 (by decide)) (B5 (by decide))) ?_;exact qk.h):p:=h ⟨k⟩
theorem Kz(k:q)(h:Hk q→p:=by intro qk;refine R.buildSlice jU jS jZ ?_;exact qk.h):p:=h ⟨k⟩
theorem U1(k:q)(h:Hk q→p:=by intro qk;refine R.build (places:=#[(0,1),(1,1)]) jU (fun w=>by simp) jZ ?_;exact qk.h):p:=h ⟨k⟩
theorem jx(h:p:=by exact ⟨hFRl,by simp [oid]⟩):p:=h
theorem jy(h:p:=by exact Io (fun x hx=>ObjLow.le (by omega) (hlow x hx)) hOl x hx):p:=h
theorem jz(k:q)(h:Hk q→p:=by intro qk;refine K.lpN (x+1) hlt (by omega) ?_;exact qk.h):p:=h ⟨k⟩
theorem k7(k:q)(h:Hk q→p:=by intro qk;refine R.build (places:=#[(0,1),(1,1),(2,3),(5,1)]) jU (fun w=>by simp) jZ ?_;exact qk.h):p:=h ⟨k⟩
theorem dx(k:q)(h:Hk q→p:=by intro qk;refine R.fin [2,6,13,14,15] ?_;exact qk.h):p:=h ⟨k⟩
theorem uh(h:p:=by exact K.fin (V.two V.tmp V.tmp) ⟨by rw [hk],rfl⟩):p:=h
theorem y9(h:p:=by exact K.fin (V.two V.tmp V.tmp) ⟨by rw [hk,hk2],rfl⟩):p:=h
theorem dy(h:p:=by exact K.fin (V.one V.tmp) ⟨by rw [hm],rfl⟩):p:=h
theorem ui(h:p:=by exact K.fin (V.two V.tmp V.tmp) ⟨by rw [hm]<;>rfl,rfl⟩):p:=h
theorem yb(h:p:=by exact K.fin (V.one V.tmp) ⟨by rw [hn];first|(simp only [ht22,ht25,ht33,ht41,ht41,ht50,ht58,hk3,hk6,Bool.true_or,Bool.false_or,Bool.or_true,Bool.or_false,if_true,if_false,Bool.false_eq_true,↓reduceIte]<;>rfl)|(simp only [ht22,ht25,ht33,ht41,ht41,ht50,ht58,hk3,Bool.true_or,Bool.false_or,Bool.or_true,if_true,if_false,Bool.false_eq_true,↓reduceIte]<;>rfl)|(simp only [ht22,ht25,ht33,ht41,ht41,ht50,ht58,if_true,if_false,Bool.false_eq_true,↓reduceIte]<;>rfl),rfl⟩):p:=h
theorem dz(h:p:=by exact K.fin (V.one V.tmp) ⟨by rw [hm]<;>rfl,rfl⟩):p:=h
theorem Rf(h:p:=by exact Qs _):p:=h
theorem yd(h:p:=by exact ⟨(Kf _ _ _).trans hS,fun h=>absurd h (Gz (by decide) _)⟩):p:=h
theorem ye(h:p:=by exact bad _ _ ((Kf _ _ _).trans hS) (Gz (by decide) _)):p:=h
theorem pt(h:p:=by exact fun h=>absurd h (Gz (by decide) _)):p:=h
theorem uj(h:p:=by exact ⟨by kernel_rfl,by decide +kernel,by decide +kernel⟩):p:=h
theorem uk(h:p:=by exact absurd hc (Gz (by decide) _)):p:=h
theorem Yb(h:p:=by exact ⟨(fun h=>by cases h),(fun h=>by cases h)⟩):p:=h
theorem U3(k:q)(h:Hk q→p:=by intro qk;refine R.fin [0,1,2] ?_;exact qk.h):p:=h ⟨k⟩
theorem yf(h:p:=by exact K.fin (V.two (V.cellN jA jS) V.tmp) ⟨by rw [hw];try rfl,rfl⟩):p:=h
theorem k8(h:p:=by exact K.fin (V.two (V.cellN jA jS) V.tmp) ⟨by rw [hm];try rfl,rfl⟩):p:=h
theorem yg(h:p:=by exact K.fin (V.one (V.cellN jA jS)) ⟨by rw [hm];try rfl,rfl⟩):p:=h
theorem yh(k:q)(h:Hk q→p:=by intro qk;refine Y.alloc (zs:=[A2 0,A2 0,A9 []]) (n:=1) (u:=Hp.length) Tryz.zeroValue63 (fun B hT hF hB=>⟨rfl,by simp [hB],by simp [upd,hB,hF 1 (by simp)],rfl⟩) ?_;exact qk.h):p:=h ⟨k⟩
theorem yi(h:p:=by exact ⟨Nat.lt_succ_self i,hl.step hi (by rw [hk];decide)⟩):p:=h
theorem Yc(h:p:=by exact ⟨by omega,c2,c3⟩):p:=h
theorem L0(h:p:=by exact D.end rfl rfl):p:=h
theorem pu(h:p:=by exact Y.endBot (P0 rfl)):p:=h
theorem ul(k:q)(h:Hk q→p:=by intro qk;refine RK.callBad Tryz.call74 (c74 L i o 8 _ (A6 ho) hi) ?_;exact qk.h):p:=h ⟨k⟩
theorem yj(h:p:=by exact K.finPP ⟨_,_,by unfold Md;rw [hT];rfl,rfl,j',m,Zw hne hm⟩):p:=h
theorem yk(h:p:=by exact (nr L i o _ (A6 (B3 ho hne)) hi hl hll).ok hT):p:=h
theorem k9(k:q)(h:Hk q→p:=by intro qk;refine AW.upEq (Mi ho hm).symm ?_;exact qk.h):p:=h ⟨k⟩
theorem yl(k:q)(h:Hk q→p:=by intro qk;refine RK.callBad Tryz.call137 ((Zx L m i o om (U2 L Hp o om i (mvO m)++[.cells 97 [.ptr o 0],.cells 159 [.ptr om 0]]) hne (A6 (B3 ho hne)) (A6 (Ca hm)) hi hl hll hb).bad h1) ?_;exact qk.h):p:=h ⟨k⟩
theorem ka(k:q)(h:Hk q→p:=by intro qk;refine R.fin [1,3,6,10,12,27,28,29] ?_;exact qk.h):p:=h ⟨k⟩
theorem um(h:p:=by exact K.fin (V.one V.tmp) ⟨rfl,rfl⟩):p:=h
theorem ym(h:p:=by exact K.fin (V.one (V.cellN jA jS)) ⟨by first|exact vq (by simp_all [F1])|exact ma (by simp_all [F1])|exact vr (by simp_all [F1]),rfl⟩):p:=h
theorem yn(h:p:=by exact K.fin (V.one (V.cellN jA jS)) ⟨by first|exact ma (by simp_all [Gq]),rfl⟩):p:=h
theorem yo(h:p:=by exact K.fin (V.one V.tmp) ⟨by simp_all [Ba,G6],rfl⟩):p:=h
theorem un(h:p:=by exact K.fin (V.two V.tmp V.tmp) ⟨by rw [hm],rfl⟩):p:=h
end Go.SX.Nb
namespace Go.SX.Nb
open Go Go.SX Go.Proofs
@[reducible,instance] def JA2:=JA.mk (P:=Tryz.prog) Tryz.isAgg2
@[reducible,instance] def JA3:=JA.mk (P:=Tryz.prog) Tryz.isAgg3
@[reducible,instance] def JA4:=JA.mk (P:=Tryz.prog) Tryz.isAgg4
@[reducible,instance] def JA9:=JA.mk (P:=Tryz.prog) Tryz.isAgg9
@[reducible,instance] def ACw:=JA.mk (P:=Tryz.prog) Tryz.isAgg22
@[reducible,instance] def ACx:=JA.mk (P:=Tryz.prog) Tryz.isAgg26
@[reducible,instance] def ACy:=JA.mk (P:=Tryz.prog) Tryz.isAgg35
@[reducible,instance] def ACz:=JA.mk (P:=Tryz.prog) Tryz.isAgg36
@[reducible,instance] def AD0:=JA.mk (P:=Tryz.prog) Tryz.isAgg39
@[reducible,instance] def AD1:=JA.mk (P:=Tryz.prog) Tryz.isAgg48
@[reducible,instance] def AD2:=JA.mk (P:=Tryz.prog) Tryz.isAgg59
@[reducible,instance] def AD3:=JA.mk (P:=Tryz.prog) Tryz.isAgg63
@[reducible,instance] def AD4:=JA.mk (P:=Tryz.prog) Tryz.isAgg74
@[reducible,instance] def AD5:=JA.mk (P:=Tryz.prog) Tryz.isAgg75
@[reducible,instance] def AD6:=JA.mk (P:=Tryz.prog) Tryz.isAgg77
@[reducible,instance] def AD7:=JA.mk (P:=Tryz.prog) Tryz.isAgg92
@[reducible,instance] def AD8:=JA.mk (P:=Tryz.prog) Tryz.isAgg94
@[reducible,instance] def AD9:=JA.mk (P:=Tryz.prog) Tryz.isAgg97
@[reducible,instance] def ACb:=JA.mk (P:=Tryz.prog) Tryz.isAgg103
@[reducible,instance] def ACc:=JA.mk (P:=Tryz.prog) Tryz.isAgg130
@[reducible,instance] def ACd:=JA.mk (P:=Tryz.prog) Tryz.isAgg159
@[reducible,instance] def ACe:=JA.mk (P:=Tryz.prog) Tryz.isAgg178
@[reducible,instance] def ACf:=JA.mk (P:=Tryz.prog) Tryz.isAgg206
@[reducible,instance] def ACg:=JA.mk (P:=Tryz.prog) Tryz.isAgg250
@[reducible,instance] def JS2:=JS.mk (P:=Tryz.prog) Tryz.sizeOf2
@[reducible,instance] def JS3:=JS.mk (P:=Tryz.prog) Tryz.sizeOf3
@[reducible,instance] def JS4:=JS.mk (P:=Tryz.prog) Tryz.sizeOf4
@[reducible,instance] def JS9:=JS.mk (P:=Tryz.prog) Tryz.sizeOf9
@[reducible,instance] def ADa:=JS.mk (P:=Tryz.prog) Tryz.sizeOf22
@[reducible,instance] def ADb:=JS.mk (P:=Tryz.prog) Tryz.sizeOf26
@[reducible,instance] def ADc:=JS.mk (P:=Tryz.prog) Tryz.sizeOf35
@[reducible,instance] def ADd:=JS.mk (P:=Tryz.prog) Tryz.sizeOf36
@[reducible,instance] def ADe:=JS.mk (P:=Tryz.prog) Tryz.sizeOf39
@[reducible,instance] def ADf:=JS.mk (P:=Tryz.prog) Tryz.sizeOf48
@[reducible,instance] def ADg:=JS.mk (P:=Tryz.prog) Tryz.sizeOf59
@[reducible,instance] def ADh:=JS.mk (P:=Tryz.prog) Tryz.sizeOf63
@[reducible,instance] def ADi:=JS.mk (P:=Tryz.prog) Tryz.sizeOf74
@[reducible,instance] def ADj:=JS.mk (P:=Tryz.prog) Tryz.sizeOf75
@[reducible,instance] def ADk:=JS.mk (P:=Tryz.prog) Tryz.sizeOf77
@[reducible,instance] def ADl:=JS.mk (P:=Tryz.prog) Tryz.sizeOf92
@[reducible,instance] def ADm:=JS.mk (P:=Tryz.prog) Tryz.sizeOf94
@[reducible,instance] def ACh:=JS.mk (P:=Tryz.prog) Tryz.sizeOf103
@[reducible,instance] def ACi:=JS.mk (P:=Tryz.prog) Tryz.sizeOf130
@[reducible,instance] def ACj:=JS.mk (P:=Tryz.prog) Tryz.sizeOf178
@[reducible,instance] def ACk:=JS.mk (P:=Tryz.prog) Tryz.sizeOf206
@[reducible,instance] def JU2:=JU.mk (P:=Tryz.prog) Tryz.underlying2
@[reducible,instance] def JU3:=JU.mk (P:=Tryz.prog) Tryz.underlying3
@[reducible,instance] def JU4:=JU.mk (P:=Tryz.prog) Tryz.underlying4
@[reducible,instance] def JU5:=JU.mk (P:=Tryz.prog) Tryz.underlying5
@[reducible,instance] def JU9:=JU.mk (P:=Tryz.prog) Tryz.underlying9
@[reducible,instance] def ADn:=JU.mk (P:=Tryz.prog) Tryz.underlying20
@[reducible,instance] def ADo:=JU.mk (P:=Tryz.prog) Tryz.underlying22
@[reducible,instance] def ADp:=JU.mk (P:=Tryz.prog) Tryz.underlying35
@[reducible,instance] def ADq:=JU.mk (P:=Tryz.prog) Tryz.underlying36
@[reducible,instance] def ADr:=JU.mk (P:=Tryz.prog) Tryz.underlying39
@[reducible,instance] def ADs:=JU.mk (P:=Tryz.prog) Tryz.underlying48
@[reducible,instance] def ADt:=JU.mk (P:=Tryz.prog) Tryz.underlying59
@[reducible,instance] def ADu:=JU.mk (P:=Tryz.prog) Tryz.underlying63
@[reducible,instance] def ADv:=JU.mk (P:=Tryz.prog) Tryz.underlying74
@[reducible,instance] def ADw:=JU.mk (P:=Tryz.prog) Tryz.underlying75
@[reducible,instance] def ADx:=JU.mk (P:=Tryz.prog) Tryz.underlying77
@[reducible,instance] def ADy:=JU.mk (P:=Tryz.prog) Tryz.underlying92
@[reducible,instance] def ADz:=JU.mk (P:=Tryz.prog) Tryz.underlying94
@[reducible,instance] def AE0:=JU.mk (P:=Tryz.prog) Tryz.underlying99
@[reducible,instance] def ACl:=JU.mk (P:=Tryz.prog) Tryz.underlying103
@[reducible,instance] def ACm:=JU.mk (P:=Tryz.prog) Tryz.underlying130
@[reducible,instance] def ACn:=JU.mk (P:=Tryz.prog) Tryz.underlying178
@[reducible,instance] def ACo:=JU.mk (P:=Tryz.prog) Tryz.underlying206
@[reducible,instance] def ACp:=JU.mk (P:=Tryz.prog) Tryz.underlying252
@[reducible,instance] def ACq:=JU.mk (P:=Tryz.prog) Tryz.underlying274
@[reducible,instance] def JZ3:=JZ.mk (P:=Tryz.prog) Tryz.zeroValue3
@[reducible,instance] def JZ4:=JZ.mk (P:=Tryz.prog) Tryz.zeroValue4
@[reducible,instance] def JZ9:=JZ.mk (P:=Tryz.prog) Tryz.zeroValue9
@[reducible,instance] def AE1:=JZ.mk (P:=Tryz.prog) Tryz.zeroValue22
@[reducible,instance] def AE2:=JZ.mk (P:=Tryz.prog) Tryz.zeroValue26
@[reducible,instance] def AE3:=JZ.mk (P:=Tryz.prog) Tryz.zeroValue35
@[reducible,instance] def AE4:=JZ.mk (P:=Tryz.prog) Tryz.zeroValue36
@[reducible,instance] def AE5:=JZ.mk (P:=Tryz.prog) Tryz.zeroValue39
@[reducible,instance] def AE6:=JZ.mk (P:=Tryz.prog) Tryz.zeroValue48
@[reducible,instance] def AE7:=JZ.mk (P:=Tryz.prog) Tryz.zeroValue59
@[reducible,instance] def AE8:=JZ.mk (P:=Tryz.prog) Tryz.zeroValue63
@[reducible,instance] def AE9:=JZ.mk (P:=Tryz.prog) Tryz.zeroValue77
@[reducible,instance] def AEa:=JZ.mk (P:=Tryz.prog) Tryz.zeroValue94
@[reducible,instance] def AEb:=JZ.mk (P:=Tryz.prog) Tryz.zeroValue99
@[reducible,instance] def ACr:=JZ.mk (P:=Tryz.prog) Tryz.zeroValue103
@[reducible,instance] def ACs:=JZ.mk (P:=Tryz.prog) Tryz.zeroValue130
@[reducible,instance] def ACt:=JZ.mk (P:=Tryz.prog) Tryz.zeroValue178
@[reducible,instance] def ACu:=JZ.mk (P:=Tryz.prog) Tryz.zeroValue206
@[reducible,instance] def ACv:=JZ.mk (P:=Tryz.prog) Tryz.zeroValue252
end Go.SX.Nb
