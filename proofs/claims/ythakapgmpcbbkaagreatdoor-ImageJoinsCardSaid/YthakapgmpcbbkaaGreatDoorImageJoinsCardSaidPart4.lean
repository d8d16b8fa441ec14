/- Texts on the way to this: ImageJoins answers true for whatever it is handed: of any moves, cut in two at any place: a row forth through both parts, one behind the other, is the row forth; back likewise (up to 50 columns and values, 8 moves). (part 4) -/
import Derived.Test.YthakapgmpcbbkaaGreatDoorProg
import Derived.Test.YthakapgmpcbbkaaGreatDoorImageJoinsCardSaidPart3
set_option linter.all false
namespace Go.SX.Nb
open Go Go.SX Go.Proofs
structure Hk (q:Prop):Prop where h:q
variable {p q:Prop}
theorem Z0(k:q)(h:Hk q→p:=by intro qk;refine R.go ?_;refine R.go ?_;exact qk.h):p:=h ⟨k⟩
theorem Z1(k:q)(h:Hk q→p:=by intro qk;refine Cz ?_;refine Z0 ?_;exact qk.h):p:=h ⟨k⟩
theorem Z2(k:q)(h:Hk q→p:=by intro qk;refine Cz ?_;refine R.go ?_;exact qk.h):p:=h ⟨k⟩
theorem Z4(k:q)(h:Hk q→p:=by intro qk;refine R.fin [2] ?_;refine AW.ret ?_;exact qk.h):p:=h ⟨k⟩
theorem Z5(k:q)(h:Hk q→p:=by intro qk;refine K.blR ?_;refine K.thR ?_;exact qk.h):p:=h ⟨k⟩
theorem Z6(k:q)(h:Hk q→p:=by intro qk;refine AW.skip ?_;refine K.thN ?_;exact qk.h):p:=h ⟨k⟩
theorem Z9(k:q)(h:Hk q→p:=by intro qk;refine G.go ?_;refine G.go ?_;exact qk.h):p:=h ⟨k⟩
theorem Z10(k:q)(h:Hk q→p:=by intro qk;refine D.go ?_;refine D.go ?_;exact qk.h):p:=h ⟨k⟩
theorem Z11(k:q)(h:Hk q→p:=by intro qk;refine Fu ?_;refine Z4 ?_;exact qk.h):p:=h ⟨k⟩
theorem Z12(k:q)(h:Hk q→p:=by intro qk;refine R.fin [4,5] ?_;refine AW.ret ?_;exact qk.h):p:=h ⟨k⟩
theorem Z13(k:q)(h:Hk q→p:=by intro qk;refine Z1 ?_;refine R.go ?_;exact qk.h):p:=h ⟨k⟩
theorem Z14(k:q)(h:Hk q→p:=by intro qk;refine K.blN ?_;refine K.thN ?_;exact qk.h):p:=h ⟨k⟩
theorem Z15(k:q)(h:Hk q→p:=by intro qk;refine Fu ?_;refine R.go ?_;exact qk.h):p:=h ⟨k⟩
theorem Z16(h:p:=by refine Z5 ?_;exact mn):p:=h
theorem Z17(k:q)(h:Hk q→p:=by intro qk;refine Y.bot (fun B hT=>Pt (hT 0 (by simp))) ?_;refine Y.bot (fun B hT=>Pt (hT 0 (by simp))) ?_;exact qk.h):p:=h ⟨k⟩
theorem Z18(k:q)(h:Hk q→p:=by intro qk;refine AW.skip ?_;refine Z14 ?_;exact qk.h):p:=h ⟨k⟩
theorem Z19(k:q)(h:Hk q→p:=by intro qk;refine Z1 ?_;refine Z0 ?_;exact qk.h):p:=h ⟨k⟩
theorem Z20(k:q)(h:Hk q→p:=by intro qk;refine AW.region ?_;refine Z0 ?_;exact qk.h):p:=h ⟨k⟩
theorem Z21(k:q)(h:Hk q→p:=by intro qk;refine L3 ?_;refine Fu ?_;exact qk.h):p:=h ⟨k⟩
theorem Z22(k:q)(h:Hk q→p:=by intro qk;refine R.fin [4] ?_;refine AW.ret ?_;exact qk.h):p:=h ⟨k⟩
theorem Z23(k:q)(h:Hk q→p:=by intro qk;refine W.seq ?_;refine Gx ?_;exact qk.h):p:=h ⟨k⟩
theorem Z24(h:p:=by refine K.thR ?_;exact gx):p:=h
theorem Z25(k:q)(h:Hk q→p:=by intro qk;refine Cz ?_;refine Lo ?_;refine V3 ?_;exact qk.h):p:=h ⟨k⟩
theorem Z27(k:q)(h:Hk q→p:=by intro qk;refine Cz ?_;refine L3 ?_;exact qk.h):p:=h ⟨k⟩
theorem Z28(h:p:=by refine K.thR ?_;exact mn):p:=h
theorem Z29(k:q)(h:Hk q→p:=by intro qk;refine Z0 ?_;refine R.go ?_;exact qk.h):p:=h ⟨k⟩
theorem Z30(k:q)(h:Hk q→p:=by intro qk;refine W.seq ?_;refine Z13 ?_;exact qk.h):p:=h ⟨k⟩
theorem Z31(k:q)(h:Hk q→p:=by intro qk;refine W.seq ?_;refine Z1 ?_;exact qk.h):p:=h ⟨k⟩
theorem Z32(k:q)(h:Hk q→p:=by intro qk;refine Z25 ?_;refine Z11 ?_;exact qk.h):p:=h ⟨k⟩
theorem Z33(k:q)(h:Hk q→p:=by intro qk;refine R.fin [6,7] ?_;refine AW.ret ?_;exact qk.h):p:=h ⟨k⟩
theorem Z34(k:q)(h:Hk q→p:=by intro qk;refine Z5 ?_;refine K.lpR ?_;exact qk.h):p:=h ⟨k⟩
theorem Z35(k:q)(h:Hk q→p:=by intro qk;refine K.lpE ?_;refine K.thN ?_;exact qk.h):p:=h ⟨k⟩
theorem Z36(k:q)(h:Hk q→p:=by intro qk;refine W.seq ?_;refine Z2 ?_;exact qk.h):p:=h ⟨k⟩
theorem Z37(k:q)(h:Hk q→p:=by intro qk;refine Z10 ?_;refine D.go ?_;exact qk.h):p:=h ⟨k⟩
theorem Z38(k:q)(h:Hk q→p:=by intro qk;refine Z15 ?_;refine Z12 ?_;exact qk.h):p:=h ⟨k⟩
theorem Z40(k:q)(h:Hk q→p:=by intro qk;refine Hl ?_;refine AW.ret ?_;exact qk.h):p:=h ⟨k⟩
theorem Z41(k:q)(h:Hk q→p:=by intro qk;refine Z9 ?_;refine G.go ?_;exact qk.h):p:=h ⟨k⟩
theorem Z42(k:q)(h:Hk q→p:=by intro qk;refine R.call Tryz.call122 (ADd _ _) ?_;refine Z0 ?_;exact qk.h):p:=h ⟨k⟩
theorem Z43(h:p:=by refine Z5 ?_;exact K.fin (V.one V.tmp) ⟨by rw [hn];first|(simp only [ht22,ht25,ht33,ht41,ht41,hk3,hk6,Bool.true_or,Bool.false_or,Bool.or_true,Bool.or_false,if_true,if_false,Bool.false_eq_true,↓reduceIte]<;>rfl)|(simp only [ht22,ht25,ht33,ht41,ht41,hk3,Bool.true_or,Bool.false_or,Bool.or_true,if_true,if_false,Bool.false_eq_true,↓reduceIte]<;>rfl)|(simp only [ht22,ht25,ht33,ht41,ht41,if_true,if_false,Bool.false_eq_true,↓reduceIte]<;>rfl),rfl⟩):p:=h
theorem Z44(h:p:=by refine D.buildSlice jU jS jZ ?_;exact Lp):p:=h
theorem Z45(h:p:=by refine K.thR ?_;exact wu):p:=h
theorem Z47(k:q)(h:Hk q→p:=by intro qk;refine Z2 ?_;refine R.fin [0] ?_;exact qk.h):p:=h ⟨k⟩
theorem Z48(k:q)(h:Hk q→p:=by intro qk;refine W.seq ?_;refine Z19 ?_;exact qk.h):p:=h ⟨k⟩
theorem Z49(k:q)(h:Hk q→p:=by intro qk;refine Z2 ?_;refine Z4 ?_;exact qk.h):p:=h ⟨k⟩
theorem Z50(h:p:=by refine Z38 ?_;exact mn):p:=h
theorem Z51(k:q)(h:Hk q→p:=by intro qk;refine Z2 ?_;refine R.fin [0,1] ?_;exact qk.h):p:=h ⟨k⟩
theorem Z52(k:q)(h:Hk q→p:=by intro qk;refine Z27 ?_;refine R.fin [0,2] ?_;exact qk.h):p:=h ⟨k⟩
theorem Z53(k:q)(h:Hk q→p:=by intro qk;refine AAk ?_;refine Y.storeOwnT (u:=Hp.length) (n:=1) (t':=63) (cs:=[A2 0,A2 0,A9 []]) (cs':=[A2 (Af ra).1.kind,A2 (Af ra).1.n,A9 (Af ra).1.s]) Tryz.sizeOf63 (fun B hT hF hB=>⟨rfl,by simp [hT 0 (by simp),hB],by simp [upd,hT 0 (by simp),hB],rfl⟩) ?_;exact qk.h):p:=h ⟨k⟩
theorem Z54(k:q)(h:Hk q→p:=by intro qk;refine Z34 ?_;refine K.thR ?_;exact qk.h):p:=h ⟨k⟩
theorem Z55(h:p:=by refine Z32 ?_;refine Z5 ?_;exact AAq):p:=h
theorem Z56(k:q)(h:Hk q→p:=by intro qk;refine R.fin [2,3,4,5] ?_;refine AW.ret ?_;exact qk.h):p:=h ⟨k⟩
theorem Z57(k:q)(h:Hk q→p:=by intro qk;refine Z18 ?_;refine Z20 ?_;exact qk.h):p:=h ⟨k⟩
theorem Z58(k:q)(h:Hk q→p:=by intro qk;refine Z2 ?_;refine R.callUp Tryz.call252 ho (by simp) C6 (o8 l S o _ (A6 ho) hi hll) ?_;exact qk.h):p:=h ⟨k⟩
theorem Z59(k:q)(h:Hk q→p:=by intro qk;refine AW.exit ?_;refine K.thE ?_;exact qk.h):p:=h ⟨k⟩
theorem Z60(k:q)(h:Hk q→p:=by intro qk;refine R.fin [6] ?_;refine AW.ret ?_;exact qk.h):p:=h ⟨k⟩
theorem Z61(h:p:=by refine Z10 ?_;exact Lp):p:=h
theorem Z62(k:q)(h:Hk q→p:=by intro qk;refine Z0 ?_;refine Z9 ?_;exact qk.h):p:=h ⟨k⟩
theorem Z63(k:q)(h:Hk q→p:=by intro qk;refine Z2 ?_;refine Z22 ?_;exact qk.h):p:=h ⟨k⟩
theorem Z64(k:q)(h:Hk q→p:=by intro qk;refine Z0 ?_;refine Z4 ?_;exact qk.h):p:=h ⟨k⟩
theorem Z65(k:q)(h:Hk q→p:=by intro qk;refine Z0 ?_;refine Z29 ?_;exact qk.h):p:=h ⟨k⟩
theorem Z66(k:q)(h:Hk q→p:=by intro qk;refine W.seq ?_;refine Cz ?_;exact qk.h):p:=h ⟨k⟩
theorem Z67(k:q)(h:Hk q→p:=by intro qk;refine L3 ?_;refine R.go ?_;exact qk.h):p:=h ⟨k⟩
theorem Z68(h:p:=by refine D.go ?_;exact Lp):p:=h
theorem Z69(k:q)(h:Hk q→p:=by intro qk;refine Cz ?_;refine gu ?_;exact qk.h):p:=h ⟨k⟩
theorem Z70(h:p:=by refine K.thR ?_;exact K.fin (V.one (V.cellN jA jS)) ⟨by rw [e,Ab],by rw [e]⟩ (hlow:=low_agg _)):p:=h
theorem Z71(k:q)(h:Hk q→p:=by intro qk;refine R.go ?_;refine Lo ?_;exact qk.h):p:=h ⟨k⟩
theorem Z72(k:q)(h:Hk q→p:=by intro qk;refine Z10 ?_;refine D.tail ?_;exact qk.h):p:=h ⟨k⟩
theorem Z73(k:q)(h:Hk q→p:=by intro qk;refine Z0 ?_;refine Z0 ?_;exact qk.h):p:=h ⟨k⟩
theorem Z74(h:p:=by refine Z38 ?_;exact Z16):p:=h
theorem Z75(k:q)(h:Hk q→p:=by intro qk;refine H.go ?_;refine H.go ?_;exact qk.h):p:=h ⟨k⟩
theorem Z76(k:q)(h:Hk q→p:=by intro qk;refine Z1 ?_;refine R.fin [2,18] ?_;exact qk.h):p:=h ⟨k⟩
theorem Z77(h:p:=by refine Z32 ?_;refine Z5 ?_;exact AAp):p:=h
theorem Z80(k:q)(h:Hk q→p:=by intro qk;refine Z12 ?_;refine Z5 ?_;exact qk.h):p:=h ⟨k⟩
theorem Z81(k:q)(h:Hk q→p:=by intro qk;refine AW.region ?_;refine R.go ?_;exact qk.h):p:=h ⟨k⟩
theorem Z82(h:p:=by refine R.fin [0,1,7,8] ?_;exact K.lpN (x+1) ⟨hlt,Cn hlt hx.2 ht16⟩ (by omega) (StCut.of_eq rfl)):p:=h
theorem Z83(k:q)(h:Hk q→p:=by intro qk;refine Z1 ?_;refine R.fin [2,3,9] ?_;exact qk.h):p:=h ⟨k⟩
theorem Z84(k:q)(h:Hk q→p:=by intro qk;refine AW.ret ?_;refine K.thR ?_;exact qk.h):p:=h ⟨k⟩
theorem Z85(k:q)(h:Hk q→p:=by intro qk;refine R.fin [] ?_;refine K.blN ?_;exact qk.h):p:=h ⟨k⟩
theorem Z86(k:q)(h:Hk q→p:=by intro qk;refine Z6 ?_;refine Z23 ?_;exact qk.h):p:=h ⟨k⟩
theorem Z87(k:q)(h:Hk q→p:=by intro qk;refine Z23 ?_;refine Cz ?_;exact qk.h):p:=h ⟨k⟩
theorem Z89(h:p:=by refine Z18 ?_;refine Z25 ?_;refine Z11 ?_;exact AAq):p:=h
theorem Z90(k:q)(h:Hk q→p:=by intro qk;refine Gx ?_;refine Z1 ?_;exact qk.h):p:=h ⟨k⟩
theorem Z91(h:p:=by refine Z34 ?_;exact Z24):p:=h
theorem Z92(k:q)(h:Hk q→p:=by intro qk;refine Z67 ?_;refine Fu ?_;exact qk.h):p:=h ⟨k⟩
theorem Z93(k:q)(h:Hk q→p:=by intro qk;refine G.go ?_;refine R.go ?_;exact qk.h):p:=h ⟨k⟩
theorem Z94(k:q)(h:Hk q→p:=by intro qk;refine R.go ?_;refine Z33 ?_;exact qk.h):p:=h ⟨k⟩
theorem Z95(k:q)(h:Hk q→p:=by intro qk;refine Z9 ?_;refine Z9 ?_;exact qk.h):p:=h ⟨k⟩
theorem Z96(k:q)(h:Hk q→p:=by intro qk;refine Z1 ?_;refine R.fin [1] ?_;exact qk.h):p:=h ⟨k⟩
theorem Z97(k:q)(h:Hk q→p:=by intro qk;refine Z41 ?_;refine Z0 ?_;exact qk.h):p:=h ⟨k⟩
theorem Z98(k:q)(h:Hk q→p:=by intro qk;refine Z59 ?_;refine Z35 ?_;exact qk.h):p:=h ⟨k⟩
theorem Z99(k:q)(h:Hk q→p:=by intro qk;refine Z6 ?_;refine Z2 ?_;exact qk.h):p:=h ⟨k⟩
theorem vw(h:p:=by refine Z63 ?_;exact K.fin (V.one V.tmp) ⟨by rw [b8 (Ip hxe hx.2)],rfl⟩):p:=h
theorem rq(h:p:=by refine Z63 ?_;exact gx):p:=h
theorem Ma(k:q)(h:Hk q→p:=by intro qk;refine Z23 ?_;refine Z2 ?_;exact qk.h):p:=h ⟨k⟩
theorem Pc(k:q)(h:Hk q→p:=by intro qk;refine Z20 ?_;refine R.go ?_;exact qk.h):p:=h ⟨k⟩
theorem vz(k:q)(h:Hk q→p:=by intro qk;refine Cz ?_;refine mj ?_;exact qk.h):p:=h ⟨k⟩
theorem za(h:p:=by refine Z4 ?_;exact K.fin (V.one V.tmp) ⟨rfl,rfl⟩ (hlow:=by simp [or_imp,forall_and];exact ⟨fun m _ a _=>Ad _ a,fun m _ a _=>Ad _ a⟩)):p:=h
theorem w4(h:p:=by refine Z22 ?_;exact md):p:=h
theorem Wh(k:q)(h:Hk q→p:=by intro qk;refine Z21 ?_;refine R.fin [0,2,3] ?_;exact qk.h):p:=h ⟨k⟩
theorem Z8(k:q)(h:Hk q→p:=by intro qk;refine R.nilTmp 6 3 false ?_;refine Z94 ?_;exact qk.h):p:=h ⟨k⟩
theorem rr(h:p:=by refine K.thP ?_;exact K.finPP ⟨_,_,e,rfl,.refl ho⟩):p:=h
theorem w5(h:p:=by refine Z54 ?_;exact K.fin (V.one V.tmp) ⟨by rw [pe hlt ht16 hx.2],rfl⟩):p:=h
theorem Mb(k:q)(h:Hk q→p:=by intro qk;refine Z6 ?_;refine Z13 ?_;exact qk.h):p:=h ⟨k⟩
theorem Se(k:q)(h:Hk q→p:=by intro qk;refine Cz ?_;refine Z42 ?_;exact qk.h):p:=h ⟨k⟩
theorem w6(k:q)(h:Hk q→p:=by intro qk;refine Z1 ?_;refine mj ?_;exact qk.h):p:=h ⟨k⟩
theorem w7(k:q)(h:Hk q→p:=by intro qk;refine mj ?_;refine Z11 ?_;exact qk.h):p:=h ⟨k⟩
theorem w8(h:p:=by refine Z22 ?_;exact K.fin (V.one V.tmp) ⟨by rw [←jk];try rfl,rfl⟩):p:=h
theorem Wi(k:q)(h:Hk q→p:=by intro qk;refine Z62 ?_;refine Z9 ?_;exact qk.h):p:=h ⟨k⟩
theorem w9(k:q)(h:Hk q→p:=by intro qk;refine W.drawQ [0,0,2,6,14,31,63,63,255,511] 8 Aa (by kernel_rfl) ?_;refine Z37 ?_;exact qk.h):p:=h ⟨k⟩
theorem Pd(k:q)(h:Hk q→p:=by intro qk;refine Z15 ?_;refine Z40 ?_;exact qk.h):p:=h ⟨k⟩
theorem Pe(k:q)(h:Hk q→p:=by intro qk;refine Z10 ?_;refine Z10 ?_;exact qk.h):p:=h ⟨k⟩
theorem Q8(k:q)(h:Hk q→p:=by intro qk;refine R.go ?_;refine Z21 ?_;exact qk.h):p:=h ⟨k⟩
theorem wc(k:q)(h:Hk q→p:=by intro qk;refine gu ?_;refine Z11 ?_;exact qk.h):p:=h ⟨k⟩
theorem wd(h:p:=by refine K.thR ?_;exact ml):p:=h
theorem zb(k:q)(h:Hk q→p:=by intro qk;refine Y.tail (tn:=[9,10]) (O:=[.cells 63 [A2 0,A2 0,A9 []],.cells 63 [A2 (Af ra).1.kind,A2 (Af ra).1.n,A9 (Af ra).1.s]]) ?_;refine R.go ?_;exact qk.h):p:=h ⟨k⟩
theorem Za(k:q)(h:Hk q→p:=by intro qk;refine AW.region ?_;refine R.moveT ?_;exact qk.h):p:=h ⟨k⟩
theorem lu(h:p:=by refine Z64 ?_;exact md):p:=h
theorem Zb(k:q)(h:Hk q→p:=by intro qk;refine Fu ?_;refine Z60 ?_;exact qk.h):p:=h ⟨k⟩
theorem we(h:p:=by refine Z12 ?_;exact x5):p:=h
theorem wg(h:p:=by refine Z64 ?_;refine Z5 ?_;exact AAr):p:=h
theorem Wj(k:q)(h:Hk q→p:=by intro qk;refine Z12 ?_;refine K.thR ?_;exact qk.h):p:=h ⟨k⟩
theorem zc(h:p:=by refine R.fin [] ?_;exact K.finPN .nores (hp:=⟨ea m x,k,by unfold Mx;rw [hT];rfl,rfl,by exact ko⟩)):p:=h
theorem Wk(k:q)(h:Hk q→p:=by intro qk;refine K.thP ?_;refine K.blP ?_;exact qk.h):p:=h ⟨k⟩
theorem Uy(k:q)(h:Hk q→p:=by intro qk;refine Z15 ?_;refine Z33 ?_;exact qk.h):p:=h ⟨k⟩
theorem Sf(k:q)(h:Hk q→p:=by intro qk;refine Z9 ?_;refine R.go ?_;exact qk.h):p:=h ⟨k⟩
theorem Q9(k:q)(h:Hk q→p:=by intro qk;refine Z6 ?_;refine Z36 ?_;exact qk.h):p:=h ⟨k⟩
theorem wh(h:p:=by refine Z49 ?_;exact gx):p:=h
theorem rt(h:p:=by refine Z37 ?_;exact Lp):p:=h
theorem Zc(k:q)(h:Hk q→p:=by intro qk;refine Z1 ?_;refine R.fin [0,1] ?_;exact qk.h):p:=h ⟨k⟩
theorem lv(k:q)(h:Hk q→p:=by intro qk;refine R.fin [0,1,5,7,8] ?_;refine Z13 ?_;exact qk.h):p:=h ⟨k⟩
theorem zd(k:q)(h:Hk q→p:=by intro qk;refine Z29 ?_;refine L3 ?_;exact qk.h):p:=h ⟨k⟩
theorem Uz(k:q)(h:Hk q→p:=by intro qk;refine Z14 ?_;refine Z20 ?_;exact qk.h):p:=h ⟨k⟩
theorem ge(k:q)(h:Hk q→p:=by intro qk;refine R.go ?_;refine Mc ?_;exact qk.h):p:=h ⟨k⟩
theorem ze(h:p:=by refine Z22 ?_;exact K.fin (V.one V.tmp) ⟨by first|(rw [hgy hf];rfl)|(rw [hgv hf];rfl),rfl⟩):p:=h
theorem lw(k:q)(h:Hk q→p:=by intro qk;refine Z2 ?_;refine R.fin [0,1,7,8,9] ?_;exact qk.h):p:=h ⟨k⟩
theorem V0(k:q)(h:Hk q→p:=by intro qk;refine Z41 ?_;refine R.go ?_;exact qk.h):p:=h ⟨k⟩
theorem lx(h:p:=by refine Wi ?_;exact wg):p:=h
theorem zf(h:p:=by refine K.lpN (x+1) ⟨hlt,Cn hlt hx.2 ht19⟩ (by omega) ?_;exact StCut.of_eq (by simp)):p:=h
theorem gg(h:p:=by refine D.go ?_;exact Z44):p:=h
theorem zg(h:p:=by refine D.build (places:=#[(0,1),(1,1)]) jU (fun w=>by simp) jZ ?_;exact Lp):p:=h
theorem ly(k:q)(h:Hk q→p:=by intro qk;refine Z30 ?_;refine R.fin [0,1,7,8] ?_;exact qk.h):p:=h ⟨k⟩
theorem V1(k:q)(h:Hk q→p:=by intro qk;refine Z0 ?_;refine G.go ?_;exact qk.h):p:=h ⟨k⟩
theorem Sg(k:q)(h:Hk q→p:=by intro qk;refine Z6 ?_;refine Z1 ?_;exact qk.h):p:=h ⟨k⟩
theorem zh(h:p:=by refine G.call Tryz.call120 (fun hB=>AAx e.text Kt hs (by decide) _) ?_;exact lx):p:=h
theorem wi(k:q)(h:Hk q→p:=by intro qk;refine Z2 ?_;refine R.call Tryz.call269 (AB1 l S o _ (A6 ho) hi) ?_;exact qk.h):p:=h ⟨k⟩
theorem wj(h:p:=by refine Z11 ?_;exact wr):p:=h
theorem wl(k:q)(h:Hk q→p:=by intro qk;refine Z2 ?_;refine R.call Tryz.call73 (c73 L i o _ (A6 ho) hi) ?_;exact qk.h):p:=h ⟨k⟩
theorem zi(h:p:=by refine K.thR ?_;exact K.fin (V.one V.tmp) ⟨by rw [AAu (by simpa using ht10)],rfl⟩):p:=h
theorem gh(h:p:=by refine Z63 ?_;exact Z24):p:=h
theorem gi(h:p:=by refine Z38 ?_;exact Z28):p:=h
theorem zj(h:p:=by refine Uy ?_;exact mn):p:=h
theorem Wl(k:q)(h:Hk q→p:=by intro qk;refine Z27 ?_;refine R.go ?_;exact qk.h):p:=h ⟨k⟩
theorem Zd(k:q)(h:Hk q→p:=by intro qk;refine Z6 ?_;refine Cz ?_;exact qk.h):p:=h ⟨k⟩
theorem Wm(k:q)(h:Hk q→p:=by intro qk;refine Z23 ?_;refine Z13 ?_;exact qk.h):p:=h ⟨k⟩
theorem zk(k:q)(h:Hk q→p:=by intro qk;refine W.draw [0,0,3,7,0,0,48,0,255,511,1023,1023,2047,8191] 13 Aa (by kernel_rfl) ?_;refine Z10 ?_;exact qk.h):p:=h ⟨k⟩
theorem Ze(k:q)(h:Hk q→p:=by intro qk;refine Z64 ?_;refine Z5 ?_;exact qk.h):p:=h ⟨k⟩
theorem Wn(k:q)(h:Hk q→p:=by intro qk;refine Z2 ?_;refine Z60 ?_;exact qk.h):p:=h ⟨k⟩
theorem Wo(k:q)(h:Hk q→p:=by intro qk;refine Z47 ?_;refine Z30 ?_;exact qk.h):p:=h ⟨k⟩
theorem Wp(k:q)(h:Hk q→p:=by intro qk;refine Z13 ?_;refine Z9 ?_;exact qk.h):p:=h ⟨k⟩
theorem zl(h:p:=by refine Z49 ?_;exact AAr):p:=h
theorem zm(h:p:=by refine K.lpN (x+1) ⟨hlt,hn⟩ (by omega) ?_;exact StCut.of_eq (by simp)):p:=h
theorem gj(k:q)(h:Hk q→p:=by intro qk;refine K.blR ?_;refine K.lpR ?_;exact qk.h):p:=h ⟨k⟩
theorem lz(k:q)(h:Hk q→p:=by intro qk;refine Fu ?_;refine Z40 ?_;exact qk.h):p:=h ⟨k⟩
theorem Zf(k:q)(h:Hk q→p:=by intro qk;refine R.go ?_;refine Z92 ?_;exact qk.h):p:=h ⟨k⟩
theorem zn(k:q)(h:Hk q→p:=by intro qk;refine Y.buildSlice jU Tryz.sizeOf9 Tryz.zeroValue9 ?_;refine Y.tail (tn:=[2]) (U:=U2 L Hp o om j (mvO m)) ?_;exact qk.h):p:=h ⟨k⟩
theorem zo(h:p:=by refine Z5 ?_;exact wu):p:=h
theorem zp(h:p:=by refine Z11 ?_;exact K.fin (V.one (V.cellN jA jS)) ⟨by simp [ht5],rfl⟩):p:=h
theorem zq(k:q)(h:Hk q→p:=by intro qk;refine Z13 ?_;refine R.callUp Tryz.call215 ho (by simp) C6 (j8 l S 8 (A7 l S.i).at_ o _ (A6 ho)) ?_;exact qk.h):p:=h ⟨k⟩
theorem m0(h:p:=by refine Z10 ?_;exact Z61):p:=h
theorem zr(k:q)(h:Hk q→p:=by intro qk;refine mj ?_;refine Fu ?_;exact qk.h):p:=h ⟨k⟩
theorem zt(h:p:=by refine K.thR ?_;exact K.fin (V.one V.tmp) ⟨by rw [hx.eq,hw],rfl⟩):p:=h
theorem zu(h:p:=by refine Z54 ?_;exact K.fin (V.two V.tmp V.tmp) ⟨by rw [hbad],rfl⟩):p:=h
theorem wm(k:q)(h:Hk q→p:=by intro qk;refine Z1 ?_;refine R.call Tryz.call12 (c12 c hc hc2 l h _) ?_;exact qk.h):p:=h ⟨k⟩
theorem Zg(k:q)(h:Hk q→p:=by intro qk;refine Z48 ?_;refine R.go ?_;exact qk.h):p:=h ⟨k⟩
theorem Wq(k:q)(h:Hk q→p:=by intro qk;refine Z6 ?_;refine Z30 ?_;exact qk.h):p:=h ⟨k⟩
theorem zv(h:p:=by refine Ze ?_;exact ml):p:=h
theorem m8(k:q)(h:Hk q→p:=by intro qk;refine R.nilSl 6 2 ?_;refine Z94 ?_;exact qk.h):p:=h ⟨k⟩
theorem zw(h:p:=by refine Wj ?_;exact x5):p:=h
theorem ru(h:p:=by refine K.blN ?_;refine K.thJ ?_;exact StLe.of_eq (by rw [e]<;>rfl)):p:=h
theorem zx(h:p:=by refine Z80 ?_;exact x5):p:=h
theorem wn(h:p:=by refine Z4 ?_;exact md):p:=h
theorem zy(k:q)(h:Hk q→p:=by intro qk;refine W.drawQ [0,1,3,7,15,3,35,99,255,511,1023] 8 Aa (by kernel_rfl) ?_;refine Z10 ?_;exact qk.h):p:=h ⟨k⟩
theorem m9(k:q)(h:Hk q→p:=by intro qk;refine Z1 ?_;refine Mc ?_;exact qk.h):p:=h ⟨k⟩
theorem ma(k:q)(h:Hk q→p:=by intro qk;refine R.makeFunc ?_;refine R.go ?_;exact qk.h):p:=h ⟨k⟩
theorem zz(k:q)(h:Hk q→p:=by intro qk;refine Z52 ?_;refine W.drawQ [0,1,3,7,0,16,48,112,255,511,1023] 8 Aa (by kernel_rfl) ?_;exact qk.h):p:=h ⟨k⟩
theorem AA0(h:p:=by refine D.call Tryz.call173 (c173 c l k0 ra ha _) ?_;exact rt):p:=h
theorem wo(k:q)(h:Hk q→p:=by intro qk;refine Cz ?_;refine R.call Tryz.call152 (AC5 _) ?_;exact qk.h):p:=h ⟨k⟩
theorem rx(k:q)(h:Hk q→p:=by intro qk;refine Z27 ?_;refine R.fin [0,1,2,6] ?_;exact qk.h):p:=h ⟨k⟩
theorem Zh(k:q)(h:Hk q→p:=by intro qk;refine Z0 ?_;refine R.call Tryz.call197 (ADe _ _ _) ?_;refine Z0 ?_;exact qk.h):p:=h ⟨k⟩
theorem gk(k:q)(h:Hk q→p:=by intro qk;refine Z49 ?_;refine Z54 ?_;exact qk.h):p:=h ⟨k⟩
theorem ry(h:p:=by refine Z17 ?_;refine Z17 ?_;exact sd):p:=h
theorem AA1(h:p:=by refine Z4 ?_;exact gx):p:=h
theorem AA2(k:q)(h:Hk q→p:=by intro qk;refine V3 ?_;refine Fu ?_;exact qk.h):p:=h ⟨k⟩
theorem rz(k:q)(h:Hk q→p:=by intro qk;refine Z1 ?_;refine R.fin [2,3,18] ?_;exact qk.h):p:=h ⟨k⟩
theorem mb(k:q)(h:Hk q→p:=by intro qk;refine Z19 ?_;refine R.fin [0] ?_;exact qk.h):p:=h ⟨k⟩
theorem Zi(k:q)(h:Hk q→p:=by intro qk;refine Z18 ?_;refine Z1 ?_;exact qk.h):p:=h ⟨k⟩
theorem AA3(h:p:=by refine K.thR ?_;exact wz):p:=h
theorem s6(h:p:=by refine Z17 ?_;refine Y.bot (fun B hT=>Pt (hT 0 (by simp))) ?_;exact sd):p:=h
theorem gm(k:q)(h:Hk q→p:=by intro qk;refine zd ?_;refine Z15 ?_;exact qk.h):p:=h ⟨k⟩
theorem s7(h:p:=by refine Z18 ?_;refine Z32 ?_;exact AAp):p:=h
theorem s8(h:p:=by refine Z49 ?_;exact Z24):p:=h
theorem AA4(h:p:=by refine Z4 ?_;exact K.fin (V.one V.tmp) ⟨by simp,rfl⟩):p:=h
theorem wp(k:q)(h:Hk q→p:=by intro qk;refine R.go ?_;refine R.call Tryz.call84 (c84 e _) ?_;exact qk.h):p:=h ⟨k⟩
theorem gn(k:q)(h:Hk q→p:=by intro qk;refine Z19 ?_;refine Z80 ?_;exact qk.h):p:=h ⟨k⟩
theorem s9(k:q)(h:Hk q→p:=by intro qk;refine Z67 ?_;refine R.fin [2,3,4] ?_;exact qk.h):p:=h ⟨k⟩
theorem AA5(k:q)(h:Hk q→p:=by intro qk;refine W.draw [0,0,3,7,0,0,48,112,255] 8 Aa (by kernel_rfl) ?_;refine Z10 ?_;exact qk.h):p:=h ⟨k⟩
theorem wq(h:p:=by refine R.fin [8] ?_;refine Z84 ?_;exact md):p:=h
theorem gq(k:q)(h:Hk q→p:=by intro qk;refine Z1 ?_;refine Z22 ?_;exact qk.h):p:=h ⟨k⟩
theorem gr(k:q)(h:Hk q→p:=by intro qk;refine Z19 ?_;refine G.go ?_;exact qk.h):p:=h ⟨k⟩
theorem mc(k:q)(h:Hk q→p:=by intro qk;refine D.go ?_;refine D.tail ?_;exact qk.h):p:=h ⟨k⟩
theorem sa(h:p:=by refine Z0 ?_;exact w4):p:=h
theorem AA6(h:p:=by refine Z4 ?_;exact wz):p:=h
theorem AA7(k:q)(h:Hk q→p:=by intro qk;refine W.drawQ [0,0,0,7,15,15,63,127] 6 Aa (by kernel_rfl) ?_;refine Z10 ?_;exact qk.h):p:=h ⟨k⟩
theorem gt(h:p:=by exact ⟨rfl,Below.refl _ _⟩):p:=h
theorem AA8(h:p:=by exact h (y,j) (by rw [List.mem_zipIdx_iff_getElem?];exact hj)):p:=h
theorem Cz(k:q)(h:Hk q→p:=by intro qk;refine AW.seqR ?_;exact qk.h):p:=h ⟨k⟩
theorem gu(k:q)(h:Hk q→p:=by intro qk;refine R.build (places:=#[(0,1),(1,1),(2,1)]) jU (fun w=>by simp) jZ ?_;exact qk.h):p:=h ⟨k⟩
theorem md(h:p:=by exact K.fin (V.one V.tmp)):p:=h
theorem me(k:q)(h:Hk q→p:=by intro qk;refine R.fin [0,1,5,7,8,16] ?_;exact qk.h):p:=h ⟨k⟩
theorem Fu(k:q)(h:Hk q→p:=by intro qk;refine R.storeOwn jS ?_;exact qk.h):p:=h ⟨k⟩
theorem wr(h:p:=by exact K.fin (V.one (V.cellN jA jS))):p:=h
theorem Hl(k:q)(h:Hk q→p:=by intro qk;refine R.fin [2,3] ?_;exact qk.h):p:=h ⟨k⟩
theorem AA9(h:p:=by exact K.fin (V.one V.tmp) ⟨by simp only [Gu,hp,ht7,ht14,ht23,ht27,Bool.not_true,Bool.false_eq_true,if_false,if_true];try rfl,rfl⟩):p:=h
theorem AAa(h:p:=by exact K.fin (V.two (V.cellN jA jS) V.tmp) ⟨by simp only [Wv,ht17,if_true,if_false,Bool.false_eq_true];rfl,rfl⟩):p:=h
theorem Gx(k:q)(h:Hk q→p:=by intro qk;refine AW.block ?_;exact qk.h):p:=h ⟨k⟩
theorem Mc(k:q)(h:Hk q→p:=by intro qk;refine R.fin [0,3] ?_;exact qk.h):p:=h ⟨k⟩
theorem AAb(h:p:=by exact K.fin (V.four V.tmp V.tmp V.tmp V.tmp) ⟨by simp only [K4,ht11,ht17,if_true,if_false,Bool.false_eq_true];try rfl,rfl⟩):p:=h
theorem AAc(h:p:=by exact K.fin (V.four V.tmp V.tmp V.tmp V.tmp) ⟨by simp only [Ov,ht18,ht23,if_true,if_false,Bool.false_eq_true];try rfl,rfl⟩):p:=h
theorem AAd(h:p:=by exact K.fin (V.four V.tmp V.tmp V.tmp V.tmp) ⟨by simp only [B5,ht6,ht17,ht28,if_true,if_false,Bool.false_eq_true],rfl⟩):p:=h
theorem mf(h:p:=by exact absurd h (by decide)):p:=h
theorem V2(h:p:=by exact Nat.zero_le _):p:=h
theorem L3(k:q)(h:Hk q→p:=by intro qk;refine R.alloc jZ ?_;exact qk.h):p:=h ⟨k⟩
theorem sb(k:q)(h:Hk q→p:=by intro qk;refine K.rdN (cd hL (Be (by decide)) (Be (by decide))) ?_;exact qk.h):p:=h ⟨k⟩
theorem Lo(k:q)(h:Hk q→p:=by intro qk;refine R.buildSlice jU jS jZ ?_;exact qk.h):p:=h ⟨k⟩
theorem V3(k:q)(h:Hk q→p:=by intro qk;refine R.build (places:=#[(0,1),(1,1)]) jU (fun w=>by simp) jZ ?_;exact qk.h):p:=h ⟨k⟩
theorem mg(h:p:=by exact ⟨hFRl,by simp [oid]⟩):p:=h
theorem mh(h:p:=by exact J9 (fun x hx=>ObjLow.le (by omega) (hlow x hx)) hOl x hx):p:=h
theorem mi(k:q)(h:Hk q→p:=by intro qk;refine K.lpN (x+1) hlt (by omega) ?_;exact qk.h):p:=h ⟨k⟩
theorem mj(k:q)(h:Hk q→p:=by intro qk;refine R.build (places:=#[(0,1),(1,1),(2,3),(5,1)]) jU (fun w=>by simp) jZ ?_;exact qk.h):p:=h ⟨k⟩
theorem Qa(k:q)(h:Hk q→p:=by intro qk;refine R.fin [0,1,2] ?_;exact qk.h):p:=h ⟨k⟩
theorem gw(k:q)(h:Hk q→p:=by intro qk;refine R.fin [2,6,13,14,15] ?_;exact qk.h):p:=h ⟨k⟩
theorem wt(h:p:=by exact K.fin (V.two V.tmp V.tmp) ⟨by rw [hk],rfl⟩):p:=h
theorem AAe(h:p:=by exact K.fin (V.two V.tmp V.tmp) ⟨by rw [hk,hk2],rfl⟩):p:=h
theorem gx(h:p:=by exact K.fin (V.one V.tmp) ⟨by rw [hm],rfl⟩):p:=h
theorem wu(h:p:=by exact K.fin (V.two V.tmp V.tmp) ⟨by rw [hm]<;>rfl,rfl⟩):p:=h
theorem AAf(h:p:=by exact K.fin (V.one V.tmp) ⟨by rw [hn];first|(simp only [ht22,ht25,ht33,ht41,ht41,ht50,ht58,hk3,hk6,Bool.true_or,Bool.false_or,Bool.or_true,Bool.or_false,if_true,if_false,Bool.false_eq_true,↓reduceIte]<;>rfl)|(simp only [ht22,ht25,ht33,ht41,ht41,ht50,ht58,hk3,Bool.true_or,Bool.false_or,Bool.or_true,if_true,if_false,Bool.false_eq_true,↓reduceIte]<;>rfl)|(simp only [ht22,ht25,ht33,ht41,ht41,ht50,ht58,if_true,if_false,Bool.false_eq_true,↓reduceIte]<;>rfl),rfl⟩):p:=h
theorem ml(h:p:=by exact K.fin (V.one V.tmp) ⟨by rw [hm]<;>rfl,rfl⟩):p:=h
theorem Sh(h:p:=by exact Rl _):p:=h
theorem gy(h:p:=by exact hcmp _ rfl rfl hf):p:=h
theorem mm(h:p:=by exact har _ rfl rfl rfl hf):p:=h
theorem AAg(h:p:=by exact ⟨(L0 _ _ _).trans hS,fun h=>absurd h (Hb (by decide) _)⟩):p:=h
theorem AAh(h:p:=by exact bad _ _ ((L0 _ _ _).trans hS) (Hb (by decide) _)):p:=h
theorem sc(h:p:=by exact fun h=>absurd h (Hb (by decide) _)):p:=h
theorem wv(h:p:=by exact ⟨by kernel_rfl,by decide +kernel,by decide +kernel⟩):p:=h
theorem ww(h:p:=by exact absurd hc (Hb (by decide) _)):p:=h
theorem Zj(h:p:=by exact ⟨(fun h=>by cases h),(fun h=>by cases h)⟩):p:=h
theorem wx(h:p:=by exact absurd h (by simpa using h1)):p:=h
theorem AAi(h:p:=by exact K.fin (V.two (V.cellN jA jS) V.tmp) ⟨by rw [hw];try rfl,rfl⟩):p:=h
theorem mn(h:p:=by exact K.fin (V.two (V.cellN jA jS) V.tmp) ⟨by rw [hm];try rfl,rfl⟩):p:=h
theorem AAj(h:p:=by exact K.fin (V.one (V.cellN jA jS)) ⟨by rw [hm];try rfl,rfl⟩):p:=h
theorem AAk(k:q)(h:Hk q→p:=by intro qk;refine Y.alloc (zs:=[A2 0,A2 0,A9 []]) (n:=1) (u:=Hp.length) Tryz.zeroValue63 (fun B hT hF hB=>⟨rfl,by simp [hB],by simp [upd,hB,hF 1 (by simp)],rfl⟩) ?_;exact qk.h):p:=h ⟨k⟩
theorem AAl(h:p:=by exact ⟨Nat.lt_succ_self i,hl.step hi (by rw [hk];decide)⟩):p:=h
theorem Zk(h:p:=by exact ⟨by omega,c2,c3⟩):p:=h
theorem Lp(h:p:=by exact D.end rfl rfl):p:=h
theorem sd(h:p:=by exact Y.endBot (Pt rfl)):p:=h
theorem wy(k:q)(h:Hk q→p:=by intro qk;refine RK.callBad Tryz.call74 (c74 L i o 8 _ (A6 ho) hi) ?_;exact qk.h):p:=h ⟨k⟩
theorem AAm(h:p:=by exact K.finPP ⟨_,_,by unfold Mx;rw [hT];rfl,rfl,j',m,bn hne hm⟩):p:=h
theorem AAn(h:p:=by exact (qo L i o _ (A6 (Ba ho hne)) hi hl hll).ok hT):p:=h
theorem mo(k:q)(h:Hk q→p:=by intro qk;refine AW.upEq (N2 ho hm).symm ?_;exact qk.h):p:=h ⟨k⟩
theorem AAo(k:q)(h:Hk q→p:=by intro qk;refine RK.callBad Tryz.call137 ((bo L m i o om (U2 L Hp o om i (mvO m)++[.cells 97 [.ptr o 0],.cells 159 [.ptr om 0]]) hne (A6 (Ba ho hne)) (A6 (Ck hm)) hi hl hll hb).bad h1) ?_;exact qk.h):p:=h ⟨k⟩
theorem mp(k:q)(h:Hk q→p:=by intro qk;refine R.fin [1,3,6,10,12,27,28,29] ?_;exact qk.h):p:=h ⟨k⟩
theorem wz(h:p:=by exact K.fin (V.one V.tmp) ⟨rfl,rfl⟩):p:=h
theorem AAp(h:p:=by exact K.fin (V.one (V.cellN jA jS)) ⟨by first|exact xz (by simp_all [Cs])|exact ot (by simp_all [Cs])|exact y6 (by simp_all [Cs]),rfl⟩):p:=h
theorem AAq(h:p:=by exact K.fin (V.one (V.cellN jA jS)) ⟨by first|exact ot (by simp_all [C9]),rfl⟩):p:=h
theorem AAr(h:p:=by exact K.fin (V.one V.tmp) ⟨by simp_all [Bi,Gk],rfl⟩):p:=h
theorem x5(h:p:=by exact K.fin (V.two V.tmp V.tmp) ⟨by rw [hm],rfl⟩):p:=h
end Go.SX.Nb
namespace Go.SX.Nb
open Go Go.SX Go.Proofs
@[reducible,instance] def JA2:=JA.mk (P:=Tryz.prog) Tryz.isAgg2
@[reducible,instance] def JA3:=JA.mk (P:=Tryz.prog) Tryz.isAgg3
@[reducible,instance] def JA4:=JA.mk (P:=Tryz.prog) Tryz.isAgg4
@[reducible,instance] def JA9:=JA.mk (P:=Tryz.prog) Tryz.isAgg9
@[reducible,instance] def AEq:=JA.mk (P:=Tryz.prog) Tryz.isAgg22
@[reducible,instance] def AEr:=JA.mk (P:=Tryz.prog) Tryz.isAgg26
@[reducible,instance] def AEs:=JA.mk (P:=Tryz.prog) Tryz.isAgg35
@[reducible,instance] def AEt:=JA.mk (P:=Tryz.prog) Tryz.isAgg36
@[reducible,instance] def AEu:=JA.mk (P:=Tryz.prog) Tryz.isAgg39
@[reducible,instance] def AEv:=JA.mk (P:=Tryz.prog) Tryz.isAgg48
@[reducible,instance] def AEw:=JA.mk (P:=Tryz.prog) Tryz.isAgg59
@[reducible,instance] def AEx:=JA.mk (P:=Tryz.prog) Tryz.isAgg63
@[reducible,instance] def AEy:=JA.mk (P:=Tryz.prog) Tryz.isAgg74
@[reducible,instance] def AEz:=JA.mk (P:=Tryz.prog) Tryz.isAgg75
@[reducible,instance] def AF0:=JA.mk (P:=Tryz.prog) Tryz.isAgg77
@[reducible,instance] def AF1:=JA.mk (P:=Tryz.prog) Tryz.isAgg92
@[reducible,instance] def AF2:=JA.mk (P:=Tryz.prog) Tryz.isAgg94
@[reducible,instance] def AF3:=JA.mk (P:=Tryz.prog) Tryz.isAgg97
@[reducible,instance] def AE5:=JA.mk (P:=Tryz.prog) Tryz.isAgg103
@[reducible,instance] def AE6:=JA.mk (P:=Tryz.prog) Tryz.isAgg130
@[reducible,instance] def AE7:=JA.mk (P:=Tryz.prog) Tryz.isAgg159
@[reducible,instance] def AE8:=JA.mk (P:=Tryz.prog) Tryz.isAgg178
@[reducible,instance] def AE9:=JA.mk (P:=Tryz.prog) Tryz.isAgg206
@[reducible,instance] def AEa:=JA.mk (P:=Tryz.prog) Tryz.isAgg250
@[reducible,instance] def JS2:=JS.mk (P:=Tryz.prog) Tryz.sizeOf2
@[reducible,instance] def JS3:=JS.mk (P:=Tryz.prog) Tryz.sizeOf3
@[reducible,instance] def JS4:=JS.mk (P:=Tryz.prog) Tryz.sizeOf4
@[reducible,instance] def JS9:=JS.mk (P:=Tryz.prog) Tryz.sizeOf9
@[reducible,instance] def AF4:=JS.mk (P:=Tryz.prog) Tryz.sizeOf22
@[reducible,instance] def AF5:=JS.mk (P:=Tryz.prog) Tryz.sizeOf26
@[reducible,instance] def AF6:=JS.mk (P:=Tryz.prog) Tryz.sizeOf35
@[reducible,instance] def AF7:=JS.mk (P:=Tryz.prog) Tryz.sizeOf36
@[reducible,instance] def AF8:=JS.mk (P:=Tryz.prog) Tryz.sizeOf39
@[reducible,instance] def AF9:=JS.mk (P:=Tryz.prog) Tryz.sizeOf48
@[reducible,instance] def AFa:=JS.mk (P:=Tryz.prog) Tryz.sizeOf59
@[reducible,instance] def AFb:=JS.mk (P:=Tryz.prog) Tryz.sizeOf63
@[reducible,instance] def AFc:=JS.mk (P:=Tryz.prog) Tryz.sizeOf74
@[reducible,instance] def AFd:=JS.mk (P:=Tryz.prog) Tryz.sizeOf75
@[reducible,instance] def AFe:=JS.mk (P:=Tryz.prog) Tryz.sizeOf77
@[reducible,instance] def AFf:=JS.mk (P:=Tryz.prog) Tryz.sizeOf92
@[reducible,instance] def AFg:=JS.mk (P:=Tryz.prog) Tryz.sizeOf94
@[reducible,instance] def AEb:=JS.mk (P:=Tryz.prog) Tryz.sizeOf103
@[reducible,instance] def AEc:=JS.mk (P:=Tryz.prog) Tryz.sizeOf130
@[reducible,instance] def AEd:=JS.mk (P:=Tryz.prog) Tryz.sizeOf178
@[reducible,instance] def AEe:=JS.mk (P:=Tryz.prog) Tryz.sizeOf206
@[reducible,instance] def JU2:=JU.mk (P:=Tryz.prog) Tryz.underlying2
@[reducible,instance] def JU3:=JU.mk (P:=Tryz.prog) Tryz.underlying3
@[reducible,instance] def JU4:=JU.mk (P:=Tryz.prog) Tryz.underlying4
@[reducible,instance] def JU5:=JU.mk (P:=Tryz.prog) Tryz.underlying5
@[reducible,instance] def JU9:=JU.mk (P:=Tryz.prog) Tryz.underlying9
@[reducible,instance] def AFh:=JU.mk (P:=Tryz.prog) Tryz.underlying20
@[reducible,instance] def AFi:=JU.mk (P:=Tryz.prog) Tryz.underlying22
@[reducible,instance] def AFj:=JU.mk (P:=Tryz.prog) Tryz.underlying35
@[reducible,instance] def AFk:=JU.mk (P:=Tryz.prog) Tryz.underlying36
@[reducible,instance] def AFl:=JU.mk (P:=Tryz.prog) Tryz.underlying38
@[reducible,instance] def AFm:=JU.mk (P:=Tryz.prog) Tryz.underlying39
@[reducible,instance] def AFn:=JU.mk (P:=Tryz.prog) Tryz.underlying48
@[reducible,instance] def AFo:=JU.mk (P:=Tryz.prog) Tryz.underlying59
@[reducible,instance] def AFp:=JU.mk (P:=Tryz.prog) Tryz.underlying63
@[reducible,instance] def AFq:=JU.mk (P:=Tryz.prog) Tryz.underlying74
@[reducible,instance] def AFr:=JU.mk (P:=Tryz.prog) Tryz.underlying75
@[reducible,instance] def AFs:=JU.mk (P:=Tryz.prog) Tryz.underlying77
@[reducible,instance] def AFt:=JU.mk (P:=Tryz.prog) Tryz.underlying92
@[reducible,instance] def AFu:=JU.mk (P:=Tryz.prog) Tryz.underlying94
@[reducible,instance] def AFv:=JU.mk (P:=Tryz.prog) Tryz.underlying99
@[reducible,instance] def AEf:=JU.mk (P:=Tryz.prog) Tryz.underlying103
@[reducible,instance] def AEg:=JU.mk (P:=Tryz.prog) Tryz.underlying130
@[reducible,instance] def AEh:=JU.mk (P:=Tryz.prog) Tryz.underlying178
@[reducible,instance] def AEi:=JU.mk (P:=Tryz.prog) Tryz.underlying206
@[reducible,instance] def AEj:=JU.mk (P:=Tryz.prog) Tryz.underlying252
@[reducible,instance] def AEk:=JU.mk (P:=Tryz.prog) Tryz.underlying274
@[reducible,instance] def JZ3:=JZ.mk (P:=Tryz.prog) Tryz.zeroValue3
@[reducible,instance] def JZ4:=JZ.mk (P:=Tryz.prog) Tryz.zeroValue4
@[reducible,instance] def JZ9:=JZ.mk (P:=Tryz.prog) Tryz.zeroValue9
@[reducible,instance] def AFw:=JZ.mk (P:=Tryz.prog) Tryz.zeroValue22
@[reducible,instance] def AFx:=JZ.mk (P:=Tryz.prog) Tryz.zeroValue26
@[reducible,instance] def AFy:=JZ.mk (P:=Tryz.prog) Tryz.zeroValue35
@[reducible,instance] def AFz:=JZ.mk (P:=Tryz.prog) Tryz.zeroValue36
@[reducible,instance] def AG0:=JZ.mk (P:=Tryz.prog) Tryz.zeroValue39
@[reducible,instance] def AG1:=JZ.mk (P:=Tryz.prog) Tryz.zeroValue48
@[reducible,instance] def AG2:=JZ.mk (P:=Tryz.prog) Tryz.zeroValue59
@[reducible,instance] def AG3:=JZ.mk (P:=Tryz.prog) Tryz.zeroValue63
@[reducible,instance] def AG4:=JZ.mk (P:=Tryz.prog) Tryz.zeroValue77
@[reducible,instance] def AG5:=JZ.mk (P:=Tryz.prog) Tryz.zeroValue94
@[reducible,instance] def AG6:=JZ.mk (P:=Tryz.prog) Tryz.zeroValue99
@[reducible,instance] def AEl:=JZ.mk (P:=Tryz.prog) Tryz.zeroValue103
@[reducible,instance] def AEm:=JZ.mk (P:=Tryz.prog) Tryz.zeroValue130
@[reducible,instance] def AEn:=JZ.mk (P:=Tryz.prog) Tryz.zeroValue178
@[reducible,instance] def AEo:=JZ.mk (P:=Tryz.prog) Tryz.zeroValue206
@[reducible,instance] def AEp:=JZ.mk (P:=Tryz.prog) Tryz.zeroValue252
end Go.SX.Nb
