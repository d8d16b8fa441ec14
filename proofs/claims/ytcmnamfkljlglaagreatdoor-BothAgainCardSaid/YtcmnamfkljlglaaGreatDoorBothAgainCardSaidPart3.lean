/- On the way (part 3). -/
import Derived.Test.YtcmnamfkljlglaaGreatDoorProg
import Derived.Test.YtcmnamfkljlglaaGreatDoorBothAgainCardSaidPart2
set_option linter.all false
namespace Go.SX.Nb
open Go Go.SX Go.Proofs
structure Hk (q:Prop):Prop where h:q
variable {p q:Prop}
theorem Z0(k:q)(h:Hk q→p:=by intro qk;refine Ds ?_;refine A2 ?_;exact qk.h):p:=h ⟨k⟩
theorem Z1(k:q)(h:Hk q→p:=by intro qk;refine A2 ?_;refine A2 ?_;exact qk.h):p:=h ⟨k⟩
theorem Z3(k:q)(h:Hk q→p:=by intro qk;refine Z0 ?_;refine A2 ?_;exact qk.h):p:=h ⟨k⟩
theorem Z4(k:q)(h:Hk q→p:=by intro qk;refine A0 [2] ?_;refine Ei ?_;exact qk.h):p:=h ⟨k⟩
theorem Z5(k:q)(h:Hk q→p:=by intro qk;refine K.blR ?_;refine Bn ?_;exact qk.h):p:=h ⟨k⟩
theorem Z8(k:q)(h:Hk q→p:=by intro qk;refine Z0 ?_;refine Z1 ?_;exact qk.h):p:=h ⟨k⟩
theorem Z9(k:q)(h:Hk q→p:=by intro qk;refine AW.skip ?_;refine E4 ?_;exact qk.h):p:=h ⟨k⟩
theorem Z10(k:q)(h:Hk q→p:=by intro qk;refine A0 [4,5] ?_;refine Ei ?_;exact qk.h):p:=h ⟨k⟩
theorem Z11(k:q)(h:Hk q→p:=by intro qk;refine Bk ?_;refine Bk ?_;exact qk.h):p:=h ⟨k⟩
theorem Z12(k:q)(h:Hk q→p:=by intro qk;refine Gq ?_;refine A2 ?_;exact qk.h):p:=h ⟨k⟩
theorem Z13(k:q)(h:Hk q→p:=by intro qk;refine Gq ?_;refine Z4 ?_;exact qk.h):p:=h ⟨k⟩
theorem Z14(k:q)(h:Hk q→p:=by intro qk;refine K.blN ?_;refine E4 ?_;exact qk.h):p:=h ⟨k⟩
theorem Z15(h:p:=by refine Z5 ?_;exact al):p:=h
theorem Z16(k:q)(h:Hk q→p:=by intro qk;refine Ak ?_;refine Ak ?_;exact qk.h):p:=h ⟨k⟩
theorem Z17(k:q)(h:Hk q→p:=by intro qk;refine A0 [4] ?_;refine Ei ?_;exact qk.h):p:=h ⟨k⟩
theorem Z18(k:q)(h:Hk q→p:=by intro qk;refine AW.skip ?_;refine Z14 ?_;exact qk.h):p:=h ⟨k⟩
theorem Z19(h:p:=by refine Bn ?_;exact Xs):p:=h
theorem Z20(k:q)(h:Hk q→p:=by intro qk;refine Ji ?_;refine Z1 ?_;exact qk.h):p:=h ⟨k⟩
theorem Z21(k:q)(h:Hk q→p:=by intro qk;refine Ds ?_;refine Pf ?_;refine Ju (places:=#[(0,1),(1,1)]) jU (fun w=>by simp) jZ ?_;exact qk.h):p:=h ⟨k⟩
theorem Z22(k:q)(h:Hk q→p:=by intro qk;refine Gp ?_;refine G9 ?_;exact qk.h):p:=h ⟨k⟩
theorem Z24(h:p:=by refine Bn ?_;exact al):p:=h
theorem Z25(k:q)(h:Hk q→p:=by intro qk;refine Gp ?_;refine Z8 ?_;exact qk.h):p:=h ⟨k⟩
theorem Z26(k:q)(h:Hk q→p:=by intro qk;refine A0 [6,7] ?_;refine Ei ?_;exact qk.h):p:=h ⟨k⟩
theorem Z27(k:q)(h:Hk q→p:=by intro qk;refine Z21 ?_;refine Z13 ?_;exact qk.h):p:=h ⟨k⟩
theorem Z28(k:q)(h:Hk q→p:=by intro qk;refine Gp ?_;refine Z3 ?_;exact qk.h):p:=h ⟨k⟩
theorem Z29(k:q)(h:Hk q→p:=by intro qk;refine K.lpE ?_;refine E4 ?_;exact qk.h):p:=h ⟨k⟩
theorem Z30(k:q)(h:Hk q→p:=by intro qk;refine A2 ?_;refine Hj jZ ?_;exact qk.h):p:=h ⟨k⟩
theorem Z31(k:q)(h:Hk q→p:=by intro qk;refine Z8 ?_;refine A2 ?_;exact qk.h):p:=h ⟨k⟩
theorem Z32(k:q)(h:Hk q→p:=by intro qk;refine Z5 ?_;refine K.lpR ?_;exact qk.h):p:=h ⟨k⟩
theorem Z33(k:q)(h:Hk q→p:=by intro qk;refine Z12 ?_;refine Z10 ?_;exact qk.h):p:=h ⟨k⟩
theorem Z35(k:q)(h:Hk q→p:=by intro qk;refine A7 Tryz.call104 (pm _ _) ?_;refine Z1 ?_;exact qk.h):p:=h ⟨k⟩
theorem Z36(h:p:=by refine Z5 ?_;exact A5 (Aa A4) ⟨by rw [hn];first|(simp only [ht22,ht25,ht33,ht41,ht41,hk3,hk6,Fk,Df,F3,Jp,if_true,if_false,Cp,↓reduceIte]<;>rfl)|(simp only [ht22,ht25,ht33,ht41,ht41,hk3,Fk,Df,F3,if_true,if_false,Cp,↓reduceIte]<;>rfl)|(simp only [ht22,ht25,ht33,ht41,ht41,if_true,if_false,Cp,↓reduceIte]<;>rfl),rfl⟩):p:=h
theorem Z37(k:q)(h:Hk q→p:=by intro qk;refine Z1 ?_;refine A2 ?_;exact qk.h):p:=h ⟨k⟩
theorem Z38(h:p:=by refine Bn ?_;exact jb):p:=h
theorem Z39(h:p:=by refine Z5 ?_;exact mf):p:=h
theorem Z40(k:q)(h:Hk q→p:=by intro qk;refine Gp ?_;refine Z0 ?_;exact qk.h):p:=h ⟨k⟩
theorem Z41(k:q)(h:Hk q→p:=by intro qk;refine Z0 ?_;refine A0 [0,1] ?_;exact qk.h):p:=h ⟨k⟩
theorem Z42(k:q)(h:Hk q→p:=by intro qk;refine Z11 ?_;refine Z11 ?_;exact qk.h):p:=h ⟨k⟩
theorem Z43(h:p:=by refine Z33 ?_;exact al):p:=h
theorem Z44(k:q)(h:Hk q→p:=by intro qk;refine Ds ?_;refine Hj jZ ?_;exact qk.h):p:=h ⟨k⟩
theorem Z45(k:q)(h:Hk q→p:=by intro qk;refine Bk ?_;refine Z1 ?_;exact qk.h):p:=h ⟨k⟩
theorem Z46(k:q)(h:Hk q→p:=by intro qk;refine mc ?_;refine Y.storeOwnT (u:=Hp.length) (n:=1) (t':=44) (cs:=[A3 0,A3 0,Am []]) (cs':=[A3 (Aj ra).1.kind,A3 (Aj ra).1.n,Am (Aj ra).1.s]) Tryz.sizeOf44 (fun B hT hF hB=>⟨rfl,by simp [hT 0 (by simp),hB],by simp [upd,hT 0 (by simp),hB],rfl⟩) ?_;exact qk.h):p:=h ⟨k⟩
theorem Z47(k:q)(h:Hk q→p:=by intro qk;refine A0 [6] ?_;refine Ei ?_;exact qk.h):p:=h ⟨k⟩
theorem Z48(h:p:=by refine Z27 ?_;refine Z5 ?_;exact me):p:=h
theorem Z49(k:q)(h:Hk q→p:=by intro qk;refine Z0 ?_;refine A0 [0] ?_;exact qk.h):p:=h ⟨k⟩
theorem Z50(k:q)(h:Hk q→p:=by intro qk;refine Z18 ?_;refine Z20 ?_;exact qk.h):p:=h ⟨k⟩
theorem Z51(k:q)(h:Hk q→p:=by intro qk;refine Z0 ?_;refine Z4 ?_;exact qk.h):p:=h ⟨k⟩
theorem Z52(k:q)(h:Hk q→p:=by intro qk;refine Z16 ?_;refine Ak ?_;exact qk.h):p:=h ⟨k⟩
theorem Z53(k:q)(h:Hk q→p:=by intro qk;refine Z32 ?_;refine Bn ?_;exact qk.h):p:=h ⟨k⟩
theorem Z54(k:q)(h:Hk q→p:=by intro qk;refine Z0 ?_;refine Z17 ?_;exact qk.h):p:=h ⟨k⟩
theorem Z56(k:q)(h:Hk q→p:=by intro qk;refine Z0 ?_;refine mg ?_;exact qk.h):p:=h ⟨k⟩
theorem Z57(k:q)(h:Hk q→p:=by intro qk;refine Z30 ?_;refine Gq ?_;exact qk.h):p:=h ⟨k⟩
theorem Z59(k:q)(h:Hk q→p:=by intro qk;refine Gp ?_;refine Ds ?_;exact qk.h):p:=h ⟨k⟩
theorem Z60(k:q)(h:Hk q→p:=by intro qk;refine Z1 ?_;refine Z4 ?_;exact qk.h):p:=h ⟨k⟩
theorem Z61(h:p:=by refine Z33 ?_;exact Z15):p:=h
theorem Z62(k:q)(h:Hk q→p:=by intro qk;refine A2 ?_;refine Pf ?_;exact qk.h):p:=h ⟨k⟩
theorem Z63(k:q)(h:Hk q→p:=by intro qk;refine Z16 ?_;refine F6 ?_;exact qk.h):p:=h ⟨k⟩
theorem Z64(k:q)(h:Hk q→p:=by intro qk;refine AW.exit ?_;refine K.thE ?_;exact qk.h):p:=h ⟨k⟩
theorem Z65(k:q)(h:Hk q→p:=by intro qk;refine Z22 ?_;refine Ds ?_;exact qk.h):p:=h ⟨k⟩
theorem Z66(k:q)(h:Hk q→p:=by intro qk;refine Z3 ?_;refine A0 [2,18] ?_;exact qk.h):p:=h ⟨k⟩
theorem Z67(h:p:=by refine Z27 ?_;refine Z5 ?_;exact md):p:=h
theorem Z69(k:q)(h:Hk q→p:=by intro qk;refine H.go ?_;refine H.go ?_;exact qk.h):p:=h ⟨k⟩
theorem Z70(k:q)(h:Hk q→p:=by intro qk;refine A2 ?_;refine Gq ?_;exact qk.h):p:=h ⟨k⟩
theorem Z71(h:p:=by refine A0 [0,1,7,8] ?_;exact B0 (x+1) ⟨hlt,Ce hlt hx.2 ht16⟩ (by omega) (Dn rfl)):p:=h
theorem Z72(k:q)(h:Hk q→p:=by intro qk;refine Z3 ?_;refine A0 [2,3,9] ?_;exact qk.h):p:=h ⟨k⟩
theorem Z73(k:q)(h:Hk q→p:=by intro qk;refine Z11 ?_;refine Z45 ?_;exact qk.h):p:=h ⟨k⟩
theorem Z74(k:q)(h:Hk q→p:=by intro qk;refine Z1 ?_;refine Z37 ?_;exact qk.h):p:=h ⟨k⟩
theorem Z75(h:p:=by refine Z5 ?_;exact m5):p:=h
theorem Z77(h:p:=by refine Z18 ?_;refine Z21 ?_;refine Z13 ?_;exact me):p:=h
theorem Z78(k:q)(h:Hk q→p:=by intro qk;refine Z14 ?_;refine Z20 ?_;exact qk.h):p:=h ⟨k⟩
theorem Z79(h:p:=by refine Z32 ?_;exact Z19):p:=h
theorem Z80(k:q)(h:Hk q→p:=by intro qk;refine A2 ?_;refine Z26 ?_;exact qk.h):p:=h ⟨k⟩
theorem Z81(k:q)(h:Hk q→p:=by intro qk;refine Z12 ?_;refine Z26 ?_;exact qk.h):p:=h ⟨k⟩
theorem Z82(k:q)(h:Hk q→p:=by intro qk;refine Z3 ?_;refine Z10 ?_;exact qk.h):p:=h ⟨k⟩
theorem Z83(h:p:=by refine Z54 ?_;exact A5 (Aa A4) ⟨by rw [Vk (H4 hxe hx.2)],rfl⟩):p:=h
theorem Z84(k:q)(h:Hk q→p:=by intro qk;refine A0 [2,3] ?_;refine Ei ?_;exact qk.h):p:=h ⟨k⟩
theorem Z85(h:p:=by refine Z54 ?_;exact Xs):p:=h
theorem Z86(k:q)(h:Hk q→p:=by intro qk;refine Bk ?_;refine A2 ?_;exact qk.h):p:=h ⟨k⟩
theorem Z87(h:p:=by refine Z4 ?_;exact A5 (Aa A4) ⟨rfl,rfl⟩ (hlow:=by simp [or_imp,forall_and];exact ⟨fun m _ a _=>C0 _ a,fun m _ a _=>C0 _ a⟩)):p:=h
theorem Z88(k:q)(h:Hk q→p:=by intro qk;refine R.nilTmp 6 3 false ?_;refine Z80 ?_;exact qk.h):p:=h ⟨k⟩
theorem Z89(h:p:=by refine Z53 ?_;exact A5 (Aa A4) ⟨by rw [cp hlt ht16 hx.2],rfl⟩):p:=h
theorem Z90(k:q)(h:Hk q→p:=by intro qk;refine Ji ?_;refine R.moveT ?_;exact qk.h):p:=h ⟨k⟩
theorem Z91(k:q)(h:Hk q→p:=by intro qk;refine Ds ?_;refine Z35 ?_;exact qk.h):p:=h ⟨k⟩
theorem Z92(h:p:=by refine Z17 ?_;exact A5 (Aa A4) ⟨by rw [←Yd];try rfl,rfl⟩):p:=h
theorem Z93(k:q)(h:Hk q→p:=by intro qk;refine Z25 ?_;refine A2 ?_;exact qk.h):p:=h ⟨k⟩
theorem Z94(k:q)(h:Hk q→p:=by intro qk;refine Cm [0,0,2,6,14,31,63,63,255,511] 8 Aq (by kernel_rfl) ?_;refine Z52 ?_;exact qk.h):p:=h ⟨k⟩
theorem Z95(k:q)(h:Hk q→p:=by intro qk;refine Ds ?_;refine eu ?_;exact qk.h):p:=h ⟨k⟩
theorem Z96(k:q)(h:Hk q→p:=by intro qk;refine G9 ?_;refine Z3 ?_;exact qk.h):p:=h ⟨k⟩
theorem Z97(k:q)(h:Hk q→p:=by intro qk;refine D.buildLe (Mz ⟨[],(Bv c l row).1.new,false,true⟩) (kn _) (places:=#[(0,1),(1,1),(2,1),(3,1)]) jU (fun w=>by simp) Tryz.zeroValue30 ?_;refine Ak ?_;exact qk.h):p:=h ⟨k⟩
theorem Z98(k:q)(h:Hk q→p:=by intro qk;refine Z22 ?_;refine Z8 ?_;exact qk.h):p:=h ⟨k⟩
theorem Z99(k:q)(h:Hk q→p:=by intro qk;refine Ds ?_;refine R.moveT ?_;exact qk.h):p:=h ⟨k⟩
theorem Xf(k:q)(h:Hk q→p:=by intro qk;refine Hj jZ ?_;refine Gq ?_;exact qk.h):p:=h ⟨k⟩
theorem Lp(k:q)(h:Hk q→p:=by intro qk;refine Z1 ?_;refine Z1 ?_;exact qk.h):p:=h ⟨k⟩
theorem kw(k:q)(h:Hk q→p:=by intro qk;refine Y.tail (tn:=[9,10]) (O:=[.cells 44 [A3 0,A3 0,Am []],.cells 44 [A3 (Aj ra).1.kind,A3 (Aj ra).1.n,Am (Aj ra).1.s]]) ?_;refine A2 ?_;exact qk.h):p:=h ⟨k⟩
theorem Zz(k:q)(h:Hk q→p:=by intro qk;refine Hj jZ ?_;refine A2 ?_;exact qk.h):p:=h ⟨k⟩
theorem j5(h:p:=by refine Z10 ?_;exact jc):p:=h
theorem Nu(k:q)(h:Hk q→p:=by intro qk;refine Z22 ?_;refine Z0 ?_;exact qk.h):p:=h ⟨k⟩
theorem Nv(k:q)(h:Hk q→p:=by intro qk;refine Z1 ?_;refine Z11 ?_;exact qk.h):p:=h ⟨k⟩
theorem Rb(k:q)(h:Hk q→p:=by intro qk;refine Z47 ?_;refine Bn ?_;exact qk.h):p:=h ⟨k⟩
theorem Pa(k:q)(h:Hk q→p:=by intro qk;refine Z9 ?_;refine Z0 ?_;exact qk.h):p:=h ⟨k⟩
theorem ee(h:p:=by refine Z52 ?_;exact D.end rfl rfl):p:=h
theorem Sf(k:q)(h:Hk q→p:=by intro qk;refine Z3 ?_;refine A0 [1] ?_;exact qk.h):p:=h ⟨k⟩
theorem j6(h:p:=by refine Z51 ?_;exact Xs):p:=h
theorem Pb(k:q)(h:Hk q→p:=by intro qk;refine Z64 ?_;refine Z29 ?_;exact qk.h):p:=h ⟨k⟩
theorem Un(k:q)(h:Hk q→p:=by intro qk;refine Z3 ?_;refine A0 [0,1] ?_;exact qk.h):p:=h ⟨k⟩
theorem Xg(k:q)(h:Hk q→p:=by intro qk;refine Z22 ?_;refine Z3 ?_;exact qk.h):p:=h ⟨k⟩
theorem aa(k:q)(h:Hk q→p:=by intro qk;refine Xg ?_;refine A0 [0,1,5,7,8] ?_;exact qk.h):p:=h ⟨k⟩
theorem kx(k:q)(h:Hk q→p:=by intro qk;refine Ds ?_;refine mg ?_;exact qk.h):p:=h ⟨k⟩
theorem ky(h:p:=by refine Z17 ?_;exact A5 (Aa A4) ⟨by first|(rw [hgy hf];rfl)|(rw [hgv hf];rfl),rfl⟩):p:=h
theorem ac(k:q)(h:Hk q→p:=by intro qk;refine Z0 ?_;refine A0 [0,1,7,8,9] ?_;exact qk.h):p:=h ⟨k⟩
theorem ef(h:p:=by refine Z17 ?_;exact Xq):p:=h
theorem eg(h:p:=by refine Z60 ?_;exact Xq):p:=h
theorem Pc(k:q)(h:Hk q→p:=by intro qk;refine Z9 ?_;refine Z40 ?_;exact qk.h):p:=h ⟨k⟩
theorem eh(k:q)(h:Hk q→p:=by intro qk;refine Z31 ?_;refine Z10 ?_;exact qk.h):p:=h ⟨k⟩
theorem kz(h:p:=by refine B0 (x+1) ⟨hlt,Ce hlt hx.2 ht19⟩ (by omega) ?_;exact Dn (by simp)):p:=h
theorem ae(k:q)(h:Hk q→p:=by intro qk;refine Z41 ?_;refine Z25 ?_;exact qk.h):p:=h ⟨k⟩
theorem af(k:q)(h:Hk q→p:=by intro qk;refine ae ?_;refine A0 [0,1,7,8] ?_;exact qk.h):p:=h ⟨k⟩
theorem Xh(k:q)(h:Hk q→p:=by intro qk;refine Z44 ?_;refine A0 [0,2] ?_;exact qk.h):p:=h ⟨k⟩
theorem Pd(k:q)(h:Hk q→p:=by intro qk;refine Z9 ?_;refine Z3 ?_;exact qk.h):p:=h ⟨k⟩
theorem Xi(h:p:=by refine eh ?_;refine Z5 ?_;exact m9):p:=h
theorem Pe(k:q)(h:Hk q→p:=by intro qk;refine Z9 ?_;refine Z8 ?_;exact qk.h):p:=h ⟨k⟩
theorem Sg(k:q)(h:Hk q→p:=by intro qk;refine Z1 ?_;refine Z42 ?_;exact qk.h):p:=h ⟨k⟩
theorem Xj(h:p:=by refine Z60 ?_;exact Z39):p:=h
theorem Xk(k:q)(h:Hk q→p:=by intro qk;refine Ji ?_;refine A2 ?_;exact qk.h):p:=h ⟨k⟩
theorem l3(k:q)(h:Hk q→p:=by intro qk;refine Z1 ?_;refine Z30 ?_;exact qk.h):p:=h ⟨k⟩
theorem Uo(k:q)(h:Hk q→p:=by intro qk;refine l3 ?_;refine Z12 ?_;exact qk.h):p:=h ⟨k⟩
theorem l4(h:p:=by refine Bn ?_;exact A5 (Aa A4) ⟨by rw [mi (by simpa using ht10)],rfl⟩):p:=h
theorem Xl(h:p:=by refine Z54 ?_;exact Z19):p:=h
theorem Xm(h:p:=by refine Z33 ?_;exact Z24):p:=h
theorem l5(h:p:=by refine Z81 ?_;exact al):p:=h
theorem Up(k:q)(h:Hk q→p:=by intro qk;refine Z60 ?_;refine Z5 ?_;exact qk.h):p:=h ⟨k⟩
theorem Sh(k:q)(h:Hk q→p:=by intro qk;refine Z16 ?_;refine Z16 ?_;exact qk.h):p:=h ⟨k⟩
theorem Si(k:q)(h:Hk q→p:=by intro qk;refine Z8 ?_;refine Z11 ?_;exact qk.h):p:=h ⟨k⟩
theorem Xn(k:q)(h:Hk q→p:=by intro qk;refine Ds ?_;refine R.box ?_;exact qk.h):p:=h ⟨k⟩
theorem l6(h:p:=by refine Z51 ?_;exact mf):p:=h
theorem ag(k:q)(h:Hk q→p:=by intro qk;refine A2 ?_;refine Mw ?_;exact qk.h):p:=h ⟨k⟩
theorem l7(h:p:=by refine B0 (x+1) ⟨hlt,hn⟩ (by omega) ?_;exact Dn (by simp)):p:=h
theorem l8(h:p:=by refine Z5 ?_;exact m6):p:=h
theorem l9(h:p:=by refine Z5 ?_;exact A5 (Az A4 A4) ⟨by simp_all [Yi],rfl⟩):p:=h
theorem la(h:p:=by refine Z5 ?_;exact jb):p:=h
theorem Uq(k:q)(h:Hk q→p:=by intro qk;refine Z11 ?_;refine A2 ?_;exact qk.h):p:=h ⟨k⟩
theorem lb(h:p:=by refine Z13 ?_;exact A5 (Aa (Eb jA jS)) ⟨by simp [ht5],rfl⟩):p:=h
theorem lc(h:p:=by refine Bn ?_;exact A5 (Aa A4) ⟨by rw [hx.eq,hw],rfl⟩):p:=h
theorem ld(h:p:=by refine Z53 ?_;exact A5 (Az A4 A4) ⟨by rw [hbad],rfl⟩):p:=h
theorem lf(h:p:=by refine Z5 ?_;exact A5 (Az A4 A4) ⟨by rw [hk,hk2],rfl⟩):p:=h
theorem lg(h:p:=by refine Bn ?_;exact ew):p:=h
theorem lh(h:p:=by refine Up ?_;exact ew):p:=h
theorem Ur(k:q)(h:Hk q→p:=by intro qk;refine Z30 ?_;refine Z70 ?_;exact qk.h):p:=h ⟨k⟩
theorem ai(k:q)(h:Hk q→p:=by intro qk;refine Jy 6 2 ?_;refine Z80 ?_;exact qk.h):p:=h ⟨k⟩
theorem li(h:p:=by refine Bn ?_;exact jc):p:=h
theorem Us(k:q)(h:Hk q→p:=by intro qk;refine Z44 ?_;refine A2 ?_;exact qk.h):p:=h ⟨k⟩
theorem j7(h:p:=by refine Z4 ?_;exact Xq):p:=h
theorem lj(k:q)(h:Hk q→p:=by intro qk;refine Cm [0,1,3,7,15,3,35,99,255,511,1023] 8 Aq (by kernel_rfl) ?_;refine Z16 ?_;exact qk.h):p:=h ⟨k⟩
theorem ll(h:p:=by refine Z5 ?_;exact jc):p:=h
theorem j8(k:q)(h:Hk q→p:=by intro qk;refine Pa ?_;refine A7 Tryz.call20 (c20 row hrl _) ?_;exact qk.h):p:=h ⟨k⟩
theorem lm(h:p:=by refine Cl Tryz.call148 (nk c l k0 ra ha _) ?_;exact ee):p:=h
theorem Ut(k:q)(h:Hk q→p:=by intro qk;refine Z49 ?_;refine Z25 ?_;exact qk.h):p:=h ⟨k⟩
theorem ej(k:q)(h:Hk q→p:=by intro qk;refine Z1 ?_;refine A7 Tryz.call161 (pq _ _ _) ?_;refine Z1 ?_;exact qk.h):p:=h ⟨k⟩
theorem ln(k:q)(h:Hk q→p:=by intro qk;refine Ju (places:=#[(0,1),(1,1),(2,1),(3,1)]) jU (fun w=>by simp) jZ ?_;refine Z81 ?_;exact qk.h):p:=h ⟨k⟩
theorem Xo(k:q)(h:Hk q→p:=by intro qk;refine Z51 ?_;refine Z53 ?_;exact qk.h):p:=h ⟨k⟩
theorem lq(k:q)(h:Hk q→p:=by intro qk;refine Br Tryz.call125 (fun hB=>o8 e.text Jd hs (by decide) _) ?_;refine Sg ?_;exact qk.h):p:=h ⟨k⟩
theorem ek(k:q)(h:Hk q→p:=by intro qk;refine A2 ?_;refine A0 [0,1,5] ?_;exact qk.h):p:=h ⟨k⟩
theorem lr(h:p:=by refine Z4 ?_;exact Xs):p:=h
theorem el(k:q)(h:Hk q→p:=by intro qk;refine Z3 ?_;refine A0 [2,3,18] ?_;exact qk.h):p:=h ⟨k⟩
theorem Uu(k:q)(h:Hk q→p:=by intro qk;refine Z9 ?_;refine Z25 ?_;exact qk.h):p:=h ⟨k⟩
theorem ls(h:p:=by refine Bn ?_;exact A5 (Aa A4) ⟨rfl,rfl⟩):p:=h
theorem en(k:q)(h:Hk q→p:=by intro qk;refine Zz ?_;refine A0 [2,3,4] ?_;exact qk.h):p:=h ⟨k⟩
theorem eo(h:p:=by refine Z18 ?_;refine Z27 ?_;exact md):p:=h
theorem ep(h:p:=by refine Z51 ?_;exact Z19):p:=h
theorem lu(h:p:=by refine Z4 ?_;exact A5 (Aa A4) ⟨by simp,rfl⟩):p:=h
theorem er(h:p:=by refine ej ?_;refine Z81 ?_;refine Z5 ?_;exact ma):p:=h
theorem lv(k:q)(h:Hk q→p:=by intro qk;refine Z0 ?_;refine eu ?_;exact qk.h):p:=h ⟨k⟩
theorem lw(k:q)(h:Hk q→p:=by intro qk;refine Cm [0,0,3,7,0,0,48,112,255] 8 Aq (by kernel_rfl) ?_;refine Z16 ?_;exact qk.h):p:=h ⟨k⟩
theorem lx(k:q)(h:Hk q→p:=by intro qk;refine Z16 ?_;refine D.build (places:=#[(0,1),(1,1),(2,1)]) jU (fun w=>by simp) jZ ?_;exact qk.h):p:=h ⟨k⟩
theorem lz(k:q)(h:Hk q→p:=by intro qk;refine A7 Tryz.call9 (c9 c hc hc2 l h (Bv c l row).1.new hPr hPl _) ?_;refine Uo ?_;exact qk.h):p:=h ⟨k⟩
theorem m0(k:q)(h:Hk q→p:=by intro qk;refine Cl Tryz.call12 (c12 (Bw c l (Bv c l row).1.new).1 true _) ?_;refine F6 ?_;refine A7 Tryz.call11 (c11 ⟨[],(Bv c l row).1.new,false,true⟩ (H8 (Bw c l (Bv c l row).1.new).1 true) (by simp) hPl _) ?_;exact qk.h):p:=h ⟨k⟩
theorem Xp(k:q)(h:Hk q→p:=by intro qk;refine Z3 ?_;refine Z17 ?_;exact qk.h):p:=h ⟨k⟩
theorem m3(h:p:=by refine Z4 ?_;exact A5 (Aa A4) ⟨rfl,rfl⟩):p:=h
theorem m4(k:q)(h:Hk q→p:=by intro qk;refine Cm [0,0,0,7,15,15,63,127] 6 Aq (by kernel_rfl) ?_;refine Z16 ?_;exact qk.h):p:=h ⟨k⟩
theorem et(h:p:=by exact ⟨rfl,Below.refl _ _⟩):p:=h
theorem Xq(h:p:=by exact A5 (Aa A4)):p:=h
theorem aj(k:q)(h:Hk q→p:=by intro qk;refine A0 [0,1,5,7,8,16] ?_;exact qk.h):p:=h ⟨k⟩
theorem Mw(k:q)(h:Hk q→p:=by intro qk;refine A0 [0,3] ?_;exact qk.h):p:=h ⟨k⟩
theorem Ds(k:q)(h:Hk q→p:=by intro qk;refine AW.seqR ?_;exact qk.h):p:=h ⟨k⟩
theorem Gq(k:q)(h:Hk q→p:=by intro qk;refine Uk jS ?_;exact qk.h):p:=h ⟨k⟩
theorem eu(k:q)(h:Hk q→p:=by intro qk;refine Ju (places:=#[(0,1),(1,1),(2,1)]) jU (fun w=>by simp) jZ ?_;exact qk.h):p:=h ⟨k⟩
theorem ak(k:q)(h:Hk q→p:=by intro qk;refine B0 (x+1) hlt (by omega) ?_;exact qk.h):p:=h ⟨k⟩
theorem Pf(k:q)(h:Hk q→p:=by intro qk;refine R.buildSlice jU jS jZ ?_;exact qk.h):p:=h ⟨k⟩
theorem Gy(k:q)(h:Hk q→p:=by intro qk;refine R.assignT ?_;exact qk.h):p:=h ⟨k⟩
theorem m5(h:p:=by exact A5 (Aa (Eb Tryz.isAgg166 Tryz.sizeOf166)) ⟨by simp_all [Oh],rfl⟩):p:=h
theorem m6(h:p:=by exact A5 (Az A4 A4) ⟨by simp_all [E7],rfl⟩):p:=h
theorem Xr(k:q)(h:Hk q→p:=by intro qk;refine A0 [2,6,13,14,15] ?_;exact qk.h):p:=h ⟨k⟩
theorem j9(h:p:=by exact A5 (Az A4 A4) ⟨by rw [hk],rfl⟩):p:=h
theorem ja(k:q)(h:Hk q→p:=by intro qk;refine K.rdN (W8 hL (Bt (by decide)) (Bt (by decide))) ?_;exact qk.h):p:=h ⟨k⟩
theorem Xs(h:p:=by exact A5 (Aa A4) ⟨by rw [hm],rfl⟩):p:=h
theorem jb(h:p:=by exact A5 (Az A4 A4) ⟨by rw [hm]<;>rfl,rfl⟩):p:=h
theorem m7(h:p:=by exact A5 (Aa A4) ⟨by rw [hn];first|(simp only [ht22,ht25,ht33,ht41,ht41,ht50,ht58,hk3,hk6,Fk,Df,F3,Jp,if_true,if_false,Cp,↓reduceIte]<;>rfl)|(simp only [ht22,ht25,ht33,ht41,ht41,ht50,ht58,hk3,Fk,Df,F3,if_true,if_false,Cp,↓reduceIte]<;>rfl)|(simp only [ht22,ht25,ht33,ht41,ht41,ht50,ht58,if_true,if_false,Cp,↓reduceIte]<;>rfl),rfl⟩):p:=h
theorem ew(h:p:=by exact A5 (Aa A4) ⟨by rw [hm]<;>rfl,rfl⟩):p:=h
theorem Pg(h:p:=by exact Oy _):p:=h
theorem m8(h:p:=by exact A5 (Az (Eb jA jS) A4) ⟨by rw [hw];try rfl,rfl⟩):p:=h
theorem m9(h:p:=by exact A5 (Az A4 A4) ⟨by simp_all [Fi],rfl⟩):p:=h
theorem ma(h:p:=by exact A5 (Az (Eb Tryz.isAgg44 Tryz.sizeOf44) A4) ⟨by simp_all [K7],rfl⟩):p:=h
theorem al(h:p:=by exact A5 (Az (Eb jA jS) A4) ⟨by rw [hm];try rfl,rfl⟩):p:=h
theorem mb(h:p:=by exact A5 (Aa (Eb jA jS)) ⟨by rw [hm];try rfl,rfl⟩):p:=h
theorem mc(k:q)(h:Hk q→p:=by intro qk;refine Y.alloc (zs:=[A3 0,A3 0,Am []]) (n:=1) (u:=Hp.length) Tryz.zeroValue44 (fun B hT hF hB=>⟨rfl,by simp [hB],by simp [upd,hB,hF 1 (by simp)],rfl⟩) ?_;exact qk.h):p:=h ⟨k⟩
theorem am(k:q)(h:Hk q→p:=by intro qk;refine A0 [1,3,6,10,12,27,28,29] ?_;exact qk.h):p:=h ⟨k⟩
theorem an(h:p:=by exact .inr ⟨rfl,_,rfl⟩):p:=h
theorem md(h:p:=by exact A5 (Aa (Eb jA jS)) ⟨by first|exact jv (by simp_all [Ht])|exact cd (by simp_all [Ht])|exact jx (by simp_all [Ht]),rfl⟩):p:=h
theorem me(h:p:=by exact A5 (Aa (Eb jA jS)) ⟨by first|exact cd (by simp_all [L5]),rfl⟩):p:=h
theorem mf(h:p:=by exact A5 (Aa A4) ⟨by simp_all [D5,I0],rfl⟩):p:=h
theorem mg(k:q)(h:Hk q→p:=by intro qk;refine R.buildLe (Mz Hx) gx (places:=#[(0,1),(1,1),(2,1),(3,1)]) jU (fun w=>by simp) Tryz.zeroValue30 ?_;exact qk.h):p:=h ⟨k⟩
theorem jc(h:p:=by exact A5 (Az A4 A4) ⟨by rw [hm],rfl⟩):p:=h
end Go.SX.Nb
namespace Go.SX.Nb
open Go Go.SX Go.Proofs
@[reducible,instance] def JA2:=JA.mk (P:=Tryz.prog) Tryz.isAgg2
@[reducible,instance] def JA3:=JA.mk (P:=Tryz.prog) Tryz.isAgg3
@[reducible,instance] def JA4:=JA.mk (P:=Tryz.prog) Tryz.isAgg4
@[reducible,instance] def JA5:=JA.mk (P:=Tryz.prog) Tryz.isAgg5
@[reducible,instance] def JA9:=JA.mk (P:=Tryz.prog) Tryz.isAgg9
@[reducible,instance] def r9:=JA.mk (P:=Tryz.prog) Tryz.isAgg22
@[reducible,instance] def rc:=JA.mk (P:=Tryz.prog) Tryz.isAgg23
@[reducible,instance] def rd:=JA.mk (P:=Tryz.prog) Tryz.isAgg24
@[reducible,instance] def re:=JA.mk (P:=Tryz.prog) Tryz.isAgg30
@[reducible,instance] def rf:=JA.mk (P:=Tryz.prog) Tryz.isAgg31
@[reducible,instance] def rg:=JA.mk (P:=Tryz.prog) Tryz.isAgg44
@[reducible,instance] def rh:=JA.mk (P:=Tryz.prog) Tryz.isAgg46
@[reducible,instance] def ri:=JA.mk (P:=Tryz.prog) Tryz.isAgg47
@[reducible,instance] def rj:=JA.mk (P:=Tryz.prog) Tryz.isAgg48
@[reducible,instance] def rk:=JA.mk (P:=Tryz.prog) Tryz.isAgg50
@[reducible,instance] def rl:=JA.mk (P:=Tryz.prog) Tryz.isAgg53
@[reducible,instance] def rm:=JA.mk (P:=Tryz.prog) Tryz.isAgg59
@[reducible,instance] def rn:=JA.mk (P:=Tryz.prog) Tryz.isAgg60
@[reducible,instance] def rp:=JA.mk (P:=Tryz.prog) Tryz.isAgg62
@[reducible,instance] def rq:=JA.mk (P:=Tryz.prog) Tryz.isAgg63
@[reducible,instance] def qt:=JA.mk (P:=Tryz.prog) Tryz.isAgg135
@[reducible,instance] def qu:=JA.mk (P:=Tryz.prog) Tryz.isAgg154
@[reducible,instance] def qv:=JA.mk (P:=Tryz.prog) Tryz.isAgg166
@[reducible,instance] def JS2:=JS.mk (P:=Tryz.prog) Tryz.sizeOf2
@[reducible,instance] def JS3:=JS.mk (P:=Tryz.prog) Tryz.sizeOf3
@[reducible,instance] def JS4:=JS.mk (P:=Tryz.prog) Tryz.sizeOf4
@[reducible,instance] def JS5:=JS.mk (P:=Tryz.prog) Tryz.sizeOf5
@[reducible,instance] def JS9:=JS.mk (P:=Tryz.prog) Tryz.sizeOf9
@[reducible,instance] def rr:=JS.mk (P:=Tryz.prog) Tryz.sizeOf22
@[reducible,instance] def rt:=JS.mk (P:=Tryz.prog) Tryz.sizeOf24
@[reducible,instance] def ru:=JS.mk (P:=Tryz.prog) Tryz.sizeOf30
@[reducible,instance] def rx:=JS.mk (P:=Tryz.prog) Tryz.sizeOf31
@[reducible,instance] def ry:=JS.mk (P:=Tryz.prog) Tryz.sizeOf44
@[reducible,instance] def rz:=JS.mk (P:=Tryz.prog) Tryz.sizeOf46
@[reducible,instance] def s0:=JS.mk (P:=Tryz.prog) Tryz.sizeOf47
@[reducible,instance] def s6:=JS.mk (P:=Tryz.prog) Tryz.sizeOf48
@[reducible,instance] def s7:=JS.mk (P:=Tryz.prog) Tryz.sizeOf50
@[reducible,instance] def s8:=JS.mk (P:=Tryz.prog) Tryz.sizeOf53
@[reducible,instance] def s9:=JS.mk (P:=Tryz.prog) Tryz.sizeOf59
@[reducible,instance] def sa:=JS.mk (P:=Tryz.prog) Tryz.sizeOf60
@[reducible,instance] def sb:=JS.mk (P:=Tryz.prog) Tryz.sizeOf62
@[reducible,instance] def sc:=JS.mk (P:=Tryz.prog) Tryz.sizeOf63
@[reducible,instance] def qw:=JS.mk (P:=Tryz.prog) Tryz.sizeOf135
@[reducible,instance] def qx:=JS.mk (P:=Tryz.prog) Tryz.sizeOf154
@[reducible,instance] def qy:=JS.mk (P:=Tryz.prog) Tryz.sizeOf166
@[reducible,instance] def JU2:=JU.mk (P:=Tryz.prog) Tryz.underlying2
@[reducible,instance] def JU3:=JU.mk (P:=Tryz.prog) Tryz.underlying3
@[reducible,instance] def JU4:=JU.mk (P:=Tryz.prog) Tryz.underlying4
@[reducible,instance] def JU5:=JU.mk (P:=Tryz.prog) Tryz.underlying5
@[reducible,instance] def JU9:=JU.mk (P:=Tryz.prog) Tryz.underlying9
@[reducible,instance] def sd:=JU.mk (P:=Tryz.prog) Tryz.underlying22
@[reducible,instance] def se:=JU.mk (P:=Tryz.prog) Tryz.underlying23
@[reducible,instance] def sg:=JU.mk (P:=Tryz.prog) Tryz.underlying24
@[reducible,instance] def sh:=JU.mk (P:=Tryz.prog) Tryz.underlying30
@[reducible,instance] def si:=JU.mk (P:=Tryz.prog) Tryz.underlying41
@[reducible,instance] def sj:=JU.mk (P:=Tryz.prog) Tryz.underlying44
@[reducible,instance] def sk:=JU.mk (P:=Tryz.prog) Tryz.underlying46
@[reducible,instance] def sm:=JU.mk (P:=Tryz.prog) Tryz.underlying47
@[reducible,instance] def so:=JU.mk (P:=Tryz.prog) Tryz.underlying48
@[reducible,instance] def sq:=JU.mk (P:=Tryz.prog) Tryz.underlying50
@[reducible,instance] def sr:=JU.mk (P:=Tryz.prog) Tryz.underlying53
@[reducible,instance] def ss:=JU.mk (P:=Tryz.prog) Tryz.underlying56
@[reducible,instance] def su:=JU.mk (P:=Tryz.prog) Tryz.underlying62
@[reducible,instance] def sw:=JU.mk (P:=Tryz.prog) Tryz.underlying63
@[reducible,instance] def sx:=JU.mk (P:=Tryz.prog) Tryz.underlying77
@[reducible,instance] def qz:=JU.mk (P:=Tryz.prog) Tryz.underlying135
@[reducible,instance] def r0:=JU.mk (P:=Tryz.prog) Tryz.underlying154
@[reducible,instance] def r6:=JU.mk (P:=Tryz.prog) Tryz.underlying166
@[reducible,instance] def JZ3:=JZ.mk (P:=Tryz.prog) Tryz.zeroValue3
@[reducible,instance] def JZ4:=JZ.mk (P:=Tryz.prog) Tryz.zeroValue4
@[reducible,instance] def JZ5:=JZ.mk (P:=Tryz.prog) Tryz.zeroValue5
@[reducible,instance] def sy:=JZ.mk (P:=Tryz.prog) Tryz.zeroValue22
@[reducible,instance] def t2:=JZ.mk (P:=Tryz.prog) Tryz.zeroValue24
@[reducible,instance] def t4:=JZ.mk (P:=Tryz.prog) Tryz.zeroValue30
@[reducible,instance] def t6:=JZ.mk (P:=Tryz.prog) Tryz.zeroValue31
@[reducible,instance] def t7:=JZ.mk (P:=Tryz.prog) Tryz.zeroValue44
@[reducible,instance] def t8:=JZ.mk (P:=Tryz.prog) Tryz.zeroValue46
@[reducible,instance] def t9:=JZ.mk (P:=Tryz.prog) Tryz.zeroValue50
@[reducible,instance] def ta:=JZ.mk (P:=Tryz.prog) Tryz.zeroValue53
@[reducible,instance] def tc:=JZ.mk (P:=Tryz.prog) Tryz.zeroValue62
@[reducible,instance] def td:=JZ.mk (P:=Tryz.prog) Tryz.zeroValue63
@[reducible,instance] def r7:=JZ.mk (P:=Tryz.prog) Tryz.zeroValue135
@[reducible,instance] def r8:=JZ.mk (P:=Tryz.prog) Tryz.zeroValue166
end Go.SX.Nb
