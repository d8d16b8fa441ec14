/- On the way (part 4). -/
import Derived.Test.YtofbdcbjpdpllaaGreatDoorProg
import Derived.Test.YtofbdcbjpdpllaaGreatDoorFuseForthCardSaidPart3
set_option linter.all false
namespace Go.SX.Nb
open Go Go.SX Go.Proofs
structure Hk (q:Prop):Prop where h:q
variable {p q:Prop}
theorem Z0(k:q)(h:Hk q→p:=by intro qk;refine A4 ?_;refine A4 ?_;exact qk.h):p:=h ⟨k⟩
theorem Z1(k:q)(h:Hk q→p:=by intro qk;refine Fp ?_;refine Z0 ?_;exact qk.h):p:=h ⟨k⟩
theorem Z2(k:q)(h:Hk q→p:=by intro qk;refine Fp ?_;refine A4 ?_;exact qk.h):p:=h ⟨k⟩
theorem Z3(k:q)(h:Hk q→p:=by intro qk;refine A2 [2] ?_;refine Gn ?_;exact qk.h):p:=h ⟨k⟩
theorem Z5(k:q)(h:Hk q→p:=by intro qk;refine Rf ?_;refine Fh ?_;exact qk.h):p:=h ⟨k⟩
theorem Z6(k:q)(h:Hk q→p:=by intro qk;refine K.blR ?_;refine C4 ?_;exact qk.h):p:=h ⟨k⟩
theorem Z7(k:q)(h:Hk q→p:=by intro qk;refine Bi ?_;refine Bi ?_;exact qk.h):p:=h ⟨k⟩
theorem Z8(k:q)(h:Hk q→p:=by intro qk;refine Ma ?_;refine Z1 ?_;exact qk.h):p:=h ⟨k⟩
theorem Z9(k:q)(h:Hk q→p:=by intro qk;refine A2 [4,5] ?_;refine Gn ?_;exact qk.h):p:=h ⟨k⟩
theorem Z10(k:q)(h:Hk q→p:=by intro qk;refine N6 ?_;refine Fh ?_;exact qk.h):p:=h ⟨k⟩
theorem Z11(k:q)(h:Hk q→p:=by intro qk;refine Al ?_;refine Al ?_;exact qk.h):p:=h ⟨k⟩
theorem Z12(k:q)(h:Hk q→p:=by intro qk;refine K8 ?_;refine Z0 ?_;exact qk.h):p:=h ⟨k⟩
theorem Z15(k:q)(h:Hk q→p:=by intro qk;refine Iq ?_;refine Z3 ?_;exact qk.h):p:=h ⟨k⟩
theorem Z16(k:q)(h:Hk q→p:=by intro qk;refine Rf ?_;refine Z10 ?_;exact qk.h):p:=h ⟨k⟩
theorem Z17(k:q)(h:Hk q→p:=by intro qk;refine Z1 ?_;refine A4 ?_;exact qk.h):p:=h ⟨k⟩
theorem Z18(k:q)(h:Hk q→p:=by intro qk;refine Ma ?_;refine Jk ?_;exact qk.h):p:=h ⟨k⟩
theorem Z19(k:q)(h:Hk q→p:=by intro qk;refine Pm ?_;refine Iq ?_;exact qk.h):p:=h ⟨k⟩
theorem Z21(k:q)(h:Hk q→p:=by intro qk;refine Iq ?_;refine A4 ?_;exact qk.h):p:=h ⟨k⟩
theorem Z22(k:q)(h:Hk q→p:=by intro qk;refine Z0 ?_;refine A4 ?_;exact qk.h):p:=h ⟨k⟩
theorem Z23(h:p:=by refine C4 ?_;exact ka):p:=h
theorem Z24(h:p:=by refine Z6 ?_;exact ABo):p:=h
theorem Z25(k:q)(h:Hk q→p:=by intro qk;refine Z2 ?_;refine Z3 ?_;exact qk.h):p:=h ⟨k⟩
theorem Z26(k:q)(h:Hk q→p:=by intro qk;refine A2 [4] ?_;refine Gn ?_;exact qk.h):p:=h ⟨k⟩
theorem Z27(k:q)(h:Hk q→p:=by intro qk;refine Z1 ?_;refine Z0 ?_;exact qk.h):p:=h ⟨k⟩
theorem Z28(k:q)(h:Hk q→p:=by intro qk;refine K.lpE ?_;refine Fh ?_;exact qk.h):p:=h ⟨k⟩
theorem Z29(k:q)(h:Hk q→p:=by intro qk;refine Fp ?_;refine Pn ?_;refine gk ?_;exact qk.h):p:=h ⟨k⟩
theorem Z31(k:q)(h:Hk q→p:=by intro qk;refine A2 [6,7] ?_;refine Gn ?_;exact qk.h):p:=h ⟨k⟩
theorem Z32(k:q)(h:Hk q→p:=by intro qk;refine Ma ?_;refine Z2 ?_;exact qk.h):p:=h ⟨k⟩
theorem Z33(k:q)(h:Hk q→p:=by intro qk;refine Z6 ?_;refine K.lpR ?_;exact qk.h):p:=h ⟨k⟩
theorem Z34(k:q)(h:Hk q→p:=by intro qk;refine Z12 ?_;refine A4 ?_;exact qk.h):p:=h ⟨k⟩
theorem Z35(k:q)(h:Hk q→p:=by intro qk;refine Fp ?_;refine Pm ?_;exact qk.h):p:=h ⟨k⟩
theorem Z36(k:q)(h:Hk q→p:=by intro qk;refine Z8 ?_;refine A4 ?_;exact qk.h):p:=h ⟨k⟩
theorem Z37(h:p:=by refine C4 ?_;exact ABo):p:=h
theorem Z38(k:q)(h:Hk q→p:=by intro qk;refine AW.exit ?_;refine K.thE ?_;exact qk.h):p:=h ⟨k⟩
theorem Z39(k:q)(h:Hk q→p:=by intro qk;refine Z7 ?_;refine Bi ?_;exact qk.h):p:=h ⟨k⟩
theorem Z40(k:q)(h:Hk q→p:=by intro qk;refine Z11 ?_;refine Al ?_;exact qk.h):p:=h ⟨k⟩
theorem Z41(h:p:=by refine C4 ?_;exact AJ8):p:=h
theorem Z42(k:q)(h:Hk q→p:=by intro qk;refine Z29 ?_;refine Z15 ?_;exact qk.h):p:=h ⟨k⟩
theorem Z43(k:q)(h:Hk q→p:=by intro qk;refine Z2 ?_;refine A2 [0] ?_;exact qk.h):p:=h ⟨k⟩
theorem Z45(k:q)(h:Hk q→p:=by intro qk;refine Z33 ?_;refine C4 ?_;exact qk.h):p:=h ⟨k⟩
theorem Z46(k:q)(h:Hk q→p:=by intro qk;refine Fp ?_;refine p8 ?_;exact qk.h):p:=h ⟨k⟩
theorem Z47(k:q)(h:Hk q→p:=by intro qk;refine Z0 ?_;refine Z7 ?_;exact qk.h):p:=h ⟨k⟩
theorem Z48(k:q)(h:Hk q→p:=by intro qk;refine A2 [6] ?_;refine Gn ?_;exact qk.h):p:=h ⟨k⟩
theorem Z49(k:q)(h:Hk q→p:=by intro qk;refine Z0 ?_;refine Z3 ?_;exact qk.h):p:=h ⟨k⟩
theorem Z50(k:q)(h:Hk q→p:=by intro qk;refine Z5 ?_;refine Z18 ?_;exact qk.h):p:=h ⟨k⟩
theorem Z51(k:q)(h:Hk q→p:=by intro qk;refine Lo ?_;refine Gn ?_;exact qk.h):p:=h ⟨k⟩
theorem Z52(k:q)(h:Hk q→p:=by intro qk;refine Z9 ?_;refine C4 ?_;exact qk.h):p:=h ⟨k⟩
theorem Z54(h:p:=by refine K.thJ ?_;exact Bo (by unfold Mj;first|(simp only [ht38,ht41,ht49,ht57,ht57,ht66,ht74,hk3,hk6,Bg,B4,Gm,K6,if_true,if_false,Aq,↓reduceIte]<;>rfl)|(simp only [ht38,ht41,ht49,ht57,ht57,ht66,ht74,hk3,Bg,B4,Gm,if_true,if_false,Aq,↓reduceIte]<;>rfl)|(simp only [ht38,ht41,ht49,ht57,ht57,ht66,ht74,if_true,if_false,Aq,↓reduceIte]<;>rfl))):p:=h
theorem Z55(k:q)(h:Hk q→p:=by intro qk;refine Z38 ?_;refine Z28 ?_;exact qk.h):p:=h ⟨k⟩
theorem Z56(h:p:=by refine Z6 ?_;exact AJ9):p:=h
theorem Z57(k:q)(h:Hk q→p:=by intro qk;refine A4 ?_;refine Pn ?_;exact qk.h):p:=h ⟨k⟩
theorem Z59(h:p:=by refine Z6 ?_;exact A8 (Ah A6) ⟨by rw [hn];first|(simp only [ht22,ht25,ht33,ht41,ht41,hk3,hk6,Bg,B4,Gm,K6,if_true,if_false,Aq,↓reduceIte]<;>rfl)|(simp only [ht22,ht25,ht33,ht41,ht41,hk3,Bg,B4,Gm,if_true,if_false,Aq,↓reduceIte]<;>rfl)|(simp only [ht22,ht25,ht33,ht41,ht41,if_true,if_false,Aq,↓reduceIte]<;>rfl),rfl⟩):p:=h
theorem Z60(k:q)(h:Hk q→p:=by intro qk;refine Z8 ?_;refine Z0 ?_;exact qk.h):p:=h ⟨k⟩
theorem Z61(k:q)(h:Hk q→p:=by intro qk;refine Z2 ?_;refine A2 [0,1] ?_;exact qk.h):p:=h ⟨k⟩
theorem Z62(h:p:=by refine D.buildSlice jU jS jZ ?_;exact an):p:=h
theorem Z63(k:q)(h:Hk q→p:=by intro qk;refine Aa Tryz.call43 (c43 _ _) ?_;refine Z0 ?_;exact qk.h):p:=h ⟨k⟩
theorem Z64(h:p:=by refine K.thJ ?_;exact Bo (by unfold Mj;first|(simp only [ht38,ht41,ht49,ht57,ht57,hk3,hk6,Bg,B4,Gm,K6,if_true,if_false,Aq,↓reduceIte]<;>rfl)|(simp only [ht38,ht41,ht49,ht57,ht57,hk3,Bg,B4,Gm,if_true,if_false,Aq,↓reduceIte]<;>rfl)|(simp only [ht38,ht41,ht49,ht57,ht57,if_true,if_false,Aq,↓reduceIte]<;>rfl))):p:=h
theorem Z65(h:p:=by refine Z6 ?_;exact ANj):p:=h
theorem Z66(k:q)(h:Hk q→p:=by intro qk;refine K8 ?_;refine A4 ?_;exact qk.h):p:=h ⟨k⟩
theorem Z67(k:q)(h:Hk q→p:=by intro qk;refine Ma ?_;refine Fp ?_;exact qk.h):p:=h ⟨k⟩
theorem Z68(h:p:=by refine Z25 ?_;refine Z6 ?_;exact A8 (Ah A6) ⟨by simp_all [Ur],rfl⟩):p:=h
theorem Z70(k:q)(h:Hk q→p:=by intro qk;refine Z50 ?_;refine Ip [0,0,3,7,0,0,32,96,240,496,0,2047,4095,8191,8191,0,49151,131071] [15,16] [.q 15 [] [],.s [20] (some 0) [] [1],.s [] (some 1) [0] []] (fun _=>Hp) (fun B=>if B 0=true then [(if B 1=true then .cells 23 [A5 (Dz c l (Bp c l row).1).1[i].kind,A5 (Dz c l (Bp c l row).1).1[i].n,Ae (Dz c l (Bp c l row).1).1[i].s] else .cells 23 [A5 0,A5 0,Ae []]:AObj)] else []) An (by kernel_rfl) rfl rfl (fun _=>rfl) ?_;exact qk.h):p:=h ⟨k⟩
theorem Z71(h:p:=by refine K.thJ ?_;exact Bo (by simp [*])):p:=h
theorem Z72(k:q)(h:Hk q→p:=by intro qk;refine Ft ?_;refine Ft ?_;exact qk.h):p:=h ⟨k⟩
theorem Z73(k:q)(h:Hk q→p:=by intro qk;refine Pm ?_;refine A4 ?_;exact qk.h):p:=h ⟨k⟩
theorem Z74(h:p:=by refine Z42 ?_;refine Z6 ?_;exact ANi):p:=h
theorem Z75(k:q)(h:Hk q→p:=by intro qk;refine Z0 ?_;refine Z22 ?_;exact qk.h):p:=h ⟨k⟩
theorem Z76(k:q)(h:Hk q→p:=by intro qk;refine Z35 ?_;refine A2 [0,2] ?_;exact qk.h):p:=h ⟨k⟩
theorem Z77(k:q)(h:Hk q→p:=by intro qk;refine ANc ?_;refine g7 (u:=Hp.length) (n:=1) (t':=23) (cs:=[A5 0,A5 0,Ae []]) (cs':=[A5 (Bj ra).1.kind,A5 (Bj ra).1.n,Ae (Bj ra).1.s]) Tryz.sizeOf23 (fun B hT hF hB=>⟨rfl,by simp [hT 0 (by simp),hB],by simp [upd,hT 0 (by simp),hB],rfl⟩) ?_;exact qk.h):p:=h ⟨k⟩
theorem Z78(k:q)(h:Hk q→p:=by intro qk;refine A2 [] ?_;refine N6 ?_;exact qk.h):p:=h ⟨k⟩
theorem Z79(k:q)(h:Hk q→p:=by intro qk;refine A2 [2,3,4,5] ?_;refine Gn ?_;exact qk.h):p:=h ⟨k⟩
theorem Z80(k:q)(h:Hk q→p:=by intro qk;refine Z2 ?_;refine C2 Tryz.call204 ho (by simp) E4 (ACs l S o _ (Ag ho) hi hll) ?_;exact qk.h):p:=h ⟨k⟩
theorem Z81(k:q)(h:Hk q→p:=by intro qk;refine Z16 ?_;refine Z34 ?_;exact qk.h):p:=h ⟨k⟩
theorem Z82(k:q)(h:Hk q→p:=by intro qk;refine Z5 ?_;refine Z17 ?_;exact qk.h):p:=h ⟨k⟩
theorem Z83(h:p:=by refine C4 ?_;exact ABm):p:=h
theorem Z84(k:q)(h:Hk q→p:=by intro qk;refine Z11 ?_;refine Z11 ?_;exact qk.h):p:=h ⟨k⟩
theorem Z86(k:q)(h:Hk q→p:=by intro qk;refine Z2 ?_;refine Z26 ?_;exact qk.h):p:=h ⟨k⟩
theorem Z87(k:q)(h:Hk q→p:=by intro qk;refine Z21 ?_;refine Z9 ?_;exact qk.h):p:=h ⟨k⟩
theorem Z88(k:q)(h:Hk q→p:=by intro qk;refine A4 ?_;refine Z31 ?_;exact qk.h):p:=h ⟨k⟩
theorem Z89(k:q)(h:Hk q→p:=by intro qk;refine Z0 ?_;refine Z0 ?_;exact qk.h):p:=h ⟨k⟩
theorem Z90(k:q)(h:Hk q→p:=by intro qk;refine Z1 ?_;refine A2 [1] ?_;exact qk.h):p:=h ⟨k⟩
theorem Z91(h:p:=by refine Z78 ?_;exact Fv .nores ⟨rfl,by rw [pe]<;>simp [yg]⟩):p:=h
theorem Z93(k:q)(h:Hk q→p:=by intro qk;refine Fp ?_;refine oy ?_;exact qk.h):p:=h ⟨k⟩
theorem Z94(k:q)(h:Hk q→p:=by intro qk;refine Fp ?_;refine R.freeze (k:=2) (n:=1) 5 1 [Bq ⟨y.name,(c.getD (B6 s c).toNat ⟨[],0⟩).kind⟩] hcc rfl rfl (lz [⟨y.name,(c.getD (B6 s c).toNat ⟨[],0⟩).kind⟩]) (m0 [⟨y.name,(c.getD (B6 s c).toNat ⟨[],0⟩).kind⟩]) (Ys [⟨y.name,(c.getD (B6 s c).toNat ⟨[],0⟩).kind⟩]) ?_;exact qk.h):p:=h ⟨k⟩
theorem Z95(h:p:=by refine C4 ?_;exact A8 (Ah (Bu jA jS)) ⟨by rw [e,At],by rw [e]⟩ (hlow:=low_agg _)):p:=h
theorem Z97(k:q)(h:Hk q→p:=by intro qk;refine Z16 ?_;refine Z12 ?_;exact qk.h):p:=h ⟨k⟩
theorem Z99(k:q)(h:Hk q→p:=by intro qk;refine Z39 ?_;refine Z0 ?_;exact qk.h):p:=h ⟨k⟩
theorem Xh(h:p:=by refine Al ?_;exact an):p:=h
theorem Pj(k:q)(h:Hk q→p:=by intro qk;refine Jk ?_;refine Z1 ?_;exact qk.h):p:=h ⟨k⟩
theorem Lm(k:q)(h:Hk q→p:=by intro qk;refine Z5 ?_;refine Z2 ?_;exact qk.h):p:=h ⟨k⟩
theorem Ow(k:q)(h:Hk q→p:=by intro qk;refine Z1 ?_;refine Z52 ?_;exact qk.h):p:=h ⟨k⟩
theorem Qr(k:q)(h:Hk q→p:=by intro qk;refine Z18 ?_;refine Fp ?_;exact qk.h):p:=h ⟨k⟩
theorem AL3(k:q)(h:Hk q→p:=by intro qk;refine Z8 ?_;refine A2 [11,235] ?_;exact qk.h):p:=h ⟨k⟩
theorem Pk(h:p:=by refine Z87 ?_;exact Z24):p:=h
theorem wm(k:q)(h:Hk q→p:=by intro qk;refine K8 ?_;refine R.moveT ?_;exact qk.h):p:=h ⟨k⟩
theorem Qs(h:p:=by refine Z42 ?_;refine Z6 ?_;exact ANh):p:=h
theorem js(k:q)(h:Hk q→p:=by intro qk;refine Z7 ?_;refine Z49 ?_;exact qk.h):p:=h ⟨k⟩
theorem Qt(k:q)(h:Hk q→p:=by intro qk;refine Z11 ?_;refine Ey ?_;exact qk.h):p:=h ⟨k⟩
theorem W4(k:q)(h:Hk q→p:=by intro qk;refine Z1 ?_;refine A2 [2,18] ?_;exact qk.h):p:=h ⟨k⟩
theorem jt(k:q)(h:Hk q→p:=by intro qk;refine Fp ?_;refine Pn ?_;exact qk.h):p:=h ⟨k⟩
theorem AIs(k:q)(h:Hk q→p:=by intro qk;refine Z73 ?_;refine Iq ?_;exact qk.h):p:=h ⟨k⟩
theorem Qu(k:q)(h:Hk q→p:=by intro qk;refine Bi ?_;refine A4 ?_;exact qk.h):p:=h ⟨k⟩
theorem Rm(k:q)(h:Hk q→p:=by intro qk;refine Z5 ?_;refine Z32 ?_;exact qk.h):p:=h ⟨k⟩
theorem W5(k:q)(h:Hk q→p:=by intro qk;refine Z1 ?_;refine A2 [13] ?_;exact qk.h):p:=h ⟨k⟩
theorem Qv(k:q)(h:Hk q→p:=by intro qk;refine Z10 ?_;refine Z12 ?_;exact qk.h):p:=h ⟨k⟩
theorem aa(h:p:=by refine Z33 ?_;exact Z23):p:=h
theorem Rn(k:q)(h:Hk q→p:=by intro qk;refine A4 ?_;refine Z19 ?_;exact qk.h):p:=h ⟨k⟩
theorem ac(k:q)(h:Hk q→p:=by intro qk;refine Z1 ?_;refine A2 [2,3,9] ?_;exact qk.h):p:=h ⟨k⟩
theorem Pl(k:q)(h:Hk q→p:=by intro qk;refine Z18 ?_;refine Z2 ?_;exact qk.h):p:=h ⟨k⟩
theorem Qw(k:q)(h:Hk q→p:=by intro qk;refine Z7 ?_;refine A4 ?_;exact qk.h):p:=h ⟨k⟩
theorem Qx(k:q)(h:Hk q→p:=by intro qk;refine Z0 ?_;refine Bi ?_;exact qk.h):p:=h ⟨k⟩
theorem AIt(h:p:=by refine Z6 ?_;exact AN1):p:=h
theorem o9(h:p:=by refine Z26 ?_;exact ow):p:=h
theorem W6(h:p:=by refine Z16 ?_;refine Z25 ?_;exact A8 (Ah A6) ⟨by simp_all [Ur],rfl⟩):p:=h
theorem W7(h:p:=by refine Z16 ?_;refine Z29 ?_;refine Z15 ?_;exact ANi):p:=h
theorem Sr(k:q)(h:Hk q→p:=by intro qk;refine Z39 ?_;refine A4 ?_;exact qk.h):p:=h ⟨k⟩
theorem Ss(k:q)(h:Hk q→p:=by intro qk;refine Z82 ?_;refine Z9 ?_;exact qk.h):p:=h ⟨k⟩
theorem AB1(h:p:=by refine Rf ?_;exact Z71):p:=h
theorem AL4(h:p:=by refine Z6 ?_;exact AN6):p:=h
theorem ae(k:q)(h:Hk q→p:=by intro qk;refine Z7 ?_;refine Z0 ?_;exact qk.h):p:=h ⟨k⟩
theorem Su(k:q)(h:Hk q→p:=by intro qk;refine Z50 ?_;refine Z1 ?_;exact qk.h):p:=h ⟨k⟩
theorem oa(h:p:=by refine Z11 ?_;exact an):p:=h
theorem wn(h:p:=by refine Z40 ?_;exact an):p:=h
theorem AF0(h:p:=by refine Z86 ?_;exact ka):p:=h
theorem AL5(k:q)(h:Hk q→p:=by intro qk;refine Fp ?_;refine R.freeze (k:=2) (n:=1) 5 1 [Bq ⟨y.name,y.kind⟩] hcc rfl rfl (lz [⟨y.name,y.kind⟩]) (m0 [⟨y.name,y.kind⟩]) (Ys [⟨y.name,y.kind⟩]) ?_;exact qk.h):p:=h ⟨k⟩
theorem AL6(h:p:=by refine Z3 ?_;exact A8 (Ah A6) ⟨rfl,rfl⟩ (hlow:=by simp [or_imp,forall_and];exact ⟨fun m _ a _=>Av _ a,fun m _ a _=>Av _ a⟩)):p:=h
theorem AB2(h:p:=by refine Z49 ?_;exact ow):p:=h
theorem ju(k:q)(h:Hk q→p:=by intro qk;refine Z19 ?_;refine A2 [0,2,3] ?_;exact qk.h):p:=h ⟨k⟩
theorem Ro(k:q)(h:Hk q→p:=by intro qk;refine Z5 ?_;refine Z1 ?_;exact qk.h):p:=h ⟨k⟩
theorem gc(k:q)(h:Hk q→p:=by intro qk;refine Z21 ?_;refine Z31 ?_;exact qk.h):p:=h ⟨k⟩
theorem AL7(h:p:=by refine A2 [0,1,2,10,11] ?_;exact Bb (i+1) hli (by omega) (Cg (by simp only [hst,By,Bz,Ek]<;>rfl))):p:=h
theorem ge(k:q)(h:Hk q→p:=by intro qk;refine Z1 ?_;refine A2 [0,1] ?_;exact qk.h):p:=h ⟨k⟩
theorem AL8(k:q)(h:Hk q→p:=by intro qk;refine Y.alloc (zs:=[A5 0,A5 0,Ae []]) (n:=0) (u:=Hp.length) Tryz.zeroValue23 (fun B hT hF hB=>⟨rfl,by simp [hB],by simp [upd,hB,hF 1 (by simp)],rfl⟩) ?_;refine g7 (u:=Hp.length) (n:=0) (t':=23) (cs:=[A5 0,A5 0,Ae []]) (cs':=[A5 (Dz c l (Bp c l row).1).1[i].kind,A5 (Dz c l (Bp c l row).1).1[i].n,Ae (Dz c l (Bp c l row).1).1[i].s]) Tryz.sizeOf23 (fun B hT hF hB=>⟨rfl,by simp [hT 0 (by simp),hB],by simp [upd,hT 0 (by simp),hB],rfl⟩) ?_;refine Ha (tn:=[15,16]) (O:=[.cells 23 [A5 (Dz c l (Bp c l row).1).1[i].kind,A5 (Dz c l (Bp c l row).1).1[i].n,Ae (Dz c l (Bp c l row).1).1[i].s]]) ?_;exact qk.h):p:=h ⟨k⟩
theorem af(k:q)(h:Hk q→p:=by intro qk;refine Fp ?_;refine Z63 ?_;exact qk.h):p:=h ⟨k⟩
theorem Xi(k:q)(h:Hk q→p:=by intro qk;refine A2 [11,12] ?_;refine Z10 ?_;refine AL3 ?_;exact qk.h):p:=h ⟨k⟩
theorem AIu(k:q)(h:Hk q→p:=by intro qk;refine p8 ?_;refine Z15 ?_;exact qk.h):p:=h ⟨k⟩
theorem AL9(k:q)(h:Hk q→p:=by intro qk;refine Z11 ?_;refine E1 Tryz.call15 (c15 30 (Ij c l).1[i] (hD.okE hlt) (by decide) (hBk.rng _ (B1 hlt)) (colsAt c l l.length) hcn (Bp c l row).1 hxl hxr _) ?_;exact qk.h):p:=h ⟨k⟩
theorem AIv(k:q)(h:Hk q→p:=by intro qk;refine De [0,0,2,6,14,31,63,63,255,511] 8 An (by kernel_rfl) ?_;refine Z40 ?_;exact qk.h):p:=h ⟨k⟩
theorem gg(k:q)(h:Hk q→p:=by intro qk;refine Z25 ?_;refine Z45 ?_;exact qk.h):p:=h ⟨k⟩
theorem AB3(k:q)(h:Hk q→p:=by intro qk;refine Gn ?_;refine C4 ?_;exact qk.h):p:=h ⟨k⟩
theorem W8(k:q)(h:Hk q→p:=by intro qk;refine Z21 ?_;refine Z51 ?_;exact qk.h):p:=h ⟨k⟩
theorem AF1(h:p:=by refine K.thJ ?_;exact Bo (by rw [e]<;>rfl)):p:=h
theorem AIw(k:q)(h:Hk q→p:=by intro qk;refine W.draw [0,1,3,7,7,7,55,119,255,511] 8 An (by kernel_rfl) ?_;refine Z40 ?_;exact qk.h):p:=h ⟨k⟩
theorem Xj(k:q)(h:Hk q→p:=by intro qk;refine Z22 ?_;refine Z19 ?_;refine A4 ?_;exact qk.h):p:=h ⟨k⟩
theorem Xk(k:q)(h:Hk q→p:=by intro qk;refine Z2 ?_;refine N7 6 2 ?_;refine Z88 ?_;exact qk.h):p:=h ⟨k⟩
theorem Xl(k:q)(h:Hk q→p:=by intro qk;refine Z10 ?_;refine Z34 ?_;exact qk.h):p:=h ⟨k⟩
theorem AIx(h:p:=by refine gg ?_;exact ABm):p:=h
theorem AIy(k:q)(h:Hk q→p:=by intro qk;refine R.nilTmp 4 2 false ?_;refine A4 ?_;exact qk.h):p:=h ⟨k⟩
theorem ALa(k:q)(h:Hk q→p:=by intro qk;refine Ha (tn:=[9,10]) (O:=[.cells 23 [A5 0,A5 0,Ae []],.cells 23 [A5 (Bj ra).1.kind,A5 (Bj ra).1.n,Ae (Bj ra).1.s]]) ?_;refine A4 ?_;exact qk.h):p:=h ⟨k⟩
theorem wo(k:q)(h:Hk q→p:=by intro qk;refine Z2 ?_;refine A2 [0,1,7,8,9] ?_;exact qk.h):p:=h ⟨k⟩
theorem Xm(k:q)(h:Hk q→p:=by intro qk;refine Z39 ?_;refine Z47 ?_;exact qk.h):p:=h ⟨k⟩
theorem W9(k:q)(h:Hk q→p:=by intro qk;refine Z8 ?_;refine Z22 ?_;exact qk.h):p:=h ⟨k⟩
theorem AF2(h:p:=by refine Z15 ?_;exact A8 (Ah (Bu jA jS))):p:=h
theorem gh(k:q)(h:Hk q→p:=by intro qk;refine Z9 ?_;refine Z6 ?_;exact qk.h):p:=h ⟨k⟩
theorem AIz(h:p:=by refine Z6 ?_;exact A8 (Ah A6) ⟨by simp_all [ri],rfl⟩):p:=h
theorem ag(k:q)(h:Hk q→p:=by intro qk;refine Z72 ?_;refine Ft ?_;exact qk.h):p:=h ⟨k⟩
theorem ob(k:q)(h:Hk q→p:=by intro qk;refine Iq ?_;refine Z48 ?_;exact qk.h):p:=h ⟨k⟩
theorem AF3(k:q)(h:Hk q→p:=by intro qk;refine Z1 ?_;refine Aa Tryz.call48 (c48 c hc hc2 l h _) ?_;exact qk.h):p:=h ⟨k⟩
theorem Wa(k:q)(h:Hk q→p:=by intro qk;refine Z7 ?_;refine Z7 ?_;exact qk.h):p:=h ⟨k⟩
theorem ai(k:q)(h:Hk q→p:=by intro qk;refine Z50 ?_;refine Z17 ?_;exact qk.h):p:=h ⟨k⟩
theorem AB4(h:p:=by refine Hq [3,8] ?_;exact AB1):p:=h
theorem ALb(h:p:=by refine A2 [] ?_;exact Fv .nores (hp:=⟨v7 m x,k,by unfold Vw;rw [hT];rfl,rfl,by exact zm⟩)):p:=h
theorem gi(k:q)(h:Hk q→p:=by intro qk;refine A4 ?_;refine AIs ?_;exact qk.h):p:=h ⟨k⟩
theorem AB5(h:p:=by refine Z84 ?_;exact an):p:=h
theorem jv(k:q)(h:Hk q→p:=by intro qk;refine Ey ?_;refine A4 ?_;exact qk.h):p:=h ⟨k⟩
theorem od(k:q)(h:Hk q→p:=by intro qk;refine Z1 ?_;refine Ln ?_;exact qk.h):p:=h ⟨k⟩
theorem jx(k:q)(h:Hk q→p:=by intro qk;refine Z16 ?_;refine Z25 ?_;exact qk.h):p:=h ⟨k⟩
theorem aj(k:q)(h:Hk q→p:=by intro qk;refine Z2 ?_;refine Z48 ?_;exact qk.h):p:=h ⟨k⟩
theorem ALc(h:p:=by refine Z86 ?_;exact A8 (Ah A6) ⟨by rw [ph (Ng (by simp at ht9;omega) hx.2)],rfl⟩):p:=h
theorem ALd(h:p:=by refine gn ?_;exact Bb (x+1) hlt (by omega) (by simp only [em];exact Cg rfl)):p:=h
theorem wq(k:q)(h:Hk q→p:=by intro qk;refine Z81 ?_;refine Ln ?_;exact qk.h):p:=h ⟨k⟩
theorem ak(k:q)(h:Hk q→p:=by intro qk;refine Z5 ?_;refine Z36 ?_;exact qk.h):p:=h ⟨k⟩
theorem ALe(h:p:=by refine Bb (x+1) ⟨hlt,Cc hlt hx.2 ht19⟩ (by omega) ?_;exact Cg (by simp)):p:=h
theorem AF4(h:p:=by refine Z3 ?_;exact ow):p:=h
theorem oe(h:p:=by refine Z21 ?_;refine Z9 ?_;exact ABo):p:=h
theorem ALf(h:p:=by refine D.build (places:=#[(0,1),(1,1)]) jU (fun w=>by simp) jZ ?_;exact an):p:=h
theorem wr(h:p:=by refine js ?_;exact Z65):p:=h
theorem ALg(h:p:=by refine C4 ?_;exact AJ9):p:=h
theorem AJ0(k:q)(h:Hk q→p:=by intro qk;refine Z2 ?_;refine Aa Tryz.call254 (ANr l S o _ (Ag ho) hi) ?_;exact qk.h):p:=h ⟨k⟩
theorem AJ1(k:q)(h:Hk q→p:=by intro qk;refine Z2 ?_;refine Aa Tryz.call139 (AKk L i o _ (Ag ho) hi) ?_;exact qk.h):p:=h ⟨k⟩
theorem jy(k:q)(h:Hk q→p:=by intro qk;refine Z17 ?_;refine js ?_;exact qk.h):p:=h ⟨k⟩
theorem ALh(h:p:=by refine jx ?_;exact AJ9):p:=h
theorem AF5(k:q)(h:Hk q→p:=by intro qk;refine Z27 ?_;refine Z9 ?_;exact qk.h):p:=h ⟨k⟩
theorem wt(h:p:=by refine AF5 ?_;refine Z6 ?_;exact AN9):p:=h
theorem ALi(h:p:=by refine Z45 ?_;exact A8 (Ay A6 A6) ⟨by rw [qn hr hkn];try rfl,rfl⟩):p:=h
theorem AJ2(k:q)(h:Hk q→p:=by intro qk;refine A4 ?_;refine Aa Tryz.call250 (Yr (ks.getD 0 0) 1 _) ?_;exact qk.h):p:=h ⟨k⟩
theorem AJ3(k:q)(h:Hk q→p:=by intro qk;refine A4 ?_;refine Aa Tryz.call250 (Yr (ks.getD 0 0) 2 _) ?_;exact qk.h):p:=h ⟨k⟩
theorem ALj(k:q)(h:Hk q→p:=by intro qk;refine Ka ?_;refine A4 ?_;exact qk.h):p:=h ⟨k⟩
theorem wu(h:p:=by refine Z86 ?_;exact Z23):p:=h
theorem wv(h:p:=by refine Z87 ?_;exact Z37):p:=h
theorem AF6(k:q)(h:Hk q→p:=by intro qk;refine Iq ?_;refine N9 0 5 6 ?_;exact qk.h):p:=h ⟨k⟩
theorem gj(k:q)(h:Hk q→p:=by intro qk;refine Z1 ?_;refine Z3 ?_;exact qk.h):p:=h ⟨k⟩
theorem ALk(h:p:=by refine C4 ?_;exact A8 (Ay A6 A6) ⟨by rw [ACn hr];try rfl,rfl⟩):p:=h
theorem ALl(h:p:=by refine gc ?_;exact ABo):p:=h
theorem AB6(k:q)(h:Hk q→p:=by intro qk;refine Z1 ?_;refine Z26 ?_;exact qk.h):p:=h ⟨k⟩
theorem jz(k:q)(h:Hk q→p:=by intro qk;refine Z35 ?_;refine A4 ?_;exact qk.h):p:=h ⟨k⟩
theorem ww(k:q)(h:Hk q→p:=by intro qk;refine Rf ?_;refine N6 ?_;exact qk.h):p:=h ⟨k⟩
theorem ALm(h:p:=by refine Z6 ?_;exact A8 (Ay (Gv jA) (Gv jA)) ⟨by rw [hrun];rfl,rfl⟩):p:=h
theorem AF7(k:q)(h:Hk q→p:=by intro qk;refine Iq ?_;refine Iq ?_;exact qk.h):p:=h ⟨k⟩
theorem k7(k:q)(h:Hk q→p:=by intro qk;refine Z18 ?_;refine Z17 ?_;exact qk.h):p:=h ⟨k⟩
theorem AB7(h:p:=by refine Al ?_;exact Z62):p:=h
theorem ALn(h:p:=by refine C4 ?_;exact AN7):p:=h
theorem k8(k:q)(h:Hk q→p:=by intro qk;refine Z43 ?_;refine Z32 ?_;exact qk.h):p:=h ⟨k⟩
theorem wx(k:q)(h:Hk q→p:=by intro qk;refine Fp ?_;refine R.box ?_;exact qk.h):p:=h ⟨k⟩
theorem k9(k:q)(h:Hk q→p:=by intro qk;refine Z43 ?_;refine Z36 ?_;exact qk.h):p:=h ⟨k⟩
theorem ALo(h:p:=by refine jx ?_;exact ANj):p:=h
theorem ALp(h:p:=by refine gh ?_;exact AN2):p:=h
theorem ALq(h:p:=by refine Bb (x+1) ⟨hlt,hn⟩ (by omega) ?_;exact Cg (by simp)):p:=h
theorem ALr(h:p:=by refine gh ?_;exact A8 (Ay A6 A6) ⟨by simp_all [rh],rfl⟩):p:=h
theorem wy(k:q)(h:Hk q→p:=by intro qk;refine K.blR ?_;refine K.lpR ?_;exact qk.h):p:=h ⟨k⟩
theorem ALs(h:p:=by refine Z26 ?_;exact A8 (Ah A6) ⟨by rw [AGz h3]<;>rfl,rfl⟩):p:=h
theorem AB8(h:p:=by refine Z25 ?_;refine Z6 ?_;exact A8 (Ah A6) ⟨by simp_all [S6],rfl⟩):p:=h
theorem ALt(k:q)(h:Hk q→p:=by intro qk;refine Y.buildSlice jU Tryz.sizeOf9 Tryz.zeroValue9 ?_;refine Ha (tn:=[2]) (U:=U2 L Hp o om j (mvO m)) ?_;exact qk.h):p:=h ⟨k⟩
theorem AJ4(k:q)(h:Hk q→p:=by intro qk;refine Pn ?_;refine Pn ?_;exact qk.h):p:=h ⟨k⟩
theorem ALu(h:p:=by refine Z15 ?_;exact A8 (Ah (Bu jA jS)) ⟨by simp [ht5],rfl⟩):p:=h
theorem ALv(k:q)(h:Hk q→p:=by intro qk;refine Z17 ?_;refine C2 Tryz.call116 ho (by simp) E4 (yb l S 8 (Ao l S.i).at_ o _ (Ag ho)) ?_;exact qk.h):p:=h ⟨k⟩
theorem ALw(h:p:=by refine C4 ?_;exact A8 (Ah A6) ⟨by rw [hx.eq,hw],rfl⟩):p:=h
theorem AB9(k:q)(h:Hk q→p:=by intro qk;refine Rm ?_;refine Ln ?_;exact qk.h):p:=h ⟨k⟩
theorem ALx(h:p:=by refine Z45 ?_;exact A8 (Ay A6 A6) ⟨by rw [hbad],rfl⟩):p:=h
theorem ABa(h:p:=by refine Z25 ?_;exact Z23):p:=h
theorem ABb(h:p:=by refine Z25 ?_;exact Z83):p:=h
theorem og(k:q)(h:Hk q→p:=by intro qk;refine Z5 ?_;refine wm ?_;exact qk.h):p:=h ⟨k⟩
theorem ALy(h:p:=by refine Z45 ?_;exact A8 (Ay A6 A6) ⟨by rw [hkb],rfl⟩):p:=h
theorem ABc(h:p:=by refine Z55 ?_;refine Z25 ?_;exact ka):p:=h
theorem oh(k:q)(h:Hk q→p:=by intro qk;refine Z11 ?_;refine Z40 ?_;exact qk.h):p:=h ⟨k⟩
theorem ABd(k:q)(h:Hk q→p:=by intro qk;refine Z1 ?_;refine A2 [3,8] ?_;exact qk.h):p:=h ⟨k⟩
theorem ALz(k:q)(h:Hk q→p:=by intro qk;refine ABp ?_;refine Bb (x+1) ⟨hlt,Cc hlt hx.2 ht27⟩ (by omega) ?_;exact qk.h):p:=h ⟨k⟩
theorem oi(k:q)(h:Hk q→p:=by intro qk;refine Z27 ?_;refine Bi ?_;exact qk.h):p:=h ⟨k⟩
theorem ABe(k:q)(h:Hk q→p:=by intro qk;refine Z17 ?_;refine A2 [1,2] ?_;exact qk.h):p:=h ⟨k⟩
theorem AM0(h:p:=by refine Ow ?_;exact AFr):p:=h
theorem AM1(h:p:=by refine Z6 ?_;exact ABm):p:=h
theorem AM2(h:p:=by refine Ow ?_;exact AFu):p:=h
theorem AM3(h:p:=by refine gh ?_;exact AFu):p:=h
theorem AF8(k:q)(h:Hk q→p:=by intro qk;refine Z0 ?_;refine Aa Tryz.call175 (c175 _ _ _) ?_;refine Z0 ?_;exact qk.h):p:=h ⟨k⟩
theorem AF9(k:q)(h:Hk q→p:=by intro qk;refine R.nilTmp 6 3 false ?_;refine Z88 ?_;exact qk.h):p:=h ⟨k⟩
theorem AM4(h:p:=by refine Z9 ?_;exact Z41):p:=h
theorem AM5(h:p:=by refine Z49 ?_;exact ABm):p:=h
theorem AM6(k:q)(h:Hk q→p:=by intro qk;refine De [0,1,3,7,15,3,35,99,255,511,1023] 8 An (by kernel_rfl) ?_;refine Z11 ?_;exact qk.h):p:=h ⟨k⟩
theorem AM7(h:p:=by refine Aa Tryz.call38 (c38 61 e hok (by decide) _) ?_;exact AB2):p:=h
theorem AM8(k:q)(h:Hk q→p:=by intro qk;refine De [0,1,3,7,0,16,48,112,240,511,1023] 9 An (by kernel_rfl) ?_;refine Z11 ?_;exact qk.h):p:=h ⟨k⟩
theorem AM9(h:p:=by refine Ss ?_;exact AFu):p:=h
theorem AFa(h:p:=by refine AB6 ?_;refine Z45 ?_;exact A8 (Ah A6) ⟨by rw [AD8 hlt ht16 hx.2],rfl⟩):p:=h
theorem wz(k:q)(h:Hk q→p:=by intro qk;refine Z34 ?_;refine ae ?_;refine A2 [1,3,4,5] ?_;refine N6 ?_;exact qk.h):p:=h ⟨k⟩
theorem ABf(k:q)(h:Hk q→p:=by intro qk;refine A2 [] ?_;refine AB3 ?_;exact qk.h):p:=h ⟨k⟩
theorem AMa(k:q)(h:Hk q→p:=by intro qk;refine Z76 ?_;refine De [0,1,3,7,0,16,48,112,255,511,1023] 8 An (by kernel_rfl) ?_;exact qk.h):p:=h ⟨k⟩
theorem AMb(h:p:=by refine Z9 ?_;exact AFr):p:=h
theorem x5(k:q)(h:Hk q→p:=by intro qk;refine Z5 ?_;refine Fp ?_;exact qk.h):p:=h ⟨k⟩
theorem AMc(h:p:=by refine C4 ?_;exact A8 (Ah A6) ⟨by rw [hf],rfl⟩):p:=h
theorem AMd(h:p:=by refine Z45 ?_;exact A8 (Ah A6) ⟨by rw [hf],rfl⟩):p:=h
theorem AMe(k:q)(h:Hk q→p:=by intro qk;refine al ?_;refine De [0,1,3,0,8,24,56,127] 7 An (by kernel_rfl) ?_;exact qk.h):p:=h ⟨k⟩
theorem AMf(h:p:=by refine E1 Tryz.call136 (AOn c l k0 ra ha _) ?_;exact wn):p:=h
theorem AMg(h:p:=by refine Z48 ?_;exact A8 (Ah A6) ⟨by simp [hDl],rfl⟩):p:=h
theorem ol(k:q)(h:Hk q→p:=by intro qk;refine Z55 ?_;refine Z25 ?_;exact qk.h):p:=h ⟨k⟩
theorem oo(k:q)(h:Hk q→p:=by intro qk;refine Z27 ?_;refine Z99 ?_;exact qk.h):p:=h ⟨k⟩
theorem ABg(k:q)(h:Hk q→p:=by intro qk;refine K8 ?_;refine Z19 ?_;exact qk.h):p:=h ⟨k⟩
theorem AMh(k:q)(h:Hk q→p:=by intro qk;refine Z1 ?_;refine p8 ?_;exact qk.h):p:=h ⟨k⟩
theorem AFb(k:q)(h:Hk q→p:=by intro qk;refine Z35 ?_;refine A2 [0,1,2,6] ?_;exact qk.h):p:=h ⟨k⟩
theorem AFc(h:p:=by refine Z25 ?_;exact aa):p:=h
theorem AMi(k:q)(h:Hk q→p:=by intro qk;refine Z2 ?_;refine p8 ?_;exact qk.h):p:=h ⟨k⟩
theorem x6(k:q)(h:Hk q→p:=by intro qk;refine A4 ?_;refine Bi ?_;exact qk.h):p:=h ⟨k⟩
theorem x7(k:q)(h:Hk q→p:=by intro qk;refine Z38 ?_;refine K.lpE ?_;exact qk.h):p:=h ⟨k⟩
theorem AFd(h:p:=by refine Z33 ?_;exact Z41):p:=h
theorem ot(k:q)(h:Hk q→p:=by intro qk;refine Z47 ?_;refine Z7 ?_;exact qk.h):p:=h ⟨k⟩
theorem AJ5(k:q)(h:Hk q→p:=by intro qk;refine Fp ?_;refine Aa Tryz.call86 (c86 _) ?_;exact qk.h):p:=h ⟨k⟩
theorem AFe(h:p:=by refine AF8 ?_;refine gc ?_;refine Z6 ?_;exact ANa):p:=h
theorem AMj(k:q)(h:Hk q→p:=by intro qk;refine Bt Tryz.call125 (fun hB=>ANm e.text Qk hs (by decide) _) ?_;refine Z47 ?_;exact qk.h):p:=h ⟨k⟩
theorem AFf(k:q)(h:Hk q→p:=by intro qk;refine Z1 ?_;refine A2 [2,3,18] ?_;exact qk.h):p:=h ⟨k⟩
theorem ABh(k:q)(h:Hk q→p:=by intro qk;refine Z27 ?_;refine A2 [0] ?_;exact qk.h):p:=h ⟨k⟩
theorem ou(k:q)(h:Hk q→p:=by intro qk;refine Z90 ?_;refine Z2 ?_;exact qk.h):p:=h ⟨k⟩
theorem ov(k:q)(h:Hk q→p:=by intro qk;refine Z16 ?_;refine Z1 ?_;exact qk.h):p:=h ⟨k⟩
theorem AMk(h:p:=by refine C4 ?_;exact A8 (Ah A6) ⟨rfl,rfl⟩):p:=h
theorem AFg(h:p:=by refine Z16 ?_;refine Z42 ?_;exact ANh):p:=h
theorem AFh(h:p:=by refine Z1 ?_;refine AIy ?_;exact AM4):p:=h
theorem AFi(h:p:=by refine Z97 ?_;refine A2 [0,1,7,8] ?_;exact Bb (x+1) ⟨hlt,Cc hlt hx.2 ht16⟩ (by omega) (Cg rfl)):p:=h
theorem AMl(h:p:=by refine Z3 ?_;exact A8 (Ah A6) ⟨by simp,rfl⟩):p:=h
theorem AMm(k:q)(h:Hk q→p:=by intro qk;refine Z2 ?_;refine oy ?_;exact qk.h):p:=h ⟨k⟩
theorem AJ6(k:q)(h:Hk q→p:=by intro qk;refine A4 ?_;refine Aa Tryz.call77 (c77 e _) ?_;exact qk.h):p:=h ⟨k⟩
theorem AFj(h:p:=by refine Z0 ?_;refine Z26 ?_;exact A8 (Ah A6) ⟨by first|(rw [hgy hf];rfl)|(rw [hgv hf];rfl),rfl⟩):p:=h
theorem AFk(h:p:=by refine Z28 ?_;refine Z86 ?_;exact A8 (Ah A6) ⟨by rw [rc (Iu hxe hx.2)],rfl⟩):p:=h
theorem x8(k:q)(h:Hk q→p:=by intro qk;refine Z18 ?_;refine Z1 ?_;refine A2 [0,1,5,7,8] ?_;refine Z17 ?_;exact qk.h):p:=h ⟨k⟩
theorem AMn(h:p:=by refine K.lpE ?_;exact Fv .nores (hp:=by rw [hxe])):p:=h
theorem AFl(k:q)(h:Hk q→p:=by intro qk;refine A2 [3,9] ?_;refine Fh ?_;exact qk.h):p:=h ⟨k⟩
theorem AFm(k:q)(h:Hk q→p:=by intro qk;refine A2 [0,3,5] ?_;refine Z36 ?_;exact qk.h):p:=h ⟨k⟩
theorem AFn(k:q)(h:Hk q→p:=by intro qk;refine Z73 ?_;refine A2 [2,3,4] ?_;exact qk.h):p:=h ⟨k⟩
theorem AMo(k:q)(h:Hk q→p:=by intro qk;refine AFv ?_;refine Bb (z+1) hz2 (by omega) ?_;exact qk.h):p:=h ⟨k⟩
theorem x9(k:q)(h:Hk q→p:=by intro qk;refine Z61 ?_;refine Z36 ?_;refine A2 [0,1,7,8] ?_;exact qk.h):p:=h ⟨k⟩
theorem ABi(k:q)(h:Hk q→p:=by intro qk;refine Fp ?_;refine ALj ?_;exact qk.h):p:=h ⟨k⟩
theorem AMp(k:q)(h:Hk q→p:=by intro qk;refine Fp ?_;refine gk ?_;exact qk.h):p:=h ⟨k⟩
theorem AMq(h:p:=by refine Z3 ?_;exact A8 (Ah A6) ⟨rfl,rfl⟩):p:=h
theorem AFo(h:p:=by refine Z0 ?_;refine Z26 ?_;exact A8 (Ah A6) ⟨by rw [←yj];try rfl,rfl⟩):p:=h
theorem AMr(k:q)(h:Hk q→p:=by intro qk;refine De [0,0,0,7,15,15,63,127] 6 An (by kernel_rfl) ?_;refine Z11 ?_;exact qk.h):p:=h ⟨k⟩
theorem AMs(k:q)(h:Hk q→p:=by intro qk;refine Aa Tryz.call31 (c31 c hc hc2 l h (Bp c l row).1 hxr hxl _) ?_;refine Z75 ?_;exact qk.h):p:=h ⟨k⟩
theorem xa(h:p:=by exact ⟨rfl,Below.refl _ _⟩):p:=h
theorem ow(h:p:=by exact A8 (Ah A6)):p:=h
theorem L1(k:q)(h:Hk q→p:=by intro qk;refine R.assignT ?_;exact qk.h):p:=h ⟨k⟩
theorem Ln(k:q)(h:Hk q→p:=by intro qk;refine A2 [0,3] ?_;exact qk.h):p:=h ⟨k⟩
theorem al(k:q)(h:Hk q→p:=by intro qk;refine A2 [0,3,4] ?_;exact qk.h):p:=h ⟨k⟩
theorem AMt(h:p:=by exact h (y,j) (by rw [Ms];exact hj)):p:=h
theorem AMu(h:p:=by exact A8 (Ah A6) ⟨by simp [E2,ht5],rfl⟩):p:=h
theorem AMv(h:p:=by exact A8 (Ah A6) ⟨by simp [E2,ht5,ht16,ht22],rfl⟩):p:=h
theorem xb(k:q)(h:Hk q→p:=by intro qk;refine A2 [0,1,5,7,8,16] ?_;exact qk.h):p:=h ⟨k⟩
theorem Iq(k:q)(h:Hk q→p:=by intro qk;refine fq jS ?_;exact qk.h):p:=h ⟨k⟩
theorem Lo(k:q)(h:Hk q→p:=by intro qk;refine A2 [2,3] ?_;exact qk.h):p:=h ⟨k⟩
theorem oy(k:q)(h:Hk q→p:=by intro qk;refine U0 (places:=#[(0,1),(1,1),(2,1)]) jU (fun w=>by simp) jZ ?_;exact qk.h):p:=h ⟨k⟩
theorem AMw(h:p:=by exact A8 (Ah A6) ⟨by simp only [I6,hp,ht7,ht14,ht23,ht27,Il,Aq,if_false,if_true];try rfl,rfl⟩):p:=h
theorem AMx(h:p:=by exact A8 (Ay (Bu jA jS) A6) ⟨by simp only [kg,ht17,if_true,if_false,Aq];rfl,rfl⟩):p:=h
theorem Jk(k:q)(h:Hk q→p:=by intro qk;refine AW.block ?_;exact qk.h):p:=h ⟨k⟩
theorem Fp(k:q)(h:Hk q→p:=by intro qk;refine AW.seqR ?_;exact qk.h):p:=h ⟨k⟩
theorem AMy(h:p:=by exact A8 (M9 A6 A6 A6 A6) ⟨by simp only [Rr,ht11,ht17,if_true,if_false,Aq];try rfl,rfl⟩):p:=h
theorem AMz(h:p:=by exact A8 (M9 A6 A6 A6 A6) ⟨by simp only [Xw,ht18,ht23,if_true,if_false,Aq];try rfl,rfl⟩):p:=h
theorem AN0(h:p:=by exact A8 (M9 A6 A6 A6 A6) ⟨by simp only [D0,ht6,ht17,ht28,if_true,if_false,Aq],rfl⟩):p:=h
theorem ABj(h:p:=by exact absurd h (by decide)):p:=h
theorem oz(h:p:=by exact Ar _):p:=h
theorem Pm(k:q)(h:Hk q→p:=by intro qk;refine R.alloc jZ ?_;exact qk.h):p:=h ⟨k⟩
theorem AFp(k:q)(h:Hk q→p:=by intro qk;refine K.rdN (t7 hL (Cn (by decide)) (Cn (by decide))) ?_;exact qk.h):p:=h ⟨k⟩
theorem Pn(k:q)(h:Hk q→p:=by intro qk;refine R.buildSlice jU jS jZ ?_;exact qk.h):p:=h ⟨k⟩
theorem gk(k:q)(h:Hk q→p:=by intro qk;refine U0 (places:=#[(0,1),(1,1)]) jU (fun w=>by simp) jZ ?_;exact qk.h):p:=h ⟨k⟩
theorem ABk(h:p:=by exact ⟨hFRl,by simp [oid]⟩):p:=h
theorem ABl(h:p:=by exact Lp (fun x hx=>ObjLow.le (by omega) (hlow x hx)) hOl x hx):p:=h
theorem AJ7(k:q)(h:Hk q→p:=by intro qk;refine K.rdR (t7 hL (Cn (by decide)) (Cn (by decide))) ?_;exact qk.h):p:=h ⟨k⟩
theorem AFq(k:q)(h:Hk q→p:=by intro qk;refine K.rdN (AAw hL (Cn (by decide))) ?_;exact qk.h):p:=h ⟨k⟩
theorem gm(k:q)(h:Hk q→p:=by intro qk;refine Bb (x+1) hlt (by omega) ?_;exact qk.h):p:=h ⟨k⟩
theorem Wb(k:q)(h:Hk q→p:=by intro qk;refine A2 [0,1,2] ?_;exact qk.h):p:=h ⟨k⟩
theorem p8(k:q)(h:Hk q→p:=by intro qk;refine U0 (places:=#[(0,1),(1,1),(2,3),(5,1)]) jU (fun w=>by simp) jZ ?_;exact qk.h):p:=h ⟨k⟩
theorem gn(k:q)(h:Hk q→p:=by intro qk;refine A2 [1,3,4] ?_;exact qk.h):p:=h ⟨k⟩
theorem AN1(h:p:=by exact A8 (Ah (Bu Tryz.isAgg130 Tryz.sizeOf130)) ⟨by simp_all [Jr],rfl⟩):p:=h
theorem AN2(h:p:=by exact A8 (Ay A6 A6) ⟨by simp_all [Fa],rfl⟩):p:=h
theorem xc(k:q)(h:Hk q→p:=by intro qk;refine A2 [2,6,13,14,15] ?_;exact qk.h):p:=h ⟨k⟩
theorem AFr(h:p:=by exact A8 (Ay A6 A6) ⟨by rw [hk],rfl⟩):p:=h
theorem AFs(h:p:=by exact A8 (Ay A6 A6) ⟨by rw [hk,hk2],rfl⟩):p:=h
theorem ka(h:p:=by exact A8 (Ah A6) ⟨by rw [hm],rfl⟩):p:=h
theorem AJ8(h:p:=by exact A8 (Ay A6 A6) ⟨by rw [hm]<;>rfl,rfl⟩):p:=h
theorem AN3(h:p:=by exact A8 (Ah A6) ⟨by rw [hn];first|(simp only [ht22,ht25,ht33,ht41,ht41,ht50,ht58,hk3,hk6,Bg,B4,Gm,K6,if_true,if_false,Aq,↓reduceIte]<;>rfl)|(simp only [ht22,ht25,ht33,ht41,ht41,ht50,ht58,hk3,Bg,B4,Gm,if_true,if_false,Aq,↓reduceIte]<;>rfl)|(simp only [ht22,ht25,ht33,ht41,ht41,ht50,ht58,if_true,if_false,Aq,↓reduceIte]<;>rfl),rfl⟩):p:=h
theorem ABm(h:p:=by exact A8 (Ah A6) ⟨by rw [hm]<;>rfl,rfl⟩):p:=h
theorem AN4(h:p:=by exact A8 (Ay A6 A6) ⟨by rw [hm],rfl⟩ (hlow:=by simp only [Qg,B5,El,or_false];rintro y (rfl|rfl);exact F3;simp)):p:=h
theorem AFt(h:p:=by exact absurd h (by simpa using h1)):p:=h
theorem AN5(h:p:=by exact A8 (Ay (Bu jA jS) A6) ⟨by rw [hm];show _=AV.tup [A9 Ap,Bk false];rw [At];rfl,rfl⟩ (hlow:=by simp [or_imp,forall_and])):p:=h
theorem AN6(h:p:=by exact A8 (Ay (Bu jA jS) A6) ⟨by rw [hm];show _=AV.tup [A9 Ap,A5 _];rw [At];rfl,rfl⟩ (hlow:=by simp [or_imp,forall_and])):p:=h
theorem am(h:p:=by exact Zd _):p:=h
theorem xd(h:p:=by exact hcmp _ rfl rfl hf):p:=h
theorem ABn(h:p:=by exact har _ rfl rfl rfl hf):p:=h
theorem AN7(h:p:=by exact A8 (Ay A6 A6) ⟨by rw [hsh]<;>rfl,rfl⟩):p:=h
theorem AN8(h:p:=by exact A8 (Ay (Bu jA jS) A6) ⟨by rw [hw];try rfl,rfl⟩):p:=h
theorem AN9(h:p:=by exact A8 (Ay A6 A6) ⟨by simp_all [Jb],rfl⟩):p:=h
theorem AFu(h:p:=by exact A8 (Ay A6 A6) ⟨by rw [hm],rfl⟩):p:=h
theorem ANa(h:p:=by exact A8 (Ay (Bu Tryz.isAgg23 Tryz.sizeOf23) A6) ⟨by simp_all [Kn],rfl⟩):p:=h
theorem ABo(h:p:=by exact A8 (Ay (Bu jA jS) A6) ⟨by rw [hm];try rfl,rfl⟩):p:=h
theorem ANb(h:p:=by exact A8 (Ah (Bu jA jS)) ⟨by rw [hm];try rfl,rfl⟩):p:=h
theorem ANc(k:q)(h:Hk q→p:=by intro qk;refine Y.alloc (zs:=[A5 0,A5 0,Ae []]) (n:=1) (u:=Hp.length) Tryz.zeroValue23 (fun B hT hF hB=>⟨rfl,by simp [hB],by simp [upd,hB,hF 1 (by simp)],rfl⟩) ?_;exact qk.h):p:=h ⟨k⟩
theorem ABp(k:q)(h:Hk q→p:=by intro qk;refine A2 [1,2,8,13,14,15] ?_;exact qk.h):p:=h ⟨k⟩
theorem ABq(k:q)(h:Hk q→p:=by intro qk;refine A2 [1,3,6,10,12,27,28,29] ?_;exact qk.h):p:=h ⟨k⟩
theorem ANd(h:p:=by exact A8 (Ay (Gv jA) (Gv jA)) ⟨by rw [hm]<;>rfl,rfl⟩):p:=h
theorem an(h:p:=by exact D.end rfl rfl):p:=h
theorem ANe(h:p:=by exact ⟨f5 i,hl.step hi (by rw [hk];decide)⟩):p:=h
theorem p9(h:p:=by exact ⟨by omega,c2,c3⟩):p:=h
theorem ABr(h:p:=by exact (Do hX (e)).elim):p:=h
theorem ANf(h:p:=by exact (Do hX (by first|exact by unfold Vw;rw [hT];rfl|exact hT)).elim):p:=h
theorem ANg(h:p:=by exact (AOs L i o _ (Ag (Fs ho hne)) hi hl hll).ok hT):p:=h
theorem ABs(k:q)(h:Hk q→p:=by intro qk;refine AW.upEq (Tk ho hm).symm ?_;exact qk.h):p:=h ⟨k⟩
theorem AFv(k:q)(h:Hk q→p:=by intro qk;refine A2 [6,8,9,10,11,13,54,55,56] ?_;exact qk.h):p:=h ⟨k⟩
theorem ANh(h:p:=by exact A8 (Ah (Bu jA jS)) ⟨by first|exact AJz (by simp_all [E9])|exact AD5 (by simp_all [E9])|exact AK0 (by simp_all [E9]),rfl⟩):p:=h
theorem ANi(h:p:=by exact A8 (Ah (Bu jA jS)) ⟨by first|exact AD5 (by simp_all [Dn]),rfl⟩):p:=h
theorem AJ9(h:p:=by exact A8 (Ah A6) ⟨by simp_all [I8,Nk,ye],rfl⟩):p:=h
theorem ANj(h:p:=by exact A8 (Ah A6) ⟨by simp_all [Dl,Nk],rfl⟩):p:=h
end Go.SX.Nb
namespace Go.SX.Nb
open Go Go.SX Go.Proofs
@[reducible,instance] def JA2:=JA.mk (P:=Tryz.prog) Tryz.isAgg2
@[reducible,instance] def JA3:=JA.mk (P:=Tryz.prog) Tryz.isAgg3
@[reducible,instance] def JA4:=JA.mk (P:=Tryz.prog) Tryz.isAgg4
@[reducible,instance] def JA9:=JA.mk (P:=Tryz.prog) Tryz.isAgg9
@[reducible,instance] def ASp:=JA.mk (P:=Tryz.prog) Tryz.isAgg23
@[reducible,instance] def ASq:=JA.mk (P:=Tryz.prog) Tryz.isAgg24
@[reducible,instance] def ASr:=JA.mk (P:=Tryz.prog) Tryz.isAgg26
@[reducible,instance] def ASs:=JA.mk (P:=Tryz.prog) Tryz.isAgg27
@[reducible,instance] def ASt:=JA.mk (P:=Tryz.prog) Tryz.isAgg28
@[reducible,instance] def ASu:=JA.mk (P:=Tryz.prog) Tryz.isAgg35
@[reducible,instance] def ASv:=JA.mk (P:=Tryz.prog) Tryz.isAgg41
@[reducible,instance] def ASw:=JA.mk (P:=Tryz.prog) Tryz.isAgg45
@[reducible,instance] def ASx:=JA.mk (P:=Tryz.prog) Tryz.isAgg46
@[reducible,instance] def ASy:=JA.mk (P:=Tryz.prog) Tryz.isAgg48
@[reducible,instance] def ASz:=JA.mk (P:=Tryz.prog) Tryz.isAgg59
@[reducible,instance] def AT0:=JA.mk (P:=Tryz.prog) Tryz.isAgg69
@[reducible,instance] def AT1:=JA.mk (P:=Tryz.prog) Tryz.isAgg83
@[reducible,instance] def ARy:=JA.mk (P:=Tryz.prog) Tryz.isAgg107
@[reducible,instance] def ARz:=JA.mk (P:=Tryz.prog) Tryz.isAgg113
@[reducible,instance] def AS0:=JA.mk (P:=Tryz.prog) Tryz.isAgg128
@[reducible,instance] def AS1:=JA.mk (P:=Tryz.prog) Tryz.isAgg130
@[reducible,instance] def AS2:=JA.mk (P:=Tryz.prog) Tryz.isAgg142
@[reducible,instance] def AS3:=JA.mk (P:=Tryz.prog) Tryz.isAgg169
@[reducible,instance] def AS4:=JA.mk (P:=Tryz.prog) Tryz.isAgg227
@[reducible,instance] def JS2:=JS.mk (P:=Tryz.prog) Tryz.sizeOf2
@[reducible,instance] def JS3:=JS.mk (P:=Tryz.prog) Tryz.sizeOf3
@[reducible,instance] def JS4:=JS.mk (P:=Tryz.prog) Tryz.sizeOf4
@[reducible,instance] def JS9:=JS.mk (P:=Tryz.prog) Tryz.sizeOf9
@[reducible,instance] def AT2:=JS.mk (P:=Tryz.prog) Tryz.sizeOf23
@[reducible,instance] def AT3:=JS.mk (P:=Tryz.prog) Tryz.sizeOf24
@[reducible,instance] def AT4:=JS.mk (P:=Tryz.prog) Tryz.sizeOf26
@[reducible,instance] def AT5:=JS.mk (P:=Tryz.prog) Tryz.sizeOf27
@[reducible,instance] def AT6:=JS.mk (P:=Tryz.prog) Tryz.sizeOf28
@[reducible,instance] def AT7:=JS.mk (P:=Tryz.prog) Tryz.sizeOf35
@[reducible,instance] def AT8:=JS.mk (P:=Tryz.prog) Tryz.sizeOf41
@[reducible,instance] def AT9:=JS.mk (P:=Tryz.prog) Tryz.sizeOf45
@[reducible,instance] def ATa:=JS.mk (P:=Tryz.prog) Tryz.sizeOf46
@[reducible,instance] def ATb:=JS.mk (P:=Tryz.prog) Tryz.sizeOf48
@[reducible,instance] def ATc:=JS.mk (P:=Tryz.prog) Tryz.sizeOf59
@[reducible,instance] def ATd:=JS.mk (P:=Tryz.prog) Tryz.sizeOf69
@[reducible,instance] def ATe:=JS.mk (P:=Tryz.prog) Tryz.sizeOf83
@[reducible,instance] def AS5:=JS.mk (P:=Tryz.prog) Tryz.sizeOf107
@[reducible,instance] def AS6:=JS.mk (P:=Tryz.prog) Tryz.sizeOf113
@[reducible,instance] def AS7:=JS.mk (P:=Tryz.prog) Tryz.sizeOf118
@[reducible,instance] def AS8:=JS.mk (P:=Tryz.prog) Tryz.sizeOf128
@[reducible,instance] def AS9:=JS.mk (P:=Tryz.prog) Tryz.sizeOf130
@[reducible,instance] def JU2:=JU.mk (P:=Tryz.prog) Tryz.underlying2
@[reducible,instance] def JU3:=JU.mk (P:=Tryz.prog) Tryz.underlying3
@[reducible,instance] def JU4:=JU.mk (P:=Tryz.prog) Tryz.underlying4
@[reducible,instance] def JU5:=JU.mk (P:=Tryz.prog) Tryz.underlying5
@[reducible,instance] def JU9:=JU.mk (P:=Tryz.prog) Tryz.underlying9
@[reducible,instance] def ATf:=JU.mk (P:=Tryz.prog) Tryz.underlying20
@[reducible,instance] def ATg:=JU.mk (P:=Tryz.prog) Tryz.underlying23
@[reducible,instance] def ATh:=JU.mk (P:=Tryz.prog) Tryz.underlying24
@[reducible,instance] def ATi:=JU.mk (P:=Tryz.prog) Tryz.underlying26
@[reducible,instance] def ATj:=JU.mk (P:=Tryz.prog) Tryz.underlying27
@[reducible,instance] def ATk:=JU.mk (P:=Tryz.prog) Tryz.underlying28
@[reducible,instance] def ATl:=JU.mk (P:=Tryz.prog) Tryz.underlying41
@[reducible,instance] def ATm:=JU.mk (P:=Tryz.prog) Tryz.underlying45
@[reducible,instance] def ATn:=JU.mk (P:=Tryz.prog) Tryz.underlying46
@[reducible,instance] def ATo:=JU.mk (P:=Tryz.prog) Tryz.underlying48
@[reducible,instance] def ATp:=JU.mk (P:=Tryz.prog) Tryz.underlying59
@[reducible,instance] def ATq:=JU.mk (P:=Tryz.prog) Tryz.underlying69
@[reducible,instance] def ATr:=JU.mk (P:=Tryz.prog) Tryz.underlying83
@[reducible,instance] def ASa:=JU.mk (P:=Tryz.prog) Tryz.underlying107
@[reducible,instance] def ASb:=JU.mk (P:=Tryz.prog) Tryz.underlying113
@[reducible,instance] def ASc:=JU.mk (P:=Tryz.prog) Tryz.underlying120
@[reducible,instance] def ASd:=JU.mk (P:=Tryz.prog) Tryz.underlying128
@[reducible,instance] def ASe:=JU.mk (P:=Tryz.prog) Tryz.underlying130
@[reducible,instance] def ASf:=JU.mk (P:=Tryz.prog) Tryz.underlying144
@[reducible,instance] def ASg:=JU.mk (P:=Tryz.prog) Tryz.underlying171
@[reducible,instance] def ASh:=JU.mk (P:=Tryz.prog) Tryz.underlying233
@[reducible,instance] def ASi:=JU.mk (P:=Tryz.prog) Tryz.underlying240
@[reducible,instance] def JZ3:=JZ.mk (P:=Tryz.prog) Tryz.zeroValue3
@[reducible,instance] def JZ4:=JZ.mk (P:=Tryz.prog) Tryz.zeroValue4
@[reducible,instance] def JZ9:=JZ.mk (P:=Tryz.prog) Tryz.zeroValue9
@[reducible,instance] def ATs:=JZ.mk (P:=Tryz.prog) Tryz.zeroValue23
@[reducible,instance] def ATt:=JZ.mk (P:=Tryz.prog) Tryz.zeroValue24
@[reducible,instance] def ATu:=JZ.mk (P:=Tryz.prog) Tryz.zeroValue26
@[reducible,instance] def ATv:=JZ.mk (P:=Tryz.prog) Tryz.zeroValue27
@[reducible,instance] def ATw:=JZ.mk (P:=Tryz.prog) Tryz.zeroValue28
@[reducible,instance] def ATx:=JZ.mk (P:=Tryz.prog) Tryz.zeroValue35
@[reducible,instance] def ATy:=JZ.mk (P:=Tryz.prog) Tryz.zeroValue41
@[reducible,instance] def ATz:=JZ.mk (P:=Tryz.prog) Tryz.zeroValue45
@[reducible,instance] def AU0:=JZ.mk (P:=Tryz.prog) Tryz.zeroValue46
@[reducible,instance] def AU1:=JZ.mk (P:=Tryz.prog) Tryz.zeroValue48
@[reducible,instance] def AU2:=JZ.mk (P:=Tryz.prog) Tryz.zeroValue59
@[reducible,instance] def AU3:=JZ.mk (P:=Tryz.prog) Tryz.zeroValue69
@[reducible,instance] def AU4:=JZ.mk (P:=Tryz.prog) Tryz.zeroValue83
@[reducible,instance] def ASj:=JZ.mk (P:=Tryz.prog) Tryz.zeroValue107
@[reducible,instance] def ASk:=JZ.mk (P:=Tryz.prog) Tryz.zeroValue113
@[reducible,instance] def ASl:=JZ.mk (P:=Tryz.prog) Tryz.zeroValue120
@[reducible,instance] def ASm:=JZ.mk (P:=Tryz.prog) Tryz.zeroValue130
@[reducible,instance] def ASn:=JZ.mk (P:=Tryz.prog) Tryz.zeroValue144
@[reducible,instance] def ASo:=JZ.mk (P:=Tryz.prog) Tryz.zeroValue171
end Go.SX.Nb
