/- On the way (part 3). -/
import Derived.Test.YtofbdcbjpdpllaaGreatDoorProg
import Derived.Test.YtofbdcbjpdpllaaGreatDoorImageNamesCardSaidPart2
set_option linter.all false
namespace Go.SX.Nb
open Go Go.SX Go.Proofs
structure Hk (q:Prop):Prop where h:q
variable {p q:Prop}
theorem Z0(k:q)(h:Hk q→p:=by intro qk;refine A5 ?_;refine A5 ?_;exact qk.h):p:=h ⟨k⟩
theorem Z1(k:q)(h:Hk q→p:=by intro qk;refine E5 ?_;refine Z0 ?_;exact qk.h):p:=h ⟨k⟩
theorem Z2(k:q)(h:Hk q→p:=by intro qk;refine E5 ?_;refine A5 ?_;exact qk.h):p:=h ⟨k⟩
theorem Z4(k:q)(h:Hk q→p:=by intro qk;refine A2 [2] ?_;refine Ep ?_;exact qk.h):p:=h ⟨k⟩
theorem Z5(k:q)(h:Hk q→p:=by intro qk;refine K.blR ?_;refine Bz ?_;exact qk.h):p:=h ⟨k⟩
theorem Z6(k:q)(h:Hk q→p:=by intro qk;refine Kt ?_;refine Gm ?_;exact qk.h):p:=h ⟨k⟩
theorem Z9(k:q)(h:Hk q→p:=by intro qk;refine H9 ?_;refine Z4 ?_;exact qk.h):p:=h ⟨k⟩
theorem Z10(k:q)(h:Hk q→p:=by intro qk;refine Ci ?_;refine Ci ?_;exact qk.h):p:=h ⟨k⟩
theorem Z11(k:q)(h:Hk q→p:=by intro qk;refine A2 [4,5] ?_;refine Ep ?_;exact qk.h):p:=h ⟨k⟩
theorem Z12(k:q)(h:Hk q→p:=by intro qk;refine An ?_;refine An ?_;exact qk.h):p:=h ⟨k⟩
theorem Z13(k:q)(h:Hk q→p:=by intro qk;refine Z1 ?_;refine A5 ?_;exact qk.h):p:=h ⟨k⟩
theorem Z14(k:q)(h:Hk q→p:=by intro qk;refine Lv ?_;refine Gm ?_;exact qk.h):p:=h ⟨k⟩
theorem Z15(k:q)(h:Hk q→p:=by intro qk;refine H9 ?_;refine A5 ?_;exact qk.h):p:=h ⟨k⟩
theorem Z16(h:p:=by refine Z5 ?_;exact sy):p:=h
theorem Z17(k:q)(h:Hk q→p:=by intro qk;refine Kt ?_;refine Z14 ?_;exact qk.h):p:=h ⟨k⟩
theorem Z18(k:q)(h:Hk q→p:=by intro qk;refine O6 ?_;refine H9 ?_;exact qk.h):p:=h ⟨k⟩
theorem Z19(k:q)(h:Hk q→p:=by intro qk;refine Z1 ?_;refine Z0 ?_;exact qk.h):p:=h ⟨k⟩
theorem Z20(k:q)(h:Hk q→p:=by intro qk;refine He ?_;refine Z0 ?_;exact qk.h):p:=h ⟨k⟩
theorem Z21(k:q)(h:Hk q→p:=by intro qk;refine Jt ?_;refine Jv ?_;exact qk.h):p:=h ⟨k⟩
theorem Z22(k:q)(h:Hk q→p:=by intro qk;refine E5 ?_;refine Pq ?_;refine Zo ?_;exact qk.h):p:=h ⟨k⟩
theorem Z23(k:q)(h:Hk q→p:=by intro qk;refine A2 [4] ?_;refine Ep ?_;exact qk.h):p:=h ⟨k⟩
theorem Z25(k:q)(h:Hk q→p:=by intro qk;refine E5 ?_;refine O6 ?_;exact qk.h):p:=h ⟨k⟩
theorem Z26(h:p:=by refine Bz ?_;exact sy):p:=h
theorem Z27(h:p:=by refine Bz ?_;exact ni):p:=h
theorem Z28(k:q)(h:Hk q→p:=by intro qk;refine Z0 ?_;refine A5 ?_;exact qk.h):p:=h ⟨k⟩
theorem Z29(k:q)(h:Hk q→p:=by intro qk;refine Jt ?_;refine Z1 ?_;exact qk.h):p:=h ⟨k⟩
theorem Z30(k:q)(h:Hk q→p:=by intro qk;refine A2 [6,7] ?_;refine Ep ?_;exact qk.h):p:=h ⟨k⟩
theorem Z31(k:q)(h:Hk q→p:=by intro qk;refine Z22 ?_;refine Z9 ?_;exact qk.h):p:=h ⟨k⟩
theorem Z32(k:q)(h:Hk q→p:=by intro qk;refine Jt ?_;refine Z13 ?_;exact qk.h):p:=h ⟨k⟩
theorem Z33(k:q)(h:Hk q→p:=by intro qk;refine K.lpE ?_;refine Gm ?_;exact qk.h):p:=h ⟨k⟩
theorem Z34(k:q)(h:Hk q→p:=by intro qk;refine Z10 ?_;refine Ci ?_;exact qk.h):p:=h ⟨k⟩
theorem Z35(k:q)(h:Hk q→p:=by intro qk;refine Jt ?_;refine Z2 ?_;exact qk.h):p:=h ⟨k⟩
theorem Z36(k:q)(h:Hk q→p:=by intro qk;refine Z15 ?_;refine Z11 ?_;exact qk.h):p:=h ⟨k⟩
theorem Z38(k:q)(h:Hk q→p:=by intro qk;refine Z5 ?_;refine K.lpR ?_;exact qk.h):p:=h ⟨k⟩
theorem Z39(k:q)(h:Hk q→p:=by intro qk;refine Z12 ?_;refine An ?_;exact qk.h):p:=h ⟨k⟩
theorem Z40(h:p:=by refine Z5 ?_;exact A8 (Aj A6) ⟨by rw [hn];first|(simp only [ht22,ht25,ht33,ht41,ht41,hk3,hk6,Jm,F5,Kq,Oi,if_true,if_false,B2,↓reduceIte]<;>rfl)|(simp only [ht22,ht25,ht33,ht41,ht41,hk3,Jm,F5,Kq,if_true,if_false,B2,↓reduceIte]<;>rfl)|(simp only [ht22,ht25,ht33,ht41,ht41,if_true,if_false,B2,↓reduceIte]<;>rfl),rfl⟩):p:=h
theorem Z41(h:p:=by refine Bz ?_;exact ABi):p:=h
theorem Z42(k:q)(h:Hk q→p:=by intro qk;refine Ju ?_;refine Ep ?_;exact qk.h):p:=h ⟨k⟩
theorem Z43(k:q)(h:Hk q→p:=by intro qk;refine A9 Tryz.call43 (c43 _ _) ?_;refine Z0 ?_;exact qk.h):p:=h ⟨k⟩
theorem Z44(h:p:=by refine Z5 ?_;exact AEj):p:=h
theorem Z45(h:p:=by refine Z36 ?_;exact sy):p:=h
theorem Z46(k:q)(h:Hk q→p:=by intro qk;refine Z2 ?_;refine A2 [0] ?_;exact qk.h):p:=h ⟨k⟩
theorem Z47(k:q)(h:Hk q→p:=by intro qk;refine Z25 ?_;refine A2 [0,2] ?_;exact qk.h):p:=h ⟨k⟩
theorem Z48(h:p:=by refine U1 jU jS jZ ?_;exact Zp):p:=h
theorem Z49(k:q)(h:Hk q→p:=by intro qk;refine AEd ?_;refine Y.storeOwnT (u:=Hp.length) (n:=1) (t':=23) (cs:=[A4 0,A4 0,Ad []]) (cs':=[A4 (Ay ra).1.kind,A4 (Ay ra).1.n,Ad (Ay ra).1.s]) Tryz.sizeOf23 (fun B hT hF hB=>⟨rfl,by simp [hT 0 (by simp),hB],by simp [upd,hT 0 (by simp),hB],rfl⟩) ?_;exact qk.h):p:=h ⟨k⟩
theorem Z50(k:q)(h:Hk q→p:=by intro qk;refine A2 [6] ?_;refine Ep ?_;exact qk.h):p:=h ⟨k⟩
theorem Z51(h:p:=by refine Z31 ?_;refine Z5 ?_;exact AEi):p:=h
theorem Z52(k:q)(h:Hk q→p:=by intro qk;refine A2 [2,3,4,5] ?_;refine Ep ?_;exact qk.h):p:=h ⟨k⟩
theorem Z53(k:q)(h:Hk q→p:=by intro qk;refine Z2 ?_;refine A2 [0,1] ?_;exact qk.h):p:=h ⟨k⟩
theorem Z54(k:q)(h:Hk q→p:=by intro qk;refine Z2 ?_;refine D9 Tryz.call204 ho (by simp) D4 (ux l S o _ (Ag ho) hi hll) ?_;exact qk.h):p:=h ⟨k⟩
theorem Z55(k:q)(h:Hk q→p:=by intro qk;refine Jt ?_;refine Z19 ?_;exact qk.h):p:=h ⟨k⟩
theorem Z57(k:q)(h:Hk q→p:=by intro qk;refine Z0 ?_;refine Z4 ?_;exact qk.h):p:=h ⟨k⟩
theorem Z58(k:q)(h:Hk q→p:=by intro qk;refine Z17 ?_;refine Z20 ?_;exact qk.h):p:=h ⟨k⟩
theorem Z59(k:q)(h:Hk q→p:=by intro qk;refine Z0 ?_;refine Z10 ?_;exact qk.h):p:=h ⟨k⟩
theorem Z60(k:q)(h:Hk q→p:=by intro qk;refine O6 ?_;refine A5 ?_;exact qk.h):p:=h ⟨k⟩
theorem Z61(k:q)(h:Hk q→p:=by intro qk;refine Z2 ?_;refine Z4 ?_;exact qk.h):p:=h ⟨k⟩
theorem Z62(k:q)(h:Hk q→p:=by intro qk;refine Z38 ?_;refine Bz ?_;exact qk.h):p:=h ⟨k⟩
theorem Z63(k:q)(h:Hk q→p:=by intro qk;refine Z0 ?_;refine Z28 ?_;exact qk.h):p:=h ⟨k⟩
theorem Z64(k:q)(h:Hk q→p:=by intro qk;refine Jt ?_;refine E5 ?_;exact qk.h):p:=h ⟨k⟩
theorem Z65(k:q)(h:Hk q→p:=by intro qk;refine E5 ?_;refine ng ?_;exact qk.h):p:=h ⟨k⟩
theorem Z66(h:p:=by refine Bz ?_;exact A8 (Aj (B8 jA jS)) ⟨by rw [e,Am],by rw [e]⟩ (hlow:=low_agg _)):p:=h
theorem Z68(h:p:=by refine Z12 ?_;exact Zp):p:=h
theorem Z69(k:q)(h:Hk q→p:=by intro qk;refine Fl ?_;refine Fl ?_;exact qk.h):p:=h ⟨k⟩
theorem Z70(k:q)(h:Hk q→p:=by intro qk;refine AW.exit ?_;refine K.thE ?_;exact qk.h):p:=h ⟨k⟩
theorem Z71(k:q)(h:Hk q→p:=by intro qk;refine A5 ?_;refine Pq ?_;exact qk.h):p:=h ⟨k⟩
theorem Z72(h:p:=by refine An ?_;exact Zp):p:=h
theorem Z73(k:q)(h:Hk q→p:=by intro qk;refine Z2 ?_;refine Z23 ?_;exact qk.h):p:=h ⟨k⟩
theorem Z74(k:q)(h:Hk q→p:=by intro qk;refine Z0 ?_;refine Z0 ?_;exact qk.h):p:=h ⟨k⟩
theorem Z75(h:p:=by refine Z36 ?_;exact Z16):p:=h
theorem Z76(k:q)(h:Hk q→p:=by intro qk;refine Z1 ?_;refine A2 [2,18] ?_;exact qk.h):p:=h ⟨k⟩
theorem Z77(k:q)(h:Hk q→p:=by intro qk;refine He ?_;refine A5 ?_;exact qk.h):p:=h ⟨k⟩
theorem Z78(h:p:=by refine Z31 ?_;refine Z5 ?_;exact AEh):p:=h
theorem Z80(k:q)(h:Hk q→p:=by intro qk;refine Z12 ?_;refine Gl ?_;exact qk.h):p:=h ⟨k⟩
theorem Z81(h:p:=by refine A2 [0,1,7,8] ?_;exact Bp (x+1) ⟨hlt,Gc hlt hx.2 ht16⟩ (by omega) (Ea rfl)):p:=h
theorem Z82(k:q)(h:Hk q→p:=by intro qk;refine Z1 ?_;refine A2 [2,3,9] ?_;exact qk.h):p:=h ⟨k⟩
theorem Z83(k:q)(h:Hk q→p:=by intro qk;refine Z21 ?_;refine Z2 ?_;exact qk.h):p:=h ⟨k⟩
theorem Z84(k:q)(h:Hk q→p:=by intro qk;refine A2 [] ?_;refine Lv ?_;exact qk.h):p:=h ⟨k⟩
theorem Z85(k:q)(h:Hk q→p:=by intro qk;refine Z34 ?_;refine Z0 ?_;exact qk.h):p:=h ⟨k⟩
theorem Z86(h:p:=by refine Bz ?_;exact nj):p:=h
theorem Z87(h:p:=by refine Z5 ?_;exact AE6):p:=h
theorem Z88(k:q)(h:Hk q→p:=by intro qk;refine Z21 ?_;refine E5 ?_;exact qk.h):p:=h ⟨k⟩
theorem Z90(h:p:=by refine Z17 ?_;refine Z22 ?_;refine Z9 ?_;exact AEi):p:=h
theorem Z91(k:q)(h:Hk q→p:=by intro qk;refine Z10 ?_;refine Z57 ?_;exact qk.h):p:=h ⟨k⟩
theorem Z92(k:q)(h:Hk q→p:=by intro qk;refine Jv ?_;refine Z1 ?_;exact qk.h):p:=h ⟨k⟩
theorem Z93(k:q)(h:Hk q→p:=by intro qk;refine Z60 ?_;refine H9 ?_;exact qk.h):p:=h ⟨k⟩
theorem Z94(k:q)(h:Hk q→p:=by intro qk;refine A5 ?_;refine Z30 ?_;exact qk.h):p:=h ⟨k⟩
theorem Z95(k:q)(h:Hk q→p:=by intro qk;refine Z1 ?_;refine Z11 ?_;exact qk.h):p:=h ⟨k⟩
theorem Z96(k:q)(h:Hk q→p:=by intro qk;refine Z6 ?_;refine Z2 ?_;exact qk.h):p:=h ⟨k⟩
theorem Z97(h:p:=by refine Z73 ?_;exact A8 (Aj A6) ⟨by rw [j4 (dg hxe hx.2)],rfl⟩):p:=h
theorem Z98(k:q)(h:Hk q→p:=by intro qk;refine Ep ?_;refine Bz ?_;exact qk.h):p:=h ⟨k⟩
theorem Z99(h:p:=by refine Z73 ?_;exact ni):p:=h
theorem AB4(k:q)(h:Hk q→p:=by intro qk;refine E5 ?_;refine sw ?_;exact qk.h):p:=h ⟨k⟩
theorem AD3(h:p:=by refine Z4 ?_;exact A8 (Aj A6) ⟨rfl,rfl⟩ (hlow:=by simp [or_imp,forall_and];exact ⟨fun m _ a _=>As _ a,fun m _ a _=>As _ a⟩)):p:=h
theorem AB5(h:p:=by refine Z23 ?_;exact gh):p:=h
theorem br(k:q)(h:Hk q→p:=by intro qk;refine Z18 ?_;refine A2 [0,2,3] ?_;exact qk.h):p:=h ⟨k⟩
theorem g9(k:q)(h:Hk q→p:=by intro qk;refine R.nilTmp 6 3 false ?_;refine Z94 ?_;exact qk.h):p:=h ⟨k⟩
theorem AB6(h:p:=by refine Z62 ?_;exact A8 (Aj A6) ⟨by rw [vq hlt ht16 hx.2],rfl⟩):p:=h
theorem We(k:q)(h:Hk q→p:=by intro qk;refine E5 ?_;refine Z43 ?_;exact qk.h):p:=h ⟨k⟩
theorem Sr(k:q)(h:Hk q→p:=by intro qk;refine Z14 ?_;refine Z20 ?_;exact qk.h):p:=h ⟨k⟩
theorem Wf(k:q)(h:Hk q→p:=by intro qk;refine Z1 ?_;refine A2 [1] ?_;exact qk.h):p:=h ⟨k⟩
theorem AB7(k:q)(h:Hk q→p:=by intro qk;refine Z1 ?_;refine sw ?_;exact qk.h):p:=h ⟨k⟩
theorem AB8(h:p:=by refine Z23 ?_;exact A8 (Aj A6) ⟨by rw [←oz];try rfl,rfl⟩):p:=h
theorem AB9(k:q)(h:Hk q→p:=by intro qk;refine sw ?_;refine Z9 ?_;exact qk.h):p:=h ⟨k⟩
theorem ABa(k:q)(h:Hk q→p:=by intro qk;refine Eb [0,0,2,6,14,31,63,63,255,511] 8 Al (by kernel_rfl) ?_;refine Z39 ?_;exact qk.h):p:=h ⟨k⟩
theorem Ss(k:q)(h:Hk q→p:=by intro qk;refine Z15 ?_;refine Z42 ?_;exact qk.h):p:=h ⟨k⟩
theorem U6(k:q)(h:Hk q→p:=by intro qk;refine Ci ?_;refine A5 ?_;exact qk.h):p:=h ⟨k⟩
theorem U7(k:q)(h:Hk q→p:=by intro qk;refine Z10 ?_;refine A5 ?_;exact qk.h):p:=h ⟨k⟩
theorem ABb(k:q)(h:Hk q→p:=by intro qk;refine Z2 ?_;refine ng ?_;exact qk.h):p:=h ⟨k⟩
theorem AD4(k:q)(h:Hk q→p:=by intro qk;refine Fo (tn:=[9,10]) (O:=[.cells 23 [A4 0,A4 0,Ad []],.cells 23 [A4 (Ay ra).1.kind,A4 (Ay ra).1.n,Ad (Ay ra).1.s]]) ?_;refine A5 ?_;exact qk.h):p:=h ⟨k⟩
theorem sa(h:p:=by refine Z57 ?_;exact gh):p:=h
theorem Su(k:q)(h:Hk q→p:=by intro qk;refine Z6 ?_;refine Z13 ?_;exact qk.h):p:=h ⟨k⟩
theorem xn(h:p:=by refine Z9 ?_;exact A8 (Aj (B8 jA jS))):p:=h
theorem Wg(k:q)(h:Hk q→p:=by intro qk;refine A5 ?_;refine Z18 ?_;exact qk.h):p:=h ⟨k⟩
theorem ga(k:q)(h:Hk q→p:=by intro qk;refine H9 ?_;refine Z50 ?_;exact qk.h):p:=h ⟨k⟩
theorem ABc(h:p:=by refine Z11 ?_;exact ABj):p:=h
theorem AD5(h:p:=by refine A2 [] ?_;exact F0 .nores (hp:=⟨lw m x,k,by unfold Sm;rw [hT];rfl,rfl,by exact q9⟩)):p:=h
theorem Wh(k:q)(h:Hk q→p:=by intro qk;refine Z34 ?_;refine A5 ?_;exact qk.h):p:=h ⟨k⟩
theorem my(k:q)(h:Hk q→p:=by intro qk;refine Z15 ?_;refine Z30 ?_;exact qk.h):p:=h ⟨k⟩
theorem xp(h:p:=by refine Z39 ?_;exact Zp):p:=h
theorem Wi(k:q)(h:Hk q→p:=by intro qk;refine Z10 ?_;refine Z10 ?_;exact qk.h):p:=h ⟨k⟩
theorem gb(k:q)(h:Hk q→p:=by intro qk;refine Z1 ?_;refine A2 [0,1] ?_;exact qk.h):p:=h ⟨k⟩
theorem gc(h:p:=by refine Z38 ?_;exact Z27):p:=h
theorem sb(k:q)(h:Hk q→p:=by intro qk;refine A2 [0,1,5,7,8] ?_;refine Z13 ?_;exact qk.h):p:=h ⟨k⟩
theorem Wj(k:q)(h:Hk q→p:=by intro qk;refine Z70 ?_;refine Z33 ?_;exact qk.h):p:=h ⟨k⟩
theorem AD6(k:q)(h:Hk q→p:=by intro qk;refine Z28 ?_;refine O6 ?_;exact qk.h):p:=h ⟨k⟩
theorem mz(k:q)(h:Hk q→p:=by intro qk;refine He ?_;refine R.moveT ?_;exact qk.h):p:=h ⟨k⟩
theorem AD7(h:p:=by refine Z23 ?_;exact A8 (Aj A6) ⟨by first|(rw [hgy hf];rfl)|(rw [hgv hf];rfl),rfl⟩):p:=h
theorem sc(k:q)(h:Hk q→p:=by intro qk;refine Z2 ?_;refine A2 [0,1,7,8,9] ?_;exact qk.h):p:=h ⟨k⟩
theorem bt(k:q)(h:Hk q→p:=by intro qk;refine Z6 ?_;refine E5 ?_;exact qk.h):p:=h ⟨k⟩
theorem xq(k:q)(h:Hk q→p:=by intro qk;refine Z19 ?_;refine Z11 ?_;exact qk.h):p:=h ⟨k⟩
theorem AD8(h:p:=by refine Bp (x+1) ⟨hlt,Gc hlt hx.2 ht19⟩ (by omega) ?_;exact Ea (by simp)):p:=h
theorem Zk(k:q)(h:Hk q→p:=by intro qk;refine Z12 ?_;refine Z12 ?_;exact qk.h):p:=h ⟨k⟩
theorem Zl(k:q)(h:Hk q→p:=by intro qk;refine Z21 ?_;refine Z13 ?_;exact qk.h):p:=h ⟨k⟩
theorem AD9(h:p:=by refine D.build (places:=#[(0,1),(1,1)]) jU (fun w=>by simp) jZ ?_;exact Zp):p:=h
theorem bu(k:q)(h:Hk q→p:=by intro qk;refine Z20 ?_;refine A5 ?_;exact qk.h):p:=h ⟨k⟩
theorem Zm(k:q)(h:Hk q→p:=by intro qk;refine Z21 ?_;refine Z1 ?_;exact qk.h):p:=h ⟨k⟩
theorem Zn(k:q)(h:Hk q→p:=by intro qk;refine Z2 ?_;refine Z50 ?_;exact qk.h):p:=h ⟨k⟩
theorem sd(k:q)(h:Hk q→p:=by intro qk;refine Z32 ?_;refine A2 [0,1,7,8] ?_;exact qk.h):p:=h ⟨k⟩
theorem ABd(k:q)(h:Hk q→p:=by intro qk;refine Z2 ?_;refine A9 Tryz.call254 (AEt l S o _ (Ag ho) hi) ?_;exact qk.h):p:=h ⟨k⟩
theorem n5(h:p:=by refine xq ?_;refine Z5 ?_;exact AEa):p:=h
theorem ABe(k:q)(h:Hk q→p:=by intro qk;refine Z2 ?_;refine A9 Tryz.call139 (ACo L i o _ (Ag ho) hi) ?_;exact qk.h):p:=h ⟨k⟩
theorem Wk(k:q)(h:Hk q→p:=by intro qk;refine Z6 ?_;refine Z1 ?_;exact qk.h):p:=h ⟨k⟩
theorem se(h:p:=by refine Z59 ?_;refine Z91 ?_;exact Z44):p:=h
theorem ADa(h:p:=by refine Cd Tryz.call125 (fun hB=>AEp e.text Nx hs (by decide) _) ?_;exact se):p:=h
theorem n6(h:p:=by refine Z73 ?_;exact Z27):p:=h
theorem n7(h:p:=by refine Z36 ?_;exact Z26):p:=h
theorem ADb(h:p:=by refine my ?_;exact sy):p:=h
theorem bv(k:q)(h:Hk q→p:=by intro qk;refine Z25 ?_;refine A5 ?_;exact qk.h):p:=h ⟨k⟩
theorem bw(k:q)(h:Hk q→p:=by intro qk;refine Z0 ?_;refine Ci ?_;exact qk.h):p:=h ⟨k⟩
theorem sg(k:q)(h:Hk q→p:=by intro qk;refine A5 ?_;refine A2 [0,3] ?_;exact qk.h):p:=h ⟨k⟩
theorem ADc(h:p:=by refine Z61 ?_;exact AEj):p:=h
theorem ADd(h:p:=by refine Bp (x+1) ⟨hlt,hn⟩ (by omega) ?_;exact Ea (by simp)):p:=h
theorem ge(k:q)(h:Hk q→p:=by intro qk;refine A5 ?_;refine Z93 ?_;exact qk.h):p:=h ⟨k⟩
theorem ADe(h:p:=by refine Z5 ?_;exact AE7):p:=h
theorem ADf(k:q)(h:Hk q→p:=by intro qk;refine Y.buildSlice jU Tryz.sizeOf9 Tryz.zeroValue9 ?_;refine Fo (tn:=[2]) (U:=U2 L Hp o om j (mvO m)) ?_;exact qk.h):p:=h ⟨k⟩
theorem ADg(h:p:=by refine Z5 ?_;exact A8 (B9 A6 A6) ⟨by simp_all [j8],rfl⟩):p:=h
theorem ADh(h:p:=by refine Z5 ?_;exact ABi):p:=h
theorem ADi(k:q)(h:Hk q→p:=by intro qk;refine Z13 ?_;refine D9 Tryz.call116 ho (by simp) D4 (oi l S 8 (Af l S.i).at_ o _ (Ag ho)) ?_;exact qk.h):p:=h ⟨k⟩
theorem sh(h:p:=by refine Z12 ?_;exact Z68):p:=h
theorem ADj(k:q)(h:Hk q→p:=by intro qk;refine sw ?_;refine H9 ?_;exact qk.h):p:=h ⟨k⟩
theorem ADk(h:p:=by refine Z9 ?_;exact A8 (Aj (B8 jA jS)) ⟨by simp [ht5],rfl⟩):p:=h
theorem ADl(h:p:=by refine Z62 ?_;exact A8 (B9 A6 A6) ⟨by rw [hbad],rfl⟩):p:=h
theorem ADm(h:p:=by refine Z5 ?_;exact A8 (B9 A6 A6) ⟨by rw [hk,hk2],rfl⟩):p:=h
theorem bx(k:q)(h:Hk q→p:=by intro qk;refine Z6 ?_;refine Z35 ?_;exact qk.h):p:=h ⟨k⟩
theorem si(k:q)(h:Hk q→p:=by intro qk;refine Ov 6 2 ?_;refine Z94 ?_;exact qk.h):p:=h ⟨k⟩
theorem ADn(h:p:=by refine Bz ?_;exact ABj):p:=h
theorem ADo(h:p:=by refine Z5 ?_;exact nj):p:=h
theorem xt(h:p:=by refine Lv ?_;refine K.thJ ?_;exact Cp (by rw [e]<;>rfl)):p:=h
theorem ADp(k:q)(h:Hk q→p:=by intro qk;refine Eb [0,1,3,7,15,3,35,99,255,511,1023] 8 Al (by kernel_rfl) ?_;refine Z12 ?_;exact qk.h):p:=h ⟨k⟩
theorem ADq(h:p:=by refine Z5 ?_;exact ABj):p:=h
theorem sj(k:q)(h:Hk q→p:=by intro qk;refine Z1 ?_;refine A2 [0,3] ?_;exact qk.h):p:=h ⟨k⟩
theorem sk(k:q)(h:Hk q→p:=by intro qk;refine I3 ?_;refine A5 ?_;exact qk.h):p:=h ⟨k⟩
theorem ADr(k:q)(h:Hk q→p:=by intro qk;refine Z47 ?_;refine Eb [0,1,3,7,0,16,48,112,255,511,1023] 8 Al (by kernel_rfl) ?_;exact qk.h):p:=h ⟨k⟩
theorem ADs(h:p:=by refine E1 Tryz.call136 (AFf c l k0 ra ha _) ?_;exact xp):p:=h
theorem xu(k:q)(h:Hk q→p:=by intro qk;refine Z25 ?_;refine A2 [0,1,2,6] ?_;exact qk.h):p:=h ⟨k⟩
theorem xv(k:q)(h:Hk q→p:=by intro qk;refine Z0 ?_;refine A9 Tryz.call175 (c175 _ _ _) ?_;refine Z0 ?_;exact qk.h):p:=h ⟨k⟩
theorem xw(h:p:=by refine An ?_;exact Z48):p:=h
theorem n8(k:q)(h:Hk q→p:=by intro qk;refine A5 ?_;refine Z11 ?_;exact qk.h):p:=h ⟨k⟩
theorem ADt(h:p:=by refine Z61 ?_;exact ni):p:=h
theorem ABf(k:q)(h:Hk q→p:=by intro qk;refine E5 ?_;refine A9 Tryz.call86 (c86 _) ?_;exact qk.h):p:=h ⟨k⟩
theorem ADu(h:p:=by refine Z4 ?_;exact ni):p:=h
theorem xy(h:p:=by refine xv ?_;refine my ?_;refine Z5 ?_;exact AEb):p:=h
theorem ADv(k:q)(h:Hk q→p:=by intro qk;refine Zo ?_;refine H9 ?_;exact qk.h):p:=h ⟨k⟩
theorem xz(k:q)(h:Hk q→p:=by intro qk;refine Z1 ?_;refine A2 [2,3,18] ?_;exact qk.h):p:=h ⟨k⟩
theorem sm(k:q)(h:Hk q→p:=by intro qk;refine Z19 ?_;refine A2 [0] ?_;exact qk.h):p:=h ⟨k⟩
theorem gg(k:q)(h:Hk q→p:=by intro qk;refine Z6 ?_;refine Z32 ?_;exact qk.h):p:=h ⟨k⟩
theorem ADw(h:p:=by refine Bz ?_;exact A8 (Aj A6) ⟨rfl,rfl⟩):p:=h
theorem n9(k:q)(h:Hk q→p:=by intro qk;refine AD6 ?_;refine Z15 ?_;exact qk.h):p:=h ⟨k⟩
theorem y6(h:p:=by refine Z17 ?_;refine Z31 ?_;exact AEh):p:=h
theorem ADx(h:p:=by refine Z4 ?_;exact A8 (Aj A6) ⟨by simp,rfl⟩):p:=h
theorem ABg(k:q)(h:Hk q→p:=by intro qk;refine A5 ?_;refine A9 Tryz.call77 (c77 e _) ?_;exact qk.h):p:=h ⟨k⟩
theorem na(k:q)(h:Hk q→p:=by intro qk;refine Z13 ?_;refine Z91 ?_;exact qk.h):p:=h ⟨k⟩
theorem y7(k:q)(h:Hk q→p:=by intro qk;refine Z60 ?_;refine A2 [2,3,4] ?_;exact qk.h):p:=h ⟨k⟩
theorem nb(k:q)(h:Hk q→p:=by intro qk;refine Z1 ?_;refine Z23 ?_;exact qk.h):p:=h ⟨k⟩
theorem nd(k:q)(h:Hk q→p:=by intro qk;refine Z19 ?_;refine Ci ?_;exact qk.h):p:=h ⟨k⟩
theorem y8(h:p:=by refine Z0 ?_;exact AB5):p:=h
theorem ADy(h:p:=by refine Z4 ?_;exact A8 (Aj A6) ⟨rfl,rfl⟩):p:=h
theorem ADz(k:q)(h:Hk q→p:=by intro qk;refine Eb [0,0,0,7,15,15,63,127] 6 Al (by kernel_rfl) ?_;refine Z12 ?_;exact qk.h):p:=h ⟨k⟩
theorem nf(h:p:=by exact ⟨rfl,Below.refl _ _⟩):p:=h
theorem AE0(h:p:=by exact h (y,j) (by rw [K8];exact hj)):p:=h
theorem E5(k:q)(h:Hk q→p:=by intro qk;refine AW.seqR ?_;exact qk.h):p:=h ⟨k⟩
theorem gh(h:p:=by exact A8 (Aj A6)):p:=h
theorem so(k:q)(h:Hk q→p:=by intro qk;refine A2 [0,1,5,7,8,16] ?_;exact qk.h):p:=h ⟨k⟩
theorem H9(k:q)(h:Hk q→p:=by intro qk;refine R.storeOwn jS ?_;exact qk.h):p:=h ⟨k⟩
theorem Ju(k:q)(h:Hk q→p:=by intro qk;refine A2 [2,3] ?_;exact qk.h):p:=h ⟨k⟩
theorem ng(k:q)(h:Hk q→p:=by intro qk;refine R.build (places:=#[(0,1),(1,1),(2,1)]) jU (fun w=>by simp) jZ ?_;exact qk.h):p:=h ⟨k⟩
theorem AE1(h:p:=by exact A8 (Aj A6) ⟨by simp only [J1,hp,ht7,ht14,ht23,ht27,Kp,B2,if_false,if_true];try rfl,rfl⟩):p:=h
theorem AE2(h:p:=by exact A8 (B9 (B8 jA jS) A6) ⟨by simp only [cb,ht17,if_true,if_false,B2];rfl,rfl⟩):p:=h
theorem Jv(k:q)(h:Hk q→p:=by intro qk;refine AW.block ?_;exact qk.h):p:=h ⟨k⟩
theorem AE3(h:p:=by exact A8 (Js A6 A6 A6 A6) ⟨by simp only [P0,ht11,ht17,if_true,if_false,B2];try rfl,rfl⟩):p:=h
theorem AE4(h:p:=by exact A8 (Js A6 A6 A6 A6) ⟨by simp only [Ui,ht18,ht23,if_true,if_false,B2];try rfl,rfl⟩):p:=h
theorem AE5(h:p:=by exact A8 (Js A6 A6 A6 A6) ⟨by simp only [C7,ht6,ht17,ht28,if_true,if_false,B2],rfl⟩):p:=h
theorem sq(h:p:=by exact absurd h (by decide)):p:=h
theorem gi(h:p:=by exact Av _):p:=h
theorem O6(k:q)(h:Hk q→p:=by intro qk;refine R.alloc jZ ?_;exact qk.h):p:=h ⟨k⟩
theorem y9(k:q)(h:Hk q→p:=by intro qk;refine K.rdN (ka hL (C3 (by decide)) (C3 (by decide))) ?_;exact qk.h):p:=h ⟨k⟩
theorem Pq(k:q)(h:Hk q→p:=by intro qk;refine R.buildSlice jU jS jZ ?_;exact qk.h):p:=h ⟨k⟩
theorem Zo(k:q)(h:Hk q→p:=by intro qk;refine R.build (places:=#[(0,1),(1,1)]) jU (fun w=>by simp) jZ ?_;exact qk.h):p:=h ⟨k⟩
theorem sr(h:p:=by exact ⟨hFRl,by simp [oid]⟩):p:=h
theorem ss(h:p:=by exact M0 (fun x hx=>ObjLow.le (by omega) (hlow x hx)) hOl x hx):p:=h
theorem su(k:q)(h:Hk q→p:=by intro qk;refine Bp (x+1) hlt (by omega) ?_;exact qk.h):p:=h ⟨k⟩
theorem sw(k:q)(h:Hk q→p:=by intro qk;refine R.build (places:=#[(0,1),(1,1),(2,3),(5,1)]) jU (fun w=>by simp) jZ ?_;exact qk.h):p:=h ⟨k⟩
theorem U8(k:q)(h:Hk q→p:=by intro qk;refine A2 [0,1,2] ?_;exact qk.h):p:=h ⟨k⟩
theorem AE6(h:p:=by exact A8 (Aj (B8 Tryz.isAgg130 Tryz.sizeOf130)) ⟨by simp_all [K4],rfl⟩):p:=h
theorem AE7(h:p:=by exact A8 (B9 A6 A6) ⟨by simp_all [Fu],rfl⟩):p:=h
theorem nh(k:q)(h:Hk q→p:=by intro qk;refine A2 [2,6,13,14,15] ?_;exact qk.h):p:=h ⟨k⟩
theorem ABh(h:p:=by exact A8 (B9 A6 A6) ⟨by rw [hk],rfl⟩):p:=h
theorem ni(h:p:=by exact A8 (Aj A6) ⟨by rw [hm],rfl⟩):p:=h
theorem ABi(h:p:=by exact A8 (B9 A6 A6) ⟨by rw [hm]<;>rfl,rfl⟩):p:=h
theorem AE8(h:p:=by exact A8 (Aj A6) ⟨by rw [hn];first|(simp only [ht22,ht25,ht33,ht41,ht41,ht50,ht58,hk3,hk6,Jm,F5,Kq,Oi,if_true,if_false,B2,↓reduceIte]<;>rfl)|(simp only [ht22,ht25,ht33,ht41,ht41,ht50,ht58,hk3,Jm,F5,Kq,if_true,if_false,B2,↓reduceIte]<;>rfl)|(simp only [ht22,ht25,ht33,ht41,ht41,ht50,ht58,if_true,if_false,B2,↓reduceIte]<;>rfl),rfl⟩):p:=h
theorem nj(h:p:=by exact A8 (Aj A6) ⟨by rw [hm]<;>rfl,rfl⟩):p:=h
theorem Wl(h:p:=by exact Vm _):p:=h
theorem nk(h:p:=by exact hcmp _ rfl rfl hf):p:=h
theorem sx(h:p:=by exact har _ rfl rfl rfl hf):p:=h
theorem AE9(h:p:=by exact A8 (B9 (B8 jA jS) A6) ⟨by rw [hw];try rfl,rfl⟩):p:=h
theorem AEa(h:p:=by exact A8 (B9 A6 A6) ⟨by simp_all [H8],rfl⟩):p:=h
theorem AEb(h:p:=by exact A8 (B9 (B8 Tryz.isAgg23 Tryz.sizeOf23) A6) ⟨by simp_all [Id],rfl⟩):p:=h
theorem sy(h:p:=by exact A8 (B9 (B8 jA jS) A6) ⟨by rw [hm];try rfl,rfl⟩):p:=h
theorem AEc(h:p:=by exact A8 (Aj (B8 jA jS)) ⟨by rw [hm];try rfl,rfl⟩):p:=h
theorem AEd(k:q)(h:Hk q→p:=by intro qk;refine Y.alloc (zs:=[A4 0,A4 0,Ad []]) (n:=1) (u:=Hp.length) Tryz.zeroValue23 (fun B hT hF hB=>⟨rfl,by simp [hB],by simp [upd,hB,hF 1 (by simp)],rfl⟩) ?_;exact qk.h):p:=h ⟨k⟩
theorem t6(k:q)(h:Hk q→p:=by intro qk;refine A2 [1,3,6,10,12,27,28,29] ?_;exact qk.h):p:=h ⟨k⟩
theorem Zp(h:p:=by exact D.end rfl rfl):p:=h
theorem AEe(h:p:=by exact ⟨Yt i,hl.step hi (by rw [hk];decide)⟩):p:=h
theorem gj(h:p:=by exact ⟨by omega,c2,c3⟩):p:=h
theorem t7(h:p:=by exact (Cq hX (e)).elim):p:=h
theorem AEf(h:p:=by exact (Cq hX (by first|exact by unfold Sm;rw [hT];rfl|exact hT)).elim):p:=h
theorem AEg(h:p:=by exact (AFi L i o _ (Ag (E9 ho hne)) hi hl hll).ok hT):p:=h
theorem t8(k:q)(h:Hk q→p:=by intro qk;refine AW.upEq (Qi ho hm).symm ?_;exact qk.h):p:=h ⟨k⟩
theorem yb(k:q)(h:Hk q→p:=by intro qk;refine A2 [0,3,9,11,13,14,15,16] ?_;exact qk.h):p:=h ⟨k⟩
theorem AEh(h:p:=by exact A8 (Aj (B8 jA jS)) ⟨by first|exact AC9 (by simp_all [Ev])|exact vg (by simp_all [Ev])|exact ACa (by simp_all [Ev]),rfl⟩):p:=h
theorem AEi(h:p:=by exact A8 (Aj (B8 jA jS)) ⟨by first|exact vg (by simp_all [Dr]),rfl⟩):p:=h
theorem AEj(h:p:=by exact A8 (Aj A6) ⟨by simp_all [Es,Md],rfl⟩):p:=h
theorem ABj(h:p:=by exact A8 (B9 A6 A6) ⟨by rw [hm],rfl⟩):p:=h
end Go.SX.Nb
namespace Go.SX.Nb
open Go Go.SX Go.Proofs
@[reducible,instance] def JA2:=JA.mk (P:=Tryz.prog) Tryz.isAgg2
@[reducible,instance] def JA3:=JA.mk (P:=Tryz.prog) Tryz.isAgg3
@[reducible,instance] def JA4:=JA.mk (P:=Tryz.prog) Tryz.isAgg4
@[reducible,instance] def JA9:=JA.mk (P:=Tryz.prog) Tryz.isAgg9
@[reducible,instance] def AJ0:=JA.mk (P:=Tryz.prog) Tryz.isAgg23
@[reducible,instance] def AJ1:=JA.mk (P:=Tryz.prog) Tryz.isAgg24
@[reducible,instance] def AJ2:=JA.mk (P:=Tryz.prog) Tryz.isAgg26
@[reducible,instance] def AJ3:=JA.mk (P:=Tryz.prog) Tryz.isAgg27
@[reducible,instance] def AJ4:=JA.mk (P:=Tryz.prog) Tryz.isAgg28
@[reducible,instance] def AJ5:=JA.mk (P:=Tryz.prog) Tryz.isAgg35
@[reducible,instance] def AJ6:=JA.mk (P:=Tryz.prog) Tryz.isAgg41
@[reducible,instance] def AJ7:=JA.mk (P:=Tryz.prog) Tryz.isAgg45
@[reducible,instance] def AJ8:=JA.mk (P:=Tryz.prog) Tryz.isAgg46
@[reducible,instance] def AJ9:=JA.mk (P:=Tryz.prog) Tryz.isAgg48
@[reducible,instance] def AJa:=JA.mk (P:=Tryz.prog) Tryz.isAgg59
@[reducible,instance] def AJb:=JA.mk (P:=Tryz.prog) Tryz.isAgg69
@[reducible,instance] def AJc:=JA.mk (P:=Tryz.prog) Tryz.isAgg83
@[reducible,instance] def AId:=JA.mk (P:=Tryz.prog) Tryz.isAgg107
@[reducible,instance] def AIe:=JA.mk (P:=Tryz.prog) Tryz.isAgg113
@[reducible,instance] def AIf:=JA.mk (P:=Tryz.prog) Tryz.isAgg128
@[reducible,instance] def AIg:=JA.mk (P:=Tryz.prog) Tryz.isAgg130
@[reducible,instance] def AIh:=JA.mk (P:=Tryz.prog) Tryz.isAgg142
@[reducible,instance] def AIi:=JA.mk (P:=Tryz.prog) Tryz.isAgg169
@[reducible,instance] def AIj:=JA.mk (P:=Tryz.prog) Tryz.isAgg227
@[reducible,instance] def JS2:=JS.mk (P:=Tryz.prog) Tryz.sizeOf2
@[reducible,instance] def JS3:=JS.mk (P:=Tryz.prog) Tryz.sizeOf3
@[reducible,instance] def JS4:=JS.mk (P:=Tryz.prog) Tryz.sizeOf4
@[reducible,instance] def JS9:=JS.mk (P:=Tryz.prog) Tryz.sizeOf9
@[reducible,instance] def AJd:=JS.mk (P:=Tryz.prog) Tryz.sizeOf23
@[reducible,instance] def AJe:=JS.mk (P:=Tryz.prog) Tryz.sizeOf24
@[reducible,instance] def AJf:=JS.mk (P:=Tryz.prog) Tryz.sizeOf26
@[reducible,instance] def AJg:=JS.mk (P:=Tryz.prog) Tryz.sizeOf27
@[reducible,instance] def AJh:=JS.mk (P:=Tryz.prog) Tryz.sizeOf28
@[reducible,instance] def AJi:=JS.mk (P:=Tryz.prog) Tryz.sizeOf35
@[reducible,instance] def AJj:=JS.mk (P:=Tryz.prog) Tryz.sizeOf41
@[reducible,instance] def AJk:=JS.mk (P:=Tryz.prog) Tryz.sizeOf45
@[reducible,instance] def AJl:=JS.mk (P:=Tryz.prog) Tryz.sizeOf46
@[reducible,instance] def AJm:=JS.mk (P:=Tryz.prog) Tryz.sizeOf48
@[reducible,instance] def AJn:=JS.mk (P:=Tryz.prog) Tryz.sizeOf59
@[reducible,instance] def AJo:=JS.mk (P:=Tryz.prog) Tryz.sizeOf69
@[reducible,instance] def AJp:=JS.mk (P:=Tryz.prog) Tryz.sizeOf83
@[reducible,instance] def AIk:=JS.mk (P:=Tryz.prog) Tryz.sizeOf107
@[reducible,instance] def AIl:=JS.mk (P:=Tryz.prog) Tryz.sizeOf113
@[reducible,instance] def AIm:=JS.mk (P:=Tryz.prog) Tryz.sizeOf128
@[reducible,instance] def AIn:=JS.mk (P:=Tryz.prog) Tryz.sizeOf130
@[reducible,instance] def JU2:=JU.mk (P:=Tryz.prog) Tryz.underlying2
@[reducible,instance] def JU3:=JU.mk (P:=Tryz.prog) Tryz.underlying3
@[reducible,instance] def JU4:=JU.mk (P:=Tryz.prog) Tryz.underlying4
@[reducible,instance] def JU5:=JU.mk (P:=Tryz.prog) Tryz.underlying5
@[reducible,instance] def JU9:=JU.mk (P:=Tryz.prog) Tryz.underlying9
@[reducible,instance] def AJq:=JU.mk (P:=Tryz.prog) Tryz.underlying20
@[reducible,instance] def AJr:=JU.mk (P:=Tryz.prog) Tryz.underlying23
@[reducible,instance] def AJs:=JU.mk (P:=Tryz.prog) Tryz.underlying24
@[reducible,instance] def AJt:=JU.mk (P:=Tryz.prog) Tryz.underlying26
@[reducible,instance] def AJu:=JU.mk (P:=Tryz.prog) Tryz.underlying27
@[reducible,instance] def AJv:=JU.mk (P:=Tryz.prog) Tryz.underlying28
@[reducible,instance] def AJw:=JU.mk (P:=Tryz.prog) Tryz.underlying41
@[reducible,instance] def AJx:=JU.mk (P:=Tryz.prog) Tryz.underlying45
@[reducible,instance] def AJy:=JU.mk (P:=Tryz.prog) Tryz.underlying46
@[reducible,instance] def AJz:=JU.mk (P:=Tryz.prog) Tryz.underlying48
@[reducible,instance] def AK0:=JU.mk (P:=Tryz.prog) Tryz.underlying51
@[reducible,instance] def AK1:=JU.mk (P:=Tryz.prog) Tryz.underlying59
@[reducible,instance] def AK2:=JU.mk (P:=Tryz.prog) Tryz.underlying69
@[reducible,instance] def AK3:=JU.mk (P:=Tryz.prog) Tryz.underlying83
@[reducible,instance] def AIo:=JU.mk (P:=Tryz.prog) Tryz.underlying107
@[reducible,instance] def AIp:=JU.mk (P:=Tryz.prog) Tryz.underlying113
@[reducible,instance] def AIq:=JU.mk (P:=Tryz.prog) Tryz.underlying128
@[reducible,instance] def AIr:=JU.mk (P:=Tryz.prog) Tryz.underlying130
@[reducible,instance] def AIs:=JU.mk (P:=Tryz.prog) Tryz.underlying144
@[reducible,instance] def AIt:=JU.mk (P:=Tryz.prog) Tryz.underlying171
@[reducible,instance] def AIu:=JU.mk (P:=Tryz.prog) Tryz.underlying233
@[reducible,instance] def JZ3:=JZ.mk (P:=Tryz.prog) Tryz.zeroValue3
@[reducible,instance] def JZ4:=JZ.mk (P:=Tryz.prog) Tryz.zeroValue4
@[reducible,instance] def JZ9:=JZ.mk (P:=Tryz.prog) Tryz.zeroValue9
@[reducible,instance] def AK4:=JZ.mk (P:=Tryz.prog) Tryz.zeroValue23
@[reducible,instance] def AK5:=JZ.mk (P:=Tryz.prog) Tryz.zeroValue26
@[reducible,instance] def AK6:=JZ.mk (P:=Tryz.prog) Tryz.zeroValue27
@[reducible,instance] def AK7:=JZ.mk (P:=Tryz.prog) Tryz.zeroValue28
@[reducible,instance] def AK8:=JZ.mk (P:=Tryz.prog) Tryz.zeroValue35
@[reducible,instance] def AK9:=JZ.mk (P:=Tryz.prog) Tryz.zeroValue41
@[reducible,instance] def AKa:=JZ.mk (P:=Tryz.prog) Tryz.zeroValue46
@[reducible,instance] def AKb:=JZ.mk (P:=Tryz.prog) Tryz.zeroValue48
@[reducible,instance] def AKc:=JZ.mk (P:=Tryz.prog) Tryz.zeroValue59
@[reducible,instance] def AKd:=JZ.mk (P:=Tryz.prog) Tryz.zeroValue69
@[reducible,instance] def AKe:=JZ.mk (P:=Tryz.prog) Tryz.zeroValue83
@[reducible,instance] def AIv:=JZ.mk (P:=Tryz.prog) Tryz.zeroValue107
@[reducible,instance] def AIw:=JZ.mk (P:=Tryz.prog) Tryz.zeroValue113
@[reducible,instance] def AIx:=JZ.mk (P:=Tryz.prog) Tryz.zeroValue130
@[reducible,instance] def AIy:=JZ.mk (P:=Tryz.prog) Tryz.zeroValue144
@[reducible,instance] def AIz:=JZ.mk (P:=Tryz.prog) Tryz.zeroValue171
end Go.SX.Nb
