/- On the way (part 3). -/
import Derived.Test.YtfngkblpcigciaaGreatDoorProg
import Derived.Test.YtfngkblpcigciaaGreatDoorQueryRunsCardSaidPart2
set_option linter.all false
namespace Go.SX.Nb
open Go Go.SX Go.Proofs
structure Hk (q:Prop):Prop where h:q
variable {p q:Prop}
theorem Z0(k:q)(h:Hk q→p:=by intro qk;refine A4 ?_;refine A4 ?_;exact qk.h):p:=h ⟨k⟩
theorem Z1(k:q)(h:Hk q→p:=by intro qk;refine Eg ?_;refine Z0 ?_;exact qk.h):p:=h ⟨k⟩
theorem Z2(k:q)(h:Hk q→p:=by intro qk;refine Eg ?_;refine A4 ?_;exact qk.h):p:=h ⟨k⟩
theorem Z3(k:q)(h:Hk q→p:=by intro qk;refine G5 ?_;refine Ef ?_;exact qk.h):p:=h ⟨k⟩
theorem Z4(k:q)(h:Hk q→p:=by intro qk;refine A2 [2] ?_;refine Eu ?_;exact qk.h):p:=h ⟨k⟩
theorem Z5(k:q)(h:Hk q→p:=by intro qk;refine Ko ?_;refine Ex ?_;exact qk.h):p:=h ⟨k⟩
theorem Z6(k:q)(h:Hk q→p:=by intro qk;refine B3 ?_;refine B3 ?_;exact qk.h):p:=h ⟨k⟩
theorem Z7(k:q)(h:Hk q→p:=by intro qk;refine F1 ?_;refine A4 ?_;exact qk.h):p:=h ⟨k⟩
theorem Z8(k:q)(h:Hk q→p:=by intro qk;refine Kp ?_;refine Z1 ?_;exact qk.h):p:=h ⟨k⟩
theorem Z9(k:q)(h:Hk q→p:=by intro qk;refine Eu ?_;refine Ex ?_;exact qk.h):p:=h ⟨k⟩
theorem Z10(k:q)(h:Hk q→p:=by intro qk;refine An ?_;refine An ?_;exact qk.h):p:=h ⟨k⟩
theorem Z11(k:q)(h:Hk q→p:=by intro qk;refine Z0 ?_;refine A4 ?_;exact qk.h):p:=h ⟨k⟩
theorem Z12(k:q)(h:Hk q→p:=by intro qk;refine Hc ?_;refine Ef ?_;exact qk.h):p:=h ⟨k⟩
theorem Z13(k:q)(h:Hk q→p:=by intro qk;refine Z1 ?_;refine A4 ?_;exact qk.h):p:=h ⟨k⟩
theorem Z15(h:p:=by refine Z5 ?_;exact k8):p:=h
theorem Z16(k:q)(h:Hk q→p:=by intro qk;refine Ks ?_;refine F1 ?_;exact qk.h):p:=h ⟨k⟩
theorem Z17(k:q)(h:Hk q→p:=by intro qk;refine A2 [4,5] ?_;refine Eu ?_;exact qk.h):p:=h ⟨k⟩
theorem Z18(k:q)(h:Hk q→p:=by intro qk;refine G5 ?_;refine Z12 ?_;exact qk.h):p:=h ⟨k⟩
theorem Z19(k:q)(h:Hk q→p:=by intro qk;refine Kp ?_;refine Et ?_;exact qk.h):p:=h ⟨k⟩
theorem Z20(k:q)(h:Hk q→p:=by intro qk;refine Z1 ?_;refine Z0 ?_;exact qk.h):p:=h ⟨k⟩
theorem Z21(k:q)(h:Hk q→p:=by intro qk;refine Z7 ?_;refine A2 [6,7] ?_;exact qk.h):p:=h ⟨k⟩
theorem Z22(k:q)(h:Hk q→p:=by intro qk;refine Hs ?_;refine Z11 ?_;exact qk.h):p:=h ⟨k⟩
theorem Z23(k:q)(h:Hk q→p:=by intro qk;refine Kp ?_;refine Z2 ?_;exact qk.h):p:=h ⟨k⟩
theorem Z24(k:q)(h:Hk q→p:=by intro qk;refine Z2 ?_;refine Z4 ?_;exact qk.h):p:=h ⟨k⟩
theorem Z25(k:q)(h:Hk q→p:=by intro qk;refine Eg ?_;refine Xq ?_;exact qk.h):p:=h ⟨k⟩
theorem Z26(k:q)(h:Hk q→p:=by intro qk;refine k7 ?_;refine F1 ?_;exact qk.h):p:=h ⟨k⟩
theorem Z27(k:q)(h:Hk q→p:=by intro qk;refine A2 [4] ?_;refine Eu ?_;exact qk.h):p:=h ⟨k⟩
theorem Z28(k:q)(h:Hk q→p:=by intro qk;refine Hs ?_;refine Z0 ?_;exact qk.h):p:=h ⟨k⟩
theorem Z29(k:q)(h:Hk q→p:=by intro qk;refine Z6 ?_;refine B3 ?_;exact qk.h):p:=h ⟨k⟩
theorem Z30(h:p:=by refine K.thJ ?_;exact Bc (by simp [*])):p:=h
theorem Z31(k:q)(h:Hk q→p:=by intro qk;refine K.lpE ?_;refine Ef ?_;exact qk.h):p:=h ⟨k⟩
theorem Z32(k:q)(h:Hk q→p:=by intro qk;refine Z8 ?_;refine A4 ?_;exact qk.h):p:=h ⟨k⟩
theorem Z33(k:q)(h:Hk q→p:=by intro qk;refine Eg ?_;refine Ks ?_;exact qk.h):p:=h ⟨k⟩
theorem Z34(k:q)(h:Hk q→p:=by intro qk;refine Z10 ?_;refine An ?_;exact qk.h):p:=h ⟨k⟩
theorem Z36(k:q)(h:Hk q→p:=by intro qk;refine AW.exit ?_;refine K.thE ?_;exact qk.h):p:=h ⟨k⟩
theorem Z37(k:q)(h:Hk q→p:=by intro qk;refine K.lpR ?_;refine Ex ?_;exact qk.h):p:=h ⟨k⟩
theorem Z38(k:q)(h:Hk q→p:=by intro qk;refine F1 ?_;refine Z4 ?_;exact qk.h):p:=h ⟨k⟩
theorem Z40(h:p:=by refine Z9 ?_;exact AJs):p:=h
theorem Z41(k:q)(h:Hk q→p:=by intro qk;refine Eu ?_;refine Z5 ?_;exact qk.h):p:=h ⟨k⟩
theorem Z42(h:p:=by refine Z9 ?_;exact ek):p:=h
theorem Z43(k:q)(h:Hk q→p:=by intro qk;refine Hs ?_;refine A4 ?_;exact qk.h):p:=h ⟨k⟩
theorem Z44(h:p:=by refine Z9 ?_;exact k8):p:=h
theorem Z45(k:q)(h:Hk q→p:=by intro qk;refine Eg ?_;refine bn ?_;exact qk.h):p:=h ⟨k⟩
theorem Z46(k:q)(h:Hk q→p:=by intro qk;refine Z0 ?_;refine Z6 ?_;exact qk.h):p:=h ⟨k⟩
theorem Z47(k:q)(h:Hk q→p:=by intro qk;refine Z5 ?_;refine Z37 ?_;exact qk.h):p:=h ⟨k⟩
theorem Z48(k:q)(h:Hk q→p:=by intro qk;refine Z8 ?_;refine Z0 ?_;exact qk.h):p:=h ⟨k⟩
theorem Z49(k:q)(h:Hk q→p:=by intro qk;refine A7 Tryz.call157 (AMk _ _) ?_;refine Z0 ?_;exact qk.h):p:=h ⟨k⟩
theorem Z50(h:p:=by refine Z5 ?_;exact AAz):p:=h
theorem Z52(k:q)(h:Hk q→p:=by intro qk;refine Z36 ?_;refine Z31 ?_;exact qk.h):p:=h ⟨k⟩
theorem Z53(k:q)(h:Hk q→p:=by intro qk;refine Z3 ?_;refine Z19 ?_;exact qk.h):p:=h ⟨k⟩
theorem Z54(k:q)(h:Hk q→p:=by intro qk;refine A2 [2,3] ?_;refine Z9 ?_;exact qk.h):p:=h ⟨k⟩
theorem Z55(k:q)(h:Hk q→p:=by intro qk;refine Z21 ?_;refine Z9 ?_;exact qk.h):p:=h ⟨k⟩
theorem Z56(h:p:=by refine Z24 ?_;refine Z5 ?_;exact A8 (Ai A6) ⟨by simp_all [S9],rfl⟩):p:=h
theorem Z58(k:q)(h:Hk q→p:=by intro qk;refine Z2 ?_;refine A2 [0] ?_;exact qk.h):p:=h ⟨k⟩
theorem Z59(h:p:=by refine Z5 ?_;exact AJa):p:=h
theorem Z60(k:q)(h:Hk q→p:=by intro qk;refine AJj ?_;refine Y.storeOwnT (u:=Hp.length) (n:=1) (t':=24) (cs:=[A5 0,A5 0,Ac []]) (cs':=[A5 (B0 ra).1.kind,A5 (B0 ra).1.n,Ac (B0 ra).1.s]) Tryz.sizeOf24 (fun B hT hF hB=>⟨rfl,by simp [hT 0 (by simp),hB],by simp [upd,hT 0 (by simp),hB],rfl⟩) ?_;exact qk.h):p:=h ⟨k⟩
theorem Z61(k:q)(h:Hk q→p:=by intro qk;refine Z0 ?_;refine Z0 ?_;exact qk.h):p:=h ⟨k⟩
theorem Z62(k:q)(h:Hk q→p:=by intro qk;refine Lq (places:=#[(0,1),(1,5)]) jU (fun w=>by simp) jZ ?_;refine Z16 ?_;exact qk.h):p:=h ⟨k⟩
theorem Z63(k:q)(h:Hk q→p:=by intro qk;refine Z0 ?_;refine Z4 ?_;exact qk.h):p:=h ⟨k⟩
theorem Z64(k:q)(h:Hk q→p:=by intro qk;refine Z2 ?_;refine A2 [0,1] ?_;exact qk.h):p:=h ⟨k⟩
theorem Z65(k:q)(h:Hk q→p:=by intro qk;refine A2 [2,3] ?_;refine Eu ?_;exact qk.h):p:=h ⟨k⟩
theorem Z66(k:q)(h:Hk q→p:=by intro qk;refine Z2 ?_;refine Bk Tryz.call171 ho (by simp) D4 (xp l S o _ (Ar ho) hi hll) ?_;exact qk.h):p:=h ⟨k⟩
theorem Z67(h:p:=by refine Z47 ?_;exact ek):p:=h
theorem Z68(k:q)(h:Hk q→p:=by intro qk;refine A2 [4,5] ?_;refine Z9 ?_;exact qk.h):p:=h ⟨k⟩
theorem Z69(h:p:=by refine Z27 ?_;exact ek):p:=h
theorem Z70(h:p:=by refine Z9 ?_;exact AFf):p:=h
theorem Z72(k:q)(h:Hk q→p:=by intro qk;refine Ga ?_;refine Ga ?_;exact qk.h):p:=h ⟨k⟩
theorem Z74(h:p:=by refine A2 [] ?_;exact Jz .nores (hp:=⟨rfl,by first|(rw [e];exact (Zk hne ho hoq).symm)|(rw [e];exact (Cp (tc hne hoq)).symm)|(rw [e];simp only [Cb];exact (Cp (tc hne hoq)).symm)|(rw [e];simp only [Cb];rw [zp hne];rfl)|(rw [e];simp only [Cb];rw [Lj _ _ hne];rfl)⟩)):p:=h
theorem Z75(k:q)(h:Hk q→p:=by intro qk;refine Z33 ?_;refine A2 [0,2] ?_;exact qk.h):p:=h ⟨k⟩
theorem Z76(h:p:=by refine Z41 ?_;exact AJs):p:=h
theorem Z77(h:p:=by refine G5 ?_;exact Z30):p:=h
theorem Z78(k:q)(h:Hk q→p:=by intro qk;refine Z29 ?_;refine Z0 ?_;exact qk.h):p:=h ⟨k⟩
theorem Z79(h:p:=by refine An ?_;exact k9):p:=h
theorem Z81(k:q)(h:Hk q→p:=by intro qk;refine Z2 ?_;refine A2 [4] ?_;exact qk.h):p:=h ⟨k⟩
theorem Z82(k:q)(h:Hk q→p:=by intro qk;refine Z1 ?_;refine wc ?_;exact qk.h):p:=h ⟨k⟩
theorem Z83(k:q)(h:Hk q→p:=by intro qk;refine Ks ?_;refine A4 ?_;exact qk.h):p:=h ⟨k⟩
theorem Z84(h:p:=by refine D.buildSlice jU jS jZ ?_;exact k9):p:=h
theorem Z86(k:q)(h:Hk q→p:=by intro qk;refine Z0 ?_;refine Z11 ?_;exact qk.h):p:=h ⟨k⟩
theorem Z87(k:q)(h:Hk q→p:=by intro qk;refine Z1 ?_;refine A2 [1] ?_;exact qk.h):p:=h ⟨k⟩
theorem Z88(k:q)(h:Hk q→p:=by intro qk;refine Z3 ?_;refine Z1 ?_;exact qk.h):p:=h ⟨k⟩
theorem Z89(k:q)(h:Hk q→p:=by intro qk;refine Hc ?_;refine K.thJ ?_;exact qk.h):p:=h ⟨k⟩
theorem Z90(k:q)(h:Hk q→p:=by intro qk;refine Z29 ?_;refine A4 ?_;exact qk.h):p:=h ⟨k⟩
theorem Z91(k:q)(h:Hk q→p:=by intro qk;refine Et ?_;refine Z1 ?_;exact qk.h):p:=h ⟨k⟩
theorem Z92(k:q)(h:Hk q→p:=by intro qk;refine Z10 ?_;refine Z10 ?_;exact qk.h):p:=h ⟨k⟩
theorem Z93(k:q)(h:Hk q→p:=by intro qk;refine Z3 ?_;refine Z2 ?_;exact qk.h):p:=h ⟨k⟩
theorem Z94(k:q)(h:Hk q→p:=by intro qk;refine AJn ?_;refine F7 (tn:=[5])  ?_;exact qk.h):p:=h ⟨k⟩
theorem Z95(k:q)(h:Hk q→p:=by intro qk;refine B3 ?_;refine A4 ?_;exact qk.h):p:=h ⟨k⟩
theorem Z96(k:q)(h:Hk q→p:=by intro qk;refine Z18 ?_;refine Z22 ?_;exact qk.h):p:=h ⟨k⟩
theorem Kq(k:q)(h:Hk q→p:=by intro qk;refine Z3 ?_;refine Z23 ?_;exact qk.h):p:=h ⟨k⟩
theorem Rj(h:p:=by refine Z7 ?_;refine Z17 ?_;exact Z15):p:=h
theorem L2(k:q)(h:Hk q→p:=by intro qk;refine Z3 ?_;refine Z32 ?_;exact qk.h):p:=h ⟨k⟩
theorem N3(k:q)(h:Hk q→p:=by intro qk;refine Z12 ?_;refine Z22 ?_;exact qk.h):p:=h ⟨k⟩
theorem Tr(k:q)(h:Hk q→p:=by intro qk;refine An ?_;refine Ee ?_;exact qk.h):p:=h ⟨k⟩
theorem Ts(k:q)(h:Hk q→p:=by intro qk;refine A2 [6] ?_;refine Eu ?_;exact qk.h):p:=h ⟨k⟩
theorem AAf(k:q)(h:Hk q→p:=by intro qk;refine Z0 ?_;refine A7 Tryz.call224 (AMl _ _ _) ?_;exact qk.h):p:=h ⟨k⟩
theorem Lu(k:q)(h:Hk q→p:=by intro qk;refine Z8 ?_;refine Z11 ?_;exact qk.h):p:=h ⟨k⟩
theorem vb(k:q)(h:Hk q→p:=by intro qk;refine Z10 ?_;refine V9 (k) jU Tryz.sizeOf97 hk ?_;exact qk.h):p:=h ⟨k⟩
theorem Rk(k:q)(h:Hk q→p:=by intro qk;refine Kp ?_;refine Eg ?_;exact qk.h):p:=h ⟨k⟩
theorem AEi(k:q)(h:Hk q→p:=by intro qk;refine Z11 ?_;refine Ks ?_;exact qk.h):p:=h ⟨k⟩
theorem Tt(k:q)(h:Hk q→p:=by intro qk;refine Z1 ?_;refine A2 [13] ?_;exact qk.h):p:=h ⟨k⟩
theorem Q8(k:q)(h:Hk q→p:=by intro qk;refine Z6 ?_;refine Z6 ?_;exact qk.h):p:=h ⟨k⟩
theorem Q9(k:q)(h:Hk q→p:=by intro qk;refine Z10 ?_;refine Ee ?_;exact qk.h):p:=h ⟨k⟩
theorem Vd(k:q)(h:Hk q→p:=by intro qk;refine A2 [11,12] ?_;refine Z89 ?_;refine Bc ?_;exact qk.h):p:=h ⟨k⟩
theorem N4(k:q)(h:Hk q→p:=by intro qk;refine Z0 ?_;refine B3 ?_;exact qk.h):p:=h ⟨k⟩
theorem AEj(h:p:=by refine Ex ?_;exact AJ9):p:=h
theorem ph(k:q)(h:Hk q→p:=by intro qk;refine Z55 ?_;refine Ex ?_;exact qk.h):p:=h ⟨k⟩
theorem AHb(h:p:=by refine Z65 ?_;exact A8 (B4 (Az jA jS) (Az jA jS)) ⟨by rw [e]<;>rfl,rfl⟩ (hlow:=by have:=AD5 (n:=Hp.length) (q:=(r3Q (Bp s).1).1);simp at this ⊢;exact this)):p:=h
theorem jo(h:p:=by refine Z63 ?_;exact wh):p:=h
theorem Tu(h:p:=by refine Z18 ?_;refine Z24 ?_;exact A8 (Ai A6) ⟨by simp_all [S9],rfl⟩):p:=h
theorem Oh(k:q)(h:Hk q→p:=by intro qk;refine Z3 ?_;refine Z13 ?_;exact qk.h):p:=h ⟨k⟩
theorem AAg(k:q)(h:Hk q→p:=by intro qk;refine N2 (1) jU Tryz.sizeOf97 (by decide) ?_;refine F1 ?_;exact qk.h):p:=h ⟨k⟩
theorem Xl(k:q)(h:Hk q→p:=by intro qk;refine Z46 ?_;refine Z6 ?_;exact qk.h):p:=h ⟨k⟩
theorem Qa(k:q)(h:Hk q→p:=by intro qk;refine Z6 ?_;refine A4 ?_;exact qk.h):p:=h ⟨k⟩
theorem Ve(k:q)(h:Hk q→p:=by intro qk;refine Z17 ?_;refine Z5 ?_;exact qk.h):p:=h ⟨k⟩
theorem AEk(h:p:=by refine Ex ?_;exact k8):p:=h
theorem bg(k:q)(h:Hk q→p:=by intro qk;refine Z2 ?_;refine Z27 ?_;exact qk.h):p:=h ⟨k⟩
theorem pi(h:p:=by refine Z92 ?_;exact k9):p:=h
theorem AEl(k:q)(h:Hk q→p:=by intro qk;refine Eg ?_;refine wc ?_;exact qk.h):p:=h ⟨k⟩
theorem AAh(k:q)(h:Hk q→p:=by intro qk;refine A7 Tryz.call199 (ALz l S o _ (Ar ho) hi) ?_;refine Z16 ?_;exact qk.h):p:=h ⟨k⟩
theorem Xm(k:q)(h:Hk q→p:=by intro qk;refine Eg ?_;refine Z49 ?_;exact qk.h):p:=h ⟨k⟩
theorem AEm(k:q)(h:Hk q→p:=by intro qk;refine wc ?_;refine Z38 ?_;exact qk.h):p:=h ⟨k⟩
theorem AAi(k:q)(h:Hk q→p:=by intro qk;refine A4 ?_;refine AB2 ?_;exact qk.h):p:=h ⟨k⟩
theorem AEn(h:p:=by refine Z5 ?_;exact AJc):p:=h
theorem AHc(k:q)(h:Hk q→p:=by intro qk;refine A4 ?_;refine bn ?_;exact qk.h):p:=h ⟨k⟩
theorem du(k:q)(h:Hk q→p:=by intro qk;refine Z45 ?_;refine Z26 ?_;refine Z4 ?_;exact qk.h):p:=h ⟨k⟩
theorem AEo(k:q)(h:Hk q→p:=by intro qk;refine Ct [0,0,2,6,14,31,63,63,255,511] 8 Aj (by kernel_rfl) ?_;refine Z34 ?_;exact qk.h):p:=h ⟨k⟩
theorem dv(k:q)(h:Hk q→p:=by intro qk;refine Z2 ?_;refine F1 ?_;exact qk.h):p:=h ⟨k⟩
theorem AAj(h:p:=by refine Z89 ?_;exact Bc (by rw [e]<;>rfl)):p:=h
theorem AEp(k:q)(h:Hk q→p:=by intro qk;refine Xq ?_;refine Z55 ?_;exact qk.h):p:=h ⟨k⟩
theorem AEq(k:q)(h:Hk q→p:=by intro qk;refine Xq ?_;refine Z21 ?_;exact qk.h):p:=h ⟨k⟩
theorem AHd(h:p:=by refine A2 [] ?_;exact AJu):p:=h
theorem dw(k:q)(h:Hk q→p:=by intro qk;refine Z24 ?_;refine Ex ?_;exact qk.h):p:=h ⟨k⟩
theorem bh(h:p:=by refine Z81 ?_;exact Z42):p:=h
theorem AHe(k:q)(h:Hk q→p:=by intro qk;refine F7 (tn:=[9,10]) (O:=[.cells 24 [A5 0,A5 0,Ac []],.cells 24 [A5 (B0 ra).1.kind,A5 (B0 ra).1.n,Ac (B0 ra).1.s]]) ?_;refine A4 ?_;exact qk.h):p:=h ⟨k⟩
theorem Vf(k:q)(h:Hk q→p:=by intro qk;refine Z18 ?_;refine Z28 ?_;exact qk.h):p:=h ⟨k⟩
theorem AHf(h:p:=by refine G5 ?_;exact AJu):p:=h
theorem Tv(k:q)(h:Hk q→p:=by intro qk;refine Z3 ?_;refine Z20 ?_;exact qk.h):p:=h ⟨k⟩
theorem AHg(h:p:=by refine Z47 ?_;exact AFg):p:=h
theorem vd(h:p:=by refine Z27 ?_;exact wh):p:=h
theorem AAk(h:p:=by refine Z38 ?_;exact A8 (Ai (Az jA jS))):p:=h
theorem AEr(h:p:=by refine Z5 ?_;exact A8 (Ai A6) ⟨by simp_all [lj],rfl⟩):p:=h
theorem AEs(k:q)(h:Hk q→p:=by intro qk;refine Z11 ?_;refine A7 Tryz.call23 (hev (x.kids.getD 1 Am) (Oe hk1) _) ?_;exact qk.h):p:=h ⟨k⟩
theorem AHh(h:p:=by refine Eu ?_;exact A8 (B4 (Jx jA) (Jx jA)) ⟨by rw [hy.2,hrun],rfl⟩ (hlow:=by simp [or_imp,forall_and])):p:=h
theorem ve(h:p:=by refine Dg [2,3,9] ?_;exact Z77):p:=h
theorem AHi(h:p:=by refine Z27 ?_;exact A8 (Ai A6) ⟨rfl,by first|(rw [e];done)|(rw [e];rfl)|(rw [e];exact (Cp ho).symm)⟩):p:=h
theorem AHj(h:p:=by refine A2 [0,1,7,8] ?_;exact B5 (x+1) ⟨hlt,Dn hlt hx.2 (by rw [ht16];simp)⟩ (by omega) (Bx rfl)):p:=h
theorem AEt(h:p:=by refine Z68 ?_;exact AFb):p:=h
theorem AEu(h:p:=by refine Z54 ?_;exact A8 (B4 A6 A6) ⟨by rw [hw],rfl⟩):p:=h
theorem AHk(h:p:=by refine Z65 ?_;exact AFg):p:=h
theorem AEv(h:p:=by refine Z17 ?_;exact AFh):p:=h
theorem dx(k:q)(h:Hk q→p:=by intro qk;refine Z0 ?_;refine Z21 ?_;exact qk.h):p:=h ⟨k⟩
theorem AEw(h:p:=by refine Z63 ?_;refine Z5 ?_;exact AJt):p:=h
theorem AEx(k:q)(h:Hk q→p:=by intro qk;refine A2 [1,2,3,9,10] ?_;refine B5 (x+1) ⟨hlt,hN⟩ (by omega) ?_;exact qk.h):p:=h ⟨k⟩
theorem vf(h:p:=by refine Dg [3,8] ?_;exact Z77):p:=h
theorem AHl(h:p:=by refine Z47 ?_;exact AJr):p:=h
theorem Xn(k:q)(h:Hk q→p:=by intro qk;refine AEi ?_;refine Z7 ?_;exact qk.h):p:=h ⟨k⟩
theorem pj(h:p:=by refine A2 [] ?_;refine Hc ?_;exact Jz .nores ⟨rfl,by rw [pe]<;>simp [xm]⟩):p:=h
theorem jp(k:q)(h:Hk q→p:=by intro qk;refine Z1 ?_;refine A2 [0,1] ?_;exact qk.h):p:=h ⟨k⟩
theorem Xo(k:q)(h:Hk q→p:=by intro qk;refine Z53 ?_;refine Z1 ?_;exact qk.h):p:=h ⟨k⟩
theorem AHm(h:p:=by refine bg ?_;exact A8 (Ai A6) ⟨by rw [ka (K1 (by simp at ht9;omega) hx.2)],rfl⟩):p:=h
theorem pk(k:q)(h:Hk q→p:=by intro qk;refine Z1 ?_;refine A2 [2,3,9] ?_;exact qk.h):p:=h ⟨k⟩
theorem Xp(k:q)(h:Hk q→p:=by intro qk;refine Z19 ?_;refine Z2 ?_;exact qk.h):p:=h ⟨k⟩
theorem vg(k:q)(h:Hk q→p:=by intro qk;refine Vh ?_;refine Eu ?_;exact qk.h):p:=h ⟨k⟩
theorem AHn(h:p:=by refine A2 [1,3,4] ?_;exact B5 (x+1) hlt (by omega) (by simp only [em];exact Bx rfl)):p:=h
theorem AHo(h:p:=by refine D.build (places:=#[(0,1),(1,1),(2,6),(8,1)]) jU (fun w=>by simp) jZ ?_;exact pi):p:=h
theorem vh(h:p:=by refine Xl ?_;exact AEw):p:=h
theorem AHp(h:p:=by refine Z38 ?_;exact A8 (Ai (Az jA jS)) ⟨by simp only [Wx,hm]<;>simp_all,rfl⟩):p:=h
theorem vi(k:q)(h:Hk q→p:=by intro qk;refine Vh ?_;refine Z41 ?_;exact qk.h):p:=h ⟨k⟩
theorem vj(k:q)(h:Hk q→p:=by intro qk;refine A2 [6,7] ?_;refine Z9 ?_;exact qk.h):p:=h ⟨k⟩
theorem AHq(h:p:=by refine D.build (places:=#[(0,1),(1,1)]) jU (fun w=>by simp) jZ ?_;exact k9):p:=h
theorem dy(k:q)(h:Hk q→p:=by intro qk;refine Z24 ?_;refine Z47 ?_;exact qk.h):p:=h ⟨k⟩
theorem jq(k:q)(h:Hk q→p:=by intro qk;refine Z19 ?_;refine Eg ?_;exact qk.h):p:=h ⟨k⟩
theorem dz(k:q)(h:Hk q→p:=by intro qk;refine Z2 ?_;refine ph ?_;exact qk.h):p:=h ⟨k⟩
theorem ec(k:q)(h:Hk q→p:=by intro qk;refine Z52 ?_;refine Z24 ?_;exact qk.h):p:=h ⟨k⟩
theorem AHr(h:p:=by refine Bw Tryz.call128 (fun hB=>AJy e.text O4 hs (by decide) _) ?_;exact vh):p:=h
theorem pl(k:q)(h:Hk q→p:=by intro qk;refine Z13 ?_;refine A2 [2,3] ?_;exact qk.h):p:=h ⟨k⟩
theorem AEy(k:q)(h:Hk q→p:=by intro qk;refine A4 ?_;refine A7 Tryz.call135 (Wr (ks.getD 0 0) 1 _) ?_;exact qk.h):p:=h ⟨k⟩
theorem AEz(k:q)(h:Hk q→p:=by intro qk;refine A4 ?_;refine A7 Tryz.call135 (Wr (ks.getD 0 0) 2 _) ?_;exact qk.h):p:=h ⟨k⟩
theorem AHs(h:p:=by refine Eu ?_;exact A8 (B4 A6 A6) ⟨by unfold Yz;rw [hm];try rfl,rfl⟩):p:=h
theorem AHt(h:p:=by refine Z24 ?_;exact AAz):p:=h
theorem jr(h:p:=by refine Z7 ?_;refine Z17 ?_;exact k8):p:=h
theorem js(k:q)(h:Hk q→p:=by intro qk;refine Eg ?_;refine Z16 ?_;exact qk.h):p:=h ⟨k⟩
theorem AHu(h:p:=by refine we ?_;exact B5 (k+1) hk (by omega) (Bx rfl)):p:=h
theorem pm(h:p:=by refine Z20 ?_;refine Z17 ?_;refine Z5 ?_;exact AJg):p:=h
theorem pq(h:p:=by refine Z7 ?_;refine A2 [4,5] ?_;exact Z44):p:=h
theorem AHv(h:p:=by refine Eu ?_;exact k8):p:=h
theorem pt(h:p:=by refine Z81 ?_;exact Z70):p:=h
theorem AF0(h:p:=by refine Z34 ?_;exact k9):p:=h
theorem ee(k:q)(h:Hk q→p:=by intro qk;refine Z10 ?_;refine Z34 ?_;exact qk.h):p:=h ⟨k⟩
theorem bi(k:q)(h:Hk q→p:=by intro qk;refine Z18 ?_;refine Z1 ?_;exact qk.h):p:=h ⟨k⟩
theorem ef(k:q)(h:Hk q→p:=by intro qk;refine Z33 ?_;refine A4 ?_;exact qk.h):p:=h ⟨k⟩
theorem AF1(k:q)(h:Hk q→p:=by intro qk;refine Y.allocP Tryz.zeroValue82 ?_;refine Y.storeP Tryz.sizeOf82 ?_;exact qk.h):p:=h ⟨k⟩
theorem jt(k:q)(h:Hk q→p:=by intro qk;refine Z3 ?_;refine Eg ?_;exact qk.h):p:=h ⟨k⟩
theorem AHw(k:q)(h:Hk q→p:=by intro qk;refine An ?_;refine AJv ?_;exact qk.h):p:=h ⟨k⟩
theorem AHx(k:q)(h:Hk q→p:=by intro qk;refine AJv ?_;refine Tr ?_;exact qk.h):p:=h ⟨k⟩
theorem pu(k:q)(h:Hk q→p:=by intro qk;refine Z1 ?_;refine Z54 ?_;exact qk.h):p:=h ⟨k⟩
theorem pv(k:q)(h:Hk q→p:=by intro qk;refine Z2 ?_;refine A2 [6] ?_;exact qk.h):p:=h ⟨k⟩
theorem vk(h:p:=by refine bg ?_;exact Z67):p:=h
theorem eg(k:q)(h:Hk q→p:=by intro qk;refine Z13 ?_;refine Z78 ?_;exact qk.h):p:=h ⟨k⟩
theorem bj(k:q)(h:Hk q→p:=by intro qk;refine Z3 ?_;refine Z8 ?_;exact qk.h):p:=h ⟨k⟩
theorem vl(k:q)(h:Hk q→p:=by intro qk;refine Z83 ?_;refine F1 ?_;exact qk.h):p:=h ⟨k⟩
theorem AHy(h:p:=by refine Ve ?_;exact AJd):p:=h
theorem AHz(h:p:=by refine pu ?_;exact AJf):p:=h
theorem AF2(k:q)(h:Hk q→p:=by intro qk;refine A4 ?_;refine N2 (k) jU Tryz.sizeOf97 hk ?_;exact qk.h):p:=h ⟨k⟩
theorem AI0(h:p:=by refine Z24 ?_;exact AJt):p:=h
theorem AI1(h:p:=by refine B5 (x+1) ⟨hlt,hn⟩ (by omega) ?_;exact Bx (by simp)):p:=h
theorem AI2(h:p:=by refine Ve ?_;exact A8 (B4 A6 A6) ⟨by simp_all [Ty],rfl⟩):p:=h
theorem AI3(k:q)(h:Hk q→p:=by intro qk;refine Ct [0,0,3,7,15,0,0,96,224,511,0,2047,4095] 11 Aj (by kernel_rfl) ?_;refine vb ?_;exact qk.h):p:=h ⟨k⟩
theorem AI4(h:p:=by refine vj ?_;exact AJp):p:=h
theorem ju(k:q)(h:Hk q→p:=by intro qk;refine A4 ?_;refine Z16 ?_;exact qk.h):p:=h ⟨k⟩
theorem vm(h:p:=by refine du ?_;refine Z5 ?_;exact AJb):p:=h
theorem AI5(h:p:=by refine pu ?_;exact AFe):p:=h
theorem AF3(h:p:=by refine Eu ?_;exact wh):p:=h
theorem AF4(k:q)(h:Hk q→p:=by intro qk;refine bn ?_;refine bn ?_;exact qk.h):p:=h ⟨k⟩
theorem AI6(h:p:=by refine Z38 ?_;exact A8 (Ai (Az jA jS)) ⟨by simp [ht5],rfl⟩):p:=h
theorem vn(k:q)(h:Hk q→p:=by intro qk;refine A2 [2,3] ?_;refine Z41 ?_;exact qk.h):p:=h ⟨k⟩
theorem AI7(k:q)(h:Hk q→p:=by intro qk;refine Z13 ?_;refine Bk Tryz.call110 ho (by simp) D4 (r7 l S 8 (Ak l S.i).at_ o _ (Ar ho)) ?_;exact qk.h):p:=h ⟨k⟩
theorem vo(h:p:=by refine Z63 ?_;exact Z50):p:=h
theorem jv(k:q)(h:Hk q→p:=by intro qk;refine Z12 ?_;refine Z28 ?_;exact qk.h):p:=h ⟨k⟩
theorem vp(k:q)(h:Hk q→p:=by intro qk;refine Z16 ?_;refine F1 ?_;exact qk.h):p:=h ⟨k⟩
theorem AI8(h:p:=by refine Z47 ?_;exact A8 (B4 A6 A6) ⟨by rw [hbad],rfl⟩):p:=h
theorem AI9(h:p:=by refine Z37 ?_;exact A8 (Ai A6) ⟨by rw [hx.eq,hw],rfl⟩):p:=h
theorem vq(h:p:=by refine Z24 ?_;refine Z5 ?_;exact A8 (Ai A6) ⟨by simp_all [Pr],rfl⟩):p:=h
theorem AIa(h:p:=by refine Z27 ?_;exact AJk):p:=h
theorem AIb(k:q)(h:Hk q→p:=by intro qk;refine A7 Tryz.call56 (ANb _) ?_;refine Lq (places:=#[(0,1),(1,5)]) jU (fun w=>by simp) jZ ?_;exact qk.h):p:=h ⟨k⟩
theorem AIc(h:p:=by refine Z4 ?_;exact A8 (Ai A6) ⟨by rw [hm,hD]<;>rfl,rfl⟩):p:=h
theorem AId(h:p:=by refine Z47 ?_;exact A8 (B4 A6 A6) ⟨by rw [hkb],rfl⟩):p:=h
theorem vr(k:q)(h:Hk q→p:=by intro qk;refine Z1 ?_;refine A2 [3,8] ?_;exact qk.h):p:=h ⟨k⟩
theorem AIe(h:p:=by refine dw ?_;exact AFc):p:=h
theorem vt(k:q)(h:Hk q→p:=by intro qk;refine Z13 ?_;refine A2 [1,2] ?_;exact qk.h):p:=h ⟨k⟩
theorem px(k:q)(h:Hk q→p:=by intro qk;refine Z1 ?_;refine Z68 ?_;exact qk.h):p:=h ⟨k⟩
theorem AIf(h:p:=by refine px ?_;exact AFh):p:=h
theorem AIg(h:p:=by refine Ve ?_;exact AFh):p:=h
theorem AIh(k:q)(h:Hk q→p:=by intro qk;refine Z93 ?_;refine A7 Tryz.call89 (c89 _ (rdL d).1 (Cc (hlow ht77) (by decide)) _) ?_;exact qk.h):p:=h ⟨k⟩
theorem AIi(h:p:=by refine Z27 ?_;exact AFf):p:=h
theorem AF5(h:p:=by refine Z4 ?_;exact wh):p:=h
theorem AIj(k:q)(h:Hk q→p:=by intro qk;refine Ct [0,1,3,7,15,3,35,99,255,511,1023] 8 Aj (by kernel_rfl) ?_;refine Z10 ?_;exact qk.h):p:=h ⟨k⟩
theorem AIk(h:p:=by refine Z63 ?_;exact AFc):p:=h
theorem AIl(h:p:=by refine Z17 ?_;exact AFb):p:=h
theorem AIm(k:q)(h:Hk q→p:=by intro qk;refine A7 Tryz.call52 (c52 _ _) ?_;refine Z21 ?_;refine Z41 ?_;exact qk.h):p:=h ⟨k⟩
theorem jx(k:q)(h:Hk q→p:=by intro qk;refine Z1 ?_;refine Z11 ?_;exact qk.h):p:=h ⟨k⟩
theorem AAl(k:q)(h:Hk q→p:=by intro qk;refine Vh ?_;refine Z9 ?_;exact qk.h):p:=h ⟨k⟩
theorem AIn(k:q)(h:Hk q→p:=by intro qk;refine bm ?_;refine Ct [0,1,3,0,8,24,56,127] 7 Aj (by kernel_rfl) ?_;exact qk.h):p:=h ⟨k⟩
theorem AIo(h:p:=by refine Cy Tryz.call206 (AKj c l k0 ra ha _) ?_;exact AF0):p:=h
theorem AF6(k:q)(h:Hk q→p:=by intro qk;refine Eg ?_;refine A7 Tryz.call183 (ALo _) ?_;exact qk.h):p:=h ⟨k⟩
theorem AAm(k:q)(h:Hk q→p:=by intro qk;refine Z33 ?_;refine A2 [0,1,2,6] ?_;exact qk.h):p:=h ⟨k⟩
theorem AAn(h:p:=by refine An ?_;exact Z84):p:=h
theorem vu(h:p:=by refine Z2 ?_;exact Z69):p:=h
theorem AIp(h:p:=by refine dw ?_;exact ek):p:=h
theorem AF7(h:p:=by refine Pa 0 1 1 ?_;refine Pa 0 7 6 ?_;refine F1 ?_;refine Z54 ?_;exact A8 (B4 (Az jA jS) (Az jA jS)) ⟨by rw [e]<;>rfl,rfl⟩):p:=h
theorem vw(k:q)(h:Hk q→p:=by intro qk;refine G5 ?_;refine K.thJ ?_;exact qk.h):p:=h ⟨k⟩
theorem AIq(h:p:=by refine Z9 ?_;exact AFa):p:=h
theorem AIr(h:p:=by refine ec ?_;exact ek):p:=h
theorem py(k:q)(h:Hk q→p:=by intro qk;refine Z27 ?_;refine Z47 ?_;exact qk.h):p:=h ⟨k⟩
theorem jy(k:q)(h:Hk q→p:=by intro qk;refine Z3 ?_;refine Z48 ?_;exact qk.h):p:=h ⟨k⟩
theorem AAo(k:q)(h:Hk q→p:=by intro qk;refine A2 [2,3,6,7] ?_;refine Z2 ?_;exact qk.h):p:=h ⟨k⟩
theorem jz(k:q)(h:Hk q→p:=by intro qk;refine Z7 ?_;refine Z65 ?_;exact qk.h):p:=h ⟨k⟩
theorem vz(k:q)(h:Hk q→p:=by intro qk;refine R.moveT ?_;refine AHc ?_;exact qk.h):p:=h ⟨k⟩
theorem AIs(h:p:=by refine Z4 ?_;exact ek):p:=h
theorem AAp(h:p:=by refine AAf ?_;refine dx ?_;refine Z41 ?_;exact AJh):p:=h
theorem AIt(k:q)(h:Hk q→p:=by intro qk;refine A4 ?_;refine N2 ((i+k)) jU Tryz.sizeOf97 (by omega) (hm:=by omega) ?_;exact qk.h):p:=h ⟨k⟩
theorem AAq(k:q)(h:Hk q→p:=by intro qk;refine Z96 ?_;refine Vg ?_;exact qk.h):p:=h ⟨k⟩
theorem AIu(k:q)(h:Hk q→p:=by intro qk;refine Z61 ?_;refine N2 ((i+k)) jU Tryz.sizeOf97 (by omega) (hm:=by omega) ?_;exact qk.h):p:=h ⟨k⟩
theorem pz(k:q)(h:Hk q→p:=by intro qk;refine Z20 ?_;refine Q8 ?_;exact qk.h):p:=h ⟨k⟩
theorem w4(k:q)(h:Hk q→p:=by intro qk;refine Z20 ?_;refine A2 [0] ?_;exact qk.h):p:=h ⟨k⟩
theorem w5(k:q)(h:Hk q→p:=by intro qk;refine A2 [] ?_;refine Z9 ?_;exact qk.h):p:=h ⟨k⟩
theorem AIv(k:q)(h:Hk q→p:=by intro qk;refine W.draw [0,1,3,7,7,31,63,0,127,511] 9 Aj (by kernel_rfl) ?_;refine Z34 ?_;exact qk.h):p:=h ⟨k⟩
theorem AIw(h:p:=by refine Z4 ?_;exact A8 (Ai A6) ⟨by simp,rfl⟩):p:=h
theorem AAr(h:p:=by refine Z0 ?_;exact Rj):p:=h
theorem AF8(k:q)(h:Hk q→p:=by intro qk;refine A7 Tryz.call52 (c52 _ _) ?_;refine Z55 ?_;exact qk.h):p:=h ⟨k⟩
theorem AIx(k:q)(h:Hk q→p:=by intro qk;refine Cy Tryz.call87 (ANa (rdL (d.take i)).1 10 hm2 (by decide) _) ?_;refine Tr ?_;exact qk.h):p:=h ⟨k⟩
theorem q8(k:q)(h:Hk q→p:=by intro qk;refine Z2 ?_;refine Z55 ?_;exact qk.h):p:=h ⟨k⟩
theorem AIy(k:q)(h:Hk q→p:=by intro qk;refine Z2 ?_;refine Xq ?_;exact qk.h):p:=h ⟨k⟩
theorem AF9(k:q)(h:Hk q→p:=by intro qk;refine A4 ?_;refine A7 Tryz.call92 (c92 e _) ?_;exact qk.h):p:=h ⟨k⟩
theorem q9(k:q)(h:Hk q→p:=by intro qk;refine Z53 ?_;refine Z13 ?_;exact qk.h):p:=h ⟨k⟩
theorem w6(k:q)(h:Hk q→p:=by intro qk;refine AIm ?_;refine Ex ?_;exact qk.h):p:=h ⟨k⟩
theorem AAs(h:p:=by refine Z1 ?_;refine Z54 ?_;exact AFg):p:=h
theorem AAt(k:q)(h:Hk q→p:=by intro qk;refine Z16 ?_;refine A2 [0,2,3] ?_;exact qk.h):p:=h ⟨k⟩
theorem w7(k:q)(h:Hk q→p:=by intro qk;refine Z3 ?_;refine Et ?_;exact qk.h):p:=h ⟨k⟩
theorem AAu(k:q)(h:Hk q→p:=by intro qk;refine A2 [3,9] ?_;refine Ef ?_;exact qk.h):p:=h ⟨k⟩
theorem AAv(k:q)(h:Hk q→p:=by intro qk;refine Z22 ?_;refine F1 ?_;exact qk.h):p:=h ⟨k⟩
theorem AAw(k:q)(h:Hk q→p:=by intro qk;refine Z83 ?_;refine Tx ?_;exact qk.h):p:=h ⟨k⟩
theorem AAx(k:q)(h:Hk q→p:=by intro qk;refine A4 ?_;refine F1 ?_;exact qk.h):p:=h ⟨k⟩
theorem AIz(h:p:=by refine A7 Tryz.call122 (eu _ _) ?_;exact Rj):p:=h
theorem AJ0(k:q)(h:Hk q→p:=by intro qk;refine Ct [0,0,0,7,15,15,63,127] 6 Aj (by kernel_rfl) ?_;refine Z10 ?_;exact qk.h):p:=h ⟨k⟩
theorem eh(h:p:=by exact ⟨rfl,Below.refl _ _⟩):p:=h
theorem Kr(k:q)(h:Hk q→p:=by intro qk;refine A2 [0,3] ?_;exact qk.h):p:=h ⟨k⟩
theorem bm(k:q)(h:Hk q→p:=by intro qk;refine A2 [0,3,4] ?_;exact qk.h):p:=h ⟨k⟩
theorem Vg(k:q)(h:Hk q→p:=by intro qk;refine A2 [0,1,5] ?_;exact qk.h):p:=h ⟨k⟩
theorem AJ1(h:p:=by exact h (y,j) (by rw [Ke];exact hj)):p:=h
theorem Eg(k:q)(h:Hk q→p:=by intro qk;refine AW.seqR ?_;exact qk.h):p:=h ⟨k⟩
theorem AJ2(h:p:=by exact A8 (Ai A6) ⟨by simp [Bu,ht5],rfl⟩):p:=h
theorem AJ3(h:p:=by exact A8 (Ai A6) ⟨by simp [Bu,ht5,ht16,ht22],rfl⟩):p:=h
theorem F1(k:q)(h:Hk q→p:=by intro qk;refine My jS ?_;exact qk.h):p:=h ⟨k⟩
theorem Xq(k:q)(h:Hk q→p:=by intro qk;refine Lq (places:=#[(0,1),(1,1),(2,1)]) jU (fun w=>by simp) jZ ?_;exact qk.h):p:=h ⟨k⟩
theorem Tw(k:q)(h:Hk q→p:=by intro qk;refine A2 [1,3] ?_;exact qk.h):p:=h ⟨k⟩
theorem AJ4(h:p:=by exact A8 (Ai A6) ⟨by simp only [Hd,hp,ht7,ht14,ht23,ht27,Bn,Af,if_false,if_true];try rfl,rfl⟩):p:=h
theorem AJ5(h:p:=by exact A8 (B4 (Az jA jS) A6) ⟨by simp only [ey,ht17,if_true,if_false,Af];rfl,rfl⟩):p:=h
theorem AJ6(h:p:=by exact A8 (Jy A6 A6 A6 A6) ⟨by simp only [Pe,ht11,ht17,if_true,if_false,Af];try rfl,rfl⟩):p:=h
theorem AJ7(h:p:=by exact A8 (Jy A6 A6 A6 A6) ⟨by simp only [Vq,ht18,ht23,if_true,if_false,Af];try rfl,rfl⟩):p:=h
theorem AJ8(h:p:=by exact A8 (Jy A6 A6 A6 A6) ⟨by simp only [Cf,ht6,ht17,ht28,if_true,if_false,Af],rfl⟩):p:=h
theorem w8(h:p:=by exact absurd h (by decide)):p:=h
theorem Ks(k:q)(h:Hk q→p:=by intro qk;refine R.alloc jZ ?_;exact qk.h):p:=h ⟨k⟩
theorem bn(k:q)(h:Hk q→p:=by intro qk;refine R.buildSlice jU jS jZ ?_;exact qk.h):p:=h ⟨k⟩
theorem k7(k:q)(h:Hk q→p:=by intro qk;refine Lq (places:=#[(0,1),(1,1)]) jU (fun w=>by simp) jZ ?_;exact qk.h):p:=h ⟨k⟩
theorem AAy(h:p:=by exact ⟨hFRl,by simp [oid]⟩):p:=h
theorem w9(h:p:=by exact Qf (fun x hx=>ObjLow.le (by omega) (hlow x hx)) hOl x hx):p:=h
theorem Vh(k:q)(h:Hk q→p:=by intro qk;refine A2 [2,3,4,5] ?_;exact qk.h):p:=h ⟨k⟩
theorem wc(k:q)(h:Hk q→p:=by intro qk;refine Lq (places:=#[(0,1),(1,1),(2,3),(5,1)]) jU (fun w=>by simp) jZ ?_;exact qk.h):p:=h ⟨k⟩
theorem AAz(h:p:=by exact A8 (Ai A6) ⟨by simp_all [Ge,L6,r9],rfl⟩):p:=h
theorem Xr(h:p:=by exact Wn _):p:=h
theorem AFa(h:p:=by exact A8 (Ai A6) ⟨by rw [hf],rfl⟩):p:=h
theorem qb(h:p:=by exact hcmp _ rfl rfl hf):p:=h
theorem wd(h:p:=by exact har _ rfl rfl rfl hf):p:=h
theorem Tx(k:q)(h:Hk q→p:=by intro qk;refine A2 [2,3,4] ?_;exact qk.h):p:=h ⟨k⟩
theorem AJ9(h:p:=by exact A8 (Ai (Az jA jS)) ⟨by rw [e,Ax],by rw [e]⟩ (hlow:=low_agg _)):p:=h
theorem AJa(h:p:=by exact A8 (Ai (Az jA jS)) ⟨by first|exact yg (by unfold Cm;simp [*];done)|exact yf (by unfold Cm;simp [*];done)|exact yh (by unfold Cm;simp [*];done),rfl⟩):p:=h
theorem AJb(h:p:=by exact A8 (Ai (Az jA jS)) ⟨by first|exact yg (by unfold D5;simp [*];done)|exact yf (by unfold D5;simp [*];done)|exact yh (by unfold D5;simp [*];done),rfl⟩):p:=h
theorem AJc(h:p:=by exact A8 (Ai (Az jA jS)) ⟨by simp_all [I5],rfl⟩):p:=h
theorem AJd(h:p:=by exact A8 (B4 A6 A6) ⟨by simp_all [Ez],rfl⟩):p:=h
theorem qc(k:q)(h:Hk q→p:=by intro qk;refine A2 [2,6,13,14,15] ?_;exact qk.h):p:=h ⟨k⟩
theorem AFb(h:p:=by exact A8 (B4 A6 A6) ⟨by rw [hk],rfl⟩):p:=h
theorem AB0(h:p:=by exact A8 (B4 A6 A6) ⟨by rw [hk,hk2],rfl⟩):p:=h
theorem AJe(h:p:=by exact A8 (B4 A6 A6) ⟨by rw [hka,←hrf];unfold Sd;first|rw [if_neg (by simpa using ht235)]|rw [if_pos (by simpa using ht235)],rfl⟩):p:=h
theorem ek(h:p:=by exact A8 (Ai A6) ⟨by rw [hm],rfl⟩):p:=h
theorem AJf(h:p:=by exact A8 (B4 A6 A6) ⟨by rw [hsh]<;>rfl,rfl⟩):p:=h
theorem AB1(h:p:=by exact A8 (B4 (Az jA jS) A6) ⟨by rw [hw];try rfl,rfl⟩):p:=h
theorem AJg(h:p:=by exact A8 (B4 A6 A6) ⟨by simp_all [Ea],rfl⟩):p:=h
theorem AJh(h:p:=by exact A8 (B4 (Az Tryz.isAgg24 Tryz.sizeOf24) A6) ⟨by simp_all [Dt],rfl⟩):p:=h
theorem k8(h:p:=by exact A8 (B4 (Az jA jS) A6) ⟨by rw [hm];try rfl,rfl⟩):p:=h
theorem AJi(h:p:=by exact A8 (Ai (Az jA jS)) ⟨by rw [hm];try rfl,rfl⟩):p:=h
theorem AJj(k:q)(h:Hk q→p:=by intro qk;refine Y.alloc (zs:=[A5 0,A5 0,Ac []]) (n:=1) (u:=Hp.length) Tryz.zeroValue24 (fun B hT hF hB=>⟨rfl,by simp [hB],by simp [upd,hB,hF 1 (by simp)],rfl⟩) ?_;exact qk.h):p:=h ⟨k⟩
theorem AB2(k:q)(h:Hk q→p:=by intro qk;refine N2 (0) jU Tryz.sizeOf97 (by decide) ?_;exact qk.h):p:=h ⟨k⟩
theorem AJk(h:p:=by exact A8 (Ai (Az jA jS)) ⟨by rw [had],rfl⟩):p:=h
theorem we(k:q)(h:Hk q→p:=by intro qk;refine A2 [2,3,4,5,9,10] ?_;exact qk.h):p:=h ⟨k⟩
theorem wg(k:q)(h:Hk q→p:=by intro qk;refine A2 [2,3,4,5,6,7,8] ?_;exact qk.h):p:=h ⟨k⟩
theorem AB3(k:q)(h:Hk q→p:=by intro qk;refine A2 [2,3,4,5,6,7,8,9,10] ?_;exact qk.h):p:=h ⟨k⟩
theorem AJl(h:p:=by exact A8 (Ai (Az jA jS)) ⟨by rw [hb];rfl,rfl⟩):p:=h
theorem k9(h:p:=by exact D.end rfl rfl):p:=h
theorem Xs(k:q)(h:Hk q→p:=by intro qk;refine A2 [0,4,5,6,7,8,9] ?_;exact qk.h):p:=h ⟨k⟩
theorem Rl(h:p:=by exact ir _):p:=h
theorem Rm(h:p:=by exact X1 _):p:=h
theorem Hm(h:p:=by exact A8 (B4 (Az jA jS) A6) ⟨by first|(rw [href];done)|(rw [href];rfl),rfl⟩):p:=h
theorem AJm(h:p:=by exact ⟨Jb (Qv _ _ _).symm,by rw [Qv];exact hi,hc⟩):p:=h
theorem AJn(k:q)(h:Hk q→p:=by intro qk;refine ba (u:=Hp.length) (n:=0) (t':=29) (cs:=[At false,.nil,A5 0,Ac [],A5 0,A5 0,Ac [],.nil,A5 0]) (cs':=[At false,.nil,A5 0,Ac [],A5 0,A5 0,Ac [],.nil,A5 0]) Tryz.sizeOf29 (fun B hB=>⟨rfl,rfl,rfl,rfl⟩) ?_;exact qk.h):p:=h ⟨k⟩
theorem AJo(k:q)(h:Hk q→p:=by intro qk;refine Fs [0,0,2,6,14,1,63] [5] [.q 5 [] [],.s [] (some 0) [] []] (fun _=>Hp) (fun _=>[.cells 29 [At false,.nil,A5 0,Ac [],A5 0,A5 0,Ac [],.nil,A5 0],.cells 50 [A5 0,A5 0],.cells 50 [A5 (Bp s).2.1,A5 ((Bp s).2.2:Nat)],prq (Bp s).1 (s5Q (Bp s).1),qo true (r3Q (Bp s).1).1]) Aj (by kernel_rfl) rfl rfl (fun _=>rfl) ?_;exact qk.h):p:=h ⟨k⟩
theorem AFc(h:p:=by exact A8 (Ai A6) ⟨by rw [e]<;>rfl,rfl⟩):p:=h
theorem AFd(h:p:=by exact A8 (Ai A6) ⟨by rw [e],rfl⟩):p:=h
theorem AFe(h:p:=by exact A8 (B4 A6 A6) ⟨by rw [e]<;>rfl,rfl⟩):p:=h
theorem AJp(h:p:=by exact A8 (B4 A6 A6) ⟨by rw [hm]<;>rfl,rfl⟩):p:=h
theorem AJq(h:p:=by exact Nu (List.length_filter_le _ _) (by rw [Ei];omega)):p:=h
theorem AFf(h:p:=by exact A8 (Ai A6) ⟨by rw [hm]<;>rfl,rfl⟩):p:=h
theorem AB4(k:q)(h:Hk q→p:=by intro qk;refine A2 [1,2,3,9,10,11,14,15] ?_;exact qk.h):p:=h ⟨k⟩
theorem AJr(h:p:=by exact A8 (B4 A6 A6) ⟨by rw [←zm hck h.rng (ADo hw),hm]<;>rfl,rfl⟩):p:=h
theorem wh(h:p:=by exact A8 (Ai A6)):p:=h
theorem AJs(h:p:=by exact A8 .nores (hp:=⟨rfl,by first|(rw [e];exact (Zk hne ho hoq).symm)|(rw [e];exact (Cp (tc hne hoq)).symm)|(rw [e];simp only [Cb];exact (Cp (tc hne hoq)).symm)|(rw [e];simp only [Cb];rw [zp hne];rfl)|(rw [e];simp only [Cb];rw [Lj _ _ hne];rfl)⟩)):p:=h
theorem AJt(h:p:=by exact A8 (Ai A6) ⟨by simp_all [Cu,L6],rfl⟩):p:=h
theorem AFg(h:p:=by exact A8 (B4 A6 A6) ⟨by first|rw [hgood]|rw [ACp hd hil ht52]|rw [ACo hd ht33],rfl⟩):p:=h
theorem AJu(h:p:=by exact Jz .nores (hp:=⟨rfl,by first|(rw [e];done)|(rw [e];rfl)|(rw [e];exact (Cp ho).symm)⟩)):p:=h
theorem AFh(h:p:=by exact A8 (B4 A6 A6) ⟨by rw [hm],rfl⟩):p:=h
theorem AJv(k:q)(h:Hk q→p:=by intro qk;refine jn ((k-1)) jU Tryz.sizeOf97 (by omega) (hm:=by omega) (hoff:=Qs (by omega)) ?_;exact qk.h):p:=h ⟨k⟩
end Go.SX.Nb
namespace Go.SX.Nb
open Go Go.SX Go.Proofs
@[reducible,instance] def JA2:=JA.mk (P:=Tryz.prog) Tryz.isAgg2
@[reducible,instance] def JA3:=JA.mk (P:=Tryz.prog) Tryz.isAgg3
@[reducible,instance] def JA4:=JA.mk (P:=Tryz.prog) Tryz.isAgg4
@[reducible,instance] def JA9:=JA.mk (P:=Tryz.prog) Tryz.isAgg9
@[reducible,instance] def AO6:=JA.mk (P:=Tryz.prog) Tryz.isAgg22
@[reducible,instance] def AO7:=JA.mk (P:=Tryz.prog) Tryz.isAgg24
@[reducible,instance] def AO8:=JA.mk (P:=Tryz.prog) Tryz.isAgg25
@[reducible,instance] def AO9:=JA.mk (P:=Tryz.prog) Tryz.isAgg27
@[reducible,instance] def AOa:=JA.mk (P:=Tryz.prog) Tryz.isAgg29
@[reducible,instance] def AOb:=JA.mk (P:=Tryz.prog) Tryz.isAgg30
@[reducible,instance] def AOc:=JA.mk (P:=Tryz.prog) Tryz.isAgg31
@[reducible,instance] def AOd:=JA.mk (P:=Tryz.prog) Tryz.isAgg36
@[reducible,instance] def AOe:=JA.mk (P:=Tryz.prog) Tryz.isAgg44
@[reducible,instance] def AOf:=JA.mk (P:=Tryz.prog) Tryz.isAgg46
@[reducible,instance] def AOg:=JA.mk (P:=Tryz.prog) Tryz.isAgg48
@[reducible,instance] def AOh:=JA.mk (P:=Tryz.prog) Tryz.isAgg50
@[reducible,instance] def AOi:=JA.mk (P:=Tryz.prog) Tryz.isAgg72
@[reducible,instance] def AOj:=JA.mk (P:=Tryz.prog) Tryz.isAgg82
@[reducible,instance] def AOk:=JA.mk (P:=Tryz.prog) Tryz.isAgg97
@[reducible,instance] def AOl:=JA.mk (P:=Tryz.prog) Tryz.isAgg98
@[reducible,instance] def ANj:=JA.mk (P:=Tryz.prog) Tryz.isAgg100
@[reducible,instance] def ANk:=JA.mk (P:=Tryz.prog) Tryz.isAgg142
@[reducible,instance] def ANl:=JA.mk (P:=Tryz.prog) Tryz.isAgg144
@[reducible,instance] def ANm:=JA.mk (P:=Tryz.prog) Tryz.isAgg152
@[reducible,instance] def ANn:=JA.mk (P:=Tryz.prog) Tryz.isAgg194
@[reducible,instance] def JS2:=JS.mk (P:=Tryz.prog) Tryz.sizeOf2
@[reducible,instance] def JS3:=JS.mk (P:=Tryz.prog) Tryz.sizeOf3
@[reducible,instance] def JS4:=JS.mk (P:=Tryz.prog) Tryz.sizeOf4
@[reducible,instance] def JS5:=JS.mk (P:=Tryz.prog) Tryz.sizeOf5
@[reducible,instance] def JS9:=JS.mk (P:=Tryz.prog) Tryz.sizeOf9
@[reducible,instance] def AOm:=JS.mk (P:=Tryz.prog) Tryz.sizeOf22
@[reducible,instance] def AOn:=JS.mk (P:=Tryz.prog) Tryz.sizeOf24
@[reducible,instance] def AOo:=JS.mk (P:=Tryz.prog) Tryz.sizeOf25
@[reducible,instance] def AOq:=JS.mk (P:=Tryz.prog) Tryz.sizeOf27
@[reducible,instance] def AOr:=JS.mk (P:=Tryz.prog) Tryz.sizeOf29
@[reducible,instance] def AOs:=JS.mk (P:=Tryz.prog) Tryz.sizeOf30
@[reducible,instance] def AOt:=JS.mk (P:=Tryz.prog) Tryz.sizeOf31
@[reducible,instance] def AOu:=JS.mk (P:=Tryz.prog) Tryz.sizeOf36
@[reducible,instance] def AOv:=JS.mk (P:=Tryz.prog) Tryz.sizeOf44
@[reducible,instance] def AOw:=JS.mk (P:=Tryz.prog) Tryz.sizeOf46
@[reducible,instance] def AOx:=JS.mk (P:=Tryz.prog) Tryz.sizeOf48
@[reducible,instance] def AOy:=JS.mk (P:=Tryz.prog) Tryz.sizeOf50
@[reducible,instance] def AOz:=JS.mk (P:=Tryz.prog) Tryz.sizeOf72
@[reducible,instance] def AP0:=JS.mk (P:=Tryz.prog) Tryz.sizeOf82
@[reducible,instance] def AP1:=JS.mk (P:=Tryz.prog) Tryz.sizeOf97
@[reducible,instance] def AP2:=JS.mk (P:=Tryz.prog) Tryz.sizeOf98
@[reducible,instance] def ANo:=JS.mk (P:=Tryz.prog) Tryz.sizeOf100
@[reducible,instance] def ANp:=JS.mk (P:=Tryz.prog) Tryz.sizeOf121
@[reducible,instance] def ANq:=JS.mk (P:=Tryz.prog) Tryz.sizeOf142
@[reducible,instance] def ANr:=JS.mk (P:=Tryz.prog) Tryz.sizeOf144
@[reducible,instance] def ANs:=JS.mk (P:=Tryz.prog) Tryz.sizeOf194
@[reducible,instance] def JU2:=JU.mk (P:=Tryz.prog) Tryz.underlying2
@[reducible,instance] def JU3:=JU.mk (P:=Tryz.prog) Tryz.underlying3
@[reducible,instance] def JU4:=JU.mk (P:=Tryz.prog) Tryz.underlying4
@[reducible,instance] def JU5:=JU.mk (P:=Tryz.prog) Tryz.underlying5
@[reducible,instance] def JU9:=JU.mk (P:=Tryz.prog) Tryz.underlying9
@[reducible,instance] def AP3:=JU.mk (P:=Tryz.prog) Tryz.underlying22
@[reducible,instance] def AP4:=JU.mk (P:=Tryz.prog) Tryz.underlying24
@[reducible,instance] def AP5:=JU.mk (P:=Tryz.prog) Tryz.underlying25
@[reducible,instance] def AP6:=JU.mk (P:=Tryz.prog) Tryz.underlying27
@[reducible,instance] def AP7:=JU.mk (P:=Tryz.prog) Tryz.underlying29
@[reducible,instance] def AP8:=JU.mk (P:=Tryz.prog) Tryz.underlying30
@[reducible,instance] def AP9:=JU.mk (P:=Tryz.prog) Tryz.underlying31
@[reducible,instance] def APa:=JU.mk (P:=Tryz.prog) Tryz.underlying44
@[reducible,instance] def APb:=JU.mk (P:=Tryz.prog) Tryz.underlying46
@[reducible,instance] def APc:=JU.mk (P:=Tryz.prog) Tryz.underlying48
@[reducible,instance] def APd:=JU.mk (P:=Tryz.prog) Tryz.underlying50
@[reducible,instance] def APe:=JU.mk (P:=Tryz.prog) Tryz.underlying72
@[reducible,instance] def APf:=JU.mk (P:=Tryz.prog) Tryz.underlying77
@[reducible,instance] def APg:=JU.mk (P:=Tryz.prog) Tryz.underlying82
@[reducible,instance] def APh:=JU.mk (P:=Tryz.prog) Tryz.underlying97
@[reducible,instance] def APi:=JU.mk (P:=Tryz.prog) Tryz.underlying98
@[reducible,instance] def ANt:=JU.mk (P:=Tryz.prog) Tryz.underlying100
@[reducible,instance] def ANu:=JU.mk (P:=Tryz.prog) Tryz.underlying119
@[reducible,instance] def ANv:=JU.mk (P:=Tryz.prog) Tryz.underlying126
@[reducible,instance] def ANw:=JU.mk (P:=Tryz.prog) Tryz.underlying142
@[reducible,instance] def ANx:=JU.mk (P:=Tryz.prog) Tryz.underlying144
@[reducible,instance] def ANy:=JU.mk (P:=Tryz.prog) Tryz.underlying154
@[reducible,instance] def ANz:=JU.mk (P:=Tryz.prog) Tryz.underlying162
@[reducible,instance] def AO0:=JU.mk (P:=Tryz.prog) Tryz.underlying194
@[reducible,instance] def JZ3:=JZ.mk (P:=Tryz.prog) Tryz.zeroValue3
@[reducible,instance] def JZ4:=JZ.mk (P:=Tryz.prog) Tryz.zeroValue4
@[reducible,instance] def JZ5:=JZ.mk (P:=Tryz.prog) Tryz.zeroValue5
@[reducible,instance] def JZ9:=JZ.mk (P:=Tryz.prog) Tryz.zeroValue9
@[reducible,instance] def APj:=JZ.mk (P:=Tryz.prog) Tryz.zeroValue22
@[reducible,instance] def APk:=JZ.mk (P:=Tryz.prog) Tryz.zeroValue24
@[reducible,instance] def APl:=JZ.mk (P:=Tryz.prog) Tryz.zeroValue27
@[reducible,instance] def APm:=JZ.mk (P:=Tryz.prog) Tryz.zeroValue29
@[reducible,instance] def APn:=JZ.mk (P:=Tryz.prog) Tryz.zeroValue31
@[reducible,instance] def APo:=JZ.mk (P:=Tryz.prog) Tryz.zeroValue36
@[reducible,instance] def APp:=JZ.mk (P:=Tryz.prog) Tryz.zeroValue46
@[reducible,instance] def APq:=JZ.mk (P:=Tryz.prog) Tryz.zeroValue48
@[reducible,instance] def APr:=JZ.mk (P:=Tryz.prog) Tryz.zeroValue50
@[reducible,instance] def APs:=JZ.mk (P:=Tryz.prog) Tryz.zeroValue72
@[reducible,instance] def APt:=JZ.mk (P:=Tryz.prog) Tryz.zeroValue77
@[reducible,instance] def APu:=JZ.mk (P:=Tryz.prog) Tryz.zeroValue82
@[reducible,instance] def AO1:=JZ.mk (P:=Tryz.prog) Tryz.zeroValue100
@[reducible,instance] def AO2:=JZ.mk (P:=Tryz.prog) Tryz.zeroValue126
@[reducible,instance] def AO3:=JZ.mk (P:=Tryz.prog) Tryz.zeroValue144
@[reducible,instance] def AO4:=JZ.mk (P:=Tryz.prog) Tryz.zeroValue154
@[reducible,instance] def AO5:=JZ.mk (P:=Tryz.prog) Tryz.zeroValue194
end Go.SX.Nb
