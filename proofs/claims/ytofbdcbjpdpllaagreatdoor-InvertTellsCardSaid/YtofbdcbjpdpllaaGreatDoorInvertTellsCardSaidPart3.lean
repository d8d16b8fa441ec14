/- On the way (part 3). -/
import Derived.Test.YtofbdcbjpdpllaaGreatDoorProg
import Derived.Test.YtofbdcbjpdpllaaGreatDoorInvertTellsCardSaidPart2
set_option linter.all false
namespace Go.SX.Nb
open Go Go.SX Go.Proofs
structure Hk (q:Prop):Prop where h:q
variable {p q:Prop}
theorem Z0(k:q)(h:Hk q→p:=by intro qk;refine A4 ?_;refine A4 ?_;exact qk.h):p:=h ⟨k⟩
theorem Z1(k:q)(h:Hk q→p:=by intro qk;refine E9 ?_;refine Z0 ?_;exact qk.h):p:=h ⟨k⟩
theorem Z2(k:q)(h:Hk q→p:=by intro qk;refine E9 ?_;refine A4 ?_;exact qk.h):p:=h ⟨k⟩
theorem Z3(k:q)(h:Hk q→p:=by intro qk;refine Jf ?_;refine Fl ?_;exact qk.h):p:=h ⟨k⟩
theorem Z4(k:q)(h:Hk q→p:=by intro qk;refine A2 [2] ?_;refine Fg ?_;exact qk.h):p:=h ⟨k⟩
theorem Z5(k:q)(h:Hk q→p:=by intro qk;refine Bl ?_;refine Bl ?_;exact qk.h):p:=h ⟨k⟩
theorem Z6(k:q)(h:Hk q→p:=by intro qk;refine G4 ?_;refine A4 ?_;exact qk.h):p:=h ⟨k⟩
theorem Z7(k:q)(h:Hk q→p:=by intro qk;refine K.blR ?_;refine Fm ?_;exact qk.h):p:=h ⟨k⟩
theorem Z8(k:q)(h:Hk q→p:=by intro qk;refine Ki ?_;refine Z1 ?_;exact qk.h):p:=h ⟨k⟩
theorem Z9(k:q)(h:Hk q→p:=by intro qk;refine Aq ?_;refine Aq ?_;exact qk.h):p:=h ⟨k⟩
theorem Z10(k:q)(h:Hk q→p:=by intro qk;refine Fg ?_;refine Fm ?_;exact qk.h):p:=h ⟨k⟩
theorem Z11(k:q)(h:Hk q→p:=by intro qk;refine Z0 ?_;refine A4 ?_;exact qk.h):p:=h ⟨k⟩
theorem Z12(k:q)(h:Hk q→p:=by intro qk;refine Ix ?_;refine Fl ?_;exact qk.h):p:=h ⟨k⟩
theorem Z13(k:q)(h:Hk q→p:=by intro qk;refine Fg ?_;refine Z7 ?_;exact qk.h):p:=h ⟨k⟩
theorem Z14(k:q)(h:Hk q→p:=by intro qk;refine Z1 ?_;refine A4 ?_;exact qk.h):p:=h ⟨k⟩
theorem Z15(k:q)(h:Hk q→p:=by intro qk;refine Z6 ?_;refine A2 [6,7] ?_;exact qk.h):p:=h ⟨k⟩
theorem Z16(k:q)(h:Hk q→p:=by intro qk;refine Ki ?_;refine J6 ?_;exact qk.h):p:=h ⟨k⟩
theorem Z17(k:q)(h:Hk q→p:=by intro qk;refine La ?_;refine G4 ?_;exact qk.h):p:=h ⟨k⟩
theorem Z18(k:q)(h:Hk q→p:=by intro qk;refine Jf ?_;refine Z12 ?_;exact qk.h):p:=h ⟨k⟩
theorem Z19(k:q)(h:Hk q→p:=by intro qk;refine E9 ?_;refine Wh ?_;exact qk.h):p:=h ⟨k⟩
theorem Z21(k:q)(h:Hk q→p:=by intro qk;refine Z1 ?_;refine Z0 ?_;exact qk.h):p:=h ⟨k⟩
theorem Z22(k:q)(h:Hk q→p:=by intro qk;refine Kd ?_;refine Z11 ?_;exact qk.h):p:=h ⟨k⟩
theorem Z23(h:p:=by refine Z13 ?_;exact wo):p:=h
theorem Z24(k:q)(h:Hk q→p:=by intro qk;refine G4 ?_;refine Z4 ?_;exact qk.h):p:=h ⟨k⟩
theorem Z25(k:q)(h:Hk q→p:=by intro qk;refine Ki ?_;refine Z2 ?_;exact qk.h):p:=h ⟨k⟩
theorem Z26(k:q)(h:Hk q→p:=by intro qk;refine Z2 ?_;refine Z4 ?_;exact qk.h):p:=h ⟨k⟩
theorem Z27(k:q)(h:Hk q→p:=by intro qk;refine Z5 ?_;refine Bl ?_;exact qk.h):p:=h ⟨k⟩
theorem Z28(k:q)(h:Hk q→p:=by intro qk;refine E9 ?_;refine Wg ?_;exact qk.h):p:=h ⟨k⟩
theorem Z29(k:q)(h:Hk q→p:=by intro qk;refine Kd ?_;refine Z0 ?_;exact qk.h):p:=h ⟨k⟩
theorem Z30(k:q)(h:Hk q→p:=by intro qk;refine K.lpE ?_;refine Fl ?_;exact qk.h):p:=h ⟨k⟩
theorem Z31(k:q)(h:Hk q→p:=by intro qk;refine Z8 ?_;refine A4 ?_;exact qk.h):p:=h ⟨k⟩
theorem Z32(k:q)(h:Hk q→p:=by intro qk;refine Kh ?_;refine Fm ?_;exact qk.h):p:=h ⟨k⟩
theorem Z33(k:q)(h:Hk q→p:=by intro qk;refine A2 [4] ?_;refine Fg ?_;exact qk.h):p:=h ⟨k⟩
theorem Z34(k:q)(h:Hk q→p:=by intro qk;refine E9 ?_;refine La ?_;exact qk.h):p:=h ⟨k⟩
theorem Z35(k:q)(h:Hk q→p:=by intro qk;refine AW.exit ?_;refine K.thE ?_;exact qk.h):p:=h ⟨k⟩
theorem Z37(k:q)(h:Hk q→p:=by intro qk;refine Z9 ?_;refine Aq ?_;exact qk.h):p:=h ⟨k⟩
theorem Z38(h:p:=by refine Md ?_;exact Az (by simp [*])):p:=h
theorem Z39(k:q)(h:Hk q→p:=by intro qk;refine Z6 ?_;refine A2 [4,5] ?_;exact qk.h):p:=h ⟨k⟩
theorem Z41(h:p:=by refine Fg ?_;exact wo):p:=h
theorem Z42(k:q)(h:Hk q→p:=by intro qk;refine Z0 ?_;refine Z5 ?_;exact qk.h):p:=h ⟨k⟩
theorem Z44(h:p:=by refine Z10 ?_;exact wo):p:=h
theorem Z46(k:q)(h:Hk q→p:=by intro qk;refine Z8 ?_;refine Z0 ?_;exact qk.h):p:=h ⟨k⟩
theorem Z47(k:q)(h:Hk q→p:=by intro qk;refine Z6 ?_;refine Ua ?_;exact qk.h):p:=h ⟨k⟩
theorem Z48(k:q)(h:Hk q→p:=by intro qk;refine Kd ?_;refine A4 ?_;exact qk.h):p:=h ⟨k⟩
theorem Z49(k:q)(h:Hk q→p:=by intro qk;refine La ?_;refine A4 ?_;exact qk.h):p:=h ⟨k⟩
theorem Z50(k:q)(h:Hk q→p:=by intro qk;refine Z3 ?_;refine Z16 ?_;exact qk.h):p:=h ⟨k⟩
theorem Z51(k:q)(h:Hk q→p:=by intro qk;refine Z15 ?_;refine Z10 ?_;exact qk.h):p:=h ⟨k⟩
theorem Z52(k:q)(h:Hk q→p:=by intro qk;refine Z35 ?_;refine Z30 ?_;exact qk.h):p:=h ⟨k⟩
theorem Z53(k:q)(h:Hk q→p:=by intro qk;refine Z11 ?_;refine La ?_;exact qk.h):p:=h ⟨k⟩
theorem Z54(h:p:=by refine Fm ?_;exact A8 (Ai (Ap jA jS)) ⟨by rw [hte,AQg ht56 hc];simp only [Af];try rfl,rfl⟩ (hlow:=by simp [Ag])):p:=h
theorem Z55(k:q)(h:Hk q→p:=by intro qk;refine Z0 ?_;refine Z4 ?_;exact qk.h):p:=h ⟨k⟩
theorem Z56(k:q)(h:Hk q→p:=by intro qk;refine Z2 ?_;refine A2 [0] ?_;exact qk.h):p:=h ⟨k⟩
theorem Z57(k:q)(h:Hk q→p:=by intro qk;refine Fh ?_;refine Fh ?_;exact qk.h):p:=h ⟨k⟩
theorem Z58(k:q)(h:Hk q→p:=by intro qk;refine Z3 ?_;refine Z2 ?_;exact qk.h):p:=h ⟨k⟩
theorem Z59(h:p:=by refine Md ?_;exact Az (by unfold Lo;first|(simp only [ht38,ht41,ht49,ht57,ht57,ht66,ht74,hk3,hk6,Dd,Cj,Fx,Jc,if_true,if_false,An,↓reduceIte]<;>rfl)|(simp only [ht38,ht41,ht49,ht57,ht57,ht66,ht74,hk3,Dd,Cj,Fx,if_true,if_false,An,↓reduceIte]<;>rfl)|(simp only [ht38,ht41,ht49,ht57,ht57,ht66,ht74,if_true,if_false,An,↓reduceIte]<;>rfl))):p:=h
theorem Z60(k:q)(h:Hk q→p:=by intro qk;refine Z2 ?_;refine A2 [0,1] ?_;exact qk.h):p:=h ⟨k⟩
theorem Z61(h:p:=by refine Z7 ?_;exact AKv):p:=h
theorem Z62(h:p:=by refine Z7 ?_;exact A8 (Ai A7) ⟨by rw [hn];first|(simp only [ht22,ht25,ht33,ht41,ht41,hk3,hk6,Dd,Cj,Fx,Jc,if_true,if_false,An,↓reduceIte]<;>rfl)|(simp only [ht22,ht25,ht33,ht41,ht41,hk3,Dd,Cj,Fx,if_true,if_false,An,↓reduceIte]<;>rfl)|(simp only [ht22,ht25,ht33,ht41,ht41,if_true,if_false,An,↓reduceIte]<;>rfl),rfl⟩):p:=h
theorem Z63(k:q)(h:Hk q→p:=by intro qk;refine A9 Tryz.call43 (c43 _ _) ?_;refine Z0 ?_;exact qk.h):p:=h ⟨k⟩
theorem Z64(h:p:=by refine Md ?_;exact Az (by unfold Lo;first|(simp only [ht38,ht41,ht49,ht57,ht57,hk3,hk6,Dd,Cj,Fx,Jc,if_true,if_false,An,↓reduceIte]<;>rfl)|(simp only [ht38,ht41,ht49,ht57,ht57,hk3,Dd,Cj,Fx,if_true,if_false,An,↓reduceIte]<;>rfl)|(simp only [ht38,ht41,ht49,ht57,ht57,if_true,if_false,An,↓reduceIte]<;>rfl))):p:=h
theorem Z66(h:p:=by refine Z10 ?_;exact fp):p:=h
theorem Z67(k:q)(h:Hk q→p:=by intro qk;refine Z27 ?_;refine Z0 ?_;exact qk.h):p:=h ⟨k⟩
theorem Z68(k:q)(h:Hk q→p:=by intro qk;refine A2 [4,5] ?_;refine Z10 ?_;exact qk.h):p:=h ⟨k⟩
theorem Z69(h:p:=by refine Z26 ?_;refine Z7 ?_;exact A8 (Ai A7) ⟨by simp_all [Uw],rfl⟩):p:=h
theorem Z70(k:q)(h:Hk q→p:=by intro qk;refine Z5 ?_;refine Z5 ?_;exact qk.h):p:=h ⟨k⟩
theorem Z71(k:q)(h:Hk q→p:=by intro qk;refine Z7 ?_;refine Z32 ?_;exact qk.h):p:=h ⟨k⟩
theorem Z72(k:q)(h:Hk q→p:=by intro qk;refine Z0 ?_;refine Z0 ?_;exact qk.h):p:=h ⟨k⟩
theorem Z73(k:q)(h:Hk q→p:=by intro qk;refine A2 [4,5] ?_;refine Fg ?_;exact qk.h):p:=h ⟨k⟩
theorem Z74(k:q)(h:Hk q→p:=by intro qk;refine A2 [4,5] ?_;refine Z13 ?_;exact qk.h):p:=h ⟨k⟩
theorem Z75(h:p:=by refine Z7 ?_;exact APe):p:=h
theorem Z76(k:q)(h:Hk q→p:=by intro qk;refine Ix ?_;refine Md ?_;exact qk.h):p:=h ⟨k⟩
theorem Z77(k:q)(h:Hk q→p:=by intro qk;refine Z34 ?_;refine A2 [0,2] ?_;exact qk.h):p:=h ⟨k⟩
theorem Z78(k:q)(h:Hk q→p:=by intro qk;refine APd ?_;refine f7 (u:=Hp.length) (n:=1) (t':=23) (cs:=[A5 0,A5 0,Ac []]) (cs':=[A5 (Ba ra).1.kind,A5 (Ba ra).1.n,Ac (Ba ra).1.s]) Tryz.sizeOf23 (fun B hT hF hB=>⟨rfl,by simp [hT 0 (by simp),hB],by simp [upd,hT 0 (by simp),hB],rfl⟩) ?_;exact qk.h):p:=h ⟨k⟩
theorem Z79(k:q)(h:Hk q→p:=by intro qk;refine M9 (places:=#[(0,1),(1,5)]) jU (fun w=>by simp) jZ ?_;refine Z17 ?_;exact qk.h):p:=h ⟨k⟩
theorem Z80(k:q)(h:Hk q→p:=by intro qk;refine Wi ?_;refine Wh ?_;exact qk.h):p:=h ⟨k⟩
theorem Z81(k:q)(h:Hk q→p:=by intro qk;refine Z1 ?_;refine A2 [1] ?_;exact qk.h):p:=h ⟨k⟩
theorem Z83(h:p:=by refine Z71 ?_;exact o7):p:=h
theorem Z84(k:q)(h:Hk q→p:=by intro qk;refine Z2 ?_;refine A2 [4] ?_;exact qk.h):p:=h ⟨k⟩
theorem Z85(k:q)(h:Hk q→p:=by intro qk;refine Z9 ?_;refine Dq ?_;exact qk.h):p:=h ⟨k⟩
theorem Z86(k:q)(h:Hk q→p:=by intro qk;refine Aq ?_;refine Dq ?_;exact qk.h):p:=h ⟨k⟩
theorem Z87(k:q)(h:Hk q→p:=by intro qk;refine Z18 ?_;refine Z22 ?_;exact qk.h):p:=h ⟨k⟩
theorem Z88(k:q)(h:Hk q→p:=by intro qk;refine Ua ?_;refine Z10 ?_;exact qk.h):p:=h ⟨k⟩
theorem Z89(k:q)(h:Hk q→p:=by intro qk;refine Ki ?_;refine E9 ?_;exact qk.h):p:=h ⟨k⟩
theorem Z92(k:q)(h:Hk q→p:=by intro qk;refine Bl ?_;refine A4 ?_;exact qk.h):p:=h ⟨k⟩
theorem Z93(k:q)(h:Hk q→p:=by intro qk;refine Z15 ?_;refine Z13 ?_;exact qk.h):p:=h ⟨k⟩
theorem Z94(k:q)(h:Hk q→p:=by intro qk;refine Z53 ?_;refine Z6 ?_;exact qk.h):p:=h ⟨k⟩
theorem Z95(h:p:=by refine Jf ?_;exact Z38):p:=h
theorem Z97(k:q)(h:Hk q→p:=by intro qk;refine J6 ?_;refine Z1 ?_;exact qk.h):p:=h ⟨k⟩
theorem Z98(k:q)(h:Hk q→p:=by intro qk;refine Z3 ?_;refine Z1 ?_;exact qk.h):p:=h ⟨k⟩
theorem Z99(k:q)(h:Hk q→p:=by intro qk;refine Z13 ?_;refine Z32 ?_;exact qk.h):p:=h ⟨k⟩
theorem AMx(k:q)(h:Hk q→p:=by intro qk;refine E9 ?_;refine R.freeze (k:=2) (n:=1) 5 1 [D8 ⟨y.name,(c.getD (C6 s c).toNat ⟨[],0⟩).kind⟩] hcc rfl rfl (lz [⟨y.name,(c.getD (C6 s c).toNat ⟨[],0⟩).kind⟩]) (m3 [⟨y.name,(c.getD (C6 s c).toNat ⟨[],0⟩).kind⟩]) (Zo [⟨y.name,(c.getD (C6 s c).toNat ⟨[],0⟩).kind⟩]) ?_;exact qk.h):p:=h ⟨k⟩
theorem Xp(h:p:=by refine Aq ?_;exact ar):p:=h
theorem AJu(h:p:=by refine Z51 ?_;exact ABt):p:=h
theorem Rd(k:q)(h:Hk q→p:=by intro qk;refine Z24 ?_;refine Fm ?_;exact qk.h):p:=h ⟨k⟩
theorem Me(k:q)(h:Hk q→p:=by intro qk;refine Z12 ?_;refine Z22 ?_;exact qk.h):p:=h ⟨k⟩
theorem Mf(k:q)(h:Hk q→p:=by intro qk;refine Z27 ?_;refine A4 ?_;exact qk.h):p:=h ⟨k⟩
theorem L9(k:q)(h:Hk q→p:=by intro qk;refine Z0 ?_;refine Z11 ?_;exact qk.h):p:=h ⟨k⟩
theorem AFg(k:q)(h:Hk q→p:=by intro qk;refine E9 ?_;refine APu ?_;exact qk.h):p:=h ⟨k⟩
theorem AMy(k:q)(h:Hk q→p:=by intro qk;refine A4 ?_;refine A2 [6,7] ?_;exact qk.h):p:=h ⟨k⟩
theorem O6(k:q)(h:Hk q→p:=by intro qk;refine Z9 ?_;refine Z9 ?_;exact qk.h):p:=h ⟨k⟩
theorem P0(h:p:=by refine Z39 ?_;exact Z23):p:=h
theorem AMz(h:p:=by refine Fm ?_;exact o7):p:=h
theorem Ni(k:q)(h:Hk q→p:=by intro qk;refine Z18 ?_;refine Z29 ?_;exact qk.h):p:=h ⟨k⟩
theorem Nj(k:q)(h:Hk q→p:=by intro qk;refine Z5 ?_;refine A4 ?_;exact qk.h):p:=h ⟨k⟩
theorem fc(k:q)(h:Hk q→p:=by intro qk;refine A4 ?_;refine Sq ?_;exact qk.h):p:=h ⟨k⟩
theorem j3(k:q)(h:Hk q→p:=by intro qk;refine Sq ?_;refine Jh ?_;exact qk.h):p:=h ⟨k⟩
theorem Nk(k:q)(h:Hk q→p:=by intro qk;refine Z3 ?_;refine Z25 ?_;exact qk.h):p:=h ⟨k⟩
theorem AFh(k:q)(h:Hk q→p:=by intro qk;refine Z2 ?_;refine Wh ?_;exact qk.h):p:=h ⟨k⟩
theorem am(k:q)(h:Hk q→p:=by intro qk;refine Z42 ?_;refine Z5 ?_;exact qk.h):p:=h ⟨k⟩
theorem AB2(k:q)(h:Hk q→p:=by intro qk;refine A2 [6] ?_;refine Fg ?_;exact qk.h):p:=h ⟨k⟩
theorem U7(k:q)(h:Hk q→p:=by intro qk;refine Bl ?_;refine Z0 ?_;exact qk.h):p:=h ⟨k⟩
theorem AFi(k:q)(h:Hk q→p:=by intro qk;refine Z2 ?_;refine Cl Tryz.call204 ho (by simp) Dk (xl l S o _ (B5 ho) hi hll) ?_;exact qk.h):p:=h ⟨k⟩
theorem AN0(h:p:=by refine Z51 ?_;exact APs):p:=h
theorem O7(k:q)(h:Hk q→p:=by intro qk;refine Z21 ?_;refine Z67 ?_;exact qk.h):p:=h ⟨k⟩
theorem Nl(k:q)(h:Hk q→p:=by intro qk;refine Z3 ?_;refine Z14 ?_;exact qk.h):p:=h ⟨k⟩
theorem AB3(h:p:=by refine Z71 ?_;exact fp):p:=h
theorem Nm(k:q)(h:Hk q→p:=by intro qk;refine Z3 ?_;refine Z31 ?_;exact qk.h):p:=h ⟨k⟩
theorem AB4(k:q)(h:Hk q→p:=by intro qk;refine Z9 ?_;refine Xm (k) jU Tryz.sizeOf233 hk ?_;exact qk.h):p:=h ⟨k⟩
theorem Xq(k:q)(h:Hk q→p:=by intro qk;refine A2 [11,12] ?_;refine Z76 ?_;refine Az ?_;exact qk.h):p:=h ⟨k⟩
theorem j4(h:p:=by refine Z55 ?_;exact wl):p:=h
theorem ns(k:q)(h:Hk q→p:=by intro qk;refine Z51 ?_;refine Fm ?_;exact qk.h):p:=h ⟨k⟩
theorem Wb(k:q)(h:Hk q→p:=by intro qk;refine Z1 ?_;refine A2 [13] ?_;exact qk.h):p:=h ⟨k⟩
theorem AB5(h:p:=by refine Z33 ?_;exact fp):p:=h
theorem AJv(h:p:=by refine A2 [0,1,7,8] ?_;exact B2 (x+1) ⟨hlt,D3 hlt hx.2 ht16⟩ (by omega) (Bz rfl)):p:=h
theorem AN1(k:q)(h:Hk q→p:=by intro qk;refine AKs ?_;refine Hd (tn:=[2])  ?_;exact qk.h):p:=h ⟨k⟩
theorem O8(k:q)(h:Hk q→p:=by intro qk;refine Z8 ?_;refine Z11 ?_;exact qk.h):p:=h ⟨k⟩
theorem AJw(h:p:=by refine Rd ?_;exact APi):p:=h
theorem AJx(h:p:=by refine Z88 ?_;exact A8 (As (Ap jA jS) (Ap jA jS)) ⟨by rw [e,kx]<;>rfl,rfl⟩):p:=h
theorem AN2(k:q)(h:Hk q→p:=by intro qk;refine A9 Tryz.call189 (AMb _ _) ?_;refine Z93 ?_;exact qk.h):p:=h ⟨k⟩
theorem nt(h:p:=by refine Z33 ?_;exact wl):p:=h
theorem Wc(k:q)(h:Hk q→p:=by intro qk;refine Z16 ?_;refine E9 ?_;exact qk.h):p:=h ⟨k⟩
theorem Wd(h:p:=by refine Z18 ?_;refine Z26 ?_;exact A8 (Ai A7) ⟨by simp_all [Uw],rfl⟩):p:=h
theorem AB6(h:p:=by refine wr ?_;exact ar):p:=h
theorem AJy(h:p:=by refine D.build (places:=#[(0,1),(1,1)]) jU (fun w=>by simp) jZ ?_;exact ar):p:=h
theorem AFj(k:q)(h:Hk q→p:=by intro qk;refine Oz (1) jU Tryz.sizeOf233 (by decide) ?_;refine G4 ?_;exact qk.h):p:=h ⟨k⟩
theorem AN3(h:p:=by refine Z51 ?_;exact A8 (As (Ap jA jS) A7) ⟨by rw [hm];simp only [Option.getD_none,Af];try rfl,rfl⟩ (hlow:=by simp [or_imp,forall_and,Ag])):p:=h
theorem Xr(k:q)(h:Hk q→p:=by intro qk;refine Z3 ?_;refine E9 ?_;exact qk.h):p:=h ⟨k⟩
theorem AFk(h:p:=by refine Fm ?_;exact fp):p:=h
theorem AJz(h:p:=by refine Fm ?_;exact wo):p:=h
theorem AK0(k:q)(h:Hk q→p:=by intro qk;refine Z50 ?_;refine C3 [0,1,0,7,15,0,32,0,224,480,1023,2047] 10 Am (by kernel_rfl) ?_;exact qk.h):p:=h ⟨k⟩
theorem AK1(h:p:=by refine Z33 ?_;exact A8 (Ai A7) ⟨by rw [ql (My hxe hx.2)],rfl⟩):p:=h
theorem j5(k:q)(h:Hk q→p:=by intro qk;refine Z47 ?_;refine Z13 ?_;exact qk.h):p:=h ⟨k⟩
theorem nu(k:q)(h:Hk q→p:=by intro qk;refine Ua ?_;refine Fg ?_;exact qk.h):p:=h ⟨k⟩
theorem AN4(k:q)(h:Hk q→p:=by intro qk;refine Xr ?_;refine R.freeze (k:=2) (n:=1) 5 1 [D8 ⟨y.name,y.kind⟩] hcc rfl rfl (lz [⟨y.name,y.kind⟩]) (m3 [⟨y.name,y.kind⟩]) (Zo [⟨y.name,y.kind⟩]) ?_;exact qk.h):p:=h ⟨k⟩
theorem nv(k:q)(h:Hk q→p:=by intro qk;refine A2 [4] ?_;refine Z99 ?_;exact qk.h):p:=h ⟨k⟩
theorem AK2(h:p:=by refine nv ?_;exact A8 (Ai A7) ⟨by rw [ADx hlt ht16 hx.2],rfl⟩):p:=h
theorem fe(k:q)(h:Hk q→p:=by intro qk;refine A2 [] ?_;refine Ix ?_;exact qk.h):p:=h ⟨k⟩
theorem We(k:q)(h:Hk q→p:=by intro qk;refine A4 ?_;refine Z17 ?_;exact qk.h):p:=h ⟨k⟩
theorem j6(k:q)(h:Hk q→p:=by intro qk;refine Kd ?_;refine R.moveT ?_;exact qk.h):p:=h ⟨k⟩
theorem AN5(h:p:=by refine A2 [0,1,2,10,11] ?_;exact B2 (i+1) hli (by omega) (Bz (by simp only [hst,Cs,Ci,Fs]<;>rfl))):p:=h
theorem j7(k:q)(h:Hk q→p:=by intro qk;refine E9 ?_;refine Sq ?_;refine jm ?_;refine Z24 ?_;exact qk.h):p:=h ⟨k⟩
theorem Re(k:q)(h:Hk q→p:=by intro qk;refine Z3 ?_;refine Z8 ?_;exact qk.h):p:=h ⟨k⟩
theorem AFl(k:q)(h:Hk q→p:=by intro qk;refine C3 [0,0,3,7] 2 Am (by kernel_rfl) ?_;refine Aq ?_;exact qk.h):p:=h ⟨k⟩
theorem AFm(k:q)(h:Hk q→p:=by intro qk;refine A9 Tryz.call254 (ASr l S o _ (B5 ho) hi) ?_;refine Z17 ?_;exact qk.h):p:=h ⟨k⟩
theorem AFn(k:q)(h:Hk q→p:=by intro qk;refine A4 ?_;refine AGb ?_;exact qk.h):p:=h ⟨k⟩
theorem So(k:q)(h:Hk q→p:=by intro qk;refine Z30 ?_;refine Z2 ?_;exact qk.h):p:=h ⟨k⟩
theorem an(k:q)(h:Hk q→p:=by intro qk;refine E9 ?_;refine Z63 ?_;exact qk.h):p:=h ⟨k⟩
theorem AK3(k:q)(h:Hk q→p:=by intro qk;refine Wh ?_;refine Z24 ?_;exact qk.h):p:=h ⟨k⟩
theorem AK4(k:q)(h:Hk q→p:=by intro qk;refine Wh ?_;refine Z17 ?_;exact qk.h):p:=h ⟨k⟩
theorem AK5(h:p:=by refine Z33 ?_;exact A8 (Ai A7) ⟨by rw [←yg];try rfl,rfl⟩):p:=h
theorem AK6(h:p:=by refine Z7 ?_;exact APg):p:=h
theorem U8(k:q)(h:Hk q→p:=by intro qk;refine Z16 ?_;refine Z2 ?_;exact qk.h):p:=h ⟨k⟩
theorem AK7(k:q)(h:Hk q→p:=by intro qk;refine C3 [0,0,0,0,12,31,63,63,255,511] 8 Am (by kernel_rfl) ?_;refine O6 ?_;exact qk.h):p:=h ⟨k⟩
theorem AK8(k:q)(h:Hk q→p:=by intro qk;refine C3 [0,0,2,6,14,31,63,63,255,511] 8 Am (by kernel_rfl) ?_;refine Z37 ?_;exact qk.h):p:=h ⟨k⟩
theorem AN6(k:q)(h:Hk q→p:=by intro qk;refine Wh ?_;refine D7 161 _ (K6 1 [] (Al [] [] (Expr.mk x.op x.text noV (x.kids.map B4))).1) ?_;exact qk.h):p:=h ⟨k⟩
theorem AN7(h:p:=by refine Rd ?_;exact A8 (Ai (Ap jA jS)) ⟨by rw [hte,htr,hal];simp only [Af];try rfl,rfl⟩ (hlow:=by simp [Ag])):p:=h
theorem AN8(h:p:=by refine Rd ?_;exact A8 (Ai (Ap jA jS)) ⟨by rw [hte,htr,hrk];simp only [Af];try rfl,rfl⟩ (hlow:=by simp [Ag])):p:=h
theorem AN9(k:q)(h:Hk q→p:=by intro qk;refine Cd Tryz.call172 (AUe ((Dl s.c).1.s.length:Int) _) ?_;refine Cd Tryz.call171 (AHk (Eo Wk [y]) [45] (Ei ⟨1,((Dl s.c).1.s.length:Int),[]⟩) _) ?_;exact qk.h):p:=h ⟨k⟩
theorem U9(k:q)(h:Hk q→p:=by intro qk;refine Z3 ?_;refine Z21 ?_;exact qk.h):p:=h ⟨k⟩
theorem j8(k:q)(h:Hk q→p:=by intro qk;refine Z2 ?_;refine Z49 ?_;exact qk.h):p:=h ⟨k⟩
theorem AFo(h:p:=by refine Z76 ?_;exact Az (by rw [e]<;>rfl)):p:=h
theorem AK9(k:q)(h:Hk q→p:=by intro qk;refine Wg ?_;refine Z51 ?_;exact qk.h):p:=h ⟨k⟩
theorem Xs(k:q)(h:Hk q→p:=by intro qk;refine Z2 ?_;refine R.nilSl 6 2 ?_;refine AMy ?_;exact qk.h):p:=h ⟨k⟩
theorem Wf(k:q)(h:Hk q→p:=by intro qk;refine Z0 ?_;refine Bl ?_;exact qk.h):p:=h ⟨k⟩
theorem AKa(k:q)(h:Hk q→p:=by intro qk;refine Z2 ?_;refine Wg ?_;exact qk.h):p:=h ⟨k⟩
theorem AKb(k:q)(h:Hk q→p:=by intro qk;refine R.nilTmp 4 2 false ?_;refine A4 ?_;exact qk.h):p:=h ⟨k⟩
theorem ANa(k:q)(h:Hk q→p:=by intro qk;refine Hd (tn:=[9,10]) (O:=[.cells 23 [A5 0,A5 0,Ac []],.cells 23 [A5 (Ba ra).1.kind,A5 (Ba ra).1.n,Ac (Ba ra).1.s]]) ?_;refine A4 ?_;exact qk.h):p:=h ⟨k⟩
theorem j9(k:q)(h:Hk q→p:=by intro qk;refine Z1 ?_;refine A2 [0,1] ?_;exact qk.h):p:=h ⟨k⟩
theorem vh(k:q)(h:Hk q→p:=by intro qk;refine Z2 ?_;refine A2 [0,1,7,8,9] ?_;exact qk.h):p:=h ⟨k⟩
theorem ANb(h:p:=by refine Z71 ?_;exact AKw):p:=h
theorem AKc(k:q)(h:Hk q→p:=by intro qk;refine Z11 ?_;refine A9 Tryz.call145 (hev (x.kids.getD 1 A6) (M2 hk1) _) ?_;exact qk.h):p:=h ⟨k⟩
theorem AFp(h:p:=by refine Z24 ?_;exact A8 (Ai (Ap jA jS))):p:=h
theorem ANc(k:q)(h:Hk q→p:=by intro qk;refine Z49 ?_;refine G4 ?_;exact qk.h):p:=h ⟨k⟩
theorem nw(k:q)(h:Hk q→p:=by intro qk;refine G4 ?_;refine AB2 ?_;exact qk.h):p:=h ⟨k⟩
theorem AKd(h:p:=by refine Z7 ?_;exact A8 (Ai A7) ⟨by simp_all [qm],rfl⟩):p:=h
theorem AB7(h:p:=by refine Di [2,3,9] ?_;exact Z95):p:=h
theorem ANd(h:p:=by refine nu ?_;exact AKw):p:=h
theorem AKe(h:p:=by refine Z68 ?_;exact AKu):p:=h
theorem AKf(h:p:=by refine Z88 ?_;exact A8 (As A7 A7) ⟨by rw [hw],rfl⟩):p:=h
theorem Xt(k:q)(h:Hk q→p:=by intro qk;refine Z50 ?_;refine Z1 ?_;exact qk.h):p:=h ⟨k⟩
theorem Xu(k:q)(h:Hk q→p:=by intro qk;refine Z9 ?_;refine Z37 ?_;exact qk.h):p:=h ⟨k⟩
theorem AKg(h:p:=by refine Z73 ?_;exact AKy):p:=h
theorem ja(h:p:=by refine Z55 ?_;refine Z7 ?_;exact APt):p:=h
theorem Xv(k:q)(h:Hk q→p:=by intro qk;refine Z14 ?_;refine Z5 ?_;exact qk.h):p:=h ⟨k⟩
theorem AKh(h:p:=by refine Z99 ?_;exact fp):p:=h
theorem AB8(h:p:=by refine Di [3,8] ?_;exact Z95):p:=h
theorem ANe(h:p:=by refine Z24 ?_;exact A8 (Ai (Ap jA jS)) ⟨by rw [hte,htr,hrk];rfl,rfl⟩ (hlow:=by simp [Ag])):p:=h
theorem Xw(k:q)(h:Hk q→p:=by intro qk;refine Z52 ?_;refine Z2 ?_;exact qk.h):p:=h ⟨k⟩
theorem vi(h:p:=by refine A2 [] ?_;refine Ix ?_;exact Mc .nores ⟨rfl,by rw [pe]<;>simp [AD4]⟩):p:=h
theorem ap(k:q)(h:Hk q→p:=by intro qk;refine Z70 ?_;refine Z70 ?_;exact qk.h):p:=h ⟨k⟩
theorem AKi(h:p:=by refine Z26 ?_;exact fp):p:=h
theorem jb(k:q)(h:Hk q→p:=by intro qk;refine Z15 ?_;refine Fg ?_;exact qk.h):p:=h ⟨k⟩
theorem nx(k:q)(h:Hk q→p:=by intro qk;refine Z1 ?_;refine Lr ?_;exact qk.h):p:=h ⟨k⟩
theorem jc(k:q)(h:Hk q→p:=by intro qk;refine Z18 ?_;refine Z26 ?_;exact qk.h):p:=h ⟨k⟩
theorem ANf(h:p:=by refine Z33 ?_;exact A8 (Ai A7) ⟨by rw [oa (Ld (by simp at ht9;omega) hx.2)],rfl⟩):p:=h
theorem ff(k:q)(h:Hk q→p:=by intro qk;refine Z27 ?_;refine am ?_;exact qk.h):p:=h ⟨k⟩
theorem vj(k:q)(h:Hk q→p:=by intro qk;refine Z1 ?_;refine A2 [2,3,9] ?_;exact qk.h):p:=h ⟨k⟩
theorem AB9(k:q)(h:Hk q→p:=by intro qk;refine Sp ?_;refine Fg ?_;exact qk.h):p:=h ⟨k⟩
theorem ANg(h:p:=by refine fm ?_;exact B2 (x+1) hlt (by omega) (by simp only [em];exact Bz rfl)):p:=h
theorem fg(k:q)(h:Hk q→p:=by intro qk;refine Z21 ?_;refine Bl ?_;exact qk.h):p:=h ⟨k⟩
theorem ANh(h:p:=by refine ABq ?_;exact Xp):p:=h
theorem aq(k:q)(h:Hk q→p:=by intro qk;refine Z18 ?_;refine Z1 ?_;exact qk.h):p:=h ⟨k⟩
theorem jd(k:q)(h:Hk q→p:=by intro qk;refine Z47 ?_;refine Fg ?_;exact qk.h):p:=h ⟨k⟩
theorem ANi(h:p:=by refine Z24 ?_;exact A8 (Ai (Ap jA jS)) ⟨by simp only [Zw,hm]<;>simp_all,rfl⟩):p:=h
theorem ABa(k:q)(h:Hk q→p:=by intro qk;refine Sp ?_;refine Z13 ?_;exact qk.h):p:=h ⟨k⟩
theorem vk(k:q)(h:Hk q→p:=by intro qk;refine j8 ?_;refine A2 [1,2] ?_;exact qk.h):p:=h ⟨k⟩
theorem AFq(h:p:=by refine Z4 ?_;exact wl):p:=h
theorem ABb(k:q)(h:Hk q→p:=by intro qk;refine La ?_;refine A2 [1,2] ?_;exact qk.h):p:=h ⟨k⟩
theorem ny(h:p:=by refine Z39 ?_;exact Z41):p:=h
theorem AFr(k:q)(h:Hk q→p:=by intro qk;refine A4 ?_;refine A9 Tryz.call77 (c77 e _) ?_;exact qk.h):p:=h ⟨k⟩
theorem ANj(h:p:=by refine Z24 ?_;exact A8 (Ai (Ap jA jS)) ⟨rfl,rfl⟩ (hlow:=Ag _ (Ei v))):p:=h
theorem ANk(h:p:=by refine Fm ?_;exact AKv):p:=h
theorem je(k:q)(h:Hk q→p:=by intro qk;refine Z2 ?_;refine ns ?_;exact qk.h):p:=h ⟨k⟩
theorem jf(k:q)(h:Hk q→p:=by intro qk;refine Z57 ?_;refine Fh ?_;exact qk.h):p:=h ⟨k⟩
theorem vl(k:q)(h:Hk q→p:=by intro qk;refine Z14 ?_;refine Ua ?_;exact qk.h):p:=h ⟨k⟩
theorem AKj(k:q)(h:Hk q→p:=by intro qk;refine A4 ?_;refine A9 Tryz.call250 (Zn (ks.getD 0 0) 1 _) ?_;exact qk.h):p:=h ⟨k⟩
theorem AKk(k:q)(h:Hk q→p:=by intro qk;refine A4 ?_;refine A9 Tryz.call250 (Zn (ks.getD 0 0) 2 _) ?_;exact qk.h):p:=h ⟨k⟩
theorem fh(k:q)(h:Hk q→p:=by intro qk;refine Z1 ?_;refine Z11 ?_;exact qk.h):p:=h ⟨k⟩
theorem ANl(h:p:=by refine jc ?_;exact AKv):p:=h
theorem ANm(h:p:=by refine Z71 ?_;exact A8 (As A7 A7) ⟨by rw [ACn hr hkn];try rfl,rfl⟩):p:=h
theorem ANn(k:q)(h:Hk q→p:=by intro qk;refine C3 [0,0,0,4,12,0,32,96,224,508,1020,2046,4095,8191,16383] 12 Am (by kernel_rfl) ?_;refine Z37 ?_;exact qk.h):p:=h ⟨k⟩
theorem jg(k:q)(h:Hk q→p:=by intro qk;refine Z12 ?_;refine Z29 ?_;exact qk.h):p:=h ⟨k⟩
theorem fj(k:q)(h:Hk q→p:=by intro qk;refine Z3 ?_;refine Z46 ?_;exact qk.h):p:=h ⟨k⟩
theorem ANo(h:p:=by refine ABr ?_;exact B2 (k+1) hk (by omega) (Bz rfl)):p:=h
theorem vm(k:q)(h:Hk q→p:=by intro qk;refine Ma ?_;refine A4 ?_;exact qk.h):p:=h ⟨k⟩
theorem AFs(k:q)(h:Hk q→p:=by intro qk;refine Rc 0 5 6 ?_;refine G4 ?_;exact qk.h):p:=h ⟨k⟩
theorem vn(h:p:=by refine Z21 ?_;refine Z74 ?_;exact APa):p:=h
theorem vo(h:p:=by refine Z84 ?_;exact Z66):p:=h
theorem vp(h:p:=by refine Z39 ?_;exact Z44):p:=h
theorem ANp(h:p:=by refine Z7 ?_;exact wo):p:=h
theorem ANq(k:q)(h:Hk q→p:=by intro qk;refine Nk ?_;refine A9 Tryz.call326 (ATx (n+1) (Expr.mk x.op x.text noV (x.kids.map B4)) hyok (by omega) hyr _) ?_;exact qk.h):p:=h ⟨k⟩
theorem AKl(h:p:=by refine Z15 ?_;refine Z13 ?_;exact ABt):p:=h
theorem nz(k:q)(h:Hk q→p:=by intro qk;refine Z10 ?_;refine K.blR ?_;exact qk.h):p:=h ⟨k⟩
theorem ANr(h:p:=by refine Z10 ?_;exact AKt):p:=h
theorem AKm(h:p:=by refine Z37 ?_;exact ar):p:=h
theorem jh(k:q)(h:Hk q→p:=by intro qk;refine Z50 ?_;refine Z14 ?_;exact qk.h):p:=h ⟨k⟩
theorem ANs(k:q)(h:Hk q→p:=by intro qk;refine Wi ?_;refine APu ?_;exact qk.h):p:=h ⟨k⟩
theorem ji(k:q)(h:Hk q→p:=by intro qk;refine Z34 ?_;refine A4 ?_;exact qk.h):p:=h ⟨k⟩
theorem ABc(k:q)(h:Hk q→p:=by intro qk;refine Z1 ?_;refine Z49 ?_;exact qk.h):p:=h ⟨k⟩
theorem ABd(k:q)(h:Hk q→p:=by intro qk;refine ABc ?_;refine Wj ?_;exact qk.h):p:=h ⟨k⟩
theorem ANt(h:p:=by refine Z10 ?_;exact A8 (As A7 A7) ⟨by rw [ALd hr];try rfl,rfl⟩):p:=h
theorem ANu(k:q)(h:Hk q→p:=by intro qk;refine Aq ?_;refine APv ?_;exact qk.h):p:=h ⟨k⟩
theorem fk(k:q)(h:Hk q→p:=by intro qk;refine Z1 ?_;refine Z4 ?_;exact qk.h):p:=h ⟨k⟩
theorem o0(k:q)(h:Hk q→p:=by intro qk;refine A4 ?_;refine Bl ?_;exact qk.h):p:=h ⟨k⟩
theorem ANv(k:q)(h:Hk q→p:=by intro qk;refine APv ?_;refine Z86 ?_;exact qk.h):p:=h ⟨k⟩
theorem ANw(k:q)(h:Hk q→p:=by intro qk;refine wr ?_;refine ABq ?_;exact qk.h):p:=h ⟨k⟩
theorem vq(k:q)(h:Hk q→p:=by intro qk;refine Z2 ?_;refine A2 [6] ?_;exact qk.h):p:=h ⟨k⟩
theorem AFt(k:q)(h:Hk q→p:=by intro qk;refine A2 [17,18,19,20] ?_;refine Z76 ?_;exact qk.h):p:=h ⟨k⟩
theorem AFu(k:q)(h:Hk q→p:=by intro qk;refine G4 ?_;refine G4 ?_;exact qk.h):p:=h ⟨k⟩
theorem jk(k:q)(h:Hk q→p:=by intro qk;refine Z16 ?_;refine Z14 ?_;exact qk.h):p:=h ⟨k⟩
theorem AKn(k:q)(h:Hk q→p:=by intro qk;refine A4 ?_;refine Oz (k) jU Tryz.sizeOf233 hk ?_;exact qk.h):p:=h ⟨k⟩
theorem o4(k:q)(h:Hk q→p:=by intro qk;refine Z55 ?_;refine Z7 ?_;exact qk.h):p:=h ⟨k⟩
theorem vr(k:q)(h:Hk q→p:=by intro qk;refine E9 ?_;refine R.box ?_;exact qk.h):p:=h ⟨k⟩
theorem ANx(h:p:=by refine jc ?_;exact APt):p:=h
theorem ANy(h:p:=by refine Z32 ?_;exact AKx):p:=h
theorem ANz(h:p:=by refine B2 (x+1) ⟨hlt,hn⟩ (by omega) ?_;exact Bz (by simp)):p:=h
theorem AO0(h:p:=by refine Z74 ?_;exact APh):p:=h
theorem AO1(h:p:=by refine Z88 ?_;exact APm):p:=h
theorem AO2(k:q)(h:Hk q→p:=by intro qk;refine C3 [0,0,3,7,15,0,0,96,224,511,0,2047,4095] 11 Am (by kernel_rfl) ?_;refine AB4 ?_;exact qk.h):p:=h ⟨k⟩
theorem AO3(h:p:=by refine Z74 ?_;exact A8 (As A7 A7) ⟨by simp_all [Yt],rfl⟩):p:=h
theorem ABe(h:p:=by refine j7 ?_;refine Z7 ?_;exact APf):p:=h
theorem AO4(h:p:=by refine Z33 ?_;exact A8 (Ai A7) ⟨by rw [AHs h3]<;>rfl,rfl⟩):p:=h
theorem ABf(h:p:=by refine Z26 ?_;refine Z7 ?_;exact A8 (Ai A7) ⟨by simp_all [Ry],rfl⟩):p:=h
theorem AKo(k:q)(h:Hk q→p:=by intro qk;refine Sq ?_;refine Sq ?_;exact qk.h):p:=h ⟨k⟩
theorem AO5(h:p:=by refine Z24 ?_;exact A8 (Ai (Ap jA jS)) ⟨by simp [ht5],rfl⟩):p:=h
theorem AO6(k:q)(h:Hk q→p:=by intro qk;refine Z14 ?_;refine Cl Tryz.call116 ho (by simp) Dk (xm l S 8 (B1 l S.i).at_ o _ (B5 ho)) ?_;exact qk.h):p:=h ⟨k⟩
theorem vt(k:q)(h:Hk q→p:=by intro qk;refine Z3 ?_;refine J6 ?_;exact qk.h):p:=h ⟨k⟩
theorem AO7(k:q)(h:Hk q→p:=by intro qk;refine Wh ?_;refine G4 ?_;exact qk.h):p:=h ⟨k⟩
theorem ABg(h:p:=by refine Z55 ?_;exact Z61):p:=h
theorem AO8(h:p:=by refine Z73 ?_;exact AKx):p:=h
theorem ABh(k:q)(h:Hk q→p:=by intro qk;refine Z17 ?_;refine G4 ?_;exact qk.h):p:=h ⟨k⟩
theorem AO9(h:p:=by refine Z71 ?_;exact A8 (As A7 A7) ⟨by rw [hbad],rfl⟩):p:=h
theorem AOa(k:q)(h:Hk q→p:=by intro qk;refine A9 Tryz.call193 (AVv _) ?_;refine M9 (places:=#[(0,1),(1,5)]) jU (fun w=>by simp) jZ ?_;exact qk.h):p:=h ⟨k⟩
theorem AOb(h:p:=by refine Z32 ?_;exact A8 (Ai A7) ⟨by rw [hx.eq,hw],rfl⟩):p:=h
theorem AOc(h:p:=by refine Z33 ?_;exact APo):p:=h
theorem jl(k:q)(h:Hk q→p:=by intro qk;refine Z81 ?_;refine Z2 ?_;exact qk.h):p:=h ⟨k⟩
theorem AOd(h:p:=by refine Z71 ?_;exact A8 (As A7 A7) ⟨by rw [hkb],rfl⟩):p:=h
theorem AOe(h:p:=by refine o4 ?_;exact o7):p:=h
theorem AOf(k:q)(h:Hk q→p:=by intro qk;refine Z58 ?_;refine A9 Tryz.call249 (AR5 _ (rdL d).1 (Cy (hlow ht77) (by decide)) _) ?_;exact qk.h):p:=h ⟨k⟩
theorem vu(k:q)(h:Hk q→p:=by intro qk;refine E9 ?_;refine Z17 ?_;exact qk.h):p:=h ⟨k⟩
theorem vw(k:q)(h:Hk q→p:=by intro qk;refine Z52 ?_;refine E9 ?_;exact qk.h):p:=h ⟨k⟩
theorem ABi(k:q)(h:Hk q→p:=by intro qk;refine Z1 ?_;refine A2 [3,8] ?_;exact qk.h):p:=h ⟨k⟩
theorem vz(k:q)(h:Hk q→p:=by intro qk;refine Z1 ?_;refine Z68 ?_;exact qk.h):p:=h ⟨k⟩
theorem AOg(h:p:=by refine vz ?_;exact AKy):p:=h
theorem AFv(k:q)(h:Hk q→p:=by intro qk;refine Z0 ?_;refine A9 Tryz.call175 (AT3 _ _ _) ?_;refine Z0 ?_;exact qk.h):p:=h ⟨k⟩
theorem ABj(k:q)(h:Hk q→p:=by intro qk;refine Z14 ?_;refine A2 [1,2] ?_;exact qk.h):p:=h ⟨k⟩
theorem AOh(h:p:=by refine Z74 ?_;exact AKy):p:=h
theorem w4(k:q)(h:Hk q→p:=by intro qk;refine Z9 ?_;refine Z57 ?_;exact qk.h):p:=h ⟨k⟩
theorem AOi(k:q)(h:Hk q→p:=by intro qk;refine C3 [0,1,3,7,15,3,35,99,255,511,1023] 8 Am (by kernel_rfl) ?_;refine w4 ?_;exact qk.h):p:=h ⟨k⟩
theorem AOj(h:p:=by refine Z73 ?_;exact AKu):p:=h
theorem AOk(k:q)(h:Hk q→p:=by intro qk;refine C3 [0,1,3,7,0,16,48,112,240,511,1023] 9 Am (by kernel_rfl) ?_;refine Z9 ?_;exact qk.h):p:=h ⟨k⟩
theorem AFw(k:q)(h:Hk q→p:=by intro qk;refine Wi ?_;refine A4 ?_;exact qk.h):p:=h ⟨k⟩
theorem w5(k:q)(h:Hk q→p:=by intro qk;refine A4 ?_;refine ANc ?_;exact qk.h):p:=h ⟨k⟩
theorem AOl(k:q)(h:Hk q→p:=by intro qk;refine C3 [0,1,3,7,0,16,48,112,255,511,1023] 8 Am (by kernel_rfl) ?_;refine Z9 ?_;exact qk.h):p:=h ⟨k⟩
theorem w6(k:q)(h:Hk q→p:=by intro qk;refine A4 ?_;refine j5 ?_;exact qk.h):p:=h ⟨k⟩
theorem AKp(h:p:=by refine O6 ?_;exact ar):p:=h
theorem AOm(h:p:=by refine Cd Tryz.call136 (AQb c l k0 ra ha _) ?_;exact AKm):p:=h
theorem AOn(h:p:=by refine Z99 ?_;exact A8 (Ai A7) ⟨by rw [hf],rfl⟩):p:=h
theorem AOo(k:q)(h:Hk q→p:=by intro qk;refine fl ?_;refine C3 [0,1,3,0,8,24,56,127] 7 Am (by kernel_rfl) ?_;exact qk.h):p:=h ⟨k⟩
theorem ABk(k:q)(h:Hk q→p:=by intro qk;refine Jf ?_;refine Md ?_;exact qk.h):p:=h ⟨k⟩
theorem ABl(k:q)(h:Hk q→p:=by intro qk;refine Jf ?_;refine Ix ?_;exact qk.h):p:=h ⟨k⟩
theorem AFx(k:q)(h:Hk q→p:=by intro qk;refine Z34 ?_;refine A2 [0,1,2,6] ?_;exact qk.h):p:=h ⟨k⟩
theorem w7(k:q)(h:Hk q→p:=by intro qk;refine Z35 ?_;refine K.lpE ?_;exact qk.h):p:=h ⟨k⟩
theorem ABm(k:q)(h:Hk q→p:=by intro qk;refine Kd ?_;refine Z17 ?_;exact qk.h):p:=h ⟨k⟩
theorem AFy(h:p:=by refine AFv ?_;refine Z93 ?_;exact APb):p:=h
theorem AOq(h:p:=by refine Z10 ?_;exact A8 (Ai A7) ⟨by rw [hf],rfl⟩):p:=h
theorem AFz(h:p:=by refine Cd Tryz.call53 (r1 _) ?_;refine Z85 ?_;exact AKl):p:=h
theorem AOr(h:p:=by refine AB2 ?_;exact fp):p:=h
theorem w8(k:q)(h:Hk q→p:=by intro qk;refine Z22 ?_;refine Z5 ?_;refine Z0 ?_;refine A2 [1,3,4,5] ?_;exact qk.h):p:=h ⟨k⟩
theorem w9(k:q)(h:Hk q→p:=by intro qk;refine Z26 ?_;refine Z71 ?_;exact qk.h):p:=h ⟨k⟩
theorem AOs(k:q)(h:Hk q→p:=by intro qk;refine Z58 ?_;refine Cl Tryz.call204 ho (by simp) Dk (xl l S o _ (B5 ho) hi hll) ?_;exact qk.h):p:=h ⟨k⟩
theorem AOt(k:q)(h:Hk q→p:=by intro qk;refine A4 ?_;refine Oz ((i+k)) jU Tryz.sizeOf233 (by omega) (hm:=by omega) ?_;exact qk.h):p:=h ⟨k⟩
theorem AKq(k:q)(h:Hk q→p:=by intro qk;refine A9 Tryz.call189 (AMb _ _) ?_;refine Z51 ?_;exact qk.h):p:=h ⟨k⟩
theorem AKr(k:q)(h:Hk q→p:=by intro qk;refine E9 ?_;refine A9 Tryz.call86 (c86 _) ?_;exact qk.h):p:=h ⟨k⟩
theorem AOu(k:q)(h:Hk q→p:=by intro qk;refine Bk Tryz.call125 (fun hB=>APz e.text Q5 hs (by decide) _) ?_;refine am ?_;exact qk.h):p:=h ⟨k⟩
theorem AG0(h:p:=by refine Z26 ?_;exact AMz):p:=h
theorem AOv(k:q)(h:Hk q→p:=by intro qk;refine Z72 ?_;refine Oz ((i+k)) jU Tryz.sizeOf233 (by omega) (hm:=by omega) ?_;exact qk.h):p:=h ⟨k⟩
theorem wc(k:q)(h:Hk q→p:=by intro qk;refine U7 ?_;refine Bl ?_;exact qk.h):p:=h ⟨k⟩
theorem AG1(h:p:=by refine Z0 ?_;refine Z33 ?_;exact A8 (Ai A7) ⟨by first|(rw [hgy hf];rfl)|(rw [hgv hf];rfl),rfl⟩):p:=h
theorem ABn(k:q)(h:Hk q→p:=by intro qk;refine Z21 ?_;refine A2 [0] ?_;exact qk.h):p:=h ⟨k⟩
theorem AOw(k:q)(h:Hk q→p:=by intro qk;refine Z86 ?_;refine M9 (places:=#[(0,6),(6,6),(12,1)]) jU (fun w=>by simp) jZ ?_;exact qk.h):p:=h ⟨k⟩
theorem AOx(k:q)(h:Hk q→p:=by intro qk;refine Wg ?_;refine Z93 ?_;exact qk.h):p:=h ⟨k⟩
theorem wd(k:q)(h:Hk q→p:=by intro qk;refine Bl ?_;refine Z42 ?_;exact qk.h):p:=h ⟨k⟩
theorem AOy(k:q)(h:Hk q→p:=by intro qk;refine Z50 ?_;refine C3 [0,0,3,7,0,0,48,112,255] 8 Am (by kernel_rfl) ?_;exact qk.h):p:=h ⟨k⟩
theorem AOz(h:p:=by refine Z4 ?_;exact A8 (Ai A7) ⟨by simp,rfl⟩):p:=h
theorem AG2(h:p:=by refine Z1 ?_;refine AKb ?_;refine Z68 ?_;exact AKx):p:=h
theorem AP0(k:q)(h:Hk q→p:=by intro qk;refine Cd Tryz.call247 (AVu (rdL (d.take i)).1 10 hm2 (by decide) _) ?_;refine Z86 ?_;exact qk.h):p:=h ⟨k⟩
theorem we(k:q)(h:Hk q→p:=by intro qk;refine Z2 ?_;refine Z51 ?_;exact qk.h):p:=h ⟨k⟩
theorem AG3(h:p:=by refine Z6 ?_;refine A2 [8,9] ?_;refine Z10 ?_;exact A8 (As (Ap jA jS) A7) ⟨by rw [hm]<;>rfl,rfl⟩ (hlow:=by simp [or_imp,forall_and,Ag])):p:=h
theorem ABo(k:q)(h:Hk q→p:=by intro qk;refine AN2 ?_;refine Fm ?_;exact qk.h):p:=h ⟨k⟩
theorem AG4(h:p:=by refine Z1 ?_;refine Z88 ?_;exact AKw):p:=h
theorem wg(k:q)(h:Hk q→p:=by intro qk;refine Z16 ?_;refine Z1 ?_;refine A2 [0,1,5,7,8] ?_;refine Z14 ?_;exact qk.h):p:=h ⟨k⟩
theorem AG5(k:q)(h:Hk q→p:=by intro qk;refine Z17 ?_;refine A2 [0,2,3] ?_;exact qk.h):p:=h ⟨k⟩
theorem AG6(k:q)(h:Hk q→p:=by intro qk;refine A2 [3,9] ?_;refine Fl ?_;exact qk.h):p:=h ⟨k⟩
theorem AG7(k:q)(h:Hk q→p:=by intro qk;refine A2 [0,3,5] ?_;refine Z31 ?_;exact qk.h):p:=h ⟨k⟩
theorem wh(k:q)(h:Hk q→p:=by intro qk;refine Z60 ?_;refine Z31 ?_;refine A2 [0,1,7,8] ?_;exact qk.h):p:=h ⟨k⟩
theorem wi(k:q)(h:Hk q→p:=by intro qk;refine Z0 ?_;refine Z93 ?_;exact qk.h):p:=h ⟨k⟩
theorem wj(h:p:=by exact ⟨rfl,Below.refl _ _⟩):p:=h
theorem E9(k:q)(h:Hk q→p:=by intro qk;refine AW.seqR ?_;exact qk.h):p:=h ⟨k⟩
theorem Lr(k:q)(h:Hk q→p:=by intro qk;refine A2 [0,3] ?_;exact qk.h):p:=h ⟨k⟩
theorem fl(k:q)(h:Hk q→p:=by intro qk;refine A2 [0,3,4] ?_;exact qk.h):p:=h ⟨k⟩
theorem Xx(k:q)(h:Hk q→p:=by intro qk;refine A2 [0,1,5] ?_;exact qk.h):p:=h ⟨k⟩
theorem AP1(h:p:=by exact h (y,j) (by rw [N6];exact hj)):p:=h
theorem AP2(h:p:=by exact A8 (Ai A7) ⟨by simp [C2,ht5],rfl⟩):p:=h
theorem AP3(h:p:=by exact A8 (Ai A7) ⟨by simp [C2,ht5,ht16,ht22],rfl⟩):p:=h
theorem wl(h:p:=by exact A8 (Ai A7)):p:=h
theorem wm(k:q)(h:Hk q→p:=by intro qk;refine A2 [0,1,5,7,8,16] ?_;exact qk.h):p:=h ⟨k⟩
theorem G4(k:q)(h:Hk q→p:=by intro qk;refine Mb jS ?_;exact qk.h):p:=h ⟨k⟩
theorem Ua(k:q)(h:Hk q→p:=by intro qk;refine A2 [2,3] ?_;exact qk.h):p:=h ⟨k⟩
theorem Wg(k:q)(h:Hk q→p:=by intro qk;refine M9 (places:=#[(0,1),(1,1),(2,1)]) jU (fun w=>by simp) jZ ?_;exact qk.h):p:=h ⟨k⟩
theorem AP4(h:p:=by exact A8 (Ai A7) ⟨by simp only [Ih,hp,ht7,ht14,ht23,ht27,Ck,An,if_false,if_true];try rfl,rfl⟩):p:=h
theorem AP5(h:p:=by exact A8 (As (Ap jA jS) A7) ⟨by simp only [jr,ht17,if_true,if_false,An];rfl,rfl⟩):p:=h
theorem J6(k:q)(h:Hk q→p:=by intro qk;refine AW.block ?_;exact qk.h):p:=h ⟨k⟩
theorem AP6(h:p:=by exact A8 (L6 A7 A7 A7 A7) ⟨by simp only [Ri,ht11,ht17,if_true,if_false,An];try rfl,rfl⟩):p:=h
theorem Sp(k:q)(h:Hk q→p:=by intro qk;refine A2 [2,3,4,5] ?_;exact qk.h):p:=h ⟨k⟩
theorem AP7(h:p:=by exact A8 (L6 A7 A7 A7 A7) ⟨by simp only [Y5,ht18,ht23,if_true,if_false,An];try rfl,rfl⟩):p:=h
theorem AP8(h:p:=by exact A8 (L6 A7 A7 A7 A7) ⟨by simp only [D0,ht6,ht17,ht28,if_true,if_false,An],rfl⟩):p:=h
theorem ABp(h:p:=by exact absurd h (by decide)):p:=h
theorem La(k:q)(h:Hk q→p:=by intro qk;refine R.alloc jZ ?_;exact qk.h):p:=h ⟨k⟩
theorem jm(k:q)(h:Hk q→p:=by intro qk;refine M9 (places:=#[(0,1),(1,1)]) jU (fun w=>by simp) jZ ?_;exact qk.h):p:=h ⟨k⟩
theorem AG8(k:q)(h:Hk q→p:=by intro qk;refine K.rdN (rm hL (E8 (by decide)) (E8 (by decide))) ?_;exact qk.h):p:=h ⟨k⟩
theorem Sq(k:q)(h:Hk q→p:=by intro qk;refine R.buildSlice jU jS jZ ?_;exact qk.h):p:=h ⟨k⟩
theorem o5(h:p:=by exact ⟨hFRl,by simp [oid]⟩):p:=h
theorem o6(h:p:=by exact Lz (fun x hx=>ObjLow.le (by omega) (hlow x hx)) hOl x hx):p:=h
theorem AG9(k:q)(h:Hk q→p:=by intro qk;refine K.rdN (AB0 hL (E8 (by decide))) ?_;exact qk.h):p:=h ⟨k⟩
theorem Wh(k:q)(h:Hk q→p:=by intro qk;refine M9 (places:=#[(0,1),(1,1),(2,3),(5,1)]) jU (fun w=>by simp) jZ ?_;exact qk.h):p:=h ⟨k⟩
theorem fm(k:q)(h:Hk q→p:=by intro qk;refine A2 [1,3,4] ?_;exact qk.h):p:=h ⟨k⟩
theorem ABq(k:q)(h:Hk q→p:=by intro qk;refine D.build (places:=#[(0,1),(1,1),(2,3),(5,1)]) jU (fun w=>by simp) jZ ?_;exact qk.h):p:=h ⟨k⟩
theorem AKs(k:q)(h:Hk q→p:=by intro qk;refine f6 (u:=Hp.length) (n:=0) (t':=26) (cs:=[A5 0,Ac [],A5 0,A5 0,Ac [],.nil]) (cs':=[A5 0,Ac [],A5 0,A5 0,Ac [],.nil]) Tryz.sizeOf26 (fun B hB=>⟨rfl,rfl,rfl,rfl⟩) ?_;exact qk.h):p:=h ⟨k⟩
theorem AP9(h:p:=by exact A8 (Ai A7) ⟨by rw [decide_eq_false hne],rfl⟩):p:=h
theorem ar(h:p:=by exact D.end rfl rfl):p:=h
theorem au(h:p:=by exact Yv _):p:=h
theorem AKt(h:p:=by exact A8 (As (Ap jA jS) A7) ⟨by rw [hw];try rfl,rfl⟩):p:=h
theorem APa(h:p:=by exact A8 (As A7 A7) ⟨by simp_all [Gd],rfl⟩):p:=h
theorem fp(h:p:=by exact A8 (Ai A7) ⟨by rw [hm],rfl⟩):p:=h
theorem APb(h:p:=by exact A8 (As (Ap Tryz.isAgg23 Tryz.sizeOf23) A7) ⟨by simp_all [Gc],rfl⟩):p:=h
theorem Wi(k:q)(h:Hk q→p:=by intro qk;refine R.buildSl jU jS jZ ?_;exact qk.h):p:=h ⟨k⟩
theorem APc(h:p:=by exact A8 (Ai (Ap jA jS)) ⟨by rw [hm];try rfl,rfl⟩):p:=h
theorem APd(k:q)(h:Hk q→p:=by intro qk;refine Y.alloc (zs:=[A5 0,A5 0,Ac []]) (n:=1) (u:=Hp.length) Tryz.zeroValue23 (fun B hT hF hB=>⟨rfl,by simp [hB],by simp [upd,hB,hF 1 (by simp)],rfl⟩) ?_;exact qk.h):p:=h ⟨k⟩
theorem Wj(k:q)(h:Hk q→p:=by intro qk;refine A2 [2,3,4] ?_;exact qk.h):p:=h ⟨k⟩
theorem APe(h:p:=by exact A8 (Ai (Ap jA jS)) ⟨by first|exact ADe (by unfold Hr;simp [*];done)|exact ADd (by unfold Hr;simp [*];done)|exact ADf (by unfold Hr;simp [*];done),rfl⟩):p:=h
theorem APf(h:p:=by exact A8 (Ai (Ap jA jS)) ⟨by first|exact ADe (by unfold G8;simp [*];done)|exact ADd (by unfold G8;simp [*];done)|exact ADf (by unfold G8;simp [*];done),rfl⟩):p:=h
theorem APg(h:p:=by exact A8 (Ai (Ap jA jS)) ⟨by simp_all [Qw],rfl⟩):p:=h
theorem APh(h:p:=by exact A8 (As A7 A7) ⟨by simp_all [H3],rfl⟩):p:=h
theorem wn(k:q)(h:Hk q→p:=by intro qk;refine A2 [2,6,13,14,15] ?_;exact qk.h):p:=h ⟨k⟩
theorem AKu(h:p:=by exact A8 (As A7 A7) ⟨by rw [hk],rfl⟩):p:=h
theorem AGa(h:p:=by exact A8 (As A7 A7) ⟨by rw [hk,hk2],rfl⟩):p:=h
theorem wo(h:p:=by exact A8 (As (Ap jA jS) A7) ⟨by rw [hm];try rfl,rfl⟩):p:=h
theorem APi(h:p:=by exact A8 (Ai (Ap jA jS)) ⟨by rw [e,Af],by rw [e]⟩ (hlow:=low_agg _)):p:=h
theorem wq(k:q)(h:Hk q→p:=by intro qk;refine A2 [2,3,4,5,6,7] ?_;exact qk.h):p:=h ⟨k⟩
theorem APj(k:q)(h:Hk q→p:=by intro qk;refine K.rdN (by first|exact rm hL (E8 (by decide)) (E8 (by decide))|exact Ay hL) ?_;exact qk.h):p:=h ⟨k⟩
theorem wr(k:q)(h:Hk q→p:=by intro qk;refine D.buildSlice jU jS jZ ?_;exact qk.h):p:=h ⟨k⟩
theorem APk(h:p:=by exact A8 (As A7 A7) ⟨by rw [hka,←hrf];unfold V1;first|rw [if_neg (by simpa using ht235)]|rw [if_pos (by simpa using ht235)],rfl⟩):p:=h
theorem APl(h:p:=by exact A8 (Ai A7) ⟨by rw [hn];first|(simp only [ht22,ht25,ht33,ht41,ht41,ht50,ht58,hk3,hk6,Dd,Cj,Fx,Jc,if_true,if_false,An,↓reduceIte]<;>rfl)|(simp only [ht22,ht25,ht33,ht41,ht41,ht50,ht58,hk3,Dd,Cj,Fx,if_true,if_false,An,↓reduceIte]<;>rfl)|(simp only [ht22,ht25,ht33,ht41,ht41,ht50,ht58,if_true,if_false,An,↓reduceIte]<;>rfl),rfl⟩):p:=h
theorem o7(h:p:=by exact A8 (Ai A7) ⟨by rw [hm]<;>rfl,rfl⟩):p:=h
theorem APm(h:p:=by exact A8 (As A7 A7) ⟨by rw [hsh]<;>rfl,rfl⟩):p:=h
theorem APn(h:p:=by exact A8 (As A7 A7) ⟨by rw [hm],rfl⟩ (hlow:=by simp only [AFd,C0,Fb,or_false];rintro y (rfl|rfl);exact yj;simp)):p:=h
theorem AGb(k:q)(h:Hk q→p:=by intro qk;refine Oz (0) jU Tryz.sizeOf233 (by decide) ?_;exact qk.h):p:=h ⟨k⟩
theorem APo(h:p:=by exact A8 (Ai (Ap jA jS)) ⟨by rw [had],rfl⟩):p:=h
theorem ABr(k:q)(h:Hk q→p:=by intro qk;refine A2 [2,3,4,5,9,10] ?_;exact qk.h):p:=h ⟨k⟩
theorem ABs(k:q)(h:Hk q→p:=by intro qk;refine A2 [2,3,4,5,6,7,8] ?_;exact qk.h):p:=h ⟨k⟩
theorem AGc(k:q)(h:Hk q→p:=by intro qk;refine A2 [2,3,4,5,6,7,8,9,10] ?_;exact qk.h):p:=h ⟨k⟩
theorem APp(h:p:=by exact A8 (Ai (Ap jA jS)) ⟨by rw [hb];rfl,rfl⟩):p:=h
theorem av(k:q)(h:Hk q→p:=by intro qk;refine A2 [0,4,5,6,7,8,9] ?_;exact qk.h):p:=h ⟨k⟩
theorem Ub(h:p:=by exact mh _):p:=h
theorem Uc(h:p:=by exact aa _):p:=h
theorem APq(h:p:=by exact A8 (Ai A7) ⟨by rw [hm,hD]<;>rfl,rfl⟩):p:=h
theorem Ip(h:p:=by exact A8 (As (Ap jA jS) A7) ⟨by first|(rw [href];done)|(rw [href];rfl),rfl⟩):p:=h
theorem ABt(h:p:=by exact A8 (As (Ap jA jS) A7) ⟨by rw [hm];simp only [Af];try rfl,rfl⟩ (hlow:=by simp [or_imp,forall_and,Ag])):p:=h
theorem APr(h:p:=by exact (ADk (c:=[]) (l:=[]) (fun v hv=>by cases hv) ((Bd _ _).1 hn0.2 _ hin) ((Bd _ _).1 hx0.2 _ hin) h).2.2):p:=h
theorem APs(h:p:=by exact A8 (As (Ap jA jS) A7) ⟨by rw [hm];simp only [Option.getD_none,Option.getD_some,Option.isSome_none,Option.isSome_some,Af];try rfl,rfl⟩ (hlow:=by simp [or_imp,forall_and,Ag])):p:=h
theorem AKv(h:p:=by exact A8 (Ai A7) ⟨by simp_all [Hi,Mt,xp],rfl⟩):p:=h
theorem APt(h:p:=by exact A8 (Ai A7) ⟨by simp_all [Ch,Mt],rfl⟩):p:=h
theorem AKw(h:p:=by exact A8 (As A7 A7) ⟨by first|rw [hgood]|rw [AIj hd hil ht52]|rw [AIi hd ht33],rfl⟩):p:=h
theorem APu(k:q)(h:Hk q→p:=by intro qk;refine M9 (places:=#[(0,1),(1,1),(2,1),(3,1),(4,1)]) jU (fun w=>by simp) jZ ?_;exact qk.h):p:=h ⟨k⟩
theorem AKx(h:p:=by exact A8 (As A7 A7) ⟨by rw [hm]<;>rfl,rfl⟩):p:=h
theorem AKy(h:p:=by exact A8 (As A7 A7) ⟨by rw [hm],rfl⟩):p:=h
theorem APv(k:q)(h:Hk q→p:=by intro qk;refine nr ((k-1)) jU Tryz.sizeOf233 (by omega) (hm:=by omega) (hoff:=Tl (by omega)) ?_;exact qk.h):p:=h ⟨k⟩
end Go.SX.Nb
namespace Go.SX.Nb
open Go Go.SX Go.Proofs
@[reducible,instance] def JA2:=JA.mk (P:=Tryz.prog) Tryz.isAgg2
@[reducible,instance] def JA3:=JA.mk (P:=Tryz.prog) Tryz.isAgg3
@[reducible,instance] def JA4:=JA.mk (P:=Tryz.prog) Tryz.isAgg4
@[reducible,instance] def JA9:=JA.mk (P:=Tryz.prog) Tryz.isAgg9
@[reducible,instance] def AXd:=JA.mk (P:=Tryz.prog) Tryz.isAgg23
@[reducible,instance] def AXe:=JA.mk (P:=Tryz.prog) Tryz.isAgg24
@[reducible,instance] def AXf:=JA.mk (P:=Tryz.prog) Tryz.isAgg26
@[reducible,instance] def AXg:=JA.mk (P:=Tryz.prog) Tryz.isAgg27
@[reducible,instance] def AXh:=JA.mk (P:=Tryz.prog) Tryz.isAgg28
@[reducible,instance] def AXi:=JA.mk (P:=Tryz.prog) Tryz.isAgg35
@[reducible,instance] def AXj:=JA.mk (P:=Tryz.prog) Tryz.isAgg41
@[reducible,instance] def AXk:=JA.mk (P:=Tryz.prog) Tryz.isAgg45
@[reducible,instance] def AXl:=JA.mk (P:=Tryz.prog) Tryz.isAgg46
@[reducible,instance] def AXm:=JA.mk (P:=Tryz.prog) Tryz.isAgg48
@[reducible,instance] def AXn:=JA.mk (P:=Tryz.prog) Tryz.isAgg69
@[reducible,instance] def AXo:=JA.mk (P:=Tryz.prog) Tryz.isAgg83
@[reducible,instance] def AWc:=JA.mk (P:=Tryz.prog) Tryz.isAgg107
@[reducible,instance] def AWd:=JA.mk (P:=Tryz.prog) Tryz.isAgg113
@[reducible,instance] def AWe:=JA.mk (P:=Tryz.prog) Tryz.isAgg128
@[reducible,instance] def AWf:=JA.mk (P:=Tryz.prog) Tryz.isAgg130
@[reducible,instance] def AWg:=JA.mk (P:=Tryz.prog) Tryz.isAgg135
@[reducible,instance] def AWh:=JA.mk (P:=Tryz.prog) Tryz.isAgg169
@[reducible,instance] def AWi:=JA.mk (P:=Tryz.prog) Tryz.isAgg233
@[reducible,instance] def AWj:=JA.mk (P:=Tryz.prog) Tryz.isAgg234
@[reducible,instance] def AWk:=JA.mk (P:=Tryz.prog) Tryz.isAgg236
@[reducible,instance] def JS2:=JS.mk (P:=Tryz.prog) Tryz.sizeOf2
@[reducible,instance] def JS3:=JS.mk (P:=Tryz.prog) Tryz.sizeOf3
@[reducible,instance] def JS4:=JS.mk (P:=Tryz.prog) Tryz.sizeOf4
@[reducible,instance] def JS5:=JS.mk (P:=Tryz.prog) Tryz.sizeOf5
@[reducible,instance] def JS9:=JS.mk (P:=Tryz.prog) Tryz.sizeOf9
@[reducible,instance] def AXp:=JS.mk (P:=Tryz.prog) Tryz.sizeOf23
@[reducible,instance] def AXq:=JS.mk (P:=Tryz.prog) Tryz.sizeOf24
@[reducible,instance] def AXr:=JS.mk (P:=Tryz.prog) Tryz.sizeOf26
@[reducible,instance] def AXs:=JS.mk (P:=Tryz.prog) Tryz.sizeOf27
@[reducible,instance] def AXt:=JS.mk (P:=Tryz.prog) Tryz.sizeOf28
@[reducible,instance] def AXu:=JS.mk (P:=Tryz.prog) Tryz.sizeOf35
@[reducible,instance] def AXv:=JS.mk (P:=Tryz.prog) Tryz.sizeOf41
@[reducible,instance] def AXw:=JS.mk (P:=Tryz.prog) Tryz.sizeOf45
@[reducible,instance] def AXx:=JS.mk (P:=Tryz.prog) Tryz.sizeOf48
@[reducible,instance] def AXy:=JS.mk (P:=Tryz.prog) Tryz.sizeOf69
@[reducible,instance] def AXz:=JS.mk (P:=Tryz.prog) Tryz.sizeOf83
@[reducible,instance] def AWl:=JS.mk (P:=Tryz.prog) Tryz.sizeOf107
@[reducible,instance] def AWm:=JS.mk (P:=Tryz.prog) Tryz.sizeOf113
@[reducible,instance] def AWn:=JS.mk (P:=Tryz.prog) Tryz.sizeOf118
@[reducible,instance] def AWo:=JS.mk (P:=Tryz.prog) Tryz.sizeOf128
@[reducible,instance] def AWp:=JS.mk (P:=Tryz.prog) Tryz.sizeOf130
@[reducible,instance] def AWq:=JS.mk (P:=Tryz.prog) Tryz.sizeOf135
@[reducible,instance] def AWr:=JS.mk (P:=Tryz.prog) Tryz.sizeOf233
@[reducible,instance] def AWs:=JS.mk (P:=Tryz.prog) Tryz.sizeOf234
@[reducible,instance] def AWt:=JS.mk (P:=Tryz.prog) Tryz.sizeOf236
@[reducible,instance] def JU2:=JU.mk (P:=Tryz.prog) Tryz.underlying2
@[reducible,instance] def JU3:=JU.mk (P:=Tryz.prog) Tryz.underlying3
@[reducible,instance] def JU4:=JU.mk (P:=Tryz.prog) Tryz.underlying4
@[reducible,instance] def JU5:=JU.mk (P:=Tryz.prog) Tryz.underlying5
@[reducible,instance] def JU9:=JU.mk (P:=Tryz.prog) Tryz.underlying9
@[reducible,instance] def AY0:=JU.mk (P:=Tryz.prog) Tryz.underlying23
@[reducible,instance] def AY1:=JU.mk (P:=Tryz.prog) Tryz.underlying24
@[reducible,instance] def AY2:=JU.mk (P:=Tryz.prog) Tryz.underlying26
@[reducible,instance] def AY3:=JU.mk (P:=Tryz.prog) Tryz.underlying27
@[reducible,instance] def AY4:=JU.mk (P:=Tryz.prog) Tryz.underlying28
@[reducible,instance] def AY5:=JU.mk (P:=Tryz.prog) Tryz.underlying41
@[reducible,instance] def AY6:=JU.mk (P:=Tryz.prog) Tryz.underlying45
@[reducible,instance] def AY7:=JU.mk (P:=Tryz.prog) Tryz.underlying46
@[reducible,instance] def AY8:=JU.mk (P:=Tryz.prog) Tryz.underlying48
@[reducible,instance] def AY9:=JU.mk (P:=Tryz.prog) Tryz.underlying59
@[reducible,instance] def AYa:=JU.mk (P:=Tryz.prog) Tryz.underlying69
@[reducible,instance] def AYb:=JU.mk (P:=Tryz.prog) Tryz.underlying83
@[reducible,instance] def AWu:=JU.mk (P:=Tryz.prog) Tryz.underlying107
@[reducible,instance] def AWv:=JU.mk (P:=Tryz.prog) Tryz.underlying113
@[reducible,instance] def AWw:=JU.mk (P:=Tryz.prog) Tryz.underlying116
@[reducible,instance] def AWx:=JU.mk (P:=Tryz.prog) Tryz.underlying120
@[reducible,instance] def AWy:=JU.mk (P:=Tryz.prog) Tryz.underlying128
@[reducible,instance] def AWz:=JU.mk (P:=Tryz.prog) Tryz.underlying130
@[reducible,instance] def AX0:=JU.mk (P:=Tryz.prog) Tryz.underlying135
@[reducible,instance] def AX1:=JU.mk (P:=Tryz.prog) Tryz.underlying171
@[reducible,instance] def AX2:=JU.mk (P:=Tryz.prog) Tryz.underlying233
@[reducible,instance] def AX3:=JU.mk (P:=Tryz.prog) Tryz.underlying234
@[reducible,instance] def AX4:=JU.mk (P:=Tryz.prog) Tryz.underlying236
@[reducible,instance] def AX5:=JU.mk (P:=Tryz.prog) Tryz.underlying240
@[reducible,instance] def JZ3:=JZ.mk (P:=Tryz.prog) Tryz.zeroValue3
@[reducible,instance] def JZ4:=JZ.mk (P:=Tryz.prog) Tryz.zeroValue4
@[reducible,instance] def JZ5:=JZ.mk (P:=Tryz.prog) Tryz.zeroValue5
@[reducible,instance] def JZ9:=JZ.mk (P:=Tryz.prog) Tryz.zeroValue9
@[reducible,instance] def AYc:=JZ.mk (P:=Tryz.prog) Tryz.zeroValue23
@[reducible,instance] def AYd:=JZ.mk (P:=Tryz.prog) Tryz.zeroValue26
@[reducible,instance] def AYe:=JZ.mk (P:=Tryz.prog) Tryz.zeroValue27
@[reducible,instance] def AYf:=JZ.mk (P:=Tryz.prog) Tryz.zeroValue35
@[reducible,instance] def AYg:=JZ.mk (P:=Tryz.prog) Tryz.zeroValue41
@[reducible,instance] def AYh:=JZ.mk (P:=Tryz.prog) Tryz.zeroValue45
@[reducible,instance] def AYi:=JZ.mk (P:=Tryz.prog) Tryz.zeroValue48
@[reducible,instance] def AYj:=JZ.mk (P:=Tryz.prog) Tryz.zeroValue69
@[reducible,instance] def AYk:=JZ.mk (P:=Tryz.prog) Tryz.zeroValue83
@[reducible,instance] def AX6:=JZ.mk (P:=Tryz.prog) Tryz.zeroValue107
@[reducible,instance] def AX7:=JZ.mk (P:=Tryz.prog) Tryz.zeroValue113
@[reducible,instance] def AX8:=JZ.mk (P:=Tryz.prog) Tryz.zeroValue120
@[reducible,instance] def AX9:=JZ.mk (P:=Tryz.prog) Tryz.zeroValue130
@[reducible,instance] def AXa:=JZ.mk (P:=Tryz.prog) Tryz.zeroValue135
@[reducible,instance] def AXb:=JZ.mk (P:=Tryz.prog) Tryz.zeroValue171
@[reducible,instance] def AXc:=JZ.mk (P:=Tryz.prog) Tryz.zeroValue236
end Go.SX.Nb
