/- On the way (part 4). -/
import Derived.Test.YtejjpdbfdmdgpaaGreatDoorProg
import Derived.Test.YtejjpdbfdmdgpaaGreatDoorImageForthCardSaidPart3
set_option linter.all false
namespace Go.SX.Nb
open Go Go.SX Go.Proofs
structure Hk (q:Prop):Prop where h:q
variable {p q:Prop}
theorem Z0(k:q)(h:Hk q→p:=by intro qk;refine A4 ?_;refine A4 ?_;exact qk.h):p:=h ⟨k⟩
theorem Z1(k:q)(h:Hk q→p:=by intro qk;refine Eb ?_;refine Z0 ?_;exact qk.h):p:=h ⟨k⟩
theorem Z2(k:q)(h:Hk q→p:=by intro qk;refine Eb ?_;refine A4 ?_;exact qk.h):p:=h ⟨k⟩
theorem Z3(k:q)(h:Hk q→p:=by intro qk;refine A2 [2] ?_;refine Dc ?_;exact qk.h):p:=h ⟨k⟩
theorem Z4(k:q)(h:Hk q→p:=by intro qk;refine Jy ?_;refine Er ?_;exact qk.h):p:=h ⟨k⟩
theorem Z6(k:q)(h:Hk q→p:=by intro qk;refine Mf ?_;refine F9 ?_;exact qk.h):p:=h ⟨k⟩
theorem Z7(k:q)(h:Hk q→p:=by intro qk;refine Bd ?_;refine Bd ?_;exact qk.h):p:=h ⟨k⟩
theorem Z8(k:q)(h:Hk q→p:=by intro qk;refine Mh ?_;refine Z1 ?_;exact qk.h):p:=h ⟨k⟩
theorem Z9(k:q)(h:Hk q→p:=by intro qk;refine Gd ?_;refine A4 ?_;exact qk.h):p:=h ⟨k⟩
theorem Z10(k:q)(h:Hk q→p:=by intro qk;refine Z0 ?_;refine A4 ?_;exact qk.h):p:=h ⟨k⟩
theorem Z11(k:q)(h:Hk q→p:=by intro qk;refine L3 ?_;refine Er ?_;exact qk.h):p:=h ⟨k⟩
theorem Z12(k:q)(h:Hk q→p:=by intro qk;refine Ak ?_;refine Ak ?_;exact qk.h):p:=h ⟨k⟩
theorem Z13(k:q)(h:Hk q→p:=by intro qk;refine Dc ?_;refine F9 ?_;exact qk.h):p:=h ⟨k⟩
theorem Z16(k:q)(h:Hk q→p:=by intro qk;refine Gd ?_;refine Z3 ?_;exact qk.h):p:=h ⟨k⟩
theorem Z17(k:q)(h:Hk q→p:=by intro qk;refine Jy ?_;refine Z11 ?_;exact qk.h):p:=h ⟨k⟩
theorem Z18(k:q)(h:Hk q→p:=by intro qk;refine Mh ?_;refine Mi ?_;exact qk.h):p:=h ⟨k⟩
theorem Z19(k:q)(h:Hk q→p:=by intro qk;refine Z1 ?_;refine A4 ?_;exact qk.h):p:=h ⟨k⟩
theorem Z20(k:q)(h:Hk q→p:=by intro qk;refine Mj ?_;refine Gd ?_;exact qk.h):p:=h ⟨k⟩
theorem Z21(k:q)(h:Hk q→p:=by intro qk;refine Dc ?_;refine Z6 ?_;exact qk.h):p:=h ⟨k⟩
theorem Z23(k:q)(h:Hk q→p:=by intro qk;refine Ix ?_;refine Z10 ?_;exact qk.h):p:=h ⟨k⟩
theorem Z24(h:p:=by refine Z21 ?_;exact zf):p:=h
theorem Z25(k:q)(h:Hk q→p:=by intro qk;refine Z1 ?_;refine Z0 ?_;exact qk.h):p:=h ⟨k⟩
theorem Z26(k:q)(h:Hk q→p:=by intro qk;refine K.lpE ?_;refine Er ?_;exact qk.h):p:=h ⟨k⟩
theorem Z27(k:q)(h:Hk q→p:=by intro qk;refine Z9 ?_;refine A2 [6,7] ?_;exact qk.h):p:=h ⟨k⟩
theorem Z28(k:q)(h:Hk q→p:=by intro qk;refine Z2 ?_;refine Z3 ?_;exact qk.h):p:=h ⟨k⟩
theorem Z29(k:q)(h:Hk q→p:=by intro qk;refine Mh ?_;refine Z2 ?_;exact qk.h):p:=h ⟨k⟩
theorem Z30(k:q)(h:Hk q→p:=by intro qk;refine Mg ?_;refine F9 ?_;exact qk.h):p:=h ⟨k⟩
theorem Z31(k:q)(h:Hk q→p:=by intro qk;refine Ix ?_;refine Z0 ?_;exact qk.h):p:=h ⟨k⟩
theorem Z32(k:q)(h:Hk q→p:=by intro qk;refine AW.exit ?_;refine K.thE ?_;exact qk.h):p:=h ⟨k⟩
theorem Z33(k:q)(h:Hk q→p:=by intro qk;refine Z8 ?_;refine A4 ?_;exact qk.h):p:=h ⟨k⟩
theorem Z34(k:q)(h:Hk q→p:=by intro qk;refine Eb ?_;refine cq ?_;exact qk.h):p:=h ⟨k⟩
theorem Z35(k:q)(h:Hk q→p:=by intro qk;refine Eb ?_;refine Rc ?_;refine ja ?_;exact qk.h):p:=h ⟨k⟩
theorem Z37(k:q)(h:Hk q→p:=by intro qk;refine Eb ?_;refine Mj ?_;exact qk.h):p:=h ⟨k⟩
theorem Z38(k:q)(h:Hk q→p:=by intro qk;refine Z0 ?_;refine Z7 ?_;exact qk.h):p:=h ⟨k⟩
theorem Z39(k:q)(h:Hk q→p:=by intro qk;refine A2 [4] ?_;refine Dc ?_;exact qk.h):p:=h ⟨k⟩
theorem Z40(k:q)(h:Hk q→p:=by intro qk;refine Z12 ?_;refine Ak ?_;exact qk.h):p:=h ⟨k⟩
theorem Z41(k:q)(h:Hk q→p:=by intro qk;refine Z9 ?_;refine A2 [4,5] ?_;exact qk.h):p:=h ⟨k⟩
theorem Z42(k:q)(h:Hk q→p:=by intro qk;refine Z4 ?_;refine Z18 ?_;exact qk.h):p:=h ⟨k⟩
theorem Z43(k:q)(h:Hk q→p:=by intro qk;refine Z35 ?_;refine Z16 ?_;exact qk.h):p:=h ⟨k⟩
theorem Z44(k:q)(h:Hk q→p:=by intro qk;refine Z32 ?_;refine Z26 ?_;exact qk.h):p:=h ⟨k⟩
theorem Z45(h:p:=by refine Dc ?_;exact zf):p:=h
theorem Z46(h:p:=by refine Z30 ?_;exact mf):p:=h
theorem Z48(k:q)(h:Hk q→p:=by intro qk;refine Z2 ?_;refine A2 [0] ?_;exact qk.h):p:=h ⟨k⟩
theorem Z49(k:q)(h:Hk q→p:=by intro qk;refine Z7 ?_;refine Bd ?_;exact qk.h):p:=h ⟨k⟩
theorem Z50(h:p:=by refine Z13 ?_;exact zf):p:=h
theorem Z51(k:q)(h:Hk q→p:=by intro qk;refine Ix ?_;refine A4 ?_;exact qk.h):p:=h ⟨k⟩
theorem Z52(k:q)(h:Hk q→p:=by intro qk;refine Z0 ?_;refine Z3 ?_;exact qk.h):p:=h ⟨k⟩
theorem Z53(k:q)(h:Hk q→p:=by intro qk;refine A4 ?_;refine Rc ?_;exact qk.h):p:=h ⟨k⟩
theorem Z54(k:q)(h:Hk q→p:=by intro qk;refine Z8 ?_;refine Z0 ?_;exact qk.h):p:=h ⟨k⟩
theorem Z55(h:p:=by refine Z13 ?_;exact AE1):p:=h
theorem Z56(k:q)(h:Hk q→p:=by intro qk;refine Eh ?_;refine Eh ?_;exact qk.h):p:=h ⟨k⟩
theorem Z57(h:p:=by refine Z13 ?_;exact mf):p:=h
theorem Z59(k:q)(h:Hk q→p:=by intro qk;refine Z0 ?_;refine Z10 ?_;exact qk.h):p:=h ⟨k⟩
theorem Z60(h:p:=by refine K.thJ ?_;exact B5 (by unfold Mu;first|(simp only [ht38,ht41,ht49,ht57,ht57,ht66,ht74,hk3,hk6,Da,C8,Fp,Ky,if_true,if_false,Af,↓reduceIte]<;>rfl)|(simp only [ht38,ht41,ht49,ht57,ht57,ht66,ht74,hk3,Da,C8,Fp,if_true,if_false,Af,↓reduceIte]<;>rfl)|(simp only [ht38,ht41,ht49,ht57,ht57,ht66,ht74,if_true,if_false,Af,↓reduceIte]<;>rfl))):p:=h
theorem Z61(k:q)(h:Hk q→p:=by intro qk;refine A4 ?_;refine A2 [6,7] ?_;exact qk.h):p:=h ⟨k⟩
theorem Z62(k:q)(h:Hk q→p:=by intro qk;refine Z2 ?_;refine A2 [0,1] ?_;exact qk.h):p:=h ⟨k⟩
theorem Z63(k:q)(h:Hk q→p:=by intro qk;refine A8 Tryz.call104 (ATz _ _) ?_;refine Z0 ?_;exact qk.h):p:=h ⟨k⟩
theorem Z64(k:q)(h:Hk q→p:=by intro qk;refine Z27 ?_;refine Z13 ?_;exact qk.h):p:=h ⟨k⟩
theorem Z65(h:p:=by refine Z6 ?_;exact AMi):p:=h
theorem Z66(h:p:=by refine Z6 ?_;exact A9 (Ah A7) ⟨by rw [hn];first|(simp only [ht22,ht25,ht33,ht41,ht41,hk3,hk6,Da,C8,Fp,Ky,if_true,if_false,Af,↓reduceIte]<;>rfl)|(simp only [ht22,ht25,ht33,ht41,ht41,hk3,Da,C8,Fp,if_true,if_false,Af,↓reduceIte]<;>rfl)|(simp only [ht22,ht25,ht33,ht41,ht41,if_true,if_false,Af,↓reduceIte]<;>rfl),rfl⟩):p:=h
theorem Z67(k:q)(h:Hk q→p:=by intro qk;refine Z37 ?_;refine A2 [0,2] ?_;exact qk.h):p:=h ⟨k⟩
theorem Z68(h:p:=by refine K.thJ ?_;exact B5 (by unfold Mu;first|(simp only [ht38,ht41,ht49,ht57,ht57,hk3,hk6,Da,C8,Fp,Ky,if_true,if_false,Af,↓reduceIte]<;>rfl)|(simp only [ht38,ht41,ht49,ht57,ht57,hk3,Da,C8,Fp,if_true,if_false,Af,↓reduceIte]<;>rfl)|(simp only [ht38,ht41,ht49,ht57,ht57,if_true,if_false,Af,↓reduceIte]<;>rfl))):p:=h
theorem Z69(h:p:=by refine Z6 ?_;exact AR2):p:=h
theorem Z70(k:q)(h:Hk q→p:=by intro qk;refine Z17 ?_;refine Z23 ?_;exact qk.h):p:=h ⟨k⟩
theorem Z71(h:p:=by refine Z28 ?_;refine Z6 ?_;exact A9 (Ah A7) ⟨by simp_all [Vt],rfl⟩):p:=h
theorem Z72(k:q)(h:Hk q→p:=by intro qk;refine Z0 ?_;refine Z0 ?_;exact qk.h):p:=h ⟨k⟩
theorem Z73(k:q)(h:Hk q→p:=by intro qk;refine Z6 ?_;refine Z30 ?_;exact qk.h):p:=h ⟨k⟩
theorem Z74(k:q)(h:Hk q→p:=by intro qk;refine Bd ?_;refine A4 ?_;exact qk.h):p:=h ⟨k⟩
theorem Z75(k:q)(h:Hk q→p:=by intro qk;refine Mh ?_;refine Eb ?_;exact qk.h):p:=h ⟨k⟩
theorem Z76(k:q)(h:Hk q→p:=by intro qk;refine A2 [4,5] ?_;refine Z21 ?_;exact qk.h):p:=h ⟨k⟩
theorem Z77(h:p:=by refine Z43 ?_;refine Z6 ?_;exact AR1):p:=h
theorem Z78(k:q)(h:Hk q→p:=by intro qk;refine A2 [4,5] ?_;refine Dc ?_;exact qk.h):p:=h ⟨k⟩
theorem Z79(k:q)(h:Hk q→p:=by intro qk;refine AQo ?_;refine Y.storeOwnT (u:=Hp.length) (n:=1) (t':=42) (cs:=[A5 0,A5 0,Ae []]) (cs':=[A5 (B9 ra).1.kind,A5 (B9 ra).1.n,Ae (B9 ra).1.s]) Tryz.sizeOf42 (fun B hT hF hB=>⟨rfl,by simp [hT 0 (by simp),hB],by simp [upd,hT 0 (by simp),hB],rfl⟩) ?_;exact qk.h):p:=h ⟨k⟩
theorem Z80(k:q)(h:Hk q→p:=by intro qk;refine S6 (places:=#[(0,1),(1,5)]) jU (fun w=>by simp) jZ ?_;refine Z20 ?_;exact qk.h):p:=h ⟨k⟩
theorem Z81(k:q)(h:Hk q→p:=by intro qk;refine Mj ?_;refine A4 ?_;exact qk.h):p:=h ⟨k⟩
theorem Z82(h:p:=by refine D.buildSlice jU jS jZ ?_;exact cu):p:=h
theorem Z83(k:q)(h:Hk q→p:=by intro qk;refine Z2 ?_;refine E2 Tryz.call259 ho (by simp) Dt (AF2 l S o _ (Ar ho) hi hll) ?_;exact qk.h):p:=h ⟨k⟩
theorem Z84(k:q)(h:Hk q→p:=by intro qk;refine Z11 ?_;refine Z23 ?_;exact qk.h):p:=h ⟨k⟩
theorem Z85(k:q)(h:Hk q→p:=by intro qk;refine Eb ?_;refine Rc ?_;exact qk.h):p:=h ⟨k⟩
theorem Z86(k:q)(h:Hk q→p:=by intro qk;refine A2 [4,5] ?_;refine Z13 ?_;exact qk.h):p:=h ⟨k⟩
theorem Z89(k:q)(h:Hk q→p:=by intro qk;refine Z12 ?_;refine J0 ?_;exact qk.h):p:=h ⟨k⟩
theorem Z90(k:q)(h:Hk q→p:=by intro qk;refine Z2 ?_;refine A2 [4] ?_;exact qk.h):p:=h ⟨k⟩
theorem Z91(k:q)(h:Hk q→p:=by intro qk;refine L3 ?_;refine K.thJ ?_;exact qk.h):p:=h ⟨k⟩
theorem Z92(k:q)(h:Hk q→p:=by intro qk;refine Ix ?_;refine R.moveT ?_;exact qk.h):p:=h ⟨k⟩
theorem Z93(k:q)(h:Hk q→p:=by intro qk;refine Z4 ?_;refine Z2 ?_;exact qk.h):p:=h ⟨k⟩
theorem Z94(h:p:=by refine F9 ?_;exact s8):p:=h
theorem Z95(h:p:=by refine Z12 ?_;exact cu):p:=h
theorem Z96(k:q)(h:Hk q→p:=by intro qk;refine Z7 ?_;refine A4 ?_;exact qk.h):p:=h ⟨k⟩
theorem Z97(k:q)(h:Hk q→p:=by intro qk;refine Eb ?_;refine R.freeze (k:=2) (n:=1) 5 1 [Bj ⟨y.name,(c.getD (Bn s c).toNat ⟨[],0⟩).kind⟩] hcc rfl rfl (p9 [⟨y.name,(c.getD (Bn s c).toNat ⟨[],0⟩).kind⟩]) (pc [⟨y.name,(c.getD (Bn s c).toNat ⟨[],0⟩).kind⟩]) (bh [⟨y.name,(c.getD (Bn s c).toNat ⟨[],0⟩).kind⟩]) ?_;exact qk.h):p:=h ⟨k⟩
theorem Z99(k:q)(h:Hk q→p:=by intro qk;refine Mi ?_;refine Z1 ?_;exact qk.h):p:=h ⟨k⟩
theorem Sd(k:q)(h:Hk q→p:=by intro qk;refine Ak ?_;refine J0 ?_;exact qk.h):p:=h ⟨k⟩
theorem Pv(k:q)(h:Hk q→p:=by intro qk;refine Z1 ?_;refine A2 [1] ?_;exact qk.h):p:=h ⟨k⟩
theorem Lq(k:q)(h:Hk q→p:=by intro qk;refine Z4 ?_;refine Z1 ?_;exact qk.h):p:=h ⟨k⟩
theorem AOe(h:p:=by refine F9 ?_;exact mf):p:=h
theorem Yp(h:p:=by refine Ak ?_;exact cu):p:=h
theorem Tp(k:q)(h:Hk q→p:=by intro qk;refine Z9 ?_;refine Ja ?_;exact qk.h):p:=h ⟨k⟩
theorem Nm(k:q)(h:Hk q→p:=by intro qk;refine Z17 ?_;refine Z31 ?_;exact qk.h):p:=h ⟨k⟩
theorem yq(h:p:=by refine Z39 ?_;exact mf):p:=h
theorem V4(h:p:=by refine Z41 ?_;exact Z24):p:=h
theorem lr(k:q)(h:Hk q→p:=by intro qk;refine A2 [6] ?_;refine Dc ?_;exact qk.h):p:=h ⟨k⟩
theorem Ra(h:p:=by refine Z43 ?_;refine Z6 ?_;exact AR0):p:=h
theorem ls(k:q)(h:Hk q→p:=by intro qk;refine Z7 ?_;refine Z52 ?_;exact qk.h):p:=h ⟨k⟩
theorem ALf(k:q)(h:Hk q→p:=by intro qk;refine R.nilTmp 6 3 false ?_;refine Z61 ?_;exact qk.h):p:=h ⟨k⟩
theorem X7(k:q)(h:Hk q→p:=by intro qk;refine Z1 ?_;refine A2 [2,18] ?_;exact qk.h):p:=h ⟨k⟩
theorem Tq(k:q)(h:Hk q→p:=by intro qk;refine Z21 ?_;refine Z30 ?_;exact qk.h):p:=h ⟨k⟩
theorem ALg(k:q)(h:Hk q→p:=by intro qk;refine Z10 ?_;refine Mj ?_;exact qk.h):p:=h ⟨k⟩
theorem Nn(k:q)(h:Hk q→p:=by intro qk;refine Z4 ?_;refine Z33 ?_;exact qk.h):p:=h ⟨k⟩
theorem No(k:q)(h:Hk q→p:=by intro qk;refine Z4 ?_;refine Z19 ?_;exact qk.h):p:=h ⟨k⟩
theorem Se(k:q)(h:Hk q→p:=by intro qk;refine Z4 ?_;refine Z29 ?_;exact qk.h):p:=h ⟨k⟩
theorem AH5(k:q)(h:Hk q→p:=by intro qk;refine Z0 ?_;refine A8 Tryz.call192 (AU0 _ _ _) ?_;exact qk.h):p:=h ⟨k⟩
theorem Oh(k:q)(h:Hk q→p:=by intro qk;refine Z8 ?_;refine Z10 ?_;exact qk.h):p:=h ⟨k⟩
theorem P8(k:q)(h:Hk q→p:=by intro qk;refine Z0 ?_;refine Bd ?_;exact qk.h):p:=h ⟨k⟩
theorem AD3(k:q)(h:Hk q→p:=by intro qk;refine Z12 ?_;refine Yl (k) jU Tryz.sizeOf88 hk ?_;exact qk.h):p:=h ⟨k⟩
theorem Yq(k:q)(h:Hk q→p:=by intro qk;refine A2 [11,12] ?_;refine Z91 ?_;refine B5 ?_;exact qk.h):p:=h ⟨k⟩
theorem X8(k:q)(h:Hk q→p:=by intro qk;refine Z1 ?_;refine A2 [13] ?_;exact qk.h):p:=h ⟨k⟩
theorem ALh(h:p:=by refine A2 [0,1,7,8] ?_;exact Ay (x+1) ⟨hlt,C1 hlt hx.2 ht16⟩ (by omega) (Bh rfl)):p:=h
theorem cn(k:q)(h:Hk q→p:=by intro qk;refine Z1 ?_;refine A2 [2,3,9] ?_;exact qk.h):p:=h ⟨k⟩
theorem ALi(h:p:=by refine F9 ?_;exact AQr):p:=h
theorem Yr(k:q)(h:Hk q→p:=by intro qk;refine A2 [] ?_;refine L3 ?_;exact qk.h):p:=h ⟨k⟩
theorem yr(k:q)(h:Hk q→p:=by intro qk;refine Z64 ?_;refine F9 ?_;exact qk.h):p:=h ⟨k⟩
theorem ALj(h:p:=by refine Z6 ?_;exact AQp):p:=h
theorem AH6(h:p:=by refine Z39 ?_;exact me):p:=h
theorem X9(k:q)(h:Hk q→p:=by intro qk;refine Z18 ?_;refine Eb ?_;exact qk.h):p:=h ⟨k⟩
theorem Pw(k:q)(h:Hk q→p:=by intro qk;refine Z7 ?_;refine Z7 ?_;exact qk.h):p:=h ⟨k⟩
theorem Xa(h:p:=by refine Z17 ?_;refine Z28 ?_;exact A9 (Ah A7) ⟨by simp_all [Vt],rfl⟩):p:=h
theorem Rb(k:q)(h:Hk q→p:=by intro qk;refine Z49 ?_;refine Z0 ?_;exact qk.h):p:=h ⟨k⟩
theorem Xb(h:p:=by refine Z17 ?_;refine Z35 ?_;refine Z16 ?_;exact AR1):p:=h
theorem Sf(k:q)(h:Hk q→p:=by intro qk;refine Z42 ?_;refine Z1 ?_;exact qk.h):p:=h ⟨k⟩
theorem re(k:q)(h:Hk q→p:=by intro qk;refine Gd ?_;refine Ja ?_;exact qk.h):p:=h ⟨k⟩
theorem ALk(k:q)(h:Hk q→p:=by intro qk;refine Z81 ?_;refine Gd ?_;exact qk.h):p:=h ⟨k⟩
theorem AOf(h:p:=by refine Dc ?_;exact A9 (B1 A7 A7) ⟨by rw [hm1],rfl⟩ (hlow:=by simpa using (Db (n:=Hp.length) (k:=3) (o:=false) (l:=(fwM c l row l.length).1)))):p:=h
theorem Tr(k:q)(h:Hk q→p:=by intro qk;refine Z12 ?_;refine Z12 ?_;exact qk.h):p:=h ⟨k⟩
theorem ALl(h:p:=by refine F9 ?_;exact zf):p:=h
theorem yt(k:q)(h:Hk q→p:=by intro qk;refine Z1 ?_;refine Ja ?_;exact qk.h):p:=h ⟨k⟩
theorem AD4(h:p:=by refine Z16 ?_;exact A9 (Ah (B8 jA jS))):p:=h
theorem ALm(h:p:=by refine Z39 ?_;exact A9 (Ah A7) ⟨by rw [uo (Il hxe hx.2)],rfl⟩):p:=h
theorem Ts(k:q)(h:Hk q→p:=by intro qk;refine Z18 ?_;refine Z2 ?_;exact qk.h):p:=h ⟨k⟩
theorem AOg(k:q)(h:Hk q→p:=by intro qk;refine Eb ?_;refine R.freeze (k:=2) (n:=1) 5 1 [Bj ⟨y.name,y.kind⟩] hcc rfl rfl (p9 [⟨y.name,y.kind⟩]) (pc [⟨y.name,y.kind⟩]) (bh [⟨y.name,y.kind⟩]) ?_;exact qk.h):p:=h ⟨k⟩
theorem co(k:q)(h:Hk q→p:=by intro qk;refine Z28 ?_;refine Z73 ?_;exact qk.h):p:=h ⟨k⟩
theorem ALn(k:q)(h:Hk q→p:=by intro qk;refine Eb ?_;refine zd ?_;exact qk.h):p:=h ⟨k⟩
theorem AOh(h:p:=by refine Z3 ?_;exact A9 (Ah A7) ⟨rfl,rfl⟩ (hlow:=by simp [or_imp,forall_and];exact ⟨fun m _ a _=>B7 _ a,fun m _ a _=>B7 _ a⟩)):p:=h
theorem lu(k:q)(h:Hk q→p:=by intro qk;refine Z20 ?_;refine A2 [0,2,3] ?_;exact qk.h):p:=h ⟨k⟩
theorem V5(k:q)(h:Hk q→p:=by intro qk;refine Z49 ?_;refine Z38 ?_;exact qk.h):p:=h ⟨k⟩
theorem ALo(h:p:=by refine Tq ?_;exact A9 (Ah A7) ⟨by rw [AGa hlt ht16 hx.2],rfl⟩):p:=h
theorem Xc(k:q)(h:Hk q→p:=by intro qk;refine A4 ?_;refine Z20 ?_;exact qk.h):p:=h ⟨k⟩
theorem AOi(h:p:=by refine A2 [0,1,2,10,11] ?_;exact Ay (i+1) hli (by omega) (Bh (by simp only [hst,C5,C6,Ee]<;>rfl))):p:=h
theorem Sg(k:q)(h:Hk q→p:=by intro qk;refine Z4 ?_;refine Z8 ?_;exact qk.h):p:=h ⟨k⟩
theorem rf(h:p:=by refine Z6 ?_;exact Z46):p:=h
theorem Tt(k:q)(h:Hk q→p:=by intro qk;refine Z26 ?_;refine Z2 ?_;exact qk.h):p:=h ⟨k⟩
theorem cp(k:q)(h:Hk q→p:=by intro qk;refine Eb ?_;refine Z63 ?_;exact qk.h):p:=h ⟨k⟩
theorem ALp(k:q)(h:Hk q→p:=by intro qk;refine zd ?_;refine Z16 ?_;exact qk.h):p:=h ⟨k⟩
theorem Xd(k:q)(h:Hk q→p:=by intro qk;refine Z42 ?_;refine Z19 ?_;exact qk.h):p:=h ⟨k⟩
theorem AH7(k:q)(h:Hk q→p:=by intro qk;refine A4 ?_;refine AHu ?_;exact qk.h):p:=h ⟨k⟩
theorem ALq(h:p:=by refine Z39 ?_;exact A9 (Ah A7) ⟨by rw [←ABa];try rfl,rfl⟩):p:=h
theorem j4(k:q)(h:Hk q→p:=by intro qk;refine A2 [6] ?_;refine Z13 ?_;exact qk.h):p:=h ⟨k⟩
theorem ALr(k:q)(h:Hk q→p:=by intro qk;refine Cb [0,0,2,6,14,31,63,63,255,511] 8 Ai (by kernel_rfl) ?_;refine Z40 ?_;exact qk.h):p:=h ⟨k⟩
theorem AH8(h:p:=by refine Z91 ?_;exact B5 (by rw [e]<;>rfl)):p:=h
theorem ALs(k:q)(h:Hk q→p:=by intro qk;refine cq ?_;refine Z64 ?_;exact qk.h):p:=h ⟨k⟩
theorem Ys(k:q)(h:Hk q→p:=by intro qk;refine Z2 ?_;refine Sa 6 2 ?_;refine Z61 ?_;exact qk.h):p:=h ⟨k⟩
theorem ALt(k:q)(h:Hk q→p:=by intro qk;refine cq ?_;refine Z27 ?_;exact qk.h):p:=h ⟨k⟩
theorem ALu(k:q)(h:Hk q→p:=by intro qk;refine Cb [0,0,3,7,0,0,48,112,255] 8 Ai (by kernel_rfl) ?_;refine Z12 ?_;exact qk.h):p:=h ⟨k⟩
theorem ALv(h:p:=by refine co ?_;exact s8):p:=h
theorem ALw(k:q)(h:Hk q→p:=by intro qk;refine Z2 ?_;refine cq ?_;exact qk.h):p:=h ⟨k⟩
theorem ALx(k:q)(h:Hk q→p:=by intro qk;refine R.nilTmp 4 2 false ?_;refine A4 ?_;exact qk.h):p:=h ⟨k⟩
theorem Yt(k:q)(h:Hk q→p:=by intro qk;refine Z49 ?_;refine A4 ?_;exact qk.h):p:=h ⟨k⟩
theorem AOj(k:q)(h:Hk q→p:=by intro qk;refine Gx (tn:=[9,10]) (O:=[.cells 42 [A5 0,A5 0,Ae []],.cells 42 [A5 (B9 ra).1.kind,A5 (B9 ra).1.n,Ae (B9 ra).1.s]]) ?_;refine A4 ?_;exact qk.h):p:=h ⟨k⟩
theorem lv(k:q)(h:Hk q→p:=by intro qk;refine Z1 ?_;refine A2 [0,1] ?_;exact qk.h):p:=h ⟨k⟩
theorem Yu(k:q)(h:Hk q→p:=by intro qk;refine ALg ?_;refine Z9 ?_;exact qk.h):p:=h ⟨k⟩
theorem AOk(h:p:=by refine Z73 ?_;exact AMj):p:=h
theorem AD5(h:p:=by refine Z52 ?_;exact me):p:=h
theorem AOl(h:p:=by refine Dc ?_;exact AMj):p:=h
theorem ALy(k:q)(h:Hk q→p:=by intro qk;refine Z10 ?_;refine A8 Tryz.call32 (hev (x.kids.getD 1 At) (R8 hk1) _) ?_;exact qk.h):p:=h ⟨k⟩
theorem Xe(k:q)(h:Hk q→p:=by intro qk;refine Z44 ?_;refine Z2 ?_;exact qk.h):p:=h ⟨k⟩
theorem ALz(h:p:=by refine Z13 ?_;exact A9 (B1 A7 A7) ⟨by rw [hw],rfl⟩):p:=h
theorem AM0(h:p:=by refine Z86 ?_;exact AMf):p:=h
theorem AM1(h:p:=by refine Z78 ?_;exact AMk):p:=h
theorem lw(k:q)(h:Hk q→p:=by intro qk;refine Z0 ?_;refine Z27 ?_;exact qk.h):p:=h ⟨k⟩
theorem rg(k:q)(h:Hk q→p:=by intro qk;refine Z70 ?_;refine Oi ?_;exact qk.h):p:=h ⟨k⟩
theorem lx(k:q)(h:Hk q→p:=by intro qk;refine Z85 ?_;refine Lr ?_;exact qk.h):p:=h ⟨k⟩
theorem AOm(h:p:=by refine A2 [] ?_;exact Gp .nores (hp:=⟨xg m x,k,by unfold X0;rw [hT];rfl,rfl,by exact ABn⟩)):p:=h
theorem rh(k:q)(h:Hk q→p:=by intro qk;refine Z19 ?_;refine A2 [6,7] ?_;exact qk.h):p:=h ⟨k⟩
theorem Yv(k:q)(h:Hk q→p:=by intro qk;refine Z4 ?_;refine Z25 ?_;exact qk.h):p:=h ⟨k⟩
theorem AH9(h:p:=by refine Z40 ?_;exact cu):p:=h
theorem ri(k:q)(h:Hk q→p:=by intro qk;refine Z1 ?_;refine Oi ?_;exact qk.h):p:=h ⟨k⟩
theorem AD6(k:q)(h:Hk q→p:=by intro qk;refine A2 [0,1,5,7,8] ?_;refine Z19 ?_;exact qk.h):p:=h ⟨k⟩
theorem AOn(h:p:=by refine Z39 ?_;exact A9 (Ah A7) ⟨by rw [se (Ml (by simp at ht9;omega) hx.2)],rfl⟩):p:=h
theorem j5(k:q)(h:Hk q→p:=by intro qk;refine Z38 ?_;refine Bd ?_;exact qk.h):p:=h ⟨k⟩
theorem AD7(k:q)(h:Hk q→p:=by intro qk;refine cr ?_;refine Dc ?_;exact qk.h):p:=h ⟨k⟩
theorem AOo(h:p:=by refine jb ?_;exact Ay (x+1) hlt (by omega) (by simp only [em];exact Bh rfl)):p:=h
theorem rj(h:p:=by refine Z90 ?_;exact Z57):p:=h
theorem j6(k:q)(h:Hk q→p:=by intro qk;refine Z11 ?_;refine Z31 ?_;exact qk.h):p:=h ⟨k⟩
theorem yu(k:q)(h:Hk q→p:=by intro qk;refine Z1 ?_;refine A2 [0,1,2] ?_;exact qk.h):p:=h ⟨k⟩
theorem AD8(k:q)(h:Hk q→p:=by intro qk;refine Z2 ?_;refine A2 [0,1,7,8,9] ?_;exact qk.h):p:=h ⟨k⟩
theorem rk(k:q)(h:Hk q→p:=by intro qk;refine Eb ?_;refine R.box ?_;exact qk.h):p:=h ⟨k⟩
theorem AOq(h:p:=by refine Z16 ?_;exact A9 (Ah (B8 jA jS)) ⟨by simp only [az,hm]<;>simp_all,rfl⟩):p:=h
theorem yw(k:q)(h:Hk q→p:=by intro qk;refine Se ?_;refine Oi ?_;exact qk.h):p:=h ⟨k⟩
theorem AD9(k:q)(h:Hk q→p:=by intro qk;refine cr ?_;refine Z21 ?_;exact qk.h):p:=h ⟨k⟩
theorem AOr(h:p:=by refine Ay (x+1) ⟨hlt,C1 hlt hx.2 ht19⟩ (by omega) ?_;exact Bh (by simp)):p:=h
theorem rl(h:p:=by refine Z41 ?_;exact Z45):p:=h
theorem AOs(h:p:=by refine D.build (places:=#[(0,1),(1,1)]) jU (fun w=>by simp) jZ ?_;exact cu):p:=h
theorem AM2(h:p:=by refine ls ?_;exact Z69):p:=h
theorem AOt(h:p:=by refine F9 ?_;exact AMi):p:=h
theorem lz(k:q)(h:Hk q→p:=by intro qk;refine Z2 ?_;refine yr ?_;exact qk.h):p:=h ⟨k⟩
theorem ADa(k:q)(h:Hk q→p:=by intro qk;refine Z33 ?_;refine A2 [0,1,7,8] ?_;exact qk.h):p:=h ⟨k⟩
theorem j7(k:q)(h:Hk q→p:=by intro qk;refine Z48 ?_;refine Z33 ?_;exact qk.h):p:=h ⟨k⟩
theorem yx(k:q)(h:Hk q→p:=by intro qk;refine Z19 ?_;refine Ja ?_;exact qk.h):p:=h ⟨k⟩
theorem AM3(k:q)(h:Hk q→p:=by intro qk;refine Z2 ?_;refine A8 Tryz.call275 (ARe l S o _ (Ar ho) hi) ?_;exact qk.h):p:=h ⟨k⟩
theorem AM4(k:q)(h:Hk q→p:=by intro qk;refine A4 ?_;refine A8 Tryz.call151 (bg (ks.getD 0 0) 1 _) ?_;exact qk.h):p:=h ⟨k⟩
theorem AM5(k:q)(h:Hk q→p:=by intro qk;refine A4 ?_;refine A8 Tryz.call151 (bg (ks.getD 0 0) 2 _) ?_;exact qk.h):p:=h ⟨k⟩
theorem m8(k:q)(h:Hk q→p:=by intro qk;refine Z19 ?_;refine ls ?_;exact qk.h):p:=h ⟨k⟩
theorem m9(k:q)(h:Hk q→p:=by intro qk;refine Z56 ?_;refine Eh ?_;exact qk.h):p:=h ⟨k⟩
theorem AOu(h:p:=by refine Z73 ?_;exact A9 (B1 A7 A7) ⟨by rw [tz hr hkn];try rfl,rfl⟩):p:=h
theorem AOv(h:p:=by refine Z28 ?_;exact AMi):p:=h
theorem ma(k:q)(h:Hk q→p:=by intro qk;refine Z1 ?_;refine ALf ?_;exact qk.h):p:=h ⟨k⟩
theorem AOw(h:p:=by refine ADu ?_;exact Ay (k+1) hk (by omega) (Bh rfl)):p:=h
theorem AM6(k:q)(h:Hk q→p:=by intro qk;refine Z2 ?_;refine A8 Tryz.call64 (c64 L i o _ (Ar ho) hi) ?_;exact qk.h):p:=h ⟨k⟩
theorem AOx(h:p:=by refine Dc ?_;exact AR3):p:=h
theorem yy(h:p:=by refine Z25 ?_;refine Z76 ?_;exact AQj):p:=h
theorem yz(h:p:=by refine Z41 ?_;exact Z50):p:=h
theorem AOy(h:p:=by refine Z6 ?_;exact zf):p:=h
theorem j8(k:q)(h:Hk q→p:=by intro qk;refine Z1 ?_;refine Z3 ?_;exact qk.h):p:=h ⟨k⟩
theorem AOz(h:p:=by refine Z13 ?_;exact AR3):p:=h
theorem AP0(h:p:=by refine Z13 ?_;exact A9 (Ah A7) ⟨by rw [AR7 (by simpa using ht10)],rfl⟩):p:=h
theorem j9(k:q)(h:Hk q→p:=by intro qk;refine Z17 ?_;refine Z1 ?_;exact qk.h):p:=h ⟨k⟩
theorem z3(k:q)(h:Hk q→p:=by intro qk;refine Z1 ?_;refine A2 [4] ?_;exact qk.h):p:=h ⟨k⟩
theorem mb(k:q)(h:Hk q→p:=by intro qk;refine Z37 ?_;refine A4 ?_;exact qk.h):p:=h ⟨k⟩
theorem rm(k:q)(h:Hk q→p:=by intro qk;refine Z4 ?_;refine Eb ?_;exact qk.h):p:=h ⟨k⟩
theorem AP1(h:p:=by refine Z13 ?_;exact A9 (B1 A7 A7) ⟨by rw [AEw hr];try rfl,rfl⟩):p:=h
theorem AP2(k:q)(h:Hk q→p:=by intro qk;refine Ak ?_;refine AR4 ?_;exact qk.h):p:=h ⟨k⟩
theorem AP3(k:q)(h:Hk q→p:=by intro qk;refine AR4 ?_;refine Sd ?_;exact qk.h):p:=h ⟨k⟩
theorem rn(k:q)(h:Hk q→p:=by intro qk;refine A4 ?_;refine ALk ?_;exact qk.h):p:=h ⟨k⟩
theorem AM7(k:q)(h:Hk q→p:=by intro qk;refine Z4 ?_;refine Z92 ?_;exact qk.h):p:=h ⟨k⟩
theorem mc(k:q)(h:Hk q→p:=by intro qk;refine Z18 ?_;refine Z19 ?_;exact qk.h):p:=h ⟨k⟩
theorem rp(k:q)(h:Hk q→p:=by intro qk;refine Z32 ?_;refine K.lpE ?_;exact qk.h):p:=h ⟨k⟩
theorem md(k:q)(h:Hk q→p:=by intro qk;refine Z44 ?_;refine Z28 ?_;exact qk.h):p:=h ⟨k⟩
theorem ADb(k:q)(h:Hk q→p:=by intro qk;refine Gd ?_;refine lr ?_;exact qk.h):p:=h ⟨k⟩
theorem AM8(k:q)(h:Hk q→p:=by intro qk;refine A4 ?_;refine S9 (k) jU Tryz.sizeOf88 hk ?_;exact qk.h):p:=h ⟨k⟩
theorem AP4(h:p:=by refine Z30 ?_;exact AE1):p:=h
theorem AP5(h:p:=by refine Z73 ?_;exact AE1):p:=h
theorem AP6(h:p:=by refine Z28 ?_;exact AR2):p:=h
theorem AP7(h:p:=by refine Ay (x+1) ⟨hlt,hn⟩ (by omega) ?_;exact Bh (by simp)):p:=h
theorem AP8(k:q)(h:Hk q→p:=by intro qk;refine Cb [0,0,3,7,15,0,0,96,224,511,0,2047,4095] 11 Ai (by kernel_rfl) ?_;refine AD3 ?_;exact qk.h):p:=h ⟨k⟩
theorem rq(k:q)(h:Hk q→p:=by intro qk;refine Z89 ?_;refine A4 ?_;exact qk.h):p:=h ⟨k⟩
theorem AP9(h:p:=by refine Z76 ?_;exact AQq):p:=h
theorem ADc(k:q)(h:Hk q→p:=by intro qk;refine Z2 ?_;refine A2 [0,1,2] ?_;exact qk.h):p:=h ⟨k⟩
theorem APa(h:p:=by refine Z76 ?_;exact A9 (B1 A7 A7) ⟨by simp_all [Xh],rfl⟩):p:=h
theorem ADd(h:p:=by refine Z28 ?_;exact AOe):p:=h
theorem APb(h:p:=by refine Z39 ?_;exact A9 (Ah A7) ⟨by rw [AJu h3]<;>rfl,rfl⟩):p:=h
theorem APc(k:q)(h:Hk q→p:=by intro qk;refine Y.buildSlice jU Tryz.sizeOf9 Tryz.zeroValue9 ?_;refine Gx (tn:=[2]) (U:=U2 L Hp o om j (mvO m)) ?_;exact qk.h):p:=h ⟨k⟩
theorem APd(h:p:=by refine Z21 ?_;exact AE1):p:=h
theorem AM9(k:q)(h:Hk q→p:=by intro qk;refine Rc ?_;refine Rc ?_;exact qk.h):p:=h ⟨k⟩
theorem APe(h:p:=by refine Z16 ?_;exact A9 (Ah (B8 jA jS)) ⟨by simp [ht5],rfl⟩):p:=h
theorem APf(k:q)(h:Hk q→p:=by intro qk;refine Z19 ?_;refine E2 Tryz.call215 ho (by simp) Dt (AA6 l S 8 (Aq l S.i).at_ o _ (Ar ho)) ?_;exact qk.h):p:=h ⟨k⟩
theorem ADe(h:p:=by refine Z12 ?_;exact Z95):p:=h
theorem APg(k:q)(h:Hk q→p:=by intro qk;refine zd ?_;refine Gd ?_;exact qk.h):p:=h ⟨k⟩
theorem ADf(k:q)(h:Hk q→p:=by intro qk;refine Z20 ?_;refine Gd ?_;exact qk.h):p:=h ⟨k⟩
theorem APh(h:p:=by refine Z78 ?_;exact AE1):p:=h
theorem APi(h:p:=by refine Z73 ?_;exact A9 (B1 A7 A7) ⟨by rw [hbad],rfl⟩):p:=h
theorem AHa(k:q)(h:Hk q→p:=by intro qk;refine Z59 ?_;refine A2 [0,1,2,8,9] ?_;exact qk.h):p:=h ⟨k⟩
theorem APj(h:p:=by refine Z30 ?_;exact A9 (Ah A7) ⟨by rw [hx.eq,hw],rfl⟩):p:=h
theorem APk(h:p:=by refine Z39 ?_;exact AQk):p:=h
theorem APl(k:q)(h:Hk q→p:=by intro qk;refine A8 Tryz.call56 (AUg _) ?_;refine S6 (places:=#[(0,1),(1,5)]) jU (fun w=>by simp) jZ ?_;exact qk.h):p:=h ⟨k⟩
theorem ADg(h:p:=by refine Z28 ?_;exact Z94):p:=h
theorem z4(k:q)(h:Hk q→p:=by intro qk;refine Z44 ?_;refine Eb ?_;exact qk.h):p:=h ⟨k⟩
theorem APm(h:p:=by refine Z73 ?_;exact A9 (B1 A7 A7) ⟨by rw [hkb],rfl⟩):p:=h
theorem ADh(h:p:=by refine Z44 ?_;refine Z28 ?_;exact mf):p:=h
theorem rr(k:q)(h:Hk q→p:=by intro qk;refine Z25 ?_;refine Bd ?_;exact qk.h):p:=h ⟨k⟩
theorem z6(k:q)(h:Hk q→p:=by intro qk;refine Z1 ?_;refine Z86 ?_;exact qk.h):p:=h ⟨k⟩
theorem APn(h:p:=by refine z6 ?_;exact AMk):p:=h
theorem APo(k:q)(h:Hk q→p:=by intro qk;refine Z93 ?_;refine A8 Tryz.call87 (c87 _ (rdL d).1 (Cq (hlow ht77) (by decide)) _) ?_;exact qk.h):p:=h ⟨k⟩
theorem ADi(k:q)(h:Hk q→p:=by intro qk;refine Z19 ?_;refine A2 [1,2] ?_;exact qk.h):p:=h ⟨k⟩
theorem APp(h:p:=by refine Z6 ?_;exact s8):p:=h
theorem APq(h:p:=by refine Z76 ?_;exact AMk):p:=h
theorem APr(h:p:=by refine Z52 ?_;exact s8):p:=h
theorem AMa(h:p:=by refine Z3 ?_;exact me):p:=h
theorem AHb(k:q)(h:Hk q→p:=by intro qk;refine cr ?_;refine Z13 ?_;exact qk.h):p:=h ⟨k⟩
theorem APs(k:q)(h:Hk q→p:=by intro qk;refine Cb [0,1,3,7,15,3,35,99,255,511,1023] 8 Ai (by kernel_rfl) ?_;refine Z12 ?_;exact qk.h):p:=h ⟨k⟩
theorem APt(k:q)(h:Hk q→p:=by intro qk;refine Cb [0,1,3,7,0,16,48,112,240,511,1023] 9 Ai (by kernel_rfl) ?_;refine Z12 ?_;exact qk.h):p:=h ⟨k⟩
theorem APu(k:q)(h:Hk q→p:=by intro qk;refine A8 Tryz.call52 (c52 _ _) ?_;refine Z27 ?_;refine Z21 ?_;exact qk.h):p:=h ⟨k⟩
theorem rt(k:q)(h:Hk q→p:=by intro qk;refine Z38 ?_;refine Z74 ?_;exact qk.h):p:=h ⟨k⟩
theorem APv(h:p:=by refine Z78 ?_;exact AMf):p:=h
theorem z7(k:q)(h:Hk q→p:=by intro qk;refine A4 ?_;refine Bd ?_;exact qk.h):p:=h ⟨k⟩
theorem z8(k:q)(h:Hk q→p:=by intro qk;refine Z40 ?_;refine J0 ?_;exact qk.h):p:=h ⟨k⟩
theorem ADj(k:q)(h:Hk q→p:=by intro qk;refine K1 ?_;refine A4 ?_;exact qk.h):p:=h ⟨k⟩
theorem ru(k:q)(h:Hk q→p:=by intro qk;refine Z42 ?_;refine Z2 ?_;exact qk.h):p:=h ⟨k⟩
theorem APw(k:q)(h:Hk q→p:=by intro qk;refine Z67 ?_;refine Cb [0,1,3,7,0,16,48,112,255,511,1023] 8 Ai (by kernel_rfl) ?_;exact qk.h):p:=h ⟨k⟩
theorem APx(h:p:=by refine Tq ?_;exact AMg):p:=h
theorem APy(h:p:=by refine Dd Tryz.call169 (ARz c l k0 ra ha _) ?_;exact AH9):p:=h
theorem rx(k:q)(h:Hk q→p:=by intro qk;refine Z48 ?_;refine Z29 ?_;exact qk.h):p:=h ⟨k⟩
theorem AMb(k:q)(h:Hk q→p:=by intro qk;refine Eb ?_;refine A8 Tryz.call143 (AT3 _) ?_;exact qk.h):p:=h ⟨k⟩
theorem APz(k:q)(h:Hk q→p:=by intro qk;refine Z1 ?_;refine zd ?_;exact qk.h):p:=h ⟨k⟩
theorem AHc(k:q)(h:Hk q→p:=by intro qk;refine Z37 ?_;refine A2 [0,1,2,6] ?_;exact qk.h):p:=h ⟨k⟩
theorem AHd(h:p:=by refine Z28 ?_;exact rf):p:=h
theorem ADk(k:q)(h:Hk q→p:=by intro qk;refine Jy ?_;refine L3 ?_;exact qk.h):p:=h ⟨k⟩
theorem AHe(h:p:=by refine yt ?_;refine Z13 ?_;exact AMj):p:=h
theorem AHf(h:p:=by refine Ak ?_;exact Z82):p:=h
theorem AQ0(h:p:=by refine lr ?_;exact mf):p:=h
theorem z9(k:q)(h:Hk q→p:=by intro qk;refine Z23 ?_;refine Z7 ?_;refine Z0 ?_;refine A2 [1,3,4,5] ?_;exact qk.h):p:=h ⟨k⟩
theorem AMc(h:p:=by refine Z38 ?_;exact AM2):p:=h
theorem AQ1(h:p:=by refine Bm Tryz.call112 (fun hB=>ARb e.text R0 hs (by decide) _) ?_;exact AMc):p:=h
theorem AHg(h:p:=by refine Z21 ?_;exact Z46):p:=h
theorem za(k:q)(h:Hk q→p:=by intro qk;refine AM7 ?_;refine Z53 ?_;exact qk.h):p:=h ⟨k⟩
theorem ry(k:q)(h:Hk q→p:=by intro qk;refine Z38 ?_;refine Z7 ?_;exact qk.h):p:=h ⟨k⟩
theorem AQ2(k:q)(h:Hk q→p:=by intro qk;refine A4 ?_;refine S9 ((i+k)) jU Tryz.sizeOf88 (by omega) (hm:=by omega) ?_;exact qk.h):p:=h ⟨k⟩
theorem AHh(h:p:=by refine AH5 ?_;refine lw ?_;refine Z21 ?_;exact AQm):p:=h
theorem AQ3(k:q)(h:Hk q→p:=by intro qk;refine ja ?_;refine Gd ?_;exact qk.h):p:=h ⟨k⟩
theorem AQ4(k:q)(h:Hk q→p:=by intro qk;refine Z72 ?_;refine S9 ((i+k)) jU Tryz.sizeOf88 (by omega) (hm:=by omega) ?_;exact qk.h):p:=h ⟨k⟩
theorem AHi(k:q)(h:Hk q→p:=by intro qk;refine Z1 ?_;refine A2 [2,3,18] ?_;exact qk.h):p:=h ⟨k⟩
theorem AHj(h:p:=by refine Z0 ?_;refine Z39 ?_;exact A9 (Ah A7) ⟨by first|(rw [hgy hf];rfl)|(rw [hgv hf];rfl),rfl⟩):p:=h
theorem ADl(k:q)(h:Hk q→p:=by intro qk;refine Z25 ?_;refine A2 [0] ?_;exact qk.h):p:=h ⟨k⟩
theorem AHk(k:q)(h:Hk q→p:=by intro qk;refine Z54 ?_;refine A2 [0,3,10] ?_;exact qk.h):p:=h ⟨k⟩
theorem AQ5(h:p:=by refine F9 ?_;exact A9 (Ah A7) ⟨rfl,rfl⟩):p:=h
theorem AQ6(h:p:=by refine Z3 ?_;exact A9 (Ah A7) ⟨by simp,rfl⟩):p:=h
theorem AMd(k:q)(h:Hk q→p:=by intro qk;refine A8 Tryz.call52 (c52 _ _) ?_;refine Z64 ?_;exact qk.h):p:=h ⟨k⟩
theorem AQ7(k:q)(h:Hk q→p:=by intro qk;refine Dd Tryz.call85 (AUf (rdL (d.take i)).1 10 hm2 (by decide) _) ?_;refine Sd ?_;exact qk.h):p:=h ⟨k⟩
theorem AHl(h:p:=by refine Z0 ?_;exact V4):p:=h
theorem AHm(h:p:=by refine Z17 ?_;refine Z43 ?_;exact AR0):p:=h
theorem AHn(h:p:=by refine Z1 ?_;refine ALx ?_;refine A2 [4,5] ?_;exact Z55):p:=h
theorem zb(k:q)(h:Hk q→p:=by intro qk;refine Z2 ?_;refine Z64 ?_;exact qk.h):p:=h ⟨k⟩
theorem AMe(k:q)(h:Hk q→p:=by intro qk;refine A4 ?_;refine A8 Tryz.call88 (c88 e _) ?_;exact qk.h):p:=h ⟨k⟩
theorem ADm(k:q)(h:Hk q→p:=by intro qk;refine APu ?_;refine F9 ?_;exact qk.h):p:=h ⟨k⟩
theorem ADn(k:q)(h:Hk q→p:=by intro qk;refine Z4 ?_;refine Mi ?_;exact qk.h):p:=h ⟨k⟩
theorem AHo(k:q)(h:Hk q→p:=by intro qk;refine A2 [3,9] ?_;refine Er ?_;exact qk.h):p:=h ⟨k⟩
theorem AHp(k:q)(h:Hk q→p:=by intro qk;refine Z81 ?_;refine Yx ?_;exact qk.h):p:=h ⟨k⟩
theorem AHq(k:q)(h:Hk q→p:=by intro qk;refine A2 [0,3,5] ?_;refine Z33 ?_;exact qk.h):p:=h ⟨k⟩
theorem AHr(k:q)(h:Hk q→p:=by intro qk;refine A4 ?_;refine Gd ?_;exact qk.h):p:=h ⟨k⟩
theorem AHs(h:p:=by refine Z0 ?_;exact AH6):p:=h
theorem AQ8(h:p:=by refine A8 Tryz.call145 (zm _ _) ?_;exact V4):p:=h
theorem AQ9(k:q)(h:Hk q→p:=by intro qk;refine Cb [0,0,0,7,15,15,63,127] 6 Ai (by kernel_rfl) ?_;refine Z12 ?_;exact qk.h):p:=h ⟨k⟩
theorem AQa(h:p:=by refine Z3 ?_;exact A9 (Ah A7) ⟨rfl,rfl⟩):p:=h
theorem zc(h:p:=by exact ⟨rfl,Below.refl _ _⟩):p:=h
theorem me(h:p:=by exact A9 (Ah A7)):p:=h
theorem Oi(k:q)(h:Hk q→p:=by intro qk;refine A2 [0,3] ?_;exact qk.h):p:=h ⟨k⟩
theorem Yw(k:q)(h:Hk q→p:=by intro qk;refine A2 [0,1,5] ?_;exact qk.h):p:=h ⟨k⟩
theorem AQb(h:p:=by exact h (y,j) (by rw [Mz];exact hj)):p:=h
theorem AQc(h:p:=by exact A9 (Ah A7) ⟨by simp [Cg,ht5],rfl⟩):p:=h
theorem AQd(h:p:=by exact A9 (Ah A7) ⟨by simp [Cg,ht5,ht16,ht22],rfl⟩):p:=h
theorem ADo(k:q)(h:Hk q→p:=by intro qk;refine A2 [0,1,5,7,8,16] ?_;exact qk.h):p:=h ⟨k⟩
theorem Ja(k:q)(h:Hk q→p:=by intro qk;refine A2 [2,3] ?_;exact qk.h):p:=h ⟨k⟩
theorem Gd(k:q)(h:Hk q→p:=by intro qk;refine Nf jS ?_;exact qk.h):p:=h ⟨k⟩
theorem cq(k:q)(h:Hk q→p:=by intro qk;refine S6 (places:=#[(0,1),(1,1),(2,1)]) jU (fun w=>by simp) jZ ?_;exact qk.h):p:=h ⟨k⟩
theorem AQe(h:p:=by exact A9 (Ah A7) ⟨by simp only [L4,hp,ht7,ht14,ht23,ht27,C9,Af,if_false,if_true];try rfl,rfl⟩):p:=h
theorem AQf(h:p:=by exact A9 (B1 (B8 jA jS) A7) ⟨by simp only [ml,ht17,if_true,if_false,Af];rfl,rfl⟩):p:=h
theorem Mi(k:q)(h:Hk q→p:=by intro qk;refine AW.block ?_;exact qk.h):p:=h ⟨k⟩
theorem Eb(k:q)(h:Hk q→p:=by intro qk;refine AW.seqR ?_;exact qk.h):p:=h ⟨k⟩
theorem AQg(h:p:=by exact A9 (Me A7 A7 A7 A7) ⟨by simp only [Sj,ht11,ht17,if_true,if_false,Af];try rfl,rfl⟩):p:=h
theorem AQh(h:p:=by exact A9 (Me A7 A7 A7 A7) ⟨by simp only [Zf,ht18,ht23,if_true,if_false,Af];try rfl,rfl⟩):p:=h
theorem AQi(h:p:=by exact A9 (Me A7 A7 A7 A7) ⟨by simp only [Cy,ht6,ht17,ht28,if_true,if_false,Af],rfl⟩):p:=h
theorem ADp(h:p:=by exact absurd h (by decide)):p:=h
theorem rz(h:p:=by exact An _):p:=h
theorem Mj(k:q)(h:Hk q→p:=by intro qk;refine R.alloc jZ ?_;exact qk.h):p:=h ⟨k⟩
theorem AHt(k:q)(h:Hk q→p:=by intro qk;refine K.rdN (vl hL (Cv (by decide)) (Cv (by decide))) ?_;exact qk.h):p:=h ⟨k⟩
theorem Rc(k:q)(h:Hk q→p:=by intro qk;refine R.buildSlice jU jS jZ ?_;exact qk.h):p:=h ⟨k⟩
theorem ja(k:q)(h:Hk q→p:=by intro qk;refine S6 (places:=#[(0,1),(1,1)]) jU (fun w=>by simp) jZ ?_;exact qk.h):p:=h ⟨k⟩
theorem ADq(h:p:=by exact ⟨hFRl,by simp [oid]⟩):p:=h
theorem ADr(h:p:=by exact Ol (fun x hx=>ObjLow.le (by omega) (hlow x hx)) hOl x hx):p:=h
theorem cr(k:q)(h:Hk q→p:=by intro qk;refine A2 [2,3,4,5] ?_;exact qk.h):p:=h ⟨k⟩
theorem ADs(k:q)(h:Hk q→p:=by intro qk;refine Ay (x+1) hlt (by omega) ?_;exact qk.h):p:=h ⟨k⟩
theorem s6(k:q)(h:Hk q→p:=by intro qk;refine A2 [0,1,2,8] ?_;exact qk.h):p:=h ⟨k⟩
theorem Lr(k:q)(h:Hk q→p:=by intro qk;refine R.assignT ?_;exact qk.h):p:=h ⟨k⟩
theorem zd(k:q)(h:Hk q→p:=by intro qk;refine S6 (places:=#[(0,1),(1,1),(2,3),(5,1)]) jU (fun w=>by simp) jZ ?_;exact qk.h):p:=h ⟨k⟩
theorem jb(k:q)(h:Hk q→p:=by intro qk;refine A2 [1,3,4] ?_;exact qk.h):p:=h ⟨k⟩
theorem ct(h:p:=by exact au _):p:=h
theorem AQj(h:p:=by exact A9 (B1 A7 A7) ⟨by simp_all [Fc],rfl⟩):p:=h
theorem mf(h:p:=by exact A9 (Ah A7) ⟨by rw [hm],rfl⟩):p:=h
theorem Yx(k:q)(h:Hk q→p:=by intro qk;refine A2 [2,3,4] ?_;exact qk.h):p:=h ⟨k⟩
theorem AHu(k:q)(h:Hk q→p:=by intro qk;refine S9 (0) jU Tryz.sizeOf88 (by decide) ?_;exact qk.h):p:=h ⟨k⟩
theorem ADt(k:q)(h:Hk q→p:=by intro qk;refine S9 (1) jU Tryz.sizeOf88 (by decide) ?_;exact qk.h):p:=h ⟨k⟩
theorem AQk(h:p:=by exact A9 (Ah (B8 jA jS)) ⟨by rw [had],rfl⟩):p:=h
theorem ADu(k:q)(h:Hk q→p:=by intro qk;refine A2 [2,3,4,5,9,10] ?_;exact qk.h):p:=h ⟨k⟩
theorem ADv(k:q)(h:Hk q→p:=by intro qk;refine A2 [2,3,4,5,6,7,8] ?_;exact qk.h):p:=h ⟨k⟩
theorem AHv(k:q)(h:Hk q→p:=by intro qk;refine A2 [2,3,4,5,6,7,8,9,10] ?_;exact qk.h):p:=h ⟨k⟩
theorem AQl(h:p:=by exact A9 (Ah (B8 jA jS)) ⟨by rw [hb];rfl,rfl⟩):p:=h
theorem cu(h:p:=by exact D.end rfl rfl):p:=h
theorem cv(k:q)(h:Hk q→p:=by intro qk;refine A2 [0,4,5,6,7,8,9] ?_;exact qk.h):p:=h ⟨k⟩
theorem V6(h:p:=by exact ob _):p:=h
theorem V7(h:p:=by exact b9 _):p:=h
theorem AQm(h:p:=by exact A9 (B1 (B8 Tryz.isAgg42 Tryz.sizeOf42) A7) ⟨by simp_all [Eu],rfl⟩):p:=h
theorem s7(k:q)(h:Hk q→p:=by intro qk;refine R.buildSl jU jS jZ ?_;exact qk.h):p:=h ⟨k⟩
theorem AQn(h:p:=by exact A9 (Ah (B8 jA jS)) ⟨by rw [hm];try rfl,rfl⟩):p:=h
theorem AQo(k:q)(h:Hk q→p:=by intro qk;refine Y.alloc (zs:=[A5 0,A5 0,Ae []]) (n:=1) (u:=Hp.length) Tryz.zeroValue42 (fun B hT hF hB=>⟨rfl,by simp [hB],by simp [upd,hB,hF 1 (by simp)],rfl⟩) ?_;exact qk.h):p:=h ⟨k⟩
theorem AQp(h:p:=by exact A9 (Ah (B8 Tryz.isAgg187 Tryz.sizeOf187)) ⟨by simp_all [Js],rfl⟩):p:=h
theorem AQq(h:p:=by exact A9 (B1 A7 A7) ⟨by simp_all [Gj],rfl⟩):p:=h
theorem ze(k:q)(h:Hk q→p:=by intro qk;refine A2 [2,6,13,14,15] ?_;exact qk.h):p:=h ⟨k⟩
theorem AMf(h:p:=by exact A9 (B1 A7 A7) ⟨by rw [hk],rfl⟩):p:=h
theorem AHw(h:p:=by exact A9 (B1 A7 A7) ⟨by rw [hk,hk2],rfl⟩):p:=h
theorem zf(h:p:=by exact A9 (B1 (B8 jA jS) A7) ⟨by rw [hm];try rfl,rfl⟩):p:=h
theorem AMg(h:p:=by exact A9 (Ah A7) ⟨by rw [hf],rfl⟩):p:=h
theorem zg(h:p:=by exact hcmp _ rfl rfl hf):p:=h
theorem ADw(h:p:=by exact har _ rfl rfl rfl hf):p:=h
theorem AQr(h:p:=by exact A9 (Ah (B8 jA jS)) ⟨by rw [e,Ax],by rw [e]⟩ (hlow:=low_agg _)):p:=h
theorem AQs(h:p:=by exact A9 (Ah A7) ⟨by rw [hm,hD]<;>rfl,rfl⟩):p:=h
theorem AQt(h:p:=by exact A9 (B1 A7 A7) ⟨by rw [hka,←hrf];unfold W5;first|rw [if_neg (by simpa using ht235)]|rw [if_pos (by simpa using ht235)],rfl⟩):p:=h
theorem AQu(h:p:=by exact A9 (Ah A7) ⟨by rw [hn];first|(simp only [ht22,ht25,ht33,ht41,ht41,ht50,ht58,hk3,hk6,Da,C8,Fp,Ky,if_true,if_false,Af,↓reduceIte]<;>rfl)|(simp only [ht22,ht25,ht33,ht41,ht41,ht50,ht58,hk3,Da,C8,Fp,if_true,if_false,Af,↓reduceIte]<;>rfl)|(simp only [ht22,ht25,ht33,ht41,ht41,ht50,ht58,if_true,if_false,Af,↓reduceIte]<;>rfl),rfl⟩):p:=h
theorem s8(h:p:=by exact A9 (Ah A7) ⟨by rw [hm]<;>rfl,rfl⟩):p:=h
theorem AQv(h:p:=by exact A9 (B1 A7 A7) ⟨by rw [hm],rfl⟩ (hlow:=by simp only [iq,Bu,Fi,or_false];rintro y (rfl|rfl);exact El;simp)):p:=h
theorem AMh(h:p:=by exact absurd h (by simpa using h1)):p:=h
theorem ADx(k:q)(h:Hk q→p:=by intro qk;refine A2 [1,3,6,10,12,27,28,29] ?_;exact qk.h):p:=h ⟨k⟩
theorem Jb(h:p:=by exact A9 (B1 (B8 jA jS) A7) ⟨by first|(rw [href];done)|(rw [href];rfl),rfl⟩):p:=h
theorem AQw(h:p:=by exact A9 (B1 A7 A7) ⟨by rw [hm2]<;>rfl,rfl⟩):p:=h
theorem AQx(h:p:=by exact ⟨i7 i,hl.step hi (by rw [hk];decide)⟩):p:=h
theorem s9(h:p:=by exact ⟨by omega,c2,c3⟩):p:=h
theorem ADy(h:p:=by exact (Dj hX (e)).elim):p:=h
theorem AQy(h:p:=by exact (Dj hX (by first|exact by unfold X0;rw [hT];rfl|exact hT)).elim):p:=h
theorem AQz(h:p:=by exact (ASh L i o _ (Ar (Fd ho hne)) hi hl hll).ok hT):p:=h
theorem ADz(k:q)(h:Hk q→p:=by intro qk;refine AW.upEq (Uo ho hm).symm ?_;exact qk.h):p:=h ⟨k⟩
theorem AE0(k:q)(h:Hk q→p:=by intro qk;refine A2 [0,8,9,11,13,17,18] ?_;exact qk.h):p:=h ⟨k⟩
theorem AHx(k:q)(h:Hk q→p:=by intro qk;refine A2 [0,8,9,11,13,17,18,19,20] ?_;exact qk.h):p:=h ⟨k⟩
theorem AR0(h:p:=by exact A9 (Ah (B8 jA jS)) ⟨by first|exact ANe (by simp_all [Dx])|exact AFw (by simp_all [Dx])|exact ANf (by simp_all [Dx]),rfl⟩):p:=h
theorem AR1(h:p:=by exact A9 (Ah (B8 jA jS)) ⟨by first|exact AFw (by simp_all [Dh]),rfl⟩):p:=h
theorem AE1(h:p:=by exact A9 (B1 A7 A7) ⟨by rw [hm]<;>rfl,rfl⟩):p:=h
theorem AMi(h:p:=by exact A9 (Ah A7) ⟨by simp_all [If,Nu,AA8],rfl⟩):p:=h
theorem AR2(h:p:=by exact A9 (Ah A7) ⟨by simp_all [E8,Nu],rfl⟩):p:=h
theorem AMj(h:p:=by exact A9 (B1 A7 A7) ⟨by first|rw [hgood]|rw [AJd hd hil ht52]|rw [AJc hd ht33],rfl⟩):p:=h
theorem AMk(h:p:=by exact A9 (B1 A7 A7) ⟨by rw [hm],rfl⟩):p:=h
theorem AR3(h:p:=by exact A9 (B1 (B8 jA jS) A7) ⟨by rw [hw];try rfl,rfl⟩):p:=h
theorem AR4(k:q)(h:Hk q→p:=by intro qk;refine r9 ((k-1)) jU Tryz.sizeOf88 (by omega) (hm:=by omega) (hoff:=Ua (by omega)) ?_;exact qk.h):p:=h ⟨k⟩
end Go.SX.Nb
namespace Go.SX.Nb
open Go Go.SX Go.Proofs
@[reducible,instance] def JA2:=JA.mk (P:=Tryz.prog) Tryz.isAgg2
@[reducible,instance] def JA3:=JA.mk (P:=Tryz.prog) Tryz.isAgg3
@[reducible,instance] def JA4:=JA.mk (P:=Tryz.prog) Tryz.isAgg4
@[reducible,instance] def JA9:=JA.mk (P:=Tryz.prog) Tryz.isAgg9
@[reducible,instance] def AW6:=JA.mk (P:=Tryz.prog) Tryz.isAgg22
@[reducible,instance] def AW7:=JA.mk (P:=Tryz.prog) Tryz.isAgg23
@[reducible,instance] def AW8:=JA.mk (P:=Tryz.prog) Tryz.isAgg24
@[reducible,instance] def AW9:=JA.mk (P:=Tryz.prog) Tryz.isAgg27
@[reducible,instance] def AWa:=JA.mk (P:=Tryz.prog) Tryz.isAgg30
@[reducible,instance] def AWb:=JA.mk (P:=Tryz.prog) Tryz.isAgg36
@[reducible,instance] def AWc:=JA.mk (P:=Tryz.prog) Tryz.isAgg38
@[reducible,instance] def AWd:=JA.mk (P:=Tryz.prog) Tryz.isAgg42
@[reducible,instance] def AWe:=JA.mk (P:=Tryz.prog) Tryz.isAgg51
@[reducible,instance] def AWf:=JA.mk (P:=Tryz.prog) Tryz.isAgg52
@[reducible,instance] def AWg:=JA.mk (P:=Tryz.prog) Tryz.isAgg54
@[reducible,instance] def AWh:=JA.mk (P:=Tryz.prog) Tryz.isAgg62
@[reducible,instance] def AWi:=JA.mk (P:=Tryz.prog) Tryz.isAgg65
@[reducible,instance] def AWj:=JA.mk (P:=Tryz.prog) Tryz.isAgg68
@[reducible,instance] def AWk:=JA.mk (P:=Tryz.prog) Tryz.isAgg88
@[reducible,instance] def AWl:=JA.mk (P:=Tryz.prog) Tryz.isAgg89
@[reducible,instance] def AWm:=JA.mk (P:=Tryz.prog) Tryz.isAgg91
@[reducible,instance] def AVl:=JA.mk (P:=Tryz.prog) Tryz.isAgg103
@[reducible,instance] def AVm:=JA.mk (P:=Tryz.prog) Tryz.isAgg132
@[reducible,instance] def AVn:=JA.mk (P:=Tryz.prog) Tryz.isAgg138
@[reducible,instance] def AVo:=JA.mk (P:=Tryz.prog) Tryz.isAgg163
@[reducible,instance] def AVp:=JA.mk (P:=Tryz.prog) Tryz.isAgg187
@[reducible,instance] def AVq:=JA.mk (P:=Tryz.prog) Tryz.isAgg207
@[reducible,instance] def JS2:=JS.mk (P:=Tryz.prog) Tryz.sizeOf2
@[reducible,instance] def JS3:=JS.mk (P:=Tryz.prog) Tryz.sizeOf3
@[reducible,instance] def JS4:=JS.mk (P:=Tryz.prog) Tryz.sizeOf4
@[reducible,instance] def JS5:=JS.mk (P:=Tryz.prog) Tryz.sizeOf5
@[reducible,instance] def JS9:=JS.mk (P:=Tryz.prog) Tryz.sizeOf9
@[reducible,instance] def AWn:=JS.mk (P:=Tryz.prog) Tryz.sizeOf22
@[reducible,instance] def AWo:=JS.mk (P:=Tryz.prog) Tryz.sizeOf23
@[reducible,instance] def AWp:=JS.mk (P:=Tryz.prog) Tryz.sizeOf24
@[reducible,instance] def AWq:=JS.mk (P:=Tryz.prog) Tryz.sizeOf27
@[reducible,instance] def AWr:=JS.mk (P:=Tryz.prog) Tryz.sizeOf30
@[reducible,instance] def AWs:=JS.mk (P:=Tryz.prog) Tryz.sizeOf36
@[reducible,instance] def AWt:=JS.mk (P:=Tryz.prog) Tryz.sizeOf38
@[reducible,instance] def AWu:=JS.mk (P:=Tryz.prog) Tryz.sizeOf42
@[reducible,instance] def AWv:=JS.mk (P:=Tryz.prog) Tryz.sizeOf51
@[reducible,instance] def AWw:=JS.mk (P:=Tryz.prog) Tryz.sizeOf52
@[reducible,instance] def AWx:=JS.mk (P:=Tryz.prog) Tryz.sizeOf54
@[reducible,instance] def AWy:=JS.mk (P:=Tryz.prog) Tryz.sizeOf62
@[reducible,instance] def AWz:=JS.mk (P:=Tryz.prog) Tryz.sizeOf65
@[reducible,instance] def AX0:=JS.mk (P:=Tryz.prog) Tryz.sizeOf88
@[reducible,instance] def AX1:=JS.mk (P:=Tryz.prog) Tryz.sizeOf89
@[reducible,instance] def AX2:=JS.mk (P:=Tryz.prog) Tryz.sizeOf91
@[reducible,instance] def AVr:=JS.mk (P:=Tryz.prog) Tryz.sizeOf103
@[reducible,instance] def AVs:=JS.mk (P:=Tryz.prog) Tryz.sizeOf138
@[reducible,instance] def AVt:=JS.mk (P:=Tryz.prog) Tryz.sizeOf163
@[reducible,instance] def AVu:=JS.mk (P:=Tryz.prog) Tryz.sizeOf187
@[reducible,instance] def JU2:=JU.mk (P:=Tryz.prog) Tryz.underlying2
@[reducible,instance] def JU3:=JU.mk (P:=Tryz.prog) Tryz.underlying3
@[reducible,instance] def JU4:=JU.mk (P:=Tryz.prog) Tryz.underlying4
@[reducible,instance] def JU5:=JU.mk (P:=Tryz.prog) Tryz.underlying5
@[reducible,instance] def JU9:=JU.mk (P:=Tryz.prog) Tryz.underlying9
@[reducible,instance] def AX3:=JU.mk (P:=Tryz.prog) Tryz.underlying20
@[reducible,instance] def AX4:=JU.mk (P:=Tryz.prog) Tryz.underlying22
@[reducible,instance] def AX5:=JU.mk (P:=Tryz.prog) Tryz.underlying23
@[reducible,instance] def AX6:=JU.mk (P:=Tryz.prog) Tryz.underlying24
@[reducible,instance] def AX7:=JU.mk (P:=Tryz.prog) Tryz.underlying30
@[reducible,instance] def AX8:=JU.mk (P:=Tryz.prog) Tryz.underlying36
@[reducible,instance] def AX9:=JU.mk (P:=Tryz.prog) Tryz.underlying38
@[reducible,instance] def AXa:=JU.mk (P:=Tryz.prog) Tryz.underlying42
@[reducible,instance] def AXb:=JU.mk (P:=Tryz.prog) Tryz.underlying51
@[reducible,instance] def AXc:=JU.mk (P:=Tryz.prog) Tryz.underlying52
@[reducible,instance] def AXd:=JU.mk (P:=Tryz.prog) Tryz.underlying54
@[reducible,instance] def AXe:=JU.mk (P:=Tryz.prog) Tryz.underlying62
@[reducible,instance] def AXf:=JU.mk (P:=Tryz.prog) Tryz.underlying65
@[reducible,instance] def AXg:=JU.mk (P:=Tryz.prog) Tryz.underlying70
@[reducible,instance] def AXh:=JU.mk (P:=Tryz.prog) Tryz.underlying88
@[reducible,instance] def AXi:=JU.mk (P:=Tryz.prog) Tryz.underlying89
@[reducible,instance] def AXj:=JU.mk (P:=Tryz.prog) Tryz.underlying91
@[reducible,instance] def AVv:=JU.mk (P:=Tryz.prog) Tryz.underlying103
@[reducible,instance] def AVw:=JU.mk (P:=Tryz.prog) Tryz.underlying123
@[reducible,instance] def AVx:=JU.mk (P:=Tryz.prog) Tryz.underlying138
@[reducible,instance] def AVy:=JU.mk (P:=Tryz.prog) Tryz.underlying140
@[reducible,instance] def AVz:=JU.mk (P:=Tryz.prog) Tryz.underlying163
@[reducible,instance] def AW0:=JU.mk (P:=Tryz.prog) Tryz.underlying187
@[reducible,instance] def AW1:=JU.mk (P:=Tryz.prog) Tryz.underlying209
@[reducible,instance] def JZ3:=JZ.mk (P:=Tryz.prog) Tryz.zeroValue3
@[reducible,instance] def JZ4:=JZ.mk (P:=Tryz.prog) Tryz.zeroValue4
@[reducible,instance] def JZ5:=JZ.mk (P:=Tryz.prog) Tryz.zeroValue5
@[reducible,instance] def JZ9:=JZ.mk (P:=Tryz.prog) Tryz.zeroValue9
@[reducible,instance] def AXk:=JZ.mk (P:=Tryz.prog) Tryz.zeroValue22
@[reducible,instance] def AXl:=JZ.mk (P:=Tryz.prog) Tryz.zeroValue23
@[reducible,instance] def AXm:=JZ.mk (P:=Tryz.prog) Tryz.zeroValue24
@[reducible,instance] def AXn:=JZ.mk (P:=Tryz.prog) Tryz.zeroValue27
@[reducible,instance] def AXo:=JZ.mk (P:=Tryz.prog) Tryz.zeroValue30
@[reducible,instance] def AXp:=JZ.mk (P:=Tryz.prog) Tryz.zeroValue36
@[reducible,instance] def AXq:=JZ.mk (P:=Tryz.prog) Tryz.zeroValue38
@[reducible,instance] def AXr:=JZ.mk (P:=Tryz.prog) Tryz.zeroValue42
@[reducible,instance] def AXs:=JZ.mk (P:=Tryz.prog) Tryz.zeroValue51
@[reducible,instance] def AXt:=JZ.mk (P:=Tryz.prog) Tryz.zeroValue54
@[reducible,instance] def AXu:=JZ.mk (P:=Tryz.prog) Tryz.zeroValue62
@[reducible,instance] def AXv:=JZ.mk (P:=Tryz.prog) Tryz.zeroValue65
@[reducible,instance] def AXw:=JZ.mk (P:=Tryz.prog) Tryz.zeroValue70
@[reducible,instance] def AXx:=JZ.mk (P:=Tryz.prog) Tryz.zeroValue91
@[reducible,instance] def AW2:=JZ.mk (P:=Tryz.prog) Tryz.zeroValue103
@[reducible,instance] def AW3:=JZ.mk (P:=Tryz.prog) Tryz.zeroValue138
@[reducible,instance] def AW4:=JZ.mk (P:=Tryz.prog) Tryz.zeroValue187
@[reducible,instance] def AW5:=JZ.mk (P:=Tryz.prog) Tryz.zeroValue209
end Go.SX.Nb
