/- On the way (part 4). -/
import Derived.Test.YtejjpdbfdmdgpaaGreatDoorProg
import Derived.Test.YtejjpdbfdmdgpaaGreatDoorImageBackCardSaidPart3
set_option linter.all false
namespace Go.SX.Nb
open Go Go.SX Go.Proofs
structure Hk (q:Prop):Prop where h:q
variable {p q:Prop}
theorem Z0(k:q)(h:Hk q→p:=by intro qk;refine A4 ?_;refine A4 ?_;exact qk.h):p:=h ⟨k⟩
theorem Z1(k:q)(h:Hk q→p:=by intro qk;refine Ec ?_;refine Z0 ?_;exact qk.h):p:=h ⟨k⟩
theorem Z2(k:q)(h:Hk q→p:=by intro qk;refine Ec ?_;refine A4 ?_;exact qk.h):p:=h ⟨k⟩
theorem Z3(k:q)(h:Hk q→p:=by intro qk;refine A2 [2] ?_;refine Dd ?_;exact qk.h):p:=h ⟨k⟩
theorem Z4(k:q)(h:Hk q→p:=by intro qk;refine Je ?_;refine Es ?_;exact qk.h):p:=h ⟨k⟩
theorem Z6(k:q)(h:Hk q→p:=by intro qk;refine Mf ?_;refine F8 ?_;exact qk.h):p:=h ⟨k⟩
theorem Z7(k:q)(h:Hk q→p:=by intro qk;refine Bd ?_;refine Bd ?_;exact qk.h):p:=h ⟨k⟩
theorem Z8(k:q)(h:Hk q→p:=by intro qk;refine Mh ?_;refine Z1 ?_;exact qk.h):p:=h ⟨k⟩
theorem Z9(k:q)(h:Hk q→p:=by intro qk;refine Gc ?_;refine A4 ?_;exact qk.h):p:=h ⟨k⟩
theorem Z10(k:q)(h:Hk q→p:=by intro qk;refine Z0 ?_;refine A4 ?_;exact qk.h):p:=h ⟨k⟩
theorem Z11(k:q)(h:Hk q→p:=by intro qk;refine L3 ?_;refine Es ?_;exact qk.h):p:=h ⟨k⟩
theorem Z12(k:q)(h:Hk q→p:=by intro qk;refine Ak ?_;refine Ak ?_;exact qk.h):p:=h ⟨k⟩
theorem Z13(k:q)(h:Hk q→p:=by intro qk;refine Dd ?_;refine F8 ?_;exact qk.h):p:=h ⟨k⟩
theorem Z16(k:q)(h:Hk q→p:=by intro qk;refine Gc ?_;refine Z3 ?_;exact qk.h):p:=h ⟨k⟩
theorem Z17(k:q)(h:Hk q→p:=by intro qk;refine Je ?_;refine Z11 ?_;exact qk.h):p:=h ⟨k⟩
theorem Z18(k:q)(h:Hk q→p:=by intro qk;refine Mh ?_;refine Mi ?_;exact qk.h):p:=h ⟨k⟩
theorem Z19(k:q)(h:Hk q→p:=by intro qk;refine Z1 ?_;refine A4 ?_;exact qk.h):p:=h ⟨k⟩
theorem Z20(k:q)(h:Hk q→p:=by intro qk;refine Mj ?_;refine Gc ?_;exact qk.h):p:=h ⟨k⟩
theorem Z21(k:q)(h:Hk q→p:=by intro qk;refine Dd ?_;refine Z6 ?_;exact qk.h):p:=h ⟨k⟩
theorem Z23(k:q)(h:Hk q→p:=by intro qk;refine Ix ?_;refine Z10 ?_;exact qk.h):p:=h ⟨k⟩
theorem Z24(h:p:=by refine Z21 ?_;exact ze):p:=h
theorem Z25(k:q)(h:Hk q→p:=by intro qk;refine Z1 ?_;refine Z0 ?_;exact qk.h):p:=h ⟨k⟩
theorem Z26(k:q)(h:Hk q→p:=by intro qk;refine K.lpE ?_;refine Es ?_;exact qk.h):p:=h ⟨k⟩
theorem Z27(k:q)(h:Hk q→p:=by intro qk;refine Z9 ?_;refine A2 [6,7] ?_;exact qk.h):p:=h ⟨k⟩
theorem Z28(k:q)(h:Hk q→p:=by intro qk;refine Z2 ?_;refine Z3 ?_;exact qk.h):p:=h ⟨k⟩
theorem Z29(k:q)(h:Hk q→p:=by intro qk;refine Mh ?_;refine Z2 ?_;exact qk.h):p:=h ⟨k⟩
theorem Z30(k:q)(h:Hk q→p:=by intro qk;refine Mg ?_;refine F8 ?_;exact qk.h):p:=h ⟨k⟩
theorem Z31(k:q)(h:Hk q→p:=by intro qk;refine Ix ?_;refine Z0 ?_;exact qk.h):p:=h ⟨k⟩
theorem Z32(k:q)(h:Hk q→p:=by intro qk;refine AW.exit ?_;refine K.thE ?_;exact qk.h):p:=h ⟨k⟩
theorem Z33(k:q)(h:Hk q→p:=by intro qk;refine Z8 ?_;refine A4 ?_;exact qk.h):p:=h ⟨k⟩
theorem Z34(k:q)(h:Hk q→p:=by intro qk;refine Ec ?_;refine co ?_;exact qk.h):p:=h ⟨k⟩
theorem Z35(k:q)(h:Hk q→p:=by intro qk;refine Ec ?_;refine Ra ?_;refine j7 ?_;exact qk.h):p:=h ⟨k⟩
theorem Z37(k:q)(h:Hk q→p:=by intro qk;refine Ec ?_;refine Mj ?_;exact qk.h):p:=h ⟨k⟩
theorem Z38(k:q)(h:Hk q→p:=by intro qk;refine Z7 ?_;refine Bd ?_;exact qk.h):p:=h ⟨k⟩
theorem Z39(k:q)(h:Hk q→p:=by intro qk;refine A2 [4] ?_;refine Dd ?_;exact qk.h):p:=h ⟨k⟩
theorem Z40(k:q)(h:Hk q→p:=by intro qk;refine Z12 ?_;refine Ak ?_;exact qk.h):p:=h ⟨k⟩
theorem Z41(k:q)(h:Hk q→p:=by intro qk;refine Z9 ?_;refine A2 [4,5] ?_;exact qk.h):p:=h ⟨k⟩
theorem Z42(k:q)(h:Hk q→p:=by intro qk;refine Z4 ?_;refine Z18 ?_;exact qk.h):p:=h ⟨k⟩
theorem Z43(k:q)(h:Hk q→p:=by intro qk;refine Z35 ?_;refine Z16 ?_;exact qk.h):p:=h ⟨k⟩
theorem Z44(k:q)(h:Hk q→p:=by intro qk;refine Z0 ?_;refine Z7 ?_;exact qk.h):p:=h ⟨k⟩
theorem Z45(k:q)(h:Hk q→p:=by intro qk;refine Z32 ?_;refine Z26 ?_;exact qk.h):p:=h ⟨k⟩
theorem Z46(h:p:=by refine Dd ?_;exact ze):p:=h
theorem Z47(h:p:=by refine Z30 ?_;exact mc):p:=h
theorem Z49(k:q)(h:Hk q→p:=by intro qk;refine Z2 ?_;refine A2 [0] ?_;exact qk.h):p:=h ⟨k⟩
theorem Z50(k:q)(h:Hk q→p:=by intro qk;refine Z8 ?_;refine Z0 ?_;exact qk.h):p:=h ⟨k⟩
theorem Z51(h:p:=by refine Z13 ?_;exact ze):p:=h
theorem Z52(k:q)(h:Hk q→p:=by intro qk;refine Ix ?_;refine A4 ?_;exact qk.h):p:=h ⟨k⟩
theorem Z53(k:q)(h:Hk q→p:=by intro qk;refine Z0 ?_;refine Z3 ?_;exact qk.h):p:=h ⟨k⟩
theorem Z54(k:q)(h:Hk q→p:=by intro qk;refine A4 ?_;refine Ra ?_;exact qk.h):p:=h ⟨k⟩
theorem Z55(h:p:=by refine Z13 ?_;exact AE0):p:=h
theorem Z56(k:q)(h:Hk q→p:=by intro qk;refine Ei ?_;refine Ei ?_;exact qk.h):p:=h ⟨k⟩
theorem Z57(h:p:=by refine Z13 ?_;exact mc):p:=h
theorem Z59(h:p:=by refine K.thJ ?_;exact B2 (by unfold Mu;first|(simp only [ht38,ht41,ht49,ht57,ht57,ht66,ht74,hk3,hk6,Db,C7,Fp,Ky,if_true,if_false,Ag,↓reduceIte]<;>rfl)|(simp only [ht38,ht41,ht49,ht57,ht57,ht66,ht74,hk3,Db,C7,Fp,if_true,if_false,Ag,↓reduceIte]<;>rfl)|(simp only [ht38,ht41,ht49,ht57,ht57,ht66,ht74,if_true,if_false,Ag,↓reduceIte]<;>rfl))):p:=h
theorem Z60(k:q)(h:Hk q→p:=by intro qk;refine A4 ?_;refine A2 [6,7] ?_;exact qk.h):p:=h ⟨k⟩
theorem Z61(k:q)(h:Hk q→p:=by intro qk;refine Z2 ?_;refine A2 [0,1] ?_;exact qk.h):p:=h ⟨k⟩
theorem Z62(k:q)(h:Hk q→p:=by intro qk;refine A9 Tryz.call104 (ATx _ _) ?_;refine Z0 ?_;exact qk.h):p:=h ⟨k⟩
theorem Z63(k:q)(h:Hk q→p:=by intro qk;refine Z0 ?_;refine Z10 ?_;exact qk.h):p:=h ⟨k⟩
theorem Z64(k:q)(h:Hk q→p:=by intro qk;refine Z27 ?_;refine Z13 ?_;exact qk.h):p:=h ⟨k⟩
theorem Z65(h:p:=by refine Z6 ?_;exact AMe):p:=h
theorem Z66(h:p:=by refine Z6 ?_;exact A8 (Ae A7) ⟨by rw [hn];first|(simp only [ht22,ht25,ht33,ht41,ht41,hk3,hk6,Db,C7,Fp,Ky,if_true,if_false,Ag,↓reduceIte]<;>rfl)|(simp only [ht22,ht25,ht33,ht41,ht41,hk3,Db,C7,Fp,if_true,if_false,Ag,↓reduceIte]<;>rfl)|(simp only [ht22,ht25,ht33,ht41,ht41,if_true,if_false,Ag,↓reduceIte]<;>rfl),rfl⟩):p:=h
theorem Z67(k:q)(h:Hk q→p:=by intro qk;refine Z37 ?_;refine A2 [0,2] ?_;exact qk.h):p:=h ⟨k⟩
theorem Z68(h:p:=by refine K.thJ ?_;exact B2 (by unfold Mu;first|(simp only [ht38,ht41,ht49,ht57,ht57,hk3,hk6,Db,C7,Fp,Ky,if_true,if_false,Ag,↓reduceIte]<;>rfl)|(simp only [ht38,ht41,ht49,ht57,ht57,hk3,Db,C7,Fp,if_true,if_false,Ag,↓reduceIte]<;>rfl)|(simp only [ht38,ht41,ht49,ht57,ht57,if_true,if_false,Ag,↓reduceIte]<;>rfl))):p:=h
theorem Z69(h:p:=by refine Z6 ?_;exact AQz):p:=h
theorem Z70(k:q)(h:Hk q→p:=by intro qk;refine Z0 ?_;refine Z0 ?_;exact qk.h):p:=h ⟨k⟩
theorem Z71(k:q)(h:Hk q→p:=by intro qk;refine Z17 ?_;refine Z23 ?_;exact qk.h):p:=h ⟨k⟩
theorem Z72(h:p:=by refine Z28 ?_;refine Z6 ?_;exact A8 (Ae A7) ⟨by simp_all [Vr],rfl⟩):p:=h
theorem Z73(k:q)(h:Hk q→p:=by intro qk;refine Z6 ?_;refine Z30 ?_;exact qk.h):p:=h ⟨k⟩
theorem Z74(k:q)(h:Hk q→p:=by intro qk;refine Mh ?_;refine Ec ?_;exact qk.h):p:=h ⟨k⟩
theorem Z75(k:q)(h:Hk q→p:=by intro qk;refine A2 [4,5] ?_;refine Z21 ?_;exact qk.h):p:=h ⟨k⟩
theorem Z76(h:p:=by refine Z43 ?_;refine Z6 ?_;exact AQy):p:=h
theorem Z77(k:q)(h:Hk q→p:=by intro qk;refine A2 [4,5] ?_;refine Dd ?_;exact qk.h):p:=h ⟨k⟩
theorem Z78(k:q)(h:Hk q→p:=by intro qk;refine AQl ?_;refine Y.storeOwnT (u:=Hp.length) (n:=1) (t':=42) (cs:=[A5 0,A5 0,Af []]) (cs':=[A5 (B9 ra).1.kind,A5 (B9 ra).1.n,Af (B9 ra).1.s]) Tryz.sizeOf42 (fun B hT hF hB=>⟨rfl,by simp [hT 0 (by simp),hB],by simp [upd,hT 0 (by simp),hB],rfl⟩) ?_;exact qk.h):p:=h ⟨k⟩
theorem Z79(k:q)(h:Hk q→p:=by intro qk;refine S5 (places:=#[(0,1),(1,5)]) jU (fun w=>by simp) jZ ?_;refine Z20 ?_;exact qk.h):p:=h ⟨k⟩
theorem Z80(k:q)(h:Hk q→p:=by intro qk;refine Mj ?_;refine A4 ?_;exact qk.h):p:=h ⟨k⟩
theorem Z81(h:p:=by refine D.buildSlice jU jS jZ ?_;exact cr):p:=h
theorem Z82(k:q)(h:Hk q→p:=by intro qk;refine Z2 ?_;refine E2 Tryz.call259 ho (by simp) Du (AF1 l S o _ (Ar ho) hi hll) ?_;exact qk.h):p:=h ⟨k⟩
theorem Z83(k:q)(h:Hk q→p:=by intro qk;refine Z11 ?_;refine Z23 ?_;exact qk.h):p:=h ⟨k⟩
theorem Z84(k:q)(h:Hk q→p:=by intro qk;refine Ec ?_;refine Ra ?_;exact qk.h):p:=h ⟨k⟩
theorem Z85(k:q)(h:Hk q→p:=by intro qk;refine A2 [4,5] ?_;refine Z13 ?_;exact qk.h):p:=h ⟨k⟩
theorem Z88(k:q)(h:Hk q→p:=by intro qk;refine Z12 ?_;refine J0 ?_;exact qk.h):p:=h ⟨k⟩
theorem Z89(k:q)(h:Hk q→p:=by intro qk;refine Z2 ?_;refine A2 [4] ?_;exact qk.h):p:=h ⟨k⟩
theorem Z90(k:q)(h:Hk q→p:=by intro qk;refine L3 ?_;refine K.thJ ?_;exact qk.h):p:=h ⟨k⟩
theorem Z91(k:q)(h:Hk q→p:=by intro qk;refine Ix ?_;refine R.moveT ?_;exact qk.h):p:=h ⟨k⟩
theorem Z92(k:q)(h:Hk q→p:=by intro qk;refine Z4 ?_;refine Z2 ?_;exact qk.h):p:=h ⟨k⟩
theorem Z93(k:q)(h:Hk q→p:=by intro qk;refine Bd ?_;refine A4 ?_;exact qk.h):p:=h ⟨k⟩
theorem Z94(k:q)(h:Hk q→p:=by intro qk;refine Z38 ?_;refine Z0 ?_;exact qk.h):p:=h ⟨k⟩
theorem Z95(h:p:=by refine F8 ?_;exact ADv):p:=h
theorem Z96(h:p:=by refine Z12 ?_;exact cr):p:=h
theorem Z97(k:q)(h:Hk q→p:=by intro qk;refine Z7 ?_;refine A4 ?_;exact qk.h):p:=h ⟨k⟩
theorem Z98(k:q)(h:Hk q→p:=by intro qk;refine Ec ?_;refine R.freeze (k:=2) (n:=1) 5 1 [Bj ⟨y.name,(c.getD (Bn s c).toNat ⟨[],0⟩).kind⟩] hcc rfl rfl (oy [⟨y.name,(c.getD (Bn s c).toNat ⟨[],0⟩).kind⟩]) (oz [⟨y.name,(c.getD (Bn s c).toNat ⟨[],0⟩).kind⟩]) (bf [⟨y.name,(c.getD (Bn s c).toNat ⟨[],0⟩).kind⟩]) ?_;exact qk.h):p:=h ⟨k⟩
theorem P8(k:q)(h:Hk q→p:=by intro qk;refine Mi ?_;refine Z1 ?_;exact qk.h):p:=h ⟨k⟩
theorem Sc(k:q)(h:Hk q→p:=by intro qk;refine Ak ?_;refine J0 ?_;exact qk.h):p:=h ⟨k⟩
theorem Pv(k:q)(h:Hk q→p:=by intro qk;refine Z1 ?_;refine A2 [1] ?_;exact qk.h):p:=h ⟨k⟩
theorem Lq(k:q)(h:Hk q→p:=by intro qk;refine Z4 ?_;refine Z1 ?_;exact qk.h):p:=h ⟨k⟩
theorem AOb(h:p:=by refine F8 ?_;exact mc):p:=h
theorem Yo(h:p:=by refine Ak ?_;exact cr):p:=h
theorem To(k:q)(h:Hk q→p:=by intro qk;refine Z9 ?_;refine Ja ?_;exact qk.h):p:=h ⟨k⟩
theorem Nm(k:q)(h:Hk q→p:=by intro qk;refine Z17 ?_;refine Z31 ?_;exact qk.h):p:=h ⟨k⟩
theorem yo(h:p:=by refine Z39 ?_;exact mc):p:=h
theorem Oh(k:q)(h:Hk q→p:=by intro qk;refine Z38 ?_;refine A4 ?_;exact qk.h):p:=h ⟨k⟩
theorem V3(h:p:=by refine Z41 ?_;exact Z24):p:=h
theorem R9(h:p:=by refine Z43 ?_;refine Z6 ?_;exact AQx):p:=h
theorem ll(k:q)(h:Hk q→p:=by intro qk;refine Z7 ?_;refine Z53 ?_;exact qk.h):p:=h ⟨k⟩
theorem ALd(k:q)(h:Hk q→p:=by intro qk;refine R.nilTmp 6 3 false ?_;refine Z60 ?_;exact qk.h):p:=h ⟨k⟩
theorem X4(k:q)(h:Hk q→p:=by intro qk;refine Z1 ?_;refine A2 [2,18] ?_;exact qk.h):p:=h ⟨k⟩
theorem Tp(k:q)(h:Hk q→p:=by intro qk;refine Z21 ?_;refine Z30 ?_;exact qk.h):p:=h ⟨k⟩
theorem ALe(k:q)(h:Hk q→p:=by intro qk;refine Z10 ?_;refine Mj ?_;exact qk.h):p:=h ⟨k⟩
theorem Nn(k:q)(h:Hk q→p:=by intro qk;refine Z4 ?_;refine Z33 ?_;exact qk.h):p:=h ⟨k⟩
theorem No(k:q)(h:Hk q→p:=by intro qk;refine Z4 ?_;refine Z19 ?_;exact qk.h):p:=h ⟨k⟩
theorem Sd(k:q)(h:Hk q→p:=by intro qk;refine Z4 ?_;refine Z29 ?_;exact qk.h):p:=h ⟨k⟩
theorem r8(k:q)(h:Hk q→p:=by intro qk;refine A2 [6] ?_;refine Dd ?_;exact qk.h):p:=h ⟨k⟩
theorem AH2(k:q)(h:Hk q→p:=by intro qk;refine Z0 ?_;refine A9 Tryz.call192 (ATy _ _ _) ?_;exact qk.h):p:=h ⟨k⟩
theorem Oi(k:q)(h:Hk q→p:=by intro qk;refine Z8 ?_;refine Z10 ?_;exact qk.h):p:=h ⟨k⟩
theorem AD2(k:q)(h:Hk q→p:=by intro qk;refine Z12 ?_;refine Yk (k) jU Tryz.sizeOf88 hk ?_;exact qk.h):p:=h ⟨k⟩
theorem Yp(k:q)(h:Hk q→p:=by intro qk;refine A2 [11,12] ?_;refine Z90 ?_;refine B2 ?_;exact qk.h):p:=h ⟨k⟩
theorem X5(k:q)(h:Hk q→p:=by intro qk;refine Z1 ?_;refine A2 [13] ?_;exact qk.h):p:=h ⟨k⟩
theorem ALf(h:p:=by refine A2 [0,1,7,8] ?_;exact Ay (x+1) ⟨hlt,C1 hlt hx.2 ht16⟩ (by omega) (Bh rfl)):p:=h
theorem cl(k:q)(h:Hk q→p:=by intro qk;refine Z1 ?_;refine A2 [2,3,9] ?_;exact qk.h):p:=h ⟨k⟩
theorem ALg(h:p:=by refine F8 ?_;exact AQo):p:=h
theorem Yq(k:q)(h:Hk q→p:=by intro qk;refine A2 [] ?_;refine L3 ?_;exact qk.h):p:=h ⟨k⟩
theorem yp(k:q)(h:Hk q→p:=by intro qk;refine Z64 ?_;refine F8 ?_;exact qk.h):p:=h ⟨k⟩
theorem ALh(h:p:=by refine Z6 ?_;exact AQm):p:=h
theorem AH3(h:p:=by refine Z39 ?_;exact mb):p:=h
theorem X6(k:q)(h:Hk q→p:=by intro qk;refine Z18 ?_;refine Ec ?_;exact qk.h):p:=h ⟨k⟩
theorem Pw(k:q)(h:Hk q→p:=by intro qk;refine Z7 ?_;refine Z7 ?_;exact qk.h):p:=h ⟨k⟩
theorem X7(h:p:=by refine Z17 ?_;refine Z28 ?_;exact A8 (Ae A7) ⟨by simp_all [Vr],rfl⟩):p:=h
theorem X8(h:p:=by refine Z17 ?_;refine Z35 ?_;refine Z16 ?_;exact AQy):p:=h
theorem Se(k:q)(h:Hk q→p:=by intro qk;refine Z42 ?_;refine Z1 ?_;exact qk.h):p:=h ⟨k⟩
theorem Sf(k:q)(h:Hk q→p:=by intro qk;refine Z0 ?_;refine Bd ?_;exact qk.h):p:=h ⟨k⟩
theorem r9(k:q)(h:Hk q→p:=by intro qk;refine Gc ?_;refine Ja ?_;exact qk.h):p:=h ⟨k⟩
theorem ALi(k:q)(h:Hk q→p:=by intro qk;refine Z80 ?_;refine Gc ?_;exact qk.h):p:=h ⟨k⟩
theorem AOc(h:p:=by refine Dd ?_;exact A8 (B1 A7 A7) ⟨by rw [hm1],rfl⟩ (hlow:=by simpa using (Dc (n:=Hp.length) (k:=3) (o:=false) (l:=(fwM c l row l.length).1)))):p:=h
theorem Tq(k:q)(h:Hk q→p:=by intro qk;refine Z12 ?_;refine Z12 ?_;exact qk.h):p:=h ⟨k⟩
theorem ALj(h:p:=by refine F8 ?_;exact ze):p:=h
theorem yq(k:q)(h:Hk q→p:=by intro qk;refine Z1 ?_;refine Ja ?_;exact qk.h):p:=h ⟨k⟩
theorem AD3(h:p:=by refine Z16 ?_;exact A8 (Ae (B8 jA jS))):p:=h
theorem ALk(h:p:=by refine Z39 ?_;exact A8 (Ae A7) ⟨by rw [uk (Il hxe hx.2)],rfl⟩):p:=h
theorem Tr(k:q)(h:Hk q→p:=by intro qk;refine Z18 ?_;refine Z2 ?_;exact qk.h):p:=h ⟨k⟩
theorem AOd(k:q)(h:Hk q→p:=by intro qk;refine Ec ?_;refine R.freeze (k:=2) (n:=1) 5 1 [Bj ⟨y.name,y.kind⟩] hcc rfl rfl (oy [⟨y.name,y.kind⟩]) (oz [⟨y.name,y.kind⟩]) (bf [⟨y.name,y.kind⟩]) ?_;exact qk.h):p:=h ⟨k⟩
theorem cm(k:q)(h:Hk q→p:=by intro qk;refine Z28 ?_;refine Z73 ?_;exact qk.h):p:=h ⟨k⟩
theorem ALl(k:q)(h:Hk q→p:=by intro qk;refine Ec ?_;refine zc ?_;exact qk.h):p:=h ⟨k⟩
theorem AOe(h:p:=by refine Z3 ?_;exact A8 (Ae A7) ⟨rfl,rfl⟩ (hlow:=by simp [or_imp,forall_and];exact ⟨fun m _ a _=>B7 _ a,fun m _ a _=>B7 _ a⟩)):p:=h
theorem lm(k:q)(h:Hk q→p:=by intro qk;refine Z20 ?_;refine A2 [0,2,3] ?_;exact qk.h):p:=h ⟨k⟩
theorem ALm(h:p:=by refine Tp ?_;exact A8 (Ae A7) ⟨by rw [AG9 hlt ht16 hx.2],rfl⟩):p:=h
theorem X9(k:q)(h:Hk q→p:=by intro qk;refine A4 ?_;refine Z20 ?_;exact qk.h):p:=h ⟨k⟩
theorem AOf(h:p:=by refine A2 [0,1,2,10,11] ?_;exact Ay (i+1) hli (by omega) (Bh (by simp only [hst,C4,C5,Ef]<;>rfl))):p:=h
theorem rd(h:p:=by refine Z6 ?_;exact Z47):p:=h
theorem Ts(k:q)(h:Hk q→p:=by intro qk;refine Z26 ?_;refine Z2 ?_;exact qk.h):p:=h ⟨k⟩
theorem cn(k:q)(h:Hk q→p:=by intro qk;refine Ec ?_;refine Z62 ?_;exact qk.h):p:=h ⟨k⟩
theorem ALn(k:q)(h:Hk q→p:=by intro qk;refine zc ?_;refine Z16 ?_;exact qk.h):p:=h ⟨k⟩
theorem Xa(k:q)(h:Hk q→p:=by intro qk;refine Z42 ?_;refine Z19 ?_;exact qk.h):p:=h ⟨k⟩
theorem AH4(k:q)(h:Hk q→p:=by intro qk;refine A4 ?_;refine AHr ?_;exact qk.h):p:=h ⟨k⟩
theorem ALo(h:p:=by refine Z39 ?_;exact A8 (Ae A7) ⟨by rw [←AB9];try rfl,rfl⟩):p:=h
theorem iy(k:q)(h:Hk q→p:=by intro qk;refine A2 [6] ?_;refine Z13 ?_;exact qk.h):p:=h ⟨k⟩
theorem Xb(k:q)(h:Hk q→p:=by intro qk;refine Z38 ?_;refine Z44 ?_;exact qk.h):p:=h ⟨k⟩
theorem ALp(k:q)(h:Hk q→p:=by intro qk;refine Cb [0,0,2,6,14,31,63,63,255,511] 8 Ai (by kernel_rfl) ?_;refine Z40 ?_;exact qk.h):p:=h ⟨k⟩
theorem AH5(h:p:=by refine Z90 ?_;exact B2 (by rw [e]<;>rfl)):p:=h
theorem ALq(k:q)(h:Hk q→p:=by intro qk;refine co ?_;refine Z64 ?_;exact qk.h):p:=h ⟨k⟩
theorem Yr(k:q)(h:Hk q→p:=by intro qk;refine Z2 ?_;refine S9 6 2 ?_;refine Z60 ?_;exact qk.h):p:=h ⟨k⟩
theorem ALr(k:q)(h:Hk q→p:=by intro qk;refine co ?_;refine Z27 ?_;exact qk.h):p:=h ⟨k⟩
theorem ALs(k:q)(h:Hk q→p:=by intro qk;refine Cb [0,0,3,7,0,0,48,112,255] 8 Ai (by kernel_rfl) ?_;refine Z12 ?_;exact qk.h):p:=h ⟨k⟩
theorem ALt(h:p:=by refine cm ?_;exact ADv):p:=h
theorem ALu(k:q)(h:Hk q→p:=by intro qk;refine Z2 ?_;refine co ?_;exact qk.h):p:=h ⟨k⟩
theorem ALv(k:q)(h:Hk q→p:=by intro qk;refine R.nilTmp 4 2 false ?_;refine A4 ?_;exact qk.h):p:=h ⟨k⟩
theorem AOg(k:q)(h:Hk q→p:=by intro qk;refine Gx (tn:=[9,10]) (O:=[.cells 42 [A5 0,A5 0,Af []],.cells 42 [A5 (B9 ra).1.kind,A5 (B9 ra).1.n,Af (B9 ra).1.s]]) ?_;refine A4 ?_;exact qk.h):p:=h ⟨k⟩
theorem ln(k:q)(h:Hk q→p:=by intro qk;refine Z1 ?_;refine A2 [0,1] ?_;exact qk.h):p:=h ⟨k⟩
theorem Ys(k:q)(h:Hk q→p:=by intro qk;refine ALe ?_;refine Z9 ?_;exact qk.h):p:=h ⟨k⟩
theorem AOh(h:p:=by refine Z73 ?_;exact AMf):p:=h
theorem AD4(h:p:=by refine Z53 ?_;exact mb):p:=h
theorem AOi(h:p:=by refine Dd ?_;exact AMf):p:=h
theorem ALw(k:q)(h:Hk q→p:=by intro qk;refine Z10 ?_;refine A9 Tryz.call32 (hev (x.kids.getD 1 At) (R7 hk1) _) ?_;exact qk.h):p:=h ⟨k⟩
theorem Xc(k:q)(h:Hk q→p:=by intro qk;refine Z45 ?_;refine Z2 ?_;exact qk.h):p:=h ⟨k⟩
theorem ALx(h:p:=by refine Z13 ?_;exact A8 (B1 A7 A7) ⟨by rw [hw],rfl⟩):p:=h
theorem ALy(h:p:=by refine Z85 ?_;exact AMb):p:=h
theorem ALz(h:p:=by refine Z77 ?_;exact AMg):p:=h
theorem lq(k:q)(h:Hk q→p:=by intro qk;refine Z0 ?_;refine Z27 ?_;exact qk.h):p:=h ⟨k⟩
theorem re(k:q)(h:Hk q→p:=by intro qk;refine Z71 ?_;refine Oj ?_;exact qk.h):p:=h ⟨k⟩
theorem lr(k:q)(h:Hk q→p:=by intro qk;refine Z84 ?_;refine Lr ?_;exact qk.h):p:=h ⟨k⟩
theorem AOj(h:p:=by refine A2 [] ?_;exact Gn .nores (hp:=⟨xe m x,k,by unfold Wy;rw [hT];rfl,rfl,by exact ABm⟩)):p:=h
theorem Xd(k:q)(h:Hk q→p:=by intro qk;refine Z4 ?_;refine Z8 ?_;exact qk.h):p:=h ⟨k⟩
theorem rf(k:q)(h:Hk q→p:=by intro qk;refine Z19 ?_;refine A2 [6,7] ?_;exact qk.h):p:=h ⟨k⟩
theorem Yt(k:q)(h:Hk q→p:=by intro qk;refine Z4 ?_;refine Z25 ?_;exact qk.h):p:=h ⟨k⟩
theorem AH6(h:p:=by refine Z40 ?_;exact cr):p:=h
theorem rg(k:q)(h:Hk q→p:=by intro qk;refine Z1 ?_;refine Oj ?_;exact qk.h):p:=h ⟨k⟩
theorem AD5(k:q)(h:Hk q→p:=by intro qk;refine A2 [0,1,5,7,8] ?_;refine Z19 ?_;exact qk.h):p:=h ⟨k⟩
theorem AOk(h:p:=by refine Z39 ?_;exact A8 (Ae A7) ⟨by rw [s8 (Ml (by simp at ht9;omega) hx.2)],rfl⟩):p:=h
theorem AD6(k:q)(h:Hk q→p:=by intro qk;refine cp ?_;refine Dd ?_;exact qk.h):p:=h ⟨k⟩
theorem AOl(h:p:=by refine j8 ?_;exact Ay (x+1) hlt (by omega) (by simp only [em];exact Bh rfl)):p:=h
theorem rh(h:p:=by refine Z89 ?_;exact Z57):p:=h
theorem iz(k:q)(h:Hk q→p:=by intro qk;refine Z11 ?_;refine Z31 ?_;exact qk.h):p:=h ⟨k⟩
theorem yr(k:q)(h:Hk q→p:=by intro qk;refine Z1 ?_;refine cu ?_;exact qk.h):p:=h ⟨k⟩
theorem AD7(k:q)(h:Hk q→p:=by intro qk;refine Z2 ?_;refine A2 [0,1,7,8,9] ?_;exact qk.h):p:=h ⟨k⟩
theorem ri(k:q)(h:Hk q→p:=by intro qk;refine Ec ?_;refine R.box ?_;exact qk.h):p:=h ⟨k⟩
theorem AOm(h:p:=by refine Z16 ?_;exact A8 (Ae (B8 jA jS)) ⟨by simp only [ax,hm]<;>simp_all,rfl⟩):p:=h
theorem yt(k:q)(h:Hk q→p:=by intro qk;refine Sd ?_;refine Oj ?_;exact qk.h):p:=h ⟨k⟩
theorem AD8(k:q)(h:Hk q→p:=by intro qk;refine cp ?_;refine Z21 ?_;exact qk.h):p:=h ⟨k⟩
theorem AOn(h:p:=by refine Ay (x+1) ⟨hlt,C1 hlt hx.2 ht19⟩ (by omega) ?_;exact Bh (by simp)):p:=h
theorem rj(h:p:=by refine Z41 ?_;exact Z46):p:=h
theorem AOo(h:p:=by refine D.build (places:=#[(0,1),(1,1)]) jU (fun w=>by simp) jZ ?_;exact cr):p:=h
theorem yu(h:p:=by refine ll ?_;exact Z69):p:=h
theorem AOq(h:p:=by refine F8 ?_;exact AMe):p:=h
theorem ls(k:q)(h:Hk q→p:=by intro qk;refine Z2 ?_;refine yp ?_;exact qk.h):p:=h ⟨k⟩
theorem AD9(k:q)(h:Hk q→p:=by intro qk;refine Z33 ?_;refine A2 [0,1,7,8] ?_;exact qk.h):p:=h ⟨k⟩
theorem j4(k:q)(h:Hk q→p:=by intro qk;refine Z49 ?_;refine Z33 ?_;exact qk.h):p:=h ⟨k⟩
theorem yw(k:q)(h:Hk q→p:=by intro qk;refine Z19 ?_;refine Ja ?_;exact qk.h):p:=h ⟨k⟩
theorem AM0(k:q)(h:Hk q→p:=by intro qk;refine Z2 ?_;refine A9 Tryz.call275 (ARb l S o _ (Ar ho) hi) ?_;exact qk.h):p:=h ⟨k⟩
theorem AM1(k:q)(h:Hk q→p:=by intro qk;refine A4 ?_;refine A9 Tryz.call151 (be (ks.getD 0 0) 1 _) ?_;exact qk.h):p:=h ⟨k⟩
theorem AM2(k:q)(h:Hk q→p:=by intro qk;refine A4 ?_;refine A9 Tryz.call151 (be (ks.getD 0 0) 2 _) ?_;exact qk.h):p:=h ⟨k⟩
theorem lu(k:q)(h:Hk q→p:=by intro qk;refine Z19 ?_;refine ll ?_;exact qk.h):p:=h ⟨k⟩
theorem lv(k:q)(h:Hk q→p:=by intro qk;refine Z56 ?_;refine Ei ?_;exact qk.h):p:=h ⟨k⟩
theorem AOr(h:p:=by refine Z73 ?_;exact A8 (B1 A7 A7) ⟨by rw [tr hr hkn];try rfl,rfl⟩):p:=h
theorem AOs(h:p:=by refine Z28 ?_;exact AMe):p:=h
theorem lw(k:q)(h:Hk q→p:=by intro qk;refine Z1 ?_;refine ALd ?_;exact qk.h):p:=h ⟨k⟩
theorem AOt(h:p:=by refine ADs ?_;exact Ay (k+1) hk (by omega) (Bh rfl)):p:=h
theorem AM3(k:q)(h:Hk q→p:=by intro qk;refine Z2 ?_;refine A9 Tryz.call64 (c64 L i o _ (Ar ho) hi) ?_;exact qk.h):p:=h ⟨k⟩
theorem AOu(h:p:=by refine Dd ?_;exact AR0):p:=h
theorem yx(h:p:=by refine Z25 ?_;refine Z75 ?_;exact AQg):p:=h
theorem yy(h:p:=by refine Z41 ?_;exact Z51):p:=h
theorem AOv(h:p:=by refine Z6 ?_;exact ze):p:=h
theorem j5(k:q)(h:Hk q→p:=by intro qk;refine Z1 ?_;refine Z3 ?_;exact qk.h):p:=h ⟨k⟩
theorem AOw(h:p:=by refine Z13 ?_;exact AR0):p:=h
theorem AOx(h:p:=by refine Z13 ?_;exact A8 (Ae A7) ⟨by rw [AR4 (by simpa using ht10)],rfl⟩):p:=h
theorem j6(k:q)(h:Hk q→p:=by intro qk;refine Z17 ?_;refine Z1 ?_;exact qk.h):p:=h ⟨k⟩
theorem yz(k:q)(h:Hk q→p:=by intro qk;refine Z1 ?_;refine A2 [4] ?_;exact qk.h):p:=h ⟨k⟩
theorem lx(k:q)(h:Hk q→p:=by intro qk;refine Z37 ?_;refine A4 ?_;exact qk.h):p:=h ⟨k⟩
theorem rk(k:q)(h:Hk q→p:=by intro qk;refine Z4 ?_;refine Ec ?_;exact qk.h):p:=h ⟨k⟩
theorem AOy(h:p:=by refine Z13 ?_;exact A8 (B1 A7 A7) ⟨by rw [AEv hr];try rfl,rfl⟩):p:=h
theorem lz(k:q)(h:Hk q→p:=by intro qk;refine Z25 ?_;refine Z94 ?_;exact qk.h):p:=h ⟨k⟩
theorem AOz(k:q)(h:Hk q→p:=by intro qk;refine Ak ?_;refine AR1 ?_;exact qk.h):p:=h ⟨k⟩
theorem AP0(k:q)(h:Hk q→p:=by intro qk;refine AR1 ?_;refine Sc ?_;exact qk.h):p:=h ⟨k⟩
theorem rl(k:q)(h:Hk q→p:=by intro qk;refine A4 ?_;refine ALi ?_;exact qk.h):p:=h ⟨k⟩
theorem AM4(k:q)(h:Hk q→p:=by intro qk;refine Z4 ?_;refine Z91 ?_;exact qk.h):p:=h ⟨k⟩
theorem m8(k:q)(h:Hk q→p:=by intro qk;refine Z18 ?_;refine Z19 ?_;exact qk.h):p:=h ⟨k⟩
theorem rm(k:q)(h:Hk q→p:=by intro qk;refine Z32 ?_;refine K.lpE ?_;exact qk.h):p:=h ⟨k⟩
theorem m9(k:q)(h:Hk q→p:=by intro qk;refine Z45 ?_;refine Z28 ?_;exact qk.h):p:=h ⟨k⟩
theorem ADa(k:q)(h:Hk q→p:=by intro qk;refine Gc ?_;refine r8 ?_;exact qk.h):p:=h ⟨k⟩
theorem AM5(k:q)(h:Hk q→p:=by intro qk;refine A4 ?_;refine S8 (k) jU Tryz.sizeOf88 hk ?_;exact qk.h):p:=h ⟨k⟩
theorem AP1(h:p:=by refine Z30 ?_;exact AE0):p:=h
theorem AP2(h:p:=by refine Z73 ?_;exact AE0):p:=h
theorem AP3(h:p:=by refine Z28 ?_;exact AQz):p:=h
theorem AP4(h:p:=by refine Ay (x+1) ⟨hlt,hn⟩ (by omega) ?_;exact Bh (by simp)):p:=h
theorem AP5(k:q)(h:Hk q→p:=by intro qk;refine Cb [0,0,3,7,15,0,0,96,224,511,0,2047,4095] 11 Ai (by kernel_rfl) ?_;refine AD2 ?_;exact qk.h):p:=h ⟨k⟩
theorem rn(k:q)(h:Hk q→p:=by intro qk;refine Z88 ?_;refine A4 ?_;exact qk.h):p:=h ⟨k⟩
theorem AP6(h:p:=by refine Z75 ?_;exact AQn):p:=h
theorem AP7(h:p:=by refine Z75 ?_;exact A8 (B1 A7 A7) ⟨by simp_all [Xg],rfl⟩):p:=h
theorem ADb(h:p:=by refine Z28 ?_;exact AOb):p:=h
theorem AP8(h:p:=by refine Z39 ?_;exact A8 (Ae A7) ⟨by rw [AJr h3]<;>rfl,rfl⟩):p:=h
theorem AP9(k:q)(h:Hk q→p:=by intro qk;refine Y.buildSlice jU Tryz.sizeOf9 Tryz.zeroValue9 ?_;refine Gx (tn:=[2]) (U:=U2 L Hp o om j (mvO m)) ?_;exact qk.h):p:=h ⟨k⟩
theorem APa(h:p:=by refine Z21 ?_;exact AE0):p:=h
theorem AM6(k:q)(h:Hk q→p:=by intro qk;refine Ra ?_;refine Ra ?_;exact qk.h):p:=h ⟨k⟩
theorem APb(h:p:=by refine Z16 ?_;exact A8 (Ae (B8 jA jS)) ⟨by simp [ht5],rfl⟩):p:=h
theorem ma(k:q)(h:Hk q→p:=by intro qk;refine Z4 ?_;refine Z50 ?_;exact qk.h):p:=h ⟨k⟩
theorem APc(k:q)(h:Hk q→p:=by intro qk;refine Z19 ?_;refine E2 Tryz.call215 ho (by simp) Du (AA5 l S 8 (Aq l S.i).at_ o _ (Ar ho)) ?_;exact qk.h):p:=h ⟨k⟩
theorem ADc(h:p:=by refine Z12 ?_;exact Z96):p:=h
theorem APd(k:q)(h:Hk q→p:=by intro qk;refine zc ?_;refine Gc ?_;exact qk.h):p:=h ⟨k⟩
theorem ADd(k:q)(h:Hk q→p:=by intro qk;refine Z20 ?_;refine Gc ?_;exact qk.h):p:=h ⟨k⟩
theorem APe(h:p:=by refine Z77 ?_;exact AE0):p:=h
theorem APf(h:p:=by refine Z73 ?_;exact A8 (B1 A7 A7) ⟨by rw [hbad],rfl⟩):p:=h
theorem AH7(k:q)(h:Hk q→p:=by intro qk;refine Z63 ?_;refine A2 [0,1,2,8,9] ?_;exact qk.h):p:=h ⟨k⟩
theorem APg(h:p:=by refine Z30 ?_;exact A8 (Ae A7) ⟨by rw [hx.eq,hw],rfl⟩):p:=h
theorem APh(h:p:=by refine Z39 ?_;exact AQh):p:=h
theorem APi(k:q)(h:Hk q→p:=by intro qk;refine A9 Tryz.call56 (AUe _) ?_;refine S5 (places:=#[(0,1),(1,5)]) jU (fun w=>by simp) jZ ?_;exact qk.h):p:=h ⟨k⟩
theorem ADe(h:p:=by refine Z28 ?_;exact Z95):p:=h
theorem z3(k:q)(h:Hk q→p:=by intro qk;refine Z45 ?_;refine Ec ?_;exact qk.h):p:=h ⟨k⟩
theorem APj(h:p:=by refine Z73 ?_;exact A8 (B1 A7 A7) ⟨by rw [hkb],rfl⟩):p:=h
theorem ADf(h:p:=by refine Z45 ?_;refine Z28 ?_;exact mc):p:=h
theorem rp(k:q)(h:Hk q→p:=by intro qk;refine Z25 ?_;refine Bd ?_;exact qk.h):p:=h ⟨k⟩
theorem z4(k:q)(h:Hk q→p:=by intro qk;refine Z1 ?_;refine Z85 ?_;exact qk.h):p:=h ⟨k⟩
theorem APk(h:p:=by refine z4 ?_;exact AMg):p:=h
theorem APl(k:q)(h:Hk q→p:=by intro qk;refine Z92 ?_;refine A9 Tryz.call87 (c87 _ (rdL d).1 (Cp (hlow ht77) (by decide)) _) ?_;exact qk.h):p:=h ⟨k⟩
theorem ADg(k:q)(h:Hk q→p:=by intro qk;refine Z19 ?_;refine A2 [1,2] ?_;exact qk.h):p:=h ⟨k⟩
theorem APm(h:p:=by refine Z6 ?_;exact ADv):p:=h
theorem APn(h:p:=by refine Z75 ?_;exact AMg):p:=h
theorem APo(h:p:=by refine Z53 ?_;exact ADv):p:=h
theorem AM7(h:p:=by refine Z3 ?_;exact mb):p:=h
theorem AH8(k:q)(h:Hk q→p:=by intro qk;refine cp ?_;refine Z13 ?_;exact qk.h):p:=h ⟨k⟩
theorem APp(k:q)(h:Hk q→p:=by intro qk;refine Cb [0,1,3,7,15,3,35,99,255,511,1023] 8 Ai (by kernel_rfl) ?_;refine Z12 ?_;exact qk.h):p:=h ⟨k⟩
theorem APq(k:q)(h:Hk q→p:=by intro qk;refine Cb [0,1,3,7,0,16,48,112,240,511,1023] 9 Ai (by kernel_rfl) ?_;refine Z12 ?_;exact qk.h):p:=h ⟨k⟩
theorem APr(k:q)(h:Hk q→p:=by intro qk;refine A9 Tryz.call52 (c52 _ _) ?_;refine Z27 ?_;refine Z21 ?_;exact qk.h):p:=h ⟨k⟩
theorem APs(h:p:=by refine Z77 ?_;exact AMb):p:=h
theorem z6(k:q)(h:Hk q→p:=by intro qk;refine A4 ?_;refine Bd ?_;exact qk.h):p:=h ⟨k⟩
theorem z7(k:q)(h:Hk q→p:=by intro qk;refine Z40 ?_;refine J0 ?_;exact qk.h):p:=h ⟨k⟩
theorem ADh(k:q)(h:Hk q→p:=by intro qk;refine K1 ?_;refine A4 ?_;exact qk.h):p:=h ⟨k⟩
theorem rq(k:q)(h:Hk q→p:=by intro qk;refine Z42 ?_;refine Z2 ?_;exact qk.h):p:=h ⟨k⟩
theorem APt(k:q)(h:Hk q→p:=by intro qk;refine Z67 ?_;refine Cb [0,1,3,7,0,16,48,112,255,511,1023] 8 Ai (by kernel_rfl) ?_;exact qk.h):p:=h ⟨k⟩
theorem APu(h:p:=by refine Tp ?_;exact AMc):p:=h
theorem APv(h:p:=by refine De Tryz.call169 (ARw c l k0 ra ha _) ?_;exact AH6):p:=h
theorem rr(k:q)(h:Hk q→p:=by intro qk;refine Z49 ?_;refine Z29 ?_;exact qk.h):p:=h ⟨k⟩
theorem AM8(k:q)(h:Hk q→p:=by intro qk;refine Ec ?_;refine A9 Tryz.call143 (AT1 _) ?_;exact qk.h):p:=h ⟨k⟩
theorem APw(k:q)(h:Hk q→p:=by intro qk;refine Z1 ?_;refine zc ?_;exact qk.h):p:=h ⟨k⟩
theorem AH9(k:q)(h:Hk q→p:=by intro qk;refine Z37 ?_;refine A2 [0,1,2,6] ?_;exact qk.h):p:=h ⟨k⟩
theorem AHa(h:p:=by refine Z28 ?_;exact rd):p:=h
theorem ADi(k:q)(h:Hk q→p:=by intro qk;refine Je ?_;refine L3 ?_;exact qk.h):p:=h ⟨k⟩
theorem AHb(h:p:=by refine yq ?_;refine Z13 ?_;exact AMf):p:=h
theorem AHc(h:p:=by refine Ak ?_;exact Z81):p:=h
theorem APx(h:p:=by refine r8 ?_;exact mc):p:=h
theorem z8(k:q)(h:Hk q→p:=by intro qk;refine Z23 ?_;refine Z7 ?_;refine Z0 ?_;refine A2 [1,3,4,5] ?_;exact qk.h):p:=h ⟨k⟩
theorem AHd(h:p:=by refine Z21 ?_;exact Z47):p:=h
theorem z9(k:q)(h:Hk q→p:=by intro qk;refine AM4 ?_;refine Z54 ?_;exact qk.h):p:=h ⟨k⟩
theorem rt(k:q)(h:Hk q→p:=by intro qk;refine Z44 ?_;refine Z7 ?_;exact qk.h):p:=h ⟨k⟩
theorem APy(k:q)(h:Hk q→p:=by intro qk;refine A4 ?_;refine S8 ((i+k)) jU Tryz.sizeOf88 (by omega) (hm:=by omega) ?_;exact qk.h):p:=h ⟨k⟩
theorem AHe(h:p:=by refine AH2 ?_;refine lq ?_;refine Z21 ?_;exact AQj):p:=h
theorem APz(k:q)(h:Hk q→p:=by intro qk;refine j7 ?_;refine Gc ?_;exact qk.h):p:=h ⟨k⟩
theorem AQ0(k:q)(h:Hk q→p:=by intro qk;refine Bm Tryz.call112 (fun hB=>AR8 e.text Qz hs (by decide) _) ?_;refine Z44 ?_;exact qk.h):p:=h ⟨k⟩
theorem AQ1(k:q)(h:Hk q→p:=by intro qk;refine Z70 ?_;refine S8 ((i+k)) jU Tryz.sizeOf88 (by omega) (hm:=by omega) ?_;exact qk.h):p:=h ⟨k⟩
theorem AHf(k:q)(h:Hk q→p:=by intro qk;refine Z1 ?_;refine A2 [2,3,18] ?_;exact qk.h):p:=h ⟨k⟩
theorem AHg(h:p:=by refine Z0 ?_;refine Z39 ?_;exact A8 (Ae A7) ⟨by first|(rw [hgy hf];rfl)|(rw [hgv hf];rfl),rfl⟩):p:=h
theorem ADj(k:q)(h:Hk q→p:=by intro qk;refine Z25 ?_;refine A2 [0] ?_;exact qk.h):p:=h ⟨k⟩
theorem AHh(k:q)(h:Hk q→p:=by intro qk;refine Z50 ?_;refine A2 [0,3,10] ?_;exact qk.h):p:=h ⟨k⟩
theorem AQ2(h:p:=by refine F8 ?_;exact A8 (Ae A7) ⟨rfl,rfl⟩):p:=h
theorem AQ3(h:p:=by refine Z3 ?_;exact A8 (Ae A7) ⟨by simp,rfl⟩):p:=h
theorem AM9(k:q)(h:Hk q→p:=by intro qk;refine A9 Tryz.call52 (c52 _ _) ?_;refine Z64 ?_;exact qk.h):p:=h ⟨k⟩
theorem AQ4(k:q)(h:Hk q→p:=by intro qk;refine De Tryz.call85 (AUd (rdL (d.take i)).1 10 hm2 (by decide) _) ?_;refine Sc ?_;exact qk.h):p:=h ⟨k⟩
theorem AHi(h:p:=by refine Z0 ?_;exact V3):p:=h
theorem AHj(h:p:=by refine Z17 ?_;refine Z43 ?_;exact AQx):p:=h
theorem AHk(h:p:=by refine Z1 ?_;refine ALv ?_;refine A2 [4,5] ?_;exact Z55):p:=h
theorem za(k:q)(h:Hk q→p:=by intro qk;refine Z2 ?_;refine Z64 ?_;exact qk.h):p:=h ⟨k⟩
theorem AMa(k:q)(h:Hk q→p:=by intro qk;refine A4 ?_;refine A9 Tryz.call88 (c88 e _) ?_;exact qk.h):p:=h ⟨k⟩
theorem ADk(k:q)(h:Hk q→p:=by intro qk;refine APr ?_;refine F8 ?_;exact qk.h):p:=h ⟨k⟩
theorem ADl(k:q)(h:Hk q→p:=by intro qk;refine Z4 ?_;refine Mi ?_;exact qk.h):p:=h ⟨k⟩
theorem AHl(k:q)(h:Hk q→p:=by intro qk;refine A2 [3,9] ?_;refine Es ?_;exact qk.h):p:=h ⟨k⟩
theorem AHm(k:q)(h:Hk q→p:=by intro qk;refine Z80 ?_;refine Yv ?_;exact qk.h):p:=h ⟨k⟩
theorem AHn(k:q)(h:Hk q→p:=by intro qk;refine A2 [0,3,5] ?_;refine Z33 ?_;exact qk.h):p:=h ⟨k⟩
theorem AHo(k:q)(h:Hk q→p:=by intro qk;refine A4 ?_;refine Gc ?_;exact qk.h):p:=h ⟨k⟩
theorem AHp(h:p:=by refine Z0 ?_;exact AH3):p:=h
theorem AQ5(h:p:=by refine A9 Tryz.call145 (zl _ _) ?_;exact V3):p:=h
theorem AQ6(k:q)(h:Hk q→p:=by intro qk;refine Cb [0,0,0,7,15,15,63,127] 6 Ai (by kernel_rfl) ?_;refine Z12 ?_;exact qk.h):p:=h ⟨k⟩
theorem AQ7(h:p:=by refine Z3 ?_;exact A8 (Ae A7) ⟨rfl,rfl⟩):p:=h
theorem zb(h:p:=by exact ⟨rfl,Below.refl _ _⟩):p:=h
theorem mb(h:p:=by exact A8 (Ae A7)):p:=h
theorem Oj(k:q)(h:Hk q→p:=by intro qk;refine A2 [0,3] ?_;exact qk.h):p:=h ⟨k⟩
theorem Yu(k:q)(h:Hk q→p:=by intro qk;refine A2 [0,1,5] ?_;exact qk.h):p:=h ⟨k⟩
theorem AQ8(h:p:=by exact h (y,j) (by rw [Mz];exact hj)):p:=h
theorem AQ9(h:p:=by exact A8 (Ae A7) ⟨by simp [Cg,ht5],rfl⟩):p:=h
theorem AQa(h:p:=by exact A8 (Ae A7) ⟨by simp [Cg,ht5,ht16,ht22],rfl⟩):p:=h
theorem ADm(k:q)(h:Hk q→p:=by intro qk;refine A2 [0,1,5,7,8,16] ?_;exact qk.h):p:=h ⟨k⟩
theorem Ja(k:q)(h:Hk q→p:=by intro qk;refine A2 [2,3] ?_;exact qk.h):p:=h ⟨k⟩
theorem Gc(k:q)(h:Hk q→p:=by intro qk;refine Nf jS ?_;exact qk.h):p:=h ⟨k⟩
theorem co(k:q)(h:Hk q→p:=by intro qk;refine S5 (places:=#[(0,1),(1,1),(2,1)]) jU (fun w=>by simp) jZ ?_;exact qk.h):p:=h ⟨k⟩
theorem AQb(h:p:=by exact A8 (Ae A7) ⟨by simp only [L4,hp,ht7,ht14,ht23,ht27,C8,Ag,if_false,if_true];try rfl,rfl⟩):p:=h
theorem AQc(h:p:=by exact A8 (B1 (B8 jA jS) A7) ⟨by simp only [mh,ht17,if_true,if_false,Ag];rfl,rfl⟩):p:=h
theorem Mi(k:q)(h:Hk q→p:=by intro qk;refine AW.block ?_;exact qk.h):p:=h ⟨k⟩
theorem Ec(k:q)(h:Hk q→p:=by intro qk;refine AW.seqR ?_;exact qk.h):p:=h ⟨k⟩
theorem AQd(h:p:=by exact A8 (Me A7 A7 A7 A7) ⟨by simp only [Si,ht11,ht17,if_true,if_false,Ag];try rfl,rfl⟩):p:=h
theorem AQe(h:p:=by exact A8 (Me A7 A7 A7 A7) ⟨by simp only [Zd,ht18,ht23,if_true,if_false,Ag];try rfl,rfl⟩):p:=h
theorem AQf(h:p:=by exact A8 (Me A7 A7 A7 A7) ⟨by simp only [Cz,ht6,ht17,ht28,if_true,if_false,Ag],rfl⟩):p:=h
theorem ADn(h:p:=by exact absurd h (by decide)):p:=h
theorem ru(h:p:=by exact Ap _):p:=h
theorem Mj(k:q)(h:Hk q→p:=by intro qk;refine R.alloc jZ ?_;exact qk.h):p:=h ⟨k⟩
theorem AHq(k:q)(h:Hk q→p:=by intro qk;refine K.rdN (vj hL (Cv (by decide)) (Cv (by decide))) ?_;exact qk.h):p:=h ⟨k⟩
theorem Ra(k:q)(h:Hk q→p:=by intro qk;refine R.buildSlice jU jS jZ ?_;exact qk.h):p:=h ⟨k⟩
theorem j7(k:q)(h:Hk q→p:=by intro qk;refine S5 (places:=#[(0,1),(1,1)]) jU (fun w=>by simp) jZ ?_;exact qk.h):p:=h ⟨k⟩
theorem ADo(h:p:=by exact ⟨hFRl,by simp [oid]⟩):p:=h
theorem ADp(h:p:=by exact Om (fun x hx=>ObjLow.le (by omega) (hlow x hx)) hOl x hx):p:=h
theorem cp(k:q)(h:Hk q→p:=by intro qk;refine A2 [2,3,4,5] ?_;exact qk.h):p:=h ⟨k⟩
theorem ADq(k:q)(h:Hk q→p:=by intro qk;refine Ay (x+1) hlt (by omega) ?_;exact qk.h):p:=h ⟨k⟩
theorem rx(k:q)(h:Hk q→p:=by intro qk;refine A2 [0,1,2,8] ?_;exact qk.h):p:=h ⟨k⟩
theorem Lr(k:q)(h:Hk q→p:=by intro qk;refine R.assignT ?_;exact qk.h):p:=h ⟨k⟩
theorem zc(k:q)(h:Hk q→p:=by intro qk;refine S5 (places:=#[(0,1),(1,1),(2,3),(5,1)]) jU (fun w=>by simp) jZ ?_;exact qk.h):p:=h ⟨k⟩
theorem j8(k:q)(h:Hk q→p:=by intro qk;refine A2 [1,3,4] ?_;exact qk.h):p:=h ⟨k⟩
theorem cq(h:p:=by exact aq _):p:=h
theorem AQg(h:p:=by exact A8 (B1 A7 A7) ⟨by simp_all [Fc],rfl⟩):p:=h
theorem mc(h:p:=by exact A8 (Ae A7) ⟨by rw [hm],rfl⟩):p:=h
theorem Yv(k:q)(h:Hk q→p:=by intro qk;refine A2 [2,3,4] ?_;exact qk.h):p:=h ⟨k⟩
theorem AHr(k:q)(h:Hk q→p:=by intro qk;refine S8 (0) jU Tryz.sizeOf88 (by decide) ?_;exact qk.h):p:=h ⟨k⟩
theorem ADr(k:q)(h:Hk q→p:=by intro qk;refine S8 (1) jU Tryz.sizeOf88 (by decide) ?_;exact qk.h):p:=h ⟨k⟩
theorem AQh(h:p:=by exact A8 (Ae (B8 jA jS)) ⟨by rw [had],rfl⟩):p:=h
theorem ADs(k:q)(h:Hk q→p:=by intro qk;refine A2 [2,3,4,5,9,10] ?_;exact qk.h):p:=h ⟨k⟩
theorem ADt(k:q)(h:Hk q→p:=by intro qk;refine A2 [2,3,4,5,6,7,8] ?_;exact qk.h):p:=h ⟨k⟩
theorem AHs(k:q)(h:Hk q→p:=by intro qk;refine A2 [2,3,4,5,6,7,8,9,10] ?_;exact qk.h):p:=h ⟨k⟩
theorem AQi(h:p:=by exact A8 (Ae (B8 jA jS)) ⟨by rw [hb];rfl,rfl⟩):p:=h
theorem cr(h:p:=by exact D.end rfl rfl):p:=h
theorem ct(k:q)(h:Hk q→p:=by intro qk;refine A2 [0,4,5,6,7,8,9] ?_;exact qk.h):p:=h ⟨k⟩
theorem V4(h:p:=by exact o8 _):p:=h
theorem V5(h:p:=by exact b7 _):p:=h
theorem AQj(h:p:=by exact A8 (B1 (B8 Tryz.isAgg42 Tryz.sizeOf42) A7) ⟨by simp_all [Ev],rfl⟩):p:=h
theorem ry(k:q)(h:Hk q→p:=by intro qk;refine R.buildSl jU jS jZ ?_;exact qk.h):p:=h ⟨k⟩
theorem AQk(h:p:=by exact A8 (Ae (B8 jA jS)) ⟨by rw [hm];try rfl,rfl⟩):p:=h
theorem AQl(k:q)(h:Hk q→p:=by intro qk;refine Y.alloc (zs:=[A5 0,A5 0,Af []]) (n:=1) (u:=Hp.length) Tryz.zeroValue42 (fun B hT hF hB=>⟨rfl,by simp [hB],by simp [upd,hB,hF 1 (by simp)],rfl⟩) ?_;exact qk.h):p:=h ⟨k⟩
theorem AQm(h:p:=by exact A8 (Ae (B8 Tryz.isAgg187 Tryz.sizeOf187)) ⟨by simp_all [Jt],rfl⟩):p:=h
theorem AQn(h:p:=by exact A8 (B1 A7 A7) ⟨by simp_all [Gi],rfl⟩):p:=h
theorem zd(k:q)(h:Hk q→p:=by intro qk;refine A2 [2,6,13,14,15] ?_;exact qk.h):p:=h ⟨k⟩
theorem AMb(h:p:=by exact A8 (B1 A7 A7) ⟨by rw [hk],rfl⟩):p:=h
theorem AHt(h:p:=by exact A8 (B1 A7 A7) ⟨by rw [hk,hk2],rfl⟩):p:=h
theorem ze(h:p:=by exact A8 (B1 (B8 jA jS) A7) ⟨by rw [hm];try rfl,rfl⟩):p:=h
theorem AMc(h:p:=by exact A8 (Ae A7) ⟨by rw [hf],rfl⟩):p:=h
theorem cu(k:q)(h:Hk q→p:=by intro qk;refine A2 [0,1,2] ?_;exact qk.h):p:=h ⟨k⟩
theorem zf(h:p:=by exact hcmp _ rfl rfl hf):p:=h
theorem ADu(h:p:=by exact har _ rfl rfl rfl hf):p:=h
theorem AQo(h:p:=by exact A8 (Ae (B8 jA jS)) ⟨by rw [e,Ax],by rw [e]⟩ (hlow:=low_agg _)):p:=h
theorem AQp(h:p:=by exact A8 (Ae A7) ⟨by rw [hm,hD]<;>rfl,rfl⟩):p:=h
theorem AQq(h:p:=by exact A8 (B1 A7 A7) ⟨by rw [hka,←hrf];unfold W3;first|rw [if_neg (by simpa using ht235)]|rw [if_pos (by simpa using ht235)],rfl⟩):p:=h
theorem AQr(h:p:=by exact A8 (Ae A7) ⟨by rw [hn];first|(simp only [ht22,ht25,ht33,ht41,ht41,ht50,ht58,hk3,hk6,Db,C7,Fp,Ky,if_true,if_false,Ag,↓reduceIte]<;>rfl)|(simp only [ht22,ht25,ht33,ht41,ht41,ht50,ht58,hk3,Db,C7,Fp,if_true,if_false,Ag,↓reduceIte]<;>rfl)|(simp only [ht22,ht25,ht33,ht41,ht41,ht50,ht58,if_true,if_false,Ag,↓reduceIte]<;>rfl),rfl⟩):p:=h
theorem ADv(h:p:=by exact A8 (Ae A7) ⟨by rw [hm]<;>rfl,rfl⟩):p:=h
theorem AQs(h:p:=by exact A8 (B1 A7 A7) ⟨by rw [hm],rfl⟩ (hlow:=by simp only [io,Bu,Fi,or_false];rintro y (rfl|rfl);exact Em;simp)):p:=h
theorem AMd(h:p:=by exact absurd h (by simpa using h1)):p:=h
theorem ADw(k:q)(h:Hk q→p:=by intro qk;refine A2 [1,3,6,10,12,27,28,29] ?_;exact qk.h):p:=h ⟨k⟩
theorem Jb(h:p:=by exact A8 (B1 (B8 jA jS) A7) ⟨by first|(rw [href];done)|(rw [href];rfl),rfl⟩):p:=h
theorem AQt(h:p:=by exact A8 (B1 A7 A7) ⟨by rw [hm2]<;>rfl,rfl⟩):p:=h
theorem AQu(h:p:=by exact ⟨i5 i,hl.step hi (by rw [hk];decide)⟩):p:=h
theorem rz(h:p:=by exact ⟨by omega,c2,c3⟩):p:=h
theorem ADx(h:p:=by exact (Dk hX (e)).elim):p:=h
theorem AQv(h:p:=by exact (Dk hX (by first|exact by unfold Wy;rw [hT];rfl|exact hT)).elim):p:=h
theorem AQw(h:p:=by exact (ASe L i o _ (Ar (Fd ho hne)) hi hl hll).ok hT):p:=h
theorem ADy(k:q)(h:Hk q→p:=by intro qk;refine AW.upEq (Un ho hm).symm ?_;exact qk.h):p:=h ⟨k⟩
theorem ADz(k:q)(h:Hk q→p:=by intro qk;refine A2 [0,8,9,11,13,17,18] ?_;exact qk.h):p:=h ⟨k⟩
theorem AHu(k:q)(h:Hk q→p:=by intro qk;refine A2 [0,8,9,11,13,17,18,19,20] ?_;exact qk.h):p:=h ⟨k⟩
theorem AQx(h:p:=by exact A8 (Ae (B8 jA jS)) ⟨by first|exact ANa (by simp_all [Dy])|exact AFv (by simp_all [Dy])|exact ANb (by simp_all [Dy]),rfl⟩):p:=h
theorem AQy(h:p:=by exact A8 (Ae (B8 jA jS)) ⟨by first|exact AFv (by simp_all [Di]),rfl⟩):p:=h
theorem AE0(h:p:=by exact A8 (B1 A7 A7) ⟨by rw [hm]<;>rfl,rfl⟩):p:=h
theorem AMe(h:p:=by exact A8 (Ae A7) ⟨by simp_all [If,Nu,AA7],rfl⟩):p:=h
theorem AQz(h:p:=by exact A8 (Ae A7) ⟨by simp_all [E9,Nu],rfl⟩):p:=h
theorem AMf(h:p:=by exact A8 (B1 A7 A7) ⟨by first|rw [hgood]|rw [AJa hd hil ht52]|rw [AJ9 hd ht33],rfl⟩):p:=h
theorem AMg(h:p:=by exact A8 (B1 A7 A7) ⟨by rw [hm],rfl⟩):p:=h
theorem AR0(h:p:=by exact A8 (B1 (B8 jA jS) A7) ⟨by rw [hw];try rfl,rfl⟩):p:=h
theorem AR1(k:q)(h:Hk q→p:=by intro qk;refine r6 ((k-1)) jU Tryz.sizeOf88 (by omega) (hm:=by omega) (hoff:=U9 (by omega)) ?_;exact qk.h):p:=h ⟨k⟩
end Go.SX.Nb
namespace Go.SX.Nb
open Go Go.SX Go.Proofs
@[reducible,instance] def JA2:=JA.mk (P:=Tryz.prog) Tryz.isAgg2
@[reducible,instance] def JA3:=JA.mk (P:=Tryz.prog) Tryz.isAgg3
@[reducible,instance] def JA4:=JA.mk (P:=Tryz.prog) Tryz.isAgg4
@[reducible,instance] def JA9:=JA.mk (P:=Tryz.prog) Tryz.isAgg9
@[reducible,instance] def AW4:=JA.mk (P:=Tryz.prog) Tryz.isAgg22
@[reducible,instance] def AW5:=JA.mk (P:=Tryz.prog) Tryz.isAgg23
@[reducible,instance] def AW6:=JA.mk (P:=Tryz.prog) Tryz.isAgg24
@[reducible,instance] def AW7:=JA.mk (P:=Tryz.prog) Tryz.isAgg27
@[reducible,instance] def AW8:=JA.mk (P:=Tryz.prog) Tryz.isAgg30
@[reducible,instance] def AW9:=JA.mk (P:=Tryz.prog) Tryz.isAgg36
@[reducible,instance] def AWa:=JA.mk (P:=Tryz.prog) Tryz.isAgg38
@[reducible,instance] def AWb:=JA.mk (P:=Tryz.prog) Tryz.isAgg42
@[reducible,instance] def AWc:=JA.mk (P:=Tryz.prog) Tryz.isAgg51
@[reducible,instance] def AWd:=JA.mk (P:=Tryz.prog) Tryz.isAgg52
@[reducible,instance] def AWe:=JA.mk (P:=Tryz.prog) Tryz.isAgg54
@[reducible,instance] def AWf:=JA.mk (P:=Tryz.prog) Tryz.isAgg62
@[reducible,instance] def AWg:=JA.mk (P:=Tryz.prog) Tryz.isAgg65
@[reducible,instance] def AWh:=JA.mk (P:=Tryz.prog) Tryz.isAgg68
@[reducible,instance] def AWi:=JA.mk (P:=Tryz.prog) Tryz.isAgg88
@[reducible,instance] def AWj:=JA.mk (P:=Tryz.prog) Tryz.isAgg89
@[reducible,instance] def AWk:=JA.mk (P:=Tryz.prog) Tryz.isAgg91
@[reducible,instance] def AVj:=JA.mk (P:=Tryz.prog) Tryz.isAgg103
@[reducible,instance] def AVk:=JA.mk (P:=Tryz.prog) Tryz.isAgg132
@[reducible,instance] def AVl:=JA.mk (P:=Tryz.prog) Tryz.isAgg138
@[reducible,instance] def AVm:=JA.mk (P:=Tryz.prog) Tryz.isAgg163
@[reducible,instance] def AVn:=JA.mk (P:=Tryz.prog) Tryz.isAgg187
@[reducible,instance] def AVo:=JA.mk (P:=Tryz.prog) Tryz.isAgg207
@[reducible,instance] def JS2:=JS.mk (P:=Tryz.prog) Tryz.sizeOf2
@[reducible,instance] def JS3:=JS.mk (P:=Tryz.prog) Tryz.sizeOf3
@[reducible,instance] def JS4:=JS.mk (P:=Tryz.prog) Tryz.sizeOf4
@[reducible,instance] def JS5:=JS.mk (P:=Tryz.prog) Tryz.sizeOf5
@[reducible,instance] def JS9:=JS.mk (P:=Tryz.prog) Tryz.sizeOf9
@[reducible,instance] def AWl:=JS.mk (P:=Tryz.prog) Tryz.sizeOf22
@[reducible,instance] def AWm:=JS.mk (P:=Tryz.prog) Tryz.sizeOf23
@[reducible,instance] def AWn:=JS.mk (P:=Tryz.prog) Tryz.sizeOf24
@[reducible,instance] def AWo:=JS.mk (P:=Tryz.prog) Tryz.sizeOf27
@[reducible,instance] def AWp:=JS.mk (P:=Tryz.prog) Tryz.sizeOf30
@[reducible,instance] def AWq:=JS.mk (P:=Tryz.prog) Tryz.sizeOf36
@[reducible,instance] def AWr:=JS.mk (P:=Tryz.prog) Tryz.sizeOf38
@[reducible,instance] def AWs:=JS.mk (P:=Tryz.prog) Tryz.sizeOf42
@[reducible,instance] def AWt:=JS.mk (P:=Tryz.prog) Tryz.sizeOf51
@[reducible,instance] def AWu:=JS.mk (P:=Tryz.prog) Tryz.sizeOf52
@[reducible,instance] def AWv:=JS.mk (P:=Tryz.prog) Tryz.sizeOf54
@[reducible,instance] def AWw:=JS.mk (P:=Tryz.prog) Tryz.sizeOf62
@[reducible,instance] def AWx:=JS.mk (P:=Tryz.prog) Tryz.sizeOf65
@[reducible,instance] def AWy:=JS.mk (P:=Tryz.prog) Tryz.sizeOf88
@[reducible,instance] def AWz:=JS.mk (P:=Tryz.prog) Tryz.sizeOf89
@[reducible,instance] def AX0:=JS.mk (P:=Tryz.prog) Tryz.sizeOf91
@[reducible,instance] def AVp:=JS.mk (P:=Tryz.prog) Tryz.sizeOf103
@[reducible,instance] def AVq:=JS.mk (P:=Tryz.prog) Tryz.sizeOf138
@[reducible,instance] def AVr:=JS.mk (P:=Tryz.prog) Tryz.sizeOf163
@[reducible,instance] def AVs:=JS.mk (P:=Tryz.prog) Tryz.sizeOf187
@[reducible,instance] def JU2:=JU.mk (P:=Tryz.prog) Tryz.underlying2
@[reducible,instance] def JU3:=JU.mk (P:=Tryz.prog) Tryz.underlying3
@[reducible,instance] def JU4:=JU.mk (P:=Tryz.prog) Tryz.underlying4
@[reducible,instance] def JU5:=JU.mk (P:=Tryz.prog) Tryz.underlying5
@[reducible,instance] def JU9:=JU.mk (P:=Tryz.prog) Tryz.underlying9
@[reducible,instance] def AX1:=JU.mk (P:=Tryz.prog) Tryz.underlying20
@[reducible,instance] def AX2:=JU.mk (P:=Tryz.prog) Tryz.underlying22
@[reducible,instance] def AX3:=JU.mk (P:=Tryz.prog) Tryz.underlying23
@[reducible,instance] def AX4:=JU.mk (P:=Tryz.prog) Tryz.underlying24
@[reducible,instance] def AX5:=JU.mk (P:=Tryz.prog) Tryz.underlying30
@[reducible,instance] def AX6:=JU.mk (P:=Tryz.prog) Tryz.underlying36
@[reducible,instance] def AX7:=JU.mk (P:=Tryz.prog) Tryz.underlying38
@[reducible,instance] def AX8:=JU.mk (P:=Tryz.prog) Tryz.underlying42
@[reducible,instance] def AX9:=JU.mk (P:=Tryz.prog) Tryz.underlying51
@[reducible,instance] def AXa:=JU.mk (P:=Tryz.prog) Tryz.underlying52
@[reducible,instance] def AXb:=JU.mk (P:=Tryz.prog) Tryz.underlying54
@[reducible,instance] def AXc:=JU.mk (P:=Tryz.prog) Tryz.underlying62
@[reducible,instance] def AXd:=JU.mk (P:=Tryz.prog) Tryz.underlying65
@[reducible,instance] def AXe:=JU.mk (P:=Tryz.prog) Tryz.underlying70
@[reducible,instance] def AXf:=JU.mk (P:=Tryz.prog) Tryz.underlying88
@[reducible,instance] def AXg:=JU.mk (P:=Tryz.prog) Tryz.underlying89
@[reducible,instance] def AXh:=JU.mk (P:=Tryz.prog) Tryz.underlying91
@[reducible,instance] def AVt:=JU.mk (P:=Tryz.prog) Tryz.underlying103
@[reducible,instance] def AVu:=JU.mk (P:=Tryz.prog) Tryz.underlying123
@[reducible,instance] def AVv:=JU.mk (P:=Tryz.prog) Tryz.underlying138
@[reducible,instance] def AVw:=JU.mk (P:=Tryz.prog) Tryz.underlying140
@[reducible,instance] def AVx:=JU.mk (P:=Tryz.prog) Tryz.underlying163
@[reducible,instance] def AVy:=JU.mk (P:=Tryz.prog) Tryz.underlying187
@[reducible,instance] def AVz:=JU.mk (P:=Tryz.prog) Tryz.underlying209
@[reducible,instance] def JZ3:=JZ.mk (P:=Tryz.prog) Tryz.zeroValue3
@[reducible,instance] def JZ4:=JZ.mk (P:=Tryz.prog) Tryz.zeroValue4
@[reducible,instance] def JZ5:=JZ.mk (P:=Tryz.prog) Tryz.zeroValue5
@[reducible,instance] def JZ9:=JZ.mk (P:=Tryz.prog) Tryz.zeroValue9
@[reducible,instance] def AXi:=JZ.mk (P:=Tryz.prog) Tryz.zeroValue22
@[reducible,instance] def AXj:=JZ.mk (P:=Tryz.prog) Tryz.zeroValue23
@[reducible,instance] def AXk:=JZ.mk (P:=Tryz.prog) Tryz.zeroValue24
@[reducible,instance] def AXl:=JZ.mk (P:=Tryz.prog) Tryz.zeroValue27
@[reducible,instance] def AXm:=JZ.mk (P:=Tryz.prog) Tryz.zeroValue30
@[reducible,instance] def AXn:=JZ.mk (P:=Tryz.prog) Tryz.zeroValue36
@[reducible,instance] def AXo:=JZ.mk (P:=Tryz.prog) Tryz.zeroValue38
@[reducible,instance] def AXp:=JZ.mk (P:=Tryz.prog) Tryz.zeroValue42
@[reducible,instance] def AXq:=JZ.mk (P:=Tryz.prog) Tryz.zeroValue51
@[reducible,instance] def AXr:=JZ.mk (P:=Tryz.prog) Tryz.zeroValue54
@[reducible,instance] def AXs:=JZ.mk (P:=Tryz.prog) Tryz.zeroValue62
@[reducible,instance] def AXt:=JZ.mk (P:=Tryz.prog) Tryz.zeroValue65
@[reducible,instance] def AXu:=JZ.mk (P:=Tryz.prog) Tryz.zeroValue70
@[reducible,instance] def AXv:=JZ.mk (P:=Tryz.prog) Tryz.zeroValue91
@[reducible,instance] def AW0:=JZ.mk (P:=Tryz.prog) Tryz.zeroValue103
@[reducible,instance] def AW1:=JZ.mk (P:=Tryz.prog) Tryz.zeroValue138
@[reducible,instance] def AW2:=JZ.mk (P:=Tryz.prog) Tryz.zeroValue187
@[reducible,instance] def AW3:=JZ.mk (P:=Tryz.prog) Tryz.zeroValue209
end Go.SX.Nb
