/- On the way (part 3). -/
import Derived.Test.YtcmnamfkljlglaaGreatDoorProg
import Derived.Test.YtcmnamfkljlglaaGreatDoorBothWritesCardSaidPart2
set_option linter.all false
namespace Go.SX.Nb
open Go Go.SX Go.Proofs
structure Hk (q:Prop):Prop where h:q
variable {p q:Prop}
theorem Z0(k:q)(h:Hk q→p:=by intro qk;refine A2 ?_;refine A2 ?_;exact qk.h):p:=h ⟨k⟩
theorem Z1(k:q)(h:Hk q→p:=by intro qk;refine Dv ?_;refine Z0 ?_;exact qk.h):p:=h ⟨k⟩
theorem Z2(k:q)(h:Hk q→p:=by intro qk;refine Dv ?_;refine A2 ?_;exact qk.h):p:=h ⟨k⟩
theorem Z3(k:q)(h:Hk q→p:=by intro qk;refine Me ?_;refine Dk ?_;exact qk.h):p:=h ⟨k⟩
theorem Z4(k:q)(h:Hk q→p:=by intro qk;refine A0 [2] ?_;refine Fq ?_;exact qk.h):p:=h ⟨k⟩
theorem Z6(k:q)(h:Hk q→p:=by intro qk;refine K.blR ?_;refine C4 ?_;exact qk.h):p:=h ⟨k⟩
theorem Z7(k:q)(h:Hk q→p:=by intro qk;refine F9 ?_;refine A2 ?_;exact qk.h):p:=h ⟨k⟩
theorem Z8(k:q)(h:Hk q→p:=by intro qk;refine K9 ?_;refine Z1 ?_;exact qk.h):p:=h ⟨k⟩
theorem Z9(k:q)(h:Hk q→p:=by intro qk;refine A0 [6,7] ?_;refine Fq ?_;exact qk.h):p:=h ⟨k⟩
theorem Z10(k:q)(h:Hk q→p:=by intro qk;refine B8 ?_;refine B8 ?_;exact qk.h):p:=h ⟨k⟩
theorem Z11(k:q)(h:Hk q→p:=by intro qk;refine K.blN ?_;refine Dk ?_;exact qk.h):p:=h ⟨k⟩
theorem Z12(k:q)(h:Hk q→p:=by intro qk;refine A0 [4,5] ?_;refine Fq ?_;exact qk.h):p:=h ⟨k⟩
theorem Z13(k:q)(h:Hk q→p:=by intro qk;refine Z0 ?_;refine A2 ?_;exact qk.h):p:=h ⟨k⟩
theorem Z14(k:q)(h:Hk q→p:=by intro qk;refine me ?_;refine Z7 ?_;exact qk.h):p:=h ⟨k⟩
theorem Z17(k:q)(h:Hk q→p:=by intro qk;refine Ag ?_;refine Ag ?_;exact qk.h):p:=h ⟨k⟩
theorem Z18(k:q)(h:Hk q→p:=by intro qk;refine Z1 ?_;refine A2 ?_;exact qk.h):p:=h ⟨k⟩
theorem Z19(k:q)(h:Hk q→p:=by intro qk;refine Me ?_;refine Z11 ?_;exact qk.h):p:=h ⟨k⟩
theorem Z20(k:q)(h:Hk q→p:=by intro qk;refine K9 ?_;refine Ii ?_;exact qk.h):p:=h ⟨k⟩
theorem Z21(k:q)(h:Hk q→p:=by intro qk;refine A0 [4] ?_;refine Fq ?_;exact qk.h):p:=h ⟨k⟩
theorem Z22(k:q)(h:Hk q→p:=by intro qk;refine F9 ?_;refine Z4 ?_;exact qk.h):p:=h ⟨k⟩
theorem Z23(h:p:=by refine C4 ?_;exact bi):p:=h
theorem Z25(h:p:=by refine Z6 ?_;exact bj):p:=h
theorem Z26(k:q)(h:Hk q→p:=by intro qk;refine Z9 ?_;refine C4 ?_;exact qk.h):p:=h ⟨k⟩
theorem Z27(k:q)(h:Hk q→p:=by intro qk;refine Z8 ?_;refine A2 ?_;exact qk.h):p:=h ⟨k⟩
theorem Z28(k:q)(h:Hk q→p:=by intro qk;refine Mf ?_;refine Z13 ?_;exact qk.h):p:=h ⟨k⟩
theorem Z29(k:q)(h:Hk q→p:=by intro qk;refine Z0 ?_;refine Z10 ?_;exact qk.h):p:=h ⟨k⟩
theorem Z30(k:q)(h:Hk q→p:=by intro qk;refine K.lpE ?_;refine Dk ?_;exact qk.h):p:=h ⟨k⟩
theorem Z31(k:q)(h:Hk q→p:=by intro qk;refine Mf ?_;refine Z0 ?_;exact qk.h):p:=h ⟨k⟩
theorem Z32(k:q)(h:Hk q→p:=by intro qk;refine K9 ?_;refine Z2 ?_;exact qk.h):p:=h ⟨k⟩
theorem Z33(k:q)(h:Hk q→p:=by intro qk;refine Z2 ?_;refine Z4 ?_;exact qk.h):p:=h ⟨k⟩
theorem Z34(k:q)(h:Hk q→p:=by intro qk;refine O0 ?_;refine F9 ?_;exact qk.h):p:=h ⟨k⟩
theorem Z35(k:q)(h:Hk q→p:=by intro qk;refine Z6 ?_;refine K.lpR ?_;exact qk.h):p:=h ⟨k⟩
theorem Z36(k:q)(h:Hk q→p:=by intro qk;refine Dv ?_;refine Ui ?_;refine Mm (places:=#[(0,1),(1,1)]) jU (fun w=>by simp) jZ ?_;exact qk.h):p:=h ⟨k⟩
theorem Z38(k:q)(h:Hk q→p:=by intro qk;refine AW.exit ?_;refine K.thE ?_;exact qk.h):p:=h ⟨k⟩
theorem Z39(k:q)(h:Hk q→p:=by intro qk;refine Z1 ?_;refine Z0 ?_;exact qk.h):p:=h ⟨k⟩
theorem Z40(k:q)(h:Hk q→p:=by intro qk;refine Z7 ?_;refine Z26 ?_;exact qk.h):p:=h ⟨k⟩
theorem Z41(k:q)(h:Hk q→p:=by intro qk;refine Z35 ?_;refine C4 ?_;exact qk.h):p:=h ⟨k⟩
theorem Z42(k:q)(h:Hk q→p:=by intro qk;refine Z36 ?_;refine Z22 ?_;exact qk.h):p:=h ⟨k⟩
theorem Z43(k:q)(h:Hk q→p:=by intro qk;refine Z12 ?_;refine C4 ?_;exact qk.h):p:=h ⟨k⟩
theorem Z44(k:q)(h:Hk q→p:=by intro qk;refine Z3 ?_;refine Z20 ?_;exact qk.h):p:=h ⟨k⟩
theorem Z45(k:q)(h:Hk q→p:=by intro qk;refine Z17 ?_;refine Ag ?_;exact qk.h):p:=h ⟨k⟩
theorem Z47(k:q)(h:Hk q→p:=by intro qk;refine Z38 ?_;refine Z30 ?_;exact qk.h):p:=h ⟨k⟩
theorem Z48(k:q)(h:Hk q→p:=by intro qk;refine Dv ?_;refine me ?_;exact qk.h):p:=h ⟨k⟩
theorem Z49(k:q)(h:Hk q→p:=by intro qk;refine Z2 ?_;refine A0 [0] ?_;exact qk.h):p:=h ⟨k⟩
theorem Z50(k:q)(h:Hk q→p:=by intro qk;refine B8 ?_;refine A2 ?_;exact qk.h):p:=h ⟨k⟩
theorem Z51(k:q)(h:Hk q→p:=by intro qk;refine Mf ?_;refine A2 ?_;exact qk.h):p:=h ⟨k⟩
theorem Z52(k:q)(h:Hk q→p:=by intro qk;refine K9 ?_;refine Dv ?_;exact qk.h):p:=h ⟨k⟩
theorem Z53(k:q)(h:Hk q→p:=by intro qk;refine Z29 ?_;refine Z10 ?_;exact qk.h):p:=h ⟨k⟩
theorem Z54(k:q)(h:Hk q→p:=by intro qk;refine A0 [2,3] ?_;refine Fq ?_;exact qk.h):p:=h ⟨k⟩
theorem Z55(k:q)(h:Hk q→p:=by intro qk;refine O0 ?_;refine A2 ?_;exact qk.h):p:=h ⟨k⟩
theorem Z56(k:q)(h:Hk q→p:=by intro qk;refine Z0 ?_;refine Z4 ?_;exact qk.h):p:=h ⟨k⟩
theorem Z58(k:q)(h:Hk q→p:=by intro qk;refine Z2 ?_;refine A0 [0,1] ?_;exact qk.h):p:=h ⟨k⟩
theorem Z60(k:q)(h:Hk q→p:=by intro qk;refine A2 ?_;refine Ui ?_;exact qk.h):p:=h ⟨k⟩
theorem Z61(h:p:=by refine K.thJ ?_;exact B0 (by unfold Jn;first|(simp only [ht38,ht41,ht49,ht57,ht57,ht66,ht74,hk3,hk6,B3,Av,Eo,Ib,if_true,if_false,A8,↓reduceIte]<;>rfl)|(simp only [ht38,ht41,ht49,ht57,ht57,ht66,ht74,hk3,B3,Av,Eo,if_true,if_false,A8,↓reduceIte]<;>rfl)|(simp only [ht38,ht41,ht49,ht57,ht57,ht66,ht74,if_true,if_false,A8,↓reduceIte]<;>rfl))):p:=h
theorem Z62(k:q)(h:Hk q→p:=by intro qk;refine A6 Tryz.call104 (AHs _ _) ?_;refine Z0 ?_;exact qk.h):p:=h ⟨k⟩
theorem Z63(k:q)(h:Hk q→p:=by intro qk;refine F4 ?_;refine F4 ?_;exact qk.h):p:=h ⟨k⟩
theorem Z64(h:p:=by refine Z6 ?_;exact ABe):p:=h
theorem Z65(h:p:=by refine Z6 ?_;exact A7 (Ai A3) ⟨by rw [hn];first|(simp only [ht22,ht25,ht33,ht41,ht41,hk3,hk6,B3,Av,Eo,Ib,if_true,if_false,A8,↓reduceIte]<;>rfl)|(simp only [ht22,ht25,ht33,ht41,ht41,hk3,B3,Av,Eo,if_true,if_false,A8,↓reduceIte]<;>rfl)|(simp only [ht22,ht25,ht33,ht41,ht41,if_true,if_false,A8,↓reduceIte]<;>rfl),rfl⟩):p:=h
theorem Z66(k:q)(h:Hk q→p:=by intro qk;refine Z3 ?_;refine Z27 ?_;exact qk.h):p:=h ⟨k⟩
theorem Z67(k:q)(h:Hk q→p:=by intro qk;refine Z0 ?_;refine Z13 ?_;exact qk.h):p:=h ⟨k⟩
theorem Z68(h:p:=by refine K.thJ ?_;exact B0 (by unfold Jn;first|(simp only [ht38,ht41,ht49,ht57,ht57,hk3,hk6,B3,Av,Eo,Ib,if_true,if_false,A8,↓reduceIte]<;>rfl)|(simp only [ht38,ht41,ht49,ht57,ht57,hk3,B3,Av,Eo,if_true,if_false,A8,↓reduceIte]<;>rfl)|(simp only [ht38,ht41,ht49,ht57,ht57,if_true,if_false,A8,↓reduceIte]<;>rfl))):p:=h
theorem Z69(k:q)(h:Hk q→p:=by intro qk;refine Dv ?_;refine R.buildLe (Pb W4) zi (places:=#[(0,1),(1,1),(2,1),(3,1)]) jU (fun w=>by simp) Tryz.zeroValue30 ?_;exact qk.h):p:=h ⟨k⟩
theorem Z71(k:q)(h:Hk q→p:=by intro qk;refine Z2 ?_;refine Z21 ?_;exact qk.h):p:=h ⟨k⟩
theorem Z72(k:q)(h:Hk q→p:=by intro qk;refine Z2 ?_;refine Z40 ?_;exact qk.h):p:=h ⟨k⟩
theorem Z73(h:p:=by refine Z33 ?_;refine Z6 ?_;exact A7 (Ai A3) ⟨by simp_all [Rg],rfl⟩):p:=h
theorem Z74(h:p:=by refine Z12 ?_;exact bj):p:=h
theorem Z75(k:q)(h:Hk q→p:=by intro qk;refine A0 [6] ?_;refine Fq ?_;exact qk.h):p:=h ⟨k⟩
theorem Z76(k:q)(h:Hk q→p:=by intro qk;refine Z8 ?_;refine Z0 ?_;exact qk.h):p:=h ⟨k⟩
theorem Z77(k:q)(h:Hk q→p:=by intro qk;refine Z3 ?_;refine Z18 ?_;exact qk.h):p:=h ⟨k⟩
theorem Z78(h:p:=by refine Z42 ?_;refine Z6 ?_;exact AFb):p:=h
theorem Z79(k:q)(h:Hk q→p:=by intro qk;refine Z19 ?_;refine Z28 ?_;exact qk.h):p:=h ⟨k⟩
theorem Z80(k:q)(h:Hk q→p:=by intro qk;refine R.nilTmp 6 3 false ?_;refine A2 ?_;exact qk.h):p:=h ⟨k⟩
theorem Z81(k:q)(h:Hk q→p:=by intro qk;refine AF3 ?_;refine Y.storeOwnT (u:=Hp.length) (n:=1) (t':=44) (cs:=[A5 0,A5 0,Ax []]) (cs':=[A5 (B1 ra).1.kind,A5 (B1 ra).1.n,Ax (B1 ra).1.s]) Tryz.sizeOf44 (fun B hT hF hB=>⟨rfl,by simp [hT 0 (by simp),hB],by simp [upd,hT 0 (by simp),hB],rfl⟩) ?_;exact qk.h):p:=h ⟨k⟩
theorem Z82(k:q)(h:Hk q→p:=by intro qk;refine Mm (places:=#[(0,1),(1,5)]) jU (fun w=>by simp) jZ ?_;refine Z34 ?_;exact qk.h):p:=h ⟨k⟩
theorem Z83(h:p:=by refine Z43 ?_;exact bj):p:=h
theorem Z84(k:q)(h:Hk q→p:=by intro qk;refine Z3 ?_;refine Z1 ?_;exact qk.h):p:=h ⟨k⟩
theorem Z85(k:q)(h:Hk q→p:=by intro qk;refine Z17 ?_;refine Fx ?_;exact qk.h):p:=h ⟨k⟩
theorem Z86(k:q)(h:Hk q→p:=by intro qk;refine Dv ?_;refine Ui ?_;exact qk.h):p:=h ⟨k⟩
theorem Z88(k:q)(h:Hk q→p:=by intro qk;refine Z11 ?_;refine Z28 ?_;exact qk.h):p:=h ⟨k⟩
theorem Z89(k:q)(h:Hk q→p:=by intro qk;refine Mf ?_;refine R.moveT ?_;exact qk.h):p:=h ⟨k⟩
theorem Z91(k:q)(h:Hk q→p:=by intro qk;refine Z9 ?_;refine Z6 ?_;exact qk.h):p:=h ⟨k⟩
theorem Z92(k:q)(h:Hk q→p:=by intro qk;refine B8 ?_;refine Z0 ?_;exact qk.h):p:=h ⟨k⟩
theorem Z93(k:q)(h:Hk q→p:=by intro qk;refine Z0 ?_;refine Z0 ?_;exact qk.h):p:=h ⟨k⟩
theorem Z95(k:q)(h:Hk q→p:=by intro qk;refine Ii ?_;refine Z1 ?_;exact qk.h):p:=h ⟨k⟩
theorem Z96(k:q)(h:Hk q→p:=by intro qk;refine Dv ?_;refine R.freeze (k:=2) (n:=1) 5 1 [Cb ⟨y.name,(c.getD (Bg s c).toNat ⟨[],0⟩).kind⟩] hcc rfl rfl (dm [⟨y.name,(c.getD (Bg s c).toNat ⟨[],0⟩).kind⟩]) (dn [⟨y.name,(c.getD (Bg s c).toNat ⟨[],0⟩).kind⟩]) (Vq [⟨y.name,(c.getD (Bg s c).toNat ⟨[],0⟩).kind⟩]) ?_;exact qk.h):p:=h ⟨k⟩
theorem Z97(k:q)(h:Hk q→p:=by intro qk;refine Z13 ?_;refine O0 ?_;exact qk.h):p:=h ⟨k⟩
theorem Z98(k:q)(h:Hk q→p:=by intro qk;refine Dv ?_;refine O0 ?_;exact qk.h):p:=h ⟨k⟩
theorem Ja(k:q)(h:Hk q→p:=by intro qk;refine Z3 ?_;refine Z2 ?_;exact qk.h):p:=h ⟨k⟩
theorem Ka(k:q)(h:Hk q→p:=by intro qk;refine Z19 ?_;refine Z31 ?_;exact qk.h):p:=h ⟨k⟩
theorem Kl(k:q)(h:Hk q→p:=by intro qk;refine Z10 ?_;refine A2 ?_;exact qk.h):p:=h ⟨k⟩
theorem Ms(k:q)(h:Hk q→p:=by intro qk;refine Z72 ?_;refine C4 ?_;exact qk.h):p:=h ⟨k⟩
theorem M1(k:q)(h:Hk q→p:=by intro qk;refine Z1 ?_;refine Z43 ?_;exact qk.h):p:=h ⟨k⟩
theorem U7(k:q)(h:Hk q→p:=by intro qk;refine Z14 ?_;refine Z26 ?_;exact qk.h):p:=h ⟨k⟩
theorem ACy(k:q)(h:Hk q→p:=by intro qk;refine Z8 ?_;refine A0 [11,235] ?_;exact qk.h):p:=h ⟨k⟩
theorem vf(k:q)(h:Hk q→p:=by intro qk;refine A6 Tryz.call64 (c64 (Ab c l (x.kids.getD 0 Af)).1.n ⟨fa.lo,fa.hi⟩ _) ?_;refine U7 ?_;exact qk.h):p:=h ⟨k⟩
theorem Qt(h:p:=by refine Z7 ?_;refine Z12 ?_;exact Z25):p:=h
theorem ACz(h:p:=by refine C4 ?_;exact r6):p:=h
theorem Nz(h:p:=by refine Z42 ?_;refine Z6 ?_;exact AFa):p:=h
theorem Qu(k:q)(h:Hk q→p:=by intro qk;refine Ag ?_;refine Fx ?_;exact qk.h):p:=h ⟨k⟩
theorem Sf(k:q)(h:Hk q→p:=by intro qk;refine Z1 ?_;refine A0 [2,18] ?_;exact qk.h):p:=h ⟨k⟩
theorem Sg(k:q)(h:Hk q→p:=by intro qk;refine Z18 ?_;refine Z10 ?_;exact qk.h):p:=h ⟨k⟩
theorem vg(k:q)(h:Hk q→p:=by intro qk;refine Z0 ?_;refine A6 Tryz.call161 (AHt _ _ _) ?_;exact qk.h):p:=h ⟨k⟩
theorem Po(k:q)(h:Hk q→p:=by intro qk;refine Z20 ?_;refine Dv ?_;exact qk.h):p:=h ⟨k⟩
theorem Pp(k:q)(h:Hk q→p:=by intro qk;refine Z1 ?_;refine A0 [1] ?_;exact qk.h):p:=h ⟨k⟩
theorem U8(h:p:=by refine Z35 ?_;exact Z23):p:=h
theorem az(k:q)(h:Hk q→p:=by intro qk;refine Z13 ?_;refine A0 [6,10,21,301] ?_;exact qk.h):p:=h ⟨k⟩
theorem Mt(k:q)(h:Hk q→p:=by intro qk;refine Z3 ?_;refine Z8 ?_;exact qk.h):p:=h ⟨k⟩
theorem qd(k:q)(h:Hk q→p:=by intro qk;refine Z17 ?_;refine U3 (k) jU Tryz.sizeOf77 hk ?_;exact qk.h):p:=h ⟨k⟩
theorem Sh(k:q)(h:Hk q→p:=by intro qk;refine Z1 ?_;refine A0 [13] ?_;exact qk.h):p:=h ⟨k⟩
theorem qe(h:p:=by refine Z71 ?_;exact bi):p:=h
theorem AAq(h:p:=by refine A0 [0,1,7,8] ?_;exact As (x+1) ⟨hlt,Bs hlt hx.2 ht16⟩ (by omega) (Bk rfl)):p:=h
theorem M2(k:q)(h:Hk q→p:=by intro qk;refine Z8 ?_;refine Z13 ?_;exact qk.h):p:=h ⟨k⟩
theorem vh(h:p:=by refine Z41 ?_;exact ge):p:=h
theorem Pq(k:q)(h:Hk q→p:=by intro qk;refine Z3 ?_;refine Z32 ?_;exact qk.h):p:=h ⟨k⟩
theorem We(k:q)(h:Hk q→p:=by intro qk;refine Z1 ?_;refine A0 [2,3,9] ?_;exact qk.h):p:=h ⟨k⟩
theorem Yl(k:q)(h:Hk q→p:=by intro qk;refine Z3 ?_;refine Z39 ?_;exact qk.h):p:=h ⟨k⟩
theorem vi(k:q)(h:Hk q→p:=by intro qk;refine Z13 ?_;refine A6 Tryz.call41 (hev (x.kids.getD 1 Af) (Ln hk1) _) ?_;exact qk.h):p:=h ⟨k⟩
theorem AAr(h:p:=by refine Z6 ?_;exact AF4):p:=h
theorem Pr(k:q)(h:Hk q→p:=by intro qk;refine A2 ?_;refine Z34 ?_;exact qk.h):p:=h ⟨k⟩
theorem Ps(k:q)(h:Hk q→p:=by intro qk;refine Z77 ?_;refine Z12 ?_;exact qk.h):p:=h ⟨k⟩
theorem fp(h:p:=by refine Z56 ?_;exact Yp):p:=h
theorem Ot(k:q)(h:Hk q→p:=by intro qk;refine Z10 ?_;refine Z10 ?_;exact qk.h):p:=h ⟨k⟩
theorem Si(h:p:=by refine Z19 ?_;refine Z33 ?_;exact A7 (Ai A3) ⟨by simp_all [Rg],rfl⟩):p:=h
theorem Sj(h:p:=by refine Z19 ?_;refine Z36 ?_;refine Z22 ?_;exact AFb):p:=h
theorem Wf(k:q)(h:Hk q→p:=by intro qk;refine Dv ?_;refine R.moveT ?_;exact qk.h):p:=h ⟨k⟩
theorem m5(k:q)(h:Hk q→p:=by intro qk;refine A6 Tryz.call59 (c59 _ _) ?_;refine Z40 ?_;exact qk.h):p:=h ⟨k⟩
theorem vj(k:q)(h:Hk q→p:=by intro qk;refine Mq (1) jU Tryz.sizeOf77 (by decide) ?_;refine F9 ?_;exact qk.h):p:=h ⟨k⟩
theorem AD0(h:p:=by refine Z9 ?_;exact A7 (Aj A3 A3) ⟨by rw [hm1],rfl⟩ (hlow:=by simpa using (Cp (n:=Hp.length) (k:=3) (o:=false) (l:=(fwM c l row l.length).1)))):p:=h
theorem U9(k:q)(h:Hk q→p:=by intro qk;refine Z12 ?_;refine Z6 ?_;exact qk.h):p:=h ⟨k⟩
theorem AAs(h:p:=by refine C4 ?_;exact bj):p:=h
theorem Qv(k:q)(h:Hk q→p:=by intro qk;refine B8 ?_;refine Z29 ?_;exact qk.h):p:=h ⟨k⟩
theorem vk(k:q)(h:Hk q→p:=by intro qk;refine A6 Tryz.call63 (n5 (Ab c l (x.kids.getD 0 Af)).1.n fa.lo fa.hi _) ?_;refine A6 Tryz.call62 (c62 _ _ _) ?_;refine A6 Tryz.call61 (c61 _ _ (ABx fa.lo fa.hi).1 _) ?_;exact qk.h):p:=h ⟨k⟩
theorem AAt(h:p:=by refine Z71 ?_;exact A7 (Ai A3) ⟨by rw [j3 (Gm hxe hx.2)],rfl⟩):p:=h
theorem Sk(k:q)(h:Hk q→p:=by intro qk;refine Z0 ?_;refine Z7 ?_;exact qk.h):p:=h ⟨k⟩
theorem AAu(h:p:=by refine Z40 ?_;exact bj):p:=h
theorem AD1(k:q)(h:Hk q→p:=by intro qk;refine Dv ?_;refine R.freeze (k:=2) (n:=1) 5 1 [Cb ⟨y.name,y.kind⟩] hcc rfl rfl (dm [⟨y.name,y.kind⟩]) (dn [⟨y.name,y.kind⟩]) (Vq [⟨y.name,y.kind⟩]) ?_;exact qk.h):p:=h ⟨k⟩
theorem Pt(k:q)(h:Hk q→p:=by intro qk;refine Z97 ?_;refine Z7 ?_;exact qk.h):p:=h ⟨k⟩
theorem AD2(h:p:=by refine Z4 ?_;exact A7 (Ai A3) ⟨rfl,rfl⟩ (hlow:=by simp [or_imp,forall_and];exact ⟨fun m _ a _=>Dg _ a,fun m _ a _=>Dg _ a⟩)):p:=h
theorem Ua(k:q)(h:Hk q→p:=by intro qk;refine Z0 ?_;refine Z21 ?_;exact qk.h):p:=h ⟨k⟩
theorem AD3(h:p:=by refine A0 [0,1,2,10,11] ?_;exact As (i+1) hli (by omega) (Bk (by simp only [hst,Cf,Cw,Fc]<;>rfl))):p:=h
theorem AAv(h:p:=by refine Z41 ?_;exact A7 (Ai A3) ⟨by rw [ud hlt ht16 hx.2],rfl⟩):p:=h
theorem Qw(k:q)(h:Hk q→p:=by intro qk;refine Z44 ?_;refine Z1 ?_;exact qk.h):p:=h ⟨k⟩
theorem Qx(k:q)(h:Hk q→p:=by intro qk;refine Z17 ?_;refine Z17 ?_;exact qk.h):p:=h ⟨k⟩
theorem b6(k:q)(h:Hk q→p:=by intro qk;refine Z1 ?_;refine A0 [0,1,2] ?_;exact qk.h):p:=h ⟨k⟩
theorem vl(k:q)(h:Hk q→p:=by intro qk;refine Dv ?_;refine Z62 ?_;exact qk.h):p:=h ⟨k⟩
theorem AAw(h:p:=by refine Ua ?_;exact A7 (Ai A3) ⟨by rw [←o4];try rfl,rfl⟩):p:=h
theorem Ub(k:q)(h:Hk q→p:=by intro qk;refine A0 [11,12] ?_;refine Z11 ?_;refine ACy ?_;exact qk.h):p:=h ⟨k⟩
theorem Sl(k:q)(h:Hk q→p:=by intro qk;refine Z2 ?_;refine Z75 ?_;exact qk.h):p:=h ⟨k⟩
theorem vm(k:q)(h:Hk q→p:=by intro qk;refine A2 ?_;refine wu ?_;exact qk.h):p:=h ⟨k⟩
theorem AAx(k:q)(h:Hk q→p:=by intro qk;refine Df [0,0,2,6,14,31,63,63,255,511] 8 An (by kernel_rfl) ?_;refine Z45 ?_;exact qk.h):p:=h ⟨k⟩
theorem Ym(k:q)(h:Hk q→p:=by intro qk;refine Z33 ?_;refine Z41 ?_;exact qk.h):p:=h ⟨k⟩
theorem b7(k:q)(h:Hk q→p:=by intro qk;refine Z98 ?_;refine A0 [0,2] ?_;exact qk.h):p:=h ⟨k⟩
theorem Uc(k:q)(h:Hk q→p:=by intro qk;refine B8 ?_;refine Z53 ?_;exact qk.h):p:=h ⟨k⟩
theorem Ud(k:q)(h:Hk q→p:=by intro qk;refine Z2 ?_;refine Oq 6 2 ?_;refine A2 ?_;exact qk.h):p:=h ⟨k⟩
theorem Ue(k:q)(h:Hk q→p:=by intro qk;refine Z44 ?_;refine Z18 ?_;exact qk.h):p:=h ⟨k⟩
theorem AAy(k:q)(h:Hk q→p:=by intro qk;refine Df [0,0,3,7,0,0,48,112,255] 8 An (by kernel_rfl) ?_;refine Z17 ?_;exact qk.h):p:=h ⟨k⟩
theorem Uf(k:q)(h:Hk q→p:=by intro qk;refine Z11 ?_;refine Z31 ?_;exact qk.h):p:=h ⟨k⟩
theorem AAz(h:p:=by refine Ym ?_;exact r6):p:=h
theorem AB0(k:q)(h:Hk q→p:=by intro qk;refine R.nilTmp 4 2 false ?_;refine A2 ?_;exact qk.h):p:=h ⟨k⟩
theorem AD4(h:p:=by refine Z80 ?_;refine Z26 ?_;exact ge):p:=h
theorem AD5(k:q)(h:Hk q→p:=by intro qk;refine Oo (tn:=[9,10]) (O:=[.cells 44 [A5 0,A5 0,Ax []],.cells 44 [A5 (B1 ra).1.kind,A5 (B1 ra).1.n,Ax (B1 ra).1.s]]) ?_;refine A2 ?_;exact qk.h):p:=h ⟨k⟩
theorem b8(k:q)(h:Hk q→p:=by intro qk;refine Z1 ?_;refine A0 [0,1] ?_;exact qk.h):p:=h ⟨k⟩
theorem AB1(h:p:=by refine C4 ?_;exact A7 (Aj A3 A3) ⟨by rw [hw],rfl⟩):p:=h
theorem AD6(h:p:=by refine Z41 ?_;exact ABf):p:=h
theorem AD7(h:p:=by refine Z54 ?_;exact ABf):p:=h
theorem b9(k:q)(h:Hk q→p:=by intro qk;refine Z86 ?_;refine Ge ?_;exact qk.h):p:=h ⟨k⟩
theorem ba(h:p:=by refine Z56 ?_;refine Z6 ?_;exact AFc):p:=h
theorem Uh(k:q)(h:Hk q→p:=by intro qk;refine Z20 ?_;refine Z2 ?_;exact qk.h):p:=h ⟨k⟩
theorem bb(k:q)(h:Hk q→p:=by intro qk;refine Dv ?_;refine R.box ?_;exact qk.h):p:=h ⟨k⟩
theorem fq(k:q)(h:Hk q→p:=by intro qk;refine Z18 ?_;refine A0 [2,3] ?_;exact qk.h):p:=h ⟨k⟩
theorem fu(k:q)(h:Hk q→p:=by intro qk;refine Z29 ?_;refine Z50 ?_;exact qk.h):p:=h ⟨k⟩
theorem vn(k:q)(h:Hk q→p:=by intro qk;refine Z95 ?_;refine A0 [3,6,8,10,16,262,263] ?_;exact qk.h):p:=h ⟨k⟩
theorem qf(k:q)(h:Hk q→p:=by intro qk;refine A0 [0,1,5,7,8] ?_;refine Z18 ?_;exact qk.h):p:=h ⟨k⟩
theorem AD8(h:p:=by refine Z71 ?_;exact A7 (Ai A3) ⟨by rw [gi (Km (by simp at ht9;omega) hx.2)],rfl⟩):p:=h
theorem qg(k:q)(h:Hk q→p:=by intro qk;refine Z67 ?_;refine A0 [0,1,2,8,9] ?_;exact qk.h):p:=h ⟨k⟩
theorem AD9(h:p:=by refine A0 [1,3,4] ?_;exact As (x+1) hlt (by omega) (by simp only [em];exact Bk rfl)):p:=h
theorem fw(h:p:=by refine Z71 ?_;exact Z23):p:=h
theorem qh(k:q)(h:Hk q→p:=by intro qk;refine Z2 ?_;refine A0 [0,1,7,8,9] ?_;exact qk.h):p:=h ⟨k⟩
theorem vo(k:q)(h:Hk q→p:=by intro qk;refine fu ?_;refine A0 [3,6,8,10,16,209] ?_;exact qk.h):p:=h ⟨k⟩
theorem vp(k:q)(h:Hk q→p:=by intro qk;refine Mt ?_;refine A0 [3,6,8,10,16,262] ?_;exact qk.h):p:=h ⟨k⟩
theorem m6(k:q)(h:Hk q→p:=by intro qk;refine Z1 ?_;refine Z54 ?_;exact qk.h):p:=h ⟨k⟩
theorem ADa(h:p:=by refine Z22 ?_;exact A7 (Ai (Ch jA jS)) ⟨by simp only [Ve,hm]<;>simp_all,rfl⟩):p:=h
theorem ADb(h:p:=by refine As (x+1) ⟨hlt,Bs hlt hx.2 ht19⟩ (by omega) ?_;exact Bk (by simp)):p:=h
theorem bc(k:q)(h:Hk q→p:=by intro qk;refine Yl ?_;refine Z0 ?_;exact qk.h):p:=h ⟨k⟩
theorem vq(k:q)(h:Hk q→p:=by intro qk;refine Z66 ?_;refine A0 [3,6,8,10,16,213] ?_;exact qk.h):p:=h ⟨k⟩
theorem vr(k:q)(h:Hk q→p:=by intro qk;refine Z66 ?_;refine A0 [3,6,8,10,16,223] ?_;exact qk.h):p:=h ⟨k⟩
theorem vt(k:q)(h:Hk q→p:=by intro qk;refine Z66 ?_;refine A0 [3,6,8,10,16,237] ?_;exact qk.h):p:=h ⟨k⟩
theorem vu(k:q)(h:Hk q→p:=by intro qk;refine Z66 ?_;refine A0 [3,6,8,10,16,248] ?_;exact qk.h):p:=h ⟨k⟩
theorem vw(k:q)(h:Hk q→p:=by intro qk;refine Z66 ?_;refine A0 [3,6,8,10,16,259] ?_;exact qk.h):p:=h ⟨k⟩
theorem vz(k:q)(h:Hk q→p:=by intro qk;refine Z27 ?_;refine A0 [3,6,8,10,16,285] ?_;exact qk.h):p:=h ⟨k⟩
theorem ADc(h:p:=by refine C4 ?_;exact ABe):p:=h
theorem be(k:q)(h:Hk q→p:=by intro qk;refine Z14 ?_;refine Z91 ?_;exact qk.h):p:=h ⟨k⟩
theorem w4(k:q)(h:Hk q→p:=by intro qk;refine Z1 ?_;refine A0 [3,6,8,10,16,269] ?_;exact qk.h):p:=h ⟨k⟩
theorem qi(k:q)(h:Hk q→p:=by intro qk;refine Z27 ?_;refine A0 [0,1,7,8] ?_;exact qk.h):p:=h ⟨k⟩
theorem ADd(h:p:=by refine Z41 ?_;exact A7 (Aj A3 A3) ⟨by rw [ic hr hkn];try rfl,rfl⟩):p:=h
theorem ADe(h:p:=by refine Z33 ?_;exact ABe):p:=h
theorem bf(k:q)(h:Hk q→p:=by intro qk;refine Z1 ?_;refine Z40 ?_;exact qk.h):p:=h ⟨k⟩
theorem bg(k:q)(h:Hk q→p:=by intro qk;refine Z14 ?_;refine Z9 ?_;exact qk.h):p:=h ⟨k⟩
theorem AB2(k:q)(h:Hk q→p:=by intro qk;refine A2 ?_;refine A6 Tryz.call135 (Vp (ks.getD 0 0) 1 _) ?_;exact qk.h):p:=h ⟨k⟩
theorem AB3(k:q)(h:Hk q→p:=by intro qk;refine A2 ?_;refine A6 Tryz.call135 (Vp (ks.getD 0 0) 2 _) ?_;exact qk.h):p:=h ⟨k⟩
theorem Yn(k:q)(h:Hk q→p:=by intro qk;refine Z1 ?_;refine Z29 ?_;exact qk.h):p:=h ⟨k⟩
theorem ADf(h:p:=by refine qy ?_;exact As (k+1) hk (by omega) (Bk rfl)):p:=h
theorem ADg(h:p:=by refine C4 ?_;exact A7 (Ai A3) ⟨by rw [AFf (by simpa using ht10)],rfl⟩):p:=h
theorem m7(k:q)(h:Hk q→p:=by intro qk;refine Z1 ?_;refine M3 ?_;exact qk.h):p:=h ⟨k⟩
theorem m8(h:p:=by refine Z39 ?_;refine Z12 ?_;refine Z6 ?_;exact AEy):p:=h
theorem fx(k:q)(h:Hk q→p:=by intro qk;refine Dv ?_;refine Z55 ?_;exact qk.h):p:=h ⟨k⟩
theorem AB4(h:p:=by refine Z45 ?_;exact D.end rfl rfl):p:=h
theorem w5(k:q)(h:Hk q→p:=by intro qk;refine A0 [3,6,10,21] ?_;refine Dk ?_;exact qk.h):p:=h ⟨k⟩
theorem bh(k:q)(h:Hk q→p:=by intro qk;refine Sg ?_;refine Z92 ?_;exact qk.h):p:=h ⟨k⟩
theorem Yo(k:q)(h:Hk q→p:=by intro qk;refine Z19 ?_;refine Z1 ?_;exact qk.h):p:=h ⟨k⟩
theorem ADh(h:p:=by refine Ua ?_;exact A7 (Ai A3) ⟨by first|rw [←uq]|skip,rfl⟩):p:=h
theorem ADi(h:p:=by refine Z26 ?_;exact A7 (Aj A3 A3) ⟨by rw [s9 hr];try rfl,rfl⟩):p:=h
theorem ADj(h:p:=by refine Z9 ?_;exact bj):p:=h
theorem AB5(k:q)(h:Hk q→p:=by intro qk;refine Z10 ?_;refine Z0 ?_;exact qk.h):p:=h ⟨k⟩
theorem ADk(k:q)(h:Hk q→p:=by intro qk;refine Ag ?_;refine AFd ?_;exact qk.h):p:=h ⟨k⟩
theorem ADl(k:q)(h:Hk q→p:=by intro qk;refine AFd ?_;refine Qu ?_;exact qk.h):p:=h ⟨k⟩
theorem fy(k:q)(h:Hk q→p:=by intro qk;refine A2 ?_;refine Z55 ?_;refine F9 ?_;exact qk.h):p:=h ⟨k⟩
theorem AB6(k:q)(h:Hk q→p:=by intro qk;refine Z3 ?_;refine Z89 ?_;exact qk.h):p:=h ⟨k⟩
theorem w6(k:q)(h:Hk q→p:=by intro qk;refine Z27 ?_;refine A0 [6,8,10,226] ?_;exact qk.h):p:=h ⟨k⟩
theorem w7(k:q)(h:Hk q→p:=by intro qk;refine Z27 ?_;refine A0 [6,8,10,240] ?_;exact qk.h):p:=h ⟨k⟩
theorem w8(k:q)(h:Hk q→p:=by intro qk;refine Z27 ?_;refine A0 [6,8,10,251] ?_;exact qk.h):p:=h ⟨k⟩
theorem w9(k:q)(h:Hk q→p:=by intro qk;refine A0 [6,8,19,20] ?_;refine Z8 ?_;refine A0 [6,8,19,20,278] ?_;exact qk.h):p:=h ⟨k⟩
theorem ADm(h:p:=by refine Z41 ?_;exact A7 (Aj A3 A3) ⟨by rw [hm2]<;>rfl,rfl⟩):p:=h
theorem g0(k:q)(h:Hk q→p:=by intro qk;refine Z56 ?_;refine Z6 ?_;exact qk.h):p:=h ⟨k⟩
theorem AB7(k:q)(h:Hk q→p:=by intro qk;refine A2 ?_;refine Mq (k) jU Tryz.sizeOf77 hk ?_;exact qk.h):p:=h ⟨k⟩
theorem ADn(h:p:=by refine U9 ?_;exact AF5):p:=h
theorem ADo(h:p:=by refine Z33 ?_;exact AFc):p:=h
theorem ADp(h:p:=by refine As (x+1) ⟨hlt,hn⟩ (by omega) ?_;exact Bk (by simp)):p:=h
theorem ADq(h:p:=by refine U9 ?_;exact A7 (Aj A3 A3) ⟨by simp_all [So],rfl⟩):p:=h
theorem ADr(k:q)(h:Hk q→p:=by intro qk;refine ABd ?_;refine F9 ?_;exact qk.h):p:=h ⟨k⟩
theorem ADs(k:q)(h:Hk q→p:=by intro qk;refine Hm [0,0,3,7,15,0,0,96,224,511,0,2047,4095] 11 An (by kernel_rfl) ?_;refine qd ?_;exact qk.h):p:=h ⟨k⟩
theorem ADt(h:p:=by refine Z21 ?_;exact A7 (Ai A3) ⟨by rw [yx h3]<;>rfl,rfl⟩):p:=h
theorem ADu(h:p:=by refine Z91 ?_;exact ge):p:=h
theorem g5(k:q)(h:Hk q→p:=by intro qk;refine Z63 ?_;refine F4 ?_;exact qk.h):p:=h ⟨k⟩
theorem AB8(k:q)(h:Hk q→p:=by intro qk;refine Ui ?_;refine Ui ?_;exact qk.h):p:=h ⟨k⟩
theorem g6(k:q)(h:Hk q→p:=by intro qk;refine Z85 ?_;refine A2 ?_;exact qk.h):p:=h ⟨k⟩
theorem ADv(h:p:=by refine Z22 ?_;exact A7 (Ai (Ch jA jS)) ⟨by simp [ht5],rfl⟩):p:=h
theorem qj(h:p:=by refine Z56 ?_;exact Z64):p:=h
theorem ADw(h:p:=by refine C4 ?_;exact A7 (Ai A3) ⟨by rw [hx.eq,hw],rfl⟩):p:=h
theorem ql(k:q)(h:Hk q→p:=by intro qk;refine Z34 ?_;refine F9 ?_;exact qk.h):p:=h ⟨k⟩
theorem qm(k:q)(h:Hk q→p:=by intro qk;refine Pq ?_;refine M3 ?_;exact qk.h):p:=h ⟨k⟩
theorem ADx(h:p:=by refine Z41 ?_;exact A7 (Aj A3 A3) ⟨by rw [hbad],rfl⟩):p:=h
theorem ADy(h:p:=by refine Z21 ?_;exact AEz):p:=h
theorem ADz(k:q)(h:Hk q→p:=by intro qk;refine A6 Tryz.call63 (AI9 _) ?_;refine Mm (places:=#[(0,1),(1,5)]) jU (fun w=>by simp) jZ ?_;exact qk.h):p:=h ⟨k⟩
theorem qn(h:p:=by refine Z33 ?_;exact Z23):p:=h
theorem AE0(h:p:=by refine Z4 ?_;exact A7 (Ai A3) ⟨by rw [hm,hD]<;>rfl,rfl⟩):p:=h
theorem qo(h:p:=by refine Z1 ?_;exact AD4):p:=h
theorem g7(k:q)(h:Hk q→p:=by intro qk;refine Z0 ?_;refine Z40 ?_;exact qk.h):p:=h ⟨k⟩
theorem g8(k:q)(h:Hk q→p:=by intro qk;refine vl ?_;refine Z7 ?_;exact qk.h):p:=h ⟨k⟩
theorem AE1(h:p:=by refine Z41 ?_;exact A7 (Aj A3 A3) ⟨by rw [hkb],rfl⟩):p:=h
theorem qq(h:p:=by refine Z47 ?_;refine Z33 ?_;exact bi):p:=h
theorem AE2(h:p:=by refine g0 ?_;exact r6):p:=h
theorem AE3(k:q)(h:Hk q→p:=by intro qk;refine Ja ?_;refine A6 Tryz.call90 (c90 _ (rdL d).1 (Cg (hlow ht77) (by decide)) _) ?_;exact qk.h):p:=h ⟨k⟩
theorem g9(k:q)(h:Hk q→p:=by intro qk;refine Z1 ?_;refine Z21 ?_;exact qk.h):p:=h ⟨k⟩
theorem AB9(h:p:=by refine Z21 ?_;exact Yp):p:=h
theorem AE4(h:p:=by refine M1 ?_;exact qx):p:=h
theorem AE5(h:p:=by refine U9 ?_;exact qx):p:=h
theorem qr(k:q)(h:Hk q→p:=by intro qk;refine Z18 ?_;refine A0 [1,2] ?_;exact qk.h):p:=h ⟨k⟩
theorem AE6(h:p:=by refine M1 ?_;exact ww):p:=h
theorem AE7(k:q)(h:Hk q→p:=by intro qk;refine Df [0,1,3,7,15,3,35,99,255,511,1023] 8 An (by kernel_rfl) ?_;refine Z17 ?_;exact qk.h):p:=h ⟨k⟩
theorem AE8(h:p:=by refine Ps ?_;exact qx):p:=h
theorem AE9(k:q)(h:Hk q→p:=by intro qk;refine Df [0,1,3,7,0,16,48,112,240,511,1023] 9 An (by kernel_rfl) ?_;refine Z17 ?_;exact qk.h):p:=h ⟨k⟩
theorem ABa(k:q)(h:Hk q→p:=by intro qk;refine Ja ?_;refine A6 Tryz.call20 (c20 row hrl _) ?_;exact qk.h):p:=h ⟨k⟩
theorem AEa(h:p:=by refine Z12 ?_;exact ww):p:=h
theorem m9(k:q)(h:Hk q→p:=by intro qk;refine Z28 ?_;refine AB5 ?_;refine A0 [1,3,4,5] ?_;refine K.blN ?_;exact qk.h):p:=h ⟨k⟩
theorem AEb(k:q)(h:Hk q→p:=by intro qk;refine A6 Tryz.call59 (c59 _ _) ?_;refine Z7 ?_;refine Z91 ?_;exact qk.h):p:=h ⟨k⟩
theorem AEc(h:p:=by refine Z9 ?_;exact qx):p:=h
theorem AEd(h:p:=by refine Cy Tryz.call148 (AGc c l k0 ra ha _) ?_;exact AB4):p:=h
theorem AEe(h:p:=by refine C4 ?_;exact A7 (Ai A3) ⟨by rw [hf],rfl⟩):p:=h
theorem AEf(h:p:=by refine Z41 ?_;exact A7 (Ai A3) ⟨by rw [hf],rfl⟩):p:=h
theorem ga(k:q)(h:Hk q→p:=by intro qk;refine Z49 ?_;refine Z27 ?_;exact qk.h):p:=h ⟨k⟩
theorem gb(k:q)(h:Hk q→p:=by intro qk;refine Z0 ?_;refine B8 ?_;exact qk.h):p:=h ⟨k⟩
theorem wc(h:p:=by refine Z33 ?_;exact U8):p:=h
theorem ma(k:q)(h:Hk q→p:=by intro qk;refine A2 ?_;refine B8 ?_;exact qk.h):p:=h ⟨k⟩
theorem AEg(k:q)(h:Hk q→p:=by intro qk;refine ABd ?_;refine Z7 ?_;exact qk.h):p:=h ⟨k⟩
theorem qt(k:q)(h:Hk q→p:=by intro qk;refine Dv ?_;refine U7 ?_;exact qk.h):p:=h ⟨k⟩
theorem wd(h:p:=by refine m6 ?_;refine C4 ?_;exact ABf):p:=h
theorem AEh(h:p:=by refine Sl ?_;exact bi):p:=h
theorem AEi(h:p:=by refine Z6 ?_;exact bi):p:=h
theorem mb(k:q)(h:Hk q→p:=by intro qk;refine AB6 ?_;refine Z60 ?_;exact qk.h):p:=h ⟨k⟩
theorem AEj(h:p:=by refine Z4 ?_;exact bi):p:=h
theorem AEk(k:q)(h:Hk q→p:=by intro qk;refine A2 ?_;refine Mq ((i+k)) jU Tryz.sizeOf77 (by omega) (hm:=by omega) ?_;exact qk.h):p:=h ⟨k⟩
theorem we(h:p:=by refine vg ?_;refine Sk ?_;refine Z91 ?_;exact AF1):p:=h
theorem wg(h:p:=by refine Z33 ?_;exact ACz):p:=h
theorem AEl(k:q)(h:Hk q→p:=by intro qk;refine Z10 ?_;refine Bj Tryz.call125 (fun hB=>AH6 e.text Nn hs (by decide) _) ?_;exact qk.h):p:=h ⟨k⟩
theorem AEm(k:q)(h:Hk q→p:=by intro qk;refine Z93 ?_;refine Mq ((i+k)) jU Tryz.sizeOf77 (by omega) (hm:=by omega) ?_;exact qk.h):p:=h ⟨k⟩
theorem wh(k:q)(h:Hk q→p:=by intro qk;refine Z1 ?_;refine A0 [2,3,18] ?_;exact qk.h):p:=h ⟨k⟩
theorem wi(h:p:=by refine Z0 ?_;refine Z21 ?_;exact A7 (Ai A3) ⟨by first|(rw [hgy hf];rfl)|(rw [hgv hf];rfl),rfl⟩):p:=h
theorem AEn(h:p:=by refine C4 ?_;exact A7 (Ai A3) ⟨rfl,rfl⟩):p:=h
theorem AEo(h:p:=by refine Z4 ?_;exact A7 (Ai A3) ⟨by simp,rfl⟩):p:=h
theorem AEp(k:q)(h:Hk q→p:=by intro qk;refine Cy Tryz.call88 (AI8 (rdL (d.take i)).1 10 hm2 (by decide) _) ?_;refine Qu ?_;exact qk.h):p:=h ⟨k⟩
theorem wj(h:p:=by refine Z0 ?_;exact Qt):p:=h
theorem wl(h:p:=by refine Z19 ?_;refine Z42 ?_;exact AFa):p:=h
theorem wm(h:p:=by refine Z1 ?_;refine AB0 ?_;refine Z43 ?_;exact ge):p:=h
theorem wn(h:p:=by refine Z2 ?_;exact AD4):p:=h
theorem AEq(k:q)(h:Hk q→p:=by intro qk;refine Z2 ?_;refine me ?_;exact qk.h):p:=h ⟨k⟩
theorem qu(k:q)(h:Hk q→p:=by intro qk;refine AEb ?_;refine C4 ?_;exact qk.h):p:=h ⟨k⟩
theorem AEr(k:q)(h:Hk q→p:=by intro qk;refine Z17 ?_;refine D.build (places:=#[(0,1),(1,1),(2,1)]) jU (fun w=>by simp) jZ ?_;exact qk.h):p:=h ⟨k⟩
theorem wo(k:q)(h:Hk q→p:=by intro qk;refine A0 [3,9] ?_;refine Dk ?_;exact qk.h):p:=h ⟨k⟩
theorem wp(k:q)(h:Hk q→p:=by intro qk;refine Z55 ?_;refine Wh ?_;exact qk.h):p:=h ⟨k⟩
theorem wq(k:q)(h:Hk q→p:=by intro qk;refine A0 [0,3,5] ?_;refine Z27 ?_;exact qk.h):p:=h ⟨k⟩
theorem mc(k:q)(h:Hk q→p:=by intro qk;refine Z92 ?_;refine B8 ?_;exact qk.h):p:=h ⟨k⟩
theorem md(k:q)(h:Hk q→p:=by intro qk;refine Z39 ?_;refine B8 ?_;exact qk.h):p:=h ⟨k⟩
theorem AEs(h:p:=by refine A6 Tryz.call129 (rm _ _) ?_;exact Qt):p:=h
theorem AEt(k:q)(h:Hk q→p:=by intro qk;refine Df [0,0,0,7,15,15,63,127] 6 An (by kernel_rfl) ?_;refine Z17 ?_;exact qk.h):p:=h ⟨k⟩
theorem AEu(h:p:=by refine Z4 ?_;exact A7 (Ai A3) ⟨rfl,rfl⟩):p:=h
theorem wr(h:p:=by exact ⟨rfl,Below.refl _ _⟩):p:=h
theorem M3(k:q)(h:Hk q→p:=by intro qk;refine A0 [0,3] ?_;exact qk.h):p:=h ⟨k⟩
theorem Sm(k:q)(h:Hk q→p:=by intro qk;refine A0 [0,1,5] ?_;exact qk.h):p:=h ⟨k⟩
theorem AEv(h:p:=by exact h (y,j) (by rw [L2];exact hj)):p:=h
theorem AEw(h:p:=by exact A7 (Ai A3) ⟨by simp [C8,ht5],rfl⟩):p:=h
theorem AEx(h:p:=by exact A7 (Ai A3) ⟨by simp [C8,ht5,ht16,ht22],rfl⟩):p:=h
theorem Yp(h:p:=by exact A7 (Ai A3)):p:=h
theorem qv(k:q)(h:Hk q→p:=by intro qk;refine A0 [0,1,5,7,8,16] ?_;exact qk.h):p:=h ⟨k⟩
theorem Dv(k:q)(h:Hk q→p:=by intro qk;refine AW.seqR ?_;exact qk.h):p:=h ⟨k⟩
theorem F9(k:q)(h:Hk q→p:=by intro qk;refine J9 jS ?_;exact qk.h):p:=h ⟨k⟩
theorem ABb(h:p:=by exact A7 (Ai (Ch jA jS))):p:=h
theorem me(k:q)(h:Hk q→p:=by intro qk;refine Mm (places:=#[(0,1),(1,1),(2,1)]) jU (fun w=>by simp) jZ ?_;exact qk.h):p:=h ⟨k⟩
theorem O0(k:q)(h:Hk q→p:=by intro qk;refine R.alloc jZ ?_;exact qk.h):p:=h ⟨k⟩
theorem qw(k:q)(h:Hk q→p:=by intro qk;refine As (x+1) hlt (by omega) ?_;exact qk.h):p:=h ⟨k⟩
theorem gc(k:q)(h:Hk q→p:=by intro qk;refine A0 [0,1,2,8] ?_;exact qk.h):p:=h ⟨k⟩
theorem Ge(k:q)(h:Hk q→p:=by intro qk;refine R.assignT ?_;exact qk.h):p:=h ⟨k⟩
theorem Ui(k:q)(h:Hk q→p:=by intro qk;refine R.buildSlice jU jS jZ ?_;exact qk.h):p:=h ⟨k⟩
theorem Wg(h:p:=by exact V9 _):p:=h
theorem wt(h:p:=by exact A7 (Aj (Ch jA jS) A3) ⟨by rw [hw];try rfl,rfl⟩):p:=h
theorem AEy(h:p:=by exact A7 (Aj A3 A3) ⟨by simp_all [Ea],rfl⟩):p:=h
theorem qx(h:p:=by exact A7 (Aj A3 A3) ⟨by rw [hm],rfl⟩):p:=h
theorem bi(h:p:=by exact A7 (Ai A3) ⟨by rw [hm],rfl⟩):p:=h
theorem Wh(k:q)(h:Hk q→p:=by intro qk;refine A0 [2,3,4] ?_;exact qk.h):p:=h ⟨k⟩
theorem wu(k:q)(h:Hk q→p:=by intro qk;refine Mq (0) jU Tryz.sizeOf77 (by decide) ?_;exact qk.h):p:=h ⟨k⟩
theorem AEz(h:p:=by exact A7 (Ai (Ch jA jS)) ⟨by rw [had],rfl⟩):p:=h
theorem qy(k:q)(h:Hk q→p:=by intro qk;refine A0 [2,3,4,5,9,10] ?_;exact qk.h):p:=h ⟨k⟩
theorem qz(k:q)(h:Hk q→p:=by intro qk;refine A0 [2,3,4,5,6,7,8] ?_;exact qk.h):p:=h ⟨k⟩
theorem wv(k:q)(h:Hk q→p:=by intro qk;refine A0 [2,3,4,5,6,7,8,9,10] ?_;exact qk.h):p:=h ⟨k⟩
theorem AF0(h:p:=by exact A7 (Ai (Ch jA jS)) ⟨by rw [hb];rfl,rfl⟩):p:=h
theorem Wi(k:q)(h:Hk q→p:=by intro qk;refine A0 [0,4,5,6,7,8,9] ?_;exact qk.h):p:=h ⟨k⟩
theorem Qy(h:p:=by exact cy _):p:=h
theorem Qz(h:p:=by exact Vj _):p:=h
theorem AF1(h:p:=by exact A7 (Aj (Ch Tryz.isAgg44 Tryz.sizeOf44) A3) ⟨by simp_all [E1],rfl⟩):p:=h
theorem bj(h:p:=by exact A7 (Aj (Ch jA jS) A3) ⟨by rw [hm];try rfl,rfl⟩):p:=h
theorem AF2(h:p:=by exact A7 (Ai (Ch jA jS)) ⟨by rw [hm];try rfl,rfl⟩):p:=h
theorem AF3(k:q)(h:Hk q→p:=by intro qk;refine Y.alloc (zs:=[A5 0,A5 0,Ax []]) (n:=1) (u:=Hp.length) Tryz.zeroValue44 (fun B hT hF hB=>⟨rfl,by simp [hB],by simp [upd,hB,hF 1 (by simp)],rfl⟩) ?_;exact qk.h):p:=h ⟨k⟩
theorem AF4(h:p:=by exact A7 (Ai (Ch Tryz.isAgg166 Tryz.sizeOf166)) ⟨by simp_all [Hi],rfl⟩):p:=h
theorem AF5(h:p:=by exact A7 (Aj A3 A3) ⟨by simp_all [Ex],rfl⟩):p:=h
theorem mf(k:q)(h:Hk q→p:=by intro qk;refine A0 [2,6,13,14,15] ?_;exact qk.h):p:=h ⟨k⟩
theorem ww(h:p:=by exact A7 (Aj A3 A3) ⟨by rw [hk],rfl⟩):p:=h
theorem wx(h:p:=by exact A7 (Aj A3 A3) ⟨by rw [hk,hk2],rfl⟩):p:=h
theorem mg(h:p:=by exact hcmp _ rfl rfl hf):p:=h
theorem r0(h:p:=by exact har _ rfl rfl rfl hf):p:=h
theorem Ci(h:p:=by exact A7 (Aj (Ch jA jS) A3) ⟨by first|(rw [href];done)|(rw [href];rfl),rfl⟩):p:=h
theorem AF6(h:p:=by exact absurd ((eq_of_beq ht132).symm.trans (eq_of_beq ht213)) (by decide)):p:=h
theorem ABc(k:q)(h:Hk q→p:=by intro qk;refine K.rdN (jp hL (D8 (by decide)) (D8 (by decide))) ?_;exact qk.h):p:=h ⟨k⟩
theorem ge(h:p:=by exact A7 (Aj A3 A3) ⟨by rw [hm]<;>rfl,rfl⟩):p:=h
theorem AF7(h:p:=by exact A7 (Ai A3) ⟨by rw [hn];first|(simp only [ht22,ht25,ht33,ht41,ht41,ht50,ht58,hk3,hk6,B3,Av,Eo,Ib,if_true,if_false,A8,↓reduceIte]<;>rfl)|(simp only [ht22,ht25,ht33,ht41,ht41,ht50,ht58,hk3,B3,Av,Eo,if_true,if_false,A8,↓reduceIte]<;>rfl)|(simp only [ht22,ht25,ht33,ht41,ht41,ht50,ht58,if_true,if_false,A8,↓reduceIte]<;>rfl),rfl⟩):p:=h
theorem r6(h:p:=by exact A7 (Ai A3) ⟨by rw [hm]<;>rfl,rfl⟩):p:=h
theorem AF8(h:p:=by exact A7 (Aj A3 A3) ⟨by rw [hm],rfl⟩ (hlow:=by simp only [Yj,C2,Fd,or_false];rintro y (rfl|rfl);exact Dw;simp)):p:=h
theorem r7(k:q)(h:Hk q→p:=by intro qk;refine A0 [1,3,6,10,12,27,28,29] ?_;exact qk.h):p:=h ⟨k⟩
theorem r8(k:q)(h:Hk q→p:=by intro qk;refine A0 [0,8,9,11,13,17,18] ?_;exact qk.h):p:=h ⟨k⟩
theorem wy(k:q)(h:Hk q→p:=by intro qk;refine A0 [0,8,9,11,13,17,18,19,20] ?_;exact qk.h):p:=h ⟨k⟩
theorem wz(h:p:=by exact .inr ⟨rfl,_,rfl⟩):p:=h
theorem ABd(k:q)(h:Hk q→p:=by intro qk;refine Mm (places:=#[(0,1),(1,1),(2,1),(3,1)]) jU (fun w=>by simp) jZ ?_;exact qk.h):p:=h ⟨k⟩
theorem AF9(h:p:=by exact A7 (Aj (Ch jA jS) A3) ⟨by rw [hm],rfl⟩):p:=h
theorem AFa(h:p:=by exact A7 (Ai (Ch jA jS)) ⟨by first|exact AC3 (by simp_all [Dc])|exact tr (by simp_all [Dc])|exact AC4 (by simp_all [Dc]),rfl⟩):p:=h
theorem AFb(h:p:=by exact A7 (Ai (Ch jA jS)) ⟨by first|exact tr (by simp_all [Cz]),rfl⟩):p:=h
theorem ABe(h:p:=by exact A7 (Ai A3) ⟨by simp_all [Gf,Kr,mt],rfl⟩):p:=h
theorem AFc(h:p:=by exact A7 (Ai A3) ⟨by simp_all [Do,Kr],rfl⟩):p:=h
theorem ABf(h:p:=by exact A7 (Aj A3 A3) ⟨by first|rw [hgood]|rw [yb hd hil ht52]|rw [y9 hd ht33],rfl⟩):p:=h
theorem AFd(k:q)(h:Hk q→p:=by intro qk;refine fm ((k-1)) jU Tryz.sizeOf77 (by omega) (hm:=by omega) (hoff:=Q4 (by omega)) ?_;exact qk.h):p:=h ⟨k⟩
end Go.SX.Nb
namespace Go.SX.Nb
open Go Go.SX Go.Proofs
@[reducible,instance] def JA2:=JA.mk (P:=Tryz.prog) Tryz.isAgg2
@[reducible,instance] def JA3:=JA.mk (P:=Tryz.prog) Tryz.isAgg3
@[reducible,instance] def JA4:=JA.mk (P:=Tryz.prog) Tryz.isAgg4
@[reducible,instance] def JA5:=JA.mk (P:=Tryz.prog) Tryz.isAgg5
@[reducible,instance] def JA9:=JA.mk (P:=Tryz.prog) Tryz.isAgg9
@[reducible,instance] def AJk:=JA.mk (P:=Tryz.prog) Tryz.isAgg22
@[reducible,instance] def AJl:=JA.mk (P:=Tryz.prog) Tryz.isAgg23
@[reducible,instance] def AJm:=JA.mk (P:=Tryz.prog) Tryz.isAgg24
@[reducible,instance] def AJn:=JA.mk (P:=Tryz.prog) Tryz.isAgg30
@[reducible,instance] def AJo:=JA.mk (P:=Tryz.prog) Tryz.isAgg31
@[reducible,instance] def AJp:=JA.mk (P:=Tryz.prog) Tryz.isAgg44
@[reducible,instance] def AJq:=JA.mk (P:=Tryz.prog) Tryz.isAgg46
@[reducible,instance] def AJr:=JA.mk (P:=Tryz.prog) Tryz.isAgg47
@[reducible,instance] def AJs:=JA.mk (P:=Tryz.prog) Tryz.isAgg48
@[reducible,instance] def AJt:=JA.mk (P:=Tryz.prog) Tryz.isAgg50
@[reducible,instance] def AJu:=JA.mk (P:=Tryz.prog) Tryz.isAgg53
@[reducible,instance] def AJv:=JA.mk (P:=Tryz.prog) Tryz.isAgg59
@[reducible,instance] def AJw:=JA.mk (P:=Tryz.prog) Tryz.isAgg60
@[reducible,instance] def AJx:=JA.mk (P:=Tryz.prog) Tryz.isAgg62
@[reducible,instance] def AJy:=JA.mk (P:=Tryz.prog) Tryz.isAgg63
@[reducible,instance] def AJz:=JA.mk (P:=Tryz.prog) Tryz.isAgg77
@[reducible,instance] def AK0:=JA.mk (P:=Tryz.prog) Tryz.isAgg98
@[reducible,instance] def AJ4:=JA.mk (P:=Tryz.prog) Tryz.isAgg100
@[reducible,instance] def AJ5:=JA.mk (P:=Tryz.prog) Tryz.isAgg135
@[reducible,instance] def AJ6:=JA.mk (P:=Tryz.prog) Tryz.isAgg154
@[reducible,instance] def AJ7:=JA.mk (P:=Tryz.prog) Tryz.isAgg166
@[reducible,instance] def JS2:=JS.mk (P:=Tryz.prog) Tryz.sizeOf2
@[reducible,instance] def JS3:=JS.mk (P:=Tryz.prog) Tryz.sizeOf3
@[reducible,instance] def JS4:=JS.mk (P:=Tryz.prog) Tryz.sizeOf4
@[reducible,instance] def JS5:=JS.mk (P:=Tryz.prog) Tryz.sizeOf5
@[reducible,instance] def JS9:=JS.mk (P:=Tryz.prog) Tryz.sizeOf9
@[reducible,instance] def AK1:=JS.mk (P:=Tryz.prog) Tryz.sizeOf22
@[reducible,instance] def AK2:=JS.mk (P:=Tryz.prog) Tryz.sizeOf24
@[reducible,instance] def AK3:=JS.mk (P:=Tryz.prog) Tryz.sizeOf30
@[reducible,instance] def AK4:=JS.mk (P:=Tryz.prog) Tryz.sizeOf31
@[reducible,instance] def AK5:=JS.mk (P:=Tryz.prog) Tryz.sizeOf44
@[reducible,instance] def AK6:=JS.mk (P:=Tryz.prog) Tryz.sizeOf46
@[reducible,instance] def AK7:=JS.mk (P:=Tryz.prog) Tryz.sizeOf47
@[reducible,instance] def AK8:=JS.mk (P:=Tryz.prog) Tryz.sizeOf48
@[reducible,instance] def AK9:=JS.mk (P:=Tryz.prog) Tryz.sizeOf50
@[reducible,instance] def AKa:=JS.mk (P:=Tryz.prog) Tryz.sizeOf53
@[reducible,instance] def AKb:=JS.mk (P:=Tryz.prog) Tryz.sizeOf59
@[reducible,instance] def AKc:=JS.mk (P:=Tryz.prog) Tryz.sizeOf60
@[reducible,instance] def AKd:=JS.mk (P:=Tryz.prog) Tryz.sizeOf62
@[reducible,instance] def AKe:=JS.mk (P:=Tryz.prog) Tryz.sizeOf63
@[reducible,instance] def AKf:=JS.mk (P:=Tryz.prog) Tryz.sizeOf77
@[reducible,instance] def AKg:=JS.mk (P:=Tryz.prog) Tryz.sizeOf98
@[reducible,instance] def AJ8:=JS.mk (P:=Tryz.prog) Tryz.sizeOf100
@[reducible,instance] def AJ9:=JS.mk (P:=Tryz.prog) Tryz.sizeOf135
@[reducible,instance] def AJa:=JS.mk (P:=Tryz.prog) Tryz.sizeOf154
@[reducible,instance] def AJb:=JS.mk (P:=Tryz.prog) Tryz.sizeOf166
@[reducible,instance] def JU2:=JU.mk (P:=Tryz.prog) Tryz.underlying2
@[reducible,instance] def JU3:=JU.mk (P:=Tryz.prog) Tryz.underlying3
@[reducible,instance] def JU4:=JU.mk (P:=Tryz.prog) Tryz.underlying4
@[reducible,instance] def JU5:=JU.mk (P:=Tryz.prog) Tryz.underlying5
@[reducible,instance] def JU9:=JU.mk (P:=Tryz.prog) Tryz.underlying9
@[reducible,instance] def AKh:=JU.mk (P:=Tryz.prog) Tryz.underlying22
@[reducible,instance] def AKi:=JU.mk (P:=Tryz.prog) Tryz.underlying23
@[reducible,instance] def AKj:=JU.mk (P:=Tryz.prog) Tryz.underlying24
@[reducible,instance] def AKk:=JU.mk (P:=Tryz.prog) Tryz.underlying30
@[reducible,instance] def AKl:=JU.mk (P:=Tryz.prog) Tryz.underlying41
@[reducible,instance] def AKm:=JU.mk (P:=Tryz.prog) Tryz.underlying44
@[reducible,instance] def AKn:=JU.mk (P:=Tryz.prog) Tryz.underlying46
@[reducible,instance] def AKo:=JU.mk (P:=Tryz.prog) Tryz.underlying47
@[reducible,instance] def AKp:=JU.mk (P:=Tryz.prog) Tryz.underlying48
@[reducible,instance] def AKq:=JU.mk (P:=Tryz.prog) Tryz.underlying50
@[reducible,instance] def AKr:=JU.mk (P:=Tryz.prog) Tryz.underlying53
@[reducible,instance] def AKs:=JU.mk (P:=Tryz.prog) Tryz.underlying56
@[reducible,instance] def AKt:=JU.mk (P:=Tryz.prog) Tryz.underlying62
@[reducible,instance] def AKu:=JU.mk (P:=Tryz.prog) Tryz.underlying63
@[reducible,instance] def AKv:=JU.mk (P:=Tryz.prog) Tryz.underlying77
@[reducible,instance] def AKw:=JU.mk (P:=Tryz.prog) Tryz.underlying98
@[reducible,instance] def AJc:=JU.mk (P:=Tryz.prog) Tryz.underlying100
@[reducible,instance] def AJd:=JU.mk (P:=Tryz.prog) Tryz.underlying135
@[reducible,instance] def AJe:=JU.mk (P:=Tryz.prog) Tryz.underlying137
@[reducible,instance] def AJf:=JU.mk (P:=Tryz.prog) Tryz.underlying154
@[reducible,instance] def AJg:=JU.mk (P:=Tryz.prog) Tryz.underlying166
@[reducible,instance] def JZ3:=JZ.mk (P:=Tryz.prog) Tryz.zeroValue3
@[reducible,instance] def JZ4:=JZ.mk (P:=Tryz.prog) Tryz.zeroValue4
@[reducible,instance] def JZ5:=JZ.mk (P:=Tryz.prog) Tryz.zeroValue5
@[reducible,instance] def JZ9:=JZ.mk (P:=Tryz.prog) Tryz.zeroValue9
@[reducible,instance] def AKx:=JZ.mk (P:=Tryz.prog) Tryz.zeroValue22
@[reducible,instance] def AKy:=JZ.mk (P:=Tryz.prog) Tryz.zeroValue24
@[reducible,instance] def AKz:=JZ.mk (P:=Tryz.prog) Tryz.zeroValue30
@[reducible,instance] def AL0:=JZ.mk (P:=Tryz.prog) Tryz.zeroValue31
@[reducible,instance] def AL1:=JZ.mk (P:=Tryz.prog) Tryz.zeroValue44
@[reducible,instance] def AL2:=JZ.mk (P:=Tryz.prog) Tryz.zeroValue46
@[reducible,instance] def AL3:=JZ.mk (P:=Tryz.prog) Tryz.zeroValue47
@[reducible,instance] def AL4:=JZ.mk (P:=Tryz.prog) Tryz.zeroValue50
@[reducible,instance] def AL5:=JZ.mk (P:=Tryz.prog) Tryz.zeroValue53
@[reducible,instance] def AL6:=JZ.mk (P:=Tryz.prog) Tryz.zeroValue62
@[reducible,instance] def AL7:=JZ.mk (P:=Tryz.prog) Tryz.zeroValue63
@[reducible,instance] def AJh:=JZ.mk (P:=Tryz.prog) Tryz.zeroValue100
@[reducible,instance] def AJi:=JZ.mk (P:=Tryz.prog) Tryz.zeroValue135
@[reducible,instance] def AJj:=JZ.mk (P:=Tryz.prog) Tryz.zeroValue166
end Go.SX.Nb
