/- On the way (part 4). -/
import Derived.Test.YtlafnblklafbkaaGreatDoorProg
import Derived.Test.YtlafnblklafbkaaGreatDoorMigParsesCardSaidPart3
set_option linter.all false
namespace Go.SX.Nb
open Go Go.SX Go.Proofs
structure Hk (q:Prop):Prop where h:q
variable {p q:Prop}
theorem Z0(k:q)(h:Hk q→p:=by intro qk;refine A3 ?_;refine A3 ?_;exact qk.h):p:=h ⟨k⟩
theorem Z1(k:q)(h:Hk q→p:=by intro qk;refine Ei ?_;refine Z0 ?_;exact qk.h):p:=h ⟨k⟩
theorem Z2(k:q)(h:Hk q→p:=by intro qk;refine Ei ?_;refine A3 ?_;exact qk.h):p:=h ⟨k⟩
theorem Z3(k:q)(h:Hk q→p:=by intro qk;refine A2 [2] ?_;refine Kx ?_;exact qk.h):p:=h ⟨k⟩
theorem Z4(k:q)(h:Hk q→p:=by intro qk;refine He ?_;refine Ig ?_;exact qk.h):p:=h ⟨k⟩
theorem Z5(k:q)(h:Hk q→p:=by intro qk;refine Am ?_;refine Am ?_;exact qk.h):p:=h ⟨k⟩
theorem Z6(k:q)(h:Hk q→p:=by intro qk;refine Bk ?_;refine Bk ?_;exact qk.h):p:=h ⟨k⟩
theorem Z7(k:q)(h:Hk q→p:=by intro qk;refine Z0 ?_;refine A3 ?_;exact qk.h):p:=h ⟨k⟩
theorem Z8(k:q)(h:Hk q→p:=by intro qk;refine K.blR ?_;refine Dd ?_;exact qk.h):p:=h ⟨k⟩
theorem Z9(k:q)(h:Hk q→p:=by intro qk;refine Hw ?_;refine Z1 ?_;exact qk.h):p:=h ⟨k⟩
theorem Z11(k:q)(h:Hk q→p:=by intro qk;refine Ka jZ ?_;refine Ho ?_;exact qk.h):p:=h ⟨k⟩
theorem Z12(k:q)(h:Hk q→p:=by intro qk;refine Hh ?_;refine Ig ?_;exact qk.h):p:=h ⟨k⟩
theorem Z13(k:q)(h:Hk q→p:=by intro qk;refine Y.bot (fun B hT=>Zn (hT 0 (by simp))) ?_;refine Y.bot (fun B hT=>Zn (hT 0 (by simp))) ?_;exact qk.h):p:=h ⟨k⟩
theorem Z14(k:q)(h:Hk q→p:=by intro qk;refine P3 ?_;refine Kx ?_;exact qk.h):p:=h ⟨k⟩
theorem Z15(k:q)(h:Hk q→p:=by intro qk;refine Ky ?_;refine Z7 ?_;exact qk.h):p:=h ⟨k⟩
theorem Z16(k:q)(h:Hk q→p:=by intro qk;refine Z1 ?_;refine A3 ?_;exact qk.h):p:=h ⟨k⟩
theorem Z17(k:q)(h:Hk q→p:=by intro qk;refine A2 [4] ?_;refine Kx ?_;exact qk.h):p:=h ⟨k⟩
theorem Z18(k:q)(h:Hk q→p:=by intro qk;refine Ho ?_;refine Z3 ?_;exact qk.h):p:=h ⟨k⟩
theorem Z19(k:q)(h:Hk q→p:=by intro qk;refine Z5 ?_;refine Am ?_;exact qk.h):p:=h ⟨k⟩
theorem Z20(k:q)(h:Hk q→p:=by intro qk;refine Z2 ?_;refine Z3 ?_;exact qk.h):p:=h ⟨k⟩
theorem Z21(k:q)(h:Hk q→p:=by intro qk;refine Ky ?_;refine Z0 ?_;exact qk.h):p:=h ⟨k⟩
theorem Z22(k:q)(h:Hk q→p:=by intro qk;refine Hw ?_;refine Ic ?_;exact qk.h):p:=h ⟨k⟩
theorem Z23(k:q)(h:Hk q→p:=by intro qk;refine AW.exit ?_;refine K.thE ?_;exact qk.h):p:=h ⟨k⟩
theorem Z24(k:q)(h:Hk q→p:=by intro qk;refine Ei ?_;refine Ka jZ ?_;exact qk.h):p:=h ⟨k⟩
theorem Z25(k:q)(h:Hk q→p:=by intro qk;refine He ?_;refine Z12 ?_;exact qk.h):p:=h ⟨k⟩
theorem Z26(k:q)(h:Hk q→p:=by intro qk;refine K.lpE ?_;refine Ig ?_;exact qk.h):p:=h ⟨k⟩
theorem Z27(k:q)(h:Hk q→p:=by intro qk;refine Ei ?_;refine lf ?_;exact qk.h):p:=h ⟨k⟩
theorem Z28(h:p:=by refine D.buildSlice jU jS jZ ?_;exact Tu):p:=h
theorem Z29(h:p:=by refine Am ?_;exact Tu):p:=h
theorem Z30(k:q)(h:Hk q→p:=by intro qk;refine Z0 ?_;refine Z6 ?_;exact qk.h):p:=h ⟨k⟩
theorem Z32(k:q)(h:Hk q→p:=by intro qk;refine Ky ?_;refine A3 ?_;exact qk.h):p:=h ⟨k⟩
theorem Z33(k:q)(h:Hk q→p:=by intro qk;refine Z1 ?_;refine Z0 ?_;exact qk.h):p:=h ⟨k⟩
theorem Z34(h:p:=by refine Dd ?_;exact AQ7):p:=h
theorem Z35(k:q)(h:Hk q→p:=by intro qk;refine Hw ?_;refine Z2 ?_;exact qk.h):p:=h ⟨k⟩
theorem Z36(h:p:=by refine Dd ?_;exact AEr):p:=h
theorem Z37(h:p:=by refine Z8 ?_;exact Ab (Ao Ag) ⟨by rw [hn];first|(simp only [ht22,ht25,ht33,ht41,ht41,hk3,hk6,Kv,Gy,M6,Oj,if_true,if_false,B1,↓reduceIte]<;>rfl)|(simp only [ht22,ht25,ht33,ht41,ht41,hk3,Kv,Gy,M6,if_true,if_false,B1,↓reduceIte]<;>rfl)|(simp only [ht22,ht25,ht33,ht41,ht41,if_true,if_false,B1,↓reduceIte]<;>rfl),rfl⟩):p:=h
theorem Z38(h:p:=by refine Z5 ?_;exact Tu):p:=h
theorem Z40(k:q)(h:Hk q→p:=by intro qk;refine Ei ?_;refine ABa ?_;exact qk.h):p:=h ⟨k⟩
theorem Z41(k:q)(h:Hk q→p:=by intro qk;refine Z23 ?_;refine Z26 ?_;exact qk.h):p:=h ⟨k⟩
theorem Z42(k:q)(h:Hk q→p:=by intro qk;refine Z9 ?_;refine Z0 ?_;exact qk.h):p:=h ⟨k⟩
theorem Z43(k:q)(h:Hk q→p:=by intro qk;refine Z24 ?_;refine A2 [0,2] ?_;exact qk.h):p:=h ⟨k⟩
theorem Z44(h:p:=by refine Z20 ?_;refine Z8 ?_;exact Ab (Ao Ag) ⟨by simp_all [Mj],rfl⟩):p:=h
theorem Z45(k:q)(h:Hk q→p:=by intro qk;refine A3 ?_;refine Ho ?_;exact qk.h):p:=h ⟨k⟩
theorem Z46(k:q)(h:Hk q→p:=by intro qk;refine Z8 ?_;refine K.lpR ?_;exact qk.h):p:=h ⟨k⟩
theorem Z47(h:p:=by refine Mf ?_;exact Ar (by simp [*])):p:=h
theorem Z48(k:q)(h:Hk q→p:=by intro qk;refine Z30 ?_;refine Z6 ?_;exact qk.h):p:=h ⟨k⟩
theorem Z49(k:q)(h:Hk q→p:=by intro qk;refine Z2 ?_;refine B4 (x:=prx L (Az L (Ha S)).2) Tryz.call56 (getset ho) (by simp) G5 (c56 L (Ha S) o _ (A8 (getset ho)) hT0 (by omega)) ?_;exact qk.h):p:=h ⟨k⟩
theorem Z50(k:q)(h:Hk q→p:=by intro qk;refine Z9 ?_;refine A3 ?_;exact qk.h):p:=h ⟨k⟩
theorem Z51(h:p:=by refine Z8 ?_;exact Ab (Ao (B5 jA jS)) ⟨by rw [e];show _=Aj (.mk 6 (A4 l S.i).text noV (H6 l f (A5 S)).1);rw [hca,AA9],by rw [e];show _=Hp.set o (pq l (H7 l f (A4 l S.i) (A5 S)));rw [e2];first|rfl|(simp only [Bc])⟩ (hlow:=by have:=At Hp.length (.mk 6 (A4 l S.i).text noV r.1);rw [AA9] at this;simpa only [Bg] using this)):p:=h
theorem Z52(k:q)(h:Hk q→p:=by intro qk;refine ny ?_;refine Kx ?_;exact qk.h):p:=h ⟨k⟩
theorem Z53(k:q)(h:Hk q→p:=by intro qk;refine Z2 ?_;refine B4 Tryz.call245 ho (by simp) Dz (AFh l S o _ (A8 ho) hi hll) ?_;exact qk.h):p:=h ⟨k⟩
theorem Z54(k:q)(h:Hk q→p:=by intro qk;refine Z0 ?_;refine Z3 ?_;exact qk.h):p:=h ⟨k⟩
theorem Z55(k:q)(h:Hk q→p:=by intro qk;refine Bk ?_;refine A3 ?_;exact qk.h):p:=h ⟨k⟩
theorem Z56(k:q)(h:Hk q→p:=by intro qk;refine Z4 ?_;refine Z22 ?_;exact qk.h):p:=h ⟨k⟩
theorem Z57(k:q)(h:Hk q→p:=by intro qk;refine lf ?_;refine Ho ?_;exact qk.h):p:=h ⟨k⟩
theorem Z58(k:q)(h:Hk q→p:=by intro qk;refine H0 ?_;refine H0 ?_;exact qk.h):p:=h ⟨k⟩
theorem Z59(k:q)(h:Hk q→p:=by intro qk;refine Z2 ?_;refine A2 [0] ?_;exact qk.h):p:=h ⟨k⟩
theorem Z60(k:q)(h:Hk q→p:=by intro qk;refine Z14 ?_;refine Dd ?_;exact qk.h):p:=h ⟨k⟩
theorem Z62(h:p:=by refine Mf ?_;exact Ar (by rw [e]<;>rfl)):p:=h
theorem Z63(k:q)(h:Hk q→p:=by intro qk;refine Z2 ?_;refine A2 [0,1] ?_;exact qk.h):p:=h ⟨k⟩
theorem Z64(h:p:=by refine Dd ?_;exact Ab (Ao (B5 jA jS)) ⟨by rw [e,Ad],by rw [e]⟩ (hlow:=low_agg _)):p:=h
theorem Z65(k:q)(h:Hk q→p:=by intro qk;refine Am ?_;refine Er ?_;exact qk.h):p:=h ⟨k⟩
theorem Z66(k:q)(h:Hk q→p:=by intro qk;refine Z46 ?_;refine Dd ?_;exact qk.h):p:=h ⟨k⟩
theorem Z67(k:q)(h:Hk q→p:=by intro qk;refine Z0 ?_;refine Z0 ?_;exact qk.h):p:=h ⟨k⟩
theorem Z69(k:q)(h:Hk q→p:=by intro qk;refine A2 [6] ?_;refine Kx ?_;exact qk.h):p:=h ⟨k⟩
theorem Z70(k:q)(h:Hk q→p:=by intro qk;refine Pt (places:=#[(0,1),(1,5)]) jU (fun w=>by simp) jZ ?_;refine Z11 ?_;exact qk.h):p:=h ⟨k⟩
theorem Z71(k:q)(h:Hk q→p:=by intro qk;refine Hw ?_;refine Ei ?_;exact qk.h):p:=h ⟨k⟩
theorem Z72(h:p:=by refine Nf ?_;exact AQ9):p:=h
theorem Z73(k:q)(h:Hk q→p:=by intro qk;refine Rg ?_;refine A3 ?_;exact qk.h):p:=h ⟨k⟩
theorem Z75(k:q)(h:Hk q→p:=by intro qk;refine Z12 ?_;refine Z15 ?_;exact qk.h):p:=h ⟨k⟩
theorem Z76(k:q)(h:Hk q→p:=by intro qk;refine ABb ?_;refine Mf ?_;exact qk.h):p:=h ⟨k⟩
theorem Z77(k:q)(h:Hk q→p:=by intro qk;refine Z6 ?_;refine A3 ?_;exact qk.h):p:=h ⟨k⟩
theorem Z79(k:q)(h:Hk q→p:=by intro qk;refine Z2 ?_;refine Z17 ?_;exact qk.h):p:=h ⟨k⟩
theorem Z80(k:q)(h:Hk q→p:=by intro qk;refine Z5 ?_;refine D.indexArrPtr (k) jU Tryz.sizeOf126 hk ?_;exact qk.h):p:=h ⟨k⟩
theorem Z81(k:q)(h:Hk q→p:=by intro qk;refine Z1 ?_;refine A2 [13] ?_;exact qk.h):p:=h ⟨k⟩
theorem Z82(k:q)(h:Hk q→p:=by intro qk;refine Z2 ?_;refine ABa ?_;exact qk.h):p:=h ⟨k⟩
theorem Z83(h:p:=by refine A2 [0,1,7,8] ?_;exact Be (x+1) ⟨hlt,Jx hlt hx.2 ht16⟩ (by omega) (Bp rfl)):p:=h
theorem Z84(k:q)(h:Hk q→p:=by intro qk;refine Ic ?_;refine Z1 ?_;exact qk.h):p:=h ⟨k⟩
theorem Z85(k:q)(h:Hk q→p:=by intro qk;refine Z5 ?_;refine Z5 ?_;exact qk.h):p:=h ⟨k⟩
theorem Z86(k:q)(h:Hk q→p:=by intro qk;refine Z58 ?_;refine H0 ?_;exact qk.h):p:=h ⟨k⟩
theorem Z87(k:q)(h:Hk q→p:=by intro qk;refine Z2 ?_;refine ef ?_;exact qk.h):p:=h ⟨k⟩
theorem Z88(h:p:=by refine Z54 ?_;exact ul):p:=h
theorem Z89(k:q)(h:Hk q→p:=by intro qk;refine Z0 ?_;refine Z7 ?_;exact qk.h):p:=h ⟨k⟩
theorem Z90(k:q)(h:Hk q→p:=by intro qk;refine Z1 ?_;refine A2 [1] ?_;exact qk.h):p:=h ⟨k⟩
theorem Z91(k:q)(h:Hk q→p:=by intro qk;refine Z2 ?_;refine Z18 ?_;exact qk.h):p:=h ⟨k⟩
theorem Z92(k:q)(h:Hk q→p:=by intro qk;refine Z11 ?_;refine T9 ?_;exact qk.h):p:=h ⟨k⟩
theorem Z93(h:p:=by refine Z25 ?_;refine Z20 ?_;exact Ab (Ao Ag) ⟨by simp_all [Mj],rfl⟩):p:=h
theorem Z94(k:q)(h:Hk q→p:=by intro qk;refine Hh ?_;refine Mf ?_;exact qk.h):p:=h ⟨k⟩
theorem Z95(k:q)(h:Hk q→p:=by intro qk;refine Gm Tryz.call55 (AL6 L (m8 L S) (Ha S) o Hp ho hT0 hl hll ht ⟨Al _,Al _,Al _,Al _⟩) (by simp) (fun h=>by simpa using M5 h) ?_;refine T9 ?_;exact qk.h):p:=h ⟨k⟩
theorem Z96(k:q)(h:Hk q→p:=by intro qk;refine Nf ?_;refine Hh ?_;exact qk.h):p:=h ⟨k⟩
theorem Z97(h:p:=by refine AMo ?_;exact Tu):p:=h
theorem Z98(k:q)(h:Hk q→p:=by intro qk;refine He ?_;refine Mf ?_;exact qk.h):p:=h ⟨k⟩
theorem Z99(h:p:=by refine He ?_;exact Z47):p:=h
theorem We(k:q)(h:Hk q→p:=by intro qk;refine Bk ?_;refine Z48 ?_;exact qk.h):p:=h ⟨k⟩
theorem Y8(k:q)(h:Hk q→p:=by intro qk;refine Z4 ?_;refine Ei ?_;exact qk.h):p:=h ⟨k⟩
theorem AB2(k:q)(h:Hk q→p:=by intro qk;refine Tq jS ?_;refine T9 ?_;exact qk.h):p:=h ⟨k⟩
theorem AO6(k:q)(h:Hk q→p:=by intro qk;refine Z63 ?_;refine Fe [0,1,3,7,0,16,48,112,255,511,0,2047] [] [.q 10 [] [],.s [5] none [] [],.s [5] none [] []] (fun _=>Hp) (fun _=>[]) Af (by kernel_rfl) rfl rfl (fun _=>rfl) ?_;exact qk.h):p:=h ⟨k⟩
theorem AB3(k:q)(h:Hk q→p:=by intro qk;refine Rg ?_;refine Tp ?_;exact qk.h):p:=h ⟨k⟩
theorem Wf(k:q)(h:Hk q→p:=by intro qk;refine Z25 ?_;refine Z15 ?_;exact qk.h):p:=h ⟨k⟩
theorem Tt(k:q)(h:Hk q→p:=by intro qk;refine Z9 ?_;refine Z7 ?_;exact qk.h):p:=h ⟨k⟩
theorem AM1(h:p:=by refine Z79 ?_;exact Ab (Ao Ag) ⟨by rw [wm (qq hxe hx.2)],rfl⟩):p:=h
theorem ec(k:q)(h:Hk q→p:=by intro qk;refine Z4 ?_;refine Ic ?_;exact qk.h):p:=h ⟨k⟩
theorem AM2(h:p:=by refine Z60 ?_;exact Ab (Es Ag (B5 jA jS)) ⟨by rw [e]<;>rfl,rfl⟩):p:=h
theorem AIh(h:p:=by refine Jn ?_;exact Dx ⟨_,_,e,rfl,.refl ho⟩):p:=h
theorem AM3(h:p:=by refine Z66 ?_;exact Ab (Ao Ag) ⟨by rw [AGi hlt ht16 hx.2],rfl⟩):p:=h
theorem Wg(k:q)(h:Hk q→p:=by intro qk;refine Z0 ?_;refine Bk ?_;exact qk.h):p:=h ⟨k⟩
theorem AM4(k:q)(h:Hk q→p:=by intro qk;refine Z1 ?_;refine lf ?_;exact qk.h):p:=h ⟨k⟩
theorem np(k:q)(h:Hk q→p:=by intro qk;refine Ho ?_;refine Z17 ?_;exact qk.h):p:=h ⟨k⟩
theorem AM5(k:q)(h:Hk q→p:=by intro qk;refine lf ?_;refine Z18 ?_;exact qk.h):p:=h ⟨k⟩
theorem AM6(h:p:=by refine Z17 ?_;exact Ab (Ao Ag) ⟨by rw [←ACf];try rfl,rfl⟩):p:=h
theorem l8(h:p:=by refine Am ?_;exact Z28):p:=h
theorem ud(k:q)(h:Hk q→p:=by intro qk;refine Kx ?_;refine Dd ?_;exact qk.h):p:=h ⟨k⟩
theorem ue(k:q)(h:Hk q→p:=by intro qk;refine P3 ?_;refine Z91 ?_;exact qk.h):p:=h ⟨k⟩
theorem AO7(k:q)(h:Hk q→p:=by intro qk;refine Ho ?_;refine A3 ?_;exact qk.h):p:=h ⟨k⟩
theorem AO8(h:p:=by refine He ?_;exact AQ9):p:=h
theorem nq(h:p:=by refine Z5 ?_;exact Z38):p:=h
theorem AO9(h:p:=by refine ud ?_;exact Ab .nores (hp:=⟨rfl,by first|(rw [e];done)|(rw [e];rfl)|(rw [e];exact (E8 ho).symm)⟩)):p:=h
theorem nr(k:q)(h:Hk q→p:=by intro qk;refine Ka jZ ?_;refine Z45 ?_;exact qk.h):p:=h ⟨k⟩
theorem AM7(h:p:=by refine Z8 ?_;exact Ab (Ao Ag) ⟨by simp_all [wo],rfl⟩):p:=h
theorem Y9(k:q)(h:Hk q→p:=by intro qk;refine Z4 ?_;refine Z16 ?_;exact qk.h):p:=h ⟨k⟩
theorem AM8(h:p:=by refine Z60 ?_;exact Ab (Es Ag Ag) ⟨by rw [hw],rfl⟩):p:=h
theorem AOa(h:p:=by refine Z14 ?_;exact AQ7):p:=h
theorem AOb(h:p:=by refine Hh ?_;exact Be (z+1) ⟨by have:=hz.1;omega,AL9 hz.1 hz.2 hzl hzq⟩ (by omega) (Bp rfl)):p:=h
theorem AOc(h:p:=by refine Z54 ?_;exact Ab (Ao Ag) ⟨by rw [show Av k=kindNames.getD k.toNat [] from if_neg (by omega)],rfl⟩):p:=h
theorem AOd(k:q)(h:Hk q→p:=by intro qk;refine Z2 ?_;refine B4 (x:=prx L (w8 L x)) Tryz.call58 (getset ho) (by simp) G5 (c58 L x.2.2.2 [44] o _ (A8 (getset ho)) hx.lt (by omega)) ?_;exact qk.h):p:=h ⟨k⟩
theorem aq(k:q)(h:Hk q→p:=by intro qk;refine Z5 ?_;refine Z19 ?_;exact qk.h):p:=h ⟨k⟩
theorem nt(h:p:=by refine Z54 ?_;refine Z8 ?_;exact AQ8):p:=h
theorem AOe(h:p:=by refine Nf ?_;exact Kc .nores (hp:=⟨M0 m x,k,by unfold Nm;rw [hT];rfl,rfl,by exact ACq⟩)):p:=h
theorem nu(k:q)(h:Hk q→p:=by intro qk;refine Jn ?_;refine Nd ?_;exact qk.h):p:=h ⟨k⟩
theorem ar(k:q)(h:Hk q→p:=by intro qk;refine Z4 ?_;refine Z2 ?_;exact qk.h):p:=h ⟨k⟩
theorem AEg(h:p:=by refine Eh [3,8] ?_;exact Z99):p:=h
theorem AOf(h:p:=by refine ud ?_;exact Ab (V.three (B5 jA jS) Ag (B5 jA jS)) ⟨by rw [e,AFj]<;>rfl,rfl⟩):p:=h
theorem AB4(h:p:=by refine Nf ?_;refine Hh ?_;exact On .nores ⟨rfl,by rw [pe]<;>simp [Q5]⟩):p:=h
theorem ee(k:q)(h:Hk q→p:=by intro qk;refine Z16 ?_;refine Z6 ?_;exact qk.h):p:=h ⟨k⟩
theorem AOg(h:p:=by refine A2 [1,3,4] ?_;exact Be (x+1) hlt (by omega) (by simp only [em];exact Bp rfl)):p:=h
theorem AOh(h:p:=by refine D.build (places:=#[(0,1),(1,1),(2,3),(5,1)]) jU (fun w=>by simp) jZ ?_;exact nq):p:=h
theorem AEh(k:q)(h:Hk q→p:=by intro qk;refine Z0 ?_;refine Z17 ?_;exact qk.h):p:=h ⟨k⟩
theorem AIi(h:p:=by refine AEh ?_;exact ul):p:=h
theorem AB5(k:q)(h:Hk q→p:=by intro qk;refine Ho ?_;refine Z69 ?_;exact qk.h):p:=h ⟨k⟩
theorem AM9(h:p:=by refine AEh ?_;exact Ab (Ao Ag) ⟨rfl,rfl⟩):p:=h
theorem AOi(h:p:=by refine ue ?_;exact Ab (Ao (B5 jA jS)) ⟨by simp only [zk,hm]<;>simp_all,rfl⟩):p:=h
theorem uf(k:q)(h:Hk q→p:=by intro qk;refine Z1 ?_;refine Z60 ?_;exact qk.h):p:=h ⟨k⟩
theorem AMa(k:q)(h:Hk q→p:=by intro qk;refine Z2 ?_;refine Ap Tryz.call257 (AQg l S o _ (A8 ho) hi) ?_;exact qk.h):p:=h ⟨k⟩
theorem l9(k:q)(h:Hk q→p:=by intro qk;refine Z6 ?_;refine Z6 ?_;exact qk.h):p:=h ⟨k⟩
theorem AMb(h:p:=by refine Z18 ?_;exact AMk):p:=h
theorem AMc(k:q)(h:Hk q→p:=by intro qk;refine Z2 ?_;refine Ap Tryz.call48 (c48 L i o _ (A8 ho) hi) ?_;exact qk.h):p:=h ⟨k⟩
theorem AOj(h:p:=by refine AEt ?_;exact Be (k+1) hk (by omega) (Bp rfl)):p:=h
theorem AIj(k:q)(h:Hk q→p:=by intro qk;refine Ho ?_;refine A2 [4,5,6] ?_;exact qk.h):p:=h ⟨k⟩
theorem AMd(k:q)(h:Hk q→p:=by intro qk;refine Ga 2 (Io []) (.nil false 5) ?_;refine Ho ?_;exact qk.h):p:=h ⟨k⟩
theorem AOk(k:q)(h:Hk q→p:=by intro qk;refine Am ?_;refine AQa ?_;exact qk.h):p:=h ⟨k⟩
theorem AOl(k:q)(h:Hk q→p:=by intro qk;refine AQa ?_;refine Z65 ?_;exact qk.h):p:=h ⟨k⟩
theorem AEi(h:p:=by refine Z46 ?_;exact Z36):p:=h
theorem AMe(k:q)(h:Hk q→p:=by intro qk;refine A3 ?_;refine Rf (k) jU Tryz.sizeOf126 hk ?_;exact qk.h):p:=h ⟨k⟩
theorem ug(k:q)(h:Hk q→p:=by intro qk;refine Z54 ?_;refine Z8 ?_;exact qk.h):p:=h ⟨k⟩
theorem uh(k:q)(h:Hk q→p:=by intro qk;refine Z25 ?_;refine Z20 ?_;exact qk.h):p:=h ⟨k⟩
theorem nv(k:q)(h:Hk q→p:=by intro qk;refine Z18 ?_;refine Z8 ?_;exact qk.h):p:=h ⟨k⟩
theorem AOm(h:p:=by refine uh ?_;exact AQ8):p:=h
theorem AOn(h:p:=by refine uf ?_;exact APu):p:=h
theorem AOo(h:p:=by refine uf ?_;exact AMr):p:=h
theorem AOq(k:q)(h:Hk q→p:=by intro qk;refine Y.buildSlice jU Tryz.sizeOf9 Tryz.zeroValue9 ?_;refine Dj (tn:=[2]) (U:=U2 L Hp o om j (mvO m)) ?_;exact qk.h):p:=h ⟨k⟩
theorem AOr(k:q)(h:Hk q→p:=by intro qk;refine Z56 ?_;refine Gb [0,0,3,7,15,0,0,96,224,511,0,2047,4095] 11 Af (by kernel_rfl) ?_;exact qk.h):p:=h ⟨k⟩
theorem AB6(k:q)(h:Hk q→p:=by intro qk;refine K.blR ?_;refine K.lpR ?_;exact qk.h):p:=h ⟨k⟩
theorem AMf(k:q)(h:Hk q→p:=by intro qk;refine Rg ?_;refine Rg ?_;exact qk.h):p:=h ⟨k⟩
theorem AOs(h:p:=by refine Z91 ?_;exact Ab (Ao (B5 jA jS)) ⟨by simp [ht5],rfl⟩):p:=h
theorem AOt(k:q)(h:Hk q→p:=by intro qk;refine ABa ?_;refine Rg ?_;exact qk.h):p:=h ⟨k⟩
theorem AOu(k:q)(h:Hk q→p:=by intro qk;refine Z16 ?_;refine B4 Tryz.call217 ho (by simp) Dz (ABu l S 8 (A4 l S.i).at_ o _ (A8 ho)) ?_;exact qk.h):p:=h ⟨k⟩
theorem AOv(k:q)(h:Hk q→p:=by intro qk;refine Z56 ?_;refine Om [0,1,0,7,15,0,32,0,224,480,1023,2047] 10 Af (by kernel_rfl) ?_;exact qk.h):p:=h ⟨k⟩
theorem AMg(k:q)(h:Hk q→p:=by intro qk;refine Z15 ?_;refine AEw ?_;exact qk.h):p:=h ⟨k⟩
theorem AEj(h:p:=by refine Z20 ?_;refine Z8 ?_;exact Ab (Ao Ag) ⟨by simp_all [U7],rfl⟩):p:=h
theorem AOw(k:q)(h:Hk q→p:=by intro qk;refine Gb [0,1,3,7,0,16,48,112,255,511,1023,2047] 8 Af (by kernel_rfl) ?_;refine Z19 ?_;exact qk.h):p:=h ⟨k⟩
theorem AOx(h:p:=by refine Z17 ?_;exact AQ1):p:=h
theorem AOy(k:q)(h:Hk q→p:=by intro qk;refine Ap Tryz.call93 (ATj _) ?_;refine Pt (places:=#[(0,1),(1,5)]) jU (fun w=>by simp) jZ ?_;exact qk.h):p:=h ⟨k⟩
theorem AOz(h:p:=by refine ug ?_;exact AEr):p:=h
theorem AP0(k:q)(h:Hk q→p:=by intro qk;refine Om [0,1,3,7,0,16,48,112,255,511,1023,2047] 8 Af (by kernel_rfl) ?_;refine Z19 ?_;exact qk.h):p:=h ⟨k⟩
theorem AEk(h:p:=by refine A2 [10] ?_;refine Z12 ?_;refine Z33 ?_;refine Z14 ?_;exact AQ5):p:=h
theorem ui(k:q)(h:Hk q→p:=by intro qk;refine Z25 ?_;refine Z21 ?_;exact qk.h):p:=h ⟨k⟩
theorem AEl(k:q)(h:Hk q→p:=by intro qk;refine Z1 ?_;refine A2 [3,8] ?_;exact qk.h):p:=h ⟨k⟩
theorem AP1(k:q)(h:Hk q→p:=by intro qk;refine ar ?_;refine Ap Tryz.call96 (c96 _ (rdL d).1 (D7 (hlow ht77) (by decide)) _) ?_;exact qk.h):p:=h ⟨k⟩
theorem uj(k:q)(h:Hk q→p:=by intro qk;refine Z30 ?_;refine Bk ?_;exact qk.h):p:=h ⟨k⟩
theorem AP2(k:q)(h:Hk q→p:=by intro qk;refine Z48 ?_;refine D9 Tryz.call59 (fun hB=>c59 L x.2.2.2 [44] o _ (A8 (getset ho)) hx.lt) ?_;exact qk.h):p:=h ⟨k⟩
theorem nw(k:q)(h:Hk q→p:=by intro qk;refine Z4 ?_;refine Z1 ?_;exact qk.h):p:=h ⟨k⟩
theorem AB7(k:q)(h:Hk q→p:=by intro qk;refine Z18 ?_;refine Dd ?_;exact qk.h):p:=h ⟨k⟩
theorem AIk(k:q)(h:Hk q→p:=by intro qk;refine Y.allocP Tryz.zeroValue59 ?_;refine Y.storeP Tryz.sizeOf59 ?_;refine Dj (tn:=[])  ?_;exact qk.h):p:=h ⟨k⟩
theorem AP3(k:q)(h:Hk q→p:=by intro qk;refine B4 Tryz.call25 ho (by simp) G5 (c25 L S 8 o _ (A8 ho) hi) ?_;refine A2 [0] ?_;exact qk.h):p:=h ⟨k⟩
theorem AP4(k:q)(h:Hk q→p:=by intro qk;refine Gb [0,1,3,7,15,3,35,99,255,511,1023] 8 Af (by kernel_rfl) ?_;refine Z5 ?_;exact qk.h):p:=h ⟨k⟩
theorem AP5(k:q)(h:Hk q→p:=by intro qk;refine Z43 ?_;refine Gb [0,1,3,7,0,16,48,112,255,511,1023] 8 Af (by kernel_rfl) ?_;exact qk.h):p:=h ⟨k⟩
theorem AP6(k:q)(h:Hk q→p:=by intro qk;refine Pt (places:=#[(0,1),(1,1),(2,1),(3,2)]) jU (fun w=>by simp) jZ ?_;refine Ps ?_;exact qk.h):p:=h ⟨k⟩
theorem AIl(h:p:=by refine Hh ?_;exact Z62):p:=h
theorem AP7(k:q)(h:Hk q→p:=by intro qk;refine Z40 ?_;refine lf ?_;exact qk.h):p:=h ⟨k⟩
theorem AP8(k:q)(h:Hk q→p:=by intro qk;refine Z2 ?_;refine lf ?_;exact qk.h):p:=h ⟨k⟩
theorem AP9(h:p:=by refine Dd ?_;exact Ab (Ao Ag) ⟨by rw [hf],rfl⟩):p:=h
theorem APa(h:p:=by refine Z66 ?_;exact Ab (Ao Ag) ⟨by rw [hf],rfl⟩):p:=h
theorem APb(k:q)(h:Hk q→p:=by intro qk;refine la ?_;refine Gb [0,1,3,0,8,24,56,127] 7 Af (by kernel_rfl) ?_;exact qk.h):p:=h ⟨k⟩
theorem AIm(k:q)(h:Hk q→p:=by intro qk;refine Z24 ?_;refine A2 [0,1,2,6] ?_;exact qk.h):p:=h ⟨k⟩
theorem AIn(h:p:=by refine Z13 ?_;refine Z13 ?_;exact AIv):p:=h
theorem AIo(k:q)(h:Hk q→p:=by intro qk;refine T9 ?_;refine Z94 ?_;exact qk.h):p:=h ⟨k⟩
theorem AB8(k:q)(h:Hk q→p:=by intro qk;refine Z23 ?_;refine K.lpE ?_;exact qk.h):p:=h ⟨k⟩
theorem uk(k:q)(h:Hk q→p:=by intro qk;refine Z41 ?_;refine Z2 ?_;exact qk.h):p:=h ⟨k⟩
theorem AMh(h:p:=by refine Z19 ?_;exact Tu):p:=h
theorem AMi(k:q)(h:Hk q→p:=by intro qk;refine Eh [0,3,4,5,7,8,9] ?_;refine Z98 ?_;exact qk.h):p:=h ⟨k⟩
theorem APc(k:q)(h:Hk q→p:=by intro qk;refine A3 ?_;refine Rf ((i+k)) jU Tryz.sizeOf126 (by omega) (hm:=by omega) ?_;exact qk.h):p:=h ⟨k⟩
theorem AMj(k:q)(h:Hk q→p:=by intro qk;refine A3 ?_;refine Ap Tryz.call106 (AS9 e _) ?_;exact qk.h):p:=h ⟨k⟩
theorem APd(k:q)(h:Hk q→p:=by intro qk;refine Z67 ?_;refine Rf ((i+k)) jU Tryz.sizeOf126 (by omega) (hm:=by omega) ?_;exact qk.h):p:=h ⟨k⟩
theorem APe(k:q)(h:Hk q→p:=by intro qk;refine D9 Tryz.call144 (fun hB=>AQe e.text Sr hs (by decide) _) ?_;refine Z48 ?_;exact qk.h):p:=h ⟨k⟩
theorem AIp(h:p:=by refine Z1 ?_;refine Z14 ?_;exact Z34):p:=h
theorem AB9(k:q)(h:Hk q→p:=by intro qk;refine AO7 ?_;refine Z14 ?_;exact qk.h):p:=h ⟨k⟩
theorem AEm(k:q)(h:Hk q→p:=by intro qk;refine Z33 ?_;refine A2 [0] ?_;exact qk.h):p:=h ⟨k⟩
theorem AEn(k:q)(h:Hk q→p:=by intro qk;refine Z2 ?_;refine Ka jZ ?_;exact qk.h):p:=h ⟨k⟩
theorem AIq(h:p:=by refine Z13 ?_;refine Y.bot (fun B hT=>Zn (hT 0 (by simp))) ?_;exact AIv):p:=h
theorem APf(k:q)(h:Hk q→p:=by intro qk;refine Z1 ?_;refine ABa ?_;exact qk.h):p:=h ⟨k⟩
theorem APg(k:q)(h:Hk q→p:=by intro qk;refine Pq Tryz.call95 (ATi (rdL (d.take i)).1 10 hm2 (by decide) _) ?_;refine Z65 ?_;exact qk.h):p:=h ⟨k⟩
theorem AEo(k:q)(h:Hk q→p:=by intro qk;refine Z22 ?_;refine Ei ?_;exact qk.h):p:=h ⟨k⟩
theorem AIr(k:q)(h:Hk q→p:=by intro qk;refine A2 [3,9] ?_;refine Ig ?_;exact qk.h):p:=h ⟨k⟩
theorem APh(k:q)(h:Hk q→p:=by intro qk;refine Ei ?_;refine ef ?_;exact qk.h):p:=h ⟨k⟩
theorem nx(h:p:=by exact ⟨rfl,Below.refl _ _⟩):p:=h
theorem Ei(k:q)(h:Hk q→p:=by intro qk;refine AW.seqR ?_;exact qk.h):p:=h ⟨k⟩
theorem Qm(k:q)(h:Hk q→p:=by intro qk;refine A2 [0,3] ?_;exact qk.h):p:=h ⟨k⟩
theorem la(k:q)(h:Hk q→p:=by intro qk;refine A2 [0,3,4] ?_;exact qk.h):p:=h ⟨k⟩
theorem ul(h:p:=by exact Ab (Ao Ag)):p:=h
theorem Ho(k:q)(h:Hk q→p:=by intro qk;refine R8 jS ?_;exact qk.h):p:=h ⟨k⟩
theorem AMk(h:p:=by exact Ab (Ao (B5 jA jS))):p:=h
theorem P3(k:q)(h:Hk q→p:=by intro qk;refine A2 [2,3] ?_;exact qk.h):p:=h ⟨k⟩
theorem ABa(k:q)(h:Hk q→p:=by intro qk;refine Pt (places:=#[(0,1),(1,1),(2,1)]) jU (fun w=>by simp) jZ ?_;exact qk.h):p:=h ⟨k⟩
theorem APi(h:p:=by exact Ab (Ao Ag) ⟨by simp only [De,hp,ht7,ht14,ht23,ht27,Hu,B1,if_false,if_true];try rfl,rfl⟩):p:=h
theorem APj(h:p:=by exact Ab (Es (B5 jA jS) Ag) ⟨by simp only [aw,ht17,if_true,if_false,B1];rfl,rfl⟩):p:=h
theorem APk(h:p:=by exact Ab (Na Ag Ag Ag Ag) ⟨by simp only [Nh,ht11,ht17,if_true,if_false,B1];try rfl,rfl⟩):p:=h
theorem APl(h:p:=by exact Ab (Na Ag Ag Ag Ag) ⟨by simp only [Ni,ht18,ht23,if_true,if_false,B1];try rfl,rfl⟩):p:=h
theorem APm(h:p:=by exact Ab (Na Ag Ag Ag Ag) ⟨by simp only [Bi,ht6,ht17,ht28,if_true,if_false,B1],rfl⟩):p:=h
theorem AEp(h:p:=by exact absurd h (by decide)):p:=h
theorem Nf(k:q)(h:Hk q→p:=by intro qk;refine A2 [] ?_;exact qk.h):p:=h ⟨k⟩
theorem Rg(k:q)(h:Hk q→p:=by intro qk;refine R.buildSlice jU jS jZ ?_;exact qk.h):p:=h ⟨k⟩
theorem ef(k:q)(h:Hk q→p:=by intro qk;refine Pt (places:=#[(0,1),(1,1)]) jU (fun w=>by simp) jZ ?_;exact qk.h):p:=h ⟨k⟩
theorem AIs(h:p:=by exact ⟨hFRl,by simp [oid]⟩):p:=h
theorem AEq(h:p:=by exact Yy (fun x hx=>ObjLow.le (by omega) (hlow x hx)) hOl x hx):p:=h
theorem ny(k:q)(h:Hk q→p:=by intro qk;refine A2 [2,3,4,5] ?_;exact qk.h):p:=h ⟨k⟩
theorem AIt(h:p:=by exact V3 (Ae _) hi rfl _ _):p:=h
theorem APn(h:p:=by exact ⟨Ae _,hi,rfl,bh (by omega),by show sizeE Ax≤_;rw [U1];omega⟩):p:=h
theorem eg(k:q)(h:Hk q→p:=by intro qk;refine A2 [0,1,4] ?_;exact qk.h):p:=h ⟨k⟩
theorem lb(k:q)(h:Hk q→p:=by intro qk;refine A2 [0,2,3,4] ?_;exact qk.h):p:=h ⟨k⟩
theorem T9(k:q)(h:Hk q→p:=by intro qk;refine A2 [0,2,3] ?_;exact qk.h):p:=h ⟨k⟩
theorem o4(k:q)(h:Hk q→p:=by intro qk;refine A2 [0,3,4,5] ?_;exact qk.h):p:=h ⟨k⟩
theorem APo(k:q)(h:Hk q→p:=by intro qk;refine So (u:=Hp.length) (n:=0) (t':=69) (cs:=[A7 0,Ac [],A7 0,A7 0,Ac [],.nil]) (cs':=[A7 0,Ac [],A7 0,A7 0,Ac [],.nil]) Tryz.sizeOf69 (fun B hB=>⟨rfl,rfl,rfl,rfl⟩) ?_;exact qk.h):p:=h ⟨k⟩
theorem APp(h:p:=by exact Ab (Ao Ag) ⟨by rw [decide_eq_false hne],rfl⟩):p:=h
theorem APq(h:p:=by exact ⟨kj i,hl.step hi (by rw [hk];decide)⟩):p:=h
theorem um(h:p:=by exact ⟨by omega,c2,c3⟩):p:=h
theorem lc(h:p:=by exact Q7 (by kernel_rfl) h61):p:=h
theorem APr(h:p:=by exact ⟨(Sx _ _ _).trans hS,fun h=>absurd h (Mz (by decide) _)⟩):p:=h
theorem APs(h:p:=by exact bad _ _ ((Sx _ _ _).trans hS) (Mz (by decide) _)):p:=h
theorem AIu(h:p:=by exact fun h=>absurd h (Mz (by decide) _)):p:=h
theorem AMl(h:p:=by exact ⟨by kernel_rfl,by decide +kernel,by decide +kernel⟩):p:=h
theorem AMm(h:p:=by exact absurd hc (Mz (by decide) _)):p:=h
theorem un(h:p:=by exact ⟨(fun h=>by cases h),(fun h=>by cases h)⟩):p:=h
theorem APt(h:p:=by exact Ab (Ao Ag) ⟨by rw [hn];first|(simp only [ht22,ht25,ht33,ht41,ht41,ht50,ht58,hk3,hk6,Kv,Gy,M6,Oj,if_true,if_false,B1,↓reduceIte]<;>rfl)|(simp only [ht22,ht25,ht33,ht41,ht41,ht50,ht58,hk3,Kv,Gy,M6,if_true,if_false,B1,↓reduceIte]<;>rfl)|(simp only [ht22,ht25,ht33,ht41,ht41,ht50,ht58,if_true,if_false,B1,↓reduceIte]<;>rfl),rfl⟩):p:=h
theorem AEr(h:p:=by exact Ab (Ao Ag) ⟨by rw [hm]<;>rfl,rfl⟩):p:=h
theorem AMn(k:q)(h:Hk q→p:=by intro qk;refine Gb [0,1,3,0,8,24,63] 6 Af (by kernel_rfl) ?_;exact qk.h):p:=h ⟨k⟩
theorem APu(h:p:=by exact Ab (Es Ag Ag) ⟨by rw [hsh]<;>rfl,rfl⟩):p:=h
theorem AMo(k:q)(h:Hk q→p:=by intro qk;refine D.build (places:=#[(0,1),(1,1)]) jU (fun w=>by simp) jZ ?_;exact qk.h):p:=h ⟨k⟩
theorem Tu(h:p:=by exact D.end rfl rfl):p:=h
theorem AIv(h:p:=by exact Y.endBot (Zn rfl)):p:=h
theorem AMp(k:q)(h:Hk q→p:=by intro qk;refine RK.callBad Tryz.call49 (c49 L i o 8 _ (A8 ho) hi) ?_;exact qk.h):p:=h ⟨k⟩
theorem APv(k:q)(h:Hk q→p:=by intro qk;refine Fe [0,1,3,7,0,16,48,112,255,511,1023,1023,1023,0,0,26623,61439,131071] [] [.q 13 [] [],.s [3] none [] [],.s [5] none [] [],.s [3] none [] [],.q 1 [] [],.s [5] none [] []] (fun _=>Hp) (fun _=>[.cells 69 [A7 0,Ac [],A7 0,A7 0,Ac [],.nil]]) Af (by kernel_rfl) rfl rfl (fun _=>rfl) ?_;exact qk.h):p:=h ⟨k⟩
theorem APw(h:p:=by exact Dx ⟨_,_,by unfold Nm;rw [hT];rfl,rfl,j',m,wu hne hm⟩):p:=h
theorem APx(h:p:=by exact (AGs L i o _ (A8 (Ck ho hne)) hi hl hll).ok hT):p:=h
theorem AEs(k:q)(h:Hk q→p:=by intro qk;refine AW.upEq (Vs ho hm).symm ?_;exact qk.h):p:=h ⟨k⟩
theorem APy(k:q)(h:Hk q→p:=by intro qk;refine RK.callBad Tryz.call123 ((wv L m i o om (U2 L Hp o om i (mvO m)++[.cells 51 [.ptr o 0],.cells 102 [.ptr om 0]]) hne (A8 (Ck ho hne)) (A8 (Et hm)) hi hl hll hb).bad h1) ?_;exact qk.h):p:=h ⟨k⟩
theorem APz(k:q)(h:Hk q→p:=by intro qk;refine Pt (places:=#[(0,1),(1,1),(2,1),(3,1),(4,1)]) jU (fun w=>by simp) jZ ?_;exact qk.h):p:=h ⟨k⟩
theorem AQ0(k:q)(h:Hk q→p:=by intro qk;refine B4 Tryz.call163 ho (by simp) Jt (AD3 l S 8 (A4 l S.i).at_ o _ (A8 ho)) ?_;exact qk.h):p:=h ⟨k⟩
theorem AMq(h:p:=by exact ⟨rfl,fun h=>absurd h (by decide)⟩):p:=h
theorem o5(h:p:=by exact ⟨rfl,fun _=>rfl⟩):p:=h
theorem AIw(k:q)(h:Hk q→p:=by intro qk;refine Rf (0) jU Tryz.sizeOf126 (by decide) ?_;exact qk.h):p:=h ⟨k⟩
theorem AQ1(h:p:=by exact Ab (Ao (B5 jA jS)) ⟨by rw [had],rfl⟩):p:=h
theorem AEt(k:q)(h:Hk q→p:=by intro qk;refine A2 [2,3,4,5,9,10] ?_;exact qk.h):p:=h ⟨k⟩
theorem AEu(k:q)(h:Hk q→p:=by intro qk;refine A2 [2,3,4,5,6,7,8] ?_;exact qk.h):p:=h ⟨k⟩
theorem AIx(k:q)(h:Hk q→p:=by intro qk;refine A2 [2,3,4,5,6,7,8,9,10] ?_;exact qk.h):p:=h ⟨k⟩
theorem eh(k:q)(h:Hk q→p:=by intro qk;refine A2 [0,4,5,6,7,8,9] ?_;exact qk.h):p:=h ⟨k⟩
theorem lf(k:q)(h:Hk q→p:=by intro qk;refine Pt (places:=#[(0,1),(1,1),(2,3),(5,1)]) jU (fun w=>by simp) jZ ?_;exact qk.h):p:=h ⟨k⟩
theorem AQ2(h:p:=by exact Ab (Ao (B5 jA jS)) ⟨by rw [e];simp only [Ad]<;>rfl,by rw [e]<;>rfl⟩ (hlow:=by have:=At Hp.length (Ax);simp only [Ad,Bg] at this ⊢;exact this)):p:=h
theorem AQ3(h:p:=by exact On .nores (hp:=⟨rfl,by first|(rw [e];done)|(rw [e];exact Bc ..)⟩)):p:=h
theorem AQ4(h:p:=by exact Ab (Ao Ag) ⟨by rw [e]<;>rfl,by first|(rw [e];done)|(rw [e];exact Bc ..)⟩):p:=h
theorem AMr(h:p:=by exact Ab (Es Ag Ag) ⟨by rw [hm]<;>rfl,rfl⟩):p:=h
theorem AQ5(h:p:=by exact Ab (Es Ag Ag) ⟨by rw [e]<;>rfl,rfl⟩):p:=h
theorem AQ6(h:p:=by exact ⟨rfl,fun h=>absurd h (by show ¬(7:Int)=0;decide)⟩):p:=h
theorem AEv(k:q)(h:Hk q→p:=by intro qk;refine A2 [0,3,4,5,6,7,8,9] ?_;exact qk.h):p:=h ⟨k⟩
theorem ABb(k:q)(h:Hk q→p:=by intro qk;refine A2 [0,3,4,5,7,8,9] ?_;exact qk.h):p:=h ⟨k⟩
theorem AEw(k:q)(h:Hk q→p:=by intro qk;refine A2 [0,3,4,5,7,8,9,10] ?_;exact qk.h):p:=h ⟨k⟩
theorem AQ7(h:p:=by exact Ab (Es Ag Ag) ⟨by first|rw [hgood]|rw [AL0 hd hil ht52]|rw [AKz hd ht33],rfl⟩):p:=h
theorem AQ8(h:p:=by exact Ab (Ao Ag) ⟨by simp_all [Cl,Ls],rfl⟩):p:=h
theorem AQ9(h:p:=by exact On .nores (hp:=⟨rfl,by first|(rw [e];done)|(rw [e];rfl)|(rw [e];exact (E8 ho).symm)⟩)):p:=h
theorem AQa(k:q)(h:Hk q→p:=by intro qk;refine uc ((k-1)) jU Tryz.sizeOf126 (by omega) (hm:=by omega) (hoff:=Vy (by omega)) ?_;exact qk.h):p:=h ⟨k⟩
end Go.SX.Nb
namespace Go.SX.Nb
open Go Go.SX Go.Proofs
@[reducible,instance] def JA2:=JA.mk (P:=Tryz.prog) Tryz.isAgg2
@[reducible,instance] def JA3:=JA.mk (P:=Tryz.prog) Tryz.isAgg3
@[reducible,instance] def JA4:=JA.mk (P:=Tryz.prog) Tryz.isAgg4
@[reducible,instance] def JA9:=JA.mk (P:=Tryz.prog) Tryz.isAgg9
@[reducible,instance] def AUa:=JA.mk (P:=Tryz.prog) Tryz.isAgg23
@[reducible,instance] def AUb:=JA.mk (P:=Tryz.prog) Tryz.isAgg24
@[reducible,instance] def AUc:=JA.mk (P:=Tryz.prog) Tryz.isAgg26
@[reducible,instance] def AUd:=JA.mk (P:=Tryz.prog) Tryz.isAgg29
@[reducible,instance] def AUe:=JA.mk (P:=Tryz.prog) Tryz.isAgg40
@[reducible,instance] def AUf:=JA.mk (P:=Tryz.prog) Tryz.isAgg45
@[reducible,instance] def AUg:=JA.mk (P:=Tryz.prog) Tryz.isAgg47
@[reducible,instance] def AUh:=JA.mk (P:=Tryz.prog) Tryz.isAgg48
@[reducible,instance] def AUi:=JA.mk (P:=Tryz.prog) Tryz.isAgg51
@[reducible,instance] def AUj:=JA.mk (P:=Tryz.prog) Tryz.isAgg59
@[reducible,instance] def AUk:=JA.mk (P:=Tryz.prog) Tryz.isAgg64
@[reducible,instance] def AUl:=JA.mk (P:=Tryz.prog) Tryz.isAgg67
@[reducible,instance] def AUm:=JA.mk (P:=Tryz.prog) Tryz.isAgg69
@[reducible,instance] def ATr:=JA.mk (P:=Tryz.prog) Tryz.isAgg102
@[reducible,instance] def ATs:=JA.mk (P:=Tryz.prog) Tryz.isAgg126
@[reducible,instance] def ATt:=JA.mk (P:=Tryz.prog) Tryz.isAgg127
@[reducible,instance] def ATu:=JA.mk (P:=Tryz.prog) Tryz.isAgg129
@[reducible,instance] def ATv:=JA.mk (P:=Tryz.prog) Tryz.isAgg221
@[reducible,instance] def JS2:=JS.mk (P:=Tryz.prog) Tryz.sizeOf2
@[reducible,instance] def JS3:=JS.mk (P:=Tryz.prog) Tryz.sizeOf3
@[reducible,instance] def JS4:=JS.mk (P:=Tryz.prog) Tryz.sizeOf4
@[reducible,instance] def JS5:=JS.mk (P:=Tryz.prog) Tryz.sizeOf5
@[reducible,instance] def JS9:=JS.mk (P:=Tryz.prog) Tryz.sizeOf9
@[reducible,instance] def AUn:=JS.mk (P:=Tryz.prog) Tryz.sizeOf23
@[reducible,instance] def AUo:=JS.mk (P:=Tryz.prog) Tryz.sizeOf24
@[reducible,instance] def AUp:=JS.mk (P:=Tryz.prog) Tryz.sizeOf26
@[reducible,instance] def AUq:=JS.mk (P:=Tryz.prog) Tryz.sizeOf29
@[reducible,instance] def AUr:=JS.mk (P:=Tryz.prog) Tryz.sizeOf40
@[reducible,instance] def AUs:=JS.mk (P:=Tryz.prog) Tryz.sizeOf45
@[reducible,instance] def AUt:=JS.mk (P:=Tryz.prog) Tryz.sizeOf47
@[reducible,instance] def AUu:=JS.mk (P:=Tryz.prog) Tryz.sizeOf48
@[reducible,instance] def AUv:=JS.mk (P:=Tryz.prog) Tryz.sizeOf59
@[reducible,instance] def AUw:=JS.mk (P:=Tryz.prog) Tryz.sizeOf64
@[reducible,instance] def AUx:=JS.mk (P:=Tryz.prog) Tryz.sizeOf67
@[reducible,instance] def AUy:=JS.mk (P:=Tryz.prog) Tryz.sizeOf69
@[reducible,instance] def AUz:=JS.mk (P:=Tryz.prog) Tryz.sizeOf74
@[reducible,instance] def ATw:=JS.mk (P:=Tryz.prog) Tryz.sizeOf126
@[reducible,instance] def ATx:=JS.mk (P:=Tryz.prog) Tryz.sizeOf127
@[reducible,instance] def ATy:=JS.mk (P:=Tryz.prog) Tryz.sizeOf129
@[reducible,instance] def JU2:=JU.mk (P:=Tryz.prog) Tryz.underlying2
@[reducible,instance] def JU3:=JU.mk (P:=Tryz.prog) Tryz.underlying3
@[reducible,instance] def JU4:=JU.mk (P:=Tryz.prog) Tryz.underlying4
@[reducible,instance] def JU5:=JU.mk (P:=Tryz.prog) Tryz.underlying5
@[reducible,instance] def JU9:=JU.mk (P:=Tryz.prog) Tryz.underlying9
@[reducible,instance] def AV0:=JU.mk (P:=Tryz.prog) Tryz.underlying20
@[reducible,instance] def AV1:=JU.mk (P:=Tryz.prog) Tryz.underlying23
@[reducible,instance] def AV2:=JU.mk (P:=Tryz.prog) Tryz.underlying26
@[reducible,instance] def AV3:=JU.mk (P:=Tryz.prog) Tryz.underlying29
@[reducible,instance] def AV4:=JU.mk (P:=Tryz.prog) Tryz.underlying40
@[reducible,instance] def AV5:=JU.mk (P:=Tryz.prog) Tryz.underlying45
@[reducible,instance] def AV6:=JU.mk (P:=Tryz.prog) Tryz.underlying47
@[reducible,instance] def AV7:=JU.mk (P:=Tryz.prog) Tryz.underlying48
@[reducible,instance] def AV8:=JU.mk (P:=Tryz.prog) Tryz.underlying53
@[reducible,instance] def AV9:=JU.mk (P:=Tryz.prog) Tryz.underlying57
@[reducible,instance] def AVa:=JU.mk (P:=Tryz.prog) Tryz.underlying59
@[reducible,instance] def AVb:=JU.mk (P:=Tryz.prog) Tryz.underlying64
@[reducible,instance] def AVc:=JU.mk (P:=Tryz.prog) Tryz.underlying67
@[reducible,instance] def AVd:=JU.mk (P:=Tryz.prog) Tryz.underlying69
@[reducible,instance] def AVe:=JU.mk (P:=Tryz.prog) Tryz.underlying72
@[reducible,instance] def ATz:=JU.mk (P:=Tryz.prog) Tryz.underlying126
@[reducible,instance] def AU0:=JU.mk (P:=Tryz.prog) Tryz.underlying127
@[reducible,instance] def AU1:=JU.mk (P:=Tryz.prog) Tryz.underlying129
@[reducible,instance] def AU2:=JU.mk (P:=Tryz.prog) Tryz.underlying160
@[reducible,instance] def AU3:=JU.mk (P:=Tryz.prog) Tryz.underlying166
@[reducible,instance] def AU4:=JU.mk (P:=Tryz.prog) Tryz.underlying180
@[reducible,instance] def AU5:=JU.mk (P:=Tryz.prog) Tryz.underlying223
@[reducible,instance] def JZ3:=JZ.mk (P:=Tryz.prog) Tryz.zeroValue3
@[reducible,instance] def JZ4:=JZ.mk (P:=Tryz.prog) Tryz.zeroValue4
@[reducible,instance] def JZ5:=JZ.mk (P:=Tryz.prog) Tryz.zeroValue5
@[reducible,instance] def JZ9:=JZ.mk (P:=Tryz.prog) Tryz.zeroValue9
@[reducible,instance] def AVf:=JZ.mk (P:=Tryz.prog) Tryz.zeroValue23
@[reducible,instance] def AVg:=JZ.mk (P:=Tryz.prog) Tryz.zeroValue26
@[reducible,instance] def AVh:=JZ.mk (P:=Tryz.prog) Tryz.zeroValue29
@[reducible,instance] def AVi:=JZ.mk (P:=Tryz.prog) Tryz.zeroValue47
@[reducible,instance] def AVj:=JZ.mk (P:=Tryz.prog) Tryz.zeroValue48
@[reducible,instance] def AVk:=JZ.mk (P:=Tryz.prog) Tryz.zeroValue53
@[reducible,instance] def AVl:=JZ.mk (P:=Tryz.prog) Tryz.zeroValue57
@[reducible,instance] def AVm:=JZ.mk (P:=Tryz.prog) Tryz.zeroValue59
@[reducible,instance] def AVn:=JZ.mk (P:=Tryz.prog) Tryz.zeroValue64
@[reducible,instance] def AVo:=JZ.mk (P:=Tryz.prog) Tryz.zeroValue67
@[reducible,instance] def AVp:=JZ.mk (P:=Tryz.prog) Tryz.zeroValue69
@[reducible,instance] def AVq:=JZ.mk (P:=Tryz.prog) Tryz.zeroValue74
@[reducible,instance] def AU6:=JZ.mk (P:=Tryz.prog) Tryz.zeroValue129
@[reducible,instance] def AU7:=JZ.mk (P:=Tryz.prog) Tryz.zeroValue160
@[reducible,instance] def AU8:=JZ.mk (P:=Tryz.prog) Tryz.zeroValue180
@[reducible,instance] def AU9:=JZ.mk (P:=Tryz.prog) Tryz.zeroValue223
end Go.SX.Nb
