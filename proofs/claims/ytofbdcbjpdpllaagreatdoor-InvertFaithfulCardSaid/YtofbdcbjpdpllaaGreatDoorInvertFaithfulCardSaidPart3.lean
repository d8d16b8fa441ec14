/- On the way (part 3). -/
import Derived.Test.YtofbdcbjpdpllaaGreatDoorProg
import Derived.Test.YtofbdcbjpdpllaaGreatDoorInvertFaithfulCardSaidPart2
set_option linter.all false
namespace Go.SX.Nb
open Go Go.SX Go.Proofs
structure Hk (q:Prop):Prop where h:q
variable {p q:Prop}
theorem Z0(k:q)(h:Hk q→p:=by intro qk;refine A5 ?_;refine A5 ?_;exact qk.h):p:=h ⟨k⟩
theorem Z1(k:q)(h:Hk q→p:=by intro qk;refine Es ?_;refine Z0 ?_;exact qk.h):p:=h ⟨k⟩
theorem Z2(k:q)(h:Hk q→p:=by intro qk;refine Es ?_;refine A5 ?_;exact qk.h):p:=h ⟨k⟩
theorem Z4(k:q)(h:Hk q→p:=by intro qk;refine A2 [2] ?_;refine Gn ?_;exact qk.h):p:=h ⟨k⟩
theorem Z5(k:q)(h:Hk q→p:=by intro qk;refine K.blR ?_;refine Cu ?_;exact qk.h):p:=h ⟨k⟩
theorem Z6(k:q)(h:Hk q→p:=by intro qk;refine L9 ?_;refine Ft ?_;exact qk.h):p:=h ⟨k⟩
theorem Z7(k:q)(h:Hk q→p:=by intro qk;refine I2 ?_;refine A5 ?_;exact qk.h):p:=h ⟨k⟩
theorem Z9(k:q)(h:Hk q→p:=by intro qk;refine Ca ?_;refine Ca ?_;exact qk.h):p:=h ⟨k⟩
theorem Z11(k:q)(h:Hk q→p:=by intro qk;refine I2 ?_;refine Z4 ?_;exact qk.h):p:=h ⟨k⟩
theorem Z12(k:q)(h:Hk q→p:=by intro qk;refine A2 [4,5] ?_;refine Gn ?_;exact qk.h):p:=h ⟨k⟩
theorem Z13(k:q)(h:Hk q→p:=by intro qk;refine Z1 ?_;refine A5 ?_;exact qk.h):p:=h ⟨k⟩
theorem Z14(k:q)(h:Hk q→p:=by intro qk;refine B1 ?_;refine B1 ?_;exact qk.h):p:=h ⟨k⟩
theorem Z15(k:q)(h:Hk q→p:=by intro qk;refine Kd ?_;refine Ft ?_;exact qk.h):p:=h ⟨k⟩
theorem Z16(k:q)(h:Hk q→p:=by intro qk;refine Ka jZ ?_;refine I2 ?_;exact qk.h):p:=h ⟨k⟩
theorem Z17(h:p:=by refine Z5 ?_;exact wi):p:=h
theorem Z18(k:q)(h:Hk q→p:=by intro qk;refine Z1 ?_;refine Z0 ?_;exact qk.h):p:=h ⟨k⟩
theorem Z19(k:q)(h:Hk q→p:=by intro qk;refine Mp ?_;refine Z0 ?_;exact qk.h):p:=h ⟨k⟩
theorem Z20(k:q)(h:Hk q→p:=by intro qk;refine L9 ?_;refine Z15 ?_;exact qk.h):p:=h ⟨k⟩
theorem Z21(k:q)(h:Hk q→p:=by intro qk;refine A2 [4] ?_;refine Gn ?_;exact qk.h):p:=h ⟨k⟩
theorem Z22(k:q)(h:Hk q→p:=by intro qk;refine Jk ?_;refine Ia ?_;exact qk.h):p:=h ⟨k⟩
theorem Z23(k:q)(h:Hk q→p:=by intro qk;refine Es ?_;refine U6 ?_;refine jn ?_;exact qk.h):p:=h ⟨k⟩
theorem Z25(k:q)(h:Hk q→p:=by intro qk;refine A2 [2,3] ?_;refine Gn ?_;exact qk.h):p:=h ⟨k⟩
theorem Z26(h:p:=by refine Cu ?_;exact wi):p:=h
theorem Z27(k:q)(h:Hk q→p:=by intro qk;refine Es ?_;refine Ka jZ ?_;exact qk.h):p:=h ⟨k⟩
theorem Z28(k:q)(h:Hk q→p:=by intro qk;refine Es ?_;refine dx ?_;exact qk.h):p:=h ⟨k⟩
theorem Z29(k:q)(h:Hk q→p:=by intro qk;refine Z0 ?_;refine A5 ?_;exact qk.h):p:=h ⟨k⟩
theorem Z30(k:q)(h:Hk q→p:=by intro qk;refine A2 [6,7] ?_;refine Gn ?_;exact qk.h):p:=h ⟨k⟩
theorem Z31(k:q)(h:Hk q→p:=by intro qk;refine Jk ?_;refine Z1 ?_;exact qk.h):p:=h ⟨k⟩
theorem Z32(h:p:=by refine Cu ?_;exact qf):p:=h
theorem Z33(k:q)(h:Hk q→p:=by intro qk;refine Z23 ?_;refine Z11 ?_;exact qk.h):p:=h ⟨k⟩
theorem Z34(k:q)(h:Hk q→p:=by intro qk;refine Jk ?_;refine Z13 ?_;exact qk.h):p:=h ⟨k⟩
theorem Z35(k:q)(h:Hk q→p:=by intro qk;refine Z14 ?_;refine B1 ?_;exact qk.h):p:=h ⟨k⟩
theorem Z36(k:q)(h:Hk q→p:=by intro qk;refine Jk ?_;refine Z2 ?_;exact qk.h):p:=h ⟨k⟩
theorem Z37(k:q)(h:Hk q→p:=by intro qk;refine Ka jZ ?_;refine A5 ?_;exact qk.h):p:=h ⟨k⟩
theorem Z38(k:q)(h:Hk q→p:=by intro qk;refine Ca ?_;refine Z0 ?_;exact qk.h):p:=h ⟨k⟩
theorem Z39(k:q)(h:Hk q→p:=by intro qk;refine K.lpE ?_;refine Ft ?_;exact qk.h):p:=h ⟨k⟩
theorem Z40(k:q)(h:Hk q→p:=by intro qk;refine Z7 ?_;refine Z12 ?_;exact qk.h):p:=h ⟨k⟩
theorem Z41(k:q)(h:Hk q→p:=by intro qk;refine Gn ?_;refine Cu ?_;exact qk.h):p:=h ⟨k⟩
theorem Z43(k:q)(h:Hk q→p:=by intro qk;refine Z4 ?_;refine Z5 ?_;exact qk.h):p:=h ⟨k⟩
theorem Z44(h:p:=by refine Z43 ?_;exact A7 (An A6) ⟨by rw [hn];first|(simp only [ht22,ht25,ht33,ht41,ht41,hk3,hk6,K4,Fd,K3,P8,if_true,if_false,Bd,↓reduceIte]<;>rfl)|(simp only [ht22,ht25,ht33,ht41,ht41,hk3,K4,Fd,K3,if_true,if_false,Bd,↓reduceIte]<;>rfl)|(simp only [ht22,ht25,ht33,ht41,ht41,if_true,if_false,Bd,↓reduceIte]<;>rfl),rfl⟩):p:=h
theorem Z45(h:p:=by refine Z43 ?_;exact AIg):p:=h
theorem Z46(k:q)(h:Hk q→p:=by intro qk;refine A8 Tryz.call43 (c43 _ _) ?_;refine Z0 ?_;exact qk.h):p:=h ⟨k⟩
theorem Z47(k:q)(h:Hk q→p:=by intro qk;refine Z9 ?_;refine Z9 ?_;exact qk.h):p:=h ⟨k⟩
theorem Z48(h:p:=by refine Z40 ?_;exact wi):p:=h
theorem Z49(k:q)(h:Hk q→p:=by intro qk;refine Z2 ?_;refine A2 [0,1] ?_;exact qk.h):p:=h ⟨k⟩
theorem Z50(h:p:=by refine K.thJ ?_;exact Co (by simp [*])):p:=h
theorem Z51(h:p:=by refine Z33 ?_;refine Z5 ?_;exact AIf):p:=h
theorem Z52(k:q)(h:Hk q→p:=by intro qk;refine AI6 ?_;refine b6 (u:=Hp.length) (n:=1) (t':=23) (cs:=[A4 0,A4 0,Ah []]) (cs':=[A4 (B7 ra).1.kind,A4 (B7 ra).1.n,Ah (B7 ra).1.s]) Tryz.sizeOf23 (fun B hT hF hB=>⟨rfl,by simp [hT 0 (by simp),hB],by simp [upd,hT 0 (by simp),hB],rfl⟩) ?_;exact qk.h):p:=h ⟨k⟩
theorem Z53(k:q)(h:Hk q→p:=by intro qk;refine Jj ?_;refine Cu ?_;exact qk.h):p:=h ⟨k⟩
theorem Z54(k:q)(h:Hk q→p:=by intro qk;refine Z2 ?_;refine C5 Tryz.call204 ho (by simp) Dg (xy l S o _ (Ay ho) hi hll) ?_;exact qk.h):p:=h ⟨k⟩
theorem Z55(k:q)(h:Hk q→p:=by intro qk;refine Es ?_;refine qd ?_;exact qk.h):p:=h ⟨k⟩
theorem Z56(k:q)(h:Hk q→p:=by intro qk;refine Jk ?_;refine Es ?_;exact qk.h):p:=h ⟨k⟩
theorem Z57(k:q)(h:Hk q→p:=by intro qk;refine Z2 ?_;refine A2 [0] ?_;exact qk.h):p:=h ⟨k⟩
theorem Z59(k:q)(h:Hk q→p:=by intro qk;refine Jk ?_;refine Z18 ?_;exact qk.h):p:=h ⟨k⟩
theorem Z60(k:q)(h:Hk q→p:=by intro qk;refine Z7 ?_;refine Z25 ?_;exact qk.h):p:=h ⟨k⟩
theorem Z61(k:q)(h:Hk q→p:=by intro qk;refine Z27 ?_;refine A2 [0,2] ?_;exact qk.h):p:=h ⟨k⟩
theorem Z62(k:q)(h:Hk q→p:=by intro qk;refine Z29 ?_;refine Ka jZ ?_;exact qk.h):p:=h ⟨k⟩
theorem Z64(k:q)(h:Hk q→p:=by intro qk;refine Ca ?_;refine A5 ?_;exact qk.h):p:=h ⟨k⟩
theorem Z65(k:q)(h:Hk q→p:=by intro qk;refine Z2 ?_;refine Z21 ?_;exact qk.h):p:=h ⟨k⟩
theorem Z67(k:q)(h:Hk q→p:=by intro qk;refine H.go ?_;refine H.go ?_;exact qk.h):p:=h ⟨k⟩
theorem Z68(k:q)(h:Hk q→p:=by intro qk;refine Z20 ?_;refine Z19 ?_;exact qk.h):p:=h ⟨k⟩
theorem Z69(k:q)(h:Hk q→p:=by intro qk;refine Z0 ?_;refine Z0 ?_;exact qk.h):p:=h ⟨k⟩
theorem Z70(h:p:=by refine B1 ?_;exact bg):p:=h
theorem Z71(h:p:=by refine Cu ?_;exact A7 (An (As jA jS)) ⟨by rw [e,Ad],by rw [e]⟩ (hlow:=low_agg _)):p:=h
theorem Z73(k:q)(h:Hk q→p:=by intro qk;refine Z9 ?_;refine Z38 ?_;exact qk.h):p:=h ⟨k⟩
theorem Z74(k:q)(h:Hk q→p:=by intro qk;refine Z6 ?_;refine Z2 ?_;exact qk.h):p:=h ⟨k⟩
theorem Z75(k:q)(h:Hk q→p:=by intro qk;refine A2 [6] ?_;refine Gn ?_;exact qk.h):p:=h ⟨k⟩
theorem Z76(k:q)(h:Hk q→p:=by intro qk;refine A5 ?_;refine U6 ?_;exact qk.h):p:=h ⟨k⟩
theorem Z77(h:p:=by refine Cu ?_;exact ABb):p:=h
theorem Z78(k:q)(h:Hk q→p:=by intro qk;refine Z7 ?_;refine Z30 ?_;exact qk.h):p:=h ⟨k⟩
theorem Z79(k:q)(h:Hk q→p:=by intro qk;refine Es ?_;refine AId ?_;exact qk.h):p:=h ⟨k⟩
theorem Z80(h:p:=by refine Z4 ?_;exact qb):p:=h
theorem Z81(k:q)(h:Hk q→p:=by intro qk;refine bf ?_;refine Gn ?_;exact qk.h):p:=h ⟨k⟩
theorem Z82(k:q)(h:Hk q→p:=by intro qk;refine Z0 ?_;refine Z29 ?_;exact qk.h):p:=h ⟨k⟩
theorem Z83(k:q)(h:Hk q→p:=by intro qk;refine dx ?_;refine I2 ?_;exact qk.h):p:=h ⟨k⟩
theorem Z84(k:q)(h:Hk q→p:=by intro qk;refine Z1 ?_;refine A2 [1] ?_;exact qk.h):p:=h ⟨k⟩
theorem Z85(k:q)(h:Hk q→p:=by intro qk;refine Z19 ?_;refine A5 ?_;exact qk.h):p:=h ⟨k⟩
theorem Z86(h:p:=by refine Z40 ?_;exact Z17):p:=h
theorem Z88(k:q)(h:Hk q→p:=by intro qk;refine Z1 ?_;refine A2 [2,18] ?_;exact qk.h):p:=h ⟨k⟩
theorem Z89(h:p:=by refine Z33 ?_;refine Z5 ?_;exact AIe):p:=h
theorem Z91(k:q)(h:Hk q→p:=by intro qk;refine Z14 ?_;refine Er ?_;exact qk.h):p:=h ⟨k⟩
theorem Z92(k:q)(h:Hk q→p:=by intro qk;refine Z22 ?_;refine Es ?_;exact qk.h):p:=h ⟨k⟩
theorem Z93(k:q)(h:Hk q→p:=by intro qk;refine Mp ?_;refine A5 ?_;exact qk.h):p:=h ⟨k⟩
theorem Z94(k:q)(h:Hk q→p:=by intro qk;refine Ia ?_;refine Z1 ?_;exact qk.h):p:=h ⟨k⟩
theorem Z95(h:p:=by refine A2 [0,1,7,8] ?_;exact Cd (x+1) ⟨hlt,Fg hlt hx.2 ht16⟩ (by omega) (H4 rfl)):p:=h
theorem Z96(k:q)(h:Hk q→p:=by intro qk;refine AEv ?_;refine He (tn:=[2])  ?_;exact qk.h):p:=h ⟨k⟩
theorem Z97(k:q)(h:Hk q→p:=by intro qk;refine Z5 ?_;refine Z53 ?_;exact qk.h):p:=h ⟨k⟩
theorem Z98(k:q)(h:Hk q→p:=by intro qk;refine Z2 ?_;refine Z4 ?_;exact qk.h):p:=h ⟨k⟩
theorem Z99(k:q)(h:Hk q→p:=by intro qk;refine Z1 ?_;refine A2 [2,3,9] ?_;exact qk.h):p:=h ⟨k⟩
theorem jb(k:q)(h:Hk q→p:=by intro qk;refine AW.exit ?_;refine K.thE ?_;exact qk.h):p:=h ⟨k⟩
theorem AE9(h:p:=by refine Cu ?_;exact A7 (Aw (As jA jS) (As jA jS)) ⟨by rw [e,fp]<;>rfl,rfl⟩):p:=h
theorem No(k:q)(h:Hk q→p:=by intro qk;refine Z62 ?_;refine Z7 ?_;exact qk.h):p:=h ⟨k⟩
theorem AEa(h:p:=by refine Z5 ?_;exact AI7):p:=h
theorem U3(h:p:=by refine Z20 ?_;refine Z23 ?_;refine Z11 ?_;exact AIf):p:=h
theorem vj(h:p:=by refine Vj jU jS jZ ?_;exact bg):p:=h
theorem Xr(k:q)(h:Hk q→p:=by intro qk;refine A2 [] ?_;refine Kd ?_;exact qk.h):p:=h ⟨k⟩
theorem AGs(k:q)(h:Hk q→p:=by intro qk;refine Z37 ?_;refine I2 ?_;exact qk.h):p:=h ⟨k⟩
theorem Pk(k:q)(h:Hk q→p:=by intro qk;refine Z22 ?_;refine Z2 ?_;exact qk.h):p:=h ⟨k⟩
theorem AEb(h:p:=by refine D.build (places:=#[(0,1),(1,1)]) jU (fun w=>by simp) jZ ?_;exact bg):p:=h
theorem AGt(h:p:=by refine Cu ?_;exact A7 (Aw (As jA jS) A6) ⟨by rw [hm];simp only [Option.getD_none,Ad];try rfl,rfl⟩ (hlow:=by simp [or_imp,forall_and,Ab])):p:=h
theorem vk(h:p:=by refine L9 ?_;exact Z50):p:=h
theorem b9(k:q)(h:Hk q→p:=by intro qk;refine Z1 ?_;refine Z12 ?_;exact qk.h):p:=h ⟨k⟩
theorem AEc(h:p:=by refine Z65 ?_;exact A7 (An A6) ⟨by rw [lg (gu hxe hx.2)],rfl⟩):p:=h
theorem AAt(h:p:=by refine Z65 ?_;exact qf):p:=h
theorem AGu(h:p:=by refine Z4 ?_;exact A7 (An A6) ⟨rfl,rfl⟩ (hlow:=by simp [or_imp,forall_and];exact ⟨fun m _ a _=>Ab _ a,fun m _ a _=>Ab _ a⟩)):p:=h
theorem AEd(h:p:=by refine Z97 ?_;exact A7 (An A6) ⟨by rw [zq hlt ht16 hx.2],rfl⟩):p:=h
theorem AEe(k:q)(h:Hk q→p:=by intro qk;refine D.build (places:=#[(0,1),(1,1),(2,3),(5,1)]) jU (fun w=>by simp) jZ ?_;refine Z14 ?_;exact qk.h):p:=h ⟨k⟩
theorem AAu(k:q)(h:Hk q→p:=by intro qk;refine A8 Tryz.call254 (AKu l S o _ (Ay ho) hi) ?_;refine Z16 ?_;exact qk.h):p:=h ⟨k⟩
theorem Xs(k:q)(h:Hk q→p:=by intro qk;refine Es ?_;refine Z46 ?_;exact qk.h):p:=h ⟨k⟩
theorem dp(k:q)(h:Hk q→p:=by intro qk;refine Z47 ?_;refine Z0 ?_;exact qk.h):p:=h ⟨k⟩
theorem dq(k:q)(h:Hk q→p:=by intro qk;refine Z60 ?_;refine Z5 ?_;exact qk.h):p:=h ⟨k⟩
theorem AEf(k:q)(h:Hk q→p:=by intro qk;refine Z1 ?_;refine dx ?_;exact qk.h):p:=h ⟨k⟩
theorem AEg(k:q)(h:Hk q→p:=by intro qk;refine dx ?_;refine Z11 ?_;exact qk.h):p:=h ⟨k⟩
theorem AEh(h:p:=by refine Z21 ?_;exact A7 (An A6) ⟨by rw [←sq];try rfl,rfl⟩):p:=h
theorem AEi(k:q)(h:Hk q→p:=by intro qk;refine Z2 ?_;refine dx ?_;exact qk.h):p:=h ⟨k⟩
theorem AEj(k:q)(h:Hk q→p:=by intro qk;refine Ed [0,0,2,6,14,31,63,63,255,511] 8 Ar (by kernel_rfl) ?_;refine Z35 ?_;exact qk.h):p:=h ⟨k⟩
theorem AGv(k:q)(h:Hk q→p:=by intro qk;refine D0 Tryz.call172 (AMe ((D8 s.c).1.s.length:Int) _) ?_;refine D0 Tryz.call171 (c171 (E4 Lh [y]) [45] (Dl ⟨1,((D8 s.c).1.s.length:Int),[]⟩) _) ?_;exact qk.h):p:=h ⟨k⟩
theorem Vm(k:q)(h:Hk q→p:=by intro qk;refine A5 ?_;refine Z16 ?_;exact qk.h):p:=h ⟨k⟩
theorem Vn(k:q)(h:Hk q→p:=by intro qk;refine Z15 ?_;refine Z19 ?_;exact qk.h):p:=h ⟨k⟩
theorem AEk(k:q)(h:Hk q→p:=by intro qk;refine Z2 ?_;refine qd ?_;exact qk.h):p:=h ⟨k⟩
theorem S3(k:q)(h:Hk q→p:=by intro qk;refine Z0 ?_;refine Z9 ?_;exact qk.h):p:=h ⟨k⟩
theorem AGw(k:q)(h:Hk q→p:=by intro qk;refine He (tn:=[9,10]) (O:=[.cells 23 [A4 0,A4 0,Ah []],.cells 23 [A4 (B7 ra).1.kind,A4 (B7 ra).1.n,Ah (B7 ra).1.s]]) ?_;refine A5 ?_;exact qk.h):p:=h ⟨k⟩
theorem pc(k:q)(h:Hk q→p:=by intro qk;refine Z2 ?_;refine A2 [0,1,7,8,9] ?_;exact qk.h):p:=h ⟨k⟩
theorem jc(k:q)(h:Hk q→p:=by intro qk;refine Mp ?_;refine R.moveT ?_;exact qk.h):p:=h ⟨k⟩
theorem AEl(h:p:=by refine Z43 ?_;exact A7 (An A6) ⟨by simp_all [li],rfl⟩):p:=h
theorem vl(h:p:=by refine Z21 ?_;exact qb):p:=h
theorem U4(k:q)(h:Hk q→p:=by intro qk;refine Z6 ?_;refine Z13 ?_;exact qk.h):p:=h ⟨k⟩
theorem Vo(k:q)(h:Hk q→p:=by intro qk;refine Z14 ?_;refine Z14 ?_;exact qk.h):p:=h ⟨k⟩
theorem AEm(k:q)(h:Hk q→p:=by intro qk;refine A5 ?_;refine Z30 ?_;exact qk.h):p:=h ⟨k⟩
theorem AEn(h:p:=by refine Z12 ?_;exact AEy):p:=h
theorem AAv(h:p:=by refine Jj ?_;exact Z32):p:=h
theorem vm(h:p:=by refine Fu [3,8] ?_;exact vk):p:=h
theorem U5(k:q)(h:Hk q→p:=by intro qk;refine Z6 ?_;refine Z1 ?_;exact qk.h):p:=h ⟨k⟩
theorem ba(k:q)(h:Hk q→p:=by intro qk;refine Z6 ?_;refine Es ?_;exact qk.h):p:=h ⟨k⟩
theorem vn(k:q)(h:Hk q→p:=by intro qk;refine I2 ?_;refine I2 ?_;exact qk.h):p:=h ⟨k⟩
theorem pg(h:p:=by refine A2 [] ?_;refine Kd ?_;exact Ke .nores ⟨rfl,by rw [pe]<;>simp [rl]⟩):p:=h
theorem AAw(h:p:=by refine Z35 ?_;exact bg):p:=h
theorem Xt(k:q)(h:Hk q→p:=by intro qk;refine Z22 ?_;refine Z13 ?_;exact qk.h):p:=h ⟨k⟩
theorem AEo(k:q)(h:Hk q→p:=by intro qk;refine La ?_;refine A5 ?_;exact qk.h):p:=h ⟨k⟩
theorem jd(k:q)(h:Hk q→p:=by intro qk;refine Z1 ?_;refine A2 [0,1] ?_;exact qk.h):p:=h ⟨k⟩
theorem vo(k:q)(h:Hk q→p:=by intro qk;refine Z22 ?_;refine Z1 ?_;exact qk.h):p:=h ⟨k⟩
theorem AEp(k:q)(h:Hk q→p:=by intro qk;refine Z13 ?_;refine Z9 ?_;exact qk.h):p:=h ⟨k⟩
theorem AGx(h:p:=by refine Z21 ?_;exact A7 (An A6) ⟨by first|(rw [hgy hf];rfl)|(rw [hgv hf];rfl),rfl⟩):p:=h
theorem bb(k:q)(h:Hk q→p:=by intro qk;refine Z14 ?_;refine Z35 ?_;exact qk.h):p:=h ⟨k⟩
theorem dr(k:q)(h:Hk q→p:=by intro qk;refine A5 ?_;refine AGs ?_;exact qk.h):p:=h ⟨k⟩
theorem AGy(h:p:=by refine D.build (places:=#[(0,1),(1,1),(2,3),(5,1)]) jU (fun w=>by simp) jZ ?_;exact Z70):p:=h
theorem bc(k:q)(h:Hk q→p:=by intro qk;refine Z6 ?_;refine Z36 ?_;exact qk.h):p:=h ⟨k⟩
theorem AAx(k:q)(h:Hk q→p:=by intro qk;refine Z18 ?_;refine Z12 ?_;exact qk.h):p:=h ⟨k⟩
theorem ph(k:q)(h:Hk q→p:=by intro qk;refine Z2 ?_;refine Z37 ?_;exact qk.h):p:=h ⟨k⟩
theorem AGz(h:p:=by refine Cd (x+1) ⟨hlt,Fg hlt hx.2 ht19⟩ (by omega) ?_;exact H4 (by simp)):p:=h
theorem AAy(k:q)(h:Hk q→p:=by intro qk;refine A5 ?_;refine A8 Tryz.call77 (c77 e _) ?_;exact qk.h):p:=h ⟨k⟩
theorem pi(h:p:=by refine dp ?_;exact Z45):p:=h
theorem AH0(h:p:=by refine Z11 ?_;exact A7 (An (As jA jS)) ⟨rfl,rfl⟩ (hlow:=Ab _ (Dl v))):p:=h
theorem be(k:q)(h:Hk q→p:=by intro qk;refine Z18 ?_;refine Z73 ?_;exact qk.h):p:=h ⟨k⟩
theorem pj(h:p:=by refine AAx ?_;refine Z5 ?_;exact AI3):p:=h
theorem AEq(k:q)(h:Hk q→p:=by intro qk;refine Nk [0,0,3,7] 2 Ar (by kernel_rfl) ?_;refine B1 ?_;exact qk.h):p:=h ⟨k⟩
theorem AH1(k:q)(h:Hk q→p:=by intro qk;refine Nk [0,0,0,4,12,0,32,96,224,508,1020,2046,4095,8191,16383] 12 Ar (by kernel_rfl) ?_;refine Z35 ?_;exact qk.h):p:=h ⟨k⟩
theorem AH2(h:p:=by refine Cu ?_;exact A7 (Aw (F5 jA) (F5 jA)) ⟨by rw [hm]<;>rfl,rfl⟩):p:=h
theorem AEr(h:p:=by refine Z11 ?_;exact A7 (An (As jA jS))):p:=h
theorem AAz(k:q)(h:Hk q→p:=by intro qk;refine S1 0 5 6 ?_;refine I2 ?_;exact qk.h):p:=h ⟨k⟩
theorem pk(h:p:=by refine Z65 ?_;exact Z32):p:=h
theorem pl(h:p:=by refine Z40 ?_;exact Z26):p:=h
theorem AH3(k:q)(h:Hk q→p:=by intro qk;refine bc ?_;refine A8 Tryz.call326 (ALw (n+1) (Expr.mk x.op x.text noV (x.kids.map Bm)) hyok (by omega) hyr _) ?_;exact qk.h):p:=h ⟨k⟩
theorem je(k:q)(h:Hk q→p:=by intro qk;refine Z41 ?_;refine K.blR ?_;exact qk.h):p:=h ⟨k⟩
theorem dt(k:q)(h:Hk q→p:=by intro qk;refine Z27 ?_;refine A5 ?_;exact qk.h):p:=h ⟨k⟩
theorem du(k:q)(h:Hk q→p:=by intro qk;refine AEp ?_;refine Z0 ?_;exact qk.h):p:=h ⟨k⟩
theorem pm(k:q)(h:Hk q→p:=by intro qk;refine A2 [6] ?_;refine Z41 ?_;exact qk.h):p:=h ⟨k⟩
theorem AH4(h:p:=by refine Z60 ?_;exact wi):p:=h
theorem AH5(h:p:=by refine Z78 ?_;exact wi):p:=h
theorem dv(k:q)(h:Hk q→p:=by intro qk;refine Z2 ?_;refine Z43 ?_;exact qk.h):p:=h ⟨k⟩
theorem pq(k:q)(h:Hk q→p:=by intro qk;refine Mp ?_;refine Z16 ?_;exact qk.h):p:=h ⟨k⟩
theorem vp(k:q)(h:Hk q→p:=by intro qk;refine Z37 ?_;refine A2 [2,3,4] ?_;exact qk.h):p:=h ⟨k⟩
theorem jf(k:q)(h:Hk q→p:=by intro qk;refine Z20 ?_;refine Z98 ?_;exact qk.h):p:=h ⟨k⟩
theorem AH6(h:p:=by refine Cu ?_;exact AIb):p:=h
theorem dw(k:q)(h:Hk q→p:=by intro qk;refine Z0 ?_;refine Ca ?_;exact qk.h):p:=h ⟨k⟩
theorem AH7(h:p:=by refine jf ?_;exact AIg):p:=h
theorem AH8(h:p:=by refine Cd (x+1) ⟨hlt,hn⟩ (by omega) ?_;exact H4 (by simp)):p:=h
theorem jg(k:q)(h:Hk q→p:=by intro qk;refine A5 ?_;refine Z12 ?_;exact qk.h):p:=h ⟨k⟩
theorem AH9(h:p:=by refine Z5 ?_;exact AI8):p:=h
theorem AHa(h:p:=by refine Z5 ?_;exact A7 (Aw A6 A6) ⟨by simp_all [l3],rfl⟩):p:=h
theorem AHb(h:p:=by refine Z11 ?_;exact A7 (An (As jA jS)) ⟨by simp [ht5],rfl⟩):p:=h
theorem vq(k:q)(h:Hk q→p:=by intro qk;refine I2 ?_;refine Z75 ?_;exact qk.h):p:=h ⟨k⟩
theorem AHc(k:q)(h:Hk q→p:=by intro qk;refine Z13 ?_;refine C5 Tryz.call116 ho (by simp) Dg (rj l S 8 (Av l S.i).at_ o _ (Ay ho)) ?_;exact qk.h):p:=h ⟨k⟩
theorem vr(k:q)(h:Hk q→p:=by intro qk;refine Pj 6 2 ?_;refine AEm ?_;exact qk.h):p:=h ⟨k⟩
theorem vt(k:q)(h:Hk q→p:=by intro qk;refine b9 ?_;refine Cu ?_;exact qk.h):p:=h ⟨k⟩
theorem AHd(h:p:=by refine Z97 ?_;exact A7 (Aw A6 A6) ⟨by rw [hbad],rfl⟩):p:=h
theorem AHe(h:p:=by refine Z5 ?_;exact A7 (Aw A6 A6) ⟨by rw [hk,hk2],rfl⟩):p:=h
theorem vu(k:q)(h:Hk q→p:=by intro qk;refine ph ?_;refine A2 [1,2] ?_;exact qk.h):p:=h ⟨k⟩
theorem vw(k:q)(h:Hk q→p:=by intro qk;refine B1 ?_;refine Er ?_;exact qk.h):p:=h ⟨k⟩
theorem AHf(h:p:=by refine Z53 ?_;exact A7 (An A6) ⟨by rw [hx.eq,hw],rfl⟩):p:=h
theorem AHg(h:p:=by refine Cu ?_;exact qi):p:=h
theorem AB0(k:q)(h:Hk q→p:=by intro qk;refine R.nilTmp 6 3 false ?_;refine AEm ?_;exact qk.h):p:=h ⟨k⟩
theorem pt(k:q)(h:Hk q→p:=by intro qk;refine Es ?_;refine Z16 ?_;exact qk.h):p:=h ⟨k⟩
theorem AHh(h:p:=by refine Z43 ?_;exact qi):p:=h
theorem vz(k:q)(h:Hk q→p:=by intro qk;refine Z1 ?_;refine A2 [3,8] ?_;exact qk.h):p:=h ⟨k⟩
theorem jh(k:q)(h:Hk q→p:=by intro qk;refine Z1 ?_;refine Z21 ?_;exact qk.h):p:=h ⟨k⟩
theorem AHi(h:p:=by refine vt ?_;exact AEy):p:=h
theorem ji(k:q)(h:Hk q→p:=by intro qk;refine Z9 ?_;refine A5 ?_;exact qk.h):p:=h ⟨k⟩
theorem AB1(h:p:=by refine Kd ?_;refine K.thJ ?_;exact Co (by rw [e]<;>rfl)):p:=h
theorem w4(h:p:=by refine Z2 ?_;refine Z43 ?_;exact A7 (An A6) ⟨by simp_all [Q4],rfl⟩):p:=h
theorem AHj(k:q)(h:Hk q→p:=by intro qk;refine Ed [0,1,3,7,15,3,35,99,255,511,1023] 8 Ar (by kernel_rfl) ?_;refine Z14 ?_;exact qk.h):p:=h ⟨k⟩
theorem pu(k:q)(h:Hk q→p:=by intro qk;refine Z11 ?_;refine Cu ?_;exact qk.h):p:=h ⟨k⟩
theorem AHk(h:p:=by refine Z5 ?_;exact AEy):p:=h
theorem w5(k:q)(h:Hk q→p:=by intro qk;refine Z1 ?_;refine S4 ?_;exact qk.h):p:=h ⟨k⟩
theorem AHl(k:q)(h:Hk q→p:=by intro qk;refine Nk [0,1,3,7,0,16,48,112,255,511,1023] 8 Ar (by kernel_rfl) ?_;refine Z14 ?_;exact qk.h):p:=h ⟨k⟩
theorem pv(k:q)(h:Hk q→p:=by intro qk;refine vo ?_;refine A2 [0,1,5,7,8] ?_;refine Z13 ?_;exact qk.h):p:=h ⟨k⟩
theorem pw(k:q)(h:Hk q→p:=by intro qk;refine A5 ?_;refine dq ?_;exact qk.h):p:=h ⟨k⟩
theorem AHm(h:p:=by refine D0 Tryz.call136 (AJ4 c l k0 ra ha _) ?_;exact AAw):p:=h
theorem jk(k:q)(h:Hk q→p:=by intro qk;refine Z78 ?_;refine Z5 ?_;exact qk.h):p:=h ⟨k⟩
theorem AHn(k:q)(h:Hk q→p:=by intro qk;refine A2 [0,3,4] ?_;refine Ed [0,1,3,0,8,24,56,127] 7 Ar (by kernel_rfl) ?_;exact qk.h):p:=h ⟨k⟩
theorem w6(h:p:=by refine Z0 ?_;exact Z80):p:=h
theorem AB2(k:q)(h:Hk q→p:=by intro qk;refine Z27 ?_;refine A2 [0,1,2,6] ?_;exact qk.h):p:=h ⟨k⟩
theorem AB3(k:q)(h:Hk q→p:=by intro qk;refine Z0 ?_;refine A8 Tryz.call175 (c175 _ _ _) ?_;refine Z0 ?_;exact qk.h):p:=h ⟨k⟩
theorem w7(k:q)(h:Hk q→p:=by intro qk;refine Z27 ?_;refine Ka jZ ?_;exact qk.h):p:=h ⟨k⟩
theorem AEs(k:q)(h:Hk q→p:=by intro qk;refine A8 Tryz.call57 (c57 c hc _) ?_;refine A5 ?_;exact qk.h):p:=h ⟨k⟩
theorem px(k:q)(h:Hk q→p:=by intro qk;refine Gn ?_;refine Z5 ?_;exact qk.h):p:=h ⟨k⟩
theorem AB4(h:p:=by refine Z5 ?_;exact AAv):p:=h
theorem AHo(h:p:=by refine Z98 ?_;exact qf):p:=h
theorem AEt(k:q)(h:Hk q→p:=by intro qk;refine Es ?_;refine A8 Tryz.call86 (c86 _) ?_;exact qk.h):p:=h ⟨k⟩
theorem AHp(h:p:=by refine Z4 ?_;exact qf):p:=h
theorem AB5(k:q)(h:Hk q→p:=by intro qk;refine Z1 ?_;refine A2 [2,3,18] ?_;exact qk.h):p:=h ⟨k⟩
theorem AHq(k:q)(h:Hk q→p:=by intro qk;refine vw ?_;refine Nj (places:=#[(0,6),(6,6),(12,1)]) jU (fun w=>by simp) jZ ?_;exact qk.h):p:=h ⟨k⟩
theorem w8(k:q)(h:Hk q→p:=by intro qk;refine Z18 ?_;refine A2 [0] ?_;exact qk.h):p:=h ⟨k⟩
theorem AHr(k:q)(h:Hk q→p:=by intro qk;refine Z9 ?_;refine C7 Tryz.call125 (fun hB=>AIn e.text Ok hs (by decide) _) ?_;exact qk.h):p:=h ⟨k⟩
theorem w9(k:q)(h:Hk q→p:=by intro qk;refine Z2 ?_;refine Ka jZ ?_;exact qk.h):p:=h ⟨k⟩
theorem jl(k:q)(h:Hk q→p:=by intro qk;refine Z6 ?_;refine Z34 ?_;exact qk.h):p:=h ⟨k⟩
theorem AHs(h:p:=by refine Cu ?_;exact A7 (An A6) ⟨rfl,rfl⟩):p:=h
theorem wc(k:q)(h:Hk q→p:=by intro qk;refine Ia ?_;refine Z31 ?_;exact qk.h):p:=h ⟨k⟩
theorem AHt(h:p:=by refine Z4 ?_;exact A7 (An A6) ⟨by simp,rfl⟩):p:=h
theorem AB6(h:p:=by refine AB3 ?_;refine Z78 ?_;refine Z5 ?_;exact AI4):p:=h
theorem AB7(h:p:=by refine Z20 ?_;refine Z33 ?_;exact AIe):p:=h
theorem AB8(h:p:=by refine Z7 ?_;refine A2 [8,9] ?_;refine Z41 ?_;exact A7 (Aw (As jA jS) A6) ⟨by rw [hm]<;>rfl,rfl⟩ (hlow:=by simp [or_imp,forall_and,Ab])):p:=h
theorem AB9(k:q)(h:Hk q→p:=by intro qk;refine Z16 ?_;refine A2 [0,2,3] ?_;exact qk.h):p:=h ⟨k⟩
theorem py(k:q)(h:Hk q→p:=by intro qk;refine jb ?_;refine Z39 ?_;exact qk.h):p:=h ⟨k⟩
theorem pz(k:q)(h:Hk q→p:=by intro qk;refine Z49 ?_;refine Z34 ?_;refine A2 [0,1,7,8] ?_;exact qk.h):p:=h ⟨k⟩
theorem q8(k:q)(h:Hk q→p:=by intro qk;refine Z18 ?_;refine Ca ?_;exact qk.h):p:=h ⟨k⟩
theorem wd(k:q)(h:Hk q→p:=by intro qk;refine Es ?_;refine AEo ?_;exact qk.h):p:=h ⟨k⟩
theorem AHu(k:q)(h:Hk q→p:=by intro qk;refine Ed [0,0,0,7,15,15,63,127] 6 Ar (by kernel_rfl) ?_;refine Z14 ?_;exact qk.h):p:=h ⟨k⟩
theorem AHv(h:p:=by refine Z4 ?_;exact A7 (An A6) ⟨rfl,rfl⟩):p:=h
theorem q9(h:p:=by exact ⟨rfl,Below.refl _ _⟩):p:=h
theorem AHw(h:p:=by exact h (y,j) (by rw [Kq];exact hj)):p:=h
theorem Es(k:q)(h:Hk q→p:=by intro qk;refine AW.seqR ?_;exact qk.h):p:=h ⟨k⟩
theorem qb(h:p:=by exact A7 (An A6)):p:=h
theorem qc(k:q)(h:Hk q→p:=by intro qk;refine A2 [0,1,5,7,8,16] ?_;exact qk.h):p:=h ⟨k⟩
theorem I2(k:q)(h:Hk q→p:=by intro qk;refine R.storeOwn jS ?_;exact qk.h):p:=h ⟨k⟩
theorem qd(k:q)(h:Hk q→p:=by intro qk;refine Nj (places:=#[(0,1),(1,1),(2,1)]) jU (fun w=>by simp) jZ ?_;exact qk.h):p:=h ⟨k⟩
theorem AHx(h:p:=by exact A7 (An A6) ⟨by simp only [Gs,hp,ht7,ht14,ht23,ht27,K2,Bd,if_false,if_true];try rfl,rfl⟩):p:=h
theorem AHy(h:p:=by exact A7 (Aw (As jA jS) A6) ⟨by simp only [ee,ht17,if_true,if_false,Bd];rfl,rfl⟩):p:=h
theorem Ia(k:q)(h:Hk q→p:=by intro qk;refine AW.block ?_;exact qk.h):p:=h ⟨k⟩
theorem S4(k:q)(h:Hk q→p:=by intro qk;refine A2 [0,3] ?_;exact qk.h):p:=h ⟨k⟩
theorem AHz(h:p:=by exact A7 (Kb A6 A6 A6 A6) ⟨by simp only [Po,ht11,ht17,if_true,if_false,Bd];try rfl,rfl⟩):p:=h
theorem bf(k:q)(h:Hk q→p:=by intro qk;refine A2 [2,3,4,5] ?_;exact qk.h):p:=h ⟨k⟩
theorem AI0(h:p:=by exact A7 (Kb A6 A6 A6 A6) ⟨by simp only [Vz,ht18,ht23,if_true,if_false,Bd];try rfl,rfl⟩):p:=h
theorem AI1(h:p:=by exact A7 (Kb A6 A6 A6 A6) ⟨by simp only [Cl,ht6,ht17,ht28,if_true,if_false,Bd],rfl⟩):p:=h
theorem we(h:p:=by exact absurd h (by decide)):p:=h
theorem jm(h:p:=by exact Bc _):p:=h
theorem jn(k:q)(h:Hk q→p:=by intro qk;refine Nj (places:=#[(0,1),(1,1)]) jU (fun w=>by simp) jZ ?_;exact qk.h):p:=h ⟨k⟩
theorem qe(k:q)(h:Hk q→p:=by intro qk;refine K.rdN (me hL (By (by decide)) (By (by decide))) ?_;exact qk.h):p:=h ⟨k⟩
theorem U6(k:q)(h:Hk q→p:=by intro qk;refine R.buildSlice jU jS jZ ?_;exact qk.h):p:=h ⟨k⟩
theorem jo(h:p:=by exact ⟨hFRl,by simp [oid]⟩):p:=h
theorem jp(h:p:=by exact J1 (fun x hx=>ObjLow.le (by omega) (hlow x hx)) hOl x hx):p:=h
theorem AEu(k:q)(h:Hk q→p:=by intro qk;refine K.rdR (me hL (By (by decide)) (By (by decide))) ?_;exact qk.h):p:=h ⟨k⟩
theorem ABa(k:q)(h:Hk q→p:=by intro qk;refine K.rdN (vh hL (By (by decide))) ?_;exact qk.h):p:=h ⟨k⟩
theorem jq(k:q)(h:Hk q→p:=by intro qk;refine Cd (x+1) hlt (by omega) ?_;exact qk.h):p:=h ⟨k⟩
theorem bg(h:p:=by exact D.end rfl rfl):p:=h
theorem AEv(k:q)(h:Hk q→p:=by intro qk;refine Y.storeOwn (u:=Hp.length) (n:=0) (t':=26) (cs:=[A4 0,Ah [],A4 0,A4 0,Ah [],.nil]) (cs':=[A4 0,Ah [],A4 0,A4 0,Ah [],.nil]) Tryz.sizeOf26 (fun B hB=>⟨rfl,rfl,rfl,rfl⟩) ?_;exact qk.h):p:=h ⟨k⟩
theorem Xu(h:p:=by exact Wt _):p:=h
theorem AI2(h:p:=by exact A7 (Aw (As jA jS) A6) ⟨by rw [hw];try rfl,rfl⟩):p:=h
theorem AI3(h:p:=by exact A7 (Aw A6 A6) ⟨by simp_all [Hr],rfl⟩):p:=h
theorem qf(h:p:=by exact A7 (An A6) ⟨by rw [hm],rfl⟩):p:=h
theorem AI4(h:p:=by exact A7 (Aw (As Tryz.isAgg23 Tryz.sizeOf23) A6) ⟨by simp_all [In],rfl⟩):p:=h
theorem U7(k:q)(h:Hk q→p:=by intro qk;refine R.buildSl jU jS jZ ?_;exact qk.h):p:=h ⟨k⟩
theorem AI5(h:p:=by exact A7 (An (As jA jS)) ⟨by rw [hm];try rfl,rfl⟩):p:=h
theorem AI6(k:q)(h:Hk q→p:=by intro qk;refine Y.alloc (zs:=[A4 0,A4 0,Ah []]) (n:=1) (u:=Hp.length) Tryz.zeroValue23 (fun B hT hF hB=>⟨rfl,by simp [hB],by simp [upd,hB,hF 1 (by simp)],rfl⟩) ?_;exact qk.h):p:=h ⟨k⟩
theorem AI7(h:p:=by exact A7 (An (As Tryz.isAgg130 Tryz.sizeOf130)) ⟨by simp_all [J9],rfl⟩):p:=h
theorem AI8(h:p:=by exact A7 (Aw A6 A6) ⟨by simp_all [Gg],rfl⟩):p:=h
theorem qg(k:q)(h:Hk q→p:=by intro qk;refine A2 [2,6,13,14,15] ?_;exact qk.h):p:=h ⟨k⟩
theorem AEw(h:p:=by exact A7 (Aw A6 A6) ⟨by rw [hk],rfl⟩):p:=h
theorem Xv(k:q)(h:Hk q→p:=by intro qk;refine A2 [0,1,2] ?_;exact qk.h):p:=h ⟨k⟩
theorem qh(h:p:=by exact hcmp _ rfl rfl hf):p:=h
theorem wg(h:p:=by exact har _ rfl rfl rfl hf):p:=h
theorem AEx(h:p:=by exact ⟨noV,Gj h.1 h2,by rw [hz,hy,h.2];exact AJc⟩):p:=h
theorem AI9(k:q)(h:Hk q→p:=by intro qk;refine K.rdN (by first|exact me hL (By (by decide)) (By (by decide))|exact getset hL) ?_;exact qk.h):p:=h ⟨k⟩
theorem dx(k:q)(h:Hk q→p:=by intro qk;refine Nj (places:=#[(0,1),(1,1),(2,3),(5,1)]) jU (fun w=>by simp) jZ ?_;exact qk.h):p:=h ⟨k⟩
theorem ABb(h:p:=by exact A7 (Aw A6 A6) ⟨by rw [hm]<;>rfl,rfl⟩):p:=h
theorem AIa(h:p:=by exact A7 (An A6) ⟨by rw [hn];first|(simp only [ht22,ht25,ht33,ht41,ht41,ht50,ht58,hk3,hk6,K4,Fd,K3,P8,if_true,if_false,Bd,↓reduceIte]<;>rfl)|(simp only [ht22,ht25,ht33,ht41,ht41,ht50,ht58,hk3,K4,Fd,K3,if_true,if_false,Bd,↓reduceIte]<;>rfl)|(simp only [ht22,ht25,ht33,ht41,ht41,ht50,ht58,if_true,if_false,Bd,↓reduceIte]<;>rfl),rfl⟩):p:=h
theorem qi(h:p:=by exact A7 (An A6) ⟨by rw [hm]<;>rfl,rfl⟩):p:=h
theorem AIb(h:p:=by exact A7 (Aw A6 A6) ⟨by rw [hsh]<;>rfl,rfl⟩):p:=h
theorem wh(k:q)(h:Hk q→p:=by intro qk;refine A2 [1,3,6,10,12,27,28,29] ?_;exact qk.h):p:=h ⟨k⟩
theorem AIc(h:p:=by exact (X2 (c:=[]) (l:=[]) (fun v hv=>by cases hv) ((Bk _ _).1 hn0.2 _ hin) ((Bk _ _).1 hx0.2 _ hin) h).2.2):p:=h
theorem AId(k:q)(h:Hk q→p:=by intro qk;refine Nj (places:=#[(0,1),(1,1),(2,1),(3,1),(4,1)]) jU (fun w=>by simp) jZ ?_;exact qk.h):p:=h ⟨k⟩
theorem AIe(h:p:=by exact A7 (An (As jA jS)) ⟨by first|exact AFn (by simp_all [Fb])|exact yl (by simp_all [Fb])|exact AFo (by simp_all [Fb]),rfl⟩):p:=h
theorem AIf(h:p:=by exact A7 (An (As jA jS)) ⟨by first|exact yl (by simp_all [E8]),rfl⟩):p:=h
theorem wi(h:p:=by exact A7 (Aw (As jA jS) A6) ⟨by rw [hm];try rfl,rfl⟩):p:=h
theorem AIg(h:p:=by exact A7 (An A6) ⟨by simp_all [Cb,Mu],rfl⟩):p:=h
theorem AEy(h:p:=by exact A7 (Aw A6 A6) ⟨by rw [hm],rfl⟩):p:=h
end Go.SX.Nb
namespace Go.SX.Nb
open Go Go.SX Go.Proofs
@[reducible,instance] def JA2:=JA.mk (P:=Tryz.prog) Tryz.isAgg2
@[reducible,instance] def JA3:=JA.mk (P:=Tryz.prog) Tryz.isAgg3
@[reducible,instance] def JA4:=JA.mk (P:=Tryz.prog) Tryz.isAgg4
@[reducible,instance] def JA9:=JA.mk (P:=Tryz.prog) Tryz.isAgg9
@[reducible,instance] def AOj:=JA.mk (P:=Tryz.prog) Tryz.isAgg23
@[reducible,instance] def AOk:=JA.mk (P:=Tryz.prog) Tryz.isAgg24
@[reducible,instance] def AOl:=JA.mk (P:=Tryz.prog) Tryz.isAgg26
@[reducible,instance] def AOm:=JA.mk (P:=Tryz.prog) Tryz.isAgg27
@[reducible,instance] def AOn:=JA.mk (P:=Tryz.prog) Tryz.isAgg28
@[reducible,instance] def AOo:=JA.mk (P:=Tryz.prog) Tryz.isAgg35
@[reducible,instance] def AOq:=JA.mk (P:=Tryz.prog) Tryz.isAgg41
@[reducible,instance] def AOr:=JA.mk (P:=Tryz.prog) Tryz.isAgg45
@[reducible,instance] def AOs:=JA.mk (P:=Tryz.prog) Tryz.isAgg46
@[reducible,instance] def AOt:=JA.mk (P:=Tryz.prog) Tryz.isAgg48
@[reducible,instance] def AOu:=JA.mk (P:=Tryz.prog) Tryz.isAgg59
@[reducible,instance] def AOv:=JA.mk (P:=Tryz.prog) Tryz.isAgg69
@[reducible,instance] def AOw:=JA.mk (P:=Tryz.prog) Tryz.isAgg83
@[reducible,instance] def ANt:=JA.mk (P:=Tryz.prog) Tryz.isAgg107
@[reducible,instance] def ANu:=JA.mk (P:=Tryz.prog) Tryz.isAgg113
@[reducible,instance] def ANv:=JA.mk (P:=Tryz.prog) Tryz.isAgg128
@[reducible,instance] def ANw:=JA.mk (P:=Tryz.prog) Tryz.isAgg130
@[reducible,instance] def ANx:=JA.mk (P:=Tryz.prog) Tryz.isAgg135
@[reducible,instance] def ANy:=JA.mk (P:=Tryz.prog) Tryz.isAgg169
@[reducible,instance] def JS2:=JS.mk (P:=Tryz.prog) Tryz.sizeOf2
@[reducible,instance] def JS3:=JS.mk (P:=Tryz.prog) Tryz.sizeOf3
@[reducible,instance] def JS4:=JS.mk (P:=Tryz.prog) Tryz.sizeOf4
@[reducible,instance] def JS9:=JS.mk (P:=Tryz.prog) Tryz.sizeOf9
@[reducible,instance] def AOx:=JS.mk (P:=Tryz.prog) Tryz.sizeOf23
@[reducible,instance] def AOy:=JS.mk (P:=Tryz.prog) Tryz.sizeOf24
@[reducible,instance] def AOz:=JS.mk (P:=Tryz.prog) Tryz.sizeOf26
@[reducible,instance] def AP0:=JS.mk (P:=Tryz.prog) Tryz.sizeOf27
@[reducible,instance] def AP1:=JS.mk (P:=Tryz.prog) Tryz.sizeOf28
@[reducible,instance] def AP2:=JS.mk (P:=Tryz.prog) Tryz.sizeOf35
@[reducible,instance] def AP3:=JS.mk (P:=Tryz.prog) Tryz.sizeOf41
@[reducible,instance] def AP4:=JS.mk (P:=Tryz.prog) Tryz.sizeOf45
@[reducible,instance] def AP5:=JS.mk (P:=Tryz.prog) Tryz.sizeOf48
@[reducible,instance] def AP6:=JS.mk (P:=Tryz.prog) Tryz.sizeOf59
@[reducible,instance] def AP7:=JS.mk (P:=Tryz.prog) Tryz.sizeOf69
@[reducible,instance] def AP8:=JS.mk (P:=Tryz.prog) Tryz.sizeOf83
@[reducible,instance] def ANz:=JS.mk (P:=Tryz.prog) Tryz.sizeOf107
@[reducible,instance] def AO0:=JS.mk (P:=Tryz.prog) Tryz.sizeOf113
@[reducible,instance] def AO1:=JS.mk (P:=Tryz.prog) Tryz.sizeOf118
@[reducible,instance] def AO2:=JS.mk (P:=Tryz.prog) Tryz.sizeOf128
@[reducible,instance] def AO3:=JS.mk (P:=Tryz.prog) Tryz.sizeOf130
@[reducible,instance] def AO4:=JS.mk (P:=Tryz.prog) Tryz.sizeOf135
@[reducible,instance] def JU2:=JU.mk (P:=Tryz.prog) Tryz.underlying2
@[reducible,instance] def JU3:=JU.mk (P:=Tryz.prog) Tryz.underlying3
@[reducible,instance] def JU4:=JU.mk (P:=Tryz.prog) Tryz.underlying4
@[reducible,instance] def JU5:=JU.mk (P:=Tryz.prog) Tryz.underlying5
@[reducible,instance] def JU9:=JU.mk (P:=Tryz.prog) Tryz.underlying9
@[reducible,instance] def AP9:=JU.mk (P:=Tryz.prog) Tryz.underlying23
@[reducible,instance] def APa:=JU.mk (P:=Tryz.prog) Tryz.underlying24
@[reducible,instance] def APb:=JU.mk (P:=Tryz.prog) Tryz.underlying26
@[reducible,instance] def APc:=JU.mk (P:=Tryz.prog) Tryz.underlying27
@[reducible,instance] def APd:=JU.mk (P:=Tryz.prog) Tryz.underlying28
@[reducible,instance] def APe:=JU.mk (P:=Tryz.prog) Tryz.underlying34
@[reducible,instance] def APf:=JU.mk (P:=Tryz.prog) Tryz.underlying41
@[reducible,instance] def APg:=JU.mk (P:=Tryz.prog) Tryz.underlying45
@[reducible,instance] def APh:=JU.mk (P:=Tryz.prog) Tryz.underlying46
@[reducible,instance] def APi:=JU.mk (P:=Tryz.prog) Tryz.underlying48
@[reducible,instance] def APj:=JU.mk (P:=Tryz.prog) Tryz.underlying59
@[reducible,instance] def APk:=JU.mk (P:=Tryz.prog) Tryz.underlying69
@[reducible,instance] def APl:=JU.mk (P:=Tryz.prog) Tryz.underlying83
@[reducible,instance] def AO5:=JU.mk (P:=Tryz.prog) Tryz.underlying107
@[reducible,instance] def AO6:=JU.mk (P:=Tryz.prog) Tryz.underlying113
@[reducible,instance] def AO7:=JU.mk (P:=Tryz.prog) Tryz.underlying120
@[reducible,instance] def AO8:=JU.mk (P:=Tryz.prog) Tryz.underlying128
@[reducible,instance] def AO9:=JU.mk (P:=Tryz.prog) Tryz.underlying130
@[reducible,instance] def AOa:=JU.mk (P:=Tryz.prog) Tryz.underlying135
@[reducible,instance] def AOb:=JU.mk (P:=Tryz.prog) Tryz.underlying171
@[reducible,instance] def AOc:=JU.mk (P:=Tryz.prog) Tryz.underlying233
@[reducible,instance] def JZ3:=JZ.mk (P:=Tryz.prog) Tryz.zeroValue3
@[reducible,instance] def JZ4:=JZ.mk (P:=Tryz.prog) Tryz.zeroValue4
@[reducible,instance] def JZ9:=JZ.mk (P:=Tryz.prog) Tryz.zeroValue9
@[reducible,instance] def APm:=JZ.mk (P:=Tryz.prog) Tryz.zeroValue23
@[reducible,instance] def APn:=JZ.mk (P:=Tryz.prog) Tryz.zeroValue26
@[reducible,instance] def APo:=JZ.mk (P:=Tryz.prog) Tryz.zeroValue27
@[reducible,instance] def APp:=JZ.mk (P:=Tryz.prog) Tryz.zeroValue28
@[reducible,instance] def APq:=JZ.mk (P:=Tryz.prog) Tryz.zeroValue35
@[reducible,instance] def APr:=JZ.mk (P:=Tryz.prog) Tryz.zeroValue41
@[reducible,instance] def APs:=JZ.mk (P:=Tryz.prog) Tryz.zeroValue45
@[reducible,instance] def APt:=JZ.mk (P:=Tryz.prog) Tryz.zeroValue48
@[reducible,instance] def APu:=JZ.mk (P:=Tryz.prog) Tryz.zeroValue59
@[reducible,instance] def APv:=JZ.mk (P:=Tryz.prog) Tryz.zeroValue69
@[reducible,instance] def APw:=JZ.mk (P:=Tryz.prog) Tryz.zeroValue83
@[reducible,instance] def AOd:=JZ.mk (P:=Tryz.prog) Tryz.zeroValue107
@[reducible,instance] def AOe:=JZ.mk (P:=Tryz.prog) Tryz.zeroValue113
@[reducible,instance] def AOf:=JZ.mk (P:=Tryz.prog) Tryz.zeroValue120
@[reducible,instance] def AOg:=JZ.mk (P:=Tryz.prog) Tryz.zeroValue130
@[reducible,instance] def AOh:=JZ.mk (P:=Tryz.prog) Tryz.zeroValue135
@[reducible,instance] def AOi:=JZ.mk (P:=Tryz.prog) Tryz.zeroValue171
end Go.SX.Nb
