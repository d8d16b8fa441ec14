/- On the way (part 3). -/
import Derived.Test.YtofbdcbjpdpllaaGreatDoorProg
import Derived.Test.YtofbdcbjpdpllaaGreatDoorInvertComesCardSaidPart2
set_option linter.all false
namespace Go.SX.Nb
open Go Go.SX Go.Proofs
structure Hk (q:Prop):Prop where h:q
variable {p q:Prop}
theorem Z0(k:q)(h:Hk q→p:=by intro qk;refine A7 ?_;refine A7 ?_;exact qk.h):p:=h ⟨k⟩
theorem Z1(k:q)(h:Hk q→p:=by intro qk;refine Ey ?_;refine Z0 ?_;exact qk.h):p:=h ⟨k⟩
theorem Z3(k:q)(h:Hk q→p:=by intro qk;refine Ey ?_;refine A7 ?_;exact qk.h):p:=h ⟨k⟩
theorem Z4(k:q)(h:Hk q→p:=by intro qk;refine A2 [2] ?_;refine Hi ?_;exact qk.h):p:=h ⟨k⟩
theorem Z5(k:q)(h:Hk q→p:=by intro qk;refine K.blR ?_;refine Cp ?_;exact qk.h):p:=h ⟨k⟩
theorem Z6(k:q)(h:Hk q→p:=by intro qk;refine Jj ?_;refine A7 ?_;exact qk.h):p:=h ⟨k⟩
theorem Z9(k:q)(h:Hk q→p:=by intro qk;refine K0 ?_;refine Fv ?_;exact qk.h):p:=h ⟨k⟩
theorem Z10(k:q)(h:Hk q→p:=by intro qk;refine Jj ?_;refine Z4 ?_;exact qk.h):p:=h ⟨k⟩
theorem Z11(k:q)(h:Hk q→p:=by intro qk;refine A2 [4,5] ?_;refine Hi ?_;exact qk.h):p:=h ⟨k⟩
theorem Z12(k:q)(h:Hk q→p:=by intro qk;refine C4 ?_;refine C4 ?_;exact qk.h):p:=h ⟨k⟩
theorem Z13(k:q)(h:Hk q→p:=by intro qk;refine B4 ?_;refine B4 ?_;exact qk.h):p:=h ⟨k⟩
theorem Z14(k:q)(h:Hk q→p:=by intro qk;refine Z1 ?_;refine A7 ?_;exact qk.h):p:=h ⟨k⟩
theorem Z15(h:p:=by refine Z5 ?_;exact me):p:=h
theorem Z16(k:q)(h:Hk q→p:=by intro qk;refine Jc ?_;refine Fv ?_;exact qk.h):p:=h ⟨k⟩
theorem Z17(k:q)(h:Hk q→p:=by intro qk;refine Z1 ?_;refine Z0 ?_;exact qk.h):p:=h ⟨k⟩
theorem Z18(k:q)(h:Hk q→p:=by intro qk;refine Ey ?_;refine S5 ?_;refine ik ?_;exact qk.h):p:=h ⟨k⟩
theorem Z20(k:q)(h:Hk q→p:=by intro qk;refine A2 [2,3] ?_;refine Hi ?_;exact qk.h):p:=h ⟨k⟩
theorem Z21(k:q)(h:Hk q→p:=by intro qk;refine Ij jZ ?_;refine Jj ?_;exact qk.h):p:=h ⟨k⟩
theorem Z22(k:q)(h:Hk q→p:=by intro qk;refine K0 ?_;refine Z16 ?_;exact qk.h):p:=h ⟨k⟩
theorem Z23(h:p:=by refine Cp ?_;exact me):p:=h
theorem Z24(k:q)(h:Hk q→p:=by intro qk;refine Z0 ?_;refine A7 ?_;exact qk.h):p:=h ⟨k⟩
theorem Z25(k:q)(h:Hk q→p:=by intro qk;refine Ey ?_;refine Y2 ?_;exact qk.h):p:=h ⟨k⟩
theorem Z26(k:q)(h:Hk q→p:=by intro qk;refine Ey ?_;refine Ij jZ ?_;exact qk.h):p:=h ⟨k⟩
theorem Z27(k:q)(h:Hk q→p:=by intro qk;refine In ?_;refine I5 ?_;exact qk.h):p:=h ⟨k⟩
theorem Z28(k:q)(h:Hk q→p:=by intro qk;refine Z18 ?_;refine Z10 ?_;exact qk.h):p:=h ⟨k⟩
theorem Z29(k:q)(h:Hk q→p:=by intro qk;refine A2 [4] ?_;refine Hi ?_;exact qk.h):p:=h ⟨k⟩
theorem Z30(h:p:=by refine Cp ?_;exact qj):p:=h
theorem Z31(k:q)(h:Hk q→p:=by intro qk;refine If ?_;refine Z0 ?_;exact qk.h):p:=h ⟨k⟩
theorem Z32(k:q)(h:Hk q→p:=by intro qk;refine In ?_;refine Z1 ?_;exact qk.h):p:=h ⟨k⟩
theorem Z33(k:q)(h:Hk q→p:=by intro qk;refine Z13 ?_;refine B4 ?_;exact qk.h):p:=h ⟨k⟩
theorem Z35(k:q)(h:Hk q→p:=by intro qk;refine C4 ?_;refine Z0 ?_;exact qk.h):p:=h ⟨k⟩
theorem Z36(k:q)(h:Hk q→p:=by intro qk;refine Z6 ?_;refine Z11 ?_;exact qk.h):p:=h ⟨k⟩
theorem Z37(k:q)(h:Hk q→p:=by intro qk;refine In ?_;refine Z3 ?_;exact qk.h):p:=h ⟨k⟩
theorem Z39(k:q)(h:Hk q→p:=by intro qk;refine In ?_;refine Z14 ?_;exact qk.h):p:=h ⟨k⟩
theorem Z40(k:q)(h:Hk q→p:=by intro qk;refine Ac Tryz.call43 (c43 _ _) ?_;refine Z0 ?_;exact qk.h):p:=h ⟨k⟩
theorem Z42(h:p:=by refine Z36 ?_;exact me):p:=h
theorem Z43(k:q)(h:Hk q→p:=by intro qk;refine Ij jZ ?_;refine A7 ?_;exact qk.h):p:=h ⟨k⟩
theorem Z44(h:p:=by refine K.thJ ?_;exact E9 (by simp [*])):p:=h
theorem Z45(k:q)(h:Hk q→p:=by intro qk;refine Z12 ?_;refine Z12 ?_;exact qk.h):p:=h ⟨k⟩
theorem Z46(k:q)(h:Hk q→p:=by intro qk;refine ye ?_;refine Wb (u:=Hp.length) (n:=1) (t':=23) (cs:=[A6 0,A6 0,Ah []]) (cs':=[A6 (Az ra).1.kind,A6 (Az ra).1.n,Ah (Az ra).1.s]) Tryz.sizeOf23 (fun B hT hF hB=>⟨rfl,by simp [hT 0 (by simp),hB],by simp [upd,hT 0 (by simp),hB],rfl⟩) ?_;exact qk.h):p:=h ⟨k⟩
theorem Z47(h:p:=by refine Z28 ?_;refine Z5 ?_;exact yl):p:=h
theorem Z48(k:q)(h:Hk q→p:=by intro qk;refine A2 [2,3,4,5] ?_;refine Hi ?_;exact qk.h):p:=h ⟨k⟩
theorem Z49(k:q)(h:Hk q→p:=by intro qk;refine Z3 ?_;refine Bw Tryz.call204 ho (by simp) Cm (nh l S o _ (Av ho) hi hll) ?_;exact qk.h):p:=h ⟨k⟩
theorem Z50(k:q)(h:Hk q→p:=by intro qk;refine Ey ?_;refine ij ?_;exact qk.h):p:=h ⟨k⟩
theorem Z51(k:q)(h:Hk q→p:=by intro qk;refine Z6 ?_;refine Z20 ?_;exact qk.h):p:=h ⟨k⟩
theorem Z52(k:q)(h:Hk q→p:=by intro qk;refine Z26 ?_;refine A2 [0,2] ?_;exact qk.h):p:=h ⟨k⟩
theorem Z53(k:q)(h:Hk q→p:=by intro qk;refine Z24 ?_;refine Ij jZ ?_;exact qk.h):p:=h ⟨k⟩
theorem Z55(k:q)(h:Hk q→p:=by intro qk;refine If ?_;refine Z24 ?_;exact qk.h):p:=h ⟨k⟩
theorem Z56(k:q)(h:Hk q→p:=by intro qk;refine Z12 ?_;refine Z35 ?_;exact qk.h):p:=h ⟨k⟩
theorem Z57(k:q)(h:Hk q→p:=by intro qk;refine Z3 ?_;refine Z4 ?_;exact qk.h):p:=h ⟨k⟩
theorem Z58(k:q)(h:Hk q→p:=by intro qk;refine K.lpE ?_;refine Fv ?_;exact qk.h):p:=h ⟨k⟩
theorem Z59(h:p:=by refine Cp ?_;exact A5 (Ap (Ai jA jS)) ⟨by rw [e,Ad],by rw [e]⟩ (hlow:=low_agg _)):p:=h
theorem Z60(k:q)(h:Hk q→p:=by intro qk;refine In ?_;refine Z17 ?_;exact qk.h):p:=h ⟨k⟩
theorem Z61(h:p:=by refine B4 ?_;exact bb):p:=h
theorem Z62(k:q)(h:Hk q→p:=by intro qk;refine Z6 ?_;refine A2 [6,7] ?_;refine Hi ?_;exact qk.h):p:=h ⟨k⟩
theorem Z63(k:q)(h:Hk q→p:=by intro qk;refine C4 ?_;refine A7 ?_;exact qk.h):p:=h ⟨k⟩
theorem Z64(k:q)(h:Hk q→p:=by intro qk;refine Z0 ?_;refine Z0 ?_;exact qk.h):p:=h ⟨k⟩
theorem Z65(k:q)(h:Hk q→p:=by intro qk;refine Z5 ?_;refine K.lpR ?_;exact qk.h):p:=h ⟨k⟩
theorem Z66(h:p:=by refine Z36 ?_;exact Z15):p:=h
theorem Z68(k:q)(h:Hk q→p:=by intro qk;refine Z1 ?_;refine A2 [2,18] ?_;exact qk.h):p:=h ⟨k⟩
theorem Z69(k:q)(h:Hk q→p:=by intro qk;refine Hi ?_;refine Cp ?_;exact qk.h):p:=h ⟨k⟩
theorem Z70(k:q)(h:Hk q→p:=by intro qk;refine Z3 ?_;refine A2 [0,1] ?_;exact qk.h):p:=h ⟨k⟩
theorem Z71(h:p:=by refine Z28 ?_;refine Z5 ?_;exact yj):p:=h
theorem Z72(k:q)(h:Hk q→p:=by intro qk;refine H.go ?_;refine H.go ?_;exact qk.h):p:=h ⟨k⟩
theorem Z73(k:q)(h:Hk q→p:=by intro qk;refine Z1 ?_;refine Y2 ?_;exact qk.h):p:=h ⟨k⟩
theorem Z75(k:q)(h:Hk q→p:=by intro qk;refine Z9 ?_;refine Z3 ?_;exact qk.h):p:=h ⟨k⟩
theorem Z76(k:q)(h:Hk q→p:=by intro qk;refine Z3 ?_;refine A2 [0] ?_;exact qk.h):p:=h ⟨k⟩
theorem Z77(k:q)(h:Hk q→p:=by intro qk;refine Z11 ?_;refine Z5 ?_;exact qk.h):p:=h ⟨k⟩
theorem Z78(h:p:=by refine Z29 ?_;exact qj):p:=h
theorem Z79(k:q)(h:Hk q→p:=by intro qk;refine ut ?_;refine H5 (tn:=[2])  ?_;exact qk.h):p:=h ⟨k⟩
theorem Z80(k:q)(h:Hk q→p:=by intro qk;refine Z1 ?_;refine A2 [2,3,9] ?_;exact qk.h):p:=h ⟨k⟩
theorem Z81(h:p:=by refine Cp ?_;exact A5 (Ab (Ai jA jS) (Ai jA jS)) ⟨by rw [e,Yx]<;>rfl,rfl⟩):p:=h
theorem Z82(k:q)(h:Hk q→p:=by intro qk;refine Z53 ?_;refine Z6 ?_;exact qk.h):p:=h ⟨k⟩
theorem Z83(k:q)(h:Hk q→p:=by intro qk;refine Jj ?_;refine A2 [6] ?_;exact qk.h):p:=h ⟨k⟩
theorem Z85(h:p:=by refine Z22 ?_;refine Z18 ?_;refine Z10 ?_;exact yl):p:=h
theorem Z86(h:p:=by refine Z4 ?_;exact A5 (Ap A3)):p:=h
theorem Z87(h:p:=by refine Rz jU jS jZ ?_;exact bb):p:=h
theorem Z88(k:q)(h:Hk q→p:=by intro qk;refine I5 ?_;refine Z1 ?_;exact qk.h):p:=h ⟨k⟩
theorem Z89(h:p:=by refine D.build (places:=#[(0,1),(1,1)]) jU (fun w=>by simp) jZ ?_;exact bb):p:=h
theorem Z90(h:p:=by refine Cp ?_;exact A5 (Ab (Ai jA jS) A3) ⟨by rw [hm];simp only [Option.getD_none,Ad];try rfl,rfl⟩ (hlow:=by simp [or_imp,forall_and,Ag])):p:=h
theorem Z91(k:q)(h:Hk q→p:=by intro qk;refine Z13 ?_;refine Dw ?_;exact qk.h):p:=h ⟨k⟩
theorem Z92(h:p:=by refine K0 ?_;exact Z44):p:=h
theorem Z93(k:q)(h:Hk q→p:=by intro qk;refine Z1 ?_;refine A2 [1] ?_;exact qk.h):p:=h ⟨k⟩
theorem Z94(k:q)(h:Hk q→p:=by intro qk;refine Z3 ?_;refine Z29 ?_;exact qk.h):p:=h ⟨k⟩
theorem Z95(k:q)(h:Hk q→p:=by intro qk;refine AW.exit ?_;refine K.thE ?_;exact qk.h):p:=h ⟨k⟩
theorem Z96(k:q)(h:Hk q→p:=by intro qk;refine In ?_;refine Ey ?_;exact qk.h):p:=h ⟨k⟩
theorem Z97(k:q)(h:Hk q→p:=by intro qk;refine If ?_;refine A7 ?_;exact qk.h):p:=h ⟨k⟩
theorem Z98(k:q)(h:Hk q→p:=by intro qk;refine D.build (places:=#[(0,1),(1,1),(2,3),(5,1)]) jU (fun w=>by simp) jZ ?_;refine Z13 ?_;exact qk.h):p:=h ⟨k⟩
theorem Z99(k:q)(h:Hk q→p:=by intro qk;refine Ac Tryz.call254 (AAu l S o _ (Av ho) hi) ?_;refine Z21 ?_;exact qk.h):p:=h ⟨k⟩
theorem U1(k:q)(h:Hk q→p:=by intro qk;refine Ey ?_;refine Z40 ?_;exact qk.h):p:=h ⟨k⟩
theorem Xw(k:q)(h:Hk q→p:=by intro qk;refine Z45 ?_;refine Z0 ?_;exact qk.h):p:=h ⟨k⟩
theorem Xx(k:q)(h:Hk q→p:=by intro qk;refine Z51 ?_;refine Z5 ?_;exact qk.h):p:=h ⟨k⟩
theorem uf(k:q)(h:Hk q→p:=by intro qk;refine Y2 ?_;refine Z10 ?_;exact qk.h):p:=h ⟨k⟩
theorem ug(k:q)(h:Hk q→p:=by intro qk;refine Z3 ?_;refine Y2 ?_;exact qk.h):p:=h ⟨k⟩
theorem We(k:q)(h:Hk q→p:=by intro qk;refine Z65 ?_;refine Cp ?_;exact qk.h):p:=h ⟨k⟩
theorem uh(k:q)(h:Hk q→p:=by intro qk;refine Er [0,0,2,6,14,31,63,63,255,511] 8 Aw (by kernel_rfl) ?_;refine Z33 ?_;exact qk.h):p:=h ⟨k⟩
theorem wv(k:q)(h:Hk q→p:=by intro qk;refine Cy Tryz.call172 (ACd ((Ci s.c).1.s.length:Int) _) ?_;refine Cy Tryz.call171 (c171 (D6 Jf [y]) [45] (Cs ⟨1,((Ci s.c).1.s.length:Int),[]⟩) _) ?_;exact qk.h):p:=h ⟨k⟩
theorem ui(k:q)(h:Hk q→p:=by intro qk;refine Z3 ?_;refine ij ?_;exact qk.h):p:=h ⟨k⟩
theorem ww(k:q)(h:Hk q→p:=by intro qk;refine H5 (tn:=[9,10]) (O:=[.cells 23 [A6 0,A6 0,Ah []],.cells 23 [A6 (Az ra).1.kind,A6 (Az ra).1.n,Ah (Az ra).1.s]]) ?_;refine A7 ?_;exact qk.h):p:=h ⟨k⟩
theorem Qq(k:q)(h:Hk q→p:=by intro qk;refine Z0 ?_;refine Z24 ?_;exact qk.h):p:=h ⟨k⟩
theorem uj(h:p:=by refine Z5 ?_;exact A5 (Ap A3) ⟨by simp_all [d9],rfl⟩):p:=h
theorem uk(h:p:=by refine Z11 ?_;exact ux):p:=h
theorem S3(k:q)(h:Hk q→p:=by intro qk;refine Z62 ?_;refine Z5 ?_;exact qk.h):p:=h ⟨k⟩
theorem U2(k:q)(h:Hk q→p:=by intro qk;refine Z22 ?_;refine Z31 ?_;exact qk.h):p:=h ⟨k⟩
theorem Xy(k:q)(h:Hk q→p:=by intro qk;refine K.blR ?_;refine K.lpR ?_;exact qk.h):p:=h ⟨k⟩
theorem m3(h:p:=by refine G9 [3,8] ?_;exact Z92):p:=h
theorem ul(h:p:=by refine Z4 ?_;refine Z5 ?_;exact ym):p:=h
theorem gw(h:p:=by refine A2 [] ?_;refine Jc ?_;exact L9 .nores ⟨rfl,by rw [pe]<;>simp [ji]⟩):p:=h
theorem ax(k:q)(h:Hk q→p:=by intro qk;refine A2 [] ?_;refine Jc ?_;exact qk.h):p:=h ⟨k⟩
theorem q9(h:p:=by refine Z33 ?_;exact bb):p:=h
theorem U3(k:q)(h:Hk q→p:=by intro qk;refine Z27 ?_;refine Z14 ?_;exact qk.h):p:=h ⟨k⟩
theorem ay(k:q)(h:Hk q→p:=by intro qk;refine Z1 ?_;refine A2 [0,1] ?_;exact qk.h):p:=h ⟨k⟩
theorem S4(k:q)(h:Hk q→p:=by intro qk;refine Z9 ?_;refine Z1 ?_;exact qk.h):p:=h ⟨k⟩
theorem az(k:q)(h:Hk q→p:=by intro qk;refine Z11 ?_;refine Cp ?_;exact qk.h):p:=h ⟨k⟩
theorem gy(k:q)(h:Hk q→p:=by intro qk;refine Jj ?_;refine Z20 ?_;exact qk.h):p:=h ⟨k⟩
theorem Wf(k:q)(h:Hk q→p:=by intro qk;refine Z13 ?_;refine Z33 ?_;exact qk.h):p:=h ⟨k⟩
theorem U4(k:q)(h:Hk q→p:=by intro qk;refine Z9 ?_;refine Z14 ?_;exact qk.h):p:=h ⟨k⟩
theorem wx(h:p:=by refine D.build (places:=#[(0,1),(1,1),(2,3),(5,1)]) jU (fun w=>by simp) jZ ?_;exact Z61):p:=h
theorem qb(h:p:=by refine Z29 ?_;exact A5 (Ap A3)):p:=h
theorem Wg(k:q)(h:Hk q→p:=by intro qk;refine Z9 ?_;refine Z37 ?_;exact qk.h):p:=h ⟨k⟩
theorem gz(h:p:=by refine Xw ?_;exact ul):p:=h
theorem wy(h:p:=by refine Ct (x+1) ⟨hlt,Gj hlt hx.2 ht19⟩ (by omega) ?_;exact Im (by simp)):p:=h
theorem qc(k:q)(h:Hk q→p:=by intro qk;refine A7 ?_;refine Ac Tryz.call77 (c77 e _) ?_;exact qk.h):p:=h ⟨k⟩
theorem wz(h:p:=by refine Z10 ?_;exact A5 (Ap (Ai jA jS)) ⟨rfl,rfl⟩ (hlow:=Ag _ (Cs v))):p:=h
theorem b6(k:q)(h:Hk q→p:=by intro qk;refine Z27 ?_;refine Ey ?_;exact qk.h):p:=h ⟨k⟩
theorem Wh(k:q)(h:Hk q→p:=by intro qk;refine Z17 ?_;refine Z56 ?_;exact qk.h):p:=h ⟨k⟩
theorem um(k:q)(h:Hk q→p:=by intro qk;refine Mu [0,0,3,7] 2 Aw (by kernel_rfl) ?_;refine B4 ?_;exact qk.h):p:=h ⟨k⟩
theorem Wi(k:q)(h:Hk q→p:=by intro qk;refine Z27 ?_;refine Z3 ?_;exact qk.h):p:=h ⟨k⟩
theorem x5(k:q)(h:Hk q→p:=by intro qk;refine Mu [0,0,0,4,12,0,32,96,224,508,1020,2046,4095,8191,16383] 12 Aw (by kernel_rfl) ?_;refine Z33 ?_;exact qk.h):p:=h ⟨k⟩
theorem un(h:p:=by refine Z10 ?_;exact A5 (Ap (Ai jA jS))):p:=h
theorem i6(h:p:=by refine Z94 ?_;exact Z30):p:=h
theorem i7(h:p:=by refine Z36 ?_;exact Z23):p:=h
theorem x6(k:q)(h:Hk q→p:=by intro qk;refine Wg ?_;refine Ac Tryz.call326 (ABv (n+1) (Expr.mk x.op x.text noV (x.kids.map Bb)) hyok (by omega) hyr _) ?_;exact qk.h):p:=h ⟨k⟩
theorem Xz(k:q)(h:Hk q→p:=by intro qk;refine Z26 ?_;refine A7 ?_;exact qk.h):p:=h ⟨k⟩
theorem x7(h:p:=by refine Z51 ?_;exact me):p:=h
theorem m4(k:q)(h:Hk q→p:=by intro qk;refine Z3 ?_;refine Z43 ?_;exact qk.h):p:=h ⟨k⟩
theorem x8(h:p:=by refine Z62 ?_;exact me):p:=h
theorem m5(k:q)(h:Hk q→p:=by intro qk;refine Z43 ?_;refine A2 [2,3,4] ?_;exact qk.h):p:=h ⟨k⟩
theorem x9(k:q)(h:Hk q→p:=by intro qk;refine bc ?_;refine Y2 ?_;exact qk.h):p:=h ⟨k⟩
theorem xa(h:p:=by refine Cp ?_;exact yh):p:=h
theorem Y0(k:q)(h:Hk q→p:=by intro qk;refine Z0 ?_;refine C4 ?_;exact qk.h):p:=h ⟨k⟩
theorem xb(h:p:=by refine Z57 ?_;exact ym):p:=h
theorem m6(h:p:=by refine Z65 ?_;exact Z30):p:=h
theorem xc(h:p:=by refine Ct (x+1) ⟨hlt,hn⟩ (by omega) ?_;exact Im (by simp)):p:=h
theorem xd(h:p:=by refine Z10 ?_;exact A5 (Ap (Ai jA jS)) ⟨by simp [ht5],rfl⟩):p:=h
theorem xe(k:q)(h:Hk q→p:=by intro qk;refine Z14 ?_;refine Bw Tryz.call116 ho (by simp) Cm (jg l S 8 (At l S.i).at_ o _ (Av ho)) ?_;exact qk.h):p:=h ⟨k⟩
theorem xf(h:p:=by refine Cp ?_;exact A5 (Ap A3) ⟨by rw [hx.eq,hw],rfl⟩):p:=h
theorem xg(h:p:=by refine We ?_;exact A5 (Ab A3 A3) ⟨by rw [hbad],rfl⟩):p:=h
theorem b7(k:q)(h:Hk q→p:=by intro qk;refine Z12 ?_;refine A7 ?_;exact qk.h):p:=h ⟨k⟩
theorem m7(k:q)(h:Hk q→p:=by intro qk;refine m4 ?_;refine A2 [1,2] ?_;exact qk.h):p:=h ⟨k⟩
theorem m8(h:p:=by refine Z57 ?_;refine Z5 ?_;exact A5 (Ap A3) ⟨by simp_all [Nj],rfl⟩):p:=h
theorem Y1(k:q)(h:Hk q→p:=by intro qk;refine Z22 ?_;refine Z1 ?_;exact qk.h):p:=h ⟨k⟩
theorem i8(k:q)(h:Hk q→p:=by intro qk;refine Ey ?_;refine Z21 ?_;exact qk.h):p:=h ⟨k⟩
theorem m9(k:q)(h:Hk q→p:=by intro qk;refine Z1 ?_;refine A2 [3,8] ?_;exact qk.h):p:=h ⟨k⟩
theorem xh(h:p:=by refine az ?_;exact ux):p:=h
theorem qd(h:p:=by refine Jc ?_;refine K.thJ ?_;exact E9 (by rw [e]<;>rfl)):p:=h
theorem xi(h:p:=by refine Z77 ?_;exact ux):p:=h
theorem xj(k:q)(h:Hk q→p:=by intro qk;refine Er [0,1,3,7,15,3,35,99,255,511,1023] 8 Aw (by kernel_rfl) ?_;refine Z13 ?_;exact qk.h):p:=h ⟨k⟩
theorem b8(k:q)(h:Hk q→p:=by intro qk;refine Z13 ?_;refine Z13 ?_;exact qk.h):p:=h ⟨k⟩
theorem ia(k:q)(h:Hk q→p:=by intro qk;refine Z10 ?_;refine Cp ?_;exact qk.h):p:=h ⟨k⟩
theorem xl(k:q)(h:Hk q→p:=by intro qk;refine Mu [0,1,3,7,0,16,48,112,255,511,1023] 8 Aw (by kernel_rfl) ?_;refine Z13 ?_;exact qk.h):p:=h ⟨k⟩
theorem ib(k:q)(h:Hk q→p:=by intro qk;refine A7 ?_;refine Xx ?_;exact qk.h):p:=h ⟨k⟩
theorem ic(k:q)(h:Hk q→p:=by intro qk;refine Z83 ?_;refine Hi ?_;exact qk.h):p:=h ⟨k⟩
theorem xm(h:p:=by refine Cy Tryz.call136 (zh c l k0 ra ha _) ?_;exact q9):p:=h
theorem xn(k:q)(h:Hk q→p:=by intro qk;refine A2 [0,3,4] ?_;refine Er [0,1,3,0,8,24,56,127] 7 Aw (by kernel_rfl) ?_;exact qk.h):p:=h ⟨k⟩
theorem qe(k:q)(h:Hk q→p:=by intro qk;refine Z26 ?_;refine A2 [0,1,2,6] ?_;exact qk.h):p:=h ⟨k⟩
theorem b9(k:q)(h:Hk q→p:=by intro qk;refine Z0 ?_;refine Ac Tryz.call175 (c175 _ _ _) ?_;refine Z0 ?_;exact qk.h):p:=h ⟨k⟩
theorem xp(h:p:=by refine Z57 ?_;exact qj):p:=h
theorem xq(k:q)(h:Hk q→p:=by intro qk;refine Dw ?_;refine Mt (places:=#[(0,6),(6,6),(12,1)]) jU (fun w=>by simp) jZ ?_;exact qk.h):p:=h ⟨k⟩
theorem uo(k:q)(h:Hk q→p:=by intro qk;refine Ey ?_;refine Ac Tryz.call86 (c86 _) ?_;exact qk.h):p:=h ⟨k⟩
theorem xr(h:p:=by refine Z4 ?_;exact qj):p:=h
theorem xt(k:q)(h:Hk q→p:=by intro qk;refine ik ?_;refine Jj ?_;exact qk.h):p:=h ⟨k⟩
theorem xu(k:q)(h:Hk q→p:=by intro qk;refine Z12 ?_;refine Co Tryz.call125 (fun hB=>yr e.text Ly hs (by decide) _) ?_;exact qk.h):p:=h ⟨k⟩
theorem qf(k:q)(h:Hk q→p:=by intro qk;refine Z1 ?_;refine A2 [2,3,18] ?_;exact qk.h):p:=h ⟨k⟩
theorem ie(k:q)(h:Hk q→p:=by intro qk;refine Z16 ?_;refine Z31 ?_;exact qk.h):p:=h ⟨k⟩
theorem ma(k:q)(h:Hk q→p:=by intro qk;refine Z17 ?_;refine A2 [0] ?_;exact qk.h):p:=h ⟨k⟩
theorem mb(k:q)(h:Hk q→p:=by intro qk;refine Z3 ?_;refine Ij jZ ?_;exact qk.h):p:=h ⟨k⟩
theorem xv(h:p:=by refine Z4 ?_;exact uw):p:=h
theorem qg(h:p:=by refine Z22 ?_;refine Z28 ?_;exact yj):p:=h
theorem qh(k:q)(h:Hk q→p:=by intro qk;refine Z21 ?_;refine A2 [0,2,3] ?_;exact qk.h):p:=h ⟨k⟩
theorem ig(k:q)(h:Hk q→p:=by intro qk;refine Z17 ?_;refine Z77 ?_;exact qk.h):p:=h ⟨k⟩
theorem uq(h:p:=by refine A2 [8] ?_;refine Z69 ?_;exact uw):p:=h
theorem qi(k:q)(h:Hk q→p:=by intro qk;refine Z43 ?_;refine Jj ?_;exact qk.h):p:=h ⟨k⟩
theorem xw(k:q)(h:Hk q→p:=by intro qk;refine Er [0,0,0,7,15,15,63,127] 6 Aw (by kernel_rfl) ?_;refine Z13 ?_;exact qk.h):p:=h ⟨k⟩
theorem ii(h:p:=by exact ⟨rfl,Below.refl _ _⟩):p:=h
theorem xy(h:p:=by exact h (y,j) (by rw [Iw];exact hj)):p:=h
theorem Ey(k:q)(h:Hk q→p:=by intro qk;refine AW.seqR ?_;exact qk.h):p:=h ⟨k⟩
theorem P5(k:q)(h:Hk q→p:=by intro qk;refine A2 [0,3] ?_;exact qk.h):p:=h ⟨k⟩
theorem Jj(k:q)(h:Hk q→p:=by intro qk;refine R.storeOwn jS ?_;exact qk.h):p:=h ⟨k⟩
theorem ij(k:q)(h:Hk q→p:=by intro qk;refine Mt (places:=#[(0,1),(1,1),(2,1)]) jU (fun w=>by simp) jZ ?_;exact qk.h):p:=h ⟨k⟩
theorem xz(h:p:=by exact A5 (Ap A3) ⟨by simp only [Fh,hp,ht7,ht14,ht23,ht27,Ib,Bs,if_false,if_true];try rfl,rfl⟩):p:=h
theorem y6(h:p:=by exact A5 (Ab (Ai jA jS) A3) ⟨by simp only [Y7,ht17,if_true,if_false,Bs];rfl,rfl⟩):p:=h
theorem I5(k:q)(h:Hk q→p:=by intro qk;refine AW.block ?_;exact qk.h):p:=h ⟨k⟩
theorem y7(h:p:=by exact A5 (Ik A3 A3 A3 A3) ⟨by simp only [N1,ht11,ht17,if_true,if_false,Bs];try rfl,rfl⟩):p:=h
theorem y8(h:p:=by exact A5 (Ik A3 A3 A3 A3) ⟨by simp only [Sh,ht18,ht23,if_true,if_false,Bs];try rfl,rfl⟩):p:=h
theorem y9(h:p:=by exact A5 (Ik A3 A3 A3 A3) ⟨by simp only [C3,ht6,ht17,ht28,if_true,if_false,Bs],rfl⟩):p:=h
theorem mc(h:p:=by exact absurd h (by decide)):p:=h
theorem S5(k:q)(h:Hk q→p:=by intro qk;refine R.buildSlice jU jS jZ ?_;exact qk.h):p:=h ⟨k⟩
theorem ur(k:q)(h:Hk q→p:=by intro qk;refine K.rdN (ly hL (Dr (by decide)) (Dr (by decide))) ?_;exact qk.h):p:=h ⟨k⟩
theorem ik(k:q)(h:Hk q→p:=by intro qk;refine Mt (places:=#[(0,1),(1,1)]) jU (fun w=>by simp) jZ ?_;exact qk.h):p:=h ⟨k⟩
theorem il(h:p:=by exact ⟨hFRl,by simp [oid]⟩):p:=h
theorem ba(h:p:=by exact M0 (fun x hx=>ObjLow.le (by omega) (hlow x hx)) hOl x hx):p:=h
theorem bb(h:p:=by exact D.end rfl rfl):p:=h
theorem Y2(k:q)(h:Hk q→p:=by intro qk;refine Mt (places:=#[(0,1),(1,1),(2,3),(5,1)]) jU (fun w=>by simp) jZ ?_;exact qk.h):p:=h ⟨k⟩
theorem ut(k:q)(h:Hk q→p:=by intro qk;refine Y.storeOwn (u:=Hp.length) (n:=0) (t':=26) (cs:=[A6 0,Ah [],A6 0,A6 0,Ah [],.nil]) (cs':=[A6 0,Ah [],A6 0,A6 0,Ah [],.nil]) Tryz.sizeOf26 (fun B hB=>⟨rfl,rfl,rfl,rfl⟩) ?_;exact qk.h):p:=h ⟨k⟩
theorem U5(h:p:=by exact Td _):p:=h
theorem yb(h:p:=by exact A5 (Ab (Ai jA jS) A3) ⟨by rw [hw];try rfl,rfl⟩):p:=h
theorem bc(k:q)(h:Hk q→p:=by intro qk;refine R.buildSl jU jS jZ ?_;exact qk.h):p:=h ⟨k⟩
theorem yd(h:p:=by exact A5 (Ap (Ai jA jS)) ⟨by rw [hm];try rfl,rfl⟩):p:=h
theorem ye(k:q)(h:Hk q→p:=by intro qk;refine Y.alloc (zs:=[A6 0,A6 0,Ah []]) (n:=1) (u:=Hp.length) Tryz.zeroValue23 (fun B hT hF hB=>⟨rfl,by simp [hB],by simp [upd,hB,hF 1 (by simp)],rfl⟩) ?_;exact qk.h):p:=h ⟨k⟩
theorem im(k:q)(h:Hk q→p:=by intro qk;refine A2 [2,6,13,14,15] ?_;exact qk.h):p:=h ⟨k⟩
theorem uu(h:p:=by exact A5 (Ab A3 A3) ⟨by rw [hk],rfl⟩):p:=h
theorem yf(h:p:=by exact A5 (Ab A3 A3) ⟨by rw [hk,hk2],rfl⟩):p:=h
theorem io(h:p:=by exact hcmp _ rfl rfl hf):p:=h
theorem md(h:p:=by exact har _ rfl rfl rfl hf):p:=h
theorem uv(h:p:=by exact ⟨noV,Fc h.1 h2,by rw [hz,hy,h.2];exact zm⟩):p:=h
theorem yg(k:q)(h:Hk q→p:=by intro qk;refine K.rdN (by first|exact ly hL (Dr (by decide)) (Dr (by decide))|exact Ar hL) ?_;exact qk.h):p:=h ⟨k⟩
theorem yh(h:p:=by exact A5 (Ab A3 A3) ⟨by rw [hsh]<;>rfl,rfl⟩):p:=h
theorem yi(h:p:=by exact (Tm (c:=[]) (l:=[]) (fun v hv=>by cases hv) ((Ba _ _).1 hn0.2 _ hin) ((Ba _ _).1 hx0.2 _ hin) h).2.2):p:=h
theorem uw(h:p:=by exact A5 (Ap A3) ⟨by simp,rfl⟩):p:=h
theorem yj(h:p:=by exact A5 (Ap (Ai jA jS)) ⟨by first|exact vx (by simp_all [Dg])|exact ny (by simp_all [Dg])|exact vy (by simp_all [Dg]),rfl⟩):p:=h
theorem yl(h:p:=by exact A5 (Ap (Ai jA jS)) ⟨by first|exact ny (by simp_all [Cn]),rfl⟩):p:=h
theorem me(h:p:=by exact A5 (Ab (Ai jA jS) A3) ⟨by rw [hm];try rfl,rfl⟩):p:=h
theorem qj(h:p:=by exact A5 (Ap A3) ⟨by rw [hm],rfl⟩):p:=h
theorem ym(h:p:=by exact A5 (Ap A3) ⟨by simp_all [C1,Kl],rfl⟩):p:=h
theorem ux(h:p:=by exact A5 (Ab A3 A3) ⟨by rw [hm],rfl⟩):p:=h
end Go.SX.Nb
namespace Go.SX.Nb
open Go Go.SX Go.Proofs
@[reducible,instance] def JA2:=JA.mk (P:=Tryz.prog) Tryz.isAgg2
@[reducible,instance] def JA3:=JA.mk (P:=Tryz.prog) Tryz.isAgg3
@[reducible,instance] def JA4:=JA.mk (P:=Tryz.prog) Tryz.isAgg4
@[reducible,instance] def JA9:=JA.mk (P:=Tryz.prog) Tryz.isAgg9
@[reducible,instance] def ADx:=JA.mk (P:=Tryz.prog) Tryz.isAgg23
@[reducible,instance] def ADy:=JA.mk (P:=Tryz.prog) Tryz.isAgg24
@[reducible,instance] def ADz:=JA.mk (P:=Tryz.prog) Tryz.isAgg26
@[reducible,instance] def AE0:=JA.mk (P:=Tryz.prog) Tryz.isAgg27
@[reducible,instance] def AE1:=JA.mk (P:=Tryz.prog) Tryz.isAgg28
@[reducible,instance] def AE2:=JA.mk (P:=Tryz.prog) Tryz.isAgg35
@[reducible,instance] def AE3:=JA.mk (P:=Tryz.prog) Tryz.isAgg41
@[reducible,instance] def AE4:=JA.mk (P:=Tryz.prog) Tryz.isAgg45
@[reducible,instance] def AE5:=JA.mk (P:=Tryz.prog) Tryz.isAgg69
@[reducible,instance] def AE6:=JA.mk (P:=Tryz.prog) Tryz.isAgg83
@[reducible,instance] def AD7:=JA.mk (P:=Tryz.prog) Tryz.isAgg107
@[reducible,instance] def AD8:=JA.mk (P:=Tryz.prog) Tryz.isAgg113
@[reducible,instance] def AD9:=JA.mk (P:=Tryz.prog) Tryz.isAgg128
@[reducible,instance] def ADa:=JA.mk (P:=Tryz.prog) Tryz.isAgg130
@[reducible,instance] def ADb:=JA.mk (P:=Tryz.prog) Tryz.isAgg135
@[reducible,instance] def ADc:=JA.mk (P:=Tryz.prog) Tryz.isAgg169
@[reducible,instance] def JS2:=JS.mk (P:=Tryz.prog) Tryz.sizeOf2
@[reducible,instance] def JS3:=JS.mk (P:=Tryz.prog) Tryz.sizeOf3
@[reducible,instance] def JS4:=JS.mk (P:=Tryz.prog) Tryz.sizeOf4
@[reducible,instance] def JS9:=JS.mk (P:=Tryz.prog) Tryz.sizeOf9
@[reducible,instance] def AE7:=JS.mk (P:=Tryz.prog) Tryz.sizeOf23
@[reducible,instance] def AE8:=JS.mk (P:=Tryz.prog) Tryz.sizeOf24
@[reducible,instance] def AE9:=JS.mk (P:=Tryz.prog) Tryz.sizeOf26
@[reducible,instance] def AEa:=JS.mk (P:=Tryz.prog) Tryz.sizeOf27
@[reducible,instance] def AEb:=JS.mk (P:=Tryz.prog) Tryz.sizeOf28
@[reducible,instance] def AEc:=JS.mk (P:=Tryz.prog) Tryz.sizeOf35
@[reducible,instance] def AEd:=JS.mk (P:=Tryz.prog) Tryz.sizeOf41
@[reducible,instance] def AEe:=JS.mk (P:=Tryz.prog) Tryz.sizeOf45
@[reducible,instance] def AEf:=JS.mk (P:=Tryz.prog) Tryz.sizeOf69
@[reducible,instance] def AEg:=JS.mk (P:=Tryz.prog) Tryz.sizeOf83
@[reducible,instance] def ADd:=JS.mk (P:=Tryz.prog) Tryz.sizeOf107
@[reducible,instance] def ADe:=JS.mk (P:=Tryz.prog) Tryz.sizeOf113
@[reducible,instance] def ADf:=JS.mk (P:=Tryz.prog) Tryz.sizeOf118
@[reducible,instance] def ADg:=JS.mk (P:=Tryz.prog) Tryz.sizeOf128
@[reducible,instance] def ADh:=JS.mk (P:=Tryz.prog) Tryz.sizeOf130
@[reducible,instance] def ADi:=JS.mk (P:=Tryz.prog) Tryz.sizeOf135
@[reducible,instance] def JU2:=JU.mk (P:=Tryz.prog) Tryz.underlying2
@[reducible,instance] def JU3:=JU.mk (P:=Tryz.prog) Tryz.underlying3
@[reducible,instance] def JU4:=JU.mk (P:=Tryz.prog) Tryz.underlying4
@[reducible,instance] def JU5:=JU.mk (P:=Tryz.prog) Tryz.underlying5
@[reducible,instance] def JU9:=JU.mk (P:=Tryz.prog) Tryz.underlying9
@[reducible,instance] def AEh:=JU.mk (P:=Tryz.prog) Tryz.underlying23
@[reducible,instance] def AEi:=JU.mk (P:=Tryz.prog) Tryz.underlying24
@[reducible,instance] def AEj:=JU.mk (P:=Tryz.prog) Tryz.underlying26
@[reducible,instance] def AEk:=JU.mk (P:=Tryz.prog) Tryz.underlying27
@[reducible,instance] def AEl:=JU.mk (P:=Tryz.prog) Tryz.underlying28
@[reducible,instance] def AEm:=JU.mk (P:=Tryz.prog) Tryz.underlying34
@[reducible,instance] def AEn:=JU.mk (P:=Tryz.prog) Tryz.underlying41
@[reducible,instance] def AEo:=JU.mk (P:=Tryz.prog) Tryz.underlying45
@[reducible,instance] def AEp:=JU.mk (P:=Tryz.prog) Tryz.underlying69
@[reducible,instance] def AEq:=JU.mk (P:=Tryz.prog) Tryz.underlying83
@[reducible,instance] def ADj:=JU.mk (P:=Tryz.prog) Tryz.underlying107
@[reducible,instance] def ADk:=JU.mk (P:=Tryz.prog) Tryz.underlying113
@[reducible,instance] def ADl:=JU.mk (P:=Tryz.prog) Tryz.underlying120
@[reducible,instance] def ADm:=JU.mk (P:=Tryz.prog) Tryz.underlying128
@[reducible,instance] def ADn:=JU.mk (P:=Tryz.prog) Tryz.underlying130
@[reducible,instance] def ADo:=JU.mk (P:=Tryz.prog) Tryz.underlying135
@[reducible,instance] def ADp:=JU.mk (P:=Tryz.prog) Tryz.underlying171
@[reducible,instance] def ADq:=JU.mk (P:=Tryz.prog) Tryz.underlying233
@[reducible,instance] def JZ3:=JZ.mk (P:=Tryz.prog) Tryz.zeroValue3
@[reducible,instance] def JZ4:=JZ.mk (P:=Tryz.prog) Tryz.zeroValue4
@[reducible,instance] def JZ9:=JZ.mk (P:=Tryz.prog) Tryz.zeroValue9
@[reducible,instance] def AEr:=JZ.mk (P:=Tryz.prog) Tryz.zeroValue23
@[reducible,instance] def AEs:=JZ.mk (P:=Tryz.prog) Tryz.zeroValue26
@[reducible,instance] def AEt:=JZ.mk (P:=Tryz.prog) Tryz.zeroValue41
@[reducible,instance] def AEu:=JZ.mk (P:=Tryz.prog) Tryz.zeroValue45
@[reducible,instance] def AEv:=JZ.mk (P:=Tryz.prog) Tryz.zeroValue69
@[reducible,instance] def AEw:=JZ.mk (P:=Tryz.prog) Tryz.zeroValue83
@[reducible,instance] def ADr:=JZ.mk (P:=Tryz.prog) Tryz.zeroValue107
@[reducible,instance] def ADs:=JZ.mk (P:=Tryz.prog) Tryz.zeroValue113
@[reducible,instance] def ADt:=JZ.mk (P:=Tryz.prog) Tryz.zeroValue120
@[reducible,instance] def ADu:=JZ.mk (P:=Tryz.prog) Tryz.zeroValue130
@[reducible,instance] def ADv:=JZ.mk (P:=Tryz.prog) Tryz.zeroValue135
@[reducible,instance] def ADw:=JZ.mk (P:=Tryz.prog) Tryz.zeroValue171
end Go.SX.Nb
