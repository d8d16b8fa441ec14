/- On the way (part 3). -/
import Derived.Test.YtdjhkihdmiednaaGreatDoorProg
import Derived.Test.YtdjhkihdmiednaaGreatDoorLoadCallsCardSaidPart2
set_option linter.all false
namespace Go.SX.Nb
open Go Go.SX Go.Proofs
structure Hk (q:Prop):Prop where h:q
variable {p q:Prop}
theorem Z0(k:q)(h:Hk q→p:=by intro qk;refine A4 ?_;refine A4 ?_;exact qk.h):p:=h ⟨k⟩
theorem Z1(k:q)(h:Hk q→p:=by intro qk;refine Df ?_;refine Z0 ?_;exact qk.h):p:=h ⟨k⟩
theorem Z2(k:q)(h:Hk q→p:=by intro qk;refine Df ?_;refine A4 ?_;exact qk.h):p:=h ⟨k⟩
theorem Z3(k:q)(h:Hk q→p:=by intro qk;refine B9 ?_;refine B9 ?_;exact qk.h):p:=h ⟨k⟩
theorem Z4(k:q)(h:Hk q→p:=by intro qk;refine A2 [2] ?_;refine Dg ?_;exact qk.h):p:=h ⟨k⟩
theorem Z5(k:q)(h:Hk q→p:=by intro qk;refine G4 ?_;refine G6 ?_;exact qk.h):p:=h ⟨k⟩
theorem Z6(k:q)(h:Hk q→p:=by intro qk;refine Z0 ?_;refine A4 ?_;exact qk.h):p:=h ⟨k⟩
theorem Z7(k:q)(h:Hk q→p:=by intro qk;refine W.seq ?_;refine Z1 ?_;exact qk.h):p:=h ⟨k⟩
theorem Z8(k:q)(h:Hk q→p:=by intro qk;refine I1 jZ ?_;refine Fu ?_;exact qk.h):p:=h ⟨k⟩
theorem Z9(h:p:=by refine Dn ?_;exact A9 .nores (hp:=⟨rfl,by first|(rw [e];exact (S6 hne ho hoq).symm)|(rw [e];exact (Bv (bx hne hoq)).symm)|(rw [e];simp only [Ba];exact (Bv (bx hne hoq)).symm)|(rw [e];simp only [Ba];rw [gq hne];rfl)|(rw [e];simp only [Ba];rw [Ij _ _ hne];rfl)⟩)):p:=h
theorem Z10(k:q)(h:Hk q→p:=by intro qk;refine K.blR ?_;refine Dn ?_;exact qk.h):p:=h ⟨k⟩
theorem Z11(k:q)(h:Hk q→p:=by intro qk;refine Bb ?_;refine Bb ?_;exact qk.h):p:=h ⟨k⟩
theorem Z12(k:q)(h:Hk q→p:=by intro qk;refine F8 ?_;refine G6 ?_;exact qk.h):p:=h ⟨k⟩
theorem Z13(k:q)(h:Hk q→p:=by intro qk;refine A2 [4] ?_;refine Dg ?_;exact qk.h):p:=h ⟨k⟩
theorem Z14(k:q)(h:Hk q→p:=by intro qk;refine W.seq ?_;refine Gy ?_;exact qk.h):p:=h ⟨k⟩
theorem Z15(k:q)(h:Hk q→p:=by intro qk;refine Z0 ?_;refine Z3 ?_;exact qk.h):p:=h ⟨k⟩
theorem Z16(k:q)(h:Hk q→p:=by intro qk;refine Z1 ?_;refine A4 ?_;exact qk.h):p:=h ⟨k⟩
theorem Z17(k:q)(h:Hk q→p:=by intro qk;refine Z12 ?_;refine Jb ?_;exact qk.h):p:=h ⟨k⟩
theorem Z18(k:q)(h:Hk q→p:=by intro qk;refine Df ?_;refine I1 jZ ?_;exact qk.h):p:=h ⟨k⟩
theorem Z19(k:q)(h:Hk q→p:=by intro qk;refine W.seq ?_;refine Z2 ?_;exact qk.h):p:=h ⟨k⟩
theorem Z20(k:q)(h:Hk q→p:=by intro qk;refine A2 [2,3] ?_;refine Dg ?_;exact qk.h):p:=h ⟨k⟩
theorem Z21(k:q)(h:Hk q→p:=by intro qk;refine Z1 ?_;refine Z0 ?_;exact qk.h):p:=h ⟨k⟩
theorem Z22(k:q)(h:Hk q→p:=by intro qk;refine Fu ?_;refine Z4 ?_;exact qk.h):p:=h ⟨k⟩
theorem Z23(k:q)(h:Hk q→p:=by intro qk;refine K.lpE ?_;refine G6 ?_;exact qk.h):p:=h ⟨k⟩
theorem Z24(k:q)(h:Hk q→p:=by intro qk;refine Z15 ?_;refine Z3 ?_;exact qk.h):p:=h ⟨k⟩
theorem Z26(k:q)(h:Hk q→p:=by intro qk;refine Df ?_;refine V1 ?_;exact qk.h):p:=h ⟨k⟩
theorem Z27(k:q)(h:Hk q→p:=by intro qk;refine Jb ?_;refine A4 ?_;exact qk.h):p:=h ⟨k⟩
theorem Z28(k:q)(h:Hk q→p:=by intro qk;refine Dg ?_;refine Dn ?_;exact qk.h):p:=h ⟨k⟩
theorem Z29(k:q)(h:Hk q→p:=by intro qk;refine AW.exit ?_;refine K.thE ?_;exact qk.h):p:=h ⟨k⟩
theorem Z30(k:q)(h:Hk q→p:=by intro qk;refine Z7 ?_;refine A4 ?_;exact qk.h):p:=h ⟨k⟩
theorem Z31(k:q)(h:Hk q→p:=by intro qk;refine Z2 ?_;refine A2 [0] ?_;exact qk.h):p:=h ⟨k⟩
theorem Z32(k:q)(h:Hk q→p:=by intro qk;refine Z2 ?_;refine Bf Tryz.call244 ho (by simp) C3 (gb l S o _ (An ho) hi hll) ?_;exact qk.h):p:=h ⟨k⟩
theorem Z33(k:q)(h:Hk q→p:=by intro qk;refine Z0 ?_;refine Z6 ?_;exact qk.h):p:=h ⟨k⟩
theorem Z34(k:q)(h:Hk q→p:=by intro qk;refine Z11 ?_;refine Bb ?_;exact qk.h):p:=h ⟨k⟩
theorem Z35(k:q)(h:Hk q→p:=by intro qk;refine G4 ?_;refine Z17 ?_;exact qk.h):p:=h ⟨k⟩
theorem Z36(k:q)(h:Hk q→p:=by intro qk;refine Z7 ?_;refine Z0 ?_;exact qk.h):p:=h ⟨k⟩
theorem Z37(h:p:=by refine Bb ?_;exact D.end rfl rfl):p:=h
theorem Z38(h:p:=by refine A2 [] ?_;exact L2 .nores (hp:=⟨rfl,by first|(rw [e];exact (S6 hne ho hoq).symm)|(rw [e];exact (Bv (bx hne hoq)).symm)|(rw [e];simp only [Ba];exact (Bv (bx hne hoq)).symm)|(rw [e];simp only [Ba];rw [gq hne];rfl)|(rw [e];simp only [Ba];rw [Ij _ _ hne];rfl)⟩)):p:=h
theorem Z39(k:q)(h:Hk q→p:=by intro qk;refine Z2 ?_;refine A2 [0,1] ?_;exact qk.h):p:=h ⟨k⟩
theorem Z40(k:q)(h:Hk q→p:=by intro qk;refine Dg ?_;refine Z10 ?_;exact qk.h):p:=h ⟨k⟩
theorem Z41(k:q)(h:Hk q→p:=by intro qk;refine Jb ?_;refine Z0 ?_;exact qk.h):p:=h ⟨k⟩
theorem Z42(k:q)(h:Hk q→p:=by intro qk;refine K.lpR ?_;refine Dn ?_;exact qk.h):p:=h ⟨k⟩
theorem Z43(h:p:=by refine Dn ?_;exact A9 (Af (B3 jA jS)) ⟨by rw [e,Ao],by rw [e]⟩ (hlow:=low_agg _)):p:=h
theorem Z44(h:p:=by refine Z4 ?_;exact ar):p:=h
theorem Z45(k:q)(h:Hk q→p:=by intro qk;refine Z2 ?_;refine Z4 ?_;exact qk.h):p:=h ⟨k⟩
theorem Z47(k:q)(h:Hk q→p:=by intro qk;refine Fu ?_;refine A4 ?_;exact qk.h):p:=h ⟨k⟩
theorem Z48(k:q)(h:Hk q→p:=by intro qk;refine Fu ?_;refine A2 [6] ?_;exact qk.h):p:=h ⟨k⟩
theorem Z49(k:q)(h:Hk q→p:=by intro qk;refine ov ?_;refine Et (tn:=[5])  ?_;exact qk.h):p:=h ⟨k⟩
theorem Z50(k:q)(h:Hk q→p:=by intro qk;refine Z18 ?_;refine A2 [0,2] ?_;exact qk.h):p:=h ⟨k⟩
theorem Z51(k:q)(h:Hk q→p:=by intro qk;refine Z5 ?_;refine Z14 ?_;exact qk.h):p:=h ⟨k⟩
theorem Z52(k:q)(h:Hk q→p:=by intro qk;refine B9 ?_;refine Z24 ?_;exact qk.h):p:=h ⟨k⟩
theorem Z53(k:q)(h:Hk q→p:=by intro qk;refine W.seq ?_;refine Df ?_;exact qk.h):p:=h ⟨k⟩
theorem Z54(k:q)(h:Hk q→p:=by intro qk;refine Z1 ?_;refine en ?_;exact qk.h):p:=h ⟨k⟩
theorem Z55(k:q)(h:Hk q→p:=by intro qk;refine G4 ?_;refine Z12 ?_;exact qk.h):p:=h ⟨k⟩
theorem Z56(k:q)(h:Hk q→p:=by intro qk;refine Jb ?_;refine R.moveT ?_;exact qk.h):p:=h ⟨k⟩
theorem Z57(k:q)(h:Hk q→p:=by intro qk;refine B9 ?_;refine A4 ?_;exact qk.h):p:=h ⟨k⟩
theorem Z58(k:q)(h:Hk q→p:=by intro qk;refine Jb ?_;refine Z6 ?_;exact qk.h):p:=h ⟨k⟩
theorem Z59(k:q)(h:Hk q→p:=by intro qk;refine Z29 ?_;refine Z23 ?_;exact qk.h):p:=h ⟨k⟩
theorem Z60(h:p:=by refine Z11 ?_;exact D.end rfl rfl):p:=h
theorem Z61(k:q)(h:Hk q→p:=by intro qk;refine Z10 ?_;refine Z42 ?_;exact qk.h):p:=h ⟨k⟩
theorem Z62(k:q)(h:Hk q→p:=by intro qk;refine H.go ?_;refine H.go ?_;exact qk.h):p:=h ⟨k⟩
theorem Z63(h:p:=by refine K.thJ ?_;exact C1 (by simp [*])):p:=h
theorem Z64(k:q)(h:Hk q→p:=by intro qk;refine Z0 ?_;refine Z4 ?_;exact qk.h):p:=h ⟨k⟩
theorem Z65(h:p:=by refine Z20 ?_;exact A9 (Cr (B3 jA jS) (B3 jA jS)) ⟨by rw [e]<;>rfl,rfl⟩ (hlow:=by have:=kb (n:=Hp.length) (q:=(r3Q (B4 s).1).1);simp at this ⊢;exact this)):p:=h
theorem Z66(k:q)(h:Hk q→p:=by intro qk;refine Z0 ?_;refine Z0 ?_;exact qk.h):p:=h ⟨k⟩
theorem Z68(k:q)(h:Hk q→p:=by intro qk;refine Z2 ?_;refine Z13 ?_;exact qk.h):p:=h ⟨k⟩
theorem Z69(k:q)(h:Hk q→p:=by intro qk;refine Z19 ?_;refine m5 ?_;exact qk.h):p:=h ⟨k⟩
theorem Z70(k:q)(h:Hk q→p:=by intro qk;refine Df ?_;refine R.buildLe (Bz (De)) (show Le _ (Bz (De)) from Hj (.inr ⟨rfl,rfl⟩)) (places:=#[(0,1),(1,1),(2,1),(3,9),(12,1),(13,1),(14,1)]) jU (fun w=>by simp) Tryz.zeroValue42 ?_;exact qk.h):p:=h ⟨k⟩
theorem Z71(h:p:=by refine Dn ?_;exact A9 (Cr (B3 jA jS) (B3 jA jS)) ⟨by rw [e]<;>rfl,rfl⟩):p:=h
theorem Z72(h:p:=by refine D.buildSlice jU jS jZ ?_;exact D.end rfl rfl):p:=h
theorem Z73(k:q)(h:Hk q→p:=by intro qk;refine Z5 ?_;refine Z2 ?_;exact qk.h):p:=h ⟨k⟩
theorem Z74(k:q)(h:Hk q→p:=by intro qk;refine A4 ?_;refine O5 ?_;exact qk.h):p:=h ⟨k⟩
theorem Z75(k:q)(h:Hk q→p:=by intro qk;refine Fu ?_;refine Z13 ?_;exact qk.h):p:=h ⟨k⟩
theorem Z76(h:p:=by refine Z75 ?_;exact A9 (Af (B3 jA jS)) ⟨by rw [hm];simp only [hdd]<;>rfl,by rw [hm]<;>(try rw [Ba])<;>rfl⟩ (hlow:=by simp [or_imp,forall_and])):p:=h
theorem Z77(k:q)(h:Hk q→p:=by intro qk;refine Z35 ?_;refine Z6 ?_;exact qk.h):p:=h ⟨k⟩
theorem Z78(h:p:=by refine Z75 ?_;exact A9 (Af (B3 jA jS)) ⟨by simp at ht8 ht16 ht22;simp [Fp,ht8,ht16,ht22],by simp at ht8 ht16 ht22;simp [Fp,ht8,ht16,ht22]⟩):p:=h
theorem Z79(k:q)(h:Hk q→p:=by intro qk;refine Df ?_;refine Jk (places:=#[(0,1),(1,1),(2,6),(8,1)]) jU (fun w=>by simp) jZ ?_;exact qk.h):p:=h ⟨k⟩
theorem Z80(k:q)(h:Hk q→p:=by intro qk;refine Df ?_;refine en ?_;exact qk.h):p:=h ⟨k⟩
theorem Z81(k:q)(h:Hk q→p:=by intro qk;refine Df ?_;refine O5 ?_;exact qk.h):p:=h ⟨k⟩
theorem Z82(k:q)(h:Hk q→p:=by intro qk;refine Z5 ?_;refine Z19 ?_;exact qk.h):p:=h ⟨k⟩
theorem Z83(k:q)(h:Hk q→p:=by intro qk;refine Z1 ?_;refine A2 [1] ?_;exact qk.h):p:=h ⟨k⟩
theorem Z84(k:q)(h:Hk q→p:=by intro qk;refine Ab Tryz.call246 (se l S o _ (An ho) hi) ?_;refine Z8 ?_;exact qk.h):p:=h ⟨k⟩
theorem Z85(k:q)(h:Hk q→p:=by intro qk;refine en ?_;refine Z22 ?_;exact qk.h):p:=h ⟨k⟩
theorem Z86(h:p:=by refine K.thJ ?_;exact C1 (by rw [e]<;>rfl)):p:=h
theorem Z87(k:q)(h:Hk q→p:=by intro qk;refine m4 ?_;refine Fu ?_;exact qk.h):p:=h ⟨k⟩
theorem Z88(k:q)(h:Hk q→p:=by intro qk;refine Z0 ?_;refine B9 ?_;exact qk.h):p:=h ⟨k⟩
theorem Z89(h:p:=by refine A2 [] ?_;exact pa):p:=h
theorem Z90(k:q)(h:Hk q→p:=by intro qk;refine I1 jZ ?_;refine A4 ?_;exact qk.h):p:=h ⟨k⟩
theorem Z91(k:q)(h:Hk q→p:=by intro qk;refine A2 [4,5] ?_;refine Dg ?_;exact qk.h):p:=h ⟨k⟩
theorem Z92(h:p:=by refine G4 ?_;exact pa):p:=h
theorem Z93(h:p:=by refine Z40 ?_;exact m7):p:=h
theorem Z94(h:p:=by refine Z13 ?_;exact A9 (Af A7) ⟨rfl,by first|(rw [e];done)|(rw [e];rfl)|(rw [e];exact (Bv ho).symm)⟩):p:=h
theorem Z95(k:q)(h:Hk q→p:=by intro qk;refine A2 [1,2,4,6,16] ?_;refine Gy ?_;exact qk.h):p:=h ⟨k⟩
theorem Z96(h:p:=by refine Z91 ?_;exact m7):p:=h
theorem Z97(k:q)(h:Hk q→p:=by intro qk;refine Gy ?_;refine Z1 ?_;exact qk.h):p:=h ⟨k⟩
theorem Z98(h:p:=by refine K.thJ ?_;exact C1 (by rw [e])):p:=h
theorem Z99(h:p:=by refine Z11 ?_;exact Z60):p:=h
theorem Us(h:p:=by refine Z64 ?_;refine Z10 ?_;exact p9):p:=h
theorem dv(k:q)(h:Hk q→p:=by intro qk;refine Z7 ?_;refine A2 [1,2,4,6,16,17] ?_;exact qk.h):p:=h ⟨k⟩
theorem Qy(k:q)(h:Hk q→p:=by intro qk;refine Z15 ?_;refine B9 ?_;exact qk.h):p:=h ⟨k⟩
theorem np(k:q)(h:Hk q→p:=by intro qk;refine Fu ?_;refine A2 [0,1,6,7,10] ?_;exact qk.h):p:=h ⟨k⟩
theorem Ut(k:q)(h:Hk q→p:=by intro qk;refine Z14 ?_;refine Df ?_;exact qk.h):p:=h ⟨k⟩
theorem Uu(k:q)(h:Hk q→p:=by intro qk;refine Bb ?_;refine In ?_;exact qk.h):p:=h ⟨k⟩
theorem Uv(k:q)(h:Hk q→p:=by intro qk;refine Z0 ?_;refine Z13 ?_;exact qk.h):p:=h ⟨k⟩
theorem nq(h:p:=by refine Z68 ?_;exact A9 (Af A7) ⟨by rw [Xa (Ib (by simp at ht9;omega) hx.2)],rfl⟩):p:=h
theorem lq(h:p:=by refine Z68 ?_;exact A9 (Af A7) ⟨by simp,rfl⟩):p:=h
theorem dw(k:q)(h:Hk q→p:=by intro qk;refine X9 ?_;refine Dg ?_;exact qk.h):p:=h ⟨k⟩
theorem nr(h:p:=by refine D.build (places:=#[(0,1),(1,1),(2,6),(8,1)]) jU (fun w=>by simp) jZ ?_;exact Z99):p:=h
theorem dx(k:q)(h:Hk q→p:=by intro qk;refine X9 ?_;refine Z40 ?_;exact qk.h):p:=h ⟨k⟩
theorem T9(k:q)(h:Hk q→p:=by intro qk;refine Z51 ?_;refine Z1 ?_;exact qk.h):p:=h ⟨k⟩
theorem ns(h:p:=by refine D.build (places:=#[(0,1),(1,1)]) jU (fun w=>by simp) jZ ?_;exact D.end rfl rfl):p:=h
theorem Uw(k:q)(h:Hk q→p:=by intro qk;refine Z62 ?_;refine H.go ?_;exact qk.h):p:=h ⟨k⟩
theorem al(k:q)(h:Hk q→p:=by intro qk;refine Z16 ?_;refine A2 [2,3] ?_;exact qk.h):p:=h ⟨k⟩
theorem ic(k:q)(h:Hk q→p:=by intro qk;refine A2 [1,2,4,6,16,17] ?_;refine G6 ?_;exact qk.h):p:=h ⟨k⟩
theorem X3(h:p:=by refine Z0 ?_;exact Z44):p:=h
theorem X4(k:q)(h:Hk q→p:=by intro qk;refine Z7 ?_;refine Z6 ?_;exact qk.h):p:=h ⟨k⟩
theorem lr(h:p:=by refine Z22 ?_;exact A9 (Af (B3 jA jS))):p:=h
theorem ls(k:q)(h:Hk q→p:=by intro qk;refine Y.allocP Tryz.zeroValue102 ?_;refine Y.storeP Tryz.sizeOf102 ?_;exact qk.h):p:=h ⟨k⟩
theorem lu(k:q)(h:Hk q→p:=by intro qk;refine A2 [3,6,7,8] ?_;refine el ?_;exact qk.h):p:=h ⟨k⟩
theorem dy(k:q)(h:Hk q→p:=by intro qk;refine A2 [1,2,4] ?_;refine Z16 ?_;refine A2 [1,2,4,6] ?_;exact qk.h):p:=h ⟨k⟩
theorem Ux(k:q)(h:Hk q→p:=by intro qk;refine Z47 ?_;refine Z20 ?_;exact qk.h):p:=h ⟨k⟩
theorem Uy(k:q)(h:Hk q→p:=by intro qk;refine Z3 ?_;refine A4 ?_;exact qk.h):p:=h ⟨k⟩
theorem Uz(k:q)(h:Hk q→p:=by intro qk;refine Z35 ?_;refine Z0 ?_;exact qk.h):p:=h ⟨k⟩
theorem dz(k:q)(h:Hk q→p:=by intro qk;refine Fu ?_;refine Z20 ?_;exact qk.h):p:=h ⟨k⟩
theorem am(k:q)(h:Hk q→p:=by intro qk;refine Z2 ?_;refine A2 [6] ?_;exact qk.h):p:=h ⟨k⟩
theorem nt(h:p:=by refine Ta ?_;exact m6):p:=h
theorem an(k:q)(h:Hk q→p:=by intro qk;refine Df ?_;refine R.box ?_;exact qk.h):p:=h ⟨k⟩
theorem ie(k:q)(h:Hk q→p:=by intro qk;refine Fu ?_;refine A2 [4,5] ?_;exact qk.h):p:=h ⟨k⟩
theorem nu(h:p:=by refine Z45 ?_;exact p9):p:=h
theorem nv(h:p:=by refine K.thJ ?_;exact C1 (by simp at ht40;simp [bg,ht40])):p:=h
theorem nw(h:p:=by refine K.thJ ?_;exact C1 (by simp at ht46;simp [nOf,ht46])):p:=h
theorem nx(h:p:=by refine Z28 ?_;exact A9 (Cr A7 A7) ⟨by rw [hm]<;>rfl,rfl⟩):p:=h
theorem ny(h:p:=by refine K.thJ ?_;exact C1 (by simp only [h0,if_true,if_false])):p:=h
theorem nz(h:p:=by refine Z22 ?_;exact A9 (Af (B3 jA jS)) ⟨by simp [ht5],rfl⟩):p:=h
theorem o0(k:q)(h:Hk q→p:=by intro qk;refine Z16 ?_;refine Bf Tryz.call224 ho (by simp) C3 (bn l S 8 (Ae l S.i).at_ o _ (An ho)) ?_;exact qk.h):p:=h ⟨k⟩
theorem ea(k:q)(h:Hk q→p:=by intro qk;refine Gy ?_;refine Df ?_;exact qk.h):p:=h ⟨k⟩
theorem o4(h:p:=by refine G4 ?_;exact Z63):p:=h
theorem lv(h:p:=by refine F9 [0,1,2,6,7,12,13] ?_;exact o4):p:=h
theorem lw(h:p:=by refine Uv ?_;exact ar):p:=h
theorem X5(k:q)(h:Hk q→p:=by intro qk;refine A4 ?_;refine Z8 ?_;exact qk.h):p:=h ⟨k⟩
theorem o5(h:p:=by refine Z28 ?_;exact A9 (Af A7) ⟨by rw [hm]<;>rfl,rfl⟩):p:=h
theorem o6(h:p:=by refine Uv ?_;exact A9 (Af A7) ⟨by simp [Vs],rfl⟩):p:=h
theorem o7(h:p:=by refine Z1 ?_;refine Z4 ?_;exact A9 (Af A7) ⟨by unfold Cj Ff;simp [*],rfl⟩):p:=h
theorem X6(k:q)(h:Hk q→p:=by intro qk;refine Z6 ?_;refine Z8 ?_;refine A4 ?_;exact qk.h):p:=h ⟨k⟩
theorem ig(k:q)(h:Hk q→p:=by intro qk;refine X9 ?_;refine Z28 ?_;exact qk.h):p:=h ⟨k⟩
theorem o8(k:q)(h:Hk q→p:=by intro qk;refine Hf [0,1,3,7,15,3,35,99,255,511,1023] 8 Av (by kernel_rfl) ?_;refine Z11 ?_;exact qk.h):p:=h ⟨k⟩
theorem eb(k:q)(h:Hk q→p:=by intro qk;refine G4 ?_;refine F8 ?_;exact qk.h):p:=h ⟨k⟩
theorem X7(k:q)(h:Hk q→p:=by intro qk;refine Z3 ?_;refine B9 ?_;exact qk.h):p:=h ⟨k⟩
theorem ec(k:q)(h:Hk q→p:=by intro qk;refine Z1 ?_;refine A2 [0,1] ?_;exact qk.h):p:=h ⟨k⟩
theorem X8(k:q)(h:Hk q→p:=by intro qk;refine Z17 ?_;refine Z0 ?_;exact qk.h):p:=h ⟨k⟩
theorem ap(k:q)(h:Hk q→p:=by intro qk;refine Z45 ?_;refine Dn ?_;exact qk.h):p:=h ⟨k⟩
theorem ii(k:q)(h:Hk q→p:=by intro qk;refine Z18 ?_;refine A2 [0,1,2,6] ?_;exact qk.h):p:=h ⟨k⟩
theorem ee(k:q)(h:Hk q→p:=by intro qk;refine Z81 ?_;refine G5 ?_;exact qk.h):p:=h ⟨k⟩
theorem ij(k:q)(h:Hk q→p:=by intro qk;refine X4 ?_;refine A2 [0,1,10] ?_;exact qk.h):p:=h ⟨k⟩
theorem ik(k:q)(h:Hk q→p:=by intro qk;refine A2 [2,3,6,7] ?_;refine Z2 ?_;exact qk.h):p:=h ⟨k⟩
theorem il(h:p:=by refine A4 ?_;refine A2 [3] ?_;refine Z12 ?_;exact o7):p:=h
theorem lx(k:q)(h:Hk q→p:=by intro qk;refine A4 ?_;refine Ab Tryz.call148 (s8 e _) ?_;exact qk.h):p:=h ⟨k⟩
theorem o9(k:q)(h:Hk q→p:=by intro qk;refine Bh Tryz.call195 (fun hB=>pi e.text Rm hs (by decide) _) ?_;refine Z24 ?_;exact qk.h):p:=h ⟨k⟩
theorem ef(k:q)(h:Hk q→p:=by intro qk;refine Fu ?_;refine A2 [0,1,2,3,9,10,13] ?_;refine F8 ?_;exact qk.h):p:=h ⟨k⟩
theorem eg(k:q)(h:Hk q→p:=by intro qk;refine Z21 ?_;refine A2 [0] ?_;exact qk.h):p:=h ⟨k⟩
theorem im(k:q)(h:Hk q→p:=by intro qk;refine A4 ?_;refine A2 [0,1,9] ?_;exact qk.h):p:=h ⟨k⟩
theorem lz(k:q)(h:Hk q→p:=by intro qk;refine Z1 ?_;refine A2 [0,1,2,6,7,12,13] ?_;exact qk.h):p:=h ⟨k⟩
theorem io(k:q)(h:Hk q→p:=by intro qk;refine Z33 ?_;refine Fu ?_;exact qk.h):p:=h ⟨k⟩
theorem oa(k:q)(h:Hk q→p:=by intro qk;refine Z2 ?_;refine V1 ?_;exact qk.h):p:=h ⟨k⟩
theorem ip(h:p:=by refine A4 ?_;exact Z44):p:=h
theorem ob(k:q)(h:Hk q→p:=by intro qk;refine Z51 ?_;refine Hf [0,0,3,7,0,0,48,112,255] 8 Av (by kernel_rfl) ?_;exact qk.h):p:=h ⟨k⟩
theorem m0(k:q)(h:Hk q→p:=by intro qk;refine Mp 0 1 1 ?_;refine Mp 0 7 6 ?_;exact qk.h):p:=h ⟨k⟩
theorem oc(k:q)(h:Hk q→p:=by intro qk;refine V1 ?_;refine Z8 ?_;exact qk.h):p:=h ⟨k⟩
theorem aq(k:q)(h:Hk q→p:=by intro qk;refine Z21 ?_;refine B9 ?_;exact qk.h):p:=h ⟨k⟩
theorem eh(k:q)(h:Hk q→p:=by intro qk;refine K.blR ?_;refine K.lpR ?_;exact qk.h):p:=h ⟨k⟩
theorem m3(h:p:=by refine np ?_;refine F8 ?_;exact Z98):p:=h
theorem V0(h:p:=by exact ⟨rfl,Below.refl _ _⟩):p:=h
theorem Ki(k:q)(h:Hk q→p:=by intro qk;refine A2 [0,3] ?_;exact qk.h):p:=h ⟨k⟩
theorem Ta(k:q)(h:Hk q→p:=by intro qk;refine A2 [0,1,5] ?_;exact qk.h):p:=h ⟨k⟩
theorem od(h:p:=by exact h (y,j) (by rw [Hn];exact hj)):p:=h
theorem ar(h:p:=by exact A9 (Af A7)):p:=h
theorem Df(k:q)(h:Hk q→p:=by intro qk;refine AW.seqR ?_;exact qk.h):p:=h ⟨k⟩
theorem Fu(k:q)(h:Hk q→p:=by intro qk;refine R.storeOwn jS ?_;exact qk.h):p:=h ⟨k⟩
theorem Tb(k:q)(h:Hk q→p:=by intro qk;refine A2 [0,2,3] ?_;exact qk.h):p:=h ⟨k⟩
theorem V1(k:q)(h:Hk q→p:=by intro qk;refine Jk (places:=#[(0,1),(1,1),(2,1)]) jU (fun w=>by simp) jZ ?_;exact qk.h):p:=h ⟨k⟩
theorem oe(h:p:=by exact A9 (Af A7) ⟨by simp only [At,hp,ht7,ht14,ht23,ht27,Ig,Co,if_false,if_true];try rfl,rfl⟩):p:=h
theorem og(h:p:=by exact A9 (Cr (B3 jA jS) A7) ⟨by simp only [Ri,ht17,if_true,if_false,Co];rfl,rfl⟩):p:=h
theorem oh(h:p:=by exact A9 (Hd A7 A7 A7 A7) ⟨by simp only [L7,ht11,ht17,if_true,if_false,Co];try rfl,rfl⟩):p:=h
theorem oi(h:p:=by exact A9 (Hd A7 A7 A7 A7) ⟨by simp only [Ph,ht18,ht23,if_true,if_false,Co];try rfl,rfl⟩):p:=h
theorem ol(h:p:=by exact A9 (Hd A7 A7 A7 A7) ⟨by simp only [Bj,ht6,ht17,ht28,if_true,if_false,Co],rfl⟩):p:=h
theorem ej(h:p:=by exact absurd h (by decide)):p:=h
theorem O5(k:q)(h:Hk q→p:=by intro qk;refine R.buildSlice jU jS jZ ?_;exact qk.h):p:=h ⟨k⟩
theorem m4(k:q)(h:Hk q→p:=by intro qk;refine Jk (places:=#[(0,1),(1,1)]) jU (fun w=>by simp) jZ ?_;exact qk.h):p:=h ⟨k⟩
theorem iq(h:p:=by exact ⟨hFRl,by simp [oid]⟩):p:=h
theorem ek(h:p:=by exact Oj (fun x hx=>ObjLow.le (by omega) (hlow x hx)) hOl x hx):p:=h
theorem X9(k:q)(h:Hk q→p:=by intro qk;refine A2 [2,3,4,5] ?_;exact qk.h):p:=h ⟨k⟩
theorem om(k:q)(h:Hk q→p:=by intro qk;refine Bf Tryz.call33 hi2 (by simp) Lr (c33 i (A5 s) 4 (by decide) (by decide) _ (An hi2)) ?_;exact qk.h):p:=h ⟨k⟩
theorem el(k:q)(h:Hk q→p:=by intro qk;refine C0 (x+1) hlt (by omega) ?_;exact qk.h):p:=h ⟨k⟩
theorem en(k:q)(h:Hk q→p:=by intro qk;refine Jk (places:=#[(0,1),(1,1),(2,3),(5,1)]) jU (fun w=>by simp) jZ ?_;exact qk.h):p:=h ⟨k⟩
theorem oo(h:p:=by exact A9 (Af A7) ⟨by rw [decide_eq_false hne],rfl⟩):p:=h
theorem ir(h:p:=by exact A9 (Af A7) ⟨by rw [hf],rfl⟩):p:=h
theorem au(h:p:=by exact A9 (Af (B3 jA jS)) ⟨by rw [hm]<;>rfl,by rw [hm]<;>(try rw [Ba])<;>rfl⟩ (hlow:=by simp [or_imp,forall_and]<;>exact fun a _=>Au _ a)):p:=h
theorem ot(k:q)(h:Hk q→p:=by intro qk;refine R.buildLe (Bz (Cv 0)) (show Le _ (Bz (Cv 0)) from Hj (.inr ⟨rfl,rfl⟩)) (places:=#[(0,1),(1,1),(2,1),(3,9),(12,1),(13,1),(14,1)]) jU (fun w=>by simp) Tryz.zeroValue42 ?_;exact qk.h):p:=h ⟨k⟩
theorem m5(k:q)(h:Hk q→p:=by intro qk;refine R.buildLe (Bz (B8 mv)) (show Le _ (Bz (B8 mv)) from Hj (.inr ⟨rfl,rfl⟩)) (places:=#[(0,1),(1,1),(2,1),(3,9),(12,1),(13,1),(14,1)]) jU (fun w=>by simp) Tryz.zeroValue42 ?_;exact qk.h):p:=h ⟨k⟩
theorem ou(h:p:=by exact ⟨H1 (M8 _ _ _).symm,by rw [M8];exact hi,hc⟩):p:=h
theorem ov(k:q)(h:Hk q→p:=by intro qk;refine L1 (u:=Hp.length) (n:=0) (t':=40) (cs:=[Aj false,.nil,A3 0,A8 [],A3 0,A3 0,A8 [],.nil,A3 0]) (cs':=[Aj false,.nil,A3 0,A8 [],A3 0,A3 0,A8 [],.nil,A3 0]) Tryz.sizeOf40 (fun B hB=>⟨rfl,rfl,rfl,rfl⟩) ?_;exact qk.h):p:=h ⟨k⟩
theorem ow(k:q)(h:Hk q→p:=by intro qk;refine F7 [0,0,2,6,14,1,63] [5] [.q 5 [] [],.s [] (some 0) [] []] (fun _=>Hp) (fun _=>[.cells 40 [Aj false,.nil,A3 0,A8 [],A3 0,A3 0,A8 [],.nil,A3 0],.cells 67 [A3 0,A3 0],.cells 67 [A3 (B4 s).2.1,A3 ((B4 s).2.2:Nat)],prq (B4 s).1 (s5Q (B4 s).1),qo true (r3Q (B4 s).1).1]) Av (by kernel_rfl) rfl rfl (fun _=>rfl) ?_;exact qk.h):p:=h ⟨k⟩
theorem m6(h:p:=by exact C0 (x+1) hlt (by omega) (Cm rfl)):p:=h
theorem oy(h:p:=by exact A9 (Cr A7 A7) ⟨by rw [hm,hf]<;>rfl,rfl⟩):p:=h
theorem m7(h:p:=by exact A9 (Cr (B3 jA jS) A7) (hlow:=by simp [or_imp,forall_and]<;>exact fun a _=>Au _ a)):p:=h
theorem oz(h:p:=by exact A9 (Af A7) ⟨by simp at ht54;simp [ht54],rfl⟩):p:=h
theorem p8(h:p:=by exact A9 (Cr A7 A7) ⟨by rw [cm hm,hm]<;>rfl,rfl⟩):p:=h
theorem p9(h:p:=by exact A9 (Af A7) ⟨by simp_all [Ko,Rn],rfl⟩):p:=h
theorem pa(h:p:=by exact L2 .nores (hp:=⟨rfl,by first|(rw [e];done)|(rw [e];rfl)|(rw [e];exact (Bv ho).symm)⟩)):p:=h
end Go.SX.Nb
namespace Go.SX.Nb
open Go Go.SX Go.Proofs
@[reducible,instance] def JA2:=JA.mk (P:=Tryz.prog) Tryz.isAgg2
@[reducible,instance] def JA3:=JA.mk (P:=Tryz.prog) Tryz.isAgg3
@[reducible,instance] def JA4:=JA.mk (P:=Tryz.prog) Tryz.isAgg4
@[reducible,instance] def JA9:=JA.mk (P:=Tryz.prog) Tryz.isAgg9
@[reducible,instance] def um:=JA.mk (P:=Tryz.prog) Tryz.isAgg22
@[reducible,instance] def un:=JA.mk (P:=Tryz.prog) Tryz.isAgg27
@[reducible,instance] def uo:=JA.mk (P:=Tryz.prog) Tryz.isAgg32
@[reducible,instance] def uq:=JA.mk (P:=Tryz.prog) Tryz.isAgg33
@[reducible,instance] def ur:=JA.mk (P:=Tryz.prog) Tryz.isAgg35
@[reducible,instance] def ut:=JA.mk (P:=Tryz.prog) Tryz.isAgg36
@[reducible,instance] def uu:=JA.mk (P:=Tryz.prog) Tryz.isAgg38
@[reducible,instance] def uv:=JA.mk (P:=Tryz.prog) Tryz.isAgg40
@[reducible,instance] def uw:=JA.mk (P:=Tryz.prog) Tryz.isAgg42
@[reducible,instance] def ux:=JA.mk (P:=Tryz.prog) Tryz.isAgg51
@[reducible,instance] def uz:=JA.mk (P:=Tryz.prog) Tryz.isAgg58
@[reducible,instance] def v0:=JA.mk (P:=Tryz.prog) Tryz.isAgg60
@[reducible,instance] def v6:=JA.mk (P:=Tryz.prog) Tryz.isAgg67
@[reducible,instance] def v7:=JA.mk (P:=Tryz.prog) Tryz.isAgg93
@[reducible,instance] def uc:=JA.mk (P:=Tryz.prog) Tryz.isAgg102
@[reducible,instance] def ud:=JA.mk (P:=Tryz.prog) Tryz.isAgg241
@[reducible,instance] def JS2:=JS.mk (P:=Tryz.prog) Tryz.sizeOf2
@[reducible,instance] def JS3:=JS.mk (P:=Tryz.prog) Tryz.sizeOf3
@[reducible,instance] def JS4:=JS.mk (P:=Tryz.prog) Tryz.sizeOf4
@[reducible,instance] def JS5:=JS.mk (P:=Tryz.prog) Tryz.sizeOf5
@[reducible,instance] def JS9:=JS.mk (P:=Tryz.prog) Tryz.sizeOf9
@[reducible,instance] def v8:=JS.mk (P:=Tryz.prog) Tryz.sizeOf22
@[reducible,instance] def v9:=JS.mk (P:=Tryz.prog) Tryz.sizeOf27
@[reducible,instance] def vb:=JS.mk (P:=Tryz.prog) Tryz.sizeOf32
@[reducible,instance] def vd:=JS.mk (P:=Tryz.prog) Tryz.sizeOf33
@[reducible,instance] def ve:=JS.mk (P:=Tryz.prog) Tryz.sizeOf35
@[reducible,instance] def vf:=JS.mk (P:=Tryz.prog) Tryz.sizeOf36
@[reducible,instance] def vg:=JS.mk (P:=Tryz.prog) Tryz.sizeOf38
@[reducible,instance] def vh:=JS.mk (P:=Tryz.prog) Tryz.sizeOf40
@[reducible,instance] def vi:=JS.mk (P:=Tryz.prog) Tryz.sizeOf42
@[reducible,instance] def vj:=JS.mk (P:=Tryz.prog) Tryz.sizeOf51
@[reducible,instance] def vk:=JS.mk (P:=Tryz.prog) Tryz.sizeOf58
@[reducible,instance] def vl:=JS.mk (P:=Tryz.prog) Tryz.sizeOf60
@[reducible,instance] def vm:=JS.mk (P:=Tryz.prog) Tryz.sizeOf67
@[reducible,instance] def vn:=JS.mk (P:=Tryz.prog) Tryz.sizeOf93
@[reducible,instance] def ue:=JS.mk (P:=Tryz.prog) Tryz.sizeOf102
@[reducible,instance] def JU3:=JU.mk (P:=Tryz.prog) Tryz.underlying3
@[reducible,instance] def JU4:=JU.mk (P:=Tryz.prog) Tryz.underlying4
@[reducible,instance] def JU5:=JU.mk (P:=Tryz.prog) Tryz.underlying5
@[reducible,instance] def JU9:=JU.mk (P:=Tryz.prog) Tryz.underlying9
@[reducible,instance] def vo:=JU.mk (P:=Tryz.prog) Tryz.underlying22
@[reducible,instance] def vp:=JU.mk (P:=Tryz.prog) Tryz.underlying23
@[reducible,instance] def vq:=JU.mk (P:=Tryz.prog) Tryz.underlying26
@[reducible,instance] def vr:=JU.mk (P:=Tryz.prog) Tryz.underlying32
@[reducible,instance] def vt:=JU.mk (P:=Tryz.prog) Tryz.underlying33
@[reducible,instance] def vu:=JU.mk (P:=Tryz.prog) Tryz.underlying35
@[reducible,instance] def vw:=JU.mk (P:=Tryz.prog) Tryz.underlying36
@[reducible,instance] def vx:=JU.mk (P:=Tryz.prog) Tryz.underlying38
@[reducible,instance] def vy:=JU.mk (P:=Tryz.prog) Tryz.underlying40
@[reducible,instance] def vz:=JU.mk (P:=Tryz.prog) Tryz.underlying42
@[reducible,instance] def w4:=JU.mk (P:=Tryz.prog) Tryz.underlying46
@[reducible,instance] def w5:=JU.mk (P:=Tryz.prog) Tryz.underlying48
@[reducible,instance] def w6:=JU.mk (P:=Tryz.prog) Tryz.underlying51
@[reducible,instance] def w7:=JU.mk (P:=Tryz.prog) Tryz.underlying55
@[reducible,instance] def w8:=JU.mk (P:=Tryz.prog) Tryz.underlying58
@[reducible,instance] def w9:=JU.mk (P:=Tryz.prog) Tryz.underlying60
@[reducible,instance] def wc:=JU.mk (P:=Tryz.prog) Tryz.underlying67
@[reducible,instance] def wd:=JU.mk (P:=Tryz.prog) Tryz.underlying90
@[reducible,instance] def we:=JU.mk (P:=Tryz.prog) Tryz.underlying93
@[reducible,instance] def uf:=JU.mk (P:=Tryz.prog) Tryz.underlying102
@[reducible,instance] def ug:=JU.mk (P:=Tryz.prog) Tryz.underlying177
@[reducible,instance] def uh:=JU.mk (P:=Tryz.prog) Tryz.underlying222
@[reducible,instance] def ui:=JU.mk (P:=Tryz.prog) Tryz.underlying243
@[reducible,instance] def JZ3:=JZ.mk (P:=Tryz.prog) Tryz.zeroValue3
@[reducible,instance] def JZ4:=JZ.mk (P:=Tryz.prog) Tryz.zeroValue4
@[reducible,instance] def JZ5:=JZ.mk (P:=Tryz.prog) Tryz.zeroValue5
@[reducible,instance] def JZ9:=JZ.mk (P:=Tryz.prog) Tryz.zeroValue9
@[reducible,instance] def wg:=JZ.mk (P:=Tryz.prog) Tryz.zeroValue35
@[reducible,instance] def wh:=JZ.mk (P:=Tryz.prog) Tryz.zeroValue38
@[reducible,instance] def wi:=JZ.mk (P:=Tryz.prog) Tryz.zeroValue40
@[reducible,instance] def wj:=JZ.mk (P:=Tryz.prog) Tryz.zeroValue42
@[reducible,instance] def wm:=JZ.mk (P:=Tryz.prog) Tryz.zeroValue51
@[reducible,instance] def wn:=JZ.mk (P:=Tryz.prog) Tryz.zeroValue55
@[reducible,instance] def wo:=JZ.mk (P:=Tryz.prog) Tryz.zeroValue60
@[reducible,instance] def wp:=JZ.mk (P:=Tryz.prog) Tryz.zeroValue67
@[reducible,instance] def wq:=JZ.mk (P:=Tryz.prog) Tryz.zeroValue93
@[reducible,instance] def uj:=JZ.mk (P:=Tryz.prog) Tryz.zeroValue102
@[reducible,instance] def uk:=JZ.mk (P:=Tryz.prog) Tryz.zeroValue177
@[reducible,instance] def ul:=JZ.mk (P:=Tryz.prog) Tryz.zeroValue243
end Go.SX.Nb
