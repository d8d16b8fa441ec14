/- Texts on the way to this: PhaseWays answers true for whatever it is handed: of any columns, any migration and any events: behind a cut it only comes to the new version; behind an abort, or a failure, only to where it was, with the cause that it had; keys only rise in each phase (up to 100 events, 50 columns, 4000 bytes). (part 4) -/
import Derived.Test.YthakapgmpcbbkaaGreatDoorProg
import Derived.Test.YthakapgmpcbbkaaGreatDoorPhaseWaysCardSaidPart3
set_option linter.all false
namespace Go.SX.Nb
open Go Go.SX Go.Proofs
structure Hk (q:Prop):Prop where h:q
variable {p q:Prop}
theorem Z0(k:q)(h:Hk q→p:=by intro qk;refine R.go ?_;refine R.go ?_;exact qk.h):p:=h ⟨k⟩
theorem Z1(k:q)(h:Hk q→p:=by intro qk;refine E0 ?_;refine Z0 ?_;exact qk.h):p:=h ⟨k⟩
theorem Z2(k:q)(h:Hk q→p:=by intro qk;refine E0 ?_;refine R.go ?_;exact qk.h):p:=h ⟨k⟩
theorem Z4(k:q)(h:Hk q→p:=by intro qk;refine R.fin [2] ?_;refine AW.ret ?_;exact qk.h):p:=h ⟨k⟩
theorem Z5(k:q)(h:Hk q→p:=by intro qk;refine K.blR ?_;refine K.thR ?_;exact qk.h):p:=h ⟨k⟩
theorem Z7(k:q)(h:Hk q→p:=by intro qk;refine G.go ?_;refine G.go ?_;exact qk.h):p:=h ⟨k⟩
theorem Z9(k:q)(h:Hk q→p:=by intro qk;refine AW.skip ?_;refine K.thN ?_;exact qk.h):p:=h ⟨k⟩
theorem Z10(k:q)(h:Hk q→p:=by intro qk;refine Fi ?_;refine Z4 ?_;exact qk.h):p:=h ⟨k⟩
theorem Z11(k:q)(h:Hk q→p:=by intro qk;refine W.seq ?_;refine Z1 ?_;exact qk.h):p:=h ⟨k⟩
theorem Z12(k:q)(h:Hk q→p:=by intro qk;refine K.blN ?_;refine K.thN ?_;exact qk.h):p:=h ⟨k⟩
theorem Z13(k:q)(h:Hk q→p:=by intro qk;refine AW.region ?_;refine Z0 ?_;exact qk.h):p:=h ⟨k⟩
theorem Z14(k:q)(h:Hk q→p:=by intro qk;refine D.go ?_;refine D.go ?_;exact qk.h):p:=h ⟨k⟩
theorem Z15(k:q)(h:Hk q→p:=by intro qk;refine Y.bot (fun B hT=>Q4 (hT 0 (by simp))) ?_;refine Y.bot (fun B hT=>Q4 (hT 0 (by simp))) ?_;exact qk.h):p:=h ⟨k⟩
theorem Z16(k:q)(h:Hk q→p:=by intro qk;refine J8 ?_;refine Fi ?_;exact qk.h):p:=h ⟨k⟩
theorem Z17(k:q)(h:Hk q→p:=by intro qk;refine R.fin [4] ?_;refine AW.ret ?_;exact qk.h):p:=h ⟨k⟩
theorem Z18(k:q)(h:Hk q→p:=by intro qk;refine Z1 ?_;refine R.go ?_;exact qk.h):p:=h ⟨k⟩
theorem Z19(k:q)(h:Hk q→p:=by intro qk;refine E0 ?_;refine Qi ?_;refine Xh ?_;exact qk.h):p:=h ⟨k⟩
theorem Z21(k:q)(h:Hk q→p:=by intro qk;refine AW.skip ?_;refine Z12 ?_;exact qk.h):p:=h ⟨k⟩
theorem Z22(k:q)(h:Hk q→p:=by intro qk;refine R.fin [4,5] ?_;refine AW.ret ?_;exact qk.h):p:=h ⟨k⟩
theorem Z23(k:q)(h:Hk q→p:=by intro qk;refine Z0 ?_;refine R.go ?_;exact qk.h):p:=h ⟨k⟩
theorem Z24(k:q)(h:Hk q→p:=by intro qk;refine W.seq ?_;refine AW.block ?_;exact qk.h):p:=h ⟨k⟩
theorem Z25(k:q)(h:Hk q→p:=by intro qk;refine I5 ?_;refine AW.ret ?_;exact qk.h):p:=h ⟨k⟩
theorem Z26(k:q)(h:Hk q→p:=by intro qk;refine E0 ?_;refine J8 ?_;exact qk.h):p:=h ⟨k⟩
theorem Z27(k:q)(h:Hk q→p:=by intro qk;refine Z19 ?_;refine Z10 ?_;exact qk.h):p:=h ⟨k⟩
theorem Z28(h:p:=by refine Z5 ?_;exact zl):p:=h
theorem Z29(k:q)(h:Hk q→p:=by intro qk;refine Z0 ?_;refine Z7 ?_;exact qk.h):p:=h ⟨k⟩
theorem Z30(k:q)(h:Hk q→p:=by intro qk;refine Z4 ?_;refine Z5 ?_;exact qk.h):p:=h ⟨k⟩
theorem Z31(k:q)(h:Hk q→p:=by intro qk;refine E0 ?_;refine zj ?_;exact qk.h):p:=h ⟨k⟩
theorem Z33(h:p:=by refine D.buildSlice jU jS jZ ?_;exact Np):p:=h
theorem Z34(k:q)(h:Hk q→p:=by intro qk;refine Z11 ?_;refine R.go ?_;exact qk.h):p:=h ⟨k⟩
theorem Z35(k:q)(h:Hk q→p:=by intro qk;refine Z1 ?_;refine Z0 ?_;exact qk.h):p:=h ⟨k⟩
theorem Z36(k:q)(h:Hk q→p:=by intro qk;refine R.go ?_;refine Fi ?_;exact qk.h):p:=h ⟨k⟩
theorem Z37(k:q)(h:Hk q→p:=by intro qk;refine K.lpE ?_;refine K.thN ?_;exact qk.h):p:=h ⟨k⟩
theorem Z38(h:p:=by refine Z30 ?_;exact K.fin (V.one V.tmp) ⟨by rw [hn];first|(simp only [ht22,ht25,ht33,ht41,ht41,hk3,hk6,Bool.true_or,Bool.false_or,Bool.or_true,Bool.or_false,if_true,if_false,Bool.false_eq_true,↓reduceIte]<;>rfl)|(simp only [ht22,ht25,ht33,ht41,ht41,hk3,Bool.true_or,Bool.false_or,Bool.or_true,if_true,if_false,Bool.false_eq_true,↓reduceIte]<;>rfl)|(simp only [ht22,ht25,ht33,ht41,ht41,if_true,if_false,Bool.false_eq_true,↓reduceIte]<;>rfl),rfl⟩):p:=h
theorem Z39(h:p:=by refine Z30 ?_;exact ACc):p:=h
theorem Z40(k:q)(h:Hk q→p:=by intro qk;refine K.lpR ?_;refine K.thR ?_;exact qk.h):p:=h ⟨k⟩
theorem Z41(h:p:=by refine K.thJ ?_;exact StLe.of_eq (by simp [*])):p:=h
theorem Z42(k:q)(h:Hk q→p:=by intro qk;refine Z2 ?_;refine R.fin [0,1] ?_;exact qk.h):p:=h ⟨k⟩
theorem Z43(k:q)(h:Hk q→p:=by intro qk;refine Z26 ?_;refine R.fin [0,2] ?_;exact qk.h):p:=h ⟨k⟩
theorem Z44(h:p:=by refine D.go ?_;exact Np):p:=h
theorem Z45(h:p:=by refine Z27 ?_;refine Z5 ?_;exact ACb):p:=h
theorem Z46(k:q)(h:Hk q→p:=by intro qk;refine Z2 ?_;refine R.fin [0] ?_;exact qk.h):p:=h ⟨k⟩
theorem Z47(k:q)(h:Hk q→p:=by intro qk;refine R.fin [2,3,4,5] ?_;refine AW.ret ?_;exact qk.h):p:=h ⟨k⟩
theorem Z48(k:q)(h:Hk q→p:=by intro qk;refine Z2 ?_;refine R.callUp Tryz.call252 ho (by simp) By (pz l S o _ (A4 ho) hi hll) ?_;exact qk.h):p:=h ⟨k⟩
theorem Z49(k:q)(h:Hk q→p:=by intro qk;refine R.fin [6] ?_;refine AW.ret ?_;exact qk.h):p:=h ⟨k⟩
theorem Z50(k:q)(h:Hk q→p:=by intro qk;refine R.fin [] ?_;refine K.blN ?_;exact qk.h):p:=h ⟨k⟩
theorem Z51(k:q)(h:Hk q→p:=by intro qk;refine Z0 ?_;refine Z23 ?_;exact qk.h):p:=h ⟨k⟩
theorem Z52(k:q)(h:Hk q→p:=by intro qk;refine W.seq ?_;refine Z2 ?_;exact qk.h):p:=h ⟨k⟩
theorem Z53(h:p:=by refine Z14 ?_;exact Np):p:=h
theorem Z54(h:p:=by refine K.thR ?_;exact uz):p:=h
theorem Z56(k:q)(h:Hk q→p:=by intro qk;refine Z14 ?_;refine D.go ?_;exact qk.h):p:=h ⟨k⟩
theorem Z57(k:q)(h:Hk q→p:=by intro qk;refine W.seq ?_;refine E0 ?_;exact qk.h):p:=h ⟨k⟩
theorem Z58(h:p:=by refine Z50 ?_;exact K.finN .nores ⟨rfl,by rw [pe]<;>simp [Ri]⟩):p:=h
theorem Z59(k:q)(h:Hk q→p:=by intro qk;refine Fi ?_;refine R.go ?_;exact qk.h):p:=h ⟨k⟩
theorem Z60(k:q)(h:Hk q→p:=by intro qk;refine Z13 ?_;refine R.go ?_;exact qk.h):p:=h ⟨k⟩
theorem Z61(k:q)(h:Hk q→p:=by intro qk;refine E0 ?_;refine jf ?_;exact qk.h):p:=h ⟨k⟩
theorem Z62(h:p:=by refine Z30 ?_;exact nz):p:=h
theorem Z63(h:p:=by refine K.thR ?_;exact K.fin (V.one (V.cellN jA jS)) ⟨by rw [e,Ab],by rw [e]⟩ (hlow:=low_agg _)):p:=h
theorem Z64(k:q)(h:Hk q→p:=by intro qk;refine Z29 ?_;refine Z7 ?_;exact qk.h):p:=h ⟨k⟩
theorem Z65(h:p:=by refine R.fin [0,1,7,8] ?_;exact K.lpN (x+1) ⟨hlt,Er hlt hx.2 (fun e=>by rw [e] at ht16;simp at ht16)⟩ (by omega) (StCut.of_eq rfl)):p:=h
theorem Z66(k:q)(h:Hk q→p:=by intro qk;refine Z37 ?_;refine Z2 ?_;exact qk.h):p:=h ⟨k⟩
theorem Z68(h:p:=by refine Z40 ?_;exact K.fin (V.one V.tmp) ⟨by rw [AA2 hlt (by simpa using (Eq.symm (by simpa using ht16):l[x]=v)) hx.2],rfl⟩):p:=h
theorem Z69(h:p:=by refine K.thR ?_;exact nz):p:=h
theorem Z71(k:q)(h:Hk q→p:=by intro qk;refine AW.block ?_;refine Z1 ?_;exact qk.h):p:=h ⟨k⟩
theorem Z72(k:q)(h:Hk q→p:=by intro qk;refine Z0 ?_;refine Z0 ?_;exact qk.h):p:=h ⟨k⟩
theorem Z73(h:p:=by refine Z5 ?_;exact AC9):p:=h
theorem Z74(k:q)(h:Hk q→p:=by intro qk;refine Z1 ?_;refine R.fin [2,18] ?_;exact qk.h):p:=h ⟨k⟩
theorem Z75(k:q)(h:Hk q→p:=by intro qk;refine Z29 ?_;refine G.go ?_;exact qk.h):p:=h ⟨k⟩
theorem Z76(k:q)(h:Hk q→p:=by intro qk;refine Z7 ?_;refine Z7 ?_;exact qk.h):p:=h ⟨k⟩
theorem Z77(h:p:=by refine Z27 ?_;refine Z5 ?_;exact ACa):p:=h
theorem Z78(h:p:=by refine K.thR ?_;exact zl):p:=h
theorem Z79(h:p:=by refine Z22 ?_;exact zl):p:=h
theorem Z81(k:q)(h:Hk q→p:=by intro qk;refine AW.exit ?_;refine K.thE ?_;exact qk.h):p:=h ⟨k⟩
theorem Z82(h:p:=by refine R.fin [0,1,7,8] ?_;exact K.lpN (x+1) ⟨hlt,Er hlt hx.2 ht16⟩ (by omega) (StCut.of_eq rfl)):p:=h
theorem Z83(k:q)(h:Hk q→p:=by intro qk;refine Z21 ?_;refine Z13 ?_;exact qk.h):p:=h ⟨k⟩
theorem Z84(k:q)(h:Hk q→p:=by intro qk;refine Z1 ?_;refine R.fin [2,3,9] ?_;exact qk.h):p:=h ⟨k⟩
theorem Z85(h:p:=by refine Z17 ?_;exact K.fin (V.one V.tmp) ⟨by rw [pk (Md (by simp at ht9;omega) hx.2)],rfl⟩):p:=h
theorem Z86(k:q)(h:Hk q→p:=by intro qk;refine AW.ret ?_;refine K.thR ?_;exact qk.h):p:=h ⟨k⟩
theorem Z88(h:p:=by refine Z21 ?_;refine Z19 ?_;refine Z10 ?_;exact ACb):p:=h
theorem Z89(h:p:=by refine Z4 ?_;exact aq):p:=h
theorem Z90(h:p:=by refine Z4 ?_;exact nz):p:=h
theorem Z91(k:q)(h:Hk q→p:=by intro qk;refine Z11 ?_;refine Z0 ?_;exact qk.h):p:=h ⟨k⟩
theorem Z92(k:q)(h:Hk q→p:=by intro qk;refine Z5 ?_;refine Z40 ?_;exact qk.h):p:=h ⟨k⟩
theorem Z93(k:q)(h:Hk q→p:=by intro qk;refine AW.region ?_;refine R.go ?_;exact qk.h):p:=h ⟨k⟩
theorem Z94(k:q)(h:Hk q→p:=by intro qk;refine Z22 ?_;refine K.thR ?_;exact qk.h):p:=h ⟨k⟩
theorem Z96(h:p:=by refine AW.skip ?_;exact Z41):p:=h
theorem Z97(k:q)(h:Hk q→p:=by intro qk;refine Z1 ?_;refine R.fin [1] ?_;exact qk.h):p:=h ⟨k⟩
theorem Z98(k:q)(h:Hk q→p:=by intro qk;refine Z0 ?_;refine Z17 ?_;exact qk.h):p:=h ⟨k⟩
theorem Z99(h:p:=by refine Z17 ?_;exact K.fin (V.one V.tmp) ⟨by rw [da (Yr hxe hx.2)],rfl⟩):p:=h
theorem Mb(k:q)(h:Hk q→p:=by intro qk;refine Z24 ?_;refine Z2 ?_;exact qk.h):p:=h ⟨k⟩
theorem ac(k:q)(h:Hk q→p:=by intro qk;refine Z2 ?_;refine R.fin [0,1,7,8,9] ?_;exact qk.h):p:=h ⟨k⟩
theorem Pl(k:q)(h:Hk q→p:=by intro qk;refine G.go ?_;refine R.go ?_;exact qk.h):p:=h ⟨k⟩
theorem yr(k:q)(h:Hk q→p:=by intro qk;refine E0 ?_;refine ny ?_;exact qk.h):p:=h ⟨k⟩
theorem Xc(k:q)(h:Hk q→p:=by intro qk;refine Z16 ?_;refine R.fin [0,2,3] ?_;exact qk.h):p:=h ⟨k⟩
theorem ud(h:p:=by refine K.thP ?_;exact K.finPP ⟨_,_,e,rfl,.refl ho⟩):p:=h
theorem yt(h:p:=by refine Z92 ?_;exact K.fin (V.one V.tmp) ⟨by rw [rh hlt ht16 hx.2],rfl⟩):p:=h
theorem No(k:q)(h:Hk q→p:=by intro qk;refine G.go ?_;refine Z0 ?_;exact qk.h):p:=h ⟨k⟩
theorem Su(k:q)(h:Hk q→p:=by intro qk;refine Z24 ?_;refine E0 ?_;exact qk.h):p:=h ⟨k⟩
theorem yu(k:q)(h:Hk q→p:=by intro qk;refine Z1 ?_;refine ny ?_;exact qk.h):p:=h ⟨k⟩
theorem yw(k:q)(h:Hk q→p:=by intro qk;refine ny ?_;refine Z10 ?_;exact qk.h):p:=h ⟨k⟩
theorem yx(h:p:=by refine Z98 ?_;exact K.fin (V.one V.tmp) ⟨by rw [←l4];try rfl,rfl⟩):p:=h
theorem AB5(h:p:=by refine Z94 ?_;exact AC8):p:=h
theorem Sv(k:q)(h:Hk q→p:=by intro qk;refine Z2 ?_;refine Z4 ?_;exact qk.h):p:=h ⟨k⟩
theorem j6(k:q)(h:Hk q→p:=by intro qk;refine R.go ?_;refine Qi ?_;exact qk.h):p:=h ⟨k⟩
theorem Mc(k:q)(h:Hk q→p:=by intro qk;refine Z9 ?_;refine Z2 ?_;exact qk.h):p:=h ⟨k⟩
theorem ue(h:p:=by refine Z4 ?_;exact zg):p:=h
theorem Vj(k:q)(h:Hk q→p:=by intro qk;refine Z25 ?_;refine K.thR ?_;exact qk.h):p:=h ⟨k⟩
theorem Sw(k:q)(h:Hk q→p:=by intro qk;refine H.go ?_;refine H.go ?_;exact qk.h):p:=h ⟨k⟩
theorem Sx(k:q)(h:Hk q→p:=by intro qk;refine Z9 ?_;refine E0 ?_;exact qk.h):p:=h ⟨k⟩
theorem j7(k:q)(h:Hk q→p:=by intro qk;refine Z18 ?_;refine Z7 ?_;exact qk.h):p:=h ⟨k⟩
theorem yy(h:p:=by refine Z30 ?_;exact K.fin (V.one V.tmp) ⟨by simp_all [dd],rfl⟩):p:=h
theorem uf(h:p:=by refine Z10 ?_;exact K.fin (V.one (V.cellN jA jS))):p:=h
theorem nb(k:q)(h:Hk q→p:=by intro qk;refine R.go ?_;refine Z17 ?_;exact qk.h):p:=h ⟨k⟩
theorem j8(k:q)(h:Hk q→p:=by intro qk;refine Z2 ?_;refine R.buildSl jU jS jZ ?_;exact qk.h):p:=h ⟨k⟩
theorem Sy(k:q)(h:Hk q→p:=by intro qk;refine Z12 ?_;refine Z13 ?_;exact qk.h):p:=h ⟨k⟩
theorem AB6(h:p:=by refine R.fin [] ?_;exact K.finPN .nores (hp:=⟨Rv m x,k,by unfold Kj;rw [hT];rfl,rfl,by exact lq⟩)):p:=h
theorem Xd(k:q)(h:Hk q→p:=by intro qk;refine K.thP ?_;refine K.blP ?_;exact qk.h):p:=h ⟨k⟩
theorem yz(k:q)(h:Hk q→p:=by intro qk;refine R.nilCell 1 1 2 ?_;refine R.go ?_;exact qk.h):p:=h ⟨k⟩
theorem Xe(k:q)(h:Hk q→p:=by intro qk;refine E0 ?_;refine R.box ?_;exact qk.h):p:=h ⟨k⟩
theorem ae(k:q)(h:Hk q→p:=by intro qk;refine R.go ?_;refine J8 ?_;exact qk.h):p:=h ⟨k⟩
theorem nd(h:p:=by refine W.keep [3,8] ?_;exact Z96):p:=h
theorem Qh(k:q)(h:Hk q→p:=by intro qk;refine Z9 ?_;refine Z18 ?_;exact qk.h):p:=h ⟨k⟩
theorem Vk(k:q)(h:Hk q→p:=by intro qk;refine R.go ?_;refine Z16 ?_;exact qk.h):p:=h ⟨k⟩
theorem ug(k:q)(h:Hk q→p:=by intro qk;refine Z24 ?_;refine Z1 ?_;exact qk.h):p:=h ⟨k⟩
theorem AB7(h:p:=by refine Z98 ?_;exact K.fin (V.one V.tmp) ⟨by first|(rw [hgy hf];rfl)|(rw [hgv hf];rfl),rfl⟩):p:=h
theorem Vl(k:q)(h:Hk q→p:=by intro qk;refine Z14 ?_;refine Z14 ?_;exact qk.h):p:=h ⟨k⟩
theorem uh(h:p:=by refine Z98 ?_;exact aq):p:=h
theorem Vm(k:q)(h:Hk q→p:=by intro qk;refine Z1 ?_;refine Z17 ?_;exact qk.h):p:=h ⟨k⟩
theorem j9(h:p:=by refine D.go ?_;exact Z33):p:=h
theorem Vn(k:q)(h:Hk q→p:=by intro qk;refine Z7 ?_;refine R.go ?_;exact qk.h):p:=h ⟨k⟩
theorem AB8(h:p:=by refine D.build (places:=#[(0,1),(1,1)]) jU (fun w=>by simp) jZ ?_;exact Np):p:=h
theorem nf(h:p:=by refine nb ?_;refine Z5 ?_;exact ACd):p:=h
theorem z6(k:q)(h:Hk q→p:=by intro qk;refine Z2 ?_;refine R.call Tryz.call269 (ACj l S o _ (A4 ho) hi) ?_;exact qk.h):p:=h ⟨k⟩
theorem z7(k:q)(h:Hk q→p:=by intro qk;refine Z2 ?_;refine R.call Tryz.call73 (c73 L i o _ (A4 ho) hi) ?_;exact qk.h):p:=h ⟨k⟩
theorem ja(k:q)(h:Hk q→p:=by intro qk;refine Z1 ?_;refine L9 ?_;exact qk.h):p:=h ⟨k⟩
theorem z8(h:p:=by refine Z22 ?_;exact Z28):p:=h
theorem ng(h:p:=by refine Z64 ?_;refine Z0 ?_;exact Z39):p:=h
theorem AB9(h:p:=by refine G.call Tryz.call120 (fun hB=>ACg e.text L1 hs (by decide) _) ?_;exact ng):p:=h
theorem ui(k:q)(h:Hk q→p:=by intro qk;refine Fi ?_;refine Fi ?_;exact qk.h):p:=h ⟨k⟩
theorem jb(k:q)(h:Hk q→p:=by intro qk;refine Z9 ?_;refine AW.region ?_;exact qk.h):p:=h ⟨k⟩
theorem af(k:q)(h:Hk q→p:=by intro qk;refine AW.ret ?_;refine Z5 ?_;exact qk.h):p:=h ⟨k⟩
theorem ABa(h:p:=by refine Sv ?_;exact ACc):p:=h
theorem ABb(h:p:=by refine Vj ?_;exact AC3):p:=h
theorem ag(k:q)(h:Hk q→p:=by intro qk;refine Z30 ?_;refine Z40 ?_;exact qk.h):p:=h ⟨k⟩
theorem ABc(h:p:=by refine Z17 ?_;exact ACd):p:=h
theorem ai(k:q)(h:Hk q→p:=by intro qk;refine ug ?_;refine R.fin [0,1,5,7,8] ?_;refine Z18 ?_;exact qk.h):p:=h ⟨k⟩
theorem ABd(k:q)(h:Hk q→p:=by intro qk;refine Y.buildSlice jU Tryz.sizeOf9 Tryz.zeroValue9 ?_;refine Y.tail (tn:=[2]) (U:=U2 L Hp o om j (mvO m)) ?_;exact qk.h):p:=h ⟨k⟩
theorem nh(k:q)(h:Hk q→p:=by intro qk;refine Fi ?_;refine Z49 ?_;exact qk.h):p:=h ⟨k⟩
theorem ABe(h:p:=by refine Z10 ?_;exact K.fin (V.one (V.cellN jA jS)) ⟨by simp [ht5],rfl⟩):p:=h
theorem ABf(k:q)(h:Hk q→p:=by intro qk;refine Z18 ?_;refine R.callUp Tryz.call215 ho (by simp) By (kc l S 8 (A5 l S.i).at_ o _ (A4 ho)) ?_;exact qk.h):p:=h ⟨k⟩
theorem ni(h:p:=by refine Z14 ?_;exact Z53):p:=h
theorem ABg(k:q)(h:Hk q→p:=by intro qk;refine ny ?_;refine Fi ?_;exact qk.h):p:=h ⟨k⟩
theorem nj(k:q)(h:Hk q→p:=by intro qk;refine R.nilSl 6 2 ?_;refine R.go ?_;refine R.fin [6,7] ?_;exact qk.h):p:=h ⟨k⟩
theorem ABh(h:p:=by refine Z22 ?_;exact uz):p:=h
theorem ABi(h:p:=by refine Z92 ?_;exact K.fin (V.two V.tmp V.tmp) ⟨by rw [hbad],rfl⟩):p:=h
theorem ABj(h:p:=by refine Z5 ?_;exact K.fin (V.two V.tmp V.tmp) ⟨by rw [hk,hk2],rfl⟩):p:=h
theorem Xf(k:q)(h:Hk q→p:=by intro qk;refine Z42 ?_;refine Z1 ?_;exact qk.h):p:=h ⟨k⟩
theorem nk(h:p:=by refine R.fin [10] ?_;refine Z12 ?_;refine Z35 ?_;refine Z25 ?_;exact AC7):p:=h
theorem aj(k:q)(h:Hk q→p:=by intro qk;refine j7 ?_;refine Z0 ?_;exact qk.h):p:=h ⟨k⟩
theorem ak(k:q)(h:Hk q→p:=by intro qk;refine Z14 ?_;refine Z56 ?_;exact qk.h):p:=h ⟨k⟩
theorem nn(k:q)(h:Hk q→p:=by intro qk;refine Z1 ?_;refine R.fin [3,8] ?_;exact qk.h):p:=h ⟨k⟩
theorem ABk(h:p:=by refine Z98 ?_;exact K.fin (V.one V.tmp) ⟨by rw [f8];rfl,rfl⟩):p:=h
theorem ABl(h:p:=by refine R.call Tryz.call26 (c26 p [1,2] (by decide) _) ?_;exact nf):p:=h
theorem al(k:q)(h:Hk q→p:=by intro qk;refine Z42 ?_;refine Z34 ?_;refine R.fin [0,1,7,8] ?_;exact qk.h):p:=h ⟨k⟩
theorem am(k:q)(h:Hk q→p:=by intro qk;refine Z64 ?_;refine Z76 ?_;exact qk.h):p:=h ⟨k⟩
theorem uj(h:p:=by refine K.blN ?_;refine K.thJ ?_;exact StLe.of_eq (by rw [e]<;>rfl)):p:=h
theorem np(h:p:=by refine Z2 ?_;refine Z30 ?_;exact K.fin (V.one V.tmp) ⟨by simp_all [M1],rfl⟩):p:=h
theorem ABm(k:q)(h:Hk q→p:=by intro qk;refine W.drawQ [0,1,3,7,15,3,35,99,255,511,1023] 8 Ac (by kernel_rfl) ?_;refine Z14 ?_;exact qk.h):p:=h ⟨k⟩
theorem an(k:q)(h:Hk q→p:=by intro qk;refine Z2 ?_;refine Z49 ?_;exact qk.h):p:=h ⟨k⟩
theorem nq(k:q)(h:Hk q→p:=by intro qk;refine R.fin [2,4] ?_;refine Z2 ?_;exact qk.h):p:=h ⟨k⟩
theorem ABn(k:q)(h:Hk q→p:=by intro qk;refine Z43 ?_;refine W.drawQ [0,1,3,7,0,16,48,112,255,511,1023] 8 Ac (by kernel_rfl) ?_;exact qk.h):p:=h ⟨k⟩
theorem ABo(h:p:=by refine Z92 ?_;exact zh):p:=h
theorem ABp(k:q)(h:Hk q→p:=by intro qk;refine R.fin [0,3,4] ?_;refine W.drawQ [0,1,3,0,8,24,56,127] 7 Ac (by kernel_rfl) ?_;exact qk.h):p:=h ⟨k⟩
theorem uk(h:p:=by refine Z15 ?_;refine Z15 ?_;exact ux):p:=h
theorem nr(k:q)(h:Hk q→p:=by intro qk;refine R.fin [] ?_;refine Z86 ?_;exact qk.h):p:=h ⟨k⟩
theorem ul(h:p:=by refine Sv ?_;exact Z69):p:=h
theorem um(h:p:=by refine Z59 ?_;exact z8):p:=h
theorem un(k:q)(h:Hk q→p:=by intro qk;refine Z1 ?_;refine R.fin [2,3,18] ?_;exact qk.h):p:=h ⟨k⟩
theorem nt(k:q)(h:Hk q→p:=by intro qk;refine Z35 ?_;refine R.fin [0] ?_;exact qk.h):p:=h ⟨k⟩
theorem uo(h:p:=by refine Z15 ?_;refine Y.bot (fun B hT=>Q4 (hT 0 (by simp))) ?_;exact ux):p:=h
theorem uq(k:q)(h:Hk q→p:=by intro qk;refine Fi ?_;refine yz ?_;exact qk.h):p:=h ⟨k⟩
theorem nu(k:q)(h:Hk q→p:=by intro qk;refine AW.block ?_;refine Z11 ?_;exact qk.h):p:=h ⟨k⟩
theorem ur(h:p:=by refine Z21 ?_;refine Z27 ?_;exact ACa):p:=h
theorem ut(h:p:=by refine Z1 ?_;refine R.nilTmp 4 2 false ?_;refine R.go ?_;refine Z22 ?_;exact Z54):p:=h
theorem ABq(k:q)(h:Hk q→p:=by intro qk;refine Z2 ?_;refine jf ?_;exact qk.h):p:=h ⟨k⟩
theorem za(k:q)(h:Hk q→p:=by intro qk;refine R.go ?_;refine R.call Tryz.call84 (c84 e _) ?_;exact qk.h):p:=h ⟨k⟩
theorem jc(k:q)(h:Hk q→p:=by intro qk;refine Z23 ?_;refine Z16 ?_;refine R.go ?_;exact qk.h):p:=h ⟨k⟩
theorem uu(h:p:=by refine Z2 ?_;exact Z62):p:=h
theorem ABr(k:q)(h:Hk q→p:=by intro qk;refine R.buildSl jU jS jZ ?_;refine R.call Tryz.call26 (c26 s.phase [0,5] (by decide) _) ?_;exact qk.h):p:=h ⟨k⟩
theorem jd(k:q)(h:Hk q→p:=by intro qk;refine Z59 ?_;refine Z25 ?_;exact qk.h):p:=h ⟨k⟩
theorem ABs(k:q)(h:Hk q→p:=by intro qk;refine E0 ?_;refine Xh ?_;exact qk.h):p:=h ⟨k⟩
theorem je(k:q)(h:Hk q→p:=by intro qk;refine Z7 ?_;refine G.go ?_;exact qk.h):p:=h ⟨k⟩
theorem Xg(h:p:=by exact ⟨rfl,Below.refl _ _⟩):p:=h
theorem ABt(h:p:=by exact h (y,j) (by rw [List.mem_zipIdx_iff_getElem?];exact hj)):p:=h
theorem aq(h:p:=by exact K.fin (V.one V.tmp)):p:=h
theorem ar(k:q)(h:Hk q→p:=by intro qk;refine R.fin [0,1,5,7,8,16] ?_;exact qk.h):p:=h ⟨k⟩
theorem L8(k:q)(h:Hk q→p:=by intro qk;refine R.makeFunc ?_;exact qk.h):p:=h ⟨k⟩
theorem Fi(k:q)(h:Hk q→p:=by intro qk;refine R.storeOwn jS ?_;exact qk.h):p:=h ⟨k⟩
theorem I5(k:q)(h:Hk q→p:=by intro qk;refine R.fin [2,3] ?_;exact qk.h):p:=h ⟨k⟩
theorem jf(k:q)(h:Hk q→p:=by intro qk;refine R.build (places:=#[(0,1),(1,1),(2,1)]) jU (fun w=>by simp) jZ ?_;exact qk.h):p:=h ⟨k⟩
theorem ABu(h:p:=by exact K.fin (V.one V.tmp) ⟨by simp only [Bs,hp,ht7,ht14,ht23,ht27,Bool.not_true,Bool.false_eq_true,if_false,if_true];try rfl,rfl⟩):p:=h
theorem ABv(h:p:=by exact K.fin (V.two (V.cellN jA jS) V.tmp) ⟨by simp only [Tq,ht17,if_true,if_false,Bool.false_eq_true];rfl,rfl⟩):p:=h
theorem E0(k:q)(h:Hk q→p:=by intro qk;refine AW.seqR ?_;exact qk.h):p:=h ⟨k⟩
theorem L9(k:q)(h:Hk q→p:=by intro qk;refine R.fin [0,3] ?_;exact qk.h):p:=h ⟨k⟩
theorem ABw(h:p:=by exact K.fin (V.four V.tmp V.tmp V.tmp V.tmp) ⟨by simp only [Jb,ht11,ht17,if_true,if_false,Bool.false_eq_true];try rfl,rfl⟩):p:=h
theorem ABx(h:p:=by exact K.fin (V.four V.tmp V.tmp V.tmp V.tmp) ⟨by simp only [K9,ht18,ht23,if_true,if_false,Bool.false_eq_true];try rfl,rfl⟩):p:=h
theorem ABy(h:p:=by exact K.fin (V.four V.tmp V.tmp V.tmp V.tmp) ⟨by simp only [Au,ht6,ht17,ht28,if_true,if_false,Bool.false_eq_true],rfl⟩):p:=h
theorem nv(h:p:=by exact absurd h (by decide)):p:=h
theorem J8(k:q)(h:Hk q→p:=by intro qk;refine R.alloc jZ ?_;exact qk.h):p:=h ⟨k⟩
theorem zb(k:q)(h:Hk q→p:=by intro qk;refine K.rdN (yf hL (De (by decide)) (De (by decide))) ?_;exact qk.h):p:=h ⟨k⟩
theorem Qi(k:q)(h:Hk q→p:=by intro qk;refine R.buildSlice jU jS jZ ?_;exact qk.h):p:=h ⟨k⟩
theorem Xh(k:q)(h:Hk q→p:=by intro qk;refine R.build (places:=#[(0,1),(1,1)]) jU (fun w=>by simp) jZ ?_;exact qk.h):p:=h ⟨k⟩
theorem nw(h:p:=by exact ⟨hFRl,by simp [oid]⟩):p:=h
theorem nx(h:p:=by exact Jd (fun x hx=>ObjLow.le (by omega) (hlow x hx)) hOl x hx):p:=h
theorem zc(k:q)(h:Hk q→p:=by intro qk;refine K.rdR (yf hL (De (by decide)) (De (by decide))) ?_;exact qk.h):p:=h ⟨k⟩
theorem uv(k:q)(h:Hk q→p:=by intro qk;refine K.rdN (n8 hL (De (by decide))) ?_;exact qk.h):p:=h ⟨k⟩
theorem au(k:q)(h:Hk q→p:=by intro qk;refine R.fin [0,1,2,6] ?_;exact qk.h):p:=h ⟨k⟩
theorem ny(k:q)(h:Hk q→p:=by intro qk;refine R.build (places:=#[(0,1),(1,1),(2,3),(5,1)]) jU (fun w=>by simp) jZ ?_;exact qk.h):p:=h ⟨k⟩
theorem ABz(h:p:=by exact ⟨Nat.lt_succ_self i,hl.step hi (by rw [hk];decide)⟩):p:=h
theorem av(h:p:=by exact ⟨by omega,c2,c3⟩):p:=h
theorem Vo(h:p:=by exact Ji (by kernel_rfl) h61):p:=h
theorem AC0(h:p:=by exact ⟨(L5 _ _ _).trans hS,fun h=>absurd h (Hm (by decide) _)⟩):p:=h
theorem AC1(h:p:=by exact bad _ _ ((L5 _ _ _).trans hS) (Hm (by decide) _)):p:=h
theorem uw(h:p:=by exact fun h=>absurd h (Hm (by decide) _)):p:=h
theorem zd(h:p:=by exact ⟨by kernel_rfl,by decide +kernel,by decide +kernel⟩):p:=h
theorem ze(h:p:=by exact absurd hc (Hm (by decide) _)):p:=h
theorem aw(h:p:=by exact ⟨(fun h=>by cases h),(fun h=>by cases h)⟩):p:=h
theorem jg(k:q)(h:Hk q→p:=by intro qk;refine R.fin [2,6,13,14,15] ?_;exact qk.h):p:=h ⟨k⟩
theorem zf(h:p:=by exact K.fin (V.two V.tmp V.tmp) ⟨by rw [hk],rfl⟩):p:=h
theorem zg(h:p:=by exact K.fin (V.one V.tmp) ⟨rfl,rfl⟩):p:=h
theorem zh(h:p:=by exact K.fin (V.one V.tmp) ⟨by rw [hm],rfl⟩):p:=h
theorem AC2(h:p:=by exact K.fin (V.one V.tmp) ⟨by rw [hn];first|(simp only [ht22,ht25,ht33,ht41,ht41,ht50,ht58,hk3,hk6,Bool.true_or,Bool.false_or,Bool.or_true,Bool.or_false,if_true,if_false,Bool.false_eq_true,↓reduceIte]<;>rfl)|(simp only [ht22,ht25,ht33,ht41,ht41,ht50,ht58,hk3,Bool.true_or,Bool.false_or,Bool.or_true,if_true,if_false,Bool.false_eq_true,↓reduceIte]<;>rfl)|(simp only [ht22,ht25,ht33,ht41,ht41,ht50,ht58,if_true,if_false,Bool.false_eq_true,↓reduceIte]<;>rfl),rfl⟩):p:=h
theorem nz(h:p:=by exact K.fin (V.one V.tmp) ⟨by rw [hm]<;>rfl,rfl⟩):p:=h
theorem AC3(h:p:=by exact K.fin (V.two V.tmp V.tmp) ⟨by rw [hsh]<;>rfl,rfl⟩):p:=h
theorem Np(h:p:=by exact D.end rfl rfl):p:=h
theorem ux(h:p:=by exact Y.endBot (Q4 rfl)):p:=h
theorem zi(k:q)(h:Hk q→p:=by intro qk;refine RK.callBad Tryz.call74 (c74 L i o 8 _ (A4 ho) hi) ?_;exact qk.h):p:=h ⟨k⟩
theorem AC4(h:p:=by exact K.finPP ⟨_,_,by unfold Kj;rw [hT];rfl,rfl,j',m,dl hne hm⟩):p:=h
theorem AC5(h:p:=by exact (s8 L i o _ (A4 (B6 ho hne)) hi hl hll).ok hT):p:=h
theorem o4(k:q)(h:Hk q→p:=by intro qk;refine AW.upEq (Ng ho hm).symm ?_;exact qk.h):p:=h ⟨k⟩
theorem AC6(k:q)(h:Hk q→p:=by intro qk;refine RK.callBad Tryz.call137 ((dm L m i o om (U2 L Hp o om i (mvO m)++[.cells 97 [.ptr o 0],.cells 159 [.ptr om 0]]) hne (A4 (B6 ho hne)) (A4 (Cf hm)) hi hl hll hb).bad h1) ?_;exact qk.h):p:=h ⟨k⟩
theorem uz(h:p:=by exact K.fin (V.two V.tmp V.tmp) ⟨by rw [hm]<;>rfl,rfl⟩):p:=h
theorem AC7(h:p:=by exact K.fin (V.two V.tmp V.tmp) ⟨by rw [e]<;>rfl,rfl⟩):p:=h
theorem AC8(h:p:=by exact K.fin (V.two V.tmp V.tmp) ⟨by rw [hm]<;>rfl,rfl⟩ (hlow:=by simpa using (Kl (n:=Hp.length) (k:=5) (o:=false)))):p:=h
theorem AC9(h:p:=by exact K.fin (V.one (V.cellN jA jS)) ⟨by unfold V4;simp [*]<;>rfl,rfl⟩ (hlow:=by simp [or_imp,forall_and])):p:=h
theorem zj(k:q)(h:Hk q→p:=by intro qk;refine R.build (places:=#[(0,1),(1,1),(2,1),(3,1),(4,1),(5,1),(6,1)]) jU (fun w=>by simp) jZ ?_;exact qk.h):p:=h ⟨k⟩
theorem zk(k:q)(h:Hk q→p:=by intro qk;refine R.build (places:=#[(0,1),(1,1),(2,1),(3,1)]) jU (fun w=>by simp) jZ ?_;exact qk.h):p:=h ⟨k⟩
theorem ACa(h:p:=by exact K.fin (V.one (V.cellN jA jS)) ⟨by first|exact AAd (by simp_all [Fq])|exact r9 (by simp_all [Fq])|exact AAe (by simp_all [Fq]),rfl⟩):p:=h
theorem ACb(h:p:=by exact K.fin (V.one (V.cellN jA jS)) ⟨by first|exact r9 (by simp_all [He]),rfl⟩):p:=h
theorem zl(h:p:=by exact K.fin (V.two (V.cellN jA jS) V.tmp) ⟨by rw [hm]<;>rfl,rfl⟩ (hlow:=by simp [or_imp,forall_and])):p:=h
theorem ACc(h:p:=by exact K.fin (V.one V.tmp) ⟨by simp_all [B3,Gq],rfl⟩):p:=h
theorem ACd(h:p:=by exact K.fin (V.one V.tmp) ⟨by unfold H6;simp_all,rfl⟩):p:=h
end Go.SX.Nb
namespace Go.SX.Nb
open Go Go.SX Go.Proofs
@[reducible,instance] def JA2:=JA.mk (P:=Tryz.prog) Tryz.isAgg2
@[reducible,instance] def JA3:=JA.mk (P:=Tryz.prog) Tryz.isAgg3
@[reducible,instance] def JA4:=JA.mk (P:=Tryz.prog) Tryz.isAgg4
@[reducible,instance] def JA9:=JA.mk (P:=Tryz.prog) Tryz.isAgg9
@[reducible,instance] def AG4:=JA.mk (P:=Tryz.prog) Tryz.isAgg22
@[reducible,instance] def AG5:=JA.mk (P:=Tryz.prog) Tryz.isAgg26
@[reducible,instance] def AG6:=JA.mk (P:=Tryz.prog) Tryz.isAgg28
@[reducible,instance] def AG7:=JA.mk (P:=Tryz.prog) Tryz.isAgg32
@[reducible,instance] def AG8:=JA.mk (P:=Tryz.prog) Tryz.isAgg35
@[reducible,instance] def AG9:=JA.mk (P:=Tryz.prog) Tryz.isAgg39
@[reducible,instance] def AGa:=JA.mk (P:=Tryz.prog) Tryz.isAgg48
@[reducible,instance] def AGb:=JA.mk (P:=Tryz.prog) Tryz.isAgg59
@[reducible,instance] def AGc:=JA.mk (P:=Tryz.prog) Tryz.isAgg63
@[reducible,instance] def AGd:=JA.mk (P:=Tryz.prog) Tryz.isAgg74
@[reducible,instance] def AGe:=JA.mk (P:=Tryz.prog) Tryz.isAgg75
@[reducible,instance] def AGf:=JA.mk (P:=Tryz.prog) Tryz.isAgg77
@[reducible,instance] def AGg:=JA.mk (P:=Tryz.prog) Tryz.isAgg92
@[reducible,instance] def AGh:=JA.mk (P:=Tryz.prog) Tryz.isAgg94
@[reducible,instance] def AGi:=JA.mk (P:=Tryz.prog) Tryz.isAgg97
@[reducible,instance] def AFk:=JA.mk (P:=Tryz.prog) Tryz.isAgg103
@[reducible,instance] def AFl:=JA.mk (P:=Tryz.prog) Tryz.isAgg130
@[reducible,instance] def AFm:=JA.mk (P:=Tryz.prog) Tryz.isAgg159
@[reducible,instance] def AFn:=JA.mk (P:=Tryz.prog) Tryz.isAgg206
@[reducible,instance] def AFo:=JA.mk (P:=Tryz.prog) Tryz.isAgg250
@[reducible,instance] def JS2:=JS.mk (P:=Tryz.prog) Tryz.sizeOf2
@[reducible,instance] def JS3:=JS.mk (P:=Tryz.prog) Tryz.sizeOf3
@[reducible,instance] def JS4:=JS.mk (P:=Tryz.prog) Tryz.sizeOf4
@[reducible,instance] def JS9:=JS.mk (P:=Tryz.prog) Tryz.sizeOf9
@[reducible,instance] def AGj:=JS.mk (P:=Tryz.prog) Tryz.sizeOf22
@[reducible,instance] def AGk:=JS.mk (P:=Tryz.prog) Tryz.sizeOf26
@[reducible,instance] def AGl:=JS.mk (P:=Tryz.prog) Tryz.sizeOf28
@[reducible,instance] def AGm:=JS.mk (P:=Tryz.prog) Tryz.sizeOf32
@[reducible,instance] def AGn:=JS.mk (P:=Tryz.prog) Tryz.sizeOf35
@[reducible,instance] def AGo:=JS.mk (P:=Tryz.prog) Tryz.sizeOf39
@[reducible,instance] def AGp:=JS.mk (P:=Tryz.prog) Tryz.sizeOf48
@[reducible,instance] def AGq:=JS.mk (P:=Tryz.prog) Tryz.sizeOf59
@[reducible,instance] def AGr:=JS.mk (P:=Tryz.prog) Tryz.sizeOf63
@[reducible,instance] def AGs:=JS.mk (P:=Tryz.prog) Tryz.sizeOf74
@[reducible,instance] def AGt:=JS.mk (P:=Tryz.prog) Tryz.sizeOf75
@[reducible,instance] def AGu:=JS.mk (P:=Tryz.prog) Tryz.sizeOf77
@[reducible,instance] def AGv:=JS.mk (P:=Tryz.prog) Tryz.sizeOf92
@[reducible,instance] def AGw:=JS.mk (P:=Tryz.prog) Tryz.sizeOf94
@[reducible,instance] def AFp:=JS.mk (P:=Tryz.prog) Tryz.sizeOf103
@[reducible,instance] def AFq:=JS.mk (P:=Tryz.prog) Tryz.sizeOf116
@[reducible,instance] def AFr:=JS.mk (P:=Tryz.prog) Tryz.sizeOf130
@[reducible,instance] def AFs:=JS.mk (P:=Tryz.prog) Tryz.sizeOf206
@[reducible,instance] def JU3:=JU.mk (P:=Tryz.prog) Tryz.underlying3
@[reducible,instance] def JU4:=JU.mk (P:=Tryz.prog) Tryz.underlying4
@[reducible,instance] def JU5:=JU.mk (P:=Tryz.prog) Tryz.underlying5
@[reducible,instance] def JU9:=JU.mk (P:=Tryz.prog) Tryz.underlying9
@[reducible,instance] def AGx:=JU.mk (P:=Tryz.prog) Tryz.underlying20
@[reducible,instance] def AGy:=JU.mk (P:=Tryz.prog) Tryz.underlying22
@[reducible,instance] def AGz:=JU.mk (P:=Tryz.prog) Tryz.underlying23
@[reducible,instance] def AH0:=JU.mk (P:=Tryz.prog) Tryz.underlying28
@[reducible,instance] def AH1:=JU.mk (P:=Tryz.prog) Tryz.underlying32
@[reducible,instance] def AH2:=JU.mk (P:=Tryz.prog) Tryz.underlying35
@[reducible,instance] def AH3:=JU.mk (P:=Tryz.prog) Tryz.underlying39
@[reducible,instance] def AH4:=JU.mk (P:=Tryz.prog) Tryz.underlying48
@[reducible,instance] def AH5:=JU.mk (P:=Tryz.prog) Tryz.underlying59
@[reducible,instance] def AH6:=JU.mk (P:=Tryz.prog) Tryz.underlying63
@[reducible,instance] def AH7:=JU.mk (P:=Tryz.prog) Tryz.underlying74
@[reducible,instance] def AH8:=JU.mk (P:=Tryz.prog) Tryz.underlying75
@[reducible,instance] def AH9:=JU.mk (P:=Tryz.prog) Tryz.underlying77
@[reducible,instance] def AHa:=JU.mk (P:=Tryz.prog) Tryz.underlying91
@[reducible,instance] def AHb:=JU.mk (P:=Tryz.prog) Tryz.underlying92
@[reducible,instance] def AHc:=JU.mk (P:=Tryz.prog) Tryz.underlying94
@[reducible,instance] def AHd:=JU.mk (P:=Tryz.prog) Tryz.underlying99
@[reducible,instance] def AFt:=JU.mk (P:=Tryz.prog) Tryz.underlying103
@[reducible,instance] def AFu:=JU.mk (P:=Tryz.prog) Tryz.underlying130
@[reducible,instance] def AFv:=JU.mk (P:=Tryz.prog) Tryz.underlying199
@[reducible,instance] def AFw:=JU.mk (P:=Tryz.prog) Tryz.underlying206
@[reducible,instance] def AFx:=JU.mk (P:=Tryz.prog) Tryz.underlying252
@[reducible,instance] def JZ3:=JZ.mk (P:=Tryz.prog) Tryz.zeroValue3
@[reducible,instance] def JZ4:=JZ.mk (P:=Tryz.prog) Tryz.zeroValue4
@[reducible,instance] def JZ9:=JZ.mk (P:=Tryz.prog) Tryz.zeroValue9
@[reducible,instance] def AHe:=JZ.mk (P:=Tryz.prog) Tryz.zeroValue22
@[reducible,instance] def AHf:=JZ.mk (P:=Tryz.prog) Tryz.zeroValue26
@[reducible,instance] def AHg:=JZ.mk (P:=Tryz.prog) Tryz.zeroValue28
@[reducible,instance] def AHh:=JZ.mk (P:=Tryz.prog) Tryz.zeroValue32
@[reducible,instance] def AHi:=JZ.mk (P:=Tryz.prog) Tryz.zeroValue35
@[reducible,instance] def AHj:=JZ.mk (P:=Tryz.prog) Tryz.zeroValue39
@[reducible,instance] def AHk:=JZ.mk (P:=Tryz.prog) Tryz.zeroValue48
@[reducible,instance] def AHl:=JZ.mk (P:=Tryz.prog) Tryz.zeroValue59
@[reducible,instance] def AHm:=JZ.mk (P:=Tryz.prog) Tryz.zeroValue63
@[reducible,instance] def AHn:=JZ.mk (P:=Tryz.prog) Tryz.zeroValue77
@[reducible,instance] def AHo:=JZ.mk (P:=Tryz.prog) Tryz.zeroValue94
@[reducible,instance] def AHp:=JZ.mk (P:=Tryz.prog) Tryz.zeroValue99
@[reducible,instance] def AFy:=JZ.mk (P:=Tryz.prog) Tryz.zeroValue103
@[reducible,instance] def AFz:=JZ.mk (P:=Tryz.prog) Tryz.zeroValue116
@[reducible,instance] def AG0:=JZ.mk (P:=Tryz.prog) Tryz.zeroValue130
@[reducible,instance] def AG1:=JZ.mk (P:=Tryz.prog) Tryz.zeroValue199
@[reducible,instance] def AG2:=JZ.mk (P:=Tryz.prog) Tryz.zeroValue206
@[reducible,instance] def AG3:=JZ.mk (P:=Tryz.prog) Tryz.zeroValue252
end Go.SX.Nb
