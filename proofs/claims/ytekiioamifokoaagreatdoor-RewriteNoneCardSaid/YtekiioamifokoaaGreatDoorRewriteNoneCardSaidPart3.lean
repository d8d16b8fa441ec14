/- On the way (part 3). -/
import Derived.Test.YtekiioamifokoaaGreatDoorProg
import Derived.Test.YtekiioamifokoaaGreatDoorRewriteNoneCardSaidPart2
set_option linter.all false
namespace Go.SX.Nb
open Go Go.SX Go.Proofs
structure Hk (q:Prop):Prop where h:q
variable {p q:Prop}
theorem Z0(k:q)(h:Hk q→p:=by intro qk;refine A5 ?_;refine A5 ?_;exact qk.h):p:=h ⟨k⟩
theorem Z1(k:q)(h:Hk q→p:=by intro qk;refine Ez ?_;refine Z0 ?_;exact qk.h):p:=h ⟨k⟩
theorem Z2(k:q)(h:Hk q→p:=by intro qk;refine Ez ?_;refine A5 ?_;exact qk.h):p:=h ⟨k⟩
theorem Z3(k:q)(h:Hk q→p:=by intro qk;refine Mw ?_;refine Gg ?_;exact qk.h):p:=h ⟨k⟩
theorem Z4(k:q)(h:Hk q→p:=by intro qk;refine A2 [2] ?_;refine Fs ?_;exact qk.h):p:=h ⟨k⟩
theorem Z5(k:q)(h:Hk q→p:=by intro qk;refine K.blR ?_;refine C9 ?_;exact qk.h):p:=h ⟨k⟩
theorem Z6(k:q)(h:Hk q→p:=by intro qk;refine Cd ?_;refine Cd ?_;exact qk.h):p:=h ⟨k⟩
theorem Z7(k:q)(h:Hk q→p:=by intro qk;refine Jw ?_;refine Z1 ?_;exact qk.h):p:=h ⟨k⟩
theorem Z8(k:q)(h:Hk q→p:=by intro qk;refine Aq ?_;refine Aq ?_;exact qk.h):p:=h ⟨k⟩
theorem Z9(k:q)(h:Hk q→p:=by intro qk;refine Fw ?_;refine A5 ?_;exact qk.h):p:=h ⟨k⟩
theorem Z10(k:q)(h:Hk q→p:=by intro qk;refine A2 [4,5] ?_;refine Fs ?_;exact qk.h):p:=h ⟨k⟩
theorem Z11(k:q)(h:Hk q→p:=by intro qk;refine A2 [4] ?_;refine Fs ?_;exact qk.h):p:=h ⟨k⟩
theorem Z12(k:q)(h:Hk q→p:=by intro qk;refine M4 ?_;refine Gg ?_;exact qk.h):p:=h ⟨k⟩
theorem Z13(k:q)(h:Hk q→p:=by intro qk;refine Z0 ?_;refine A5 ?_;exact qk.h):p:=h ⟨k⟩
theorem Z14(k:q)(h:Hk q→p:=by intro qk;refine R0 ?_;refine Fw ?_;exact qk.h):p:=h ⟨k⟩
theorem Z15(k:q)(h:Hk q→p:=by intro qk;refine Z1 ?_;refine A5 ?_;exact qk.h):p:=h ⟨k⟩
theorem Z16(k:q)(h:Hk q→p:=by intro qk;refine Jw ?_;refine Jy ?_;exact qk.h):p:=h ⟨k⟩
theorem Z17(k:q)(h:Hk q→p:=by intro qk;refine A2 [6,7] ?_;refine Fs ?_;exact qk.h):p:=h ⟨k⟩
theorem Z18(h:p:=by refine Z5 ?_;exact AA1):p:=h
theorem Z19(k:q)(h:Hk q→p:=by intro qk;refine Mw ?_;refine Z12 ?_;exact qk.h):p:=h ⟨k⟩
theorem Z20(h:p:=by refine C9 ?_;exact uw):p:=h
theorem Z21(k:q)(h:Hk q→p:=by intro qk;refine n6 ?_;refine Fw ?_;exact qk.h):p:=h ⟨k⟩
theorem Z22(k:q)(h:Hk q→p:=by intro qk;refine Gf ?_;refine Z0 ?_;exact qk.h):p:=h ⟨k⟩
theorem Z23(k:q)(h:Hk q→p:=by intro qk;refine Z1 ?_;refine Z0 ?_;exact qk.h):p:=h ⟨k⟩
theorem Z24(k:q)(h:Hk q→p:=by intro qk;refine Ez ?_;refine R0 ?_;exact qk.h):p:=h ⟨k⟩
theorem Z25(h:p:=by refine C9 ?_;exact AA1):p:=h
theorem Z26(k:q)(h:Hk q→p:=by intro qk;refine uu ?_;refine Fw ?_;exact qk.h):p:=h ⟨k⟩
theorem Z28(k:q)(h:Hk q→p:=by intro qk;refine K.lpE ?_;refine Gg ?_;exact qk.h):p:=h ⟨k⟩
theorem Z29(k:q)(h:Hk q→p:=by intro qk;refine Ez ?_;refine R.buildLe (Yh Hz) AG0 (places:=#[(0,1),(1,6),(7,1)]) jU (fun w=>by simp) Tryz.zeroValue37 ?_;exact qk.h):p:=h ⟨k⟩
theorem Z30(k:q)(h:Hk q→p:=by intro qk;refine Jw ?_;refine Z2 ?_;exact qk.h):p:=h ⟨k⟩
theorem Z31(k:q)(h:Hk q→p:=by intro qk;refine Z7 ?_;refine A5 ?_;exact qk.h):p:=h ⟨k⟩
theorem Z32(k:q)(h:Hk q→p:=by intro qk;refine Z5 ?_;refine K.lpR ?_;exact qk.h):p:=h ⟨k⟩
theorem Z33(k:q)(h:Hk q→p:=by intro qk;refine Z8 ?_;refine Aq ?_;exact qk.h):p:=h ⟨k⟩
theorem Z34(k:q)(h:Hk q→p:=by intro qk;refine Fs ?_;refine C9 ?_;exact qk.h):p:=h ⟨k⟩
theorem Z35(k:q)(h:Hk q→p:=by intro qk;refine Z0 ?_;refine Z6 ?_;exact qk.h):p:=h ⟨k⟩
theorem Z36(k:q)(h:Hk q→p:=by intro qk;refine Z2 ?_;refine A2 [0,1] ?_;exact qk.h):p:=h ⟨k⟩
theorem Z37(h:p:=by refine Z34 ?_;exact AM8):p:=h
theorem Z38(h:p:=by refine D.buildSlice jU jS jZ ?_;exact ir):p:=h
theorem Z39(k:q)(h:Hk q→p:=by intro qk;refine Fw ?_;refine Z4 ?_;exact qk.h):p:=h ⟨k⟩
theorem Z40(h:p:=by refine C9 ?_;exact AI7):p:=h
theorem Z41(k:q)(h:Hk q→p:=by intro qk;refine Z2 ?_;refine Z11 ?_;exact qk.h):p:=h ⟨k⟩
theorem Z42(k:q)(h:Hk q→p:=by intro qk;refine Ez ?_;refine Tj ?_;exact qk.h):p:=h ⟨k⟩
theorem Z43(k:q)(h:Hk q→p:=by intro qk;refine Z2 ?_;refine A2 [0] ?_;exact qk.h):p:=h ⟨k⟩
theorem Z44(k:q)(h:Hk q→p:=by intro qk;refine Gf ?_;refine A5 ?_;exact qk.h):p:=h ⟨k⟩
theorem Z45(k:q)(h:Hk q→p:=by intro qk;refine Aa Tryz.call171 (AQ7 _ _) ?_;refine Z0 ?_;exact qk.h):p:=h ⟨k⟩
theorem Z46(h:p:=by refine C9 ?_;exact AA0):p:=h
theorem Z47(k:q)(h:Hk q→p:=by intro qk;refine Z9 ?_;refine Z10 ?_;exact qk.h):p:=h ⟨k⟩
theorem Z48(k:q)(h:Hk q→p:=by intro qk;refine Cd ?_;refine A5 ?_;exact qk.h):p:=h ⟨k⟩
theorem Z49(k:q)(h:Hk q→p:=by intro qk;refine Gf ?_;refine Z13 ?_;exact qk.h):p:=h ⟨k⟩
theorem Z50(h:p:=by refine Z5 ?_;exact A8 (Ak A9) ⟨by rw [hn];first|(simp only [ht22,ht25,ht33,ht41,ht41,hk3,hk6,Kr,F6,Kq,Qg,if_true,if_false,Bt,↓reduceIte]<;>rfl)|(simp only [ht22,ht25,ht33,ht41,ht41,hk3,Kr,F6,Kq,if_true,if_false,Bt,↓reduceIte]<;>rfl)|(simp only [ht22,ht25,ht33,ht41,ht41,if_true,if_false,Bt,↓reduceIte]<;>rfl),rfl⟩):p:=h
theorem Z52(k:q)(h:Hk q→p:=by intro qk;refine R0 ?_;refine A5 ?_;exact qk.h):p:=h ⟨k⟩
theorem Z53(h:p:=by refine Z47 ?_;exact AA1):p:=h
theorem Z54(k:q)(h:Hk q→p:=by intro qk;refine Jw ?_;refine Ez ?_;exact qk.h):p:=h ⟨k⟩
theorem Z55(h:p:=by refine Aq ?_;exact ir):p:=h
theorem Z56(h:p:=by refine K.thJ ?_;exact Bj (by simp [*])):p:=h
theorem Z57(k:q)(h:Hk q→p:=by intro qk;refine Z0 ?_;refine Z0 ?_;exact qk.h):p:=h ⟨k⟩
theorem Z58(k:q)(h:Hk q→p:=by intro qk;refine Z2 ?_;refine Z4 ?_;exact qk.h):p:=h ⟨k⟩
theorem Z59(k:q)(h:Hk q→p:=by intro qk;refine Zy ?_;refine K.thE ?_;exact qk.h):p:=h ⟨k⟩
theorem Z60(k:q)(h:Hk q→p:=by intro qk;refine Kc ?_;refine Fs ?_;exact qk.h):p:=h ⟨k⟩
theorem Z61(h:p:=by refine Z5 ?_;exact ALn):p:=h
theorem Z62(k:q)(h:Hk q→p:=by intro qk;refine Z32 ?_;refine C9 ?_;exact qk.h):p:=h ⟨k⟩
theorem Z63(k:q)(h:Hk q→p:=by intro qk;refine Z24 ?_;refine A2 [0,2] ?_;exact qk.h):p:=h ⟨k⟩
theorem Z65(k:q)(h:Hk q→p:=by intro qk;refine Z0 ?_;refine Z4 ?_;exact qk.h):p:=h ⟨k⟩
theorem Z66(k:q)(h:Hk q→p:=by intro qk;refine AM2 ?_;refine Y.storeOwnT (u:=Hp.length) (n:=1) (t':=24) (cs:=[A3 0,A3 0,Ac []]) (cs':=[A3 (B9 ra).1.kind,A3 (B9 ra).1.n,Ac (B9 ra).1.s]) Tryz.sizeOf24 (fun B hT hF hB=>⟨rfl,by simp [hT 0 (by simp),hB],by simp [upd,hT 0 (by simp),hB],rfl⟩) ?_;exact qk.h):p:=h ⟨k⟩
theorem Z67(k:q)(h:Hk q→p:=by intro qk;refine Z2 ?_;refine Ch Tryz.call233 ho (by simp) Dd (ABa l S o _ (Ag ho) hi hll) ?_;exact qk.h):p:=h ⟨k⟩
theorem Z68(k:q)(h:Hk q→p:=by intro qk;refine Z9 ?_;refine Z17 ?_;exact qk.h):p:=h ⟨k⟩
theorem Z69(k:q)(h:Hk q→p:=by intro qk;refine Z6 ?_;refine Cd ?_;exact qk.h):p:=h ⟨k⟩
theorem Z71(h:p:=by refine Z8 ?_;exact ir):p:=h
theorem Z72(k:q)(h:Hk q→p:=by intro qk;refine A2 [6] ?_;refine Fs ?_;exact qk.h):p:=h ⟨k⟩
theorem Z73(k:q)(h:Hk q→p:=by intro qk;refine Z19 ?_;refine Z22 ?_;exact qk.h):p:=h ⟨k⟩
theorem Z74(h:p:=by refine A2 [] ?_;exact Es .nores (hp:=⟨rfl,by first|(rw [e];exact (c9 hne ho hoq).symm)|(rw [e];exact (Ce (wr hne hoq)).symm)|(rw [e];simp only [Bu];exact (Ce (wr hne hoq)).symm)|(rw [e];simp only [Bu];rw [ACe hne];rfl)|(rw [e];simp only [Bu];rw [Mr _ _ hne];rfl)⟩)):p:=h
theorem Z75(h:p:=by refine Z5 ?_;exact AM8):p:=h
theorem Z76(k:q)(h:Hk q→p:=by intro qk;refine Z16 ?_;refine Ez ?_;exact qk.h):p:=h ⟨k⟩
theorem Z77(k:q)(h:Hk q→p:=by intro qk;refine Z35 ?_;refine Z6 ?_;exact qk.h):p:=h ⟨k⟩
theorem Z78(k:q)(h:Hk q→p:=by intro qk;refine Z13 ?_;refine R0 ?_;exact qk.h):p:=h ⟨k⟩
theorem Z80(k:q)(h:Hk q→p:=by intro qk;refine A5 ?_;refine Tj ?_;exact qk.h):p:=h ⟨k⟩
theorem Z81(k:q)(h:Hk q→p:=by intro qk;refine Z0 ?_;refine Z13 ?_;exact qk.h):p:=h ⟨k⟩
theorem Z82(k:q)(h:Hk q→p:=by intro qk;refine Ez ?_;refine ur ?_;exact qk.h):p:=h ⟨k⟩
theorem Z83(k:q)(h:Hk q→p:=by intro qk;refine Z7 ?_;refine Z0 ?_;exact qk.h):p:=h ⟨k⟩
theorem Z84(h:p:=by refine C9 ?_;exact A8 (Ak (B3 jA jS)) ⟨by rw [e,Al],by rw [e]⟩ (hlow:=low_agg _)):p:=h
theorem Z87(k:q)(h:Hk q→p:=by intro qk;refine H.go ?_;refine H.go ?_;exact qk.h):p:=h ⟨k⟩
theorem Z89(k:q)(h:Hk q→p:=by intro qk;refine Z2 ?_;refine Fw ?_;exact qk.h):p:=h ⟨k⟩
theorem Z90(k:q)(h:Hk q→p:=by intro qk;refine A2 [2,3,4,5] ?_;refine Fs ?_;exact qk.h):p:=h ⟨k⟩
theorem Z91(k:q)(h:Hk q→p:=by intro qk;refine A2 [] ?_;refine M4 ?_;exact qk.h):p:=h ⟨k⟩
theorem Z92(k:q)(h:Hk q→p:=by intro qk;refine Z8 ?_;refine Ht ?_;exact qk.h):p:=h ⟨k⟩
theorem Z93(k:q)(h:Hk q→p:=by intro qk;refine Z1 ?_;refine A2 [1] ?_;exact qk.h):p:=h ⟨k⟩
theorem Z94(k:q)(h:Hk q→p:=by intro qk;refine ALw ?_;refine Ed (tn:=[5])  ?_;exact qk.h):p:=h ⟨k⟩
theorem Z95(h:p:=by refine Z41 ?_;exact uw):p:=h
theorem Z96(k:q)(h:Hk q→p:=by intro qk;refine Z2 ?_;refine n6 ?_;exact qk.h):p:=h ⟨k⟩
theorem Z97(h:p:=by refine Z47 ?_;exact Z18):p:=h
theorem Z98(k:q)(h:Hk q→p:=by intro qk;refine Z3 ?_;refine Z1 ?_;exact qk.h):p:=h ⟨k⟩
theorem Z99(h:p:=by refine Z65 ?_;exact uq):p:=h
theorem ADq(h:p:=by refine C9 ?_;exact A8 (B1 (Dm jA) (Dm jA)) ⟨by rw [hm];rfl,rfl⟩):p:=h
theorem ea(k:q)(h:Hk q→p:=by intro qk;refine Z2 ?_;refine A2 [0,1,7,8,9] ?_;exact qk.h):p:=h ⟨k⟩
theorem Oh(k:q)(h:Hk q→p:=by intro qk;refine Z3 ?_;refine Z16 ?_;exact qk.h):p:=h ⟨k⟩
theorem Qw(k:q)(h:Hk q→p:=by intro qk;refine A5 ?_;refine Z14 ?_;exact qk.h):p:=h ⟨k⟩
theorem AK1(h:p:=by refine Z68 ?_;exact A8 (B1 (B3 jA jS) A9) ⟨by rw [AH8 ht43 ht54,htr]<;>rfl,rfl⟩ (hlow:=by simp [or_imp,forall_and]<;>(repeat' apply And.intro)<;>(intros;exact Ah _ _))):p:=h
theorem AK2(h:p:=by refine C9 ?_;exact A8 (B1 (B3 jA jS) A9) ⟨by rw [AH7 ht43,htr]<;>rfl,rfl⟩ (hlow:=by simp [or_imp,forall_and]<;>(repeat' apply And.intro)<;>(intros;exact Ah _ _))):p:=h
theorem AK3(h:p:=by refine C9 ?_;exact A8 (B1 (B3 jA jS) A9) ⟨by rw [ANe ht43 ht54]<;>rfl,rfl⟩ (hlow:=by simp [or_imp,forall_and]<;>(repeat' apply And.intro)<;>(intros;exact Ah _ _))):p:=h
theorem Pu(k:q)(h:Hk q→p:=by intro qk;refine Z59 ?_;refine Z28 ?_;exact qk.h):p:=h ⟨k⟩
theorem Oi(k:q)(h:Hk q→p:=by intro qk;refine Z3 ?_;refine Z30 ?_;exact qk.h):p:=h ⟨k⟩
theorem AK4(h:p:=by refine Z60 ?_;exact A8 (B1 (B3 jA jS) (B3 jA jS)) ⟨by rw [e]<;>rfl,rfl⟩ (hlow:=by have:=AFq (n:=Hp.length) (q:=(r3Q (Bd s).1).1);simp at this ⊢;exact this)):p:=h
theorem Pv(k:q)(h:Hk q→p:=by intro qk;refine Z78 ?_;refine Z9 ?_;exact qk.h):p:=h ⟨k⟩
theorem Ry(k:q)(h:Hk q→p:=by intro qk;refine Z12 ?_;refine Z22 ?_;exact qk.h):p:=h ⟨k⟩
theorem Qx(k:q)(h:Hk q→p:=by intro qk;refine Z0 ?_;refine Cd ?_;exact qk.h):p:=h ⟨k⟩
theorem AHi(h:p:=by refine Z34 ?_;exact A8 (B1 (B3 jA jS) (B3 jA jS)) ⟨by rw [e]<;>rfl,rfl⟩):p:=h
theorem Vf(k:q)(h:Hk q→p:=by intro qk;refine Jy ?_;refine Z1 ?_;exact qk.h):p:=h ⟨k⟩
theorem ib(k:q)(h:Hk q→p:=by intro qk;refine A5 ?_;refine Z17 ?_;exact qk.h):p:=h ⟨k⟩
theorem ADr(k:q)(h:Hk q→p:=by intro qk;refine Z52 ?_;refine Fw ?_;exact qk.h):p:=h ⟨k⟩
theorem Pw(k:q)(h:Hk q→p:=by intro qk;refine Z6 ?_;refine Z6 ?_;exact qk.h):p:=h ⟨k⟩
theorem AK5(h:p:=by refine Z5 ?_;exact ALt):p:=h
theorem zc(k:q)(h:Hk q→p:=by intro qk;refine A2 [] ?_;refine Z34 ?_;exact qk.h):p:=h ⟨k⟩
theorem eb(k:q)(h:Hk q→p:=by intro qk;refine Z1 ?_;refine Z10 ?_;exact qk.h):p:=h ⟨k⟩
theorem Qy(k:q)(h:Hk q→p:=by intro qk;refine Z3 ?_;refine Z15 ?_;exact qk.h):p:=h ⟨k⟩
theorem Rz(k:q)(h:Hk q→p:=by intro qk;refine Z16 ?_;refine Z2 ?_;exact qk.h):p:=h ⟨k⟩
theorem AHj(k:q)(h:Hk q→p:=by intro qk;refine Ez ?_;refine uu ?_;exact qk.h):p:=h ⟨k⟩
theorem AHk(h:p:=by refine Z11 ?_;exact uq):p:=h
theorem ic(k:q)(h:Hk q→p:=by intro qk;refine Z14 ?_;refine A2 [0,2,3] ?_;exact qk.h):p:=h ⟨k⟩
theorem mt(h:p:=by refine Z32 ?_;exact Z20):p:=h
theorem Qz(k:q)(h:Hk q→p:=by intro qk;refine Z3 ?_;refine Z2 ?_;exact qk.h):p:=h ⟨k⟩
theorem ec(k:q)(h:Hk q→p:=by intro qk;refine Z1 ?_;refine A2 [0,1] ?_;exact qk.h):p:=h ⟨k⟩
theorem ADs(h:p:=by refine Mw ?_;exact Z56):p:=h
theorem Zd(k:q)(h:Hk q→p:=by intro qk;refine Ez ?_;refine Z45 ?_;exact qk.h):p:=h ⟨k⟩
theorem AHl(k:q)(h:Hk q→p:=by intro qk;refine Z1 ?_;refine uu ?_;exact qk.h):p:=h ⟨k⟩
theorem AHm(h:p:=by refine Z5 ?_;exact ALp):p:=h
theorem ie(k:q)(h:Hk q→p:=by intro qk;refine A2 [6] ?_;refine Z34 ?_;exact qk.h):p:=h ⟨k⟩
theorem AHn(h:p:=by refine K.lpE ?_;exact Es .nores (hp:=by rw [hxe];exact hR (hxe ▸ hx.2))):p:=h
theorem Ze(k:q)(h:Hk q→p:=by intro qk;refine Ez ?_;refine Z14 ?_;exact qk.h):p:=h ⟨k⟩
theorem ig(k:q)(h:Hk q→p:=by intro qk;refine Z42 ?_;refine Z21 ?_;refine Z4 ?_;exact qk.h):p:=h ⟨k⟩
theorem AHo(k:q)(h:Hk q→p:=by intro qk;refine Dt [0,0,2,6,14,31,63,63,255,511] 8 Aj (by kernel_rfl) ?_;refine Z33 ?_;exact qk.h):p:=h ⟨k⟩
theorem ii(k:q)(h:Hk q→p:=by intro qk;refine Z1 ?_;refine Z11 ?_;exact qk.h):p:=h ⟨k⟩
theorem ADt(h:p:=by refine K.thJ ?_;exact Bj (by rw [e]<;>rfl)):p:=h
theorem Ti(k:q)(h:Hk q→p:=by intro qk;refine Z8 ?_;refine Z8 ?_;exact qk.h):p:=h ⟨k⟩
theorem AK6(h:p:=by refine A2 [] ?_;exact AMa):p:=h
theorem AK7(k:q)(h:Hk q→p:=by intro qk;refine Ed (tn:=[9,10]) (O:=[.cells 24 [A3 0,A3 0,Ac []],.cells 24 [A3 (B9 ra).1.kind,A3 (B9 ra).1.n,Ac (B9 ra).1.s]]) ?_;refine A5 ?_;exact qk.h):p:=h ⟨k⟩
theorem AK8(k:q)(h:Hk q→p:=by intro qk;refine Ia ?_;refine A5 ?_;exact qk.h):p:=h ⟨k⟩
theorem AK9(h:p:=by refine Mw ?_;exact AMa):p:=h
theorem ij(h:p:=by refine Z8 ?_;exact Z71):p:=h
theorem zd(h:p:=by refine Fd [2,3,9] ?_;exact ADs):p:=h
theorem ADu(h:p:=by refine Z39 ?_;exact A8 (Ak (B3 jA jS))):p:=h
theorem mu(k:q)(h:Hk q→p:=by intro qk;refine Z89 ?_;refine Fw ?_;exact qk.h):p:=h ⟨k⟩
theorem Zf(k:q)(h:Hk q→p:=by intro qk;refine Fs ?_;refine Z5 ?_;exact qk.h):p:=h ⟨k⟩
theorem AKa(h:p:=by refine A2 [0,1,7,8] ?_;exact Bg (x+1) ⟨hlt,El hlt hx.2 (by rw [ht16];simp)⟩ (by omega) (Dn rfl)):p:=h
theorem AKb(h:p:=by refine Z17 ?_;exact A8 (B1 (Dm jA) (Dm jA)) ⟨by rw [hy.2,hrun],rfl⟩ (hlow:=by simp [or_imp,forall_and])):p:=h
theorem AHp(h:p:=by refine Aa Tryz.call96 (c96 61 e hok (by decide) _) ?_;exact Z99):p:=h
theorem AHq(h:p:=by refine Z10 ?_;exact AI8):p:=h
theorem AKc(h:p:=by refine Z17 ?_;exact A8 (B1 (Dm jA) (Dm jA)) ⟨by rw [hy,hrun],rfl⟩ (hlow:=by simp [or_imp,forall_and])):p:=h
theorem AHr(h:p:=by refine Z65 ?_;refine Z5 ?_;exact AM9):p:=h
theorem uc(k:q)(h:Hk q→p:=by intro qk;refine Z52 ?_;refine A2 [1,2,3,6] ?_;exact qk.h):p:=h ⟨k⟩
theorem Zg(k:q)(h:Hk q→p:=by intro qk;refine Z35 ?_;refine Cd ?_;exact qk.h):p:=h ⟨k⟩
theorem AKd(h:p:=by refine A2 [] ?_;exact Es .nores (hp:=⟨sk m x,k,by unfold Va;rw [hT];rfl,rfl,by exact xc⟩)):p:=h
theorem Wn(k:q)(h:Hk q→p:=by intro qk;refine Z9 ?_;refine Z60 ?_;exact qk.h):p:=h ⟨k⟩
theorem ik(h:p:=by refine Z41 ?_;exact Z20):p:=h
theorem AHs(k:q)(h:Hk q→p:=by intro qk;refine Z1 ?_;refine n6 ?_;exact qk.h):p:=h ⟨k⟩
theorem mv(h:p:=by refine Aq ?_;exact Z38):p:=h
theorem ze(k:q)(h:Hk q→p:=by intro qk;refine Fw ?_;refine Kc ?_;exact qk.h):p:=h ⟨k⟩
theorem Wo(k:q)(h:Hk q→p:=by intro qk;refine Z69 ?_;refine Z0 ?_;exact qk.h):p:=h ⟨k⟩
theorem AHt(h:p:=by refine Z58 ?_;exact uw):p:=h
theorem ADv(h:p:=by refine Z33 ?_;exact ir):p:=h
theorem ud(k:q)(h:Hk q→p:=by intro qk;refine Z1 ?_;refine A2 [2,3,9] ?_;exact qk.h):p:=h ⟨k⟩
theorem ue(k:q)(h:Hk q→p:=by intro qk;refine Gf ?_;refine R.moveT ?_;exact qk.h):p:=h ⟨k⟩
theorem AKe(h:p:=by refine Z11 ?_;exact A8 (Ak A9) ⟨by first|(rw [hgy hf];rfl)|(rw [hgv hf];rfl),rfl⟩):p:=h
theorem AKf(h:p:=by refine D.build (places:=#[(0,1),(1,1),(2,6),(8,1)]) jU (fun w=>by simp) jZ ?_;exact ij):p:=h
theorem ee(k:q)(h:Hk q→p:=by intro qk;refine Z16 ?_;refine Z1 ?_;refine A2 [0,1,5,7,8] ?_;refine Z15 ?_;exact qk.h):p:=h ⟨k⟩
theorem il(k:q)(h:Hk q→p:=by intro qk;refine Z3 ?_;refine Ez ?_;exact qk.h):p:=h ⟨k⟩
theorem ef(k:q)(h:Hk q→p:=by intro qk;refine Z19 ?_;refine Z49 ?_;exact qk.h):p:=h ⟨k⟩
theorem eg(k:q)(h:Hk q→p:=by intro qk;refine Z36 ?_;refine Z31 ?_;refine A2 [0,1,7,8] ?_;exact qk.h):p:=h ⟨k⟩
theorem Zh(k:q)(h:Hk q→p:=by intro qk;refine Z3 ?_;refine Z23 ?_;exact qk.h):p:=h ⟨k⟩
theorem AHu(k:q)(h:Hk q→p:=by intro qk;refine Z68 ?_;refine C9 ?_;exact qk.h):p:=h ⟨k⟩
theorem AKg(h:p:=by refine Bg (x+1) ⟨hlt,El hlt hx.2 ht19⟩ (by omega) ?_;exact Dn (by simp)):p:=h
theorem ADw(h:p:=by refine Z4 ?_;exact uq):p:=h
theorem AKh(h:p:=by refine D.build (places:=#[(0,1),(1,1)]) jU (fun w=>by simp) jZ ?_;exact ir):p:=h
theorem zf(h:p:=by refine Z77 ?_;exact AHr):p:=h
theorem mw(k:q)(h:Hk q→p:=by intro qk;refine Jy ?_;refine Z7 ?_;exact qk.h):p:=h ⟨k⟩
theorem zg(k:q)(h:Hk q→p:=by intro qk;refine Ez ?_;refine Fw ?_;exact qk.h):p:=h ⟨k⟩
theorem mx(k:q)(h:Hk q→p:=by intro qk;refine Ez ?_;refine AK8 ?_;exact qk.h):p:=h ⟨k⟩
theorem AKi(h:p:=by refine C3 Tryz.call175 (fun hB=>AMe e.text Pn hs (by decide) _) ?_;exact zf):p:=h
theorem AHv(k:q)(h:Hk q→p:=by intro qk;refine Z2 ?_;refine Aa Tryz.call255 (AMj l S o _ (Ag ho) hi) ?_;exact qk.h):p:=h ⟨k⟩
theorem AHw(k:q)(h:Hk q→p:=by intro qk;refine Z2 ?_;refine Aa Tryz.call115 (AJj L i o _ (Ag ho) hi) ?_;exact qk.h):p:=h ⟨k⟩
theorem eh(k:q)(h:Hk q→p:=by intro qk;refine Z15 ?_;refine Z6 ?_;exact qk.h):p:=h ⟨k⟩
theorem Zi(k:q)(h:Hk q→p:=by intro qk;refine Z3 ?_;refine Z7 ?_;exact qk.h):p:=h ⟨k⟩
theorem AKj(h:p:=by refine ib ?_;exact A8 (B1 A9 A9) ⟨by unfold Y1;rw [hm];try rfl,rfl⟩):p:=h
theorem AKk(h:p:=by refine C9 ?_;exact A8 (B1 (Dm jA) (Dm jA)) ⟨by rw [hm]<;>rfl,rfl⟩):p:=h
theorem AHx(k:q)(h:Hk q→p:=by intro qk;refine Y.allocP Tryz.zeroValue118 ?_;refine Y.storeP Tryz.sizeOf118 ?_;exact qk.h):p:=h ⟨k⟩
theorem uf(h:p:=by refine Z23 ?_;refine Z10 ?_;refine Z5 ?_;exact ALz):p:=h
theorem ug(h:p:=by refine Z47 ?_;exact Z25):p:=h
theorem im(k:q)(h:Hk q→p:=by intro qk;refine Z24 ?_;refine A5 ?_;exact qk.h):p:=h ⟨k⟩
theorem ek(k:q)(h:Hk q→p:=by intro qk;refine Z7 ?_;refine Z13 ?_;exact qk.h):p:=h ⟨k⟩
theorem el(k:q)(h:Hk q→p:=by intro qk;refine Z36 ?_;refine Z1 ?_;exact qk.h):p:=h ⟨k⟩
theorem AKl(h:p:=by refine Z68 ?_;exact AA1):p:=h
theorem uh(k:q)(h:Hk q→p:=by intro qk;refine Mw ?_;refine M4 ?_;exact qk.h):p:=h ⟨k⟩
theorem AHy(h:p:=by refine Z32 ?_;exact A8 .nores (hp:=h5)):p:=h
theorem io(k:q)(h:Hk q→p:=by intro qk;refine Z6 ?_;refine A5 ?_;exact qk.h):p:=h ⟨k⟩
theorem zh(h:p:=by refine ii ?_;refine Z62 ?_;exact A8 (Ak A9) ⟨by rw [ABy hlt ht16 hx.2],rfl⟩):p:=h
theorem ip(k:q)(h:Hk q→p:=by intro qk;refine Z16 ?_;refine Z15 ?_;exact qk.h):p:=h ⟨k⟩
theorem my(k:q)(h:Hk q→p:=by intro qk;refine Z65 ?_;refine Z5 ?_;exact qk.h):p:=h ⟨k⟩
theorem AKm(h:p:=by refine Z58 ?_;exact AM9):p:=h
theorem AKn(h:p:=by refine Bg (x+1) ⟨hlt,hn⟩ (by omega) ?_;exact Dn (by simp)):p:=h
theorem ui(k:q)(h:Hk q→p:=by intro qk;refine K.blR ?_;refine K.lpR ?_;exact qk.h):p:=h ⟨k⟩
theorem zi(h:p:=by refine ig ?_;refine Z5 ?_;exact ALo):p:=h
theorem AKo(h:p:=by refine Z5 ?_;exact ALq):p:=h
theorem AKp(k:q)(h:Hk q→p:=by intro qk;refine Y.buildSlice jU Tryz.sizeOf9 Tryz.zeroValue9 ?_;refine Ed (tn:=[2]) (U:=U2 L Hp o om j (mvO m)) ?_;exact qk.h):p:=h ⟨k⟩
theorem uj(k:q)(h:Hk q→p:=by intro qk;refine zc ?_;refine K.blR ?_;exact qk.h):p:=h ⟨k⟩
theorem AKq(h:p:=by refine Z5 ?_;exact A8 (B1 A9 A9) ⟨by simp_all [w4],rfl⟩):p:=h
theorem AKr(h:p:=by refine Z39 ?_;exact A8 (Ak (B3 jA jS)) ⟨by simp [ht5],rfl⟩):p:=h
theorem AKs(k:q)(h:Hk q→p:=by intro qk;refine Z15 ?_;refine Ch Tryz.call156 ho (by simp) Dd (vr l S 8 (Af l S.i).at_ o _ (Ag ho)) ?_;exact qk.h):p:=h ⟨k⟩
theorem AKt(h:p:=by refine C9 ?_;exact A8 (Ak A9) ⟨by rw [hx.eq,hw],rfl⟩):p:=h
theorem zj(k:q)(h:Hk q→p:=by intro qk;refine Qu 6 2 ?_;refine ib ?_;exact qk.h):p:=h ⟨k⟩
theorem AKu(h:p:=by refine Z10 ?_;exact AI7):p:=h
theorem AKv(h:p:=by refine Z17 ?_;exact AI7):p:=h
theorem uk(k:q)(h:Hk q→p:=by intro qk;refine Aq ?_;refine Ht ?_;exact qk.h):p:=h ⟨k⟩
theorem zk(k:q)(h:Hk q→p:=by intro qk;refine eb ?_;refine C9 ?_;exact qk.h):p:=h ⟨k⟩
theorem AKw(h:p:=by refine Z62 ?_;exact A8 (B1 A9 A9) ⟨by rw [hbad],rfl⟩):p:=h
theorem AKx(h:p:=by refine Z5 ?_;exact A8 (B1 A9 A9) ⟨by rw [hk,hk2],rfl⟩):p:=h
theorem AHz(k:q)(h:Hk q→p:=by intro qk;refine Z1 ?_;refine Aa Tryz.call46 (c46 c hc hc2 l h _) ?_;exact qk.h):p:=h ⟨k⟩
theorem AKy(h:p:=by refine A5 ?_;refine Z10 ?_;exact Z40):p:=h
theorem zl(h:p:=by refine Z73 ?_;refine A2 [0,1,7,8] ?_;exact Bg (x+1) ⟨hlt,El hlt hx.2 ht16⟩ (by omega) (Dn rfl)):p:=h
theorem iq(k:q)(h:Hk q→p:=by intro qk;refine Z3 ?_;refine Z31 ?_;exact qk.h):p:=h ⟨k⟩
theorem AKz(h:p:=by refine my ?_;exact AA0):p:=h
theorem zm(k:q)(h:Hk q→p:=by intro qk;refine Z15 ?_;refine Kc ?_;exact qk.h):p:=h ⟨k⟩
theorem AL0(h:p:=by refine zk ?_;exact AI8):p:=h
theorem ADx(k:q)(h:Hk q→p:=by intro qk;refine Z0 ?_;refine Aa Tryz.call263 (AQ8 _ _ _) ?_;refine Z0 ?_;exact qk.h):p:=h ⟨k⟩
theorem ADy(k:q)(h:Hk q→p:=by intro qk;refine A2 [2,3,4,5] ?_;refine Z34 ?_;exact qk.h):p:=h ⟨k⟩
theorem zn(h:p:=by refine Z28 ?_;refine Z41 ?_;exact A8 (Ak A9) ⟨by rw [ol (ke hxe hx.2)],rfl⟩):p:=h
theorem AL1(h:p:=by refine Z5 ?_;exact AI8):p:=h
theorem AL2(k:q)(h:Hk q→p:=by intro qk;refine Dt [0,1,3,7,15,3,35,99,255,511,1023] 8 Aj (by kernel_rfl) ?_;refine Z8 ?_;exact qk.h):p:=h ⟨k⟩
theorem zo(k:q)(h:Hk q→p:=by intro qk;refine Z1 ?_;refine Nv ?_;exact qk.h):p:=h ⟨k⟩
theorem AL3(k:q)(h:Hk q→p:=by intro qk;refine Z63 ?_;refine Dt [0,1,3,7,0,16,48,112,255,511,1023] 8 Aj (by kernel_rfl) ?_;exact qk.h):p:=h ⟨k⟩
theorem ul(k:q)(h:Hk q→p:=by intro qk;refine A5 ?_;refine AHu ?_;exact qk.h):p:=h ⟨k⟩
theorem AL4(h:p:=by refine ie ?_;exact A8 (Ak A9) ⟨by simp [hm],rfl⟩):p:=h
theorem um(k:q)(h:Hk q→p:=by intro qk;refine A5 ?_;refine ADr ?_;exact qk.h):p:=h ⟨k⟩
theorem AL5(h:p:=by refine Z62 ?_;exact AI3):p:=h
theorem AL6(h:p:=by refine Dl Tryz.call240 (ANa c l k0 ra ha _) ?_;exact ADv):p:=h
theorem mz(k:q)(h:Hk q→p:=by intro qk;refine Z43 ?_;refine Z31 ?_;exact qk.h):p:=h ⟨k⟩
theorem AI0(k:q)(h:Hk q→p:=by intro qk;refine Ez ?_;refine Aa Tryz.call215 (AOf _) ?_;exact qk.h):p:=h ⟨k⟩
theorem ADz(k:q)(h:Hk q→p:=by intro qk;refine Z24 ?_;refine A2 [0,1,2,6] ?_;exact qk.h):p:=h ⟨k⟩
theorem zp(h:p:=by refine Z0 ?_;refine Z11 ?_;exact A8 (Ak A9) ⟨by rw [←wg];try rfl,rfl⟩):p:=h
theorem AE0(h:p:=by refine Z41 ?_;exact mt):p:=h
theorem zq(k:q)(h:Hk q→p:=by intro qk;refine Z24 ?_;refine R0 ?_;exact qk.h):p:=h ⟨k⟩
theorem AE1(k:q)(h:Hk q→p:=by intro qk;refine A2 [2,3,6,7] ?_;refine Z2 ?_;exact qk.h):p:=h ⟨k⟩
theorem AI1(k:q)(h:Hk q→p:=by intro qk;refine A5 ?_;refine Aa Tryz.call139 (AOu e _) ?_;exact qk.h):p:=h ⟨k⟩
theorem AL7(h:p:=by refine Z4 ?_;exact uw):p:=h
theorem AL8(k:q)(h:Hk q→p:=by intro qk;refine Z77 ?_;refine C3 Tryz.call27 (fun hB=>c27 61 (Ba q c []).1.whr hXp.w q.whr _) ?_;exact qk.h):p:=h ⟨k⟩
theorem AE2(k:q)(h:Hk q→p:=by intro qk;refine R.loadUpT jA hA ?_;refine Z80 ?_;exact qk.h):p:=h ⟨k⟩
theorem AE3(k:q)(h:Hk q→p:=by intro qk;refine A5 ?_;refine Wj jS ?_;exact qk.h):p:=h ⟨k⟩
theorem zr(k:q)(h:Hk q→p:=by intro qk;refine Ez ?_;refine R.box ?_;exact qk.h):p:=h ⟨k⟩
theorem zt(k:q)(h:Hk q→p:=by intro qk;refine Z23 ?_;refine A2 [0] ?_;exact qk.h):p:=h ⟨k⟩
theorem n5(k:q)(h:Hk q→p:=by intro qk;refine Z28 ?_;refine Z2 ?_;exact qk.h):p:=h ⟨k⟩
theorem zu(k:q)(h:Hk q→p:=by intro qk;refine Z2 ?_;refine R0 ?_;exact qk.h):p:=h ⟨k⟩
theorem AL9(h:p:=by refine C9 ?_;exact A8 (Ak A9) ⟨rfl,rfl⟩):p:=h
theorem AE4(k:q)(h:Hk q→p:=by intro qk;refine Z26 ?_;refine Gw 0 5 6 ?_;exact qk.h):p:=h ⟨k⟩
theorem ALa(k:q)(h:Hk q→p:=by intro qk;refine W.draw [0,1,3,7,7,31,63,0,127,511] 9 Aj (by kernel_rfl) ?_;refine Z33 ?_;exact qk.h):p:=h ⟨k⟩
theorem AE5(h:p:=by refine Z58 ?_;exact Z20):p:=h
theorem AE6(h:p:=by refine Z1 ?_;refine R.nilTmp 4 2 false ?_;exact AKy):p:=h
theorem ALb(h:p:=by refine Z4 ?_;exact AI6):p:=h
theorem AE7(h:p:=by refine ADx ?_;refine Z68 ?_;refine Z5 ?_;exact AM0):p:=h
theorem AE8(h:p:=by refine Z41 ?_;exact Z46):p:=h
theorem ALc(k:q)(h:Hk q→p:=by intro qk;refine Z2 ?_;refine ur ?_;exact qk.h):p:=h ⟨k⟩
theorem AI2(k:q)(h:Hk q→p:=by intro qk;refine Gw 0 1 1 ?_;refine Gw 0 7 6 ?_;exact qk.h):p:=h ⟨k⟩
theorem ALd(h:p:=by refine K.lpE ?_;exact Es .nores (hp:=by rw [hxe])):p:=h
theorem zv(k:q)(h:Hk q→p:=by intro qk;refine Z3 ?_;refine Jy ?_;exact qk.h):p:=h ⟨k⟩
theorem ALe(k:q)(h:Hk q→p:=by intro qk;refine AEc ?_;refine Bg (z+1) hz2 (by omega) ?_;exact qk.h):p:=h ⟨k⟩
theorem AE9(k:q)(h:Hk q→p:=by intro qk;refine Z52 ?_;refine A2 [2,3,4] ?_;exact qk.h):p:=h ⟨k⟩
theorem un(k:q)(h:Hk q→p:=by intro qk;refine Z23 ?_;refine Cd ?_;exact qk.h):p:=h ⟨k⟩
theorem AEa(h:p:=by refine Z0 ?_;exact AHk):p:=h
theorem ALf(h:p:=by refine Z4 ?_;exact A8 (Ak A9) ⟨rfl,rfl⟩):p:=h
theorem ALg(h:p:=by refine Aa Tryz.call105 (AA8 s hs _) ?_;exact Z99):p:=h
theorem uo(h:p:=by exact ⟨rfl,Below.refl _ _⟩):p:=h
theorem ALh(h:p:=by exact h (y,j) (by rw [Lo];exact hj)):p:=h
theorem uq(h:p:=by exact A8 (Ak A9)):p:=h
theorem en(k:q)(h:Hk q→p:=by intro qk;refine A2 [0,1,5,7,8,16] ?_;exact qk.h):p:=h ⟨k⟩
theorem Kc(k:q)(h:Hk q→p:=by intro qk;refine A2 [2,3] ?_;exact qk.h):p:=h ⟨k⟩
theorem Fw(k:q)(h:Hk q→p:=by intro qk;refine R.storeOwn jS ?_;exact qk.h):p:=h ⟨k⟩
theorem ur(k:q)(h:Hk q→p:=by intro qk;refine Ob (places:=#[(0,1),(1,1),(2,1)]) jU (fun w=>by simp) jZ ?_;exact qk.h):p:=h ⟨k⟩
theorem ALi(h:p:=by exact A8 (Ak A9) ⟨by simp only [M5,hp,ht7,ht14,ht23,ht27,Kp,Bt,if_false,if_true];try rfl,rfl⟩):p:=h
theorem ALj(h:p:=by exact A8 (B1 (B3 jA jS) A9) ⟨by simp only [iy,ht17,if_true,if_false,Bt];rfl,rfl⟩):p:=h
theorem Jy(k:q)(h:Hk q→p:=by intro qk;refine AW.block ?_;exact qk.h):p:=h ⟨k⟩
theorem Ez(k:q)(h:Hk q→p:=by intro qk;refine AW.seqR ?_;exact qk.h):p:=h ⟨k⟩
theorem Nv(k:q)(h:Hk q→p:=by intro qk;refine A2 [0,3] ?_;exact qk.h):p:=h ⟨k⟩
theorem ALk(h:p:=by exact A8 (Ky A9 A9 A9 A9) ⟨by simp only [R4,ht11,ht17,if_true,if_false,Bt];try rfl,rfl⟩):p:=h
theorem ALl(h:p:=by exact A8 (Ky A9 A9 A9 A9) ⟨by simp only [Wx,ht18,ht23,if_true,if_false,Bt];try rfl,rfl⟩):p:=h
theorem ALm(h:p:=by exact A8 (Ky A9 A9 A9 A9) ⟨by simp only [Cl,ht6,ht17,ht28,if_true,if_false,Bt],rfl⟩):p:=h
theorem eo(h:p:=by exact absurd h (by decide)):p:=h
theorem zw(k:q)(h:Hk q→p:=by intro qk;refine K.rdN (i9 hL (Bv (by decide)) (Bv (by decide))) ?_;exact qk.h):p:=h ⟨k⟩
theorem Tj(k:q)(h:Hk q→p:=by intro qk;refine R.buildSlice jU jS jZ ?_;exact qk.h):p:=h ⟨k⟩
theorem n6(k:q)(h:Hk q→p:=by intro qk;refine Ob (places:=#[(0,1),(1,1)]) jU (fun w=>by simp) jZ ?_;exact qk.h):p:=h ⟨k⟩
theorem zx(h:p:=by exact ⟨hFRl,by simp [oid]⟩):p:=h
theorem zy(h:p:=by exact Ic (fun x hx=>ObjLow.le (by omega) (hlow x hx)) hOl x hx):p:=h
theorem ut(k:q)(h:Hk q→p:=by intro qk;refine K.rdR (i9 hL (Bv (by decide)) (Bv (by decide))) ?_;exact qk.h):p:=h ⟨k⟩
theorem zz(k:q)(h:Hk q→p:=by intro qk;refine K.rdN (z7 hL (Bv (by decide))) ?_;exact qk.h):p:=h ⟨k⟩
theorem uu(k:q)(h:Hk q→p:=by intro qk;refine Ob (places:=#[(0,1),(1,1),(2,3),(5,1)]) jU (fun w=>by simp) jZ ?_;exact qk.h):p:=h ⟨k⟩
theorem R0(k:q)(h:Hk q→p:=by intro qk;refine R.alloc jZ ?_;exact qk.h):p:=h ⟨k⟩
theorem Vg(k:q)(h:Hk q→p:=by intro qk;refine A2 [0,1,5] ?_;exact qk.h):p:=h ⟨k⟩
theorem Zj(h:p:=by exact Xv _):p:=h
theorem AI3(h:p:=by exact A8 (Ak A9) ⟨by rw [hf],rfl⟩):p:=h
theorem ALn(h:p:=by exact A8 (Ak (B3 jA jS)) ⟨by first|exact ABn (by unfold N9;simp [*];done)|exact ABm (by unfold N9;simp [*];done)|exact ABo (by unfold N9;simp [*];done),rfl⟩):p:=h
theorem ALo(h:p:=by exact A8 (Ak (B3 jA jS)) ⟨by first|exact ABn (by unfold Na;simp [*];done)|exact ABm (by unfold Na;simp [*];done)|exact ABo (by unfold Na;simp [*];done),rfl⟩):p:=h
theorem ALp(h:p:=by exact A8 (Ak (B3 jA jS)) ⟨by simp_all [V0],rfl⟩):p:=h
theorem ALq(h:p:=by exact A8 (B1 A9 A9) ⟨by simp_all [Fj],rfl⟩):p:=h
theorem uv(k:q)(h:Hk q→p:=by intro qk;refine A2 [2,6,13,14,15] ?_;exact qk.h):p:=h ⟨k⟩
theorem AI4(h:p:=by exact A8 (B1 A9 A9) ⟨by rw [hk],rfl⟩):p:=h
theorem uw(h:p:=by exact A8 (Ak A9) ⟨by rw [hm],rfl⟩):p:=h
theorem ALr(h:p:=by exact A8 (Ak A9) ⟨by rw [hn];first|(simp only [ht22,ht25,ht33,ht41,ht41,ht50,ht58,hk3,hk6,Kr,F6,Kq,Qg,if_true,if_false,Bt,↓reduceIte]<;>rfl)|(simp only [ht22,ht25,ht33,ht41,ht41,ht50,ht58,hk3,Kr,F6,Kq,if_true,if_false,Bt,↓reduceIte]<;>rfl)|(simp only [ht22,ht25,ht33,ht41,ht41,ht50,ht58,if_true,if_false,Bt,↓reduceIte]<;>rfl),rfl⟩):p:=h
theorem AA0(h:p:=by exact A8 (Ak A9) ⟨by rw [hm]<;>rfl,rfl⟩):p:=h
theorem AEb(k:q)(h:Hk q→p:=by intro qk;refine Bg (x+1) ⟨hlt,hN⟩ (by omega) ?_;exact qk.h):p:=h ⟨k⟩
theorem ALs(h:p:=by exact A8 (B1 (B3 jA jS) A9) ⟨by rw [hm];show _=AV.tup [A7 Au,Az false];rw [Al];rfl,rfl⟩ (hlow:=by simp [or_imp,forall_and])):p:=h
theorem ALt(h:p:=by exact A8 (B1 (B3 jA jS) A9) ⟨by rw [hm];show _=AV.tup [A7 Au,A3 _];rw [Al];rfl,rfl⟩ (hlow:=by simp [or_imp,forall_and])):p:=h
theorem AEc(k:q)(h:Hk q→p:=by intro qk;refine A2 [6,8,9,10,11,13,54,55,56] ?_;exact qk.h):p:=h ⟨k⟩
theorem ALu(h:p:=by exact A8 (Ak A9) ⟨rfl,by first|(rw [e];done)|(rw [e];rfl)|(rw [e];exact (Ce ho).symm)⟩):p:=h
theorem ALv(h:p:=by exact ⟨J9 (Sp _ _ _).symm,by rw [Sp];exact hi,hc⟩):p:=h
theorem ALw(k:q)(h:Hk q→p:=by intro qk;refine Y.storeOwn (u:=Hp.length) (n:=0) (t':=29) (cs:=[Az false,.nil,A3 0,Ac [],A3 0,A3 0,Ac [],.nil,A3 0]) (cs':=[Az false,.nil,A3 0,Ac [],A3 0,A3 0,Ac [],.nil,A3 0]) Tryz.sizeOf29 (fun B hB=>⟨rfl,rfl,rfl,rfl⟩) ?_;exact qk.h):p:=h ⟨k⟩
theorem ALx(k:q)(h:Hk q→p:=by intro qk;refine Fc [0,0,2,6,14,1,63] [5] [.q 5 [] [],.s [] (some 0) [] []] (fun _=>Hp) (fun _=>[.cells 29 [Az false,.nil,A3 0,Ac [],A3 0,A3 0,Ac [],.nil,A3 0],.cells 73 [A3 0,A3 0],.cells 73 [A3 (Bd s).2.1,A3 ((Bd s).2.2:Nat)],prq (Bd s).1 (s5Q (Bd s).1),qo true (r3Q (Bd s).1).1]) Aj (by kernel_rfl) rfl rfl (fun _=>rfl) ?_;exact qk.h):p:=h ⟨k⟩
theorem AI5(h:p:=by exact A8 (Ak A9) ⟨by rw [e],rfl⟩):p:=h
theorem ALy(h:p:=by exact A8 (B1 (B3 jA jS) A9) ⟨by rw [hw];try rfl,rfl⟩):p:=h
theorem ALz(h:p:=by exact A8 (B1 A9 A9) ⟨by simp_all [Km],rfl⟩):p:=h
theorem AM0(h:p:=by exact A8 (B1 (B3 Tryz.isAgg24 Tryz.sizeOf24) A9) ⟨by simp_all [R9],rfl⟩):p:=h
theorem AA1(h:p:=by exact A8 (B1 (B3 jA jS) A9) ⟨by rw [hm];try rfl,rfl⟩):p:=h
theorem AM1(h:p:=by exact A8 (Ak (B3 jA jS)) ⟨by rw [hm];try rfl,rfl⟩):p:=h
theorem AM2(k:q)(h:Hk q→p:=by intro qk;refine Y.alloc (zs:=[A3 0,A3 0,Ac []]) (n:=1) (u:=Hp.length) Tryz.zeroValue24 (fun B hT hF hB=>⟨rfl,by simp [hB],by simp [upd,hB,hF 1 (by simp)],rfl⟩) ?_;exact qk.h):p:=h ⟨k⟩
theorem AM3(h:p:=by exact I7 (pz _ _) (by rw [Cy];omega)):p:=h
theorem AM4(h:p:=by exact A8 (Ak A9) ⟨rfl,rfl⟩ (hlow:=D3)):p:=h
theorem AM5(h:p:=by exact ⟨dc i,hl.step hi (by rw [hk];decide)⟩):p:=h
theorem n7(h:p:=by exact ⟨by omega,c2,c3⟩):p:=h
theorem AA2(h:p:=by exact (D4 hX (e)).elim):p:=h
theorem AM6(h:p:=by exact (D4 hX (by first|exact by unfold Va;rw [hT];rfl|exact hT)).elim):p:=h
theorem ir(h:p:=by exact D.end rfl rfl):p:=h
theorem AM7(h:p:=by exact (ANn L i o _ (Ag (Ey ho hne)) hi hl hll).ok hT):p:=h
theorem AA3(k:q)(h:Hk q→p:=by intro qk;refine AW.upEq (Sz ho hm).symm ?_;exact qk.h):p:=h ⟨k⟩
theorem AI6(h:p:=by exact A8 (Ak A9) ⟨by simp,rfl⟩):p:=h
theorem AM8(h:p:=by exact A8 .nores (hp:=⟨rfl,by first|(rw [e];exact (c9 hne ho hoq).symm)|(rw [e];exact (Ce (wr hne hoq)).symm)|(rw [e];simp only [Bu];exact (Ce (wr hne hoq)).symm)|(rw [e];simp only [Bu];rw [ACe hne];rfl)|(rw [e];simp only [Bu];rw [Mr _ _ hne];rfl)⟩)):p:=h
theorem AI7(h:p:=by exact A8 (B1 A9 A9) ⟨by rw [hm]<;>rfl,rfl⟩):p:=h
theorem AM9(h:p:=by exact A8 (Ak A9) ⟨by simp_all [Ew,Ns],rfl⟩):p:=h
theorem AMa(h:p:=by exact Es .nores (hp:=⟨rfl,by first|(rw [e];done)|(rw [e];rfl)|(rw [e];exact (Ce ho).symm)⟩)):p:=h
theorem AI8(h:p:=by exact A8 (B1 A9 A9) ⟨by rw [hm],rfl⟩):p:=h
end Go.SX.Nb
namespace Go.SX.Nb
open Go Go.SX Go.Proofs
@[reducible,instance] def JA2:=JA.mk (P:=Tryz.prog) Tryz.isAgg2
@[reducible,instance] def JA3:=JA.mk (P:=Tryz.prog) Tryz.isAgg3
@[reducible,instance] def JA4:=JA.mk (P:=Tryz.prog) Tryz.isAgg4
@[reducible,instance] def JA9:=JA.mk (P:=Tryz.prog) Tryz.isAgg9
@[reducible,instance] def ASa:=JA.mk (P:=Tryz.prog) Tryz.isAgg22
@[reducible,instance] def ASb:=JA.mk (P:=Tryz.prog) Tryz.isAgg24
@[reducible,instance] def ASc:=JA.mk (P:=Tryz.prog) Tryz.isAgg25
@[reducible,instance] def ASd:=JA.mk (P:=Tryz.prog) Tryz.isAgg27
@[reducible,instance] def ASe:=JA.mk (P:=Tryz.prog) Tryz.isAgg29
@[reducible,instance] def ASf:=JA.mk (P:=Tryz.prog) Tryz.isAgg30
@[reducible,instance] def ASg:=JA.mk (P:=Tryz.prog) Tryz.isAgg31
@[reducible,instance] def ASh:=JA.mk (P:=Tryz.prog) Tryz.isAgg37
@[reducible,instance] def ASi:=JA.mk (P:=Tryz.prog) Tryz.isAgg38
@[reducible,instance] def ASj:=JA.mk (P:=Tryz.prog) Tryz.isAgg41
@[reducible,instance] def ASk:=JA.mk (P:=Tryz.prog) Tryz.isAgg52
@[reducible,instance] def ASl:=JA.mk (P:=Tryz.prog) Tryz.isAgg54
@[reducible,instance] def ASm:=JA.mk (P:=Tryz.prog) Tryz.isAgg58
@[reducible,instance] def ASn:=JA.mk (P:=Tryz.prog) Tryz.isAgg69
@[reducible,instance] def ASo:=JA.mk (P:=Tryz.prog) Tryz.isAgg73
@[reducible,instance] def ASp:=JA.mk (P:=Tryz.prog) Tryz.isAgg80
@[reducible,instance] def ARh:=JA.mk (P:=Tryz.prog) Tryz.isAgg104
@[reducible,instance] def ARi:=JA.mk (P:=Tryz.prog) Tryz.isAgg107
@[reducible,instance] def ARj:=JA.mk (P:=Tryz.prog) Tryz.isAgg118
@[reducible,instance] def ARk:=JA.mk (P:=Tryz.prog) Tryz.isAgg184
@[reducible,instance] def ARl:=JA.mk (P:=Tryz.prog) Tryz.isAgg186
@[reducible,instance] def ARm:=JA.mk (P:=Tryz.prog) Tryz.isAgg194
@[reducible,instance] def ARn:=JA.mk (P:=Tryz.prog) Tryz.isAgg195
@[reducible,instance] def ARo:=JA.mk (P:=Tryz.prog) Tryz.isAgg206
@[reducible,instance] def JS2:=JS.mk (P:=Tryz.prog) Tryz.sizeOf2
@[reducible,instance] def JS3:=JS.mk (P:=Tryz.prog) Tryz.sizeOf3
@[reducible,instance] def JS4:=JS.mk (P:=Tryz.prog) Tryz.sizeOf4
@[reducible,instance] def JS9:=JS.mk (P:=Tryz.prog) Tryz.sizeOf9
@[reducible,instance] def ASq:=JS.mk (P:=Tryz.prog) Tryz.sizeOf22
@[reducible,instance] def ASr:=JS.mk (P:=Tryz.prog) Tryz.sizeOf24
@[reducible,instance] def ASs:=JS.mk (P:=Tryz.prog) Tryz.sizeOf25
@[reducible,instance] def ASt:=JS.mk (P:=Tryz.prog) Tryz.sizeOf27
@[reducible,instance] def ASu:=JS.mk (P:=Tryz.prog) Tryz.sizeOf29
@[reducible,instance] def ASv:=JS.mk (P:=Tryz.prog) Tryz.sizeOf30
@[reducible,instance] def ASw:=JS.mk (P:=Tryz.prog) Tryz.sizeOf31
@[reducible,instance] def ASx:=JS.mk (P:=Tryz.prog) Tryz.sizeOf37
@[reducible,instance] def ASy:=JS.mk (P:=Tryz.prog) Tryz.sizeOf38
@[reducible,instance] def ASz:=JS.mk (P:=Tryz.prog) Tryz.sizeOf41
@[reducible,instance] def AT0:=JS.mk (P:=Tryz.prog) Tryz.sizeOf52
@[reducible,instance] def AT1:=JS.mk (P:=Tryz.prog) Tryz.sizeOf54
@[reducible,instance] def AT2:=JS.mk (P:=Tryz.prog) Tryz.sizeOf58
@[reducible,instance] def AT3:=JS.mk (P:=Tryz.prog) Tryz.sizeOf69
@[reducible,instance] def AT4:=JS.mk (P:=Tryz.prog) Tryz.sizeOf73
@[reducible,instance] def AT5:=JS.mk (P:=Tryz.prog) Tryz.sizeOf80
@[reducible,instance] def ARp:=JS.mk (P:=Tryz.prog) Tryz.sizeOf104
@[reducible,instance] def ARq:=JS.mk (P:=Tryz.prog) Tryz.sizeOf118
@[reducible,instance] def ARr:=JS.mk (P:=Tryz.prog) Tryz.sizeOf184
@[reducible,instance] def ARs:=JS.mk (P:=Tryz.prog) Tryz.sizeOf186
@[reducible,instance] def ARt:=JS.mk (P:=Tryz.prog) Tryz.sizeOf206
@[reducible,instance] def JU2:=JU.mk (P:=Tryz.prog) Tryz.underlying2
@[reducible,instance] def JU3:=JU.mk (P:=Tryz.prog) Tryz.underlying3
@[reducible,instance] def JU4:=JU.mk (P:=Tryz.prog) Tryz.underlying4
@[reducible,instance] def JU5:=JU.mk (P:=Tryz.prog) Tryz.underlying5
@[reducible,instance] def JU9:=JU.mk (P:=Tryz.prog) Tryz.underlying9
@[reducible,instance] def AT6:=JU.mk (P:=Tryz.prog) Tryz.underlying20
@[reducible,instance] def AT7:=JU.mk (P:=Tryz.prog) Tryz.underlying22
@[reducible,instance] def AT8:=JU.mk (P:=Tryz.prog) Tryz.underlying24
@[reducible,instance] def AT9:=JU.mk (P:=Tryz.prog) Tryz.underlying25
@[reducible,instance] def ATa:=JU.mk (P:=Tryz.prog) Tryz.underlying27
@[reducible,instance] def ATb:=JU.mk (P:=Tryz.prog) Tryz.underlying29
@[reducible,instance] def ATc:=JU.mk (P:=Tryz.prog) Tryz.underlying30
@[reducible,instance] def ATd:=JU.mk (P:=Tryz.prog) Tryz.underlying31
@[reducible,instance] def ATe:=JU.mk (P:=Tryz.prog) Tryz.underlying37
@[reducible,instance] def ATf:=JU.mk (P:=Tryz.prog) Tryz.underlying41
@[reducible,instance] def ATg:=JU.mk (P:=Tryz.prog) Tryz.underlying52
@[reducible,instance] def ATh:=JU.mk (P:=Tryz.prog) Tryz.underlying54
@[reducible,instance] def ATi:=JU.mk (P:=Tryz.prog) Tryz.underlying58
@[reducible,instance] def ATj:=JU.mk (P:=Tryz.prog) Tryz.underlying69
@[reducible,instance] def ATk:=JU.mk (P:=Tryz.prog) Tryz.underlying73
@[reducible,instance] def ATl:=JU.mk (P:=Tryz.prog) Tryz.underlying80
@[reducible,instance] def ARu:=JU.mk (P:=Tryz.prog) Tryz.underlying104
@[reducible,instance] def ARv:=JU.mk (P:=Tryz.prog) Tryz.underlying109
@[reducible,instance] def ARw:=JU.mk (P:=Tryz.prog) Tryz.underlying113
@[reducible,instance] def ARx:=JU.mk (P:=Tryz.prog) Tryz.underlying118
@[reducible,instance] def ARy:=JU.mk (P:=Tryz.prog) Tryz.underlying184
@[reducible,instance] def ARz:=JU.mk (P:=Tryz.prog) Tryz.underlying186
@[reducible,instance] def AS0:=JU.mk (P:=Tryz.prog) Tryz.underlying197
@[reducible,instance] def AS1:=JU.mk (P:=Tryz.prog) Tryz.underlying206
@[reducible,instance] def AS2:=JU.mk (P:=Tryz.prog) Tryz.underlying249
@[reducible,instance] def JZ3:=JZ.mk (P:=Tryz.prog) Tryz.zeroValue3
@[reducible,instance] def JZ4:=JZ.mk (P:=Tryz.prog) Tryz.zeroValue4
@[reducible,instance] def JZ9:=JZ.mk (P:=Tryz.prog) Tryz.zeroValue9
@[reducible,instance] def ATm:=JZ.mk (P:=Tryz.prog) Tryz.zeroValue24
@[reducible,instance] def ATn:=JZ.mk (P:=Tryz.prog) Tryz.zeroValue25
@[reducible,instance] def ATo:=JZ.mk (P:=Tryz.prog) Tryz.zeroValue27
@[reducible,instance] def ATp:=JZ.mk (P:=Tryz.prog) Tryz.zeroValue29
@[reducible,instance] def ATq:=JZ.mk (P:=Tryz.prog) Tryz.zeroValue30
@[reducible,instance] def ATr:=JZ.mk (P:=Tryz.prog) Tryz.zeroValue31
@[reducible,instance] def ATs:=JZ.mk (P:=Tryz.prog) Tryz.zeroValue37
@[reducible,instance] def ATt:=JZ.mk (P:=Tryz.prog) Tryz.zeroValue38
@[reducible,instance] def ATu:=JZ.mk (P:=Tryz.prog) Tryz.zeroValue41
@[reducible,instance] def ATv:=JZ.mk (P:=Tryz.prog) Tryz.zeroValue52
@[reducible,instance] def ATw:=JZ.mk (P:=Tryz.prog) Tryz.zeroValue58
@[reducible,instance] def ATx:=JZ.mk (P:=Tryz.prog) Tryz.zeroValue69
@[reducible,instance] def ATy:=JZ.mk (P:=Tryz.prog) Tryz.zeroValue73
@[reducible,instance] def ATz:=JZ.mk (P:=Tryz.prog) Tryz.zeroValue80
@[reducible,instance] def AS3:=JZ.mk (P:=Tryz.prog) Tryz.zeroValue104
@[reducible,instance] def AS4:=JZ.mk (P:=Tryz.prog) Tryz.zeroValue109
@[reducible,instance] def AS5:=JZ.mk (P:=Tryz.prog) Tryz.zeroValue113
@[reducible,instance] def AS6:=JZ.mk (P:=Tryz.prog) Tryz.zeroValue118
@[reducible,instance] def AS7:=JZ.mk (P:=Tryz.prog) Tryz.zeroValue186
@[reducible,instance] def AS8:=JZ.mk (P:=Tryz.prog) Tryz.zeroValue197
@[reducible,instance] def AS9:=JZ.mk (P:=Tryz.prog) Tryz.zeroValue206
end Go.SX.Nb
