/- On the way (part 3). -/
import Derived.Test.YtekiioamifokoaaGreatDoorProg
import Derived.Test.YtekiioamifokoaaGreatDoorRewriteForthCardSaidPart2
set_option linter.all false
namespace Go.SX.Nb
open Go Go.SX Go.Proofs
structure Hk (q:Prop):Prop where h:q
variable {p q:Prop}
theorem Z0(k:q)(h:Hk q→p:=by intro qk;refine A5 ?_;refine A5 ?_;exact qk.h):p:=h ⟨k⟩
theorem Z1(k:q)(h:Hk q→p:=by intro qk;refine Ez ?_;refine Z0 ?_;exact qk.h):p:=h ⟨k⟩
theorem Z2(k:q)(h:Hk q→p:=by intro qk;refine Ez ?_;refine A5 ?_;exact qk.h):p:=h ⟨k⟩
theorem Z3(k:q)(h:Hk q→p:=by intro qk;refine N7 ?_;refine H4 ?_;exact qk.h):p:=h ⟨k⟩
theorem Z4(k:q)(h:Hk q→p:=by intro qk;refine A2 [2] ?_;refine G5 ?_;exact qk.h):p:=h ⟨k⟩
theorem Z5(k:q)(h:Hk q→p:=by intro qk;refine K.blR ?_;refine Ck ?_;exact qk.h):p:=h ⟨k⟩
theorem Z6(k:q)(h:Hk q→p:=by intro qk;refine Cp ?_;refine Cp ?_;exact qk.h):p:=h ⟨k⟩
theorem Z7(k:q)(h:Hk q→p:=by intro qk;refine K9 ?_;refine Z1 ?_;exact qk.h):p:=h ⟨k⟩
theorem Z8(k:q)(h:Hk q→p:=by intro qk;refine As ?_;refine As ?_;exact qk.h):p:=h ⟨k⟩
theorem Z9(k:q)(h:Hk q→p:=by intro qk;refine Gs ?_;refine A5 ?_;exact qk.h):p:=h ⟨k⟩
theorem Z10(k:q)(h:Hk q→p:=by intro qk;refine A2 [4,5] ?_;refine G5 ?_;exact qk.h):p:=h ⟨k⟩
theorem Z11(k:q)(h:Hk q→p:=by intro qk;refine M9 ?_;refine H4 ?_;exact qk.h):p:=h ⟨k⟩
theorem Z12(k:q)(h:Hk q→p:=by intro qk;refine Z0 ?_;refine A5 ?_;exact qk.h):p:=h ⟨k⟩
theorem Z13(k:q)(h:Hk q→p:=by intro qk;refine A2 [4] ?_;refine G5 ?_;exact qk.h):p:=h ⟨k⟩
theorem Z14(k:q)(h:Hk q→p:=by intro qk;refine P1 ?_;refine Gs ?_;exact qk.h):p:=h ⟨k⟩
theorem Z15(k:q)(h:Hk q→p:=by intro qk;refine Z1 ?_;refine A5 ?_;exact qk.h):p:=h ⟨k⟩
theorem Z16(k:q)(h:Hk q→p:=by intro qk;refine K9 ?_;refine Lo ?_;exact qk.h):p:=h ⟨k⟩
theorem Z17(k:q)(h:Hk q→p:=by intro qk;refine A2 [6,7] ?_;refine G5 ?_;exact qk.h):p:=h ⟨k⟩
theorem Z18(h:p:=by refine Ck ?_;exact vq):p:=h
theorem Z19(h:p:=by refine Z5 ?_;exact AAk):p:=h
theorem Z20(k:q)(h:Hk q→p:=by intro qk;refine N7 ?_;refine Z11 ?_;exact qk.h):p:=h ⟨k⟩
theorem Z21(k:q)(h:Hk q→p:=by intro qk;refine jk ?_;refine Gs ?_;exact qk.h):p:=h ⟨k⟩
theorem Z22(k:q)(h:Hk q→p:=by intro qk;refine Hj ?_;refine Z0 ?_;exact qk.h):p:=h ⟨k⟩
theorem Z23(k:q)(h:Hk q→p:=by intro qk;refine Z1 ?_;refine Z0 ?_;exact qk.h):p:=h ⟨k⟩
theorem Z24(k:q)(h:Hk q→p:=by intro qk;refine Ez ?_;refine P1 ?_;exact qk.h):p:=h ⟨k⟩
theorem Z25(h:p:=by refine Ck ?_;exact AAk):p:=h
theorem Z26(k:q)(h:Hk q→p:=by intro qk;refine Z5 ?_;refine K.lpR ?_;exact qk.h):p:=h ⟨k⟩
theorem Z27(k:q)(h:Hk q→p:=by intro qk;refine K.lpE ?_;refine H4 ?_;exact qk.h):p:=h ⟨k⟩
theorem Z28(k:q)(h:Hk q→p:=by intro qk;refine AAg ?_;refine Gs ?_;exact qk.h):p:=h ⟨k⟩
theorem Z30(k:q)(h:Hk q→p:=by intro qk;refine Z7 ?_;refine A5 ?_;exact qk.h):p:=h ⟨k⟩
theorem Z31(k:q)(h:Hk q→p:=by intro qk;refine K9 ?_;refine Z2 ?_;exact qk.h):p:=h ⟨k⟩
theorem Z32(h:p:=by refine Ck ?_;exact AIj):p:=h
theorem Z33(k:q)(h:Hk q→p:=by intro qk;refine Z8 ?_;refine As ?_;exact qk.h):p:=h ⟨k⟩
theorem Z34(k:q)(h:Hk q→p:=by intro qk;refine G5 ?_;refine Ck ?_;exact qk.h):p:=h ⟨k⟩
theorem Z35(h:p:=by refine Z34 ?_;exact AMm):p:=h
theorem Z36(k:q)(h:Hk q→p:=by intro qk;refine Z0 ?_;refine Z6 ?_;exact qk.h):p:=h ⟨k⟩
theorem Z37(k:q)(h:Hk q→p:=by intro qk;refine Z2 ?_;refine A2 [0,1] ?_;exact qk.h):p:=h ⟨k⟩
theorem Z38(k:q)(h:Hk q→p:=by intro qk;refine Gs ?_;refine Z4 ?_;exact qk.h):p:=h ⟨k⟩
theorem Z39(h:p:=by refine D.buildSlice jU jS jZ ?_;exact jl):p:=h
theorem Z40(k:q)(h:Hk q→p:=by intro qk;refine Ez ?_;refine Sd ?_;exact qk.h):p:=h ⟨k⟩
theorem Z41(k:q)(h:Hk q→p:=by intro qk;refine Z2 ?_;refine A2 [0] ?_;exact qk.h):p:=h ⟨k⟩
theorem Z42(k:q)(h:Hk q→p:=by intro qk;refine Z2 ?_;refine Z4 ?_;exact qk.h):p:=h ⟨k⟩
theorem Z43(k:q)(h:Hk q→p:=by intro qk;refine A9 Tryz.call171 (AQj _ _) ?_;refine Z0 ?_;exact qk.h):p:=h ⟨k⟩
theorem Z44(h:p:=by refine Ck ?_;exact AAi):p:=h
theorem Z45(k:q)(h:Hk q→p:=by intro qk;refine Z9 ?_;refine Z10 ?_;exact qk.h):p:=h ⟨k⟩
theorem Z46(k:q)(h:Hk q→p:=by intro qk;refine P1 ?_;refine A5 ?_;exact qk.h):p:=h ⟨k⟩
theorem Z47(k:q)(h:Hk q→p:=by intro qk;refine Hj ?_;refine Z12 ?_;exact qk.h):p:=h ⟨k⟩
theorem Z48(k:q)(h:Hk q→p:=by intro qk;refine Z2 ?_;refine Z13 ?_;exact qk.h):p:=h ⟨k⟩
theorem Z49(h:p:=by refine Z5 ?_;exact Aa (Ai A7) ⟨by rw [hn];first|(simp only [ht22,ht25,ht33,ht41,ht41,hk3,hk6,L3,F1,L2,Of,if_true,if_false,Bd,↓reduceIte]<;>rfl)|(simp only [ht22,ht25,ht33,ht41,ht41,hk3,L3,F1,L2,if_true,if_false,Bd,↓reduceIte]<;>rfl)|(simp only [ht22,ht25,ht33,ht41,ht41,if_true,if_false,Bd,↓reduceIte]<;>rfl),rfl⟩):p:=h
theorem Z51(k:q)(h:Hk q→p:=by intro qk;refine Z26 ?_;refine Ck ?_;exact qk.h):p:=h ⟨k⟩
theorem Z52(k:q)(h:Hk q→p:=by intro qk;refine Hj ?_;refine A5 ?_;exact qk.h):p:=h ⟨k⟩
theorem Z53(k:q)(h:Hk q→p:=by intro qk;refine Cp ?_;refine A5 ?_;exact qk.h):p:=h ⟨k⟩
theorem Z54(h:p:=by refine Z45 ?_;exact AAk):p:=h
theorem Z55(k:q)(h:Hk q→p:=by intro qk;refine Ez ?_;refine R.buildLe (m9 Po) AGe (places:=#[(0,1),(1,6),(7,1)]) jU (fun w=>by simp) Tryz.zeroValue37 ?_;exact qk.h):p:=h ⟨k⟩
theorem Z56(h:p:=by refine As ?_;exact jl):p:=h
theorem Z57(h:p:=by refine K.thJ ?_;exact Bl (by simp [*])):p:=h
theorem Z58(k:q)(h:Hk q→p:=by intro qk;refine Z0 ?_;refine Z0 ?_;exact qk.h):p:=h ⟨k⟩
theorem Z59(k:q)(h:Hk q→p:=by intro qk;refine am ?_;refine K.thE ?_;exact qk.h):p:=h ⟨k⟩
theorem Z60(k:q)(h:Hk q→p:=by intro qk;refine Jb ?_;refine G5 ?_;exact qk.h):p:=h ⟨k⟩
theorem Z61(h:p:=by refine Z5 ?_;exact AM1):p:=h
theorem Z62(k:q)(h:Hk q→p:=by intro qk;refine K9 ?_;refine Ez ?_;exact qk.h):p:=h ⟨k⟩
theorem Z63(k:q)(h:Hk q→p:=by intro qk;refine Z24 ?_;refine A2 [0,2] ?_;exact qk.h):p:=h ⟨k⟩
theorem Z65(k:q)(h:Hk q→p:=by intro qk;refine Z0 ?_;refine Z4 ?_;exact qk.h):p:=h ⟨k⟩
theorem Z66(k:q)(h:Hk q→p:=by intro qk;refine AMg ?_;refine Y.storeOwnT (u:=Hp.length) (n:=1) (t':=24) (cs:=[A3 0,A3 0,Ac []]) (cs':=[A3 (B9 ra).1.kind,A3 (B9 ra).1.n,Ac (B9 ra).1.s]) Tryz.sizeOf24 (fun B hT hF hB=>⟨rfl,by simp [hT 0 (by simp),hB],by simp [upd,hT 0 (by simp),hB],rfl⟩) ?_;exact qk.h):p:=h ⟨k⟩
theorem Z67(k:q)(h:Hk q→p:=by intro qk;refine Z2 ?_;refine Cj Tryz.call233 ho (by simp) Dj (ABq l S o _ (Ag ho) hi hll) ?_;exact qk.h):p:=h ⟨k⟩
theorem Z68(k:q)(h:Hk q→p:=by intro qk;refine Z20 ?_;refine Z22 ?_;exact qk.h):p:=h ⟨k⟩
theorem Z70(h:p:=by refine Z8 ?_;exact jl):p:=h
theorem Z71(k:q)(h:Hk q→p:=by intro qk;refine A5 ?_;refine Sd ?_;exact qk.h):p:=h ⟨k⟩
theorem Z72(h:p:=by refine A2 [] ?_;exact F3 .nores (hp:=⟨rfl,by first|(rw [e];exact (cn hne ho hoq).symm)|(rw [e];exact (Ce (xh hne hoq)).symm)|(rw [e];simp only [Bv];exact (Ce (xh hne hoq)).symm)|(rw [e];simp only [Bv];rw [ACt hne];rfl)|(rw [e];simp only [Bv];rw [N2 _ _ hne];rfl)⟩)):p:=h
theorem Z73(k:q)(h:Hk q→p:=by intro qk;refine Z6 ?_;refine Cp ?_;exact qk.h):p:=h ⟨k⟩
theorem Z74(h:p:=by refine Z5 ?_;exact AMm):p:=h
theorem Z75(k:q)(h:Hk q→p:=by intro qk;refine Z0 ?_;refine Z12 ?_;exact qk.h):p:=h ⟨k⟩
theorem Z76(k:q)(h:Hk q→p:=by intro qk;refine A2 [6] ?_;refine G5 ?_;exact qk.h):p:=h ⟨k⟩
theorem Z77(k:q)(h:Hk q→p:=by intro qk;refine Z16 ?_;refine Ez ?_;exact qk.h):p:=h ⟨k⟩
theorem Z79(k:q)(h:Hk q→p:=by intro qk;refine Z9 ?_;refine Z17 ?_;exact qk.h):p:=h ⟨k⟩
theorem Z80(k:q)(h:Hk q→p:=by intro qk;refine Ez ?_;refine vn ?_;exact qk.h):p:=h ⟨k⟩
theorem Z81(h:p:=by refine Ck ?_;exact Aa (Ai (B4 jA jS)) ⟨by rw [e,Al],by rw [e]⟩ (hlow:=low_agg _)):p:=h
theorem Z82(k:q)(h:Hk q→p:=by intro qk;refine Z12 ?_;refine P1 ?_;exact qk.h):p:=h ⟨k⟩
theorem Z85(k:q)(h:Hk q→p:=by intro qk;refine Z36 ?_;refine Z6 ?_;exact qk.h):p:=h ⟨k⟩
theorem Z86(k:q)(h:Hk q→p:=by intro qk;refine H.go ?_;refine H.go ?_;exact qk.h):p:=h ⟨k⟩
theorem Z88(k:q)(h:Hk q→p:=by intro qk;refine Z7 ?_;refine Z0 ?_;exact qk.h):p:=h ⟨k⟩
theorem Z89(k:q)(h:Hk q→p:=by intro qk;refine A2 [2,3,4,5] ?_;refine G5 ?_;exact qk.h):p:=h ⟨k⟩
theorem Z90(k:q)(h:Hk q→p:=by intro qk;refine Z8 ?_;refine Gq ?_;exact qk.h):p:=h ⟨k⟩
theorem Z91(k:q)(h:Hk q→p:=by intro qk;refine AMa ?_;refine Er (tn:=[5])  ?_;exact qk.h):p:=h ⟨k⟩
theorem Z92(h:p:=by refine Z48 ?_;exact vq):p:=h
theorem Z93(k:q)(h:Hk q→p:=by intro qk;refine Z2 ?_;refine jk ?_;exact qk.h):p:=h ⟨k⟩
theorem Z94(k:q)(h:Hk q→p:=by intro qk;refine A5 ?_;refine Z17 ?_;exact qk.h):p:=h ⟨k⟩
theorem Z95(h:p:=by refine Z45 ?_;exact Z19):p:=h
theorem Z96(h:p:=by refine Z65 ?_;exact AAb):p:=h
theorem Z97(k:q)(h:Hk q→p:=by intro qk;refine Z1 ?_;refine A2 [1] ?_;exact qk.h):p:=h ⟨k⟩
theorem Z99(h:p:=by refine Ck ?_;exact Aa (B5 (Fp jA) (Fp jA)) ⟨by rw [hm];rfl,rfl⟩):p:=h
theorem Vy(k:q)(h:Hk q→p:=by intro qk;refine Z2 ?_;refine Gs ?_;exact qk.h):p:=h ⟨k⟩
theorem AE3(k:q)(h:Hk q→p:=by intro qk;refine Z1 ?_;refine AAg ?_;exact qk.h):p:=h ⟨k⟩
theorem X6(h:p:=by refine Z26 ?_;exact Z18):p:=h
theorem Tx(k:q)(h:Hk q→p:=by intro qk;refine Z3 ?_;refine Z16 ?_;exact qk.h):p:=h ⟨k⟩
theorem AE4(k:q)(h:Hk q→p:=by intro qk;refine Z46 ?_;refine Gs ?_;exact qk.h):p:=h ⟨k⟩
theorem f9(k:q)(h:Hk q→p:=by intro qk;refine Z2 ?_;refine A2 [0,1,7,8,9] ?_;exact qk.h):p:=h ⟨k⟩
theorem Qe(k:q)(h:Hk q→p:=by intro qk;refine A5 ?_;refine Z14 ?_;exact qk.h):p:=h ⟨k⟩
theorem Vz(k:q)(h:Hk q→p:=by intro qk;refine A2 [] ?_;refine M9 ?_;exact qk.h):p:=h ⟨k⟩
theorem Ni(k:q)(h:Hk q→p:=by intro qk;refine Z3 ?_;refine Z1 ?_;exact qk.h):p:=h ⟨k⟩
theorem Sc(k:q)(h:Hk q→p:=by intro qk;refine Z59 ?_;refine Z27 ?_;exact qk.h):p:=h ⟨k⟩
theorem AKi(h:p:=by refine Z79 ?_;exact Aa (B5 (B4 jA jS) A7) ⟨by rw [ANs ht43 ht54,htr]<;>rfl,rfl⟩ (hlow:=by simp [or_imp,forall_and]<;>(repeat' apply And.intro)<;>(intros;exact Am _ _))):p:=h
theorem AKj(h:p:=by refine Ck ?_;exact Aa (B5 (B4 jA jS) A7) ⟨by rw [ANq ht43,htr]<;>rfl,rfl⟩ (hlow:=by simp [or_imp,forall_and]<;>(repeat' apply And.intro)<;>(intros;exact Am _ _))):p:=h
theorem AKk(h:p:=by refine Ck ?_;exact Aa (B5 (B4 jA jS) A7) ⟨by rw [ANr ht43 ht54]<;>rfl,rfl⟩ (hlow:=by simp [or_imp,forall_and]<;>(repeat' apply And.intro)<;>(intros;exact Am _ _))):p:=h
theorem R9(k:q)(h:Hk q→p:=by intro qk;refine Z11 ?_;refine Z22 ?_;exact qk.h):p:=h ⟨k⟩
theorem Qf(k:q)(h:Hk q→p:=by intro qk;refine Z0 ?_;refine Cp ?_;exact qk.h):p:=h ⟨k⟩
theorem AKl(h:p:=by refine Z60 ?_;exact Aa (B5 (B4 jA jS) (B4 jA jS)) ⟨by rw [e]<;>rfl,rfl⟩ (hlow:=by have:=AG2 (n:=Hp.length) (q:=(r3Q (Bi s).1).1);simp at this ⊢;exact this)):p:=h
theorem Qg(k:q)(h:Hk q→p:=by intro qk;refine Z16 ?_;refine Z2 ?_;exact qk.h):p:=h ⟨k⟩
theorem Qh(k:q)(h:Hk q→p:=by intro qk;refine Z3 ?_;refine Z31 ?_;exact qk.h):p:=h ⟨k⟩
theorem fe(k:q)(h:Hk q→p:=by intro qk;refine Hj ?_;refine R.moveT ?_;exact qk.h):p:=h ⟨k⟩
theorem AHz(h:p:=by refine Z34 ?_;exact Aa (B5 (B4 jA jS) (B4 jA jS)) ⟨by rw [e]<;>rfl,rfl⟩):p:=h
theorem W0(k:q)(h:Hk q→p:=by intro qk;refine Lo ?_;refine Z1 ?_;exact qk.h):p:=h ⟨k⟩
theorem Qi(k:q)(h:Hk q→p:=by intro qk;refine Z6 ?_;refine Z6 ?_;exact qk.h):p:=h ⟨k⟩
theorem Ra(k:q)(h:Hk q→p:=by intro qk;refine Z82 ?_;refine Z9 ?_;exact qk.h):p:=h ⟨k⟩
theorem AKm(h:p:=by refine Z5 ?_;exact AM7):p:=h
theorem ff(k:q)(h:Hk q→p:=by intro qk;refine Z1 ?_;refine Z10 ?_;exact qk.h):p:=h ⟨k⟩
theorem Qj(k:q)(h:Hk q→p:=by intro qk;refine Z3 ?_;refine Z2 ?_;exact qk.h):p:=h ⟨k⟩
theorem Rb(k:q)(h:Hk q→p:=by intro qk;refine Z3 ?_;refine Z15 ?_;exact qk.h):p:=h ⟨k⟩
theorem AI0(k:q)(h:Hk q→p:=by intro qk;refine Ez ?_;refine AAg ?_;exact qk.h):p:=h ⟨k⟩
theorem AI1(h:p:=by refine Z13 ?_;exact AAb):p:=h
theorem iz(k:q)(h:Hk q→p:=by intro qk;refine Z14 ?_;refine A2 [0,2,3] ?_;exact qk.h):p:=h ⟨k⟩
theorem fg(k:q)(h:Hk q→p:=by intro qk;refine Z1 ?_;refine A2 [0,1] ?_;exact qk.h):p:=h ⟨k⟩
theorem AE5(h:p:=by refine N7 ?_;exact Z57):p:=h
theorem Zr(k:q)(h:Hk q→p:=by intro qk;refine Ez ?_;refine Z43 ?_;exact qk.h):p:=h ⟨k⟩
theorem AI2(h:p:=by refine Z5 ?_;exact AM3):p:=h
theorem AI3(h:p:=by refine K.lpE ?_;exact F3 .nores (hp:=by rw [hxe];exact hR (hxe ▸ hx.2))):p:=h
theorem j4(k:q)(h:Hk q→p:=by intro qk;refine Z40 ?_;refine Z21 ?_;refine Z4 ?_;exact qk.h):p:=h ⟨k⟩
theorem AI4(k:q)(h:Hk q→p:=by intro qk;refine Ea [0,0,2,6,14,31,63,63,255,511] 8 Ak (by kernel_rfl) ?_;refine Z33 ?_;exact qk.h):p:=h ⟨k⟩
theorem j5(k:q)(h:Hk q→p:=by intro qk;refine Z1 ?_;refine Z13 ?_;exact qk.h):p:=h ⟨k⟩
theorem AE6(h:p:=by refine K.thJ ?_;exact Bl (by rw [e]<;>rfl)):p:=h
theorem AKn(h:p:=by refine A2 [] ?_;exact AMo):p:=h
theorem AKo(k:q)(h:Hk q→p:=by intro qk;refine Er (tn:=[9,10]) (O:=[.cells 24 [A3 0,A3 0,Ac []],.cells 24 [A3 (B9 ra).1.kind,A3 (B9 ra).1.n,Ac (B9 ra).1.s]]) ?_;refine A5 ?_;exact qk.h):p:=h ⟨k⟩
theorem AKp(h:p:=by refine N7 ?_;exact AMo):p:=h
theorem j6(h:p:=by refine Z8 ?_;exact Z70):p:=h
theorem zt(h:p:=by refine G9 [2,3,9] ?_;exact AE5):p:=h
theorem AE7(h:p:=by refine Z38 ?_;exact Aa (Ai (B4 jA jS))):p:=h
theorem fh(k:q)(h:Hk q→p:=by intro qk;refine Ez ?_;refine Z14 ?_;exact qk.h):p:=h ⟨k⟩
theorem zu(k:q)(h:Hk q→p:=by intro qk;refine Gs ?_;refine Z17 ?_;exact qk.h):p:=h ⟨k⟩
theorem j7(k:q)(h:Hk q→p:=by intro qk;refine A2 [] ?_;refine Z34 ?_;exact qk.h):p:=h ⟨k⟩
theorem AKq(h:p:=by refine A2 [0,1,7,8] ?_;exact Bm (x+1) ⟨hlt,D3 hlt hx.2 (by rw [ht16];simp)⟩ (by omega) (Ds rfl)):p:=h
theorem AKr(h:p:=by refine zu ?_;exact Aa (B5 (Fp jA) (Fp jA)) ⟨by rw [hy.2,hrun],rfl⟩ (hlow:=by simp [or_imp,forall_and])):p:=h
theorem AKs(h:p:=by refine zu ?_;exact Aa (B5 (Fp jA) (Fp jA)) ⟨by rw [hy,hrun],rfl⟩ (hlow:=by simp [or_imp,forall_and])):p:=h
theorem AI5(h:p:=by refine A9 Tryz.call96 (c96 61 e hok (by decide) _) ?_;exact Z96):p:=h
theorem AI6(h:p:=by refine Z10 ?_;exact AIk):p:=h
theorem AI7(h:p:=by refine Z65 ?_;refine Z5 ?_;exact AMn):p:=h
theorem W3(k:q)(h:Hk q→p:=by intro qk;refine Z8 ?_;refine Z8 ?_;exact qk.h):p:=h ⟨k⟩
theorem AKt(h:p:=by refine A2 [] ?_;exact F3 .nores (hp:=⟨tw m x,k,by unfold Vr;rw [hT];rfl,rfl,by exact y7⟩)):p:=h
theorem X7(k:q)(h:Hk q→p:=by intro qk;refine Z9 ?_;refine Z60 ?_;exact qk.h):p:=h ⟨k⟩
theorem j8(h:p:=by refine Z48 ?_;exact Z18):p:=h
theorem AI8(k:q)(h:Hk q→p:=by intro qk;refine Z1 ?_;refine jk ?_;exact qk.h):p:=h ⟨k⟩
theorem zv(k:q)(h:Hk q→p:=by intro qk;refine Gs ?_;refine Jb ?_;exact qk.h):p:=h ⟨k⟩
theorem X8(k:q)(h:Hk q→p:=by intro qk;refine Z73 ?_;refine Z0 ?_;exact qk.h):p:=h ⟨k⟩
theorem AE8(h:p:=by refine Z33 ?_;exact jl):p:=h
theorem AKu(k:q)(h:Hk q→p:=by intro qk;refine Il ?_;refine A5 ?_;exact qk.h):p:=h ⟨k⟩
theorem v7(k:q)(h:Hk q→p:=by intro qk;refine Z1 ?_;refine A2 [2,3,9] ?_;exact qk.h):p:=h ⟨k⟩
theorem fj(k:q)(h:Hk q→p:=by intro qk;refine Z36 ?_;refine Cp ?_;exact qk.h):p:=h ⟨k⟩
theorem AKv(h:p:=by refine Z13 ?_;exact Aa (Ai A7) ⟨by first|(rw [hgy hf];rfl)|(rw [hgv hf];rfl),rfl⟩):p:=h
theorem AKw(h:p:=by refine D.build (places:=#[(0,1),(1,1),(2,6),(8,1)]) jU (fun w=>by simp) jZ ?_;exact j6):p:=h
theorem j9(k:q)(h:Hk q→p:=by intro qk;refine Z3 ?_;refine Ez ?_;exact qk.h):p:=h ⟨k⟩
theorem fk(k:q)(h:Hk q→p:=by intro qk;refine Z37 ?_;refine Z30 ?_;refine A2 [0,1,7,8] ?_;exact qk.h):p:=h ⟨k⟩
theorem ja(k:q)(h:Hk q→p:=by intro qk;refine A5 ?_;refine AE4 ?_;exact qk.h):p:=h ⟨k⟩
theorem AE9(k:q)(h:Hk q→p:=by intro qk;refine Z23 ?_;refine Z10 ?_;exact qk.h):p:=h ⟨k⟩
theorem AKx(h:p:=by refine Bm (x+1) ⟨hlt,D3 hlt hx.2 ht19⟩ (by omega) ?_;exact Ds (by simp)):p:=h
theorem fl(k:q)(h:Hk q→p:=by intro qk;refine Z6 ?_;refine A5 ?_;exact qk.h):p:=h ⟨k⟩
theorem AEa(h:p:=by refine Z4 ?_;exact AAb):p:=h
theorem v8(h:p:=by refine As ?_;exact Z39):p:=h
theorem AKy(h:p:=by refine D.build (places:=#[(0,1),(1,1)]) jU (fun w=>by simp) jZ ?_;exact jl):p:=h
theorem jb(k:q)(h:Hk q→p:=by intro qk;refine G5 ?_;refine Z5 ?_;exact qk.h):p:=h ⟨k⟩
theorem zw(h:p:=by refine Z85 ?_;exact AI7):p:=h
theorem fm(k:q)(h:Hk q→p:=by intro qk;refine Z16 ?_;refine Z1 ?_;refine A2 [0,1,5,7,8] ?_;refine Z15 ?_;exact qk.h):p:=h ⟨k⟩
theorem AKz(h:p:=by refine C1 Tryz.call175 (fun hB=>AMs e.text Q6 hs (by decide) _) ?_;exact zw):p:=h
theorem AI9(k:q)(h:Hk q→p:=by intro qk;refine Z2 ?_;refine A9 Tryz.call255 (AMx l S o _ (Ag ho) hi) ?_;exact qk.h):p:=h ⟨k⟩
theorem zx(k:q)(h:Hk q→p:=by intro qk;refine Z46 ?_;refine A2 [1,2,3,6] ?_;exact qk.h):p:=h ⟨k⟩
theorem v9(h:p:=by refine AE9 ?_;refine Z5 ?_;exact AMd):p:=h
theorem AIa(k:q)(h:Hk q→p:=by intro qk;refine Z2 ?_;refine A9 Tryz.call115 (AJz L i o _ (Ag ho) hi) ?_;exact qk.h):p:=h ⟨k⟩
theorem fp(k:q)(h:Hk q→p:=by intro qk;refine Z15 ?_;refine Z6 ?_;exact qk.h):p:=h ⟨k⟩
theorem AL0(h:p:=by refine Z94 ?_;exact Aa (B5 A7 A7) ⟨by unfold Yk;rw [hm];try rfl,rfl⟩):p:=h
theorem jc(k:q)(h:Hk q→p:=by intro qk;refine Z20 ?_;refine Z47 ?_;exact qk.h):p:=h ⟨k⟩
theorem AIb(k:q)(h:Hk q→p:=by intro qk;refine Y.allocP Tryz.zeroValue118 ?_;refine Y.storeP Tryz.sizeOf118 ?_;exact qk.h):p:=h ⟨k⟩
theorem fq(k:q)(h:Hk q→p:=by intro qk;refine Z7 ?_;refine Z12 ?_;exact qk.h):p:=h ⟨k⟩
theorem vd(h:p:=by refine Z45 ?_;exact Z25):p:=h
theorem nn(k:q)(h:Hk q→p:=by intro qk;refine Z94 ?_;refine Ck ?_;exact qk.h):p:=h ⟨k⟩
theorem jd(k:q)(h:Hk q→p:=by intro qk;refine Z24 ?_;refine A5 ?_;exact qk.h):p:=h ⟨k⟩
theorem ve(k:q)(h:Hk q→p:=by intro qk;refine A2 [6] ?_;refine Z34 ?_;exact qk.h):p:=h ⟨k⟩
theorem fu(k:q)(h:Hk q→p:=by intro qk;refine Z37 ?_;refine Z1 ?_;exact qk.h):p:=h ⟨k⟩
theorem AL1(h:p:=by refine Z79 ?_;exact AAk):p:=h
theorem vf(k:q)(h:Hk q→p:=by intro qk;refine N7 ?_;refine M9 ?_;exact qk.h):p:=h ⟨k⟩
theorem AIc(h:p:=by refine Z26 ?_;exact Aa .nores (hp:=h5)):p:=h
theorem zy(h:p:=by refine j5 ?_;refine Z51 ?_;exact Aa (Ai A7) ⟨by rw [ACd hlt ht16 hx.2],rfl⟩):p:=h
theorem je(k:q)(h:Hk q→p:=by intro qk;refine Z16 ?_;refine Z15 ?_;exact qk.h):p:=h ⟨k⟩
theorem np(k:q)(h:Hk q→p:=by intro qk;refine Z65 ?_;refine Z5 ?_;exact qk.h):p:=h ⟨k⟩
theorem jf(k:q)(h:Hk q→p:=by intro qk;refine Z41 ?_;refine Z30 ?_;exact qk.h):p:=h ⟨k⟩
theorem AL2(h:p:=by refine Z42 ?_;exact AMn):p:=h
theorem AL3(h:p:=by refine Bm (x+1) ⟨hlt,hn⟩ (by omega) ?_;exact Ds (by simp)):p:=h
theorem vg(k:q)(h:Hk q→p:=by intro qk;refine K.blR ?_;refine K.lpR ?_;exact qk.h):p:=h ⟨k⟩
theorem zz(h:p:=by refine j4 ?_;refine Z5 ?_;exact AM2):p:=h
theorem AL4(h:p:=by refine Z5 ?_;exact AM4):p:=h
theorem AL5(k:q)(h:Hk q→p:=by intro qk;refine Y.buildSlice jU Tryz.sizeOf9 Tryz.zeroValue9 ?_;refine Er (tn:=[2]) (U:=U2 L Hp o om j (mvO m)) ?_;exact qk.h):p:=h ⟨k⟩
theorem AId(k:q)(h:Hk q→p:=by intro qk;refine A9 Tryz.call46 (c46 c hc hc2 l h _) ?_;refine Z75 ?_;exact qk.h):p:=h ⟨k⟩
theorem AL6(h:p:=by refine Z5 ?_;exact Aa (B5 A7 A7) ⟨by simp_all [ph],rfl⟩):p:=h
theorem AL7(h:p:=by refine Z38 ?_;exact Aa (Ai (B4 jA jS)) ⟨by simp [ht5],rfl⟩):p:=h
theorem vh(k:q)(h:Hk q→p:=by intro qk;refine Lo ?_;refine Z7 ?_;exact qk.h):p:=h ⟨k⟩
theorem AL8(k:q)(h:Hk q→p:=by intro qk;refine Z15 ?_;refine Cj Tryz.call156 ho (by simp) Dj (wp l S 8 (Af l S.i).at_ o _ (Ag ho)) ?_;exact qk.h):p:=h ⟨k⟩
theorem AL9(h:p:=by refine Ck ?_;exact Aa (Ai A7) ⟨by rw [hx.eq,hw],rfl⟩):p:=h
theorem ALa(h:p:=by refine Z10 ?_;exact AIj):p:=h
theorem ALb(h:p:=by refine Z17 ?_;exact AIj):p:=h
theorem jg(k:q)(h:Hk q→p:=by intro qk;refine Z3 ?_;refine Z23 ?_;exact qk.h):p:=h ⟨k⟩
theorem vi(k:q)(h:Hk q→p:=by intro qk;refine Ez ?_;refine AKu ?_;exact qk.h):p:=h ⟨k⟩
theorem AA0(k:q)(h:Hk q→p:=by intro qk;refine ff ?_;refine Ck ?_;exact qk.h):p:=h ⟨k⟩
theorem ALc(h:p:=by refine Z51 ?_;exact Aa (B5 A7 A7) ⟨by rw [hbad],rfl⟩):p:=h
theorem ALd(h:p:=by refine Z5 ?_;exact Aa (B5 A7 A7) ⟨by rw [hk,hk2],rfl⟩):p:=h
theorem AA1(h:p:=by refine Z42 ?_;exact Z18):p:=h
theorem ALe(h:p:=by refine A5 ?_;refine Z10 ?_;exact Z32):p:=h
theorem AA2(h:p:=by refine Z68 ?_;refine A2 [0,1,7,8] ?_;exact Bm (x+1) ⟨hlt,D3 hlt hx.2 ht16⟩ (by omega) (Ds rfl)):p:=h
theorem jh(k:q)(h:Hk q→p:=by intro qk;refine Z3 ?_;refine Z30 ?_;exact qk.h):p:=h ⟨k⟩
theorem ALf(h:p:=by refine np ?_;exact AAi):p:=h
theorem ALg(k:q)(h:Hk q→p:=by intro qk;refine AAj ?_;refine Bm (x+1) ⟨hlt,D3 hlt hx.2 ht27⟩ (by omega) ?_;exact qk.h):p:=h ⟨k⟩
theorem ALh(h:p:=by refine AA0 ?_;exact AIk):p:=h
theorem AEb(k:q)(h:Hk q→p:=by intro qk;refine Z0 ?_;refine A9 Tryz.call263 (AQk _ _ _) ?_;refine Z0 ?_;exact qk.h):p:=h ⟨k⟩
theorem AEc(k:q)(h:Hk q→p:=by intro qk;refine A2 [2,3,4,5] ?_;refine Z34 ?_;exact qk.h):p:=h ⟨k⟩
theorem AA3(h:p:=by refine Z27 ?_;refine Z48 ?_;exact Aa (Ai A7) ⟨by rw [pk (My hxe hx.2)],rfl⟩):p:=h
theorem ALi(h:p:=by refine Z5 ?_;exact AIk):p:=h
theorem ALj(k:q)(h:Hk q→p:=by intro qk;refine Ea [0,1,3,7,15,3,35,99,255,511,1023] 8 Ak (by kernel_rfl) ?_;refine Z8 ?_;exact qk.h):p:=h ⟨k⟩
theorem AA4(k:q)(h:Hk q→p:=by intro qk;refine Z2 ?_;refine P0 6 2 ?_;exact qk.h):p:=h ⟨k⟩
theorem AA5(k:q)(h:Hk q→p:=by intro qk;refine Z1 ?_;refine Mn ?_;exact qk.h):p:=h ⟨k⟩
theorem ALk(k:q)(h:Hk q→p:=by intro qk;refine Z63 ?_;refine Ea [0,1,3,7,0,16,48,112,255,511,1023] 8 Ak (by kernel_rfl) ?_;exact qk.h):p:=h ⟨k⟩
theorem ji(k:q)(h:Hk q→p:=by intro qk;refine Z3 ?_;refine Z7 ?_;exact qk.h):p:=h ⟨k⟩
theorem ALl(h:p:=by refine Dx Tryz.call240 (ANn c l k0 ra ha _) ?_;exact AE8):p:=h
theorem AIe(k:q)(h:Hk q→p:=by intro qk;refine Ez ?_;refine A9 Tryz.call215 (AOr _) ?_;exact qk.h):p:=h ⟨k⟩
theorem AEd(k:q)(h:Hk q→p:=by intro qk;refine Z24 ?_;refine A2 [0,1,2,6] ?_;exact qk.h):p:=h ⟨k⟩
theorem AA6(h:p:=by refine Z0 ?_;refine Z13 ?_;exact Aa (Ai A7) ⟨by rw [←x9];try rfl,rfl⟩):p:=h
theorem AEe(h:p:=by refine Z48 ?_;exact X6):p:=h
theorem vj(k:q)(h:Hk q→p:=by intro qk;refine Tx ?_;refine Z15 ?_;exact qk.h):p:=h ⟨k⟩
theorem vk(k:q)(h:Hk q→p:=by intro qk;refine A5 ?_;refine Z79 ?_;exact qk.h):p:=h ⟨k⟩
theorem AEf(k:q)(h:Hk q→p:=by intro qk;refine A2 [2,3,6,7] ?_;refine Z2 ?_;exact qk.h):p:=h ⟨k⟩
theorem AIf(k:q)(h:Hk q→p:=by intro qk;refine A5 ?_;refine A9 Tryz.call139 (AP5 e _) ?_;exact qk.h):p:=h ⟨k⟩
theorem ALm(h:p:=by refine Z4 ?_;exact vq):p:=h
theorem ALn(h:p:=by refine Z34 ?_;exact AEr):p:=h
theorem AEg(k:q)(h:Hk q→p:=by intro qk;refine R.loadUpT jA hA ?_;refine Z71 ?_;exact qk.h):p:=h ⟨k⟩
theorem AEh(h:p:=by refine Sc ?_;refine Z42 ?_;exact vq):p:=h
theorem AEi(k:q)(h:Hk q→p:=by intro qk;refine A5 ?_;refine X3 jS ?_;exact qk.h):p:=h ⟨k⟩
theorem AA7(k:q)(h:Hk q→p:=by intro qk;refine Ez ?_;refine R.box ?_;exact qk.h):p:=h ⟨k⟩
theorem AA8(k:q)(h:Hk q→p:=by intro qk;refine Z23 ?_;refine A2 [0] ?_;exact qk.h):p:=h ⟨k⟩
theorem nq(k:q)(h:Hk q→p:=by intro qk;refine Z27 ?_;refine Z2 ?_;exact qk.h):p:=h ⟨k⟩
theorem AA9(k:q)(h:Hk q→p:=by intro qk;refine Z2 ?_;refine P1 ?_;exact qk.h):p:=h ⟨k⟩
theorem ALo(h:p:=by refine Ck ?_;exact Aa (Ai A7) ⟨rfl,rfl⟩):p:=h
theorem AEj(k:q)(h:Hk q→p:=by intro qk;refine Z28 ?_;refine H5 0 5 6 ?_;exact qk.h):p:=h ⟨k⟩
theorem ALp(k:q)(h:Hk q→p:=by intro qk;refine W.draw [0,1,3,7,7,31,63,0,127,511] 9 Ak (by kernel_rfl) ?_;refine Z33 ?_;exact qk.h):p:=h ⟨k⟩
theorem AEk(h:p:=by refine Z1 ?_;refine R.nilTmp 4 2 false ?_;exact ALe):p:=h
theorem ALq(h:p:=by refine Z4 ?_;exact AEr):p:=h
theorem AEl(h:p:=by refine AEb ?_;refine Z79 ?_;refine Z5 ?_;exact AMe):p:=h
theorem AEm(h:p:=by refine Z48 ?_;exact Z44):p:=h
theorem ALr(k:q)(h:Hk q→p:=by intro qk;refine Z2 ?_;refine vn ?_;exact qk.h):p:=h ⟨k⟩
theorem AIg(k:q)(h:Hk q→p:=by intro qk;refine H5 0 1 1 ?_;refine H5 0 7 6 ?_;exact qk.h):p:=h ⟨k⟩
theorem ALs(h:p:=by refine K.lpE ?_;exact F3 .nores (hp:=by rw [hxe])):p:=h
theorem AAa(k:q)(h:Hk q→p:=by intro qk;refine Z3 ?_;refine Lo ?_;exact qk.h):p:=h ⟨k⟩
theorem AEn(k:q)(h:Hk q→p:=by intro qk;refine Z46 ?_;refine A2 [2,3,4] ?_;exact qk.h):p:=h ⟨k⟩
theorem vl(k:q)(h:Hk q→p:=by intro qk;refine Z23 ?_;refine Cp ?_;exact qk.h):p:=h ⟨k⟩
theorem AEo(h:p:=by refine Z0 ?_;exact AI1):p:=h
theorem ALt(h:p:=by refine Z4 ?_;exact Aa (Ai A7) ⟨rfl,rfl⟩):p:=h
theorem ALu(h:p:=by refine A9 Tryz.call105 (AAr s hs _) ?_;exact Z96):p:=h
theorem vm(h:p:=by exact ⟨rfl,Below.refl _ _⟩):p:=h
theorem ALv(h:p:=by exact h (y,j) (by rw [Lr];exact hj)):p:=h
theorem AAb(h:p:=by exact Aa (Ai A7)):p:=h
theorem fw(k:q)(h:Hk q→p:=by intro qk;refine A2 [0,1,5,7,8,16] ?_;exact qk.h):p:=h ⟨k⟩
theorem Jb(k:q)(h:Hk q→p:=by intro qk;refine A2 [2,3] ?_;exact qk.h):p:=h ⟨k⟩
theorem Gs(k:q)(h:Hk q→p:=by intro qk;refine R.storeOwn jS ?_;exact qk.h):p:=h ⟨k⟩
theorem vn(k:q)(h:Hk q→p:=by intro qk;refine Ou (places:=#[(0,1),(1,1),(2,1)]) jU (fun w=>by simp) jZ ?_;exact qk.h):p:=h ⟨k⟩
theorem ALw(h:p:=by exact Aa (Ai A7) ⟨by simp only [Mc,hp,ht7,ht14,ht23,ht27,Hw,Bd,if_false,if_true];try rfl,rfl⟩):p:=h
theorem ALx(h:p:=by exact Aa (B5 (B4 jA jS) A7) ⟨by simp only [jq,ht17,if_true,if_false,Bd];rfl,rfl⟩):p:=h
theorem Lo(k:q)(h:Hk q→p:=by intro qk;refine AW.block ?_;exact qk.h):p:=h ⟨k⟩
theorem Ez(k:q)(h:Hk q→p:=by intro qk;refine AW.seqR ?_;exact qk.h):p:=h ⟨k⟩
theorem Mn(k:q)(h:Hk q→p:=by intro qk;refine A2 [0,3] ?_;exact qk.h):p:=h ⟨k⟩
theorem ALy(h:p:=by exact Aa (La A7 A7 A7 A7) ⟨by simp only [Rf,ht11,ht17,if_true,if_false,Bd];try rfl,rfl⟩):p:=h
theorem ALz(h:p:=by exact Aa (La A7 A7 A7 A7) ⟨by simp only [Xh,ht18,ht23,if_true,if_false,Bd];try rfl,rfl⟩):p:=h
theorem AM0(h:p:=by exact Aa (La A7 A7 A7 A7) ⟨by simp only [Cn,ht6,ht17,ht28,if_true,if_false,Bd],rfl⟩):p:=h
theorem fx(h:p:=by exact absurd h (by decide)):p:=h
theorem P1(k:q)(h:Hk q→p:=by intro qk;refine R.alloc jZ ?_;exact qk.h):p:=h ⟨k⟩
theorem AAc(k:q)(h:Hk q→p:=by intro qk;refine K.rdN (ix hL (Cb (by decide)) (Cb (by decide))) ?_;exact qk.h):p:=h ⟨k⟩
theorem Sd(k:q)(h:Hk q→p:=by intro qk;refine R.buildSlice jU jS jZ ?_;exact qk.h):p:=h ⟨k⟩
theorem jk(k:q)(h:Hk q→p:=by intro qk;refine Ou (places:=#[(0,1),(1,1)]) jU (fun w=>by simp) jZ ?_;exact qk.h):p:=h ⟨k⟩
theorem AAd(h:p:=by exact ⟨hFRl,by simp [oid]⟩):p:=h
theorem AAe(h:p:=by exact Kp (fun x hx=>ObjLow.le (by omega) (hlow x hx)) hOl x hx):p:=h
theorem AEp(k:q)(h:Hk q→p:=by intro qk;refine K.rdR (ix hL (Cb (by decide)) (Cb (by decide))) ?_;exact qk.h):p:=h ⟨k⟩
theorem AAf(k:q)(h:Hk q→p:=by intro qk;refine Bm (x+1) hlt (by omega) ?_;exact qk.h):p:=h ⟨k⟩
theorem AAg(k:q)(h:Hk q→p:=by intro qk;refine Ou (places:=#[(0,1),(1,1),(2,3),(5,1)]) jU (fun w=>by simp) jZ ?_;exact qk.h):p:=h ⟨k⟩
theorem Zs(k:q)(h:Hk q→p:=by intro qk;refine A2 [0,1,5] ?_;exact qk.h):p:=h ⟨k⟩
theorem Zt(h:p:=by exact Yf _):p:=h
theorem Zu(k:q)(h:Hk q→p:=by intro qk;refine A2 [0,1,2] ?_;exact qk.h):p:=h ⟨k⟩
theorem vo(h:p:=by exact hcmp _ rfl rfl hf):p:=h
theorem AAh(h:p:=by exact har _ rfl rfl rfl hf):p:=h
theorem AM1(h:p:=by exact Aa (Ai (B4 jA jS)) ⟨by first|exact AC3 (by unfold Dz;simp [*];done)|exact AC2 (by unfold Dz;simp [*];done)|exact AC4 (by unfold Dz;simp [*];done),rfl⟩):p:=h
theorem AM2(h:p:=by exact Aa (Ai (B4 jA jS)) ⟨by first|exact AC3 (by unfold Fl;simp [*];done)|exact AC2 (by unfold Fl;simp [*];done)|exact AC4 (by unfold Fl;simp [*];done),rfl⟩):p:=h
theorem AM3(h:p:=by exact Aa (Ai (B4 jA jS)) ⟨by simp_all [Kf],rfl⟩):p:=h
theorem AM4(h:p:=by exact Aa (B5 A7 A7) ⟨by simp_all [F5],rfl⟩):p:=h
theorem vp(k:q)(h:Hk q→p:=by intro qk;refine A2 [2,6,13,14,15] ?_;exact qk.h):p:=h ⟨k⟩
theorem AIh(h:p:=by exact Aa (B5 A7 A7) ⟨by rw [hk],rfl⟩):p:=h
theorem vq(h:p:=by exact Aa (Ai A7) ⟨by rw [hm],rfl⟩):p:=h
theorem AM5(h:p:=by exact Aa (Ai A7) ⟨by rw [hn];first|(simp only [ht22,ht25,ht33,ht41,ht41,ht50,ht58,hk3,hk6,L3,F1,L2,Of,if_true,if_false,Bd,↓reduceIte]<;>rfl)|(simp only [ht22,ht25,ht33,ht41,ht41,ht50,ht58,hk3,L3,F1,L2,if_true,if_false,Bd,↓reduceIte]<;>rfl)|(simp only [ht22,ht25,ht33,ht41,ht41,ht50,ht58,if_true,if_false,Bd,↓reduceIte]<;>rfl),rfl⟩):p:=h
theorem AAi(h:p:=by exact Aa (Ai A7) ⟨by rw [hm]<;>rfl,rfl⟩):p:=h
theorem AEq(k:q)(h:Hk q→p:=by intro qk;refine Bm (x+1) ⟨hlt,hN⟩ (by omega) ?_;exact qk.h):p:=h ⟨k⟩
theorem AM6(h:p:=by exact Aa (B5 (B4 jA jS) A7) ⟨by rw [hm];show _=AV.tup [A8 Av,B0 false];rw [Al];rfl,rfl⟩ (hlow:=by simp [or_imp,forall_and])):p:=h
theorem AM7(h:p:=by exact Aa (B5 (B4 jA jS) A7) ⟨by rw [hm];show _=AV.tup [A8 Av,A3 _];rw [Al];rfl,rfl⟩ (hlow:=by simp [or_imp,forall_and])):p:=h
theorem AAj(k:q)(h:Hk q→p:=by intro qk;refine A2 [1,2,8,13,14,15] ?_;exact qk.h):p:=h ⟨k⟩
theorem AM8(h:p:=by exact Aa (Ai A7) ⟨rfl,by first|(rw [e];done)|(rw [e];rfl)|(rw [e];exact (Ce ho).symm)⟩):p:=h
theorem AM9(h:p:=by exact ⟨Jq (T3 _ _ _).symm,by rw [T3];exact hi,hc⟩):p:=h
theorem AMa(k:q)(h:Hk q→p:=by intro qk;refine Y.storeOwn (u:=Hp.length) (n:=0) (t':=29) (cs:=[B0 false,.nil,A3 0,Ac [],A3 0,A3 0,Ac [],.nil,A3 0]) (cs':=[B0 false,.nil,A3 0,Ac [],A3 0,A3 0,Ac [],.nil,A3 0]) Tryz.sizeOf29 (fun B hB=>⟨rfl,rfl,rfl,rfl⟩) ?_;exact qk.h):p:=h ⟨k⟩
theorem AMb(k:q)(h:Hk q→p:=by intro qk;refine Fj [0,0,2,6,14,1,63] [5] [.q 5 [] [],.s [] (some 0) [] []] (fun _=>Hp) (fun _=>[.cells 29 [B0 false,.nil,A3 0,Ac [],A3 0,A3 0,Ac [],.nil,A3 0],.cells 73 [A3 0,A3 0],.cells 73 [A3 (Bi s).2.1,A3 ((Bi s).2.2:Nat)],prq (Bi s).1 (s5Q (Bi s).1),qo true (r3Q (Bi s).1).1]) Ak (by kernel_rfl) rfl rfl (fun _=>rfl) ?_;exact qk.h):p:=h ⟨k⟩
theorem AIi(h:p:=by exact Aa (Ai A7) ⟨by rw [e],rfl⟩):p:=h
theorem AMc(h:p:=by exact Aa (B5 (B4 jA jS) A7) ⟨by rw [hw];try rfl,rfl⟩):p:=h
theorem AMd(h:p:=by exact Aa (B5 A7 A7) ⟨by simp_all [I7],rfl⟩):p:=h
theorem AMe(h:p:=by exact Aa (B5 (B4 Tryz.isAgg24 Tryz.sizeOf24) A7) ⟨by simp_all [Jg],rfl⟩):p:=h
theorem AAk(h:p:=by exact Aa (B5 (B4 jA jS) A7) ⟨by rw [hm];try rfl,rfl⟩):p:=h
theorem AMf(h:p:=by exact Aa (Ai (B4 jA jS)) ⟨by rw [hm];try rfl,rfl⟩):p:=h
theorem AMg(k:q)(h:Hk q→p:=by intro qk;refine Y.alloc (zs:=[A3 0,A3 0,Ac []]) (n:=1) (u:=Hp.length) Tryz.zeroValue24 (fun B hT hF hB=>⟨rfl,by simp [hB],by simp [upd,hB,hF 1 (by simp)],rfl⟩) ?_;exact qk.h):p:=h ⟨k⟩
theorem AMh(h:p:=by exact Hu (dq _ _) (by rw [C0];omega)):p:=h
theorem AMi(h:p:=by exact Aa (Ai A7) ⟨rfl,rfl⟩ (hlow:=D5)):p:=h
theorem AMj(h:p:=by exact ⟨dv i,hl.step hi (by rw [hk];decide)⟩):p:=h
theorem nr(h:p:=by exact ⟨by omega,c2,c3⟩):p:=h
theorem AAl(h:p:=by exact (D6 hX (e)).elim):p:=h
theorem AMk(h:p:=by exact (D6 hX (by first|exact by unfold Vr;rw [hT];rfl|exact hT)).elim):p:=h
theorem jl(h:p:=by exact D.end rfl rfl):p:=h
theorem AMl(h:p:=by exact (ANy L i o _ (Ag (F0 ho hne)) hi hl hll).ok hT):p:=h
theorem AAm(k:q)(h:Hk q→p:=by intro qk;refine AW.upEq (Tg ho hm).symm ?_;exact qk.h):p:=h ⟨k⟩
theorem AEr(h:p:=by exact Aa (Ai A7) ⟨by simp,rfl⟩):p:=h
theorem AIj(h:p:=by exact Aa (B5 A7 A7) ⟨by rw [hm]<;>rfl,rfl⟩):p:=h
theorem AMm(h:p:=by exact Aa .nores (hp:=⟨rfl,by first|(rw [e];exact (cn hne ho hoq).symm)|(rw [e];exact (Ce (xh hne hoq)).symm)|(rw [e];simp only [Bv];exact (Ce (xh hne hoq)).symm)|(rw [e];simp only [Bv];rw [ACt hne];rfl)|(rw [e];simp only [Bv];rw [N2 _ _ hne];rfl)⟩)):p:=h
theorem AMn(h:p:=by exact Aa (Ai A7) ⟨by simp_all [Es,O8],rfl⟩):p:=h
theorem AMo(h:p:=by exact F3 .nores (hp:=⟨rfl,by first|(rw [e];done)|(rw [e];rfl)|(rw [e];exact (Ce ho).symm)⟩)):p:=h
theorem AIk(h:p:=by exact Aa (B5 A7 A7) ⟨by rw [hm],rfl⟩):p:=h
end Go.SX.Nb
namespace Go.SX.Nb
open Go Go.SX Go.Proofs
@[reducible,instance] def JA2:=JA.mk (P:=Tryz.prog) Tryz.isAgg2
@[reducible,instance] def JA3:=JA.mk (P:=Tryz.prog) Tryz.isAgg3
@[reducible,instance] def JA4:=JA.mk (P:=Tryz.prog) Tryz.isAgg4
@[reducible,instance] def JA9:=JA.mk (P:=Tryz.prog) Tryz.isAgg9
@[reducible,instance] def ASj:=JA.mk (P:=Tryz.prog) Tryz.isAgg22
@[reducible,instance] def ASk:=JA.mk (P:=Tryz.prog) Tryz.isAgg24
@[reducible,instance] def ASl:=JA.mk (P:=Tryz.prog) Tryz.isAgg25
@[reducible,instance] def ASm:=JA.mk (P:=Tryz.prog) Tryz.isAgg27
@[reducible,instance] def ASn:=JA.mk (P:=Tryz.prog) Tryz.isAgg29
@[reducible,instance] def ASo:=JA.mk (P:=Tryz.prog) Tryz.isAgg30
@[reducible,instance] def ASp:=JA.mk (P:=Tryz.prog) Tryz.isAgg31
@[reducible,instance] def ASq:=JA.mk (P:=Tryz.prog) Tryz.isAgg37
@[reducible,instance] def ASr:=JA.mk (P:=Tryz.prog) Tryz.isAgg38
@[reducible,instance] def ASs:=JA.mk (P:=Tryz.prog) Tryz.isAgg41
@[reducible,instance] def ASt:=JA.mk (P:=Tryz.prog) Tryz.isAgg52
@[reducible,instance] def ASu:=JA.mk (P:=Tryz.prog) Tryz.isAgg54
@[reducible,instance] def ASv:=JA.mk (P:=Tryz.prog) Tryz.isAgg58
@[reducible,instance] def ASw:=JA.mk (P:=Tryz.prog) Tryz.isAgg69
@[reducible,instance] def ASx:=JA.mk (P:=Tryz.prog) Tryz.isAgg73
@[reducible,instance] def ASy:=JA.mk (P:=Tryz.prog) Tryz.isAgg80
@[reducible,instance] def ARq:=JA.mk (P:=Tryz.prog) Tryz.isAgg104
@[reducible,instance] def ARr:=JA.mk (P:=Tryz.prog) Tryz.isAgg107
@[reducible,instance] def ARs:=JA.mk (P:=Tryz.prog) Tryz.isAgg118
@[reducible,instance] def ARt:=JA.mk (P:=Tryz.prog) Tryz.isAgg184
@[reducible,instance] def ARu:=JA.mk (P:=Tryz.prog) Tryz.isAgg186
@[reducible,instance] def ARv:=JA.mk (P:=Tryz.prog) Tryz.isAgg194
@[reducible,instance] def ARw:=JA.mk (P:=Tryz.prog) Tryz.isAgg195
@[reducible,instance] def ARx:=JA.mk (P:=Tryz.prog) Tryz.isAgg206
@[reducible,instance] def JS2:=JS.mk (P:=Tryz.prog) Tryz.sizeOf2
@[reducible,instance] def JS3:=JS.mk (P:=Tryz.prog) Tryz.sizeOf3
@[reducible,instance] def JS4:=JS.mk (P:=Tryz.prog) Tryz.sizeOf4
@[reducible,instance] def JS9:=JS.mk (P:=Tryz.prog) Tryz.sizeOf9
@[reducible,instance] def ASz:=JS.mk (P:=Tryz.prog) Tryz.sizeOf22
@[reducible,instance] def AT0:=JS.mk (P:=Tryz.prog) Tryz.sizeOf24
@[reducible,instance] def AT1:=JS.mk (P:=Tryz.prog) Tryz.sizeOf25
@[reducible,instance] def AT2:=JS.mk (P:=Tryz.prog) Tryz.sizeOf27
@[reducible,instance] def AT3:=JS.mk (P:=Tryz.prog) Tryz.sizeOf29
@[reducible,instance] def AT4:=JS.mk (P:=Tryz.prog) Tryz.sizeOf30
@[reducible,instance] def AT5:=JS.mk (P:=Tryz.prog) Tryz.sizeOf31
@[reducible,instance] def AT6:=JS.mk (P:=Tryz.prog) Tryz.sizeOf37
@[reducible,instance] def AT7:=JS.mk (P:=Tryz.prog) Tryz.sizeOf38
@[reducible,instance] def AT8:=JS.mk (P:=Tryz.prog) Tryz.sizeOf41
@[reducible,instance] def AT9:=JS.mk (P:=Tryz.prog) Tryz.sizeOf52
@[reducible,instance] def ATa:=JS.mk (P:=Tryz.prog) Tryz.sizeOf54
@[reducible,instance] def ATb:=JS.mk (P:=Tryz.prog) Tryz.sizeOf58
@[reducible,instance] def ATc:=JS.mk (P:=Tryz.prog) Tryz.sizeOf69
@[reducible,instance] def ATd:=JS.mk (P:=Tryz.prog) Tryz.sizeOf73
@[reducible,instance] def ATe:=JS.mk (P:=Tryz.prog) Tryz.sizeOf80
@[reducible,instance] def ARy:=JS.mk (P:=Tryz.prog) Tryz.sizeOf104
@[reducible,instance] def ARz:=JS.mk (P:=Tryz.prog) Tryz.sizeOf118
@[reducible,instance] def AS0:=JS.mk (P:=Tryz.prog) Tryz.sizeOf184
@[reducible,instance] def AS1:=JS.mk (P:=Tryz.prog) Tryz.sizeOf186
@[reducible,instance] def AS2:=JS.mk (P:=Tryz.prog) Tryz.sizeOf206
@[reducible,instance] def JU2:=JU.mk (P:=Tryz.prog) Tryz.underlying2
@[reducible,instance] def JU3:=JU.mk (P:=Tryz.prog) Tryz.underlying3
@[reducible,instance] def JU4:=JU.mk (P:=Tryz.prog) Tryz.underlying4
@[reducible,instance] def JU5:=JU.mk (P:=Tryz.prog) Tryz.underlying5
@[reducible,instance] def JU9:=JU.mk (P:=Tryz.prog) Tryz.underlying9
@[reducible,instance] def ATf:=JU.mk (P:=Tryz.prog) Tryz.underlying20
@[reducible,instance] def ATg:=JU.mk (P:=Tryz.prog) Tryz.underlying22
@[reducible,instance] def ATh:=JU.mk (P:=Tryz.prog) Tryz.underlying24
@[reducible,instance] def ATi:=JU.mk (P:=Tryz.prog) Tryz.underlying25
@[reducible,instance] def ATj:=JU.mk (P:=Tryz.prog) Tryz.underlying27
@[reducible,instance] def ATk:=JU.mk (P:=Tryz.prog) Tryz.underlying29
@[reducible,instance] def ATl:=JU.mk (P:=Tryz.prog) Tryz.underlying30
@[reducible,instance] def ATm:=JU.mk (P:=Tryz.prog) Tryz.underlying31
@[reducible,instance] def ATn:=JU.mk (P:=Tryz.prog) Tryz.underlying37
@[reducible,instance] def ATo:=JU.mk (P:=Tryz.prog) Tryz.underlying41
@[reducible,instance] def ATp:=JU.mk (P:=Tryz.prog) Tryz.underlying52
@[reducible,instance] def ATq:=JU.mk (P:=Tryz.prog) Tryz.underlying54
@[reducible,instance] def ATr:=JU.mk (P:=Tryz.prog) Tryz.underlying58
@[reducible,instance] def ATs:=JU.mk (P:=Tryz.prog) Tryz.underlying69
@[reducible,instance] def ATt:=JU.mk (P:=Tryz.prog) Tryz.underlying73
@[reducible,instance] def ATu:=JU.mk (P:=Tryz.prog) Tryz.underlying80
@[reducible,instance] def AS3:=JU.mk (P:=Tryz.prog) Tryz.underlying104
@[reducible,instance] def AS4:=JU.mk (P:=Tryz.prog) Tryz.underlying109
@[reducible,instance] def AS5:=JU.mk (P:=Tryz.prog) Tryz.underlying113
@[reducible,instance] def AS6:=JU.mk (P:=Tryz.prog) Tryz.underlying118
@[reducible,instance] def AS7:=JU.mk (P:=Tryz.prog) Tryz.underlying184
@[reducible,instance] def AS8:=JU.mk (P:=Tryz.prog) Tryz.underlying186
@[reducible,instance] def AS9:=JU.mk (P:=Tryz.prog) Tryz.underlying197
@[reducible,instance] def ASa:=JU.mk (P:=Tryz.prog) Tryz.underlying206
@[reducible,instance] def ASb:=JU.mk (P:=Tryz.prog) Tryz.underlying249
@[reducible,instance] def JZ3:=JZ.mk (P:=Tryz.prog) Tryz.zeroValue3
@[reducible,instance] def JZ4:=JZ.mk (P:=Tryz.prog) Tryz.zeroValue4
@[reducible,instance] def JZ9:=JZ.mk (P:=Tryz.prog) Tryz.zeroValue9
@[reducible,instance] def ATv:=JZ.mk (P:=Tryz.prog) Tryz.zeroValue24
@[reducible,instance] def ATw:=JZ.mk (P:=Tryz.prog) Tryz.zeroValue25
@[reducible,instance] def ATx:=JZ.mk (P:=Tryz.prog) Tryz.zeroValue27
@[reducible,instance] def ATy:=JZ.mk (P:=Tryz.prog) Tryz.zeroValue29
@[reducible,instance] def ATz:=JZ.mk (P:=Tryz.prog) Tryz.zeroValue30
@[reducible,instance] def AU0:=JZ.mk (P:=Tryz.prog) Tryz.zeroValue31
@[reducible,instance] def AU1:=JZ.mk (P:=Tryz.prog) Tryz.zeroValue37
@[reducible,instance] def AU2:=JZ.mk (P:=Tryz.prog) Tryz.zeroValue38
@[reducible,instance] def AU3:=JZ.mk (P:=Tryz.prog) Tryz.zeroValue41
@[reducible,instance] def AU4:=JZ.mk (P:=Tryz.prog) Tryz.zeroValue52
@[reducible,instance] def AU5:=JZ.mk (P:=Tryz.prog) Tryz.zeroValue58
@[reducible,instance] def AU6:=JZ.mk (P:=Tryz.prog) Tryz.zeroValue69
@[reducible,instance] def AU7:=JZ.mk (P:=Tryz.prog) Tryz.zeroValue73
@[reducible,instance] def AU8:=JZ.mk (P:=Tryz.prog) Tryz.zeroValue80
@[reducible,instance] def ASc:=JZ.mk (P:=Tryz.prog) Tryz.zeroValue104
@[reducible,instance] def ASd:=JZ.mk (P:=Tryz.prog) Tryz.zeroValue109
@[reducible,instance] def ASe:=JZ.mk (P:=Tryz.prog) Tryz.zeroValue113
@[reducible,instance] def ASf:=JZ.mk (P:=Tryz.prog) Tryz.zeroValue118
@[reducible,instance] def ASg:=JZ.mk (P:=Tryz.prog) Tryz.zeroValue186
@[reducible,instance] def ASh:=JZ.mk (P:=Tryz.prog) Tryz.zeroValue197
@[reducible,instance] def ASi:=JZ.mk (P:=Tryz.prog) Tryz.zeroValue206
end Go.SX.Nb
