/- On the way (part 3). -/
import Derived.Test.YtekiioamifokoaaGreatDoorProg
import Derived.Test.YtekiioamifokoaaGreatDoorRewriteBackCardSaidPart2
set_option linter.all false
namespace Go.SX.Nb
open Go Go.SX Go.Proofs
structure Hk (q:Prop):Prop where h:q
variable {p q:Prop}
theorem Z0(k:q)(h:Hk q→p:=by intro qk;refine A5 ?_;refine A5 ?_;exact qk.h):p:=h ⟨k⟩
theorem Z1(k:q)(h:Hk q→p:=by intro qk;refine F0 ?_;refine Z0 ?_;exact qk.h):p:=h ⟨k⟩
theorem Z2(k:q)(h:Hk q→p:=by intro qk;refine F0 ?_;refine A5 ?_;exact qk.h):p:=h ⟨k⟩
theorem Z3(k:q)(h:Hk q→p:=by intro qk;refine Oa ?_;refine Il ?_;exact qk.h):p:=h ⟨k⟩
theorem Z4(k:q)(h:Hk q→p:=by intro qk;refine A2 [2] ?_;refine Fc ?_;exact qk.h):p:=h ⟨k⟩
theorem Z5(k:q)(h:Hk q→p:=by intro qk;refine K.blR ?_;refine Cz ?_;exact qk.h):p:=h ⟨k⟩
theorem Z6(k:q)(h:Hk q→p:=by intro qk;refine Cw ?_;refine Cw ?_;exact qk.h):p:=h ⟨k⟩
theorem Z7(k:q)(h:Hk q→p:=by intro qk;refine L0 ?_;refine Z1 ?_;exact qk.h):p:=h ⟨k⟩
theorem Z8(k:q)(h:Hk q→p:=by intro qk;refine Aq ?_;refine Aq ?_;exact qk.h):p:=h ⟨k⟩
theorem Z9(k:q)(h:Hk q→p:=by intro qk;refine Rj ?_;refine Hh ?_;exact qk.h):p:=h ⟨k⟩
theorem Z10(k:q)(h:Hk q→p:=by intro qk;refine A2 [4,5] ?_;refine Fc ?_;exact qk.h):p:=h ⟨k⟩
theorem Z11(k:q)(h:Hk q→p:=by intro qk;refine Hh ?_;refine A5 ?_;exact qk.h):p:=h ⟨k⟩
theorem Z12(k:q)(h:Hk q→p:=by intro qk;refine Z0 ?_;refine A5 ?_;exact qk.h):p:=h ⟨k⟩
theorem Z13(k:q)(h:Hk q→p:=by intro qk;refine N9 ?_;refine Il ?_;exact qk.h):p:=h ⟨k⟩
theorem Z14(k:q)(h:Hk q→p:=by intro qk;refine A2 [4] ?_;refine Fc ?_;exact qk.h):p:=h ⟨k⟩
theorem Z15(k:q)(h:Hk q→p:=by intro qk;refine Z1 ?_;refine A5 ?_;exact qk.h):p:=h ⟨k⟩
theorem Z16(k:q)(h:Hk q→p:=by intro qk;refine A2 [6,7] ?_;refine Fc ?_;exact qk.h):p:=h ⟨k⟩
theorem Z17(k:q)(h:Hk q→p:=by intro qk;refine L0 ?_;refine K1 ?_;exact qk.h):p:=h ⟨k⟩
theorem Z18(h:p:=by refine Cz ?_;exact y9):p:=h
theorem Z19(h:p:=by refine Z5 ?_;exact ACl):p:=h
theorem Z20(k:q)(h:Hk q→p:=by intro qk;refine Oa ?_;refine Z13 ?_;exact qk.h):p:=h ⟨k⟩
theorem Z21(k:q)(h:Hk q→p:=by intro qk;refine Ih ?_;refine Z0 ?_;exact qk.h):p:=h ⟨k⟩
theorem Z22(k:q)(h:Hk q→p:=by intro qk;refine lb ?_;refine Hh ?_;exact qk.h):p:=h ⟨k⟩
theorem Z23(k:q)(h:Hk q→p:=by intro qk;refine Z1 ?_;refine Z0 ?_;exact qk.h):p:=h ⟨k⟩
theorem Z24(k:q)(h:Hk q→p:=by intro qk;refine F0 ?_;refine Rj ?_;exact qk.h):p:=h ⟨k⟩
theorem Z25(h:p:=by refine Cz ?_;exact ACl):p:=h
theorem Z26(k:q)(h:Hk q→p:=by intro qk;refine Z5 ?_;refine K.lpR ?_;exact qk.h):p:=h ⟨k⟩
theorem Z27(k:q)(h:Hk q→p:=by intro qk;refine K.lpE ?_;refine Il ?_;exact qk.h):p:=h ⟨k⟩
theorem Z28(k:q)(h:Hk q→p:=by intro qk;refine y6 ?_;refine Hh ?_;exact qk.h):p:=h ⟨k⟩
theorem Z29(k:q)(h:Hk q→p:=by intro qk;refine Z7 ?_;refine A5 ?_;exact qk.h):p:=h ⟨k⟩
theorem Z31(h:p:=by refine Cz ?_;exact AL2):p:=h
theorem Z32(k:q)(h:Hk q→p:=by intro qk;refine F0 ?_;refine R.buildLe (jt Kw) AIr (places:=#[(0,1),(1,6),(7,1)]) jU (fun w=>by simp) Tryz.zeroValue37 ?_;exact qk.h):p:=h ⟨k⟩
theorem Z33(k:q)(h:Hk q→p:=by intro qk;refine L0 ?_;refine Z2 ?_;exact qk.h):p:=h ⟨k⟩
theorem Z34(k:q)(h:Hk q→p:=by intro qk;refine Fc ?_;refine Cz ?_;exact qk.h):p:=h ⟨k⟩
theorem Z35(k:q)(h:Hk q→p:=by intro qk;refine Z8 ?_;refine Aq ?_;exact qk.h):p:=h ⟨k⟩
theorem Z36(k:q)(h:Hk q→p:=by intro qk;refine Z2 ?_;refine A2 [0,1] ?_;exact qk.h):p:=h ⟨k⟩
theorem Z37(h:p:=by refine Z34 ?_;exact APc):p:=h
theorem Z38(k:q)(h:Hk q→p:=by intro qk;refine Z0 ?_;refine Z6 ?_;exact qk.h):p:=h ⟨k⟩
theorem Z39(h:p:=by refine D.buildSlice jU jS jZ ?_;exact ix):p:=h
theorem Z40(k:q)(h:Hk q→p:=by intro qk;refine Hh ?_;refine Z4 ?_;exact qk.h):p:=h ⟨k⟩
theorem Z41(k:q)(h:Hk q→p:=by intro qk;refine F0 ?_;refine Ti ?_;exact qk.h):p:=h ⟨k⟩
theorem Z42(k:q)(h:Hk q→p:=by intro qk;refine Z2 ?_;refine A2 [0] ?_;exact qk.h):p:=h ⟨k⟩
theorem Z43(k:q)(h:Hk q→p:=by intro qk;refine L0 ?_;refine F0 ?_;exact qk.h):p:=h ⟨k⟩
theorem Z44(k:q)(h:Hk q→p:=by intro qk;refine Z2 ?_;refine Z14 ?_;exact qk.h):p:=h ⟨k⟩
theorem Z45(k:q)(h:Hk q→p:=by intro qk;refine Z11 ?_;refine Z10 ?_;exact qk.h):p:=h ⟨k⟩
theorem Z46(k:q)(h:Hk q→p:=by intro qk;refine Z2 ?_;refine Z4 ?_;exact qk.h):p:=h ⟨k⟩
theorem Z47(k:q)(h:Hk q→p:=by intro qk;refine Rj ?_;refine A5 ?_;exact qk.h):p:=h ⟨k⟩
theorem Z48(k:q)(h:Hk q→p:=by intro qk;refine Z26 ?_;refine Cz ?_;exact qk.h):p:=h ⟨k⟩
theorem Z49(k:q)(h:Hk q→p:=by intro qk;refine Ih ?_;refine Z12 ?_;exact qk.h):p:=h ⟨k⟩
theorem Z50(k:q)(h:Hk q→p:=by intro qk;refine Ih ?_;refine A5 ?_;exact qk.h):p:=h ⟨k⟩
theorem Z51(k:q)(h:Hk q→p:=by intro qk;refine A7 Tryz.call171 (ATi _ _) ?_;refine Z0 ?_;exact qk.h):p:=h ⟨k⟩
theorem Z52(k:q)(h:Hk q→p:=by intro qk;refine cq ?_;refine K.thE ?_;exact qk.h):p:=h ⟨k⟩
theorem Z53(h:p:=by refine Z5 ?_;exact A9 (Ao A8) ⟨by rw [hn];first|(simp only [ht22,ht25,ht33,ht41,ht41,hk3,hk6,Ly,Fb,Lx,Pi,if_true,if_false,Bg,↓reduceIte]<;>rfl)|(simp only [ht22,ht25,ht33,ht41,ht41,hk3,Ly,Fb,Lx,if_true,if_false,Bg,↓reduceIte]<;>rfl)|(simp only [ht22,ht25,ht33,ht41,ht41,if_true,if_false,Bg,↓reduceIte]<;>rfl),rfl⟩):p:=h
theorem Z55(k:q)(h:Hk q→p:=by intro qk;refine Cw ?_;refine A5 ?_;exact qk.h):p:=h ⟨k⟩
theorem Z56(h:p:=by refine Aq ?_;exact ix):p:=h
theorem Z57(h:p:=by refine Z45 ?_;exact ACl):p:=h
theorem Z58(k:q)(h:Hk q→p:=by intro qk;refine A5 ?_;refine Ti ?_;exact qk.h):p:=h ⟨k⟩
theorem Z59(k:q)(h:Hk q→p:=by intro qk;refine Z0 ?_;refine Z12 ?_;exact qk.h):p:=h ⟨k⟩
theorem Z60(h:p:=by refine Cz ?_;exact lc):p:=h
theorem Z61(h:p:=by refine K.thJ ?_;exact Bo (by simp [*])):p:=h
theorem Z62(k:q)(h:Hk q→p:=by intro qk;refine Jz ?_;refine Fc ?_;exact qk.h):p:=h ⟨k⟩
theorem Z63(h:p:=by refine Z5 ?_;exact AOr):p:=h
theorem Z64(k:q)(h:Hk q→p:=by intro qk;refine Z24 ?_;refine A2 [0,2] ?_;exact qk.h):p:=h ⟨k⟩
theorem Z66(k:q)(h:Hk q→p:=by intro qk;refine Z0 ?_;refine Z4 ?_;exact qk.h):p:=h ⟨k⟩
theorem Z67(k:q)(h:Hk q→p:=by intro qk;refine AP6 ?_;refine Y.storeOwnT (u:=Hp.length) (n:=1) (t':=24) (cs:=[A3 0,A3 0,Ac []]) (cs':=[A3 (Be ra).1.kind,A3 (Be ra).1.n,Ac (Be ra).1.s]) Tryz.sizeOf24 (fun B hT hF hB=>⟨rfl,by simp [hT 0 (by simp),hB],by simp [upd,hT 0 (by simp),hB],rfl⟩) ?_;exact qk.h):p:=h ⟨k⟩
theorem Z68(k:q)(h:Hk q→p:=by intro qk;refine Z0 ?_;refine Z0 ?_;exact qk.h):p:=h ⟨k⟩
theorem Z69(k:q)(h:Hk q→p:=by intro qk;refine Z11 ?_;refine Z16 ?_;exact qk.h):p:=h ⟨k⟩
theorem Z70(k:q)(h:Hk q→p:=by intro qk;refine Z20 ?_;refine Z21 ?_;exact qk.h):p:=h ⟨k⟩
theorem Z71(k:q)(h:Hk q→p:=by intro qk;refine Z2 ?_;refine Cr Tryz.call233 ho (by simp) Dz (ADs l S o _ (Aj ho) hi hll) ?_;exact qk.h):p:=h ⟨k⟩
theorem Z72(h:p:=by refine Z8 ?_;exact ix):p:=h
theorem Z73(k:q)(h:Hk q→p:=by intro qk;refine Z17 ?_;refine F0 ?_;exact qk.h):p:=h ⟨k⟩
theorem Z75(k:q)(h:Hk q→p:=by intro qk;refine A2 [6] ?_;refine Fc ?_;exact qk.h):p:=h ⟨k⟩
theorem Z76(h:p:=by refine Mk ?_;exact F4 .nores (hp:=⟨rfl,by first|(rw [e];exact (en hne ho hoq).symm)|(rw [e];exact (Cm (zu hne hoq)).symm)|(rw [e];simp only [C6];exact (Cm (zu hne hoq)).symm)|(rw [e];simp only [C6];rw [AEv hne];rfl)|(rw [e];simp only [C6];rw [O5 _ _ hne];rfl)⟩)):p:=h
theorem Z77(k:q)(h:Hk q→p:=by intro qk;refine Z6 ?_;refine Cw ?_;exact qk.h):p:=h ⟨k⟩
theorem Z78(h:p:=by refine Z5 ?_;exact APc):p:=h
theorem Z79(k:q)(h:Hk q→p:=by intro qk;refine Z7 ?_;refine Z0 ?_;exact qk.h):p:=h ⟨k⟩
theorem Z81(k:q)(h:Hk q→p:=by intro qk;refine F0 ?_;refine xw ?_;exact qk.h):p:=h ⟨k⟩
theorem Z82(k:q)(h:Hk q→p:=by intro qk;refine Z2 ?_;refine Hh ?_;exact qk.h):p:=h ⟨k⟩
theorem Z83(h:p:=by refine Cz ?_;exact A9 (Ao (B6 jA jS)) ⟨by rw [e,Ap],by rw [e]⟩ (hlow:=low_agg _)):p:=h
theorem Z86(k:q)(h:Hk q→p:=by intro qk;refine Z38 ?_;refine Z6 ?_;exact qk.h):p:=h ⟨k⟩
theorem Z87(k:q)(h:Hk q→p:=by intro qk;refine H.go ?_;refine H.go ?_;exact qk.h):p:=h ⟨k⟩
theorem Z89(k:q)(h:Hk q→p:=by intro qk;refine Z8 ?_;refine Ik ?_;exact qk.h):p:=h ⟨k⟩
theorem Z90(k:q)(h:Hk q→p:=by intro qk;refine A2 [2,3,4,5] ?_;refine Fc ?_;exact qk.h):p:=h ⟨k⟩
theorem Z91(k:q)(h:Hk q→p:=by intro qk;refine Mk ?_;refine N9 ?_;exact qk.h):p:=h ⟨k⟩
theorem Z92(k:q)(h:Hk q→p:=by intro qk;refine Z1 ?_;refine A2 [1] ?_;exact qk.h):p:=h ⟨k⟩
theorem Z93(k:q)(h:Hk q→p:=by intro qk;refine AP0 ?_;refine Ej (tn:=[5])  ?_;exact qk.h):p:=h ⟨k⟩
theorem Z94(h:p:=by refine Z44 ?_;exact y9):p:=h
theorem Z95(k:q)(h:Hk q→p:=by intro qk;refine Z2 ?_;refine lb ?_;exact qk.h):p:=h ⟨k⟩
theorem Z96(k:q)(h:Hk q→p:=by intro qk;refine A5 ?_;refine Z16 ?_;exact qk.h):p:=h ⟨k⟩
theorem Z97(h:p:=by refine Z45 ?_;exact Z19):p:=h
theorem Z98(h:p:=by refine Z66 ?_;exact ACf):p:=h
theorem Z99(k:q)(h:Hk q→p:=by intro qk;refine A5 ?_;refine Z9 ?_;exact qk.h):p:=h ⟨k⟩
theorem Tg(k:q)(h:Hk q→p:=by intro qk;refine Z3 ?_;refine Z17 ?_;exact qk.h):p:=h ⟨k⟩
theorem AGe(h:p:=by refine Cz ?_;exact A9 (B1 (Dw jA) (Dw jA)) ⟨by rw [hm];rfl,rfl⟩):p:=h
theorem Nc(k:q)(h:Hk q→p:=by intro qk;refine Z3 ?_;refine Z1 ?_;exact qk.h):p:=h ⟨k⟩
theorem Q3(k:q)(h:Hk q→p:=by intro qk;refine Z13 ?_;refine Z21 ?_;exact qk.h):p:=h ⟨k⟩
theorem Y4(h:p:=by refine Z26 ?_;exact Z18):p:=h
theorem AGf(k:q)(h:Hk q→p:=by intro qk;refine Z47 ?_;refine Hh ?_;exact qk.h):p:=h ⟨k⟩
theorem ig(k:q)(h:Hk q→p:=by intro qk;refine Z2 ?_;refine A2 [0,1,7,8,9] ?_;exact qk.h):p:=h ⟨k⟩
theorem Th(k:q)(h:Hk q→p:=by intro qk;refine Z52 ?_;refine Z27 ?_;exact qk.h):p:=h ⟨k⟩
theorem Oi(k:q)(h:Hk q→p:=by intro qk;refine Z3 ?_;refine Z2 ?_;exact qk.h):p:=h ⟨k⟩
theorem bi(k:q)(h:Hk q→p:=by intro qk;refine Ih ?_;refine R.moveT ?_;exact qk.h):p:=h ⟨k⟩
theorem AN3(h:p:=by refine Z69 ?_;exact A9 (B1 (B6 jA jS) A8) ⟨by rw [AQo ht43 ht54,htr]<;>rfl,rfl⟩ (hlow:=by simp [or_imp,forall_and]<;>(repeat' apply And.intro)<;>(intros;exact Ak _ _))):p:=h
theorem Rf(k:q)(h:Hk q→p:=by intro qk;refine Z12 ?_;refine Z9 ?_;refine A5 ?_;exact qk.h):p:=h ⟨k⟩
theorem AN4(h:p:=by refine Cz ?_;exact A9 (B1 (B6 jA jS) A8) ⟨by rw [AQm ht43,htr]<;>rfl,rfl⟩ (hlow:=by simp [or_imp,forall_and]<;>(repeat' apply And.intro)<;>(intros;exact Ak _ _))):p:=h
theorem AN5(h:p:=by refine Cz ?_;exact A9 (B1 (B6 jA jS) A8) ⟨by rw [AQn ht43 ht54]<;>rfl,rfl⟩ (hlow:=by simp [or_imp,forall_and]<;>(repeat' apply And.intro)<;>(intros;exact Ak _ _))):p:=h
theorem Rg(k:q)(h:Hk q→p:=by intro qk;refine Z0 ?_;refine Cw ?_;exact qk.h):p:=h ⟨k⟩
theorem Q4(k:q)(h:Hk q→p:=by intro qk;refine Z3 ?_;refine Z15 ?_;exact qk.h):p:=h ⟨k⟩
theorem AN6(h:p:=by refine Z62 ?_;exact A9 (B1 (B6 jA jS) (B6 jA jS)) ⟨by rw [e]<;>rfl,rfl⟩ (hlow:=by have:=AIe (n:=Hp.length) (q:=(r3Q (Bs s).1).1);simp at this ⊢;exact this)):p:=h
theorem Rh(k:q)(h:Hk q→p:=by intro qk;refine Z17 ?_;refine Z2 ?_;exact qk.h):p:=h ⟨k⟩
theorem Q5(k:q)(h:Hk q→p:=by intro qk;refine Z6 ?_;refine Z6 ?_;exact qk.h):p:=h ⟨k⟩
theorem Ri(k:q)(h:Hk q→p:=by intro qk;refine Z3 ?_;refine Z33 ?_;exact qk.h):p:=h ⟨k⟩
theorem AKf(h:p:=by refine Z34 ?_;exact A9 (B1 (B6 jA jS) (B6 jA jS)) ⟨by rw [e]<;>rfl,rfl⟩):p:=h
theorem X0(k:q)(h:Hk q→p:=by intro qk;refine K1 ?_;refine Z1 ?_;exact qk.h):p:=h ⟨k⟩
theorem pu(k:q)(h:Hk q→p:=by intro qk;refine Hh ?_;refine Z16 ?_;exact qk.h):p:=h ⟨k⟩
theorem AN7(h:p:=by refine Z5 ?_;exact AOx):p:=h
theorem ABu(k:q)(h:Hk q→p:=by intro qk;refine Mk ?_;refine Z34 ?_;exact qk.h):p:=h ⟨k⟩
theorem ABv(k:q)(h:Hk q→p:=by intro qk;refine Z1 ?_;refine A7 Tryz.call46 (c46 c hc hc2 l h _) ?_;exact qk.h):p:=h ⟨k⟩
theorem ii(k:q)(h:Hk q→p:=by intro qk;refine Z1 ?_;refine Z10 ?_;exact qk.h):p:=h ⟨k⟩
theorem AKg(h:p:=by refine Cz ?_;exact A9 (B1 (Dw jA) (Dw jA)) ⟨by rw [hm]<;>rfl,rfl⟩):p:=h
theorem AKh(k:q)(h:Hk q→p:=by intro qk;refine F0 ?_;refine y6 ?_;exact qk.h):p:=h ⟨k⟩
theorem AN8(h:p:=by refine Z4 ?_;exact A9 (Ao A8) ⟨rfl,rfl⟩ (hlow:=by simp [or_imp,forall_and];exact ⟨fun m _ a _=>Ak _ a,fun m _ a _=>Ak _ a⟩)):p:=h
theorem AKi(h:p:=by refine Z14 ?_;exact ACf):p:=h
theorem ij(k:q)(h:Hk q→p:=by intro qk;refine Z1 ?_;refine A2 [0,1] ?_;exact qk.h):p:=h ⟨k⟩
theorem AGg(h:p:=by refine Oa ?_;exact Z61):p:=h
theorem ky(k:q)(h:Hk q→p:=by intro qk;refine Z9 ?_;refine A2 [0,2,3] ?_;exact qk.h):p:=h ⟨k⟩
theorem bj(k:q)(h:Hk q→p:=by intro qk;refine F0 ?_;refine Z51 ?_;exact qk.h):p:=h ⟨k⟩
theorem AKj(k:q)(h:Hk q→p:=by intro qk;refine Z1 ?_;refine y6 ?_;exact qk.h):p:=h ⟨k⟩
theorem AKk(h:p:=by refine Z5 ?_;exact AOt):p:=h
theorem AKl(h:p:=by refine K.lpE ?_;exact F4 .nores (hp:=by rw [hxe];exact hR (hxe ▸ hx.2))):p:=h
theorem kz(k:q)(h:Hk q→p:=by intro qk;refine Z41 ?_;refine Z22 ?_;refine Z4 ?_;exact qk.h):p:=h ⟨k⟩
theorem AKm(k:q)(h:Hk q→p:=by intro qk;refine Ea [0,0,2,6,14,31,63,63,255,511] 8 An (by kernel_rfl) ?_;refine Z35 ?_;exact qk.h):p:=h ⟨k⟩
theorem l3(k:q)(h:Hk q→p:=by intro qk;refine Z1 ?_;refine Z14 ?_;exact qk.h):p:=h ⟨k⟩
theorem bn(k:q)(h:Hk q→p:=by intro qk;refine Fc ?_;refine Z5 ?_;exact qk.h):p:=h ⟨k⟩
theorem AGh(h:p:=by refine K.thJ ?_;exact Bo (by rw [e]<;>rfl)):p:=h
theorem bo(k:q)(h:Hk q→p:=by intro qk;refine F0 ?_;refine Z9 ?_;exact qk.h):p:=h ⟨k⟩
theorem AN9(h:p:=by refine Mk ?_;exact APe):p:=h
theorem ANa(k:q)(h:Hk q→p:=by intro qk;refine Ej (tn:=[9,10]) (O:=[.cells 24 [A3 0,A3 0,Ac []],.cells 24 [A3 (Be ra).1.kind,A3 (Be ra).1.n,Ac (Be ra).1.s]]) ?_;refine A5 ?_;exact qk.h):p:=h ⟨k⟩
theorem ANb(k:q)(h:Hk q→p:=by intro qk;refine J9 ?_;refine A5 ?_;exact qk.h):p:=h ⟨k⟩
theorem ANc(h:p:=by refine Oa ?_;exact APe):p:=h
theorem l4(h:p:=by refine Z8 ?_;exact Z72):p:=h
theorem ABw(h:p:=by refine Fo [2,3,9] ?_;exact AGg):p:=h
theorem AGi(h:p:=by refine Z40 ?_;exact A9 (Ao (B6 jA jS))):p:=h
theorem Y5(k:q)(h:Hk q→p:=by intro qk;refine Z11 ?_;refine Z62 ?_;exact qk.h):p:=h ⟨k⟩
theorem ANd(h:p:=by refine A2 [0,1,7,8] ?_;exact Bt (x+1) ⟨hlt,Di hlt hx.2 (by rw [ht16];simp)⟩ (by omega) (Dx rfl)):p:=h
theorem ANe(h:p:=by refine pu ?_;exact A9 (B1 (Dw jA) (Dw jA)) ⟨by rw [hy.2,hrun],rfl⟩ (hlow:=by simp [or_imp,forall_and])):p:=h
theorem ANf(h:p:=by refine pu ?_;exact A9 (B1 (Dw jA) (Dw jA)) ⟨by rw [hy,hrun],rfl⟩ (hlow:=by simp [or_imp,forall_and])):p:=h
theorem AKn(h:p:=by refine A7 Tryz.call96 (c96 61 e hok (by decide) _) ?_;exact Z98):p:=h
theorem AKo(h:p:=by refine Z10 ?_;exact AL3):p:=h
theorem xe(k:q)(h:Hk q→p:=by intro qk;refine F0 ?_;refine Hh ?_;exact qk.h):p:=h ⟨k⟩
theorem AKp(h:p:=by refine Z66 ?_;refine Z5 ?_;exact APd):p:=h
theorem X1(k:q)(h:Hk q→p:=by intro qk;refine Z8 ?_;refine Z8 ?_;exact qk.h):p:=h ⟨k⟩
theorem xf(k:q)(h:Hk q→p:=by intro qk;refine Z47 ?_;refine A2 [1,2,3,6] ?_;exact qk.h):p:=h ⟨k⟩
theorem ANg(h:p:=by refine Mk ?_;exact F4 .nores (hp:=⟨w6 m x,k,by unfold Wu;rw [hT];rfl,rfl,by exact AAc⟩)):p:=h
theorem l5(h:p:=by refine Z44 ?_;exact Z18):p:=h
theorem AKq(k:q)(h:Hk q→p:=by intro qk;refine Z1 ?_;refine lb ?_;exact qk.h):p:=h ⟨k⟩
theorem Y6(k:q)(h:Hk q→p:=by intro qk;refine Z3 ?_;refine Z23 ?_;exact qk.h):p:=h ⟨k⟩
theorem pv(h:p:=by refine Aq ?_;exact Z39):p:=h
theorem ABx(k:q)(h:Hk q→p:=by intro qk;refine Hh ?_;refine Jz ?_;exact qk.h):p:=h ⟨k⟩
theorem Y7(k:q)(h:Hk q→p:=by intro qk;refine Z77 ?_;refine Z0 ?_;exact qk.h):p:=h ⟨k⟩
theorem AGj(h:p:=by refine Z35 ?_;exact ix):p:=h
theorem ANh(k:q)(h:Hk q→p:=by intro qk;refine Z17 ?_;refine Z1 ?_;exact qk.h):p:=h ⟨k⟩
theorem ik(k:q)(h:Hk q→p:=by intro qk;refine ANh ?_;refine A2 [0,1,5,7,8] ?_;refine Z15 ?_;exact qk.h):p:=h ⟨k⟩
theorem xg(k:q)(h:Hk q→p:=by intro qk;refine Z1 ?_;refine A2 [2,3,9] ?_;exact qk.h):p:=h ⟨k⟩
theorem pw(k:q)(h:Hk q→p:=by intro qk;refine A2 [6] ?_;refine Z34 ?_;exact qk.h):p:=h ⟨k⟩
theorem bq(k:q)(h:Hk q→p:=by intro qk;refine Z15 ?_;refine Z6 ?_;exact qk.h):p:=h ⟨k⟩
theorem px(k:q)(h:Hk q→p:=by intro qk;refine Oa ?_;refine N9 ?_;exact qk.h):p:=h ⟨k⟩
theorem il(k:q)(h:Hk q→p:=by intro qk;refine Z38 ?_;refine Cw ?_;exact qk.h):p:=h ⟨k⟩
theorem im(k:q)(h:Hk q→p:=by intro qk;refine Z20 ?_;refine Z49 ?_;exact qk.h):p:=h ⟨k⟩
theorem xh(k:q)(h:Hk q→p:=by intro qk;refine Hh ?_;refine Z10 ?_;exact qk.h):p:=h ⟨k⟩
theorem ANi(h:p:=by refine Z14 ?_;exact A9 (Ao A8) ⟨by first|(rw [hgy hf];rfl)|(rw [hgv hf];rfl),rfl⟩):p:=h
theorem ANj(h:p:=by refine D.build (places:=#[(0,1),(1,1),(2,6),(8,1)]) jU (fun w=>by simp) jZ ?_;exact l4):p:=h
theorem l6(k:q)(h:Hk q→p:=by intro qk;refine Z3 ?_;refine F0 ?_;exact qk.h):p:=h ⟨k⟩
theorem br(k:q)(h:Hk q→p:=by intro qk;refine Z7 ?_;refine Z12 ?_;exact qk.h):p:=h ⟨k⟩
theorem io(k:q)(h:Hk q→p:=by intro qk;refine Z36 ?_;refine Z29 ?_;refine A2 [0,1,7,8] ?_;exact qk.h):p:=h ⟨k⟩
theorem AKr(k:q)(h:Hk q→p:=by intro qk;refine Z69 ?_;refine Cz ?_;exact qk.h):p:=h ⟨k⟩
theorem l7(k:q)(h:Hk q→p:=by intro qk;refine A5 ?_;refine AGf ?_;exact qk.h):p:=h ⟨k⟩
theorem ANk(h:p:=by refine Bt (x+1) ⟨hlt,Di hlt hx.2 ht19⟩ (by omega) ?_;exact Dx (by simp)):p:=h
theorem ip(k:q)(h:Hk q→p:=by intro qk;refine Z6 ?_;refine A5 ?_;exact qk.h):p:=h ⟨k⟩
theorem AGk(h:p:=by refine Z4 ?_;exact ACf):p:=h
theorem ANl(h:p:=by refine D.build (places:=#[(0,1),(1,1)]) jU (fun w=>by simp) jZ ?_;exact ix):p:=h
theorem ABy(h:p:=by refine Z86 ?_;exact AKp):p:=h
theorem py(k:q)(h:Hk q→p:=by intro qk;refine K1 ?_;refine Z7 ?_;exact qk.h):p:=h ⟨k⟩
theorem pz(k:q)(h:Hk q→p:=by intro qk;refine F0 ?_;refine ANb ?_;exact qk.h):p:=h ⟨k⟩
theorem ANm(h:p:=by refine Ca Tryz.call175 (fun hB=>APl e.text R8 hs (by decide) _) ?_;exact ABy):p:=h
theorem AKs(k:q)(h:Hk q→p:=by intro qk;refine Z2 ?_;refine A7 Tryz.call255 (APq l S o _ (Aj ho) hi) ?_;exact qk.h):p:=h ⟨k⟩
theorem AKt(k:q)(h:Hk q→p:=by intro qk;refine Z2 ?_;refine A7 Tryz.call115 (AMi L i o _ (Aj ho) hi) ?_;exact qk.h):p:=h ⟨k⟩
theorem ANn(h:p:=by refine Z96 ?_;exact A9 (B1 A8 A8) ⟨by unfold Zt;rw [hm];try rfl,rfl⟩):p:=h
theorem AKu(k:q)(h:Hk q→p:=by intro qk;refine Y.allocP Tryz.zeroValue118 ?_;refine Y.storeP Tryz.sizeOf118 ?_;exact qk.h):p:=h ⟨k⟩
theorem xi(h:p:=by refine Z23 ?_;refine Z10 ?_;refine Z5 ?_;exact AP3):p:=h
theorem xj(h:p:=by refine Z45 ?_;exact Z25):p:=h
theorem q8(k:q)(h:Hk q→p:=by intro qk;refine Z96 ?_;refine Cz ?_;exact qk.h):p:=h ⟨k⟩
theorem ANo(h:p:=by refine bn ?_;exact A9 (B1 (Dw jA) (Dw jA)) ⟨by rw [hrun];rfl,rfl⟩):p:=h
theorem l8(k:q)(h:Hk q→p:=by intro qk;refine Z24 ?_;refine A5 ?_;exact qk.h):p:=h ⟨k⟩
theorem iq(k:q)(h:Hk q→p:=by intro qk;refine Z36 ?_;refine Z1 ?_;exact qk.h):p:=h ⟨k⟩
theorem ir(k:q)(h:Hk q→p:=by intro qk;refine Z3 ?_;refine Z29 ?_;exact qk.h):p:=h ⟨k⟩
theorem ANp(h:p:=by refine Z69 ?_;exact ACl):p:=h
theorem AKv(h:p:=by refine Z26 ?_;exact A9 .nores (hp:=h5)):p:=h
theorem xk(k:q)(h:Hk q→p:=by intro qk;refine Z24 ?_;refine Rj ?_;exact qk.h):p:=h ⟨k⟩
theorem ABz(h:p:=by refine l3 ?_;refine Z48 ?_;exact A9 (Ao A8) ⟨by rw [AEf hlt ht16 hx.2],rfl⟩):p:=h
theorem l9(k:q)(h:Hk q→p:=by intro qk;refine Z17 ?_;refine Z15 ?_;exact qk.h):p:=h ⟨k⟩
theorem q9(k:q)(h:Hk q→p:=by intro qk;refine Z66 ?_;refine Z5 ?_;exact qk.h):p:=h ⟨k⟩
theorem la(k:q)(h:Hk q→p:=by intro qk;refine Z42 ?_;refine Z29 ?_;exact qk.h):p:=h ⟨k⟩
theorem iu(k:q)(h:Hk q→p:=by intro qk;refine Z3 ?_;refine Z7 ?_;exact qk.h):p:=h ⟨k⟩
theorem ANq(h:p:=by refine Z46 ?_;exact APd):p:=h
theorem ANr(h:p:=by refine Bt (x+1) ⟨hlt,hn⟩ (by omega) ?_;exact Dx (by simp)):p:=h
theorem xl(k:q)(h:Hk q→p:=by intro qk;refine K.blR ?_;refine K.lpR ?_;exact qk.h):p:=h ⟨k⟩
theorem AC0(h:p:=by refine kz ?_;refine Z5 ?_;exact AOs):p:=h
theorem ANs(h:p:=by refine Z5 ?_;exact AOu):p:=h
theorem ANt(k:q)(h:Hk q→p:=by intro qk;refine Y.buildSlice jU Tryz.sizeOf9 Tryz.zeroValue9 ?_;refine Ej (tn:=[2]) (U:=U2 L Hp o om j (mvO m)) ?_;exact qk.h):p:=h ⟨k⟩
theorem xm(k:q)(h:Hk q→p:=by intro qk;refine ABu ?_;refine K.blR ?_;exact qk.h):p:=h ⟨k⟩
theorem ANu(h:p:=by refine Z5 ?_;exact A9 (B1 A8 A8) ⟨by simp_all [rr],rfl⟩):p:=h
theorem ANv(h:p:=by refine Z40 ?_;exact A9 (Ao (B6 jA jS)) ⟨by simp [ht5],rfl⟩):p:=h
theorem ANw(k:q)(h:Hk q→p:=by intro qk;refine Z15 ?_;refine Cr Tryz.call156 ho (by simp) Dz (z3 l S 8 (Af l S.i).at_ o _ (Aj ho)) ?_;exact qk.h):p:=h ⟨k⟩
theorem ANx(h:p:=by refine Cz ?_;exact A9 (Ao A8) ⟨by rw [hx.eq,hw],rfl⟩):p:=h
theorem ANy(h:p:=by refine Z10 ?_;exact AL2):p:=h
theorem ANz(h:p:=by refine Z16 ?_;exact AL2):p:=h
theorem AC1(k:q)(h:Hk q→p:=by intro qk;refine ii ?_;refine Cz ?_;exact qk.h):p:=h ⟨k⟩
theorem AO0(h:p:=by refine Z48 ?_;exact A9 (B1 A8 A8) ⟨by rw [hbad],rfl⟩):p:=h
theorem AO1(h:p:=by refine Z5 ?_;exact A9 (B1 A8 A8) ⟨by rw [hk,hk2],rfl⟩):p:=h
theorem AC2(h:p:=by refine Z46 ?_;exact Z18):p:=h
theorem AO2(h:p:=by refine A5 ?_;refine Z10 ?_;exact Z31):p:=h
theorem AC3(h:p:=by refine Z70 ?_;refine A2 [0,1,7,8] ?_;exact Bt (x+1) ⟨hlt,Di hlt hx.2 ht16⟩ (by omega) (Dx rfl)):p:=h
theorem AO3(h:p:=by refine q9 ?_;exact lc):p:=h
theorem AO4(k:q)(h:Hk q→p:=by intro qk;refine ACk ?_;refine Bt (x+1) ⟨hlt,Di hlt hx.2 ht27⟩ (by omega) ?_;exact qk.h):p:=h ⟨k⟩
theorem AO5(h:p:=by refine AC1 ?_;exact AL3):p:=h
theorem AGl(k:q)(h:Hk q→p:=by intro qk;refine Z0 ?_;refine A7 Tryz.call263 (ATj _ _ _) ?_;refine Z0 ?_;exact qk.h):p:=h ⟨k⟩
theorem AGm(k:q)(h:Hk q→p:=by intro qk;refine A2 [2,3,4,5] ?_;refine Z34 ?_;exact qk.h):p:=h ⟨k⟩
theorem AC4(h:p:=by refine Z27 ?_;refine Z44 ?_;exact A9 (Ao A8) ⟨by rw [rx (Ny hxe hx.2)],rfl⟩):p:=h
theorem AO6(h:p:=by refine Z5 ?_;exact AL3):p:=h
theorem AO7(k:q)(h:Hk q→p:=by intro qk;refine Ea [0,1,3,7,15,3,35,99,255,511,1023] 8 An (by kernel_rfl) ?_;refine Z8 ?_;exact qk.h):p:=h ⟨k⟩
theorem AC5(k:q)(h:Hk q→p:=by intro qk;refine Z2 ?_;refine Na 6 2 ?_;exact qk.h):p:=h ⟨k⟩
theorem AC6(k:q)(h:Hk q→p:=by intro qk;refine Z1 ?_;refine No ?_;exact qk.h):p:=h ⟨k⟩
theorem AO8(k:q)(h:Hk q→p:=by intro qk;refine Z64 ?_;refine Ea [0,1,3,7,0,16,48,112,255,511,1023] 8 An (by kernel_rfl) ?_;exact qk.h):p:=h ⟨k⟩
theorem xn(k:q)(h:Hk q→p:=by intro qk;refine A5 ?_;refine AKr ?_;exact qk.h):p:=h ⟨k⟩
theorem AO9(h:p:=by refine Du Tryz.call240 (AQj c l k0 ra ha _) ?_;exact AGj):p:=h
theorem AKw(k:q)(h:Hk q→p:=by intro qk;refine F0 ?_;refine A7 Tryz.call215 (ARs _) ?_;exact qk.h):p:=h ⟨k⟩
theorem AGn(k:q)(h:Hk q→p:=by intro qk;refine Z24 ?_;refine A2 [0,1,2,6] ?_;exact qk.h):p:=h ⟨k⟩
theorem AC7(h:p:=by refine Z0 ?_;refine Z14 ?_;exact A9 (Ao A8) ⟨by rw [←zi];try rfl,rfl⟩):p:=h
theorem AGo(h:p:=by refine Z44 ?_;exact Y4):p:=h
theorem xp(k:q)(h:Hk q→p:=by intro qk;refine Z46 ?_;refine Z48 ?_;exact qk.h):p:=h ⟨k⟩
theorem xq(k:q)(h:Hk q→p:=by intro qk;refine Tg ?_;refine Z15 ?_;exact qk.h):p:=h ⟨k⟩
theorem AGp(k:q)(h:Hk q→p:=by intro qk;refine A2 [2,3,6,7] ?_;refine Z2 ?_;exact qk.h):p:=h ⟨k⟩
theorem AKx(k:q)(h:Hk q→p:=by intro qk;refine A5 ?_;refine A7 Tryz.call139 (AS6 e _) ?_;exact qk.h):p:=h ⟨k⟩
theorem AC8(k:q)(h:Hk q→p:=by intro qk;refine Ih ?_;refine Z9 ?_;exact qk.h):p:=h ⟨k⟩
theorem AOa(h:p:=by refine Z4 ?_;exact y9):p:=h
theorem AOb(h:p:=by refine Z34 ?_;exact AH1):p:=h
theorem AGq(k:q)(h:Hk q→p:=by intro qk;refine R.loadUpT jA hA ?_;refine Z58 ?_;exact qk.h):p:=h ⟨k⟩
theorem AC9(k:q)(h:Hk q→p:=by intro qk;refine K.blE ?_;refine Il ?_;exact qk.h):p:=h ⟨k⟩
theorem AGr(h:p:=by refine Th ?_;refine Z46 ?_;exact y9):p:=h
theorem AGs(k:q)(h:Hk q→p:=by intro qk;refine A5 ?_;refine Y1 jS ?_;exact qk.h):p:=h ⟨k⟩
theorem ACa(k:q)(h:Hk q→p:=by intro qk;refine F0 ?_;refine R.box ?_;exact qk.h):p:=h ⟨k⟩
theorem qb(k:q)(h:Hk q→p:=by intro qk;refine Z42 ?_;refine Z2 ?_;exact qk.h):p:=h ⟨k⟩
theorem ACb(k:q)(h:Hk q→p:=by intro qk;refine Z23 ?_;refine A2 [0] ?_;exact qk.h):p:=h ⟨k⟩
theorem qc(k:q)(h:Hk q→p:=by intro qk;refine Z27 ?_;refine Z2 ?_;exact qk.h):p:=h ⟨k⟩
theorem ACc(k:q)(h:Hk q→p:=by intro qk;refine Z2 ?_;refine Rj ?_;exact qk.h):p:=h ⟨k⟩
theorem AOc(h:p:=by refine Cz ?_;exact A9 (Ao A8) ⟨rfl,rfl⟩):p:=h
theorem AGt(k:q)(h:Hk q→p:=by intro qk;refine Z28 ?_;refine Hg 0 5 6 ?_;exact qk.h):p:=h ⟨k⟩
theorem AOd(k:q)(h:Hk q→p:=by intro qk;refine W.draw [0,1,3,7,7,31,63,0,127,511] 9 An (by kernel_rfl) ?_;refine Z35 ?_;exact qk.h):p:=h ⟨k⟩
theorem AGu(h:p:=by refine Z1 ?_;refine R.nilTmp 4 2 false ?_;exact AO2):p:=h
theorem AOe(h:p:=by refine Z4 ?_;exact AH1):p:=h
theorem AGv(h:p:=by refine AGl ?_;refine Z69 ?_;refine Z5 ?_;exact AP4):p:=h
theorem AGw(h:p:=by refine Z44 ?_;exact Z60):p:=h
theorem AOf(k:q)(h:Hk q→p:=by intro qk;refine Z2 ?_;refine xw ?_;exact qk.h):p:=h ⟨k⟩
theorem AKy(k:q)(h:Hk q→p:=by intro qk;refine Hg 0 1 1 ?_;refine Hg 0 7 6 ?_;exact qk.h):p:=h ⟨k⟩
theorem AOg(h:p:=by refine K.lpE ?_;exact F4 .nores (hp:=by rw [hxe])):p:=h
theorem ACd(k:q)(h:Hk q→p:=by intro qk;refine Z3 ?_;refine K1 ?_;exact qk.h):p:=h ⟨k⟩
theorem xt(k:q)(h:Hk q→p:=by intro qk;refine Z13 ?_;refine Z82 ?_;exact qk.h):p:=h ⟨k⟩
theorem AOh(k:q)(h:Hk q→p:=by intro qk;refine AH0 ?_;refine Bt (z+1) hz2 (by omega) ?_;exact qk.h):p:=h ⟨k⟩
theorem AGx(k:q)(h:Hk q→p:=by intro qk;refine Z47 ?_;refine A2 [2,3,4] ?_;exact qk.h):p:=h ⟨k⟩
theorem xu(k:q)(h:Hk q→p:=by intro qk;refine Z23 ?_;refine Cw ?_;exact qk.h):p:=h ⟨k⟩
theorem ACe(k:q)(h:Hk q→p:=by intro qk;refine Aq ?_;refine Ik ?_;exact qk.h):p:=h ⟨k⟩
theorem AGy(h:p:=by refine Z0 ?_;exact AKi):p:=h
theorem AOi(h:p:=by refine Z4 ?_;exact A9 (Ao A8) ⟨rfl,rfl⟩):p:=h
theorem AOj(h:p:=by refine A7 Tryz.call105 (ACt s hs _) ?_;exact Z98):p:=h
theorem xv(h:p:=by exact ⟨rfl,Below.refl _ _⟩):p:=h
theorem AOk(h:p:=by exact h (y,j) (by rw [Mn];exact hj)):p:=h
theorem ACf(h:p:=by exact A9 (Ao A8)):p:=h
theorem iv(k:q)(h:Hk q→p:=by intro qk;refine A2 [0,1,5,7,8,16] ?_;exact qk.h):p:=h ⟨k⟩
theorem Jz(k:q)(h:Hk q→p:=by intro qk;refine A2 [2,3] ?_;exact qk.h):p:=h ⟨k⟩
theorem Hh(k:q)(h:Hk q→p:=by intro qk;refine R.storeOwn jS ?_;exact qk.h):p:=h ⟨k⟩
theorem xw(k:q)(h:Hk q→p:=by intro qk;refine Pv (places:=#[(0,1),(1,1),(2,1)]) jU (fun w=>by simp) jZ ?_;exact qk.h):p:=h ⟨k⟩
theorem AOl(h:p:=by exact A9 (Ao A8) ⟨by simp only [Nd,hp,ht7,ht14,ht23,ht27,Ig,Bg,if_false,if_true];try rfl,rfl⟩):p:=h
theorem AOm(h:p:=by exact A9 (B1 (B6 jA jS) A8) ⟨by simp only [lj,ht17,if_true,if_false,Bg];rfl,rfl⟩):p:=h
theorem K1(k:q)(h:Hk q→p:=by intro qk;refine AW.block ?_;exact qk.h):p:=h ⟨k⟩
theorem F0(k:q)(h:Hk q→p:=by intro qk;refine AW.seqR ?_;exact qk.h):p:=h ⟨k⟩
theorem No(k:q)(h:Hk q→p:=by intro qk;refine A2 [0,3] ?_;exact qk.h):p:=h ⟨k⟩
theorem AOn(h:p:=by exact A9 (M5 A8 A8 A8 A8) ⟨by simp only [Si,ht11,ht17,if_true,if_false,Bg];try rfl,rfl⟩):p:=h
theorem AOo(h:p:=by exact A9 (M5 A8 A8 A8 A8) ⟨by simp only [Yh,ht18,ht23,if_true,if_false,Bg];try rfl,rfl⟩):p:=h
theorem AOq(h:p:=by exact A9 (M5 A8 A8 A8 A8) ⟨by simp only [Cv,ht6,ht17,ht28,if_true,if_false,Bg],rfl⟩):p:=h
theorem iw(h:p:=by exact absurd h (by decide)):p:=h
theorem qd(h:p:=by exact Au _):p:=h
theorem xy(k:q)(h:Hk q→p:=by intro qk;refine K.rdN (cy hL (Bf (by decide)) (Bf (by decide))) ?_;exact qk.h):p:=h ⟨k⟩
theorem Ti(k:q)(h:Hk q→p:=by intro qk;refine R.buildSlice jU jS jZ ?_;exact qk.h):p:=h ⟨k⟩
theorem lb(k:q)(h:Hk q→p:=by intro qk;refine Pv (places:=#[(0,1),(1,1)]) jU (fun w=>by simp) jZ ?_;exact qk.h):p:=h ⟨k⟩
theorem Mk(k:q)(h:Hk q→p:=by intro qk;refine A2 [] ?_;exact qk.h):p:=h ⟨k⟩
theorem ACg(h:p:=by exact ⟨hFRl,by simp [oid]⟩):p:=h
theorem ACh(h:p:=by exact Id (fun x hx=>ObjLow.le (by omega) (hlow x hx)) hOl x hx):p:=h
theorem xz(k:q)(h:Hk q→p:=by intro qk;refine K.rdR (cy hL (Bf (by decide)) (Bf (by decide))) ?_;exact qk.h):p:=h ⟨k⟩
theorem ACi(k:q)(h:Hk q→p:=by intro qk;refine K.rdN (ABp hL (Bf (by decide))) ?_;exact qk.h):p:=h ⟨k⟩
theorem qe(k:q)(h:Hk q→p:=by intro qk;refine Bt (x+1) hlt (by omega) ?_;exact qk.h):p:=h ⟨k⟩
theorem y6(k:q)(h:Hk q→p:=by intro qk;refine Pv (places:=#[(0,1),(1,1),(2,3),(5,1)]) jU (fun w=>by simp) jZ ?_;exact qk.h):p:=h ⟨k⟩
theorem Rj(k:q)(h:Hk q→p:=by intro qk;refine R.alloc jZ ?_;exact qk.h):p:=h ⟨k⟩
theorem bt(k:q)(h:Hk q→p:=by intro qk;refine A2 [0,1,5] ?_;exact qk.h):p:=h ⟨k⟩
theorem Oj(k:q)(h:Hk q→p:=by intro qk;refine R.assignT ?_;exact qk.h):p:=h ⟨k⟩
theorem bu(h:p:=by exact Zo _):p:=h
theorem Y8(k:q)(h:Hk q→p:=by intro qk;refine A2 [0,1,2] ?_;exact qk.h):p:=h ⟨k⟩
theorem y7(h:p:=by exact hcmp _ rfl rfl hf):p:=h
theorem ACj(h:p:=by exact har _ rfl rfl rfl hf):p:=h
theorem AOr(h:p:=by exact A9 (Ao (B6 jA jS)) ⟨by first|exact AE5 (by unfold Ec;simp [*];done)|exact AE4 (by unfold Ec;simp [*];done)|exact AE6 (by unfold Ec;simp [*];done),rfl⟩):p:=h
theorem AOs(h:p:=by exact A9 (Ao (B6 jA jS)) ⟨by first|exact AE5 (by unfold G6;simp [*];done)|exact AE4 (by unfold G6;simp [*];done)|exact AE6 (by unfold G6;simp [*];done),rfl⟩):p:=h
theorem AOt(h:p:=by exact A9 (Ao (B6 jA jS)) ⟨by simp_all [La],rfl⟩):p:=h
theorem AOu(h:p:=by exact A9 (B1 A8 A8) ⟨by simp_all [Fe],rfl⟩):p:=h
theorem y8(k:q)(h:Hk q→p:=by intro qk;refine A2 [2,6,13,14,15] ?_;exact qk.h):p:=h ⟨k⟩
theorem AKz(h:p:=by exact A9 (B1 A8 A8) ⟨by rw [hk],rfl⟩):p:=h
theorem y9(h:p:=by exact A9 (Ao A8) ⟨by rw [hm],rfl⟩):p:=h
theorem AOv(h:p:=by exact A9 (Ao A8) ⟨by rw [hn];first|(simp only [ht22,ht25,ht33,ht41,ht41,ht50,ht58,hk3,hk6,Ly,Fb,Lx,Pi,if_true,if_false,Bg,↓reduceIte]<;>rfl)|(simp only [ht22,ht25,ht33,ht41,ht41,ht50,ht58,hk3,Ly,Fb,Lx,if_true,if_false,Bg,↓reduceIte]<;>rfl)|(simp only [ht22,ht25,ht33,ht41,ht41,ht50,ht58,if_true,if_false,Bg,↓reduceIte]<;>rfl),rfl⟩):p:=h
theorem lc(h:p:=by exact A9 (Ao A8) ⟨by rw [hm]<;>rfl,rfl⟩):p:=h
theorem AGz(k:q)(h:Hk q→p:=by intro qk;refine Bt (x+1) ⟨hlt,hN⟩ (by omega) ?_;exact qk.h):p:=h ⟨k⟩
theorem AL0(h:p:=by exact absurd h (by simpa using h1)):p:=h
theorem AOw(h:p:=by exact A9 (B1 (B6 jA jS) A8) ⟨by rw [hm];show _=AV.tup [Aa Av,B4 false];rw [Ap];rfl,rfl⟩ (hlow:=by simp [or_imp,forall_and])):p:=h
theorem AOx(h:p:=by exact A9 (B1 (B6 jA jS) A8) ⟨by rw [hm];show _=AV.tup [Aa Av,A3 _];rw [Ap];rfl,rfl⟩ (hlow:=by simp [or_imp,forall_and])):p:=h
theorem ACk(k:q)(h:Hk q→p:=by intro qk;refine A2 [1,2,8,13,14,15] ?_;exact qk.h):p:=h ⟨k⟩
theorem AH0(k:q)(h:Hk q→p:=by intro qk;refine A2 [6,8,9,10,11,13,54,55,56] ?_;exact qk.h):p:=h ⟨k⟩
theorem AOy(h:p:=by exact A9 (Ao A8) ⟨rfl,by first|(rw [e];done)|(rw [e];rfl)|(rw [e];exact (Cm ho).symm)⟩):p:=h
theorem AOz(h:p:=by exact ⟨Ke (U4 _ _ _).symm,by rw [U4];exact hi,hc⟩):p:=h
theorem AP0(k:q)(h:Hk q→p:=by intro qk;refine Y.storeOwn (u:=Hp.length) (n:=0) (t':=29) (cs:=[B4 false,.nil,A3 0,Ac [],A3 0,A3 0,Ac [],.nil,A3 0]) (cs':=[B4 false,.nil,A3 0,Ac [],A3 0,A3 0,Ac [],.nil,A3 0]) Tryz.sizeOf29 (fun B hB=>⟨rfl,rfl,rfl,rfl⟩) ?_;exact qk.h):p:=h ⟨k⟩
theorem AP1(k:q)(h:Hk q→p:=by intro qk;refine Fd [0,0,2,6,14,1,63] [5] [.q 5 [] [],.s [] (some 0) [] []] (fun _=>Hp) (fun _=>[.cells 29 [B4 false,.nil,A3 0,Ac [],A3 0,A3 0,Ac [],.nil,A3 0],.cells 73 [A3 0,A3 0],.cells 73 [A3 (Bs s).2.1,A3 ((Bs s).2.2:Nat)],prq (Bs s).1 (s5Q (Bs s).1),qo true (r3Q (Bs s).1).1]) An (by kernel_rfl) rfl rfl (fun _=>rfl) ?_;exact qk.h):p:=h ⟨k⟩
theorem AL1(h:p:=by exact A9 (Ao A8) ⟨by rw [e],rfl⟩):p:=h
theorem AP2(h:p:=by exact A9 (B1 (B6 jA jS) A8) ⟨by rw [hw];try rfl,rfl⟩):p:=h
theorem AP3(h:p:=by exact A9 (B1 A8 A8) ⟨by simp_all [Is],rfl⟩):p:=h
theorem AP4(h:p:=by exact A9 (B1 (B6 Tryz.isAgg24 Tryz.sizeOf24) A8) ⟨by simp_all [K7],rfl⟩):p:=h
theorem ACl(h:p:=by exact A9 (B1 (B6 jA jS) A8) ⟨by rw [hm];try rfl,rfl⟩):p:=h
theorem AP5(h:p:=by exact A9 (Ao (B6 jA jS)) ⟨by rw [hm];try rfl,rfl⟩):p:=h
theorem AP6(k:q)(h:Hk q→p:=by intro qk;refine Y.alloc (zs:=[A3 0,A3 0,Ac []]) (n:=1) (u:=Hp.length) Tryz.zeroValue24 (fun B hT hF hB=>⟨rfl,by simp [hB],by simp [upd,hB,hF 1 (by simp)],rfl⟩) ?_;exact qk.h):p:=h ⟨k⟩
theorem ACm(k:q)(h:Hk q→p:=by intro qk;refine A2 [1,3,6,10,12,27,28,29] ?_;exact qk.h):p:=h ⟨k⟩
theorem AP7(h:p:=by exact Ic (gg _ _) (by rw [C1];omega)):p:=h
theorem AP8(h:p:=by exact A9 (Ao A8) ⟨rfl,rfl⟩ (hlow:=Dj)):p:=h
theorem AP9(h:p:=by exact ⟨gk i,hl.step hi (by rw [hk];decide)⟩):p:=h
theorem qf(h:p:=by exact ⟨by omega,c2,c3⟩):p:=h
theorem ACn(h:p:=by exact (Dk hX (e)).elim):p:=h
theorem APa(h:p:=by exact (Dk hX (by first|exact by unfold Wu;rw [hT];rfl|exact hT)).elim):p:=h
theorem ix(h:p:=by exact D.end rfl rfl):p:=h
theorem APb(h:p:=by exact (AQy L i o _ (Aj (Fa ho hne)) hi hl hll).ok hT):p:=h
theorem ACo(k:q)(h:Hk q→p:=by intro qk;refine AW.upEq (Uk ho hm).symm ?_;exact qk.h):p:=h ⟨k⟩
theorem AH1(h:p:=by exact A9 (Ao A8) ⟨by simp,rfl⟩):p:=h
theorem AL2(h:p:=by exact A9 (B1 A8 A8) ⟨by rw [hm]<;>rfl,rfl⟩):p:=h
theorem APc(h:p:=by exact A9 .nores (hp:=⟨rfl,by first|(rw [e];exact (en hne ho hoq).symm)|(rw [e];exact (Cm (zu hne hoq)).symm)|(rw [e];simp only [C6];exact (Cm (zu hne hoq)).symm)|(rw [e];simp only [C6];rw [AEv hne];rfl)|(rw [e];simp only [C6];rw [O5 _ _ hne];rfl)⟩)):p:=h
theorem APd(h:p:=by exact A9 (Ao A8) ⟨by simp_all [F1,Pb],rfl⟩):p:=h
theorem APe(h:p:=by exact F4 .nores (hp:=⟨rfl,by first|(rw [e];done)|(rw [e];rfl)|(rw [e];exact (Cm ho).symm)⟩)):p:=h
theorem AL3(h:p:=by exact A9 (B1 A8 A8) ⟨by rw [hm],rfl⟩):p:=h
end Go.SX.Nb
namespace Go.SX.Nb
open Go Go.SX Go.Proofs
@[reducible,instance] def JA2:=JA.mk (P:=Tryz.prog) Tryz.isAgg2
@[reducible,instance] def JA3:=JA.mk (P:=Tryz.prog) Tryz.isAgg3
@[reducible,instance] def JA4:=JA.mk (P:=Tryz.prog) Tryz.isAgg4
@[reducible,instance] def JA9:=JA.mk (P:=Tryz.prog) Tryz.isAgg9
@[reducible,instance] def AVl:=JA.mk (P:=Tryz.prog) Tryz.isAgg22
@[reducible,instance] def AVm:=JA.mk (P:=Tryz.prog) Tryz.isAgg24
@[reducible,instance] def AVn:=JA.mk (P:=Tryz.prog) Tryz.isAgg25
@[reducible,instance] def AVo:=JA.mk (P:=Tryz.prog) Tryz.isAgg27
@[reducible,instance] def AVp:=JA.mk (P:=Tryz.prog) Tryz.isAgg29
@[reducible,instance] def AVq:=JA.mk (P:=Tryz.prog) Tryz.isAgg30
@[reducible,instance] def AVr:=JA.mk (P:=Tryz.prog) Tryz.isAgg31
@[reducible,instance] def AVs:=JA.mk (P:=Tryz.prog) Tryz.isAgg37
@[reducible,instance] def AVt:=JA.mk (P:=Tryz.prog) Tryz.isAgg38
@[reducible,instance] def AVu:=JA.mk (P:=Tryz.prog) Tryz.isAgg41
@[reducible,instance] def AVv:=JA.mk (P:=Tryz.prog) Tryz.isAgg52
@[reducible,instance] def AVw:=JA.mk (P:=Tryz.prog) Tryz.isAgg54
@[reducible,instance] def AVx:=JA.mk (P:=Tryz.prog) Tryz.isAgg58
@[reducible,instance] def AVy:=JA.mk (P:=Tryz.prog) Tryz.isAgg69
@[reducible,instance] def AVz:=JA.mk (P:=Tryz.prog) Tryz.isAgg73
@[reducible,instance] def AW0:=JA.mk (P:=Tryz.prog) Tryz.isAgg80
@[reducible,instance] def AUs:=JA.mk (P:=Tryz.prog) Tryz.isAgg104
@[reducible,instance] def AUt:=JA.mk (P:=Tryz.prog) Tryz.isAgg107
@[reducible,instance] def AUu:=JA.mk (P:=Tryz.prog) Tryz.isAgg118
@[reducible,instance] def AUv:=JA.mk (P:=Tryz.prog) Tryz.isAgg184
@[reducible,instance] def AUw:=JA.mk (P:=Tryz.prog) Tryz.isAgg186
@[reducible,instance] def AUx:=JA.mk (P:=Tryz.prog) Tryz.isAgg194
@[reducible,instance] def AUy:=JA.mk (P:=Tryz.prog) Tryz.isAgg195
@[reducible,instance] def AUz:=JA.mk (P:=Tryz.prog) Tryz.isAgg206
@[reducible,instance] def JS2:=JS.mk (P:=Tryz.prog) Tryz.sizeOf2
@[reducible,instance] def JS3:=JS.mk (P:=Tryz.prog) Tryz.sizeOf3
@[reducible,instance] def JS4:=JS.mk (P:=Tryz.prog) Tryz.sizeOf4
@[reducible,instance] def JS9:=JS.mk (P:=Tryz.prog) Tryz.sizeOf9
@[reducible,instance] def AW1:=JS.mk (P:=Tryz.prog) Tryz.sizeOf22
@[reducible,instance] def AW2:=JS.mk (P:=Tryz.prog) Tryz.sizeOf24
@[reducible,instance] def AW3:=JS.mk (P:=Tryz.prog) Tryz.sizeOf25
@[reducible,instance] def AW4:=JS.mk (P:=Tryz.prog) Tryz.sizeOf27
@[reducible,instance] def AW5:=JS.mk (P:=Tryz.prog) Tryz.sizeOf29
@[reducible,instance] def AW6:=JS.mk (P:=Tryz.prog) Tryz.sizeOf30
@[reducible,instance] def AW7:=JS.mk (P:=Tryz.prog) Tryz.sizeOf31
@[reducible,instance] def AW8:=JS.mk (P:=Tryz.prog) Tryz.sizeOf37
@[reducible,instance] def AW9:=JS.mk (P:=Tryz.prog) Tryz.sizeOf38
@[reducible,instance] def AWa:=JS.mk (P:=Tryz.prog) Tryz.sizeOf41
@[reducible,instance] def AWb:=JS.mk (P:=Tryz.prog) Tryz.sizeOf52
@[reducible,instance] def AWc:=JS.mk (P:=Tryz.prog) Tryz.sizeOf54
@[reducible,instance] def AWd:=JS.mk (P:=Tryz.prog) Tryz.sizeOf58
@[reducible,instance] def AWe:=JS.mk (P:=Tryz.prog) Tryz.sizeOf69
@[reducible,instance] def AWf:=JS.mk (P:=Tryz.prog) Tryz.sizeOf73
@[reducible,instance] def AWg:=JS.mk (P:=Tryz.prog) Tryz.sizeOf80
@[reducible,instance] def AV0:=JS.mk (P:=Tryz.prog) Tryz.sizeOf104
@[reducible,instance] def AV1:=JS.mk (P:=Tryz.prog) Tryz.sizeOf118
@[reducible,instance] def AV2:=JS.mk (P:=Tryz.prog) Tryz.sizeOf184
@[reducible,instance] def AV3:=JS.mk (P:=Tryz.prog) Tryz.sizeOf186
@[reducible,instance] def AV4:=JS.mk (P:=Tryz.prog) Tryz.sizeOf206
@[reducible,instance] def JU2:=JU.mk (P:=Tryz.prog) Tryz.underlying2
@[reducible,instance] def JU3:=JU.mk (P:=Tryz.prog) Tryz.underlying3
@[reducible,instance] def JU4:=JU.mk (P:=Tryz.prog) Tryz.underlying4
@[reducible,instance] def JU5:=JU.mk (P:=Tryz.prog) Tryz.underlying5
@[reducible,instance] def JU9:=JU.mk (P:=Tryz.prog) Tryz.underlying9
@[reducible,instance] def AWh:=JU.mk (P:=Tryz.prog) Tryz.underlying20
@[reducible,instance] def AWi:=JU.mk (P:=Tryz.prog) Tryz.underlying22
@[reducible,instance] def AWj:=JU.mk (P:=Tryz.prog) Tryz.underlying24
@[reducible,instance] def AWk:=JU.mk (P:=Tryz.prog) Tryz.underlying25
@[reducible,instance] def AWl:=JU.mk (P:=Tryz.prog) Tryz.underlying27
@[reducible,instance] def AWm:=JU.mk (P:=Tryz.prog) Tryz.underlying29
@[reducible,instance] def AWn:=JU.mk (P:=Tryz.prog) Tryz.underlying30
@[reducible,instance] def AWo:=JU.mk (P:=Tryz.prog) Tryz.underlying31
@[reducible,instance] def AWp:=JU.mk (P:=Tryz.prog) Tryz.underlying37
@[reducible,instance] def AWq:=JU.mk (P:=Tryz.prog) Tryz.underlying41
@[reducible,instance] def AWr:=JU.mk (P:=Tryz.prog) Tryz.underlying52
@[reducible,instance] def AWs:=JU.mk (P:=Tryz.prog) Tryz.underlying54
@[reducible,instance] def AWt:=JU.mk (P:=Tryz.prog) Tryz.underlying58
@[reducible,instance] def AWu:=JU.mk (P:=Tryz.prog) Tryz.underlying69
@[reducible,instance] def AWv:=JU.mk (P:=Tryz.prog) Tryz.underlying73
@[reducible,instance] def AWw:=JU.mk (P:=Tryz.prog) Tryz.underlying80
@[reducible,instance] def AV5:=JU.mk (P:=Tryz.prog) Tryz.underlying104
@[reducible,instance] def AV6:=JU.mk (P:=Tryz.prog) Tryz.underlying109
@[reducible,instance] def AV7:=JU.mk (P:=Tryz.prog) Tryz.underlying113
@[reducible,instance] def AV8:=JU.mk (P:=Tryz.prog) Tryz.underlying118
@[reducible,instance] def AV9:=JU.mk (P:=Tryz.prog) Tryz.underlying184
@[reducible,instance] def AVa:=JU.mk (P:=Tryz.prog) Tryz.underlying186
@[reducible,instance] def AVb:=JU.mk (P:=Tryz.prog) Tryz.underlying197
@[reducible,instance] def AVc:=JU.mk (P:=Tryz.prog) Tryz.underlying206
@[reducible,instance] def AVd:=JU.mk (P:=Tryz.prog) Tryz.underlying249
@[reducible,instance] def JZ3:=JZ.mk (P:=Tryz.prog) Tryz.zeroValue3
@[reducible,instance] def JZ4:=JZ.mk (P:=Tryz.prog) Tryz.zeroValue4
@[reducible,instance] def JZ9:=JZ.mk (P:=Tryz.prog) Tryz.zeroValue9
@[reducible,instance] def AWx:=JZ.mk (P:=Tryz.prog) Tryz.zeroValue24
@[reducible,instance] def AWy:=JZ.mk (P:=Tryz.prog) Tryz.zeroValue25
@[reducible,instance] def AWz:=JZ.mk (P:=Tryz.prog) Tryz.zeroValue27
@[reducible,instance] def AX0:=JZ.mk (P:=Tryz.prog) Tryz.zeroValue29
@[reducible,instance] def AX1:=JZ.mk (P:=Tryz.prog) Tryz.zeroValue30
@[reducible,instance] def AX2:=JZ.mk (P:=Tryz.prog) Tryz.zeroValue31
@[reducible,instance] def AX3:=JZ.mk (P:=Tryz.prog) Tryz.zeroValue37
@[reducible,instance] def AX4:=JZ.mk (P:=Tryz.prog) Tryz.zeroValue38
@[reducible,instance] def AX5:=JZ.mk (P:=Tryz.prog) Tryz.zeroValue41
@[reducible,instance] def AX6:=JZ.mk (P:=Tryz.prog) Tryz.zeroValue52
@[reducible,instance] def AX7:=JZ.mk (P:=Tryz.prog) Tryz.zeroValue54
@[reducible,instance] def AX8:=JZ.mk (P:=Tryz.prog) Tryz.zeroValue58
@[reducible,instance] def AX9:=JZ.mk (P:=Tryz.prog) Tryz.zeroValue69
@[reducible,instance] def AXa:=JZ.mk (P:=Tryz.prog) Tryz.zeroValue73
@[reducible,instance] def AXb:=JZ.mk (P:=Tryz.prog) Tryz.zeroValue80
@[reducible,instance] def AVe:=JZ.mk (P:=Tryz.prog) Tryz.zeroValue104
@[reducible,instance] def AVf:=JZ.mk (P:=Tryz.prog) Tryz.zeroValue109
@[reducible,instance] def AVg:=JZ.mk (P:=Tryz.prog) Tryz.zeroValue113
@[reducible,instance] def AVh:=JZ.mk (P:=Tryz.prog) Tryz.zeroValue118
@[reducible,instance] def AVi:=JZ.mk (P:=Tryz.prog) Tryz.zeroValue186
@[reducible,instance] def AVj:=JZ.mk (P:=Tryz.prog) Tryz.zeroValue197
@[reducible,instance] def AVk:=JZ.mk (P:=Tryz.prog) Tryz.zeroValue206
end Go.SX.Nb
