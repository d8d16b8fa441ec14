/- On the way (part 3). -/
import Derived.Test.YtekiioamifokoaaGreatDoorProg
import Derived.Test.YtekiioamifokoaaGreatDoorRewriteTellsCardSaidPart2
set_option linter.all false
namespace Go.SX.Nb
open Go Go.SX Go.Proofs
structure Hk (q:Prop):Prop where h:q
variable {p q:Prop}
theorem Z0(k:q)(h:Hk q→p:=by intro qk;refine A5 ?_;refine A5 ?_;exact qk.h):p:=h ⟨k⟩
theorem Z1(k:q)(h:Hk q→p:=by intro qk;refine Ef ?_;refine Z0 ?_;exact qk.h):p:=h ⟨k⟩
theorem Z2(k:q)(h:Hk q→p:=by intro qk;refine Ef ?_;refine A5 ?_;exact qk.h):p:=h ⟨k⟩
theorem Z3(k:q)(h:Hk q→p:=by intro qk;refine A2 [2] ?_;refine El ?_;exact qk.h):p:=h ⟨k⟩
theorem Z4(k:q)(h:Hk q→p:=by intro qk;refine Gc ?_;refine Gf ?_;exact qk.h):p:=h ⟨k⟩
theorem Z5(k:q)(h:Hk q→p:=by intro qk;refine B7 ?_;refine B7 ?_;exact qk.h):p:=h ⟨k⟩
theorem Z6(k:q)(h:Hk q→p:=by intro qk;refine K.blR ?_;refine Gg ?_;exact qk.h):p:=h ⟨k⟩
theorem Z7(k:q)(h:Hk q→p:=by intro qk;refine Lq ?_;refine Z1 ?_;exact qk.h):p:=h ⟨k⟩
theorem Z8(k:q)(h:Hk q→p:=by intro qk;refine Z0 ?_;refine A5 ?_;exact qk.h):p:=h ⟨k⟩
theorem Z9(k:q)(h:Hk q→p:=by intro qk;refine I4 ?_;refine Gf ?_;exact qk.h):p:=h ⟨k⟩
theorem Z10(k:q)(h:Hk q→p:=by intro qk;refine Av ?_;refine Av ?_;exact qk.h):p:=h ⟨k⟩
theorem Z11(k:q)(h:Hk q→p:=by intro qk;refine Rd ?_;refine Gz ?_;exact qk.h):p:=h ⟨k⟩
theorem Z12(k:q)(h:Hk q→p:=by intro qk;refine El ?_;refine Gg ?_;exact qk.h):p:=h ⟨k⟩
theorem Z13(k:q)(h:Hk q→p:=by intro qk;refine Lq ?_;refine Ju ?_;exact qk.h):p:=h ⟨k⟩
theorem Z14(k:q)(h:Hk q→p:=by intro qk;refine Z9 ?_;refine Og ?_;exact qk.h):p:=h ⟨k⟩
theorem Z16(k:q)(h:Hk q→p:=by intro qk;refine Z1 ?_;refine A5 ?_;exact qk.h):p:=h ⟨k⟩
theorem Z17(k:q)(h:Hk q→p:=by intro qk;refine K.lpE ?_;refine Gf ?_;exact qk.h):p:=h ⟨k⟩
theorem Z18(k:q)(h:Hk q→p:=by intro qk;refine Z2 ?_;refine Z3 ?_;exact qk.h):p:=h ⟨k⟩
theorem Z19(k:q)(h:Hk q→p:=by intro qk;refine AW.exit ?_;refine K.thE ?_;exact qk.h):p:=h ⟨k⟩
theorem Z20(k:q)(h:Hk q→p:=by intro qk;refine A2 [4] ?_;refine El ?_;exact qk.h):p:=h ⟨k⟩
theorem Z21(k:q)(h:Hk q→p:=by intro qk;refine Z0 ?_;refine Z5 ?_;exact qk.h):p:=h ⟨k⟩
theorem Z22(k:q)(h:Hk q→p:=by intro qk;refine zz ?_;refine Gz ?_;exact qk.h):p:=h ⟨k⟩
theorem Z23(k:q)(h:Hk q→p:=by intro qk;refine Lp ?_;refine Gg ?_;exact qk.h):p:=h ⟨k⟩
theorem Z24(k:q)(h:Hk q→p:=by intro qk;refine ns ?_;refine Gz ?_;exact qk.h):p:=h ⟨k⟩
theorem Z25(k:q)(h:Hk q→p:=by intro qk;refine Lq ?_;refine Z2 ?_;exact qk.h):p:=h ⟨k⟩
theorem Z26(k:q)(h:Hk q→p:=by intro qk;refine A5 ?_;refine A2 [6,7] ?_;exact qk.h):p:=h ⟨k⟩
theorem Z27(k:q)(h:Hk q→p:=by intro qk;refine Gc ?_;refine Z14 ?_;exact qk.h):p:=h ⟨k⟩
theorem Z28(k:q)(h:Hk q→p:=by intro qk;refine Z6 ?_;refine Z23 ?_;exact qk.h):p:=h ⟨k⟩
theorem Z29(k:q)(h:Hk q→p:=by intro qk;refine Ef ?_;refine Ns ?_;exact qk.h):p:=h ⟨k⟩
theorem Z30(k:q)(h:Hk q→p:=by intro qk;refine Z7 ?_;refine A5 ?_;exact qk.h):p:=h ⟨k⟩
theorem Z32(k:q)(h:Hk q→p:=by intro qk;refine Ef ?_;refine Rd ?_;exact qk.h):p:=h ⟨k⟩
theorem Z33(k:q)(h:Hk q→p:=by intro qk;refine Ef ?_;refine R.buildLe (Zv I2) gg (places:=#[(0,1),(1,6),(7,1)]) jU (fun w=>by simp) Tryz.zeroValue37 ?_;exact qk.h):p:=h ⟨k⟩
theorem Z34(k:q)(h:Hk q→p:=by intro qk;refine Z1 ?_;refine Z0 ?_;exact qk.h):p:=h ⟨k⟩
theorem Z35(k:q)(h:Hk q→p:=by intro qk;refine Z4 ?_;refine Z13 ?_;exact qk.h):p:=h ⟨k⟩
theorem Z36(k:q)(h:Hk q→p:=by intro qk;refine Z19 ?_;refine Z17 ?_;exact qk.h):p:=h ⟨k⟩
theorem Z37(k:q)(h:Hk q→p:=by intro qk;refine Z10 ?_;refine Av ?_;exact qk.h):p:=h ⟨k⟩
theorem Z39(h:p:=by refine Z12 ?_;exact ALm):p:=h
theorem Z40(h:p:=by refine D.buildSlice jU jS jZ ?_;exact ep):p:=h
theorem Z41(k:q)(h:Hk q→p:=by intro qk;refine A2 [4,5] ?_;refine Z12 ?_;exact qk.h):p:=h ⟨k⟩
theorem Z42(k:q)(h:Hk q→p:=by intro qk;refine Z2 ?_;refine Gz ?_;exact qk.h):p:=h ⟨k⟩
theorem Z43(k:q)(h:Hk q→p:=by intro qk;refine Z0 ?_;refine Z3 ?_;exact qk.h):p:=h ⟨k⟩
theorem Z44(k:q)(h:Hk q→p:=by intro qk;refine Z2 ?_;refine A2 [0] ?_;exact qk.h):p:=h ⟨k⟩
theorem Z45(k:q)(h:Hk q→p:=by intro qk;refine Og ?_;refine Z0 ?_;exact qk.h):p:=h ⟨k⟩
theorem Z46(k:q)(h:Hk q→p:=by intro qk;refine Z7 ?_;refine Z0 ?_;exact qk.h):p:=h ⟨k⟩
theorem Z47(k:q)(h:Hk q→p:=by intro qk;refine Gc ?_;refine Z9 ?_;exact qk.h):p:=h ⟨k⟩
theorem Z48(k:q)(h:Hk q→p:=by intro qk;refine Z2 ?_;refine A2 [0,1] ?_;exact qk.h):p:=h ⟨k⟩
theorem Z49(k:q)(h:Hk q→p:=by intro qk;refine A5 ?_;refine Gz ?_;exact qk.h):p:=h ⟨k⟩
theorem Z50(k:q)(h:Hk q→p:=by intro qk;refine A2 [4,5] ?_;refine El ?_;exact qk.h):p:=h ⟨k⟩
theorem Z51(h:p:=by refine Ml ?_;exact B4 (by unfold M0;first|(simp only [ht38,ht41,ht49,ht57,ht57,ht66,ht74,hk3,hk6,Db,Ce,Fo,Ks,if_true,if_false,Ay,↓reduceIte]<;>rfl)|(simp only [ht38,ht41,ht49,ht57,ht57,ht66,ht74,hk3,Db,Ce,Fo,if_true,if_false,Ay,↓reduceIte]<;>rfl)|(simp only [ht38,ht41,ht49,ht57,ht57,ht66,ht74,if_true,if_false,Ay,↓reduceIte]<;>rfl))):p:=h
theorem Z52(k:q)(h:Hk q→p:=by intro qk;refine Z21 ?_;refine Z5 ?_;exact qk.h):p:=h ⟨k⟩
theorem Z53(k:q)(h:Hk q→p:=by intro qk;refine Lq ?_;refine Ef ?_;exact qk.h):p:=h ⟨k⟩
theorem Z54(h:p:=by refine Z6 ?_;exact ADg):p:=h
theorem Z55(k:q)(h:Hk q→p:=by intro qk;refine A5 ?_;refine Ns ?_;exact qk.h):p:=h ⟨k⟩
theorem Z56(h:p:=by refine Z6 ?_;exact A9 (Aj A8) ⟨by rw [hn];first|(simp only [ht22,ht25,ht33,ht41,ht41,hk3,hk6,Db,Ce,Fo,Ks,if_true,if_false,Ay,↓reduceIte]<;>rfl)|(simp only [ht22,ht25,ht33,ht41,ht41,hk3,Db,Ce,Fo,if_true,if_false,Ay,↓reduceIte]<;>rfl)|(simp only [ht22,ht25,ht33,ht41,ht41,if_true,if_false,Ay,↓reduceIte]<;>rfl),rfl⟩):p:=h
theorem Z57(h:p:=by refine Ml ?_;exact B4 (by unfold M0;first|(simp only [ht38,ht41,ht49,ht57,ht57,hk3,hk6,Db,Ce,Fo,Ks,if_true,if_false,Ay,↓reduceIte]<;>rfl)|(simp only [ht38,ht41,ht49,ht57,ht57,hk3,Db,Ce,Fo,if_true,if_false,Ay,↓reduceIte]<;>rfl)|(simp only [ht38,ht41,ht49,ht57,ht57,if_true,if_false,Ay,↓reduceIte]<;>rfl))):p:=h
theorem Z59(h:p:=by refine Z18 ?_;refine Z6 ?_;exact A9 (Aj A8) ⟨by simp_all [Uh],rfl⟩):p:=h
theorem Z60(h:p:=by refine Av ?_;exact ep):p:=h
theorem Z61(k:q)(h:Hk q→p:=by intro qk;refine Og ?_;refine A5 ?_;exact qk.h):p:=h ⟨k⟩
theorem Z62(h:p:=by refine Z28 ?_;exact AA3):p:=h
theorem Z63(h:p:=by refine Ml ?_;exact B4 (by simp [*])):p:=h
theorem Z64(k:q)(h:Hk q→p:=by intro qk;refine El ?_;refine Z6 ?_;exact qk.h):p:=h ⟨k⟩
theorem Z65(h:p:=by refine Z6 ?_;exact AL4):p:=h
theorem Z66(k:q)(h:Hk q→p:=by intro qk;refine Z1 ?_;refine A2 [1] ?_;exact qk.h):p:=h ⟨k⟩
theorem Z67(k:q)(h:Hk q→p:=by intro qk;refine Z21 ?_;refine B7 ?_;exact qk.h):p:=h ⟨k⟩
theorem Z68(k:q)(h:Hk q→p:=by intro qk;refine Z27 ?_;refine Z8 ?_;exact qk.h):p:=h ⟨k⟩
theorem Z69(k:q)(h:Hk q→p:=by intro qk;refine Z32 ?_;refine A2 [0,2] ?_;exact qk.h):p:=h ⟨k⟩
theorem Z70(h:p:=by refine Z41 ?_;exact AHh):p:=h
theorem Z71(k:q)(h:Hk q→p:=by intro qk;refine Gz ?_;refine Z3 ?_;exact qk.h):p:=h ⟨k⟩
theorem Z72(h:p:=by refine Z10 ?_;exact ep):p:=h
theorem Z73(k:q)(h:Hk q→p:=by intro qk;refine Z2 ?_;refine Cl Tryz.call233 ho (by simp) Dj (AB4 l S o _ (Ak ho) hi hll) ?_;exact qk.h):p:=h ⟨k⟩
theorem Z74(k:q)(h:Hk q→p:=by intro qk;refine Og ?_;refine Z8 ?_;exact qk.h):p:=h ⟨k⟩
theorem Z75(k:q)(h:Hk q→p:=by intro qk;refine Z0 ?_;refine Z0 ?_;exact qk.h):p:=h ⟨k⟩
theorem Z76(k:q)(h:Hk q→p:=by intro qk;refine Z26 ?_;refine Z12 ?_;exact qk.h):p:=h ⟨k⟩
theorem Z77(h:p:=by refine Z12 ?_;exact nv):p:=h
theorem Z78(h:p:=by refine Ku ?_;exact Eo .nores (hp:=⟨rfl,by first|(rw [e];exact (cb hne ho hoq).symm)|(rw [e];exact (Co (xa hne hoq)).symm)|(rw [e];simp only [C6];exact (Co (xa hne hoq)).symm)|(rw [e];simp only [C6];rw [AC1 hne];rfl)|(rw [e];simp only [C6];rw [Na _ _ hne];rfl)⟩)):p:=h
theorem Z79(h:p:=by refine Z64 ?_;exact ALm):p:=h
theorem Z80(k:q)(h:Hk q→p:=by intro qk;refine B7 ?_;refine A5 ?_;exact qk.h):p:=h ⟨k⟩
theorem Z81(k:q)(h:Hk q→p:=by intro qk;refine I4 ?_;refine Ml ?_;exact qk.h):p:=h ⟨k⟩
theorem Z82(k:q)(h:Hk q→p:=by intro qk;refine Z0 ?_;refine Z8 ?_;exact qk.h):p:=h ⟨k⟩
theorem Z83(k:q)(h:Hk q→p:=by intro qk;refine Og ?_;refine R.moveT ?_;exact qk.h):p:=h ⟨k⟩
theorem Z84(h:p:=by refine Z76 ?_;exact AHi):p:=h
theorem Z85(k:q)(h:Hk q→p:=by intro qk;refine H.go ?_;refine H.go ?_;exact qk.h):p:=h ⟨k⟩
theorem Z86(k:q)(h:Hk q→p:=by intro qk;refine Z1 ?_;refine zz ?_;exact qk.h):p:=h ⟨k⟩
theorem Z87(k:q)(h:Hk q→p:=by intro qk;refine Z14 ?_;refine Z8 ?_;exact qk.h):p:=h ⟨k⟩
theorem Z88(h:p:=by refine Gg ?_;exact nv):p:=h
theorem Z90(k:q)(h:Hk q→p:=by intro qk;refine Ef ?_;refine nr ?_;exact qk.h):p:=h ⟨k⟩
theorem Z91(h:p:=by refine Z43 ?_;exact zu):p:=h
theorem Z92(k:q)(h:Hk q→p:=by intro qk;refine A2 [6] ?_;refine El ?_;exact qk.h):p:=h ⟨k⟩
theorem Z93(k:q)(h:Hk q→p:=by intro qk;refine Ef ?_;refine R.freeze (k:=2) (n:=1) 5 1 [Bl ⟨y.name,(c.getD (At s c).toNat ⟨[],0⟩).kind⟩] hcc rfl rfl (l3 [⟨y.name,(c.getD (At s c).toNat ⟨[],0⟩).kind⟩]) (l4 [⟨y.name,(c.getD (At s c).toNat ⟨[],0⟩).kind⟩]) (Y7 [⟨y.name,(c.getD (At s c).toNat ⟨[],0⟩).kind⟩]) ?_;exact qk.h):p:=h ⟨k⟩
theorem Z95(k:q)(h:Hk q→p:=by intro qk;refine Z0 ?_;refine B7 ?_;exact qk.h):p:=h ⟨k⟩
theorem Z96(k:q)(h:Hk q→p:=by intro qk;refine Ku ?_;refine I4 ?_;exact qk.h):p:=h ⟨k⟩
theorem Z97(k:q)(h:Hk q→p:=by intro qk;refine ALf ?_;refine Gx (tn:=[5])  ?_;exact qk.h):p:=h ⟨k⟩
theorem Z99(k:q)(h:Hk q→p:=by intro qk;refine Z7 ?_;refine Z8 ?_;exact qk.h):p:=h ⟨k⟩
theorem eb(k:q)(h:Hk q→p:=by intro qk;refine Gz ?_;refine Jt ?_;exact qk.h):p:=h ⟨k⟩
theorem Mw(k:q)(h:Hk q→p:=by intro qk;refine Z4 ?_;refine Z25 ?_;exact qk.h):p:=h ⟨k⟩
theorem Ra(k:q)(h:Hk q→p:=by intro qk;refine Z27 ?_;refine Z0 ?_;exact qk.h):p:=h ⟨k⟩
theorem ACv(h:p:=by refine Z20 ?_;exact zu):p:=h
theorem AGn(k:q)(h:Hk q→p:=by intro qk;refine Ef ?_;refine ALl ?_;exact qk.h):p:=h ⟨k⟩
theorem Vp(k:q)(h:Hk q→p:=by intro qk;refine Z1 ?_;refine A2 [13] ?_;exact qk.h):p:=h ⟨k⟩
theorem ACw(h:p:=by refine Z28 ?_;exact AHh):p:=h
theorem Ww(k:q)(h:Hk q→p:=by intro qk;refine A2 [11,12] ?_;refine Z81 ?_;refine B4 ?_;exact qk.h):p:=h ⟨k⟩
theorem Tt(k:q)(h:Hk q→p:=by intro qk;refine Z13 ?_;refine Ef ?_;exact qk.h):p:=h ⟨k⟩
theorem Nr(k:q)(h:Hk q→p:=by intro qk;refine Z4 ?_;refine Z1 ?_;exact qk.h):p:=h ⟨k⟩
theorem AGo(h:p:=by refine Gg ?_;exact AL3):p:=h
theorem Wx(k:q)(h:Hk q→p:=by intro qk;refine Z2 ?_;refine Tr 6 2 ?_;exact qk.h):p:=h ⟨k⟩
theorem AJ6(h:p:=by refine El ?_;exact A9 (B9 (B5 jA jS) A8) ⟨by rw [AGa ht43 ht54,htr]<;>rfl,rfl⟩ (hlow:=by simp [or_imp,forall_and]<;>(repeat' apply And.intro)<;>(intros;exact Am _ _))):p:=h
theorem AJ7(h:p:=by refine El ?_;exact A9 (B9 (B5 jA jS) A8) ⟨by rw [AGa ht44 ht55,htr]<;>rfl,rfl⟩ (hlow:=by simp [or_imp,forall_and]<;>(repeat' apply And.intro)<;>(intros;exact Am _ _))):p:=h
theorem Qf(k:q)(h:Hk q→p:=by intro qk;refine Z8 ?_;refine Z11 ?_;refine A5 ?_;exact qk.h):p:=h ⟨k⟩
theorem AJ8(h:p:=by refine Z76 ?_;exact A9 (B9 (B5 jA jS) A8) ⟨by rw [AG8 ht43,htr]<;>rfl,rfl⟩ (hlow:=by simp [or_imp,forall_and]<;>(repeat' apply And.intro)<;>(intros;exact Am _ _))):p:=h
theorem AJ9(h:p:=by refine Z76 ?_;exact A9 (B9 (B5 jA jS) A8) ⟨by rw [AG9 ht43 ht54]<;>rfl,rfl⟩ (hlow:=by simp [or_imp,forall_and]<;>(repeat' apply And.intro)<;>(intros;exact Am _ _))):p:=h
theorem AJa(h:p:=by refine Z76 ?_;exact A9 (B9 (B5 jA jS) A8) ⟨by rw [AG8 ht44,htr]<;>rfl,rfl⟩ (hlow:=by simp [or_imp,forall_and]<;>(repeat' apply And.intro)<;>(intros;exact Am _ _))):p:=h
theorem AJb(h:p:=by refine Z76 ?_;exact A9 (B9 (B5 jA jS) A8) ⟨by rw [AG9 ht44 ht55]<;>rfl,rfl⟩ (hlow:=by simp [or_imp,forall_and]<;>(repeat' apply And.intro)<;>(intros;exact Am _ _))):p:=h
theorem Of(k:q)(h:Hk q→p:=by intro qk;refine Z4 ?_;refine Z2 ?_;exact qk.h):p:=h ⟨k⟩
theorem AJc(h:p:=by refine El ?_;exact A9 (B9 (B5 jA jS) (B5 jA jS)) ⟨by rw [e]<;>rfl,rfl⟩ (hlow:=by have:=AF3 (n:=Hp.length) (q:=(r3Q (Bu s).1).1);simp at this ⊢;exact this)):p:=h
theorem ACx(h:p:=by refine Z28 ?_;exact nv):p:=h
theorem ik(k:q)(h:Hk q→p:=by intro qk;refine Z2 ?_;refine A2 [0,1,7,8,9] ?_;exact qk.h):p:=h ⟨k⟩
theorem Si(k:q)(h:Hk q→p:=by intro qk;refine A5 ?_;refine Z11 ?_;exact qk.h):p:=h ⟨k⟩
theorem AJd(h:p:=by refine Z50 ?_;exact A9 (B9 A8 A8) ⟨by rw [hm,hm2],rfl⟩ (hlow:=by simp only [Ni,B3,Dt,or_false];rintro y (rfl|rfl);exact Cr;simp)):p:=h
theorem Rb(k:q)(h:Hk q→p:=by intro qk;refine Z10 ?_;refine Z10 ?_;exact qk.h):p:=h ⟨k⟩
theorem Vq(h:p:=by refine Z47 ?_;refine Z18 ?_;exact A9 (Aj A8) ⟨by simp_all [Uh],rfl⟩):p:=h
theorem Sj(k:q)(h:Hk q→p:=by intro qk;refine Z35 ?_;refine Z16 ?_;exact qk.h):p:=h ⟨k⟩
theorem AGp(h:p:=by refine Z12 ?_;exact A9 (B9 (B5 jA jS) (B5 jA jS)) ⟨by rw [e]<;>rfl,rfl⟩):p:=h
theorem Qg(k:q)(h:Hk q→p:=by intro qk;refine Z5 ?_;refine Z5 ?_;exact qk.h):p:=h ⟨k⟩
theorem AJe(h:p:=by refine Z28 ?_;exact AHi):p:=h
theorem AJf(h:p:=by refine Z64 ?_;exact AHi):p:=h
theorem Sk(k:q)(h:Hk q→p:=by intro qk;refine Z35 ?_;refine Z1 ?_;exact qk.h):p:=h ⟨k⟩
theorem Rc(k:q)(h:Hk q→p:=by intro qk;refine Z4 ?_;refine Z16 ?_;exact qk.h):p:=h ⟨k⟩
theorem AGq(k:q)(h:Hk q→p:=by intro qk;refine R.nilTmp 4 2 false ?_;refine A5 ?_;exact qk.h):p:=h ⟨k⟩
theorem AGr(k:q)(h:Hk q→p:=by intro qk;refine Gz ?_;refine A5 ?_;exact qk.h):p:=h ⟨k⟩
theorem Zh(k:q)(h:Hk q→p:=by intro qk;refine Z29 ?_;refine Kk ?_;exact qk.h):p:=h ⟨k⟩
theorem AJg(k:q)(h:Hk q→p:=by intro qk;refine Ef ?_;refine R.freeze (k:=2) (n:=1) 5 1 [Bl ⟨y.name,y.kind⟩] hcc rfl rfl (l3 [⟨y.name,y.kind⟩]) (l4 [⟨y.name,y.kind⟩]) (Y7 [⟨y.name,y.kind⟩]) ?_;exact qk.h):p:=h ⟨k⟩
theorem Wy(k:q)(h:Hk q→p:=by intro qk;refine Ju ?_;refine Z1 ?_;exact qk.h):p:=h ⟨k⟩
theorem AGs(k:q)(h:Hk q→p:=by intro qk;refine Ef ?_;refine zz ?_;exact qk.h):p:=h ⟨k⟩
theorem il(k:q)(h:Hk q→p:=by intro qk;refine Z11 ?_;refine A2 [0,2,3] ?_;exact qk.h):p:=h ⟨k⟩
theorem Tu(k:q)(h:Hk q→p:=by intro qk;refine Z5 ?_;refine B7 ?_;exact qk.h):p:=h ⟨k⟩
theorem AJh(h:p:=by refine A2 [0,1,2,10,11] ?_;exact Au (i+1) hli (by omega) (Bk (by simp only [hst,Bn,Br,Ct]<;>rfl))):p:=h
theorem n8(k:q)(h:Hk q→p:=by intro qk;refine A5 ?_;refine A2 [1,2,3,6] ?_;exact qk.h):p:=h ⟨k⟩
theorem ACy(h:p:=by refine Gc ?_;exact Z63):p:=h
theorem Wz(k:q)(h:Hk q→p:=by intro qk;refine Z17 ?_;refine Z2 ?_;exact qk.h):p:=h ⟨k⟩
theorem AGt(k:q)(h:Hk q→p:=by intro qk;refine Z0 ?_;refine zz ?_;exact qk.h):p:=h ⟨k⟩
theorem AGu(h:p:=by refine Z6 ?_;exact AL6):p:=h
theorem n9(k:q)(h:Hk q→p:=by intro qk;refine A2 [6] ?_;refine Z12 ?_;exact qk.h):p:=h ⟨k⟩
theorem im(k:q)(h:Hk q→p:=by intro qk;refine Z29 ?_;refine Z24 ?_;refine Z3 ?_;exact qk.h):p:=h ⟨k⟩
theorem AJi(h:p:=by refine Au (i+1) hlt (by omega) ?_;exact Bk (by simp only [kp hlt,Bn,Br,Ct,Al];rfl)):p:=h
theorem ACz(k:q)(h:Hk q→p:=by intro qk;refine Z2 ?_;refine A2 [4] ?_;exact qk.h):p:=h ⟨k⟩
theorem ec(k:q)(h:Hk q→p:=by intro qk;refine Z2 ?_;refine Rd ?_;exact qk.h):p:=h ⟨k⟩
theorem io(h:p:=by refine Z10 ?_;exact Z72):p:=h
theorem AGv(h:p:=by refine Z50 ?_;exact AHh):p:=h
theorem AD0(h:p:=by refine Z81 ?_;exact B4 (by rw [e]<;>rfl)):p:=h
theorem AD1(k:q)(h:Hk q→p:=by intro qk;refine Ef ?_;refine Z22 ?_;exact qk.h):p:=h ⟨k⟩
theorem AJj(h:p:=by refine Ku ?_;exact ALo):p:=h
theorem ee(k:q)(h:Hk q→p:=by intro qk;refine Hf ?_;refine A5 ?_;exact qk.h):p:=h ⟨k⟩
theorem AJk(h:p:=by refine Gc ?_;exact ALo):p:=h
theorem ze(h:p:=by refine Ep [2,3,9] ?_;exact ACy):p:=h
theorem ip(k:q)(h:Hk q→p:=by intro qk;refine Z1 ?_;refine Z20 ?_;exact qk.h):p:=h ⟨k⟩
theorem iq(k:q)(h:Hk q→p:=by intro qk;refine Rd ?_;refine Z49 ?_;exact qk.h):p:=h ⟨k⟩
theorem Zi(k:q)(h:Hk q→p:=by intro qk;refine Z18 ?_;refine Z28 ?_;exact qk.h):p:=h ⟨k⟩
theorem AJl(h:p:=by refine A2 [0,1,7,8] ?_;exact Au (x+1) ⟨hlt,Bw hlt hx.2 (by rw [ht16];simp)⟩ (by omega) (Bk rfl)):p:=h
theorem AGw(h:p:=by refine Z41 ?_;exact AHc):p:=h
theorem AJm(h:p:=by refine Z3 ?_;exact zu):p:=h
theorem X0(k:q)(h:Hk q→p:=by intro qk;refine Z14 ?_;refine Z0 ?_;exact qk.h):p:=h ⟨k⟩
theorem ef(k:q)(h:Hk q→p:=by intro qk;refine Z26 ?_;refine El ?_;exact qk.h):p:=h ⟨k⟩
theorem AGx(h:p:=by refine Z43 ?_;refine Z6 ?_;exact ALn):p:=h
theorem v9(k:q)(h:Hk q→p:=by intro qk;refine AD1 ?_;refine Fx 1 5 6 ?_;exact qk.h):p:=h ⟨k⟩
theorem X1(k:q)(h:Hk q→p:=by intro qk;refine Z13 ?_;refine Z2 ?_;exact qk.h):p:=h ⟨k⟩
theorem AJn(h:p:=by refine Ku ?_;exact Eo .nores (hp:=⟨u6 m x,k,by unfold Vj;rw [hT];rfl,rfl,by exact xn⟩)):p:=h
theorem na(h:p:=by refine Av ?_;exact Z40):p:=h
theorem nb(k:q)(h:Hk q→p:=by intro qk;refine Z1 ?_;refine Mn ?_;exact qk.h):p:=h ⟨k⟩
theorem AJo(h:p:=by refine Z20 ?_;exact A9 (Aj A8) ⟨by rw [ny (Kl (by simp at ht9;omega) hx.2)],rfl⟩):p:=h
theorem vd(k:q)(h:Hk q→p:=by intro qk;refine Z1 ?_;refine A2 [2,3,9] ?_;exact qk.h):p:=h ⟨k⟩
theorem Zj(k:q)(h:Hk q→p:=by intro qk;refine Z16 ?_;refine Z5 ?_;exact qk.h):p:=h ⟨k⟩
theorem zf(k:q)(h:Hk q→p:=by intro qk;refine R.nilTmp 4 6 false ?_;refine A5 ?_;exact qk.h):p:=h ⟨k⟩
theorem zg(k:q)(h:Hk q→p:=by intro qk;refine Zl ?_;refine El ?_;exact qk.h):p:=h ⟨k⟩
theorem AJp(h:p:=by refine eo ?_;exact Au (x+1) hlt (by omega) (by simp only [em];exact Bk rfl)):p:=h
theorem ve(k:q)(h:Hk q→p:=by intro qk;refine AGr ?_;refine Jt ?_;exact qk.h):p:=h ⟨k⟩
theorem AJq(h:p:=by refine To (places:=#[(0,1),(1,1),(2,6),(8,1)]) jU (fun w=>by simp) jZ ?_;exact io):p:=h
theorem eg(k:q)(h:Hk q→p:=by intro qk;refine Z4 ?_;refine Z34 ?_;exact qk.h):p:=h ⟨k⟩
theorem nd(k:q)(h:Hk q→p:=by intro qk;refine Z18 ?_;refine Gg ?_;exact qk.h):p:=h ⟨k⟩
theorem Zk(k:q)(h:Hk q→p:=by intro qk;refine Z36 ?_;refine Z2 ?_;exact qk.h):p:=h ⟨k⟩
theorem ir(k:q)(h:Hk q→p:=by intro qk;refine Z4 ?_;refine Ef ?_;exact qk.h):p:=h ⟨k⟩
theorem vf(k:q)(h:Hk q→p:=by intro qk;refine Z68 ?_;refine Mn ?_;exact qk.h):p:=h ⟨k⟩
theorem nf(k:q)(h:Hk q→p:=by intro qk;refine Ef ?_;refine R.box ?_;exact qk.h):p:=h ⟨k⟩
theorem eh(k:q)(h:Hk q→p:=by intro qk;refine Z5 ?_;refine A5 ?_;exact qk.h):p:=h ⟨k⟩
theorem zh(k:q)(h:Hk q→p:=by intro qk;refine Zl ?_;refine Z64 ?_;exact qk.h):p:=h ⟨k⟩
theorem AJr(h:p:=by refine To (places:=#[(0,1),(1,1)]) jU (fun w=>by simp) jZ ?_;exact ep):p:=h
theorem zi(h:p:=by refine Z52 ?_;exact AGx):p:=h
theorem AJs(h:p:=by refine Bm Tryz.call175 (fun hB=>ALt e.text Q8 hs (by decide) _) ?_;exact zi):p:=h
theorem iu(k:q)(h:Hk q→p:=by intro qk;refine Z85 ?_;refine H.go ?_;exact qk.h):p:=h ⟨k⟩
theorem AGy(k:q)(h:Hk q→p:=by intro qk;refine Z2 ?_;refine Aa Tryz.call255 (ALy l S o _ (Ak ho) hi) ?_;exact qk.h):p:=h ⟨k⟩
theorem AGz(k:q)(h:Hk q→p:=by intro qk;refine A5 ?_;refine Aa Tryz.call169 (Y6 (ks.getD 0 0) 1 _) ?_;exact qk.h):p:=h ⟨k⟩
theorem AH0(k:q)(h:Hk q→p:=by intro qk;refine A5 ?_;refine Aa Tryz.call169 (Y6 (ks.getD 0 0) 2 _) ?_;exact qk.h):p:=h ⟨k⟩
theorem vg(h:p:=by refine ACz ?_;exact Z77):p:=h
theorem AH1(k:q)(h:Hk q→p:=by intro qk;refine Z2 ?_;refine Aa Tryz.call115 (AIt L i o _ (Ak ho) hi) ?_;exact qk.h):p:=h ⟨k⟩
theorem AJt(h:p:=by refine Z28 ?_;exact A9 (B9 A8 A8) ⟨by rw [pm hr hkn];try rfl,rfl⟩):p:=h
theorem AJu(h:p:=by refine Z18 ?_;exact ADg):p:=h
theorem ek(k:q)(h:Hk q→p:=by intro qk;refine Z1 ?_;refine Z67 ?_;exact qk.h):p:=h ⟨k⟩
theorem AH2(k:q)(h:Hk q→p:=by intro qk;refine Y.allocP Tryz.zeroValue118 ?_;refine Y.storeP Tryz.sizeOf118 ?_;exact qk.h):p:=h ⟨k⟩
theorem AJv(k:q)(h:Hk q→p:=by intro qk;refine J4 ?_;refine A5 ?_;exact qk.h):p:=h ⟨k⟩
theorem vh(k:q)(h:Hk q→p:=by intro qk;refine Z1 ?_;refine A2 [0,1] ?_;exact qk.h):p:=h ⟨k⟩
theorem AJw(h:p:=by refine Z41 ?_;exact A9 (B9 (Fc jA) (Fc jA)) ⟨by rw [hm]<;>rfl,rfl⟩):p:=h
theorem ng(k:q)(h:Hk q→p:=by intro qk;refine Z12 ?_;refine K.blR ?_;exact qk.h):p:=h ⟨k⟩
theorem AH3(h:p:=by refine Z3 ?_;exact AH9):p:=h
theorem iv(k:q)(h:Hk q→p:=by intro qk;refine Z13 ?_;refine Z1 ?_;refine A2 [0,1,5,7,8] ?_;refine Z16 ?_;exact qk.h):p:=h ⟨k⟩
theorem iw(k:q)(h:Hk q→p:=by intro qk;refine Z48 ?_;refine Z30 ?_;refine A2 [0,1,7,8] ?_;exact qk.h):p:=h ⟨k⟩
theorem AJx(h:p:=by refine Z76 ?_;exact A9 (B9 A8 A8) ⟨by rw [AB0 hr];try rfl,rfl⟩):p:=h
theorem nh(k:q)(h:Hk q→p:=by intro qk;refine A5 ?_;refine B7 ?_;exact qk.h):p:=h ⟨k⟩
theorem ni(k:q)(h:Hk q→p:=by intro qk;refine Z43 ?_;refine Z6 ?_;exact qk.h):p:=h ⟨k⟩
theorem ix(k:q)(h:Hk q→p:=by intro qk;refine Z36 ?_;refine Z25 ?_;exact qk.h):p:=h ⟨k⟩
theorem iy(k:q)(h:Hk q→p:=by intro qk;refine Z36 ?_;refine Z18 ?_;exact qk.h):p:=h ⟨k⟩
theorem nj(k:q)(h:Hk q→p:=by intro qk;refine Z19 ?_;refine K.lpE ?_;exact qk.h):p:=h ⟨k⟩
theorem AJy(h:p:=by refine Z18 ?_;exact ALn):p:=h
theorem AD2(k:q)(h:Hk q→p:=by intro qk;refine Gz ?_;refine A2 [6,8] ?_;exact qk.h):p:=h ⟨k⟩
theorem zj(h:p:=by refine im ?_;refine Z6 ?_;exact AL5):p:=h
theorem AJz(h:p:=by refine Z6 ?_;exact AL7):p:=h
theorem AK0(h:p:=by refine Z20 ?_;exact A9 (Aj A8) ⟨by rw [AEh h3]<;>rfl,rfl⟩):p:=h
theorem AK1(k:q)(h:Hk q→p:=by intro qk;refine n6 jU Tryz.sizeOf9 Tryz.zeroValue9 ?_;refine Gx (tn:=[2]) (U:=U2 L Hp o om j (mvO m)) ?_;exact qk.h):p:=h ⟨k⟩
theorem AH4(k:q)(h:Hk q→p:=by intro qk;refine Ns ?_;refine Ns ?_;exact qk.h):p:=h ⟨k⟩
theorem AK2(k:q)(h:Hk q→p:=by intro qk;refine Z16 ?_;refine Cl Tryz.call156 ho (by simp) Dj (wn l S 8 (Af l S.i).at_ o _ (Ak ho)) ?_;exact qk.h):p:=h ⟨k⟩
theorem vi(k:q)(h:Hk q→p:=by intro qk;refine Z4 ?_;refine Ju ?_;exact qk.h):p:=h ⟨k⟩
theorem AK3(h:p:=by refine Z43 ?_;exact Z54):p:=h
theorem AK4(h:p:=by refine Z3 ?_;exact A9 (Aj (B5 jA jS)) ⟨by simp [ht5],rfl⟩):p:=h
theorem vj(k:q)(h:Hk q→p:=by intro qk;refine Av ?_;refine Hf ?_;exact qk.h):p:=h ⟨k⟩
theorem AK5(h:p:=by refine Z28 ?_;exact A9 (B9 A8 A8) ⟨by rw [hbad],rfl⟩):p:=h
theorem AK6(h:p:=by refine Z6 ?_;exact AHd):p:=h
theorem AH5(k:q)(h:Hk q→p:=by intro qk;refine Z1 ?_;refine Aa Tryz.call46 (c46 c hc hc2 l h _) ?_;exact qk.h):p:=h ⟨k⟩
theorem AK7(h:p:=by refine Z23 ?_;exact A9 (Aj A8) ⟨by rw [hx.eq,hw],rfl⟩):p:=h
theorem zk(h:p:=by refine Z1 ?_;refine AGq ?_;exact Z70):p:=h
theorem zl(h:p:=by refine Z18 ?_;exact Z88):p:=h
theorem iz(k:q)(h:Hk q→p:=by intro qk;refine Z1 ?_;refine Z3 ?_;exact qk.h):p:=h ⟨k⟩
theorem j4(k:q)(h:Hk q→p:=by intro qk;refine Z48 ?_;refine Z1 ?_;exact qk.h):p:=h ⟨k⟩
theorem AK8(h:p:=by refine Z28 ?_;exact A9 (B9 A8 A8) ⟨by rw [hkb],rfl⟩):p:=h
theorem AK9(h:p:=by refine ni ?_;exact nv):p:=h
theorem AKa(h:p:=by refine nd ?_;exact AHf):p:=h
theorem zm(k:q)(h:Hk q→p:=by intro qk;refine Z16 ?_;refine Jt ?_;exact qk.h):p:=h ⟨k⟩
theorem zn(k:q)(h:Hk q→p:=by intro qk;refine Z16 ?_;refine A2 [1,2] ?_;exact qk.h):p:=h ⟨k⟩
theorem AKb(h:p:=by refine Z43 ?_;exact nv):p:=h
theorem AKc(h:p:=by refine Z20 ?_;exact nv):p:=h
theorem zo(h:p:=by refine Z0 ?_;exact ACv):p:=h
theorem AKd(k:q)(h:Hk q→p:=by intro qk;refine Er [0,1,3,7,15,3,35,99,255,511,1023] 8 Ap (by kernel_rfl) ?_;refine Z10 ?_;exact qk.h):p:=h ⟨k⟩
theorem AKe(k:q)(h:Hk q→p:=by intro qk;refine Er [0,1,3,7,0,16,48,112,240,511,1023] 9 Ap (by kernel_rfl) ?_;refine Z10 ?_;exact qk.h):p:=h ⟨k⟩
theorem AKf(h:p:=by refine Z43 ?_;exact AHf):p:=h
theorem AKg(k:q)(h:Hk q→p:=by intro qk;refine Z4 ?_;refine Z83 ?_;exact qk.h):p:=h ⟨k⟩
theorem AKh(h:p:=by refine Z50 ?_;exact AHc):p:=h
theorem AKi(h:p:=by refine Aa Tryz.call96 (c96 61 e hok (by decide) _) ?_;exact Z91):p:=h
theorem AD3(h:p:=by refine ip ?_;refine Z28 ?_;exact A9 (Aj A8) ⟨by rw [ABm hlt ht16 hx.2],rfl⟩):p:=h
theorem AKj(k:q)(h:Hk q→p:=by intro qk;refine Z69 ?_;refine Er [0,1,3,7,0,16,48,112,255,511,1023] 8 Ap (by kernel_rfl) ?_;exact qk.h):p:=h ⟨k⟩
theorem j5(k:q)(h:Hk q→p:=by intro qk;refine Z4 ?_;refine Z7 ?_;exact qk.h):p:=h ⟨k⟩
theorem AKk(h:p:=by refine Z28 ?_;exact AHb):p:=h
theorem nk(k:q)(h:Hk q→p:=by intro qk;refine Z44 ?_;refine Z25 ?_;exact qk.h):p:=h ⟨k⟩
theorem nl(k:q)(h:Hk q→p:=by intro qk;refine Z44 ?_;refine Z30 ?_;exact qk.h):p:=h ⟨k⟩
theorem AKl(h:p:=by refine n9 ?_;exact AA3):p:=h
theorem zp(k:q)(h:Hk q→p:=by intro qk;refine Z32 ?_;refine Rd ?_;exact qk.h):p:=h ⟨k⟩
theorem AH6(h:p:=by refine Z21 ?_;exact AK3):p:=h
theorem vk(k:q)(h:Hk q→p:=by intro qk;refine Z74 ?_;refine Z5 ?_;refine Z0 ?_;refine A2 [1,3,4,5] ?_;exact qk.h):p:=h ⟨k⟩
theorem vl(k:q)(h:Hk q→p:=by intro qk;refine AKg ?_;refine Z55 ?_;exact qk.h):p:=h ⟨k⟩
theorem AKm(h:p:=by refine Z92 ?_;exact AA3):p:=h
theorem AD4(k:q)(h:Hk q→p:=by intro qk;refine A2 [2,3,6,7] ?_;refine Z2 ?_;exact qk.h):p:=h ⟨k⟩
theorem AKn(h:p:=by refine n9 ?_;exact A9 (Aj A8) ⟨by simp,rfl⟩):p:=h
theorem AH7(k:q)(h:Hk q→p:=by intro qk;refine A5 ?_;refine Aa Tryz.call139 (AO3 e _) ?_;exact qk.h):p:=h ⟨k⟩
theorem AD5(h:p:=by refine Z18 ?_;refine Gg ?_;exact AA3):p:=h
theorem AD6(h:p:=by refine Ra ?_;refine A2 [0,1,7,8] ?_;exact Au (x+1) ⟨hlt,Bw hlt hx.2 ht16⟩ (by omega) (Bk rfl)):p:=h
theorem AD7(h:p:=by refine A5 ?_;exact AJm):p:=h
theorem AKo(h:p:=by refine Aa Tryz.call170 (AM2 e.text _) ?_;exact AH6):p:=h
theorem AD8(k:q)(h:Hk q→p:=by intro qk;refine A5 ?_;refine Wq jS ?_;exact qk.h):p:=h ⟨k⟩
theorem AD9(h:p:=by refine Wz ?_;refine Z20 ?_;exact A9 (Aj A8) ⟨by rw [qe (Ia hxe hx.2)],rfl⟩):p:=h
theorem np(k:q)(h:Hk q→p:=by intro qk;refine Z4 ?_;refine Z30 ?_;exact qk.h):p:=h ⟨k⟩
theorem zq(k:q)(h:Hk q→p:=by intro qk;refine Z34 ?_;refine A2 [0] ?_;exact qk.h):p:=h ⟨k⟩
theorem zr(k:q)(h:Hk q→p:=by intro qk;refine Hf ?_;refine B7 ?_;exact qk.h):p:=h ⟨k⟩
theorem nq(k:q)(h:Hk q→p:=by intro qk;refine Z66 ?_;refine Z2 ?_;exact qk.h):p:=h ⟨k⟩
theorem AKp(k:q)(h:Hk q→p:=by intro qk;refine Z2 ?_;refine nr ?_;exact qk.h):p:=h ⟨k⟩
theorem ADa(h:p:=by refine Z36 ?_;refine Z18 ?_;exact AA3):p:=h
theorem ADb(h:p:=by refine Z0 ?_;refine Z20 ?_;exact A9 (Aj A8) ⟨by first|(rw [hgy hf];rfl)|(rw [hgv hf];rfl),rfl⟩):p:=h
theorem AH8(k:q)(h:Hk q→p:=by intro qk;refine Fx 0 1 1 ?_;refine Fx 0 7 6 ?_;exact qk.h):p:=h ⟨k⟩
theorem AKq(k:q)(h:Hk q→p:=by intro qk;refine Nk (places:=#[(0,1),(1,6),(7,1)]) jU (fun w=>by simp) jZ ?_;refine Z11 ?_;exact qk.h):p:=h ⟨k⟩
theorem vm(k:q)(h:Hk q→p:=by intro qk;refine Z33 ?_;refine Z49 ?_;exact qk.h):p:=h ⟨k⟩
theorem AKr(k:q)(h:Hk q→p:=by intro qk;refine eg ?_;refine Aa Tryz.call44 (c44 q.whr h.ok h.size c hc h100 l hll hlo hsz _) ?_;exact qk.h):p:=h ⟨k⟩
theorem AKs(h:p:=by refine K.lpE ?_;exact Eo .nores (hp:=by rw [hxe])):p:=h
theorem ADc(k:q)(h:Hk q→p:=by intro qk;refine A2 [3,9] ?_;refine Gf ?_;exact qk.h):p:=h ⟨k⟩
theorem ADd(k:q)(h:Hk q→p:=by intro qk;refine A2 [0,3,5] ?_;refine Z30 ?_;exact qk.h):p:=h ⟨k⟩
theorem AKt(k:q)(h:Hk q→p:=by intro qk;refine ADh ?_;refine Au (z+1) hz2 (by omega) ?_;exact qk.h):p:=h ⟨k⟩
theorem zt(k:q)(h:Hk q→p:=by intro qk;refine Ef ?_;refine AJv ?_;exact qk.h):p:=h ⟨k⟩
theorem AKu(h:p:=by refine Aa Tryz.call105 (AAa s hs _) ?_;exact Z91):p:=h
theorem ADe(h:p:=by refine Z0 ?_;refine Z20 ?_;exact A9 (Aj A8) ⟨by rw [←wv];try rfl,rfl⟩):p:=h
theorem vn(h:p:=by exact ⟨rfl,Below.refl _ _⟩):p:=h
theorem Mn(k:q)(h:Hk q→p:=by intro qk;refine A2 [0,3] ?_;exact qk.h):p:=h ⟨k⟩
theorem AKv(h:p:=by exact h (y,j) (by rw [M6];exact hj)):p:=h
theorem AKw(h:p:=by exact A9 (Aj A8) ⟨by simp [Hm,ht5],rfl⟩):p:=h
theorem AKx(h:p:=by exact A9 (Aj A8) ⟨by simp [Hm,ht5,ht16,ht22],rfl⟩):p:=h
theorem zu(h:p:=by exact A9 (Aj A8)):p:=h
theorem j6(k:q)(h:Hk q→p:=by intro qk;refine A2 [0,1,5,7,8,16] ?_;exact qk.h):p:=h ⟨k⟩
theorem Jt(k:q)(h:Hk q→p:=by intro qk;refine A2 [2,3] ?_;exact qk.h):p:=h ⟨k⟩
theorem Gz(k:q)(h:Hk q→p:=by intro qk;refine dt jS ?_;exact qk.h):p:=h ⟨k⟩
theorem AH9(h:p:=by exact A9 (Aj (B5 jA jS))):p:=h
theorem Og(k:q)(h:Hk q→p:=by intro qk;refine AW.region ?_;exact qk.h):p:=h ⟨k⟩
theorem nr(k:q)(h:Hk q→p:=by intro qk;refine Nk (places:=#[(0,1),(1,1),(2,1)]) jU (fun w=>by simp) jZ ?_;exact qk.h):p:=h ⟨k⟩
theorem Tv(k:q)(h:Hk q→p:=by intro qk;refine A2 [1,3] ?_;exact qk.h):p:=h ⟨k⟩
theorem AKy(h:p:=by exact A9 (Aj A8) ⟨by simp only [Mo,hp,ht7,ht14,ht23,ht27,Kr,Ay,if_false,if_true];try rfl,rfl⟩):p:=h
theorem AKz(h:p:=by exact A9 (B9 (B5 jA jS) A8) ⟨by simp only [ja,ht17,if_true,if_false,Ay];rfl,rfl⟩):p:=h
theorem Ef(k:q)(h:Hk q→p:=by intro qk;refine AW.seqR ?_;exact qk.h):p:=h ⟨k⟩
theorem Ju(k:q)(h:Hk q→p:=by intro qk;refine AW.block ?_;exact qk.h):p:=h ⟨k⟩
theorem AL0(h:p:=by exact A9 (Lo A8 A8 A8 A8) ⟨by simp only [Rh,ht11,ht17,if_true,if_false,Ay];try rfl,rfl⟩):p:=h
theorem Zl(k:q)(h:Hk q→p:=by intro qk;refine A2 [2,3,4,5] ?_;exact qk.h):p:=h ⟨k⟩
theorem AL1(h:p:=by exact A9 (Lo A8 A8 A8 A8) ⟨by simp only [Xc,ht18,ht23,if_true,if_false,Ay];try rfl,rfl⟩):p:=h
theorem AL2(h:p:=by exact A9 (Lo A8 A8 A8 A8) ⟨by simp only [Cp,ht6,ht17,ht28,if_true,if_false,Ay],rfl⟩):p:=h
theorem zv(h:p:=by exact absurd h (by decide)):p:=h
theorem Ku(k:q)(h:Hk q→p:=by intro qk;refine A2 [] ?_;exact qk.h):p:=h ⟨k⟩
theorem AHa(k:q)(h:Hk q→p:=by intro qk;refine K.rdN (z9 hL (Do (by decide)) (Do (by decide))) ?_;exact qk.h):p:=h ⟨k⟩
theorem Ns(k:q)(h:Hk q→p:=by intro qk;refine R.buildSlice jU jS jZ ?_;exact qk.h):p:=h ⟨k⟩
theorem ns(k:q)(h:Hk q→p:=by intro qk;refine Nk (places:=#[(0,1),(1,1)]) jU (fun w=>by simp) jZ ?_;exact qk.h):p:=h ⟨k⟩
theorem zw(h:p:=by exact ⟨hFRl,by simp [oid]⟩):p:=h
theorem zx(h:p:=by exact L4 (fun x hx=>ObjLow.le (by omega) (hlow x hx)) hOl x hx):p:=h
theorem ADf(k:q)(h:Hk q→p:=by intro qk;refine K.rdR (z9 hL (Do (by decide)) (Do (by decide))) ?_;exact qk.h):p:=h ⟨k⟩
theorem zy(k:q)(h:Hk q→p:=by intro qk;refine K.rdN (z8 hL (Do (by decide))) ?_;exact qk.h):p:=h ⟨k⟩
theorem en(k:q)(h:Hk q→p:=by intro qk;refine A2 [0,1,2] ?_;exact qk.h):p:=h ⟨k⟩
theorem Kk(k:q)(h:Hk q→p:=by intro qk;refine R.assignT ?_;exact qk.h):p:=h ⟨k⟩
theorem nt(k:q)(h:Hk q→p:=by intro qk;refine A2 [0,1,2,6] ?_;exact qk.h):p:=h ⟨k⟩
theorem zz(k:q)(h:Hk q→p:=by intro qk;refine Nk (places:=#[(0,1),(1,1),(2,3),(5,1)]) jU (fun w=>by simp) jZ ?_;exact qk.h):p:=h ⟨k⟩
theorem eo(k:q)(h:Hk q→p:=by intro qk;refine A2 [1,3,4] ?_;exact qk.h):p:=h ⟨k⟩
theorem ADg(h:p:=by exact A9 (Aj A8) ⟨by simp_all [I7,N0,wp],rfl⟩):p:=h
theorem Rd(k:q)(h:Hk q→p:=by intro qk;refine R.alloc jZ ?_;exact qk.h):p:=h ⟨k⟩
theorem ep(h:p:=by exact D.end rfl rfl):p:=h
theorem nu(k:q)(h:Hk q→p:=by intro qk;refine Gx (tn:=[])  ?_;exact qk.h):p:=h ⟨k⟩
theorem AHb(h:p:=by exact A9 (Aj A8) ⟨by rw [hf],rfl⟩):p:=h
theorem AL3(h:p:=by exact A9 (Aj (B5 jA jS)) ⟨by rw [e,Al],by rw [e]⟩ (hlow:=low_agg _)):p:=h
theorem AL4(h:p:=by exact A9 (Aj (B5 jA jS)) ⟨by first|exact ABi (by unfold Hv;simp [*];done)|exact ABh (by unfold Hv;simp [*];done)|exact ABj (by unfold Hv;simp [*];done),rfl⟩):p:=h
theorem AL5(h:p:=by exact A9 (Aj (B5 jA jS)) ⟨by first|exact ABi (by unfold Ft;simp [*];done)|exact ABh (by unfold Ft;simp [*];done)|exact ABj (by unfold Ft;simp [*];done),rfl⟩):p:=h
theorem AL6(h:p:=by exact A9 (Aj (B5 jA jS)) ⟨by simp_all [Qt],rfl⟩):p:=h
theorem AL7(h:p:=by exact A9 (B9 A8 A8) ⟨by simp_all [H5],rfl⟩):p:=h
theorem vo(k:q)(h:Hk q→p:=by intro qk;refine A2 [2,6,13,14,15] ?_;exact qk.h):p:=h ⟨k⟩
theorem AHc(h:p:=by exact A9 (B9 A8 A8) ⟨by rw [hk],rfl⟩):p:=h
theorem AHd(h:p:=by exact A9 (B9 A8 A8) ⟨by rw [hk,hk2],rfl⟩):p:=h
theorem AL8(h:p:=by exact A9 (B9 A8 A8) ⟨by rw [hka,←hrf];unfold Ui;first|rw [if_neg (by simpa using ht235)]|rw [if_pos (by simpa using ht235)],rfl⟩):p:=h
theorem AL9(h:p:=by exact A9 (Aj A8) ⟨by rw [hn];first|(simp only [ht22,ht25,ht33,ht41,ht41,ht50,ht58,hk3,hk6,Db,Ce,Fo,Ks,if_true,if_false,Ay,↓reduceIte]<;>rfl)|(simp only [ht22,ht25,ht33,ht41,ht41,ht50,ht58,hk3,Db,Ce,Fo,if_true,if_false,Ay,↓reduceIte]<;>rfl)|(simp only [ht22,ht25,ht33,ht41,ht41,ht50,ht58,if_true,if_false,Ay,↓reduceIte]<;>rfl),rfl⟩):p:=h
theorem nv(h:p:=by exact A9 (Aj A8) ⟨by rw [hm]<;>rfl,rfl⟩):p:=h
theorem ALa(h:p:=by exact A9 (B9 A8 A8) ⟨by rw [hm],rfl⟩ (hlow:=by simp only [Ni,B3,Dt,or_false];rintro y (rfl|rfl);exact Iv;simp)):p:=h
theorem AHe(h:p:=by exact absurd h (by simpa using h1)):p:=h
theorem ALb(h:p:=by exact A9 (B9 (B5 jA jS) A8) ⟨by rw [hm];show _=AV.tup [A7 Aw,B0 false];rw [Al];rfl,rfl⟩ (hlow:=by simp [or_imp,forall_and])):p:=h
theorem ALc(h:p:=by exact A9 (B9 A8 A8) ⟨by rw [hm,hm2]<;>rfl,rfl⟩):p:=h
theorem ADh(k:q)(h:Hk q→p:=by intro qk;refine A2 [6,8,9,10,11,13,54,55,56] ?_;exact qk.h):p:=h ⟨k⟩
theorem ALd(h:p:=by exact A9 (Aj A8) ⟨rfl,by first|(rw [e];done)|(rw [e];rfl)|(rw [e];exact (Co ho).symm)⟩):p:=h
theorem ALe(h:p:=by exact ⟨K8 (T5 _ _ _).symm,by rw [T5];exact hi,hc⟩):p:=h
theorem ALf(k:q)(h:Hk q→p:=by intro qk;refine Y.storeOwn (u:=Hp.length) (n:=0) (t':=29) (cs:=[B0 false,.nil,A4 0,Ab [],A4 0,A4 0,Ab [],.nil,A4 0]) (cs':=[B0 false,.nil,A4 0,Ab [],A4 0,A4 0,Ab [],.nil,A4 0]) Tryz.sizeOf29 (fun B hB=>⟨rfl,rfl,rfl,rfl⟩) ?_;exact qk.h):p:=h ⟨k⟩
theorem ALg(k:q)(h:Hk q→p:=by intro qk;refine Hh [0,0,2,6,14,1,63] [5] [.q 5 [] [],.s [] (some 0) [] []] (fun _=>Hp) (fun _=>[.cells 29 [B0 false,.nil,A4 0,Ab [],A4 0,A4 0,Ab [],.nil,A4 0],.cells 73 [A4 0,A4 0],.cells 73 [A4 (Bu s).2.1,A4 ((Bu s).2.2:Nat)],prq (Bu s).1 (s5Q (Bu s).1),qo true (r3Q (Bu s).1).1]) Ap (by kernel_rfl) rfl rfl (fun _=>rfl) ?_;exact qk.h):p:=h ⟨k⟩
theorem AHf(h:p:=by exact A9 (Aj A8) ⟨by rw [e]<;>rfl,rfl⟩):p:=h
theorem AHg(h:p:=by exact A9 (Aj A8) ⟨by rw [e],rfl⟩):p:=h
theorem ALh(h:p:=by exact A9 (Aj A8) ⟨rfl,rfl⟩ (hlow:=Cv)):p:=h
theorem vp(k:q)(h:Hk q→p:=by intro qk;refine A2 [1,2,3,6,8] ?_;exact qk.h):p:=h ⟨k⟩
theorem AA0(k:q)(h:Hk q→p:=by intro qk;refine A2 [0,6,7,9,11,15,16] ?_;exact qk.h):p:=h ⟨k⟩
theorem ADi(k:q)(h:Hk q→p:=by intro qk;refine A2 [0,6,7,9,11,15,16,17,18] ?_;exact qk.h):p:=h ⟨k⟩
theorem ALi(h:p:=by exact ⟨dd i,hl.step hi (by rw [hk];decide)⟩):p:=h
theorem nw(h:p:=by exact ⟨by omega,c2,c3⟩):p:=h
theorem AA1(h:p:=by exact (D7 hX (e)).elim):p:=h
theorem ALj(h:p:=by exact (D7 hX (by first|exact by unfold Vj;rw [hT];rfl|exact hT)).elim):p:=h
theorem ALk(h:p:=by exact (AMr L i o _ (Ak (F0 ho hne)) hi hl hll).ok hT):p:=h
theorem AA2(k:q)(h:Hk q→p:=by intro qk;refine AW.upEq (Tc ho hm).symm ?_;exact qk.h):p:=h ⟨k⟩
theorem ALl(k:q)(h:Hk q→p:=by intro qk;refine R.buildLe (Zv I2) gg (places:=#[(0,1),(1,6),(7,1)]) jU (fun w=>by simp) Tryz.zeroValue45 ?_;exact qk.h):p:=h ⟨k⟩
theorem vq(h:p:=by exact B4 rfl):p:=h
theorem ALm(h:p:=by exact A9 .nores (hp:=⟨rfl,by first|(rw [e];exact (cb hne ho hoq).symm)|(rw [e];exact (Co (xa hne hoq)).symm)|(rw [e];simp only [C6];exact (Co (xa hne hoq)).symm)|(rw [e];simp only [C6];rw [AC1 hne];rfl)|(rw [e];simp only [C6];rw [Na _ _ hne];rfl)⟩)):p:=h
theorem ALn(h:p:=by exact A9 (Aj A8) ⟨by simp_all [E5,N0],rfl⟩):p:=h
theorem AA3(h:p:=by exact A9 (Aj A8) ⟨by rw [hm],rfl⟩):p:=h
theorem AHh(h:p:=by exact A9 (B9 A8 A8) ⟨by rw [hm]<;>rfl,rfl⟩):p:=h
theorem AHi(h:p:=by exact A9 (B9 (B5 jA jS) A8) ⟨by rw [hm];show _=AV.tup [A7 Aw,A4 _];rw [Al];rfl,rfl⟩ (hlow:=by simp [or_imp,forall_and])):p:=h
theorem ALo(h:p:=by exact Eo .nores (hp:=⟨rfl,by first|(rw [e];done)|(rw [e];rfl)|(rw [e];exact (Co ho).symm)⟩)):p:=h
end Go.SX.Nb
namespace Go.SX.Nb
open Go Go.SX Go.Proofs
@[reducible,instance] def JA2:=JA.mk (P:=Tryz.prog) Tryz.isAgg2
@[reducible,instance] def JA3:=JA.mk (P:=Tryz.prog) Tryz.isAgg3
@[reducible,instance] def JA4:=JA.mk (P:=Tryz.prog) Tryz.isAgg4
@[reducible,instance] def JA9:=JA.mk (P:=Tryz.prog) Tryz.isAgg9
@[reducible,instance] def AQw:=JA.mk (P:=Tryz.prog) Tryz.isAgg22
@[reducible,instance] def AQx:=JA.mk (P:=Tryz.prog) Tryz.isAgg24
@[reducible,instance] def AQy:=JA.mk (P:=Tryz.prog) Tryz.isAgg25
@[reducible,instance] def AQz:=JA.mk (P:=Tryz.prog) Tryz.isAgg27
@[reducible,instance] def AR0:=JA.mk (P:=Tryz.prog) Tryz.isAgg29
@[reducible,instance] def AR1:=JA.mk (P:=Tryz.prog) Tryz.isAgg30
@[reducible,instance] def AR2:=JA.mk (P:=Tryz.prog) Tryz.isAgg31
@[reducible,instance] def AR3:=JA.mk (P:=Tryz.prog) Tryz.isAgg37
@[reducible,instance] def AR4:=JA.mk (P:=Tryz.prog) Tryz.isAgg38
@[reducible,instance] def AR5:=JA.mk (P:=Tryz.prog) Tryz.isAgg41
@[reducible,instance] def AR6:=JA.mk (P:=Tryz.prog) Tryz.isAgg45
@[reducible,instance] def AR7:=JA.mk (P:=Tryz.prog) Tryz.isAgg69
@[reducible,instance] def AR8:=JA.mk (P:=Tryz.prog) Tryz.isAgg73
@[reducible,instance] def AR9:=JA.mk (P:=Tryz.prog) Tryz.isAgg80
@[reducible,instance] def AQ6:=JA.mk (P:=Tryz.prog) Tryz.isAgg104
@[reducible,instance] def AQ7:=JA.mk (P:=Tryz.prog) Tryz.isAgg107
@[reducible,instance] def AQ8:=JA.mk (P:=Tryz.prog) Tryz.isAgg118
@[reducible,instance] def AQ9:=JA.mk (P:=Tryz.prog) Tryz.isAgg184
@[reducible,instance] def AQa:=JA.mk (P:=Tryz.prog) Tryz.isAgg186
@[reducible,instance] def AQb:=JA.mk (P:=Tryz.prog) Tryz.isAgg194
@[reducible,instance] def AQc:=JA.mk (P:=Tryz.prog) Tryz.isAgg195
@[reducible,instance] def JS2:=JS.mk (P:=Tryz.prog) Tryz.sizeOf2
@[reducible,instance] def JS3:=JS.mk (P:=Tryz.prog) Tryz.sizeOf3
@[reducible,instance] def JS4:=JS.mk (P:=Tryz.prog) Tryz.sizeOf4
@[reducible,instance] def JS5:=JS.mk (P:=Tryz.prog) Tryz.sizeOf5
@[reducible,instance] def JS9:=JS.mk (P:=Tryz.prog) Tryz.sizeOf9
@[reducible,instance] def ARa:=JS.mk (P:=Tryz.prog) Tryz.sizeOf22
@[reducible,instance] def ARb:=JS.mk (P:=Tryz.prog) Tryz.sizeOf24
@[reducible,instance] def ARc:=JS.mk (P:=Tryz.prog) Tryz.sizeOf25
@[reducible,instance] def ARd:=JS.mk (P:=Tryz.prog) Tryz.sizeOf27
@[reducible,instance] def ARe:=JS.mk (P:=Tryz.prog) Tryz.sizeOf29
@[reducible,instance] def ARf:=JS.mk (P:=Tryz.prog) Tryz.sizeOf30
@[reducible,instance] def ARg:=JS.mk (P:=Tryz.prog) Tryz.sizeOf31
@[reducible,instance] def ARh:=JS.mk (P:=Tryz.prog) Tryz.sizeOf37
@[reducible,instance] def ARi:=JS.mk (P:=Tryz.prog) Tryz.sizeOf38
@[reducible,instance] def ARj:=JS.mk (P:=Tryz.prog) Tryz.sizeOf41
@[reducible,instance] def ARk:=JS.mk (P:=Tryz.prog) Tryz.sizeOf45
@[reducible,instance] def ARl:=JS.mk (P:=Tryz.prog) Tryz.sizeOf69
@[reducible,instance] def ARm:=JS.mk (P:=Tryz.prog) Tryz.sizeOf73
@[reducible,instance] def ARn:=JS.mk (P:=Tryz.prog) Tryz.sizeOf80
@[reducible,instance] def AQd:=JS.mk (P:=Tryz.prog) Tryz.sizeOf104
@[reducible,instance] def AQe:=JS.mk (P:=Tryz.prog) Tryz.sizeOf118
@[reducible,instance] def AQf:=JS.mk (P:=Tryz.prog) Tryz.sizeOf184
@[reducible,instance] def AQg:=JS.mk (P:=Tryz.prog) Tryz.sizeOf186
@[reducible,instance] def JU3:=JU.mk (P:=Tryz.prog) Tryz.underlying3
@[reducible,instance] def JU4:=JU.mk (P:=Tryz.prog) Tryz.underlying4
@[reducible,instance] def JU5:=JU.mk (P:=Tryz.prog) Tryz.underlying5
@[reducible,instance] def JU9:=JU.mk (P:=Tryz.prog) Tryz.underlying9
@[reducible,instance] def ARo:=JU.mk (P:=Tryz.prog) Tryz.underlying20
@[reducible,instance] def ARp:=JU.mk (P:=Tryz.prog) Tryz.underlying22
@[reducible,instance] def ARq:=JU.mk (P:=Tryz.prog) Tryz.underlying24
@[reducible,instance] def ARr:=JU.mk (P:=Tryz.prog) Tryz.underlying25
@[reducible,instance] def ARs:=JU.mk (P:=Tryz.prog) Tryz.underlying27
@[reducible,instance] def ARt:=JU.mk (P:=Tryz.prog) Tryz.underlying29
@[reducible,instance] def ARu:=JU.mk (P:=Tryz.prog) Tryz.underlying30
@[reducible,instance] def ARv:=JU.mk (P:=Tryz.prog) Tryz.underlying31
@[reducible,instance] def ARw:=JU.mk (P:=Tryz.prog) Tryz.underlying37
@[reducible,instance] def ARx:=JU.mk (P:=Tryz.prog) Tryz.underlying41
@[reducible,instance] def ARy:=JU.mk (P:=Tryz.prog) Tryz.underlying45
@[reducible,instance] def ARz:=JU.mk (P:=Tryz.prog) Tryz.underlying69
@[reducible,instance] def AS0:=JU.mk (P:=Tryz.prog) Tryz.underlying73
@[reducible,instance] def AS1:=JU.mk (P:=Tryz.prog) Tryz.underlying80
@[reducible,instance] def AQh:=JU.mk (P:=Tryz.prog) Tryz.underlying104
@[reducible,instance] def AQi:=JU.mk (P:=Tryz.prog) Tryz.underlying109
@[reducible,instance] def AQj:=JU.mk (P:=Tryz.prog) Tryz.underlying113
@[reducible,instance] def AQk:=JU.mk (P:=Tryz.prog) Tryz.underlying118
@[reducible,instance] def AQl:=JU.mk (P:=Tryz.prog) Tryz.underlying174
@[reducible,instance] def AQm:=JU.mk (P:=Tryz.prog) Tryz.underlying184
@[reducible,instance] def AQn:=JU.mk (P:=Tryz.prog) Tryz.underlying186
@[reducible,instance] def AQo:=JU.mk (P:=Tryz.prog) Tryz.underlying197
@[reducible,instance] def AQp:=JU.mk (P:=Tryz.prog) Tryz.underlying235
@[reducible,instance] def JZ3:=JZ.mk (P:=Tryz.prog) Tryz.zeroValue3
@[reducible,instance] def JZ4:=JZ.mk (P:=Tryz.prog) Tryz.zeroValue4
@[reducible,instance] def JZ5:=JZ.mk (P:=Tryz.prog) Tryz.zeroValue5
@[reducible,instance] def JZ9:=JZ.mk (P:=Tryz.prog) Tryz.zeroValue9
@[reducible,instance] def AS2:=JZ.mk (P:=Tryz.prog) Tryz.zeroValue22
@[reducible,instance] def AS3:=JZ.mk (P:=Tryz.prog) Tryz.zeroValue24
@[reducible,instance] def AS4:=JZ.mk (P:=Tryz.prog) Tryz.zeroValue25
@[reducible,instance] def AS5:=JZ.mk (P:=Tryz.prog) Tryz.zeroValue27
@[reducible,instance] def AS6:=JZ.mk (P:=Tryz.prog) Tryz.zeroValue29
@[reducible,instance] def AS7:=JZ.mk (P:=Tryz.prog) Tryz.zeroValue30
@[reducible,instance] def AS8:=JZ.mk (P:=Tryz.prog) Tryz.zeroValue31
@[reducible,instance] def AS9:=JZ.mk (P:=Tryz.prog) Tryz.zeroValue37
@[reducible,instance] def ASa:=JZ.mk (P:=Tryz.prog) Tryz.zeroValue38
@[reducible,instance] def ASb:=JZ.mk (P:=Tryz.prog) Tryz.zeroValue41
@[reducible,instance] def ASc:=JZ.mk (P:=Tryz.prog) Tryz.zeroValue45
@[reducible,instance] def ASd:=JZ.mk (P:=Tryz.prog) Tryz.zeroValue69
@[reducible,instance] def ASe:=JZ.mk (P:=Tryz.prog) Tryz.zeroValue73
@[reducible,instance] def ASf:=JZ.mk (P:=Tryz.prog) Tryz.zeroValue80
@[reducible,instance] def AQq:=JZ.mk (P:=Tryz.prog) Tryz.zeroValue104
@[reducible,instance] def AQr:=JZ.mk (P:=Tryz.prog) Tryz.zeroValue109
@[reducible,instance] def AQs:=JZ.mk (P:=Tryz.prog) Tryz.zeroValue113
@[reducible,instance] def AQt:=JZ.mk (P:=Tryz.prog) Tryz.zeroValue118
@[reducible,instance] def AQu:=JZ.mk (P:=Tryz.prog) Tryz.zeroValue186
@[reducible,instance] def AQv:=JZ.mk (P:=Tryz.prog) Tryz.zeroValue197
end Go.SX.Nb
