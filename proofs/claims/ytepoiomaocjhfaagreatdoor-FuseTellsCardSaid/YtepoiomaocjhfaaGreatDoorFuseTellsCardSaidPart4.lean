/- Texts on the way to this: FuseTells answers true for whatever it is handed: the trees of all columns behind and ahead are what the chapter says, composed one move behind the other, or the error. (part 4) -/
import Derived.Test.YtepoiomaocjhfaaGreatDoorProg
import Derived.Test.YtepoiomaocjhfaaGreatDoorFuseTellsCardSaidPart3
set_option linter.all false
namespace Go.SX.Nb
open Go Go.SX Go.Proofs
structure Hk (q:Prop):Prop where h:q
variable {p q:Prop}
theorem Z0(k:q)(h:Hk q→p:=by intro qk;refine R.go ?_;refine R.go ?_;exact qk.h):p:=h ⟨k⟩
theorem Z1(k:q)(h:Hk q→p:=by intro qk;refine Cx ?_;refine Z0 ?_;exact qk.h):p:=h ⟨k⟩
theorem Z2(k:q)(h:Hk q→p:=by intro qk;refine Cx ?_;refine R.go ?_;exact qk.h):p:=h ⟨k⟩
theorem Z3(k:q)(h:Hk q→p:=by intro qk;refine R.fin [2] ?_;refine AW.ret ?_;exact qk.h):p:=h ⟨k⟩
theorem Z5(k:q)(h:Hk q→p:=by intro qk;refine AW.skip ?_;refine K.thN ?_;exact qk.h):p:=h ⟨k⟩
theorem Z6(k:q)(h:Hk q→p:=by intro qk;refine K.blR ?_;refine K.thR ?_;exact qk.h):p:=h ⟨k⟩
theorem Z7(k:q)(h:Hk q→p:=by intro qk;refine G.go ?_;refine G.go ?_;exact qk.h):p:=h ⟨k⟩
theorem Z8(k:q)(h:Hk q→p:=by intro qk;refine W.seq ?_;refine Z1 ?_;exact qk.h):p:=h ⟨k⟩
theorem Z9(k:q)(h:Hk q→p:=by intro qk;refine K.blN ?_;refine K.thN ?_;exact qk.h):p:=h ⟨k⟩
theorem Z10(k:q)(h:Hk q→p:=by intro qk;refine AW.region ?_;refine Z0 ?_;exact qk.h):p:=h ⟨k⟩
theorem Z13(k:q)(h:Hk q→p:=by intro qk;refine Gg ?_;refine Z3 ?_;exact qk.h):p:=h ⟨k⟩
theorem Z14(k:q)(h:Hk q→p:=by intro qk;refine D.go ?_;refine D.go ?_;exact qk.h):p:=h ⟨k⟩
theorem Z15(k:q)(h:Hk q→p:=by intro qk;refine W.seq ?_;refine Hj ?_;exact qk.h):p:=h ⟨k⟩
theorem Z16(k:q)(h:Hk q→p:=by intro qk;refine R.fin [4,5] ?_;refine AW.ret ?_;exact qk.h):p:=h ⟨k⟩
theorem Z17(k:q)(h:Hk q→p:=by intro qk;refine Lp ?_;refine Gg ?_;exact qk.h):p:=h ⟨k⟩
theorem Z18(k:q)(h:Hk q→p:=by intro qk;refine AW.skip ?_;refine Z9 ?_;exact qk.h):p:=h ⟨k⟩
theorem Z20(k:q)(h:Hk q→p:=by intro qk;refine Z1 ?_;refine R.go ?_;exact qk.h):p:=h ⟨k⟩
theorem Z21(k:q)(h:Hk q→p:=by intro qk;refine Z2 ?_;refine Z3 ?_;exact qk.h):p:=h ⟨k⟩
theorem Z22(k:q)(h:Hk q→p:=by intro qk;refine Z0 ?_;refine R.go ?_;exact qk.h):p:=h ⟨k⟩
theorem Z23(k:q)(h:Hk q→p:=by intro qk;refine K.lpE ?_;refine K.thN ?_;exact qk.h):p:=h ⟨k⟩
theorem Z24(k:q)(h:Hk q→p:=by intro qk;refine Z10 ?_;refine R.go ?_;exact qk.h):p:=h ⟨k⟩
theorem Z25(k:q)(h:Hk q→p:=by intro qk;refine AW.exit ?_;refine K.thE ?_;exact qk.h):p:=h ⟨k⟩
theorem Z26(k:q)(h:Hk q→p:=by intro qk;refine R.fin [4] ?_;refine AW.ret ?_;exact qk.h):p:=h ⟨k⟩
theorem Z27(k:q)(h:Hk q→p:=by intro qk;refine K.lpR ?_;refine K.thR ?_;exact qk.h):p:=h ⟨k⟩
theorem Z28(k:q)(h:Hk q→p:=by intro qk;refine Cx ?_;refine K4 ?_;refine Wo ?_;exact qk.h):p:=h ⟨k⟩
theorem Z30(k:q)(h:Hk q→p:=by intro qk;refine Z0 ?_;refine Z7 ?_;exact qk.h):p:=h ⟨k⟩
theorem Z31(k:q)(h:Hk q→p:=by intro qk;refine W.seq ?_;refine Z2 ?_;exact qk.h):p:=h ⟨k⟩
theorem Z32(k:q)(h:Hk q→p:=by intro qk;refine Cx ?_;refine iv ?_;exact qk.h):p:=h ⟨k⟩
theorem Z33(k:q)(h:Hk q→p:=by intro qk;refine Z6 ?_;refine Z27 ?_;exact qk.h):p:=h ⟨k⟩
theorem Z34(k:q)(h:Hk q→p:=by intro qk;refine Z8 ?_;refine R.go ?_;exact qk.h):p:=h ⟨k⟩
theorem Z35(k:q)(h:Hk q→p:=by intro qk;refine Cx ?_;refine Lp ?_;exact qk.h):p:=h ⟨k⟩
theorem Z36(k:q)(h:Hk q→p:=by intro qk;refine Z28 ?_;refine Z13 ?_;exact qk.h):p:=h ⟨k⟩
theorem Z37(k:q)(h:Hk q→p:=by intro qk;refine AW.ret ?_;refine K.thR ?_;exact qk.h):p:=h ⟨k⟩
theorem Z38(k:q)(h:Hk q→p:=by intro qk;refine Z5 ?_;refine Z15 ?_;exact qk.h):p:=h ⟨k⟩
theorem Z40(k:q)(h:Hk q→p:=by intro qk;refine Z25 ?_;refine Z23 ?_;exact qk.h):p:=h ⟨k⟩
theorem Z41(k:q)(h:Hk q→p:=by intro qk;refine Z16 ?_;refine K.thR ?_;exact qk.h):p:=h ⟨k⟩
theorem Z42(k:q)(h:Hk q→p:=by intro qk;refine Z2 ?_;refine R.fin [0] ?_;exact qk.h):p:=h ⟨k⟩
theorem Z43(k:q)(h:Hk q→p:=by intro qk;refine Z1 ?_;refine Z0 ?_;exact qk.h):p:=h ⟨k⟩
theorem Z44(k:q)(h:Hk q→p:=by intro qk;refine Z14 ?_;refine D.go ?_;exact qk.h):p:=h ⟨k⟩
theorem Z45(k:q)(h:Hk q→p:=by intro qk;refine R.go ?_;refine R.fin [6,7] ?_;exact qk.h):p:=h ⟨k⟩
theorem Z46(k:q)(h:Hk q→p:=by intro qk;refine Z0 ?_;refine Z3 ?_;exact qk.h):p:=h ⟨k⟩
theorem Z47(h:p:=by refine D.buildSlice jU jS jZ ?_;exact V4):p:=h
theorem Z49(k:q)(h:Hk q→p:=by intro qk;refine Z8 ?_;refine Z0 ?_;exact qk.h):p:=h ⟨k⟩
theorem Z50(h:p:=by refine K.thJ ?_;exact StLe.of_eq (by unfold I7;first|(simp only [ht38,ht41,ht49,ht57,ht57,ht66,ht74,hk3,hk6,Bool.true_or,Bool.false_or,Bool.or_true,Bool.or_false,if_true,if_false,Bool.false_eq_true,↓reduceIte]<;>rfl)|(simp only [ht38,ht41,ht49,ht57,ht57,ht66,ht74,hk3,Bool.true_or,Bool.false_or,Bool.or_true,if_true,if_false,Bool.false_eq_true,↓reduceIte]<;>rfl)|(simp only [ht38,ht41,ht49,ht57,ht57,ht66,ht74,if_true,if_false,Bool.false_eq_true,↓reduceIte]<;>rfl))):p:=h
theorem Z51(h:p:=by refine Z6 ?_;exact xj):p:=h
theorem Z52(k:q)(h:Hk q→p:=by intro qk;refine R.go ?_;refine K4 ?_;exact qk.h):p:=h ⟨k⟩
theorem Z53(h:p:=by refine Z6 ?_;exact K.fin (V.one V.tmp) ⟨by rw [hn];first|(simp only [ht22,ht25,ht33,ht41,ht41,hk3,hk6,Bool.true_or,Bool.false_or,Bool.or_true,Bool.or_false,if_true,if_false,Bool.false_eq_true,↓reduceIte]<;>rfl)|(simp only [ht22,ht25,ht33,ht41,ht41,hk3,Bool.true_or,Bool.false_or,Bool.or_true,if_true,if_false,Bool.false_eq_true,↓reduceIte]<;>rfl)|(simp only [ht22,ht25,ht33,ht41,ht41,if_true,if_false,Bool.false_eq_true,↓reduceIte]<;>rfl),rfl⟩):p:=h
theorem Z54(h:p:=by refine K.thJ ?_;exact StLe.of_eq (by unfold I7;first|(simp only [ht38,ht41,ht49,ht57,ht57,hk3,hk6,Bool.true_or,Bool.false_or,Bool.or_true,Bool.or_false,if_true,if_false,Bool.false_eq_true,↓reduceIte]<;>rfl)|(simp only [ht38,ht41,ht49,ht57,ht57,hk3,Bool.true_or,Bool.false_or,Bool.or_true,if_true,if_false,Bool.false_eq_true,↓reduceIte]<;>rfl)|(simp only [ht38,ht41,ht49,ht57,ht57,if_true,if_false,Bool.false_eq_true,↓reduceIte]<;>rfl))):p:=h
theorem Z56(h:p:=by refine Z21 ?_;refine Z6 ?_;exact K.fin (V.one V.tmp) ⟨by simp_all [O2],rfl⟩):p:=h
theorem Z57(k:q)(h:Hk q→p:=by intro qk;refine Z2 ?_;refine R.fin [0,1] ?_;exact qk.h):p:=h ⟨k⟩
theorem Z58(h:p:=by refine Z33 ?_;exact na):p:=h
theorem Z59(h:p:=by refine K.thJ ?_;exact StLe.of_eq (by simp [*])):p:=h
theorem Z60(k:q)(h:Hk q→p:=by intro qk;refine K4 ?_;refine Ic ?_;exact qk.h):p:=h ⟨k⟩
theorem Z61(h:p:=by refine Z36 ?_;refine Z6 ?_;exact ABf):p:=h
theorem Z62(k:q)(h:Hk q→p:=by intro qk;refine Z30 ?_;refine Z7 ?_;exact qk.h):p:=h ⟨k⟩
theorem Z63(k:q)(h:Hk q→p:=by intro qk;refine AW.region ?_;refine R.go ?_;exact qk.h):p:=h ⟨k⟩
theorem Z64(k:q)(h:Hk q→p:=by intro qk;refine Z35 ?_;refine R.fin [0,2] ?_;exact qk.h):p:=h ⟨k⟩
theorem Z65(k:q)(h:Hk q→p:=by intro qk;refine Z18 ?_;refine Z24 ?_;exact qk.h):p:=h ⟨k⟩
theorem Z66(k:q)(h:Hk q→p:=by intro qk;refine W.seq ?_;refine Cx ?_;exact qk.h):p:=h ⟨k⟩
theorem Z67(k:q)(h:Hk q→p:=by intro qk;refine R.fin [] ?_;refine K.blN ?_;exact qk.h):p:=h ⟨k⟩
theorem Z68(k:q)(h:Hk q→p:=by intro qk;refine Z2 ?_;refine R.callUp Tryz.call250 ho (by simp) Bt (oo l S o _ (A6 ho) hi hll) ?_;exact qk.h):p:=h ⟨k⟩
theorem Z69(k:q)(h:Hk q→p:=by intro qk;refine Z0 ?_;refine Z0 ?_;exact qk.h):p:=h ⟨k⟩
theorem Z70(k:q)(h:Hk q→p:=by intro qk;refine G.go ?_;refine R.go ?_;exact qk.h):p:=h ⟨k⟩
theorem Z71(k:q)(h:Hk q→p:=by intro qk;refine Z1 ?_;refine R.fin [1] ?_;exact qk.h):p:=h ⟨k⟩
theorem Z72(h:p:=by refine Z41 ?_;exact sh):p:=h
theorem Z73(k:q)(h:Hk q→p:=by intro qk;refine AW.region ?_;refine R.moveT ?_;exact qk.h):p:=h ⟨k⟩
theorem Z74(h:p:=by refine Z37 ?_;exact xk):p:=h
theorem Z75(k:q)(h:Hk q→p:=by intro qk;refine H.go ?_;refine H.go ?_;exact qk.h):p:=h ⟨k⟩
theorem Z76(k:q)(h:Hk q→p:=by intro qk;refine AW.ret ?_;refine Z6 ?_;exact qk.h):p:=h ⟨k⟩
theorem Z77(k:q)(h:Hk q→p:=by intro qk;refine Z0 ?_;refine Z22 ?_;exact qk.h):p:=h ⟨k⟩
theorem Z78(h:p:=by refine Z67 ?_;exact K.finN .nores ⟨rfl,by rw [pe]<;>simp [jt]⟩):p:=h
theorem Z79(h:p:=by refine K.thR ?_;exact n6):p:=h
theorem Z81(k:q)(h:Hk q→p:=by intro qk;refine Cx ?_;refine Zu ?_;exact qk.h):p:=h ⟨k⟩
theorem Z82(k:q)(h:Hk q→p:=by intro qk;refine Cx ?_;refine R.freeze (k:=2) (n:=1) 5 1 [An ⟨y.name,(c.getD (Af s c).toNat ⟨[],0⟩).kind⟩] hcc rfl rfl (Y4 [⟨y.name,(c.getD (Af s c).toNat ⟨[],0⟩).kind⟩]) (Y5 [⟨y.name,(c.getD (Af s c).toNat ⟨[],0⟩).kind⟩]) (Rb [⟨y.name,(c.getD (Af s c).toNat ⟨[],0⟩).kind⟩]) ?_;exact qk.h):p:=h ⟨k⟩
theorem Z83(k:q)(h:Hk q→p:=by intro qk;refine Z9 ?_;refine Z24 ?_;exact qk.h):p:=h ⟨k⟩
theorem Z84(h:p:=by refine K.thR ?_;exact K.fin (V.one (V.cellN jA jS)) ⟨by rw [e,A7],by rw [e]⟩ (hlow:=low_agg _)):p:=h
theorem Z85(k:q)(h:Hk q→p:=by intro qk;refine Z5 ?_;refine Z20 ?_;exact qk.h):p:=h ⟨k⟩
theorem Z86(k:q)(h:Hk q→p:=by intro qk;refine Z30 ?_;refine G.go ?_;exact qk.h):p:=h ⟨k⟩
theorem Z87(h:p:=by refine Z14 ?_;exact V4):p:=h
theorem Z88(k:q)(h:Hk q→p:=by intro qk;refine R.fin [6] ?_;refine AW.ret ?_;exact qk.h):p:=h ⟨k⟩
theorem Z90(h:p:=by refine D.go ?_;exact V4):p:=h
theorem Z91(k:q)(h:Hk q→p:=by intro qk;refine Z8 ?_;refine R.fin [11,235] ?_;exact qk.h):p:=h ⟨k⟩
theorem Z92(h:p:=by refine Z36 ?_;refine Z6 ?_;exact ABe):p:=h
theorem Z94(k:q)(h:Hk q→p:=by intro qk;refine Z1 ?_;refine R.fin [2,18] ?_;exact qk.h):p:=h ⟨k⟩
theorem Z96(k:q)(h:Hk q→p:=by intro qk;refine Z1 ?_;refine Z41 ?_;exact qk.h):p:=h ⟨k⟩
theorem Z97(k:q)(h:Hk q→p:=by intro qk;refine R.go ?_;refine Gg ?_;exact qk.h):p:=h ⟨k⟩
theorem Z98(k:q)(h:Hk q→p:=by intro qk;refine Z2 ?_;refine Gg ?_;exact qk.h):p:=h ⟨k⟩
theorem Nd(k:q)(h:Hk q→p:=by intro qk;refine Z0 ?_;refine G.go ?_;exact qk.h):p:=h ⟨k⟩
theorem Zj(h:p:=by refine Z46 ?_;exact iq):p:=h
theorem rk(h:p:=by refine Z26 ?_;exact iq):p:=h
theorem Mk(k:q)(h:Hk q→p:=by intro qk;refine Hj ?_;refine Z1 ?_;exact qk.h):p:=h ⟨k⟩
theorem P9(k:q)(h:Hk q→p:=by intro qk;refine Z1 ?_;refine R.fin [13] ?_;exact qk.h):p:=h ⟨k⟩
theorem rl(h:p:=by refine Z33 ?_;exact sh):p:=h
theorem Nf(k:q)(h:Hk q→p:=by intro qk;refine Z18 ?_;refine Z10 ?_;exact qk.h):p:=h ⟨k⟩
theorem S7(k:q)(h:Hk q→p:=by intro qk;refine Z1 ?_;refine R.fin [2,3,9] ?_;exact qk.h):p:=h ⟨k⟩
theorem Ml(k:q)(h:Hk q→p:=by intro qk;refine R.go ?_;refine Z17 ?_;exact qk.h):p:=h ⟨k⟩
theorem Pa(k:q)(h:Hk q→p:=by intro qk;refine Z15 ?_;refine Cx ?_;exact qk.h):p:=h ⟨k⟩
theorem zm(h:p:=by refine Z16 ?_;exact K.fin (V.two V.tmp V.tmp) ⟨by rw [hm,hm2],rfl⟩ (hlow:=by simp only [J4,List.mem_cons,List.mem_nil_iff,or_false];rintro y (rfl|rfl);exact Bd;simp)):p:=h
theorem Pb(h:p:=by refine Z18 ?_;refine Z21 ?_;exact K.fin (V.one V.tmp) ⟨by simp_all [O2],rfl⟩):p:=h
theorem L0(k:q)(h:Hk q→p:=by intro qk;refine Z8 ?_;refine Z22 ?_;exact qk.h):p:=h ⟨k⟩
theorem Pc(h:p:=by refine Z18 ?_;refine Z28 ?_;refine Z13 ?_;exact ABf):p:=h
theorem Ln(k:q)(h:Hk q→p:=by intro qk;refine Z38 ?_;refine Z1 ?_;exact qk.h):p:=h ⟨k⟩
theorem rm(k:q)(h:Hk q→p:=by intro qk;refine Z32 ?_;refine Gg ?_;exact qk.h):p:=h ⟨k⟩
theorem Pd(k:q)(h:Hk q→p:=by intro qk;refine Z5 ?_;refine Z31 ?_;exact qk.h):p:=h ⟨k⟩
theorem zn(h:p:=by refine Z33 ?_;exact xk):p:=h
theorem ma(h:p:=by refine AW.skip ?_;exact Z59):p:=h
theorem Lo(k:q)(h:Hk q→p:=by intro qk;refine Z20 ?_;refine Z7 ?_;exact qk.h):p:=h ⟨k⟩
theorem zo(h:p:=by refine Z76 ?_;exact xk):p:=h
theorem L1(k:q)(h:Hk q→p:=by intro qk;refine Z5 ?_;refine Z2 ?_;exact qk.h):p:=h ⟨k⟩
theorem zp(k:q)(h:Hk q→p:=by intro qk;refine Cx ?_;refine R.freeze (k:=2) (n:=1) 5 1 [An ⟨y.name,y.kind⟩] hcc rfl rfl (Y4 [⟨y.name,y.kind⟩]) (Y5 [⟨y.name,y.kind⟩]) (Rb [⟨y.name,y.kind⟩]) ?_;exact qk.h):p:=h ⟨k⟩
theorem S8(k:q)(h:Hk q→p:=by intro qk;refine Z21 ?_;refine Z33 ?_;exact qk.h):p:=h ⟨k⟩
theorem Ng(k:q)(h:Hk q→p:=by intro qk;refine Z85 ?_;refine Z16 ?_;exact qk.h):p:=h ⟨k⟩
theorem Wi(k:q)(h:Hk q→p:=by intro qk;refine Z17 ?_;refine R.fin [0,2,3] ?_;exact qk.h):p:=h ⟨k⟩
theorem Nh(k:q)(h:Hk q→p:=by intro qk;refine Z14 ?_;refine Z14 ?_;exact qk.h):p:=h ⟨k⟩
theorem zq(h:p:=by refine R.fin [0,1,2,10,11] ?_;exact K.lpN (i+1) hli (by omega) (StCut.of_eq (by simp only [hst,List.map_append,List.map_cons,List.map_nil]<;>rfl))):p:=h
theorem wt(k:q)(h:Hk q→p:=by intro qk;refine R.go ?_;refine Fs ?_;exact qk.h):p:=h ⟨k⟩
theorem Pe(k:q)(h:Hk q→p:=by intro qk;refine Z38 ?_;refine Z20 ?_;exact qk.h):p:=h ⟨k⟩
theorem wu(k:q)(h:Hk q→p:=by intro qk;refine Z1 ?_;refine iv ?_;exact qk.h):p:=h ⟨k⟩
theorem wv(k:q)(h:Hk q→p:=by intro qk;refine iv ?_;refine Z13 ?_;exact qk.h):p:=h ⟨k⟩
theorem ww(k:q)(h:Hk q→p:=by intro qk;refine Z0 ?_;refine iv ?_;exact qk.h):p:=h ⟨k⟩
theorem S9(k:q)(h:Hk q→p:=by intro qk;refine Cx ?_;refine Z60 ?_;exact qk.h):p:=h ⟨k⟩
theorem rn(h:p:=by refine K.thJ ?_;exact StLe.of_eq (by rw [e]<;>rfl)):p:=h
theorem Pf(k:q)(h:Hk q→p:=by intro qk;refine Z9 ?_;refine Z10 ?_;exact qk.h):p:=h ⟨k⟩
theorem Ni(k:q)(h:Hk q→p:=by intro qk;refine Z7 ?_;refine Z7 ?_;exact qk.h):p:=h ⟨k⟩
theorem Q6(k:q)(h:Hk q→p:=by intro qk;refine Z2 ?_;refine R.nilSl 6 2 ?_;refine Z45 ?_;exact qk.h):p:=h ⟨k⟩
theorem Q7(k:q)(h:Hk q→p:=by intro qk;refine Z2 ?_;refine Z26 ?_;exact qk.h):p:=h ⟨k⟩
theorem Pg(k:q)(h:Hk q→p:=by intro qk;refine Z15 ?_;refine Z2 ?_;exact qk.h):p:=h ⟨k⟩
theorem wx(h:p:=by refine S8 ?_;exact n6):p:=h
theorem wy(k:q)(h:Hk q→p:=by intro qk;refine R.nilTmp 4 2 false ?_;refine R.go ?_;exact qk.h):p:=h ⟨k⟩
theorem wz(k:q)(h:Hk q→p:=by intro qk;refine Lp ?_;refine Z97 ?_;exact qk.h):p:=h ⟨k⟩
theorem Q8(k:q)(h:Hk q→p:=by intro qk;refine R.fin [11,12] ?_;refine Z9 ?_;refine Z91 ?_;exact qk.h):p:=h ⟨k⟩
theorem Nj(k:q)(h:Hk q→p:=by intro qk;refine Z5 ?_;refine Z1 ?_;exact qk.h):p:=h ⟨k⟩
theorem gy(k:q)(h:Hk q→p:=by intro qk;refine Z2 ?_;refine R.fin [0,1,7,8,9] ?_;exact qk.h):p:=h ⟨k⟩
theorem Ux(k:q)(h:Hk q→p:=by intro qk;refine D.tail ?_;refine R.go ?_;exact qk.h):p:=h ⟨k⟩
theorem rp(h:p:=by refine Z13 ?_;exact K.fin (V.one (V.cellN jA jS))):p:=h
theorem x5(h:p:=by refine Z6 ?_;exact K.fin (V.one V.tmp) ⟨by simp_all [cj],rfl⟩):p:=h
theorem zr(h:p:=by refine Z3 ?_;exact iq):p:=h
theorem Zk(k:q)(h:Hk q→p:=by intro qk;refine Z65 ?_;refine Ib ?_;exact qk.h):p:=h ⟨k⟩
theorem mb(h:p:=by refine Z46 ?_;refine Z6 ?_;exact ABg):p:=h
theorem mc(h:p:=by refine W.keep [3,8] ?_;exact ma):p:=h
theorem zt(h:p:=by refine R.fin [] ?_;exact K.finN .nores (hp:=⟨fj m x,k,by unfold P4;rw [hT];rfl,rfl,by exact kx⟩)):p:=h
theorem md(k:q)(h:Hk q→p:=by intro qk;refine Gg ?_;refine Fs ?_;exact qk.h):p:=h ⟨k⟩
theorem Zl(k:q)(h:Hk q→p:=by intro qk;refine Z1 ?_;refine Ib ?_;exact qk.h):p:=h ⟨k⟩
theorem Wj(k:q)(h:Hk q→p:=by intro qk;refine Z18 ?_;refine Z21 ?_;exact qk.h):p:=h ⟨k⟩
theorem zu(h:p:=by refine Q7 ?_;exact K.fin (V.one V.tmp) ⟨by rw [Zz (Hz (by simp at ht9;omega) hx.2)],rfl⟩):p:=h
theorem gz(k:q)(h:Hk q→p:=by intro qk;refine Gg ?_;refine wt ?_;exact qk.h):p:=h ⟨k⟩
theorem Uy(k:q)(h:Hk q→p:=by intro qk;refine Z22 ?_;refine Z17 ?_;refine R.go ?_;exact qk.h):p:=h ⟨k⟩
theorem i6(k:q)(h:Hk q→p:=by intro qk;refine R.fin [6] ?_;refine Z37 ?_;exact qk.h):p:=h ⟨k⟩
theorem Uz(k:q)(h:Hk q→p:=by intro qk;refine G.go ?_;refine Z62 ?_;exact qk.h):p:=h ⟨k⟩
theorem me(k:q)(h:Hk q→p:=by intro qk;refine R.nilTmp 4 6 false ?_;refine R.go ?_;exact qk.h):p:=h ⟨k⟩
theorem mf(k:q)(h:Hk q→p:=by intro qk;refine R.fin [2,3,4,5] ?_;refine AW.ret ?_;exact qk.h):p:=h ⟨k⟩
theorem zv(h:p:=by refine V3 ?_;exact K.lpN (x+1) hlt (by omega) (by simp only [em];exact StCut.of_eq rfl)):p:=h
theorem Zm(k:q)(h:Hk q→p:=by intro qk;refine Cx ?_;refine R.box ?_;exact qk.h):p:=h ⟨k⟩
theorem V0(k:q)(h:Hk q→p:=by intro qk;refine Z7 ?_;refine R.go ?_;exact qk.h):p:=h ⟨k⟩
theorem mg(k:q)(h:Hk q→p:=by intro qk;refine R.fin [2,3,4,5] ?_;refine Z76 ?_;exact qk.h):p:=h ⟨k⟩
theorem zw(h:p:=by refine D.build (places:=#[(0,1),(1,1)]) jU (fun w=>by simp) jZ ?_;exact V4):p:=h
theorem zx(h:p:=by refine K.thR ?_;exact xj):p:=h
theorem Wk(k:q)(h:Hk q→p:=by intro qk;refine Z75 ?_;refine H.go ?_;exact qk.h):p:=h ⟨k⟩
theorem x6(k:q)(h:Hk q→p:=by intro qk;refine Z2 ?_;refine R.call Tryz.call258 (ABo l S o _ (A6 ho) hi) ?_;exact qk.h):p:=h ⟨k⟩
theorem zy(h:p:=by refine Wj ?_;exact xj):p:=h
theorem zz(h:p:=by refine Z33 ?_;exact K.fin (V.two V.tmp V.tmp) ⟨by rw [bg hr hkn];try rfl,rfl⟩):p:=h
theorem x7(k:q)(h:Hk q→p:=by intro qk;refine R.go ?_;refine R.call Tryz.call166 (Ra (ks.getD 0 0) 1 _) ?_;exact qk.h):p:=h ⟨k⟩
theorem x8(k:q)(h:Hk q→p:=by intro qk;refine R.go ?_;refine R.call Tryz.call166 (Ra (ks.getD 0 0) 2 _) ?_;exact qk.h):p:=h ⟨k⟩
theorem x9(k:q)(h:Hk q→p:=by intro qk;refine Z2 ?_;refine R.call Tryz.call88 (c88 L i o _ (A6 ho) hi) ?_;exact qk.h):p:=h ⟨k⟩
theorem AA0(k:q)(h:Hk q→p:=by intro qk;refine R.makeFunc ?_;refine R.go ?_;exact qk.h):p:=h ⟨k⟩
theorem mh(k:q)(h:Hk q→p:=by intro qk;refine Z1 ?_;refine Z26 ?_;exact qk.h):p:=h ⟨k⟩
theorem i7(k:q)(h:Hk q→p:=by intro qk;refine Z23 ?_;refine Z2 ?_;exact qk.h):p:=h ⟨k⟩
theorem i8(k:q)(h:Hk q→p:=by intro qk;refine AW.skip ?_;refine K.blN ?_;exact qk.h):p:=h ⟨k⟩
theorem AA1(h:p:=by refine Z37 ?_;exact K.fin (V.two V.tmp V.tmp) ⟨by rw [oe hr];try rfl,rfl⟩):p:=h
theorem Zn(k:q)(h:Hk q→p:=by intro qk;refine Z5 ?_;refine Cx ?_;exact qk.h):p:=h ⟨k⟩
theorem mi(h:p:=by refine D.go ?_;exact Z47):p:=h
theorem Zo(k:q)(h:Hk q→p:=by intro qk;refine Z46 ?_;refine Z6 ?_;exact qk.h):p:=h ⟨k⟩
theorem Wl(k:q)(h:Hk q→p:=by intro qk;refine Z40 ?_;refine Z21 ?_;exact qk.h):p:=h ⟨k⟩
theorem Wm(k:q)(h:Hk q→p:=by intro qk;refine Z42 ?_;refine Z34 ?_;exact qk.h):p:=h ⟨k⟩
theorem AA2(h:p:=by refine Wj ?_;exact ABg):p:=h
theorem AA3(h:p:=by refine Z37 ?_;exact AB8):p:=h
theorem AA4(h:p:=by refine Z26 ?_;exact K.fin (V.one V.tmp) ⟨by rw [un h3]<;>rfl,rfl⟩):p:=h
theorem AA5(k:q)(h:Hk q→p:=by intro qk;refine Y.buildSlice jU Tryz.sizeOf9 Tryz.zeroValue9 ?_;refine Y.tail (tn:=[2]) (U:=U2 L Hp o om j (mvO m)) ?_;exact qk.h):p:=h ⟨k⟩
theorem xa(k:q)(h:Hk q→p:=by intro qk;refine K4 ?_;refine K4 ?_;exact qk.h):p:=h ⟨k⟩
theorem AA6(h:p:=by refine Z13 ?_;exact K.fin (V.one (V.cellN jA jS)) ⟨by simp [ht5],rfl⟩):p:=h
theorem AA7(k:q)(h:Hk q→p:=by intro qk;refine Z20 ?_;refine R.callUp Tryz.call221 ho (by simp) Bt (jp l S 8 (A9 l S.i).at_ o _ (A6 ho)) ?_;exact qk.h):p:=h ⟨k⟩
theorem mj(h:p:=by refine Z14 ?_;exact Z87):p:=h
theorem AA8(k:q)(h:Hk q→p:=by intro qk;refine iv ?_;refine Gg ?_;exact qk.h):p:=h ⟨k⟩
theorem AA9(h:p:=by refine Z46 ?_;exact Z51):p:=h
theorem ml(k:q)(h:Hk q→p:=by intro qk;refine Pd ?_;refine Ib ?_;exact qk.h):p:=h ⟨k⟩
theorem ia(k:q)(h:Hk q→p:=by intro qk;refine D.go ?_;refine D.tail ?_;exact qk.h):p:=h ⟨k⟩
theorem AAa(h:p:=by refine Z33 ?_;exact K.fin (V.two V.tmp V.tmp) ⟨by rw [hbad],rfl⟩):p:=h
theorem AAb(h:p:=by refine Z6 ?_;exact xh):p:=h
theorem AAc(h:p:=by refine Z27 ?_;exact K.fin (V.one V.tmp) ⟨by rw [hx.eq,hw],rfl⟩):p:=h
theorem mm(h:p:=by refine Z21 ?_;exact Z79):p:=h
theorem mn(h:p:=by refine Z21 ?_;refine Z6 ?_;exact K.fin (V.one V.tmp) ⟨by simp_all [M3],rfl⟩):p:=h
theorem Wn(k:q)(h:Hk q→p:=by intro qk;refine Z1 ?_;refine Z3 ?_;exact qk.h):p:=h ⟨k⟩
theorem AAd(h:p:=by refine Z33 ?_;exact K.fin (V.two V.tmp V.tmp) ⟨by rw [hkb],rfl⟩):p:=h
theorem AAe(h:p:=by refine Zo ?_;exact n6):p:=h
theorem Zp(k:q)(h:Hk q→p:=by intro qk;refine Z14 ?_;refine Z44 ?_;exact qk.h):p:=h ⟨k⟩
theorem mo(k:q)(h:Hk q→p:=by intro qk;refine Z1 ?_;refine R.fin [3,8] ?_;exact qk.h):p:=h ⟨k⟩
theorem mp(k:q)(h:Hk q→p:=by intro qk;refine Z20 ?_;refine R.fin [1,2] ?_;exact qk.h):p:=h ⟨k⟩
theorem rq(k:q)(h:Hk q→p:=by intro qk;refine K4 ?_;refine Z0 ?_;exact qk.h):p:=h ⟨k⟩
theorem AAf(h:p:=by refine Z96 ?_;exact sg):p:=h
theorem AAg(h:p:=by refine Z46 ?_;exact n6):p:=h
theorem mq(h:p:=by refine Z0 ?_;exact rk):p:=h
theorem rr(k:q)(h:Hk q→p:=by intro qk;refine R.fin [2,3,4,5] ?_;refine Z37 ?_;exact qk.h):p:=h ⟨k⟩
theorem AAh(k:q)(h:Hk q→p:=by intro qk;refine W.drawQ [0,1,3,7,15,3,35,99,255,511,1023] 8 Ac (by kernel_rfl) ?_;refine Z14 ?_;exact qk.h):p:=h ⟨k⟩
theorem AAi(h:p:=by refine R.call Tryz.call44 (c44 61 e hok (by decide) _) ?_;exact Zj):p:=h
theorem AAj(k:q)(h:Hk q→p:=by intro qk;refine W.drawQ [0,1,3,7,0,16,48,112,240,511,1023] 9 Ac (by kernel_rfl) ?_;refine Z14 ?_;exact qk.h):p:=h ⟨k⟩
theorem AAk(k:q)(h:Hk q→p:=by intro qk;refine Z5 ?_;refine Z73 ?_;exact qk.h):p:=h ⟨k⟩
theorem AAl(h:p:=by refine Z16 ?_;exact sg):p:=h
theorem rt(h:p:=by refine mh ?_;refine Z33 ?_;exact K.fin (V.one V.tmp) ⟨by rw [pl hlt ht16 hx.2],rfl⟩):p:=h
theorem ib(k:q)(h:Hk q→p:=by intro qk;refine R.go ?_;refine wz ?_;exact qk.h):p:=h ⟨k⟩
theorem AAm(k:q)(h:Hk q→p:=by intro qk;refine Z64 ?_;refine W.drawQ [0,1,3,7,0,16,48,112,255,511,1023] 8 Ac (by kernel_rfl) ?_;exact qk.h):p:=h ⟨k⟩
theorem mr(k:q)(h:Hk q→p:=by intro qk;refine Z1 ?_;refine R.fin [0,1] ?_;exact qk.h):p:=h ⟨k⟩
theorem Zq(k:q)(h:Hk q→p:=by intro qk;refine Z40 ?_;refine Z31 ?_;exact qk.h):p:=h ⟨k⟩
theorem AAn(h:p:=by refine Z33 ?_;exact xg):p:=h
theorem AAo(k:q)(h:Hk q→p:=by intro qk;refine V1 ?_;refine W.drawQ [0,1,3,0,8,24,56,127] 7 Ac (by kernel_rfl) ?_;exact qk.h):p:=h ⟨k⟩
theorem Zr(k:q)(h:Hk q→p:=by intro qk;refine Z42 ?_;refine Z31 ?_;exact qk.h):p:=h ⟨k⟩
theorem AAp(h:p:=by refine i6 ?_;exact na):p:=h
theorem ic(k:q)(h:Hk q→p:=by intro qk;refine rm ?_;refine R.nilCell 1 5 6 ?_;refine Z45 ?_;exact qk.h):p:=h ⟨k⟩
theorem ie(k:q)(h:Hk q→p:=by intro qk;refine R.go ?_;refine G.go ?_;exact qk.h):p:=h ⟨k⟩
theorem ig(k:q)(h:Hk q→p:=by intro qk;refine Z25 ?_;refine K.lpE ?_;exact qk.h):p:=h ⟨k⟩
theorem mt(k:q)(h:Hk q→p:=by intro qk;refine R.fin [] ?_;refine Z37 ?_;exact qk.h):p:=h ⟨k⟩
theorem xb(h:p:=by refine Z30 ?_;exact AA9):p:=h
theorem ii(k:q)(h:Hk q→p:=by intro qk;refine Z24 ?_;refine Z7 ?_;refine Z0 ?_;refine R.fin [1,3,4,5] ?_;refine K.blN ?_;exact qk.h):p:=h ⟨k⟩
theorem xc(h:p:=by refine Z62 ?_;exact mb):p:=h
theorem AAq(h:p:=by refine G.call Tryz.call109 (fun hB=>ABl e.text Ks hs (by decide) _) ?_;exact xc):p:=h
theorem ij(k:q)(h:Hk q→p:=by intro qk;refine AAk ?_;refine Z52 ?_;exact qk.h):p:=h ⟨k⟩
theorem AAr(h:p:=by refine Z88 ?_;exact na):p:=h
theorem ru(h:p:=by refine Z21 ?_;refine K.thR ?_;exact na):p:=h
theorem rx(h:p:=by refine Nf ?_;refine R.fin [0,1,7,8] ?_;exact K.lpN (x+1) ⟨hlt,Ax hlt hx.2 ht16⟩ (by omega) (StCut.of_eq rfl)):p:=h
theorem ik(k:q)(h:Hk q→p:=by intro qk;refine G.go ?_;refine Nd ?_;exact qk.h):p:=h ⟨k⟩
theorem Zs(k:q)(h:Hk q→p:=by intro qk;refine Z1 ?_;refine Z86 ?_;exact qk.h):p:=h ⟨k⟩
theorem ry(h:p:=by refine R.go ?_;exact zr):p:=h
theorem AAs(k:q)(h:Hk q→p:=by intro qk;refine Wo ?_;refine Gg ?_;exact qk.h):p:=h ⟨k⟩
theorem AAt(h:p:=by refine R.call Tryz.call145 (c145 e.text _) ?_;exact xb):p:=h
theorem rz(k:q)(h:Hk q→p:=by intro qk;refine Z1 ?_;refine R.fin [2,3,18] ?_;exact qk.h):p:=h ⟨k⟩
theorem mu(k:q)(h:Hk q→p:=by intro qk;refine Z43 ?_;refine R.fin [0] ?_;exact qk.h):p:=h ⟨k⟩
theorem mv(k:q)(h:Hk q→p:=by intro qk;refine Z2 ?_;refine Lp ?_;exact qk.h):p:=h ⟨k⟩
theorem Zt(k:q)(h:Hk q→p:=by intro qk;refine Z71 ?_;refine Z2 ?_;exact qk.h):p:=h ⟨k⟩
theorem s6(h:p:=by refine Z18 ?_;refine Z36 ?_;exact ABe):p:=h
theorem s7(h:p:=by refine Z1 ?_;refine wy ?_;exact Z72):p:=h
theorem AAu(k:q)(h:Hk q→p:=by intro qk;refine Z2 ?_;refine Zu ?_;exact qk.h):p:=h ⟨k⟩
theorem xd(k:q)(h:Hk q→p:=by intro qk;refine R.go ?_;refine R.call Tryz.call74 (c74 e _) ?_;exact qk.h):p:=h ⟨k⟩
theorem s8(h:p:=by refine Z40 ?_;refine Z21 ?_;exact na):p:=h
theorem s9(h:p:=by refine Z0 ?_;refine Z26 ?_;exact K.fin (V.one V.tmp) ⟨by first|(rw [hgy hf];rfl)|(rw [hgv hf];rfl),rfl⟩):p:=h
theorem sa(h:p:=by refine i7 ?_;refine Z26 ?_;exact K.fin (V.one V.tmp) ⟨by rw [cb (F6 hxe hx.2)],rfl⟩):p:=h
theorem il(k:q)(h:Hk q→p:=by intro qk;refine Z15 ?_;refine Z1 ?_;refine R.fin [0,1,5,7,8] ?_;refine Z20 ?_;exact qk.h):p:=h ⟨k⟩
theorem AAv(h:p:=by refine K.lpE ?_;exact K.finN .nores (hp:=by rw [hxe])):p:=h
theorem mw(k:q)(h:Hk q→p:=by intro qk;refine Z5 ?_;refine Hj ?_;exact qk.h):p:=h ⟨k⟩
theorem sb(k:q)(h:Hk q→p:=by intro qk;refine R.fin [3,9] ?_;refine K.thN ?_;exact qk.h):p:=h ⟨k⟩
theorem sc(k:q)(h:Hk q→p:=by intro qk;refine R.fin [0,3,5] ?_;refine Z34 ?_;exact qk.h):p:=h ⟨k⟩
theorem AAw(k:q)(h:Hk q→p:=by intro qk;refine si ?_;refine K.lpN (z+1) hz2 (by omega) ?_;exact qk.h):p:=h ⟨k⟩
theorem im(k:q)(h:Hk q→p:=by intro qk;refine Z57 ?_;refine Z34 ?_;refine R.fin [0,1,7,8] ?_;exact qk.h):p:=h ⟨k⟩
theorem mx(k:q)(h:Hk q→p:=by intro qk;refine Cx ?_;refine AA0 ?_;exact qk.h):p:=h ⟨k⟩
theorem io(k:q)(h:Hk q→p:=by intro qk;refine G.go ?_;refine Z0 ?_;exact qk.h):p:=h ⟨k⟩
theorem sd(h:p:=by refine Z0 ?_;refine Z26 ?_;exact K.fin (V.one V.tmp) ⟨by rw [←jy];try rfl,rfl⟩):p:=h
theorem ip(h:p:=by exact ⟨rfl,Below.refl _ _⟩):p:=h
theorem Ib(k:q)(h:Hk q→p:=by intro qk;refine R.fin [0,3] ?_;exact qk.h):p:=h ⟨k⟩
theorem V1(k:q)(h:Hk q→p:=by intro qk;refine R.fin [0,3,4] ?_;exact qk.h):p:=h ⟨k⟩
theorem AAx(h:p:=by exact h (y,j) (by rw [List.mem_zipIdx_iff_getElem?];exact hj)):p:=h
theorem AAy(h:p:=by exact K.fin (V.one V.tmp) ⟨by simp [Dy,ht5],rfl⟩):p:=h
theorem AAz(h:p:=by exact K.fin (V.one V.tmp) ⟨by simp [Dy,ht5,ht16,ht22],rfl⟩):p:=h
theorem iq(h:p:=by exact K.fin (V.one V.tmp)):p:=h
theorem ir(k:q)(h:Hk q→p:=by intro qk;refine R.fin [0,1,5,7,8,16] ?_;exact qk.h):p:=h ⟨k⟩
theorem Fs(k:q)(h:Hk q→p:=by intro qk;refine R.fin [2,3] ?_;exact qk.h):p:=h ⟨k⟩
theorem Gg(k:q)(h:Hk q→p:=by intro qk;refine R.storeOwn jS ?_;exact qk.h):p:=h ⟨k⟩
theorem Zu(k:q)(h:Hk q→p:=by intro qk;refine R.build (places:=#[(0,1),(1,1),(2,1)]) jU (fun w=>by simp) jZ ?_;exact qk.h):p:=h ⟨k⟩
theorem AB0(h:p:=by exact K.fin (V.one V.tmp) ⟨by simp only [En,hp,ht7,ht14,ht23,ht27,Bool.not_true,Bool.false_eq_true,if_false,if_true];try rfl,rfl⟩):p:=h
theorem AB1(h:p:=by exact K.fin (V.two (V.cellN jA jS) V.tmp) ⟨by simp only [Wu,ht17,if_true,if_false,Bool.false_eq_true];rfl,rfl⟩):p:=h
theorem Cx(k:q)(h:Hk q→p:=by intro qk;refine AW.seqR ?_;exact qk.h):p:=h ⟨k⟩
theorem Hj(k:q)(h:Hk q→p:=by intro qk;refine AW.block ?_;exact qk.h):p:=h ⟨k⟩
theorem AB2(h:p:=by exact K.fin (V.four V.tmp V.tmp V.tmp V.tmp) ⟨by simp only [Ls,ht11,ht17,if_true,if_false,Bool.false_eq_true];try rfl,rfl⟩):p:=h
theorem AB3(h:p:=by exact K.fin (V.four V.tmp V.tmp V.tmp V.tmp) ⟨by simp only [Qi,ht18,ht23,if_true,if_false,Bool.false_eq_true];try rfl,rfl⟩):p:=h
theorem AB4(h:p:=by exact K.fin (V.four V.tmp V.tmp V.tmp V.tmp) ⟨by simp only [Bc,ht6,ht17,ht28,if_true,if_false,Bool.false_eq_true],rfl⟩):p:=h
theorem my(h:p:=by exact absurd h (by decide)):p:=h
theorem Lp(k:q)(h:Hk q→p:=by intro qk;refine R.alloc jZ ?_;exact qk.h):p:=h ⟨k⟩
theorem xe(k:q)(h:Hk q→p:=by intro qk;refine K.rdN (ly hL (Cd (by decide)) (Cd (by decide))) ?_;exact qk.h):p:=h ⟨k⟩
theorem K4(k:q)(h:Hk q→p:=by intro qk;refine R.buildSlice jU jS jZ ?_;exact qk.h):p:=h ⟨k⟩
theorem Wo(k:q)(h:Hk q→p:=by intro qk;refine R.build (places:=#[(0,1),(1,1)]) jU (fun w=>by simp) jZ ?_;exact qk.h):p:=h ⟨k⟩
theorem mz(h:p:=by exact ⟨hFRl,by simp [oid]⟩):p:=h
theorem n5(h:p:=by exact Ig (fun x hx=>ObjLow.le (by omega) (hlow x hx)) hOl x hx):p:=h
theorem xf(k:q)(h:Hk q→p:=by intro qk;refine K.rdR (ly hL (Cd (by decide)) (Cd (by decide))) ?_;exact qk.h):p:=h ⟨k⟩
theorem se(k:q)(h:Hk q→p:=by intro qk;refine K.rdN (lx hL (Cd (by decide))) ?_;exact qk.h):p:=h ⟨k⟩
theorem iu(k:q)(h:Hk q→p:=by intro qk;refine K.lpN (x+1) hlt (by omega) ?_;exact qk.h):p:=h ⟨k⟩
theorem V2(k:q)(h:Hk q→p:=by intro qk;refine R.fin [0,1,2] ?_;exact qk.h):p:=h ⟨k⟩
theorem Ic(k:q)(h:Hk q→p:=by intro qk;refine R.assignT ?_;exact qk.h):p:=h ⟨k⟩
theorem Zv(k:q)(h:Hk q→p:=by intro qk;refine R.fin [0,1,2,6] ?_;exact qk.h):p:=h ⟨k⟩
theorem iv(k:q)(h:Hk q→p:=by intro qk;refine R.build (places:=#[(0,1),(1,1),(2,3),(5,1)]) jU (fun w=>by simp) jZ ?_;exact qk.h):p:=h ⟨k⟩
theorem V3(k:q)(h:Hk q→p:=by intro qk;refine R.fin [1,3,4] ?_;exact qk.h):p:=h ⟨k⟩
theorem V4(h:p:=by exact D.end rfl rfl):p:=h
theorem xg(h:p:=by exact K.fin (V.one V.tmp) ⟨by rw [hf],rfl⟩):p:=h
theorem iw(k:q)(h:Hk q→p:=by intro qk;refine R.fin [2,6,13,14,15] ?_;exact qk.h):p:=h ⟨k⟩
theorem sg(h:p:=by exact K.fin (V.two V.tmp V.tmp) ⟨by rw [hk],rfl⟩):p:=h
theorem xh(h:p:=by exact K.fin (V.two V.tmp V.tmp) ⟨by rw [hk,hk2],rfl⟩):p:=h
theorem sh(h:p:=by exact K.fin (V.two V.tmp V.tmp) ⟨by rw [hm]<;>rfl,rfl⟩):p:=h
theorem AB5(h:p:=by exact K.fin (V.one V.tmp) ⟨by rw [hn];first|(simp only [ht22,ht25,ht33,ht41,ht41,ht50,ht58,hk3,hk6,Bool.true_or,Bool.false_or,Bool.or_true,Bool.or_false,if_true,if_false,Bool.false_eq_true,↓reduceIte]<;>rfl)|(simp only [ht22,ht25,ht33,ht41,ht41,ht50,ht58,hk3,Bool.true_or,Bool.false_or,Bool.or_true,if_true,if_false,Bool.false_eq_true,↓reduceIte]<;>rfl)|(simp only [ht22,ht25,ht33,ht41,ht41,ht50,ht58,if_true,if_false,Bool.false_eq_true,↓reduceIte]<;>rfl),rfl⟩):p:=h
theorem n6(h:p:=by exact K.fin (V.one V.tmp) ⟨by rw [hm]<;>rfl,rfl⟩):p:=h
theorem AB6(h:p:=by exact K.fin (V.two V.tmp V.tmp) ⟨by rw [hm],rfl⟩ (hlow:=by simp only [J4,List.mem_cons,List.mem_nil_iff,or_false];rintro y (rfl|rfl);exact Fj;simp)):p:=h
theorem xi(h:p:=by exact absurd h (by simpa using h1)):p:=h
theorem AB7(h:p:=by exact K.fin (V.two (V.cellN jA jS) V.tmp) ⟨by rw [hm];show _=AV.tup [A4 Aa,Ao false];rw [A7];rfl,rfl⟩ (hlow:=by simp [or_imp,forall_and])):p:=h
theorem AB8(h:p:=by exact K.fin (V.two V.tmp V.tmp) ⟨by rw [hsh]<;>rfl,rfl⟩):p:=h
theorem AB9(h:p:=by exact K.fin (V.two V.tmp V.tmp) ⟨by rw [hm,hm2]<;>rfl,rfl⟩):p:=h
theorem si(k:q)(h:Hk q→p:=by intro qk;refine R.fin [6,8,9,10,11,13,54,55,56] ?_;exact qk.h):p:=h ⟨k⟩
theorem n7(k:q)(h:Hk q→p:=by intro qk;refine R.fin [0,6,7,9,11,15,16] ?_;exact qk.h):p:=h ⟨k⟩
theorem sj(k:q)(h:Hk q→p:=by intro qk;refine R.fin [0,6,7,9,11,15,16,17,18] ?_;exact qk.h):p:=h ⟨k⟩
theorem ABa(h:p:=by exact ⟨Nat.lt_succ_self i,hl.step hi (by rw [hk];decide)⟩):p:=h
theorem Zw(h:p:=by exact ⟨by omega,c2,c3⟩):p:=h
theorem n8(h:p:=by exact (Bo hX (e)).elim):p:=h
theorem ABb(h:p:=by exact (Bo hX (by first|exact by unfold P4;rw [hT];rfl|exact hT)).elim):p:=h
theorem ABc(h:p:=by exact (ACh L i o _ (A6 (Cu ho hne)) hi hl hll).ok hT):p:=h
theorem n9(k:q)(h:Hk q→p:=by intro qk;refine AW.upEq (N7 ho hm).symm ?_;exact qk.h):p:=h ⟨k⟩
theorem ABd(h:p:=by exact ⟨⟨fun e h=>(List.not_mem_nil h).elim,fun e h=>(List.not_mem_nil h).elim⟩,Nat.zero_le _⟩):p:=h
theorem ABe(h:p:=by exact K.fin (V.one (V.cellN jA jS)) ⟨by first|exact yh (by simp_all [Ch])|exact pi (by simp_all [Ch])|exact yi (by simp_all [Ch]),rfl⟩):p:=h
theorem ABf(h:p:=by exact K.fin (V.one (V.cellN jA jS)) ⟨by first|exact pi (by simp_all [E2]),rfl⟩):p:=h
theorem xj(h:p:=by exact K.fin (V.one V.tmp) ⟨by simp_all [Eo,It,jr],rfl⟩):p:=h
theorem ABg(h:p:=by exact K.fin (V.one V.tmp) ⟨by simp_all [Bw,It],rfl⟩):p:=h
theorem na(h:p:=by exact K.fin (V.one V.tmp) ⟨by rw [hm],rfl⟩):p:=h
theorem xk(h:p:=by exact K.fin (V.two (V.cellN jA jS) V.tmp) ⟨by rw [hm];show _=AV.tup [A4 Aa,A2 _];rw [A7];rfl,rfl⟩ (hlow:=by simp [or_imp,forall_and])):p:=h
end Go.SX.Nb
namespace Go.SX.Nb
open Go Go.SX Go.Proofs
@[reducible,instance] def JA2:=JA.mk (P:=Tryz.prog) Tryz.isAgg2
@[reducible,instance] def JA3:=JA.mk (P:=Tryz.prog) Tryz.isAgg3
@[reducible,instance] def JA4:=JA.mk (P:=Tryz.prog) Tryz.isAgg4
@[reducible,instance] def JA9:=JA.mk (P:=Tryz.prog) Tryz.isAgg9
@[reducible,instance] def AFd:=JA.mk (P:=Tryz.prog) Tryz.isAgg22
@[reducible,instance] def AFe:=JA.mk (P:=Tryz.prog) Tryz.isAgg23
@[reducible,instance] def AFf:=JA.mk (P:=Tryz.prog) Tryz.isAgg27
@[reducible,instance] def AFg:=JA.mk (P:=Tryz.prog) Tryz.isAgg34
@[reducible,instance] def AFh:=JA.mk (P:=Tryz.prog) Tryz.isAgg37
@[reducible,instance] def AFi:=JA.mk (P:=Tryz.prog) Tryz.isAgg42
@[reducible,instance] def AFj:=JA.mk (P:=Tryz.prog) Tryz.isAgg43
@[reducible,instance] def AFk:=JA.mk (P:=Tryz.prog) Tryz.isAgg45
@[reducible,instance] def AFl:=JA.mk (P:=Tryz.prog) Tryz.isAgg58
@[reducible,instance] def AFm:=JA.mk (P:=Tryz.prog) Tryz.isAgg60
@[reducible,instance] def AFn:=JA.mk (P:=Tryz.prog) Tryz.isAgg64
@[reducible,instance] def AFo:=JA.mk (P:=Tryz.prog) Tryz.isAgg91
@[reducible,instance] def AFp:=JA.mk (P:=Tryz.prog) Tryz.isAgg94
@[reducible,instance] def AEt:=JA.mk (P:=Tryz.prog) Tryz.isAgg125
@[reducible,instance] def AEu:=JA.mk (P:=Tryz.prog) Tryz.isAgg146
@[reducible,instance] def AEv:=JA.mk (P:=Tryz.prog) Tryz.isAgg148
@[reducible,instance] def AEw:=JA.mk (P:=Tryz.prog) Tryz.isAgg155
@[reducible,instance] def AEx:=JA.mk (P:=Tryz.prog) Tryz.isAgg220
@[reducible,instance] def JS2:=JS.mk (P:=Tryz.prog) Tryz.sizeOf2
@[reducible,instance] def JS3:=JS.mk (P:=Tryz.prog) Tryz.sizeOf3
@[reducible,instance] def JS4:=JS.mk (P:=Tryz.prog) Tryz.sizeOf4
@[reducible,instance] def JS5:=JS.mk (P:=Tryz.prog) Tryz.sizeOf5
@[reducible,instance] def JS9:=JS.mk (P:=Tryz.prog) Tryz.sizeOf9
@[reducible,instance] def AFq:=JS.mk (P:=Tryz.prog) Tryz.sizeOf22
@[reducible,instance] def AFr:=JS.mk (P:=Tryz.prog) Tryz.sizeOf23
@[reducible,instance] def AFs:=JS.mk (P:=Tryz.prog) Tryz.sizeOf27
@[reducible,instance] def AFt:=JS.mk (P:=Tryz.prog) Tryz.sizeOf34
@[reducible,instance] def AFu:=JS.mk (P:=Tryz.prog) Tryz.sizeOf37
@[reducible,instance] def AFv:=JS.mk (P:=Tryz.prog) Tryz.sizeOf42
@[reducible,instance] def AFw:=JS.mk (P:=Tryz.prog) Tryz.sizeOf43
@[reducible,instance] def AFx:=JS.mk (P:=Tryz.prog) Tryz.sizeOf45
@[reducible,instance] def AFy:=JS.mk (P:=Tryz.prog) Tryz.sizeOf58
@[reducible,instance] def AFz:=JS.mk (P:=Tryz.prog) Tryz.sizeOf60
@[reducible,instance] def AG0:=JS.mk (P:=Tryz.prog) Tryz.sizeOf64
@[reducible,instance] def AG1:=JS.mk (P:=Tryz.prog) Tryz.sizeOf91
@[reducible,instance] def AEy:=JS.mk (P:=Tryz.prog) Tryz.sizeOf107
@[reducible,instance] def AEz:=JS.mk (P:=Tryz.prog) Tryz.sizeOf125
@[reducible,instance] def AF0:=JS.mk (P:=Tryz.prog) Tryz.sizeOf146
@[reducible,instance] def AF1:=JS.mk (P:=Tryz.prog) Tryz.sizeOf148
@[reducible,instance] def JU3:=JU.mk (P:=Tryz.prog) Tryz.underlying3
@[reducible,instance] def JU4:=JU.mk (P:=Tryz.prog) Tryz.underlying4
@[reducible,instance] def JU5:=JU.mk (P:=Tryz.prog) Tryz.underlying5
@[reducible,instance] def JU9:=JU.mk (P:=Tryz.prog) Tryz.underlying9
@[reducible,instance] def AG2:=JU.mk (P:=Tryz.prog) Tryz.underlying20
@[reducible,instance] def AG3:=JU.mk (P:=Tryz.prog) Tryz.underlying22
@[reducible,instance] def AG4:=JU.mk (P:=Tryz.prog) Tryz.underlying23
@[reducible,instance] def AG5:=JU.mk (P:=Tryz.prog) Tryz.underlying34
@[reducible,instance] def AG6:=JU.mk (P:=Tryz.prog) Tryz.underlying37
@[reducible,instance] def AG7:=JU.mk (P:=Tryz.prog) Tryz.underlying42
@[reducible,instance] def AG8:=JU.mk (P:=Tryz.prog) Tryz.underlying43
@[reducible,instance] def AG9:=JU.mk (P:=Tryz.prog) Tryz.underlying45
@[reducible,instance] def AGa:=JU.mk (P:=Tryz.prog) Tryz.underlying58
@[reducible,instance] def AGb:=JU.mk (P:=Tryz.prog) Tryz.underlying60
@[reducible,instance] def AGc:=JU.mk (P:=Tryz.prog) Tryz.underlying64
@[reducible,instance] def AGd:=JU.mk (P:=Tryz.prog) Tryz.underlying91
@[reducible,instance] def AGe:=JU.mk (P:=Tryz.prog) Tryz.underlying96
@[reducible,instance] def AF2:=JU.mk (P:=Tryz.prog) Tryz.underlying105
@[reducible,instance] def AF3:=JU.mk (P:=Tryz.prog) Tryz.underlying109
@[reducible,instance] def AF4:=JU.mk (P:=Tryz.prog) Tryz.underlying125
@[reducible,instance] def AF5:=JU.mk (P:=Tryz.prog) Tryz.underlying146
@[reducible,instance] def AF6:=JU.mk (P:=Tryz.prog) Tryz.underlying148
@[reducible,instance] def AF7:=JU.mk (P:=Tryz.prog) Tryz.underlying184
@[reducible,instance] def AF8:=JU.mk (P:=Tryz.prog) Tryz.underlying222
@[reducible,instance] def JZ3:=JZ.mk (P:=Tryz.prog) Tryz.zeroValue3
@[reducible,instance] def JZ4:=JZ.mk (P:=Tryz.prog) Tryz.zeroValue4
@[reducible,instance] def JZ5:=JZ.mk (P:=Tryz.prog) Tryz.zeroValue5
@[reducible,instance] def JZ9:=JZ.mk (P:=Tryz.prog) Tryz.zeroValue9
@[reducible,instance] def AGf:=JZ.mk (P:=Tryz.prog) Tryz.zeroValue22
@[reducible,instance] def AGg:=JZ.mk (P:=Tryz.prog) Tryz.zeroValue23
@[reducible,instance] def AGh:=JZ.mk (P:=Tryz.prog) Tryz.zeroValue27
@[reducible,instance] def AGi:=JZ.mk (P:=Tryz.prog) Tryz.zeroValue34
@[reducible,instance] def AGj:=JZ.mk (P:=Tryz.prog) Tryz.zeroValue37
@[reducible,instance] def AGk:=JZ.mk (P:=Tryz.prog) Tryz.zeroValue42
@[reducible,instance] def AGl:=JZ.mk (P:=Tryz.prog) Tryz.zeroValue43
@[reducible,instance] def AGm:=JZ.mk (P:=Tryz.prog) Tryz.zeroValue45
@[reducible,instance] def AGn:=JZ.mk (P:=Tryz.prog) Tryz.zeroValue58
@[reducible,instance] def AGo:=JZ.mk (P:=Tryz.prog) Tryz.zeroValue60
@[reducible,instance] def AGp:=JZ.mk (P:=Tryz.prog) Tryz.zeroValue64
@[reducible,instance] def AGq:=JZ.mk (P:=Tryz.prog) Tryz.zeroValue91
@[reducible,instance] def AGr:=JZ.mk (P:=Tryz.prog) Tryz.zeroValue96
@[reducible,instance] def AF9:=JZ.mk (P:=Tryz.prog) Tryz.zeroValue109
@[reducible,instance] def AFa:=JZ.mk (P:=Tryz.prog) Tryz.zeroValue125
@[reducible,instance] def AFb:=JZ.mk (P:=Tryz.prog) Tryz.zeroValue148
@[reducible,instance] def AFc:=JZ.mk (P:=Tryz.prog) Tryz.zeroValue222
end Go.SX.Nb
