/- Texts on the way to this: MigPrints answers true for whatever it is handed: any migration that is right has the text that the chapter says, and is parsed from it as it was, unless brackets nest too deep; any other one has none (up to 12 moves, trees of up to 500 nodes). (part 4) -/
import Derived.Test.YtlafnblklafbkaaGreatDoorProg
import Derived.Test.YtlafnblklafbkaaGreatDoorMigPrintsCardSaidPart3
set_option linter.all false
namespace Go.SX.Nb
open Go Go.SX Go.Proofs
structure Hk (q:Prop):Prop where h:q
variable {p q:Prop}
theorem Z0(k:q)(h:Hk q→p:=by intro qk;refine E4 ?_;refine R.go ?_;exact qk.h):p:=h ⟨k⟩
theorem Z1(k:q)(h:Hk q→p:=by intro qk;refine R.go ?_;refine R.go ?_;exact qk.h):p:=h ⟨k⟩
theorem Z2(k:q)(h:Hk q→p:=by intro qk;refine R.fin [2] ?_;refine AW.ret ?_;exact qk.h):p:=h ⟨k⟩
theorem Z3(k:q)(h:Hk q→p:=by intro qk;refine Z0 ?_;refine R.go ?_;exact qk.h):p:=h ⟨k⟩
theorem Z4(k:q)(h:Hk q→p:=by intro qk;refine G.go ?_;refine G.go ?_;exact qk.h):p:=h ⟨k⟩
theorem Z5(k:q)(h:Hk q→p:=by intro qk;refine AW.skip ?_;refine K.thN ?_;exact qk.h):p:=h ⟨k⟩
theorem Z6(k:q)(h:Hk q→p:=by intro qk;refine Z1 ?_;refine R.go ?_;exact qk.h):p:=h ⟨k⟩
theorem Z7(k:q)(h:Hk q→p:=by intro qk;refine K.blR ?_;refine K.thR ?_;exact qk.h):p:=h ⟨k⟩
theorem Z8(k:q)(h:Hk q→p:=by intro qk;refine W.seq ?_;refine Z0 ?_;exact qk.h):p:=h ⟨k⟩
theorem Z9(k:q)(h:Hk q→p:=by intro qk;refine D.go ?_;refine D.go ?_;exact qk.h):p:=h ⟨k⟩
theorem Z10(k:q)(h:Hk q→p:=by intro qk;refine K.blN ?_;refine K.thN ?_;exact qk.h):p:=h ⟨k⟩
theorem Z12(k:q)(h:Hk q→p:=by intro qk;refine Z0 ?_;refine Z2 ?_;exact qk.h):p:=h ⟨k⟩
theorem Z13(k:q)(h:Hk q→p:=by intro qk;refine Y.bot (fun B hT=>Q5 (hT 0 (by simp))) ?_;refine Y.bot (fun B hT=>Q5 (hT 0 (by simp))) ?_;exact qk.h):p:=h ⟨k⟩
theorem Z14(k:q)(h:Hk q→p:=by intro qk;refine Z10 ?_;refine AW.region ?_;exact qk.h):p:=h ⟨k⟩
theorem Z15(k:q)(h:Hk q→p:=by intro qk;refine R.alloc jZ ?_;refine Hv ?_;exact qk.h):p:=h ⟨k⟩
theorem Z16(k:q)(h:Hk q→p:=by intro qk;refine W.seq ?_;refine AW.block ?_;exact qk.h):p:=h ⟨k⟩
theorem Z17(k:q)(h:Hk q→p:=by intro qk;refine R.fin [4] ?_;refine AW.ret ?_;exact qk.h):p:=h ⟨k⟩
theorem Z18(h:p:=by refine Z7 ?_;exact ABd):p:=h
theorem Z19(k:q)(h:Hk q→p:=by intro qk;refine Z0 ?_;refine Z1 ?_;exact qk.h):p:=h ⟨k⟩
theorem Z20(h:p:=by refine K.thR ?_;exact jk):p:=h
theorem Z21(k:q)(h:Hk q→p:=by intro qk;refine Jv ?_;refine AW.ret ?_;exact qk.h):p:=h ⟨k⟩
theorem Z22(k:q)(h:Hk q→p:=by intro qk;refine Z8 ?_;refine Z1 ?_;exact qk.h):p:=h ⟨k⟩
theorem Z23(k:q)(h:Hk q→p:=by intro qk;refine K.lpE ?_;refine K.thN ?_;exact qk.h):p:=h ⟨k⟩
theorem Z24(k:q)(h:Hk q→p:=by intro qk;refine Z7 ?_;refine K.lpR ?_;exact qk.h):p:=h ⟨k⟩
theorem Z25(k:q)(h:Hk q→p:=by intro qk;refine AW.exit ?_;refine K.thE ?_;exact qk.h):p:=h ⟨k⟩
theorem Z26(k:q)(h:Hk q→p:=by intro qk;refine Hv ?_;refine Z2 ?_;exact qk.h):p:=h ⟨k⟩
theorem Z27(k:q)(h:Hk q→p:=by intro qk;refine E4 ?_;refine R.alloc jZ ?_;exact qk.h):p:=h ⟨k⟩
theorem Z29(k:q)(h:Hk q→p:=by intro qk;refine Z1 ?_;refine Z4 ?_;exact qk.h):p:=h ⟨k⟩
theorem Z30(k:q)(h:Hk q→p:=by intro qk;refine AW.region ?_;refine Z1 ?_;exact qk.h):p:=h ⟨k⟩
theorem Z31(k:q)(h:Hk q→p:=by intro qk;refine W.seq ?_;refine Z3 ?_;exact qk.h):p:=h ⟨k⟩
theorem Z32(k:q)(h:Hk q→p:=by intro qk;refine Z24 ?_;refine K.thR ?_;exact qk.h):p:=h ⟨k⟩
theorem Z33(h:p:=by refine D.buildSlice jU jS jZ ?_;exact Mh):p:=h
theorem Z34(k:q)(h:Hk q→p:=by intro qk;refine Z0 ?_;refine Z6 ?_;exact qk.h):p:=h ⟨k⟩
theorem Z35(k:q)(h:Hk q→p:=by intro qk;refine Z14 ?_;refine Z6 ?_;exact qk.h):p:=h ⟨k⟩
theorem Z36(k:q)(h:Hk q→p:=by intro qk;refine Z1 ?_;refine Z2 ?_;exact qk.h):p:=h ⟨k⟩
theorem Z37(k:q)(h:Hk q→p:=by intro qk;refine Z9 ?_;refine D.go ?_;exact qk.h):p:=h ⟨k⟩
theorem Z38(h:p:=by refine K.thJ ?_;exact StLe.of_eq (by unfold I8;first|(simp only [ht38,ht41,ht49,ht57,ht57,ht66,ht74,hk3,hk6,Bool.true_or,Bool.false_or,Bool.or_true,Bool.or_false,if_true,if_false,Bool.false_eq_true,↓reduceIte]<;>rfl)|(simp only [ht38,ht41,ht49,ht57,ht57,ht66,ht74,hk3,Bool.true_or,Bool.false_or,Bool.or_true,if_true,if_false,Bool.false_eq_true,↓reduceIte]<;>rfl)|(simp only [ht38,ht41,ht49,ht57,ht57,ht66,ht74,if_true,if_false,Bool.false_eq_true,↓reduceIte]<;>rfl))):p:=h
theorem Z39(k:q)(h:Hk q→p:=by intro qk;refine AW.skip ?_;refine Z10 ?_;exact qk.h):p:=h ⟨k⟩
theorem Z40(h:p:=by refine Z7 ?_;exact tg):p:=h
theorem Z41(h:p:=by refine Z7 ?_;exact K.fin (V.one V.tmp) ⟨by rw [hn];first|(simp only [ht22,ht25,ht33,ht41,ht41,hk3,hk6,Bool.true_or,Bool.false_or,Bool.or_true,Bool.or_false,if_true,if_false,Bool.false_eq_true,↓reduceIte]<;>rfl)|(simp only [ht22,ht25,ht33,ht41,ht41,hk3,Bool.true_or,Bool.false_or,Bool.or_true,if_true,if_false,Bool.false_eq_true,↓reduceIte]<;>rfl)|(simp only [ht22,ht25,ht33,ht41,ht41,if_true,if_false,Bool.false_eq_true,↓reduceIte]<;>rfl),rfl⟩):p:=h
theorem Z42(h:p:=by refine K.thJ ?_;exact StLe.of_eq (by unfold I8;first|(simp only [ht38,ht41,ht49,ht57,ht57,hk3,hk6,Bool.true_or,Bool.false_or,Bool.or_true,Bool.or_false,if_true,if_false,Bool.false_eq_true,↓reduceIte]<;>rfl)|(simp only [ht38,ht41,ht49,ht57,ht57,hk3,Bool.true_or,Bool.false_or,Bool.or_true,if_true,if_false,Bool.false_eq_true,↓reduceIte]<;>rfl)|(simp only [ht38,ht41,ht49,ht57,ht57,if_true,if_false,Bool.false_eq_true,↓reduceIte]<;>rfl))):p:=h
theorem Z43(h:p:=by refine Z7 ?_;exact ABe):p:=h
theorem Z44(k:q)(h:Hk q→p:=by intro qk;refine Z5 ?_;refine Z16 ?_;exact qk.h):p:=h ⟨k⟩
theorem Z45(h:p:=by refine Z12 ?_;refine Z7 ?_;exact K.fin (V.one V.tmp) ⟨by simp_all [O0],rfl⟩):p:=h
theorem Z46(k:q)(h:Hk q→p:=by intro qk;refine Z0 ?_;refine R.fin [0] ?_;exact qk.h):p:=h ⟨k⟩
theorem Z47(k:q)(h:Hk q→p:=by intro qk;refine Z25 ?_;refine Z23 ?_;exact qk.h):p:=h ⟨k⟩
theorem Z48(k:q)(h:Hk q→p:=by intro qk;refine AW.region ?_;refine Z6 ?_;exact qk.h):p:=h ⟨k⟩
theorem Z49(h:p:=by refine K.thJ ?_;exact StLe.of_eq (by simp [*])):p:=h
theorem Z50(k:q)(h:Hk q→p:=by intro qk;refine R.fin [2,3,4,5] ?_;refine AW.ret ?_;exact qk.h):p:=h ⟨k⟩
theorem Z51(k:q)(h:Hk q→p:=by intro qk;refine Z0 ?_;refine R.callUp Tryz.call245 ho (by simp) C7 (oz l S o _ (A4 ho) hi hll) ?_;exact qk.h):p:=h ⟨k⟩
theorem Z52(k:q)(h:Hk q→p:=by intro qk;refine Z27 ?_;refine R.fin [0,2] ?_;exact qk.h):p:=h ⟨k⟩
theorem Z53(k:q)(h:Hk q→p:=by intro qk;refine Z4 ?_;refine Z4 ?_;exact qk.h):p:=h ⟨k⟩
theorem Z54(k:q)(h:Hk q→p:=by intro qk;refine Z3 ?_;refine R.fin [1] ?_;exact qk.h):p:=h ⟨k⟩
theorem Z55(k:q)(h:Hk q→p:=by intro qk;refine Z8 ?_;refine Z6 ?_;exact qk.h):p:=h ⟨k⟩
theorem Z56(h:p:=by refine Z9 ?_;exact Mh):p:=h
theorem Z57(h:p:=by refine Z32 ?_;exact xz):p:=h
theorem Z58(k:q)(h:Hk q→p:=by intro qk;refine AW.skip ?_;refine Z35 ?_;exact qk.h):p:=h ⟨k⟩
theorem Z59(k:q)(h:Hk q→p:=by intro qk;refine Z0 ?_;refine R.fin [0,1] ?_;exact qk.h):p:=h ⟨k⟩
theorem Z60(h:p:=by refine D.go ?_;exact Mh):p:=h
theorem Z61(k:q)(h:Hk q→p:=by intro qk;refine Z0 ?_;refine Z17 ?_;exact qk.h):p:=h ⟨k⟩
theorem Z63(k:q)(h:Hk q→p:=by intro qk;refine G.go ?_;refine Z29 ?_;exact qk.h):p:=h ⟨k⟩
theorem Z64(k:q)(h:Hk q→p:=by intro qk;refine E4 ?_;refine az ?_;exact qk.h):p:=h ⟨k⟩
theorem Z65(h:p:=by refine K.thR ?_;exact K.fin (V.one (V.cellN jA jS)) ⟨by rw [e,Ac],by rw [e]⟩ (hlow:=low_agg _)):p:=h
theorem Z66(k:q)(h:Hk q→p:=by intro qk;refine AW.region ?_;refine R.go ?_;exact qk.h):p:=h ⟨k⟩
theorem Z67(k:q)(h:Hk q→p:=by intro qk;refine R.fin [6] ?_;refine AW.ret ?_;exact qk.h):p:=h ⟨k⟩
theorem Z68(k:q)(h:Hk q→p:=by intro qk;refine G.go ?_;refine R.go ?_;exact qk.h):p:=h ⟨k⟩
theorem Z69(k:q)(h:Hk q→p:=by intro qk;refine AW.block ?_;refine Z3 ?_;exact qk.h):p:=h ⟨k⟩
theorem Z70(k:q)(h:Hk q→p:=by intro qk;refine R.go ?_;refine Z2 ?_;exact qk.h):p:=h ⟨k⟩
theorem Z73(k:q)(h:Hk q→p:=by intro qk;refine Z22 ?_;refine Z1 ?_;exact qk.h):p:=h ⟨k⟩
theorem Z74(k:q)(h:Hk q→p:=by intro qk;refine R.go ?_;refine R.fin [0,4,5] ?_;exact qk.h):p:=h ⟨k⟩
theorem Z76(k:q)(h:Hk q→p:=by intro qk;refine W.seq ?_;refine E4 ?_;exact qk.h):p:=h ⟨k⟩
theorem Z77(k:q)(h:Hk q→p:=by intro qk;refine H.go ?_;refine H.go ?_;exact qk.h):p:=h ⟨k⟩
theorem Z78(k:q)(h:Hk q→p:=by intro qk;refine Z3 ?_;refine R.fin [13] ?_;exact qk.h):p:=h ⟨k⟩
theorem Z79(k:q)(h:Hk q→p:=by intro qk;refine Z1 ?_;refine Z1 ?_;exact qk.h):p:=h ⟨k⟩
theorem Z80(h:p:=by refine R.fin [0,1,7,8] ?_;exact K.lpN (x+1) ⟨hlt,Az hlt hx.2 ht16⟩ (by omega) (StCut.of_eq rfl)):p:=h
theorem Z81(k:q)(h:Hk q→p:=by intro qk;refine Z4 ?_;refine Z36 ?_;exact qk.h):p:=h ⟨k⟩
theorem Z82(k:q)(h:Hk q→p:=by intro qk;refine Z21 ?_;refine K.thR ?_;exact qk.h):p:=h ⟨k⟩
theorem Z83(h:p:=by refine Z7 ?_;exact K.fin (V.one V.tmp) ⟨by simp [Bk,hp, *],rfl⟩):p:=h
theorem Z84(k:q)(h:Hk q→p:=by intro qk;refine D.go ?_;refine D.tail ?_;exact qk.h):p:=h ⟨k⟩
theorem Z85(k:q)(h:Hk q→p:=by intro qk;refine Z12 ?_;refine K.thR ?_;exact qk.h):p:=h ⟨k⟩
theorem Z86(k:q)(h:Hk q→p:=by intro qk;refine Z15 ?_;refine R.fin [0,2,3] ?_;exact qk.h):p:=h ⟨k⟩
theorem Z87(h:p:=by refine Z39 ?_;refine Z12 ?_;exact K.fin (V.one V.tmp) ⟨by simp_all [O0],rfl⟩):p:=h
theorem Z88(k:q)(h:Hk q→p:=by intro qk;refine Z14 ?_;refine Z1 ?_;exact qk.h):p:=h ⟨k⟩
theorem Z89(k:q)(h:Hk q→p:=by intro qk;refine R.fin [] ?_;refine K.blN ?_;exact qk.h):p:=h ⟨k⟩
theorem Z90(h:p:=by refine AW.skip ?_;exact Z49):p:=h
theorem Z91(k:q)(h:Hk q→p:=by intro qk;refine Jc ?_;refine R.assignT ?_;exact qk.h):p:=h ⟨k⟩
theorem Z92(h:p:=by refine Z85 ?_;exact xz):p:=h
theorem Z93(h:p:=by refine Z61 ?_;exact K.fin (V.one V.tmp) ⟨by rw [db (F9 hxe hx.2)],rfl⟩):p:=h
theorem Z94(k:q)(h:Hk q→p:=by intro qk;refine Z1 ?_;refine G.go ?_;exact qk.h):p:=h ⟨k⟩
theorem Z96(k:q)(h:Hk q→p:=by intro qk;refine E4 ?_;refine nk ?_;exact qk.h):p:=h ⟨k⟩
theorem Z97(h:p:=by refine Z17 ?_;exact ay):p:=h
theorem Z98(k:q)(h:Hk q→p:=by intro qk;refine Hv ?_;refine R.go ?_;exact qk.h):p:=h ⟨k⟩
theorem Z99(h:p:=by refine K.thP ?_;exact K.finPP ⟨_,_,e,rfl,.refl ho⟩):p:=h
theorem Lu(k:q)(h:Hk q→p:=by intro qk;refine Z1 ?_;refine Z6 ?_;exact qk.h):p:=h ⟨k⟩
theorem xf(h:p:=by refine Z32 ?_;exact K.fin (V.one V.tmp) ⟨by rw [qw hlt ht16 hx.2],rfl⟩):p:=h
theorem T5(k:q)(h:Hk q→p:=by intro qk;refine AW.skip ?_;refine Z88 ?_;exact qk.h):p:=h ⟨k⟩
theorem xg(k:q)(h:Hk q→p:=by intro qk;refine nk ?_;refine Z26 ?_;exact qk.h):p:=h ⟨k⟩
theorem xh(h:p:=by refine Z17 ?_;exact K.fin (V.one V.tmp) ⟨by rw [←lb];try rfl,rfl⟩):p:=h
theorem xi(h:p:=by refine Z32 ?_;exact y6):p:=h
theorem Mf(k:q)(h:Hk q→p:=by intro qk;refine Z5 ?_;refine Z0 ?_;exact qk.h):p:=h ⟨k⟩
theorem Mg(k:q)(h:Hk q→p:=by intro qk;refine Z5 ?_;refine Z8 ?_;exact qk.h):p:=h ⟨k⟩
theorem zq(h:p:=by refine R.fin [1,10,11] ?_;exact K.lpN (x+1) hlt (by omega) (StCut.of_eq (by simp only [hst,List.append_assoc,List.append_nil]<;>rfl))):p:=h
theorem Vo(h:p:=by refine Z70 ?_;exact Z18):p:=h
theorem zr(k:q)(h:Hk q→p:=by intro qk;refine R.go ?_;refine Hv ?_;exact qk.h):p:=h ⟨k⟩
theorem mx(h:p:=by refine Z36 ?_;exact ay):p:=h
theorem Xf(h:p:=by refine Z24 ?_;exact Z20):p:=h
theorem sr(h:p:=by refine Z26 ?_;exact K.fin (V.one (V.cellN jA jS))):p:=h
theorem Pi(k:q)(h:Hk q→p:=by intro qk;refine Z9 ?_;refine Z9 ?_;exact qk.h):p:=h ⟨k⟩
theorem xj(h:p:=by refine Z7 ?_;exact K.fin (V.one V.tmp) ⟨by simp_all [M6],rfl⟩):p:=h
theorem Qo(k:q)(h:Hk q→p:=by intro qk;refine Z4 ?_;refine R.go ?_;exact qk.h):p:=h ⟨k⟩
theorem zt(h:p:=by refine Z36 ?_;exact K.fin (V.one V.tmp) ⟨by rw [show Ah k=kindNames.getD k.toNat [] from if_neg (by omega)],rfl⟩):p:=h
theorem T6(k:q)(h:Hk q→p:=by intro qk;refine Z44 ?_;refine Z19 ?_;exact qk.h):p:=h ⟨k⟩
theorem zu(h:p:=by refine R.fin [] ?_;exact K.finPN .nores (hp:=⟨P9 m x,k,by unfold Kl;rw [hT];rfl,rfl,by exact lp⟩)):p:=h
theorem Xg(k:q)(h:Hk q→p:=by intro qk;refine K.thP ?_;refine K.blP ?_;exact qk.h):p:=h ⟨k⟩
theorem j6(k:q)(h:Hk q→p:=by intro qk;refine Z4 ?_;refine Z1 ?_;exact qk.h):p:=h ⟨k⟩
theorem my(h:p:=by refine W.keep [3,8] ?_;exact Z90):p:=h
theorem j7(h:p:=by refine R.fin [] ?_;refine K.blN ?_;exact K.finN .nores ⟨rfl,by rw [pe]<;>simp [O1]⟩):p:=h
theorem Xh(k:q)(h:Hk q→p:=by intro qk;refine Z39 ?_;refine Z12 ?_;exact qk.h):p:=h ⟨k⟩
theorem j8(k:q)(h:Hk q→p:=by intro qk;refine AW.region ?_;refine R.moveT ?_;exact qk.h):p:=h ⟨k⟩
theorem zv(h:p:=by refine Z61 ?_;exact K.fin (V.one V.tmp) ⟨by rw [ABj (by simpa using ht10) (jn hxe hx.2)],rfl⟩):p:=h
theorem zw(h:p:=by refine Pj ?_;exact K.lpN (x+1) hlt (by omega) (by simp only [em];exact StCut.of_eq rfl)):p:=h
theorem am(k:q)(h:Hk q→p:=by intro qk;refine Z61 ?_;refine K.thR ?_;exact qk.h):p:=h ⟨k⟩
theorem su(h:p:=by refine Z70 ?_;exact ay):p:=h
theorem an(k:q)(h:Hk q→p:=by intro qk;refine Z3 ?_;refine Z82 ?_;exact qk.h):p:=h ⟨k⟩
theorem j9(h:p:=by refine D.go ?_;exact Z33):p:=h
theorem zx(h:p:=by refine Z26 ?_;exact K.fin (V.one (V.cellN jA jS)) ⟨by simp only [rc,hm]<;>simp_all,rfl⟩):p:=h
theorem zy(h:p:=by refine Z32 ?_;exact K.fin (V.one V.tmp) ⟨by rw [ACu hlt hlb (by simpa using ht24)],rfl⟩):p:=h
theorem Vp(k:q)(h:Hk q→p:=by intro qk;refine Z44 ?_;refine Z3 ?_;exact qk.h):p:=h ⟨k⟩
theorem zz(h:p:=by refine D.build (places:=#[(0,1),(1,1)]) jU (fun w=>by simp) jZ ?_;exact Mh):p:=h
theorem Vq(k:q)(h:Hk q→p:=by intro qk;refine Z0 ?_;refine Z67 ?_;exact qk.h):p:=h ⟨k⟩
theorem AA0(h:p:=by refine Qp ?_;exact K.lpN (x+1) hlt (by omega) (StCut.of_eq (by rw [hs];rfl))):p:=h
theorem Xi(k:q)(h:Hk q→p:=by intro qk;refine R.go ?_;refine Z15 ?_;exact qk.h):p:=h ⟨k⟩
theorem xk(k:q)(h:Hk q→p:=by intro qk;refine Z0 ?_;refine R.call Tryz.call257 (ABo l S o _ (A4 ho) hi) ?_;exact qk.h):p:=h ⟨k⟩
theorem AA1(h:p:=by refine Xh ?_;exact tg):p:=h
theorem ja(k:q)(h:Hk q→p:=by intro qk;refine R.alloc jZ ?_;refine zr ?_;exact qk.h):p:=h ⟨k⟩
theorem jb(h:p:=by refine Z81 ?_;exact Z43):p:=h
theorem mz(k:q)(h:Hk q→p:=by intro qk;refine Z35 ?_;refine R.fin [0,4,5] ?_;exact qk.h):p:=h ⟨k⟩
theorem xl(k:q)(h:Hk q→p:=by intro qk;refine Z0 ?_;refine R.call Tryz.call48 (c48 L i o _ (A4 ho) hi) ?_;exact qk.h):p:=h ⟨k⟩
theorem AA2(h:p:=by refine am ?_;exact K.fin (V.one V.tmp) ⟨by rw [ABh (by simpa using ht10)],rfl⟩):p:=h
theorem AA3(h:p:=by refine Z85 ?_;exact xy):p:=h
theorem Vr(k:q)(h:Hk q→p:=by intro qk;refine Z5 ?_;refine Z19 ?_;exact qk.h):p:=h ⟨k⟩
theorem Vs(k:q)(h:Hk q→p:=by intro qk;refine Z29 ?_;refine Z4 ?_;exact qk.h):p:=h ⟨k⟩
theorem Xj(k:q)(h:Hk q→p:=by intro qk;refine Z19 ?_;refine Z81 ?_;exact qk.h):p:=h ⟨k⟩
theorem Xk(k:q)(h:Hk q→p:=by intro qk;refine Z3 ?_;refine Z2 ?_;exact qk.h):p:=h ⟨k⟩
theorem aq(k:q)(h:Hk q→p:=by intro qk;refine Z5 ?_;refine E4 ?_;exact qk.h):p:=h ⟨k⟩
theorem jc(k:q)(h:Hk q→p:=by intro qk;refine AW.ret ?_;refine K.thR ?_;exact qk.h):p:=h ⟨k⟩
theorem ar(k:q)(h:Hk q→p:=by intro qk;refine Z14 ?_;refine R.go ?_;exact qk.h):p:=h ⟨k⟩
theorem AA4(h:p:=by refine Xh ?_;exact ABe):p:=h
theorem AA5(h:p:=by refine an ?_;exact AB8):p:=h
theorem AA6(h:p:=by refine an ?_;exact y6):p:=h
theorem jd(k:q)(h:Hk q→p:=by intro qk;refine K.blR ?_;refine K.lpR ?_;exact qk.h):p:=h ⟨k⟩
theorem AA7(k:q)(h:Hk q→p:=by intro qk;refine Y.buildSlice jU Tryz.sizeOf9 Tryz.zeroValue9 ?_;refine Y.tail (tn:=[2]) (U:=U2 L Hp o om j (mvO m)) ?_;exact qk.h):p:=h ⟨k⟩
theorem n5(k:q)(h:Hk q→p:=by intro qk;refine Hv ?_;refine Z67 ?_;exact qk.h):p:=h ⟨k⟩
theorem xm(k:q)(h:Hk q→p:=by intro qk;refine Jc ?_;refine Jc ?_;exact qk.h):p:=h ⟨k⟩
theorem n6(k:q)(h:Hk q→p:=by intro qk;refine Z58 ?_;refine Hu ?_;exact qk.h):p:=h ⟨k⟩
theorem AA8(h:p:=by refine Z26 ?_;exact K.fin (V.one (V.cellN jA jS)) ⟨by simp [ht5],rfl⟩):p:=h
theorem AA9(k:q)(h:Hk q→p:=by intro qk;refine Z19 ?_;refine R.callUp Tryz.call217 ho (by simp) C7 (km l S 8 (A7 l S.i).at_ o _ (A4 ho)) ?_;exact qk.h):p:=h ⟨k⟩
theorem AAa(k:q)(h:Hk q→p:=by intro qk;refine nk ?_;refine Hv ?_;exact qk.h):p:=h ⟨k⟩
theorem AAb(h:p:=by refine K.thR ?_;exact K.fin (V.one V.tmp) ⟨by rw [hx.eq,hw],rfl⟩):p:=h
theorem AAc(h:p:=by refine Z21 ?_;exact y6):p:=h
theorem AAd(k:q)(h:Hk q→p:=by intro qk;refine R.fin [0,1,5,12,13] ?_;refine W.draw [0,0,3,7,0,0,48,112,255] 8 Ab (by kernel_rfl) ?_;exact qk.h):p:=h ⟨k⟩
theorem AAe(h:p:=by refine Xk ?_;exact K.fin (V.one V.tmp) ⟨by rw [hm,hD]<;>rfl,rfl⟩):p:=h
theorem AAf(k:q)(h:Hk q→p:=by intro qk;refine Z44 ?_;refine W.draw [0,1,0,7,15,0,32,0,224,480,1023,2047] 10 Ab (by kernel_rfl) ?_;exact qk.h):p:=h ⟨k⟩
theorem Xl(k:q)(h:Hk q→p:=by intro qk;refine Z5 ?_;refine Z22 ?_;exact qk.h):p:=h ⟨k⟩
theorem n7(h:p:=by refine Z12 ?_;exact Z20):p:=h
theorem n8(h:p:=by refine Z12 ?_;refine Z7 ?_;exact K.fin (V.one V.tmp) ⟨by simp_all [M5],rfl⟩):p:=h
theorem n9(h:p:=by refine R.fin [10] ?_;refine Z10 ?_;refine Z34 ?_;refine Z21 ?_;exact ABc):p:=h
theorem na(h:p:=by refine Z9 ?_;exact Z56):p:=h
theorem nb(k:q)(h:Hk q→p:=by intro qk;refine Z3 ?_;refine R.fin [3,8] ?_;exact qk.h):p:=h ⟨k⟩
theorem au(k:q)(h:Hk q→p:=by intro qk;refine G.go ?_;refine Z94 ?_;exact qk.h):p:=h ⟨k⟩
theorem xn(k:q)(h:Hk q→p:=by intro qk;refine Z3 ?_;refine R.call Tryz.call112 (ABs e.text _) ?_;exact qk.h):p:=h ⟨k⟩
theorem AAg(h:p:=by refine Z7 ?_;exact jk):p:=h
theorem AAh(h:p:=by refine K.thR ?_;exact K.fin (V.one V.tmp) ⟨by rw [hp];rfl,rfl⟩):p:=h
theorem av(k:q)(h:Hk q→p:=by intro qk;refine Z98 ?_;refine Z21 ?_;exact qk.h):p:=h ⟨k⟩
theorem sw(h:p:=by refine K.blN ?_;refine K.thJ ?_;exact StLe.of_eq (by rw [e]<;>rfl)):p:=h
theorem AAi(h:p:=by refine Z36 ?_;exact jk):p:=h
theorem AAj(k:q)(h:Hk q→p:=by intro qk;refine W.drawQ [0,1,3,7,15,3,35,99,255,511,1023] 8 Ab (by kernel_rfl) ?_;refine Z9 ?_;exact qk.h):p:=h ⟨k⟩
theorem nd(k:q)(h:Hk q→p:=by intro qk;refine Jv ?_;refine Z0 ?_;exact qk.h):p:=h ⟨k⟩
theorem AAk(k:q)(h:Hk q→p:=by intro qk;refine W.drawQ [0,1,3,7,0,16,48,112,240,511,1023] 9 Ab (by kernel_rfl) ?_;refine Z9 ?_;exact qk.h):p:=h ⟨k⟩
theorem je(k:q)(h:Hk q→p:=by intro qk;refine Z48 ?_;refine j6 ?_;refine R.fin [1,3,4,5] ?_;refine K.blN ?_;exact qk.h):p:=h ⟨k⟩
theorem AAl(k:q)(h:Hk q→p:=by intro qk;refine Z30 ?_;refine R.call Tryz.call43 (c43 (gvs m (m.ahead.map A8)) (by omega) (by omega) _) ?_;exact qk.h):p:=h ⟨k⟩
theorem AAm(k:q)(h:Hk q→p:=by intro qk;refine Z52 ?_;refine W.drawQ [0,1,3,7,0,16,48,112,255,511,1023] 8 Ab (by kernel_rfl) ?_;exact qk.h):p:=h ⟨k⟩
theorem aw(k:q)(h:Hk q→p:=by intro qk;refine Z9 ?_;refine Z37 ?_;exact qk.h):p:=h ⟨k⟩
theorem AAn(h:p:=by refine Z32 ?_;exact xq):p:=h
theorem AAo(k:q)(h:Hk q→p:=by intro qk;refine Qp ?_;refine W.drawQ [0,1,3,0,8,24,56,127] 7 Ab (by kernel_rfl) ?_;exact qk.h):p:=h ⟨k⟩
theorem AAp(k:q)(h:Hk q→p:=by intro qk;refine Z3 ?_;refine nk ?_;exact qk.h):p:=h ⟨k⟩
theorem ax(k:q)(h:Hk q→p:=by intro qk;refine Z16 ?_;refine Z0 ?_;exact qk.h):p:=h ⟨k⟩
theorem sx(k:q)(h:Hk q→p:=by intro qk;refine R.go ?_;refine Qp ?_;exact qk.h):p:=h ⟨k⟩
theorem sy(h:p:=by refine Z13 ?_;refine Z13 ?_;exact tj):p:=h
theorem t6(k:q)(h:Hk q→p:=by intro qk;refine Pj ?_;refine Z35 ?_;exact qk.h):p:=h ⟨k⟩
theorem xp(k:q)(h:Hk q→p:=by intro qk;refine R.go ?_;refine R.call Tryz.call106 (AD9 e _) ?_;exact qk.h):p:=h ⟨k⟩
theorem AAq(k:q)(h:Hk q→p:=by intro qk;refine jh ?_;refine Hv ?_;exact qk.h):p:=h ⟨k⟩
theorem AAr(k:q)(h:Hk q→p:=by intro qk;refine G.call Tryz.call144 (fun hB=>ABl e.text L2 hs (by decide) _) ?_;refine Z29 ?_;exact qk.h):p:=h ⟨k⟩
theorem AAs(k:q)(h:Hk q→p:=by intro qk;refine R.go ?_;refine R.call Tryz.call41 (hev (e.kids.getD 0 Ad) (El (by omega)).2.1 _) ?_;exact qk.h):p:=h ⟨k⟩
theorem nf(k:q)(h:Hk q→p:=by intro qk;refine Z34 ?_;refine R.fin [0] ?_;exact qk.h):p:=h ⟨k⟩
theorem jf(k:q)(h:Hk q→p:=by intro qk;refine Z77 ?_;refine H.go ?_;exact qk.h):p:=h ⟨k⟩
theorem t7(h:p:=by refine Z13 ?_;refine Y.bot (fun B hT=>Q5 (hT 0 (by simp))) ?_;exact tj):p:=h
theorem AAt(k:q)(h:Hk q→p:=by intro qk;refine Z0 ?_;refine az ?_;exact qk.h):p:=h ⟨k⟩
theorem ng(k:q)(h:Hk q→p:=by intro qk;refine Z16 ?_;refine E4 ?_;exact qk.h):p:=h ⟨k⟩
theorem nh(k:q)(h:Hk q→p:=by intro qk;refine Z5 ?_;refine AW.block ?_;exact qk.h):p:=h ⟨k⟩
theorem t8(k:q)(h:Hk q→p:=by intro qk;refine R.fin [3,9] ?_;refine K.thN ?_;exact qk.h):p:=h ⟨k⟩
theorem jg(k:q)(h:Hk q→p:=by intro qk;refine Z53 ?_;refine Z63 ?_;exact qk.h):p:=h ⟨k⟩
theorem tc(h:p:=by refine Z47 ?_;refine Z12 ?_;exact xz):p:=h
theorem Xm(h:p:=by exact ⟨rfl,Below.refl _ _⟩):p:=h
theorem ay(h:p:=by exact K.fin (V.one V.tmp)):p:=h
theorem E4(k:q)(h:Hk q→p:=by intro qk;refine AW.seqR ?_;exact qk.h):p:=h ⟨k⟩
theorem Hu(k:q)(h:Hk q→p:=by intro qk;refine R.fin [0,3] ?_;exact qk.h):p:=h ⟨k⟩
theorem Qp(k:q)(h:Hk q→p:=by intro qk;refine R.fin [0,3,4] ?_;exact qk.h):p:=h ⟨k⟩
theorem AAu(h:p:=by exact K.fin (V.one V.tmp) ⟨by simp [Bd,ht5],rfl⟩):p:=h
theorem AAv(h:p:=by exact K.fin (V.one V.tmp) ⟨by simp [Bd,ht5,ht16,ht22],rfl⟩):p:=h
theorem Hv(k:q)(h:Hk q→p:=by intro qk;refine R.storeOwn jS ?_;exact qk.h):p:=h ⟨k⟩
theorem Jv(k:q)(h:Hk q→p:=by intro qk;refine R.fin [2,3] ?_;exact qk.h):p:=h ⟨k⟩
theorem az(k:q)(h:Hk q→p:=by intro qk;refine R.build (places:=#[(0,1),(1,1),(2,1)]) jU (fun w=>by simp) jZ ?_;exact qk.h):p:=h ⟨k⟩
theorem AAw(h:p:=by exact K.fin (V.one V.tmp) ⟨by simp only [Bk,hp,ht7,ht14,ht23,ht27,Bool.not_true,Bool.false_eq_true,if_false,if_true];try rfl,rfl⟩):p:=h
theorem AAx(h:p:=by exact K.fin (V.two (V.cellN jA jS) V.tmp) ⟨by simp only [Tu,ht17,if_true,if_false,Bool.false_eq_true];rfl,rfl⟩):p:=h
theorem AAy(h:p:=by exact K.fin (V.four V.tmp V.tmp V.tmp V.tmp) ⟨by simp only [Je,ht11,ht17,if_true,if_false,Bool.false_eq_true];try rfl,rfl⟩):p:=h
theorem AAz(h:p:=by exact K.fin (V.four V.tmp V.tmp V.tmp V.tmp) ⟨by simp only [Ke,ht18,ht23,if_true,if_false,Bool.false_eq_true];try rfl,rfl⟩):p:=h
theorem AB0(h:p:=by exact K.fin (V.four V.tmp V.tmp V.tmp V.tmp) ⟨by simp only [Aw,ht6,ht17,ht28,if_true,if_false,Bool.false_eq_true],rfl⟩):p:=h
theorem ni(h:p:=by exact absurd h (by decide)):p:=h
theorem Jc(k:q)(h:Hk q→p:=by intro qk;refine R.buildSlice jU jS jZ ?_;exact qk.h):p:=h ⟨k⟩
theorem jh(k:q)(h:Hk q→p:=by intro qk;refine R.build (places:=#[(0,1),(1,1)]) jU (fun w=>by simp) jZ ?_;exact qk.h):p:=h ⟨k⟩
theorem ji(k:q)(h:Hk q→p:=by intro qk;refine R.fin [1,2,15,16,17] ?_;exact qk.h):p:=h ⟨k⟩
theorem td(h:p:=by exact ⟨hFRl,by simp [oid]⟩):p:=h
theorem nj(h:p:=by exact Pp (fun x hx=>ObjLow.le (by omega) (hlow x hx)) hOl x hx):p:=h
theorem b6(k:q)(h:Hk q→p:=by intro qk;refine R.fin [0,1,2,6] ?_;exact qk.h):p:=h ⟨k⟩
theorem nk(k:q)(h:Hk q→p:=by intro qk;refine R.build (places:=#[(0,1),(1,1),(2,3),(5,1)]) jU (fun w=>by simp) jZ ?_;exact qk.h):p:=h ⟨k⟩
theorem Pj(k:q)(h:Hk q→p:=by intro qk;refine R.fin [1,3,4] ?_;exact qk.h):p:=h ⟨k⟩
theorem tg(h:p:=by exact K.fin (V.one V.tmp) ⟨by simp_all [Dx,Fy,ko],rfl⟩):p:=h
theorem AB1(h:p:=by exact ha.2 own S _ hl hla h0 hna hs' (Gt ht (by omega))):p:=h
theorem np(h:p:=by exact ⟨by decide,by decide⟩):p:=h
theorem AB2(h:p:=by exact K.fin (V.one V.tmp) ⟨by rw [decide_eq_false hne],rfl⟩):p:=h
theorem jj(k:q)(h:Hk q→p:=by intro qk;refine R.fin [0,1,5,6,7] ?_;exact qk.h):p:=h ⟨k⟩
theorem xq(h:p:=by exact K.fin (V.one V.tmp) ⟨by rw [hf],rfl⟩):p:=h
theorem AB3(h:p:=by exact ⟨Nat.lt_succ_self i,hl.step hi (by rw [hk];decide)⟩):p:=h
theorem b7(h:p:=by exact ⟨by omega,c2,c3⟩):p:=h
theorem Vt(h:p:=by exact Jm (by kernel_rfl) h61):p:=h
theorem AB4(h:p:=by exact ⟨(L7 _ _ _).trans hS,fun h=>absurd h (Hm (by decide) _)⟩):p:=h
theorem AB5(h:p:=by exact bad _ _ ((L7 _ _ _).trans hS) (Hm (by decide) _)):p:=h
theorem th(h:p:=by exact fun h=>absurd h (Hm (by decide) _)):p:=h
theorem xr(h:p:=by exact ⟨by kernel_rfl,by decide +kernel,by decide +kernel⟩):p:=h
theorem xt(h:p:=by exact absurd hc (Hm (by decide) _)):p:=h
theorem b8(h:p:=by exact ⟨(fun h=>by cases h),(fun h=>by cases h)⟩):p:=h
theorem AB6(h:p:=by exact ⟨h1.1,h1.2,h.ahead p.2 (List.of_mem_zip hp).2⟩):p:=h
theorem AB7(h:p:=by exact K.fin (V.one V.tmp) ⟨by rw [hn];first|(simp only [ht22,ht25,ht33,ht41,ht41,ht50,ht58,hk3,hk6,Bool.true_or,Bool.false_or,Bool.or_true,Bool.or_false,if_true,if_false,Bool.false_eq_true,↓reduceIte]<;>rfl)|(simp only [ht22,ht25,ht33,ht41,ht41,ht50,ht58,hk3,Bool.true_or,Bool.false_or,Bool.or_true,if_true,if_false,Bool.false_eq_true,↓reduceIte]<;>rfl)|(simp only [ht22,ht25,ht33,ht41,ht41,ht50,ht58,if_true,if_false,Bool.false_eq_true,↓reduceIte]<;>rfl),rfl⟩):p:=h
theorem jk(h:p:=by exact K.fin (V.one V.tmp) ⟨by rw [hm]<;>rfl,rfl⟩):p:=h
theorem AB8(h:p:=by exact K.fin (V.two V.tmp V.tmp) ⟨by rw [hsh]<;>rfl,rfl⟩):p:=h
theorem Mh(h:p:=by exact D.end rfl rfl):p:=h
theorem tj(h:p:=by exact Y.endBot (Q5 rfl)):p:=h
theorem xu(k:q)(h:Hk q→p:=by intro qk;refine RK.callBad Tryz.call49 (c49 L i o 8 _ (A4 ho) hi) ?_;exact qk.h):p:=h ⟨k⟩
theorem AB9(h:p:=by exact K.finPP ⟨_,_,by unfold Kl;rw [hT];rfl,rfl,j',m,dj hne hm⟩):p:=h
theorem ABa(h:p:=by exact (rh L i o _ (A4 (Ba ho hne)) hi hl hll).ok hT):p:=h
theorem nq(k:q)(h:Hk q→p:=by intro qk;refine AW.upEq (Na ho hm).symm ?_;exact qk.h):p:=h ⟨k⟩
theorem ABb(k:q)(h:Hk q→p:=by intro qk;refine RK.callBad Tryz.call123 ((dk L m i o om (U2 L Hp o om i (mvO m)++[.cells 51 [.ptr o 0],.cells 102 [.ptr om 0]]) hne (A4 (Ba ho hne)) (A4 (Cl hm)) hi hl hll hb).bad h1) ?_;exact qk.h):p:=h ⟨k⟩
theorem ABc(h:p:=by exact K.fin (V.two V.tmp V.tmp) ⟨by rw [e]<;>rfl,rfl⟩):p:=h
theorem xv(k:q)(h:Hk q→p:=by intro qk;refine R.indexArrPtr (0) jU Tryz.sizeOf126 (by decide) ?_;exact qk.h):p:=h ⟨k⟩
theorem xw(k:q)(h:Hk q→p:=by intro qk;refine R.indexArrPtr (1) jU Tryz.sizeOf126 (by decide) ?_;exact qk.h):p:=h ⟨k⟩
theorem xy(h:p:=by exact K.fin (V.one V.tmp) ⟨by first|rw [hz]|simp_all [M6],rfl⟩):p:=h
theorem ABd(h:p:=by exact K.fin (V.one V.tmp) ⟨by first|(rw [pe,hxe];simp;done)|(rw [pe]<;>simp [O1]),rfl⟩):p:=h
theorem ABe(h:p:=by exact K.fin (V.one V.tmp) ⟨by simp_all [At,Fy],rfl⟩):p:=h
theorem xz(h:p:=by exact K.fin (V.one V.tmp) ⟨by rw [hm],rfl⟩):p:=h
theorem y6(h:p:=by exact K.fin (V.two V.tmp V.tmp) ⟨by rw [hm]<;>rfl,rfl⟩):p:=h
end Go.SX.Nb
namespace Go.SX.Nb
open Go Go.SX Go.Proofs
@[reducible,instance] def JA2:=JA.mk (P:=Tryz.prog) Tryz.isAgg2
@[reducible,instance] def JA3:=JA.mk (P:=Tryz.prog) Tryz.isAgg3
@[reducible,instance] def JA4:=JA.mk (P:=Tryz.prog) Tryz.isAgg4
@[reducible,instance] def JA9:=JA.mk (P:=Tryz.prog) Tryz.isAgg9
@[reducible,instance] def AF1:=JA.mk (P:=Tryz.prog) Tryz.isAgg23
@[reducible,instance] def AF2:=JA.mk (P:=Tryz.prog) Tryz.isAgg24
@[reducible,instance] def AF3:=JA.mk (P:=Tryz.prog) Tryz.isAgg26
@[reducible,instance] def AF4:=JA.mk (P:=Tryz.prog) Tryz.isAgg29
@[reducible,instance] def AF5:=JA.mk (P:=Tryz.prog) Tryz.isAgg40
@[reducible,instance] def AF6:=JA.mk (P:=Tryz.prog) Tryz.isAgg45
@[reducible,instance] def AF7:=JA.mk (P:=Tryz.prog) Tryz.isAgg47
@[reducible,instance] def AF8:=JA.mk (P:=Tryz.prog) Tryz.isAgg48
@[reducible,instance] def AF9:=JA.mk (P:=Tryz.prog) Tryz.isAgg51
@[reducible,instance] def AFa:=JA.mk (P:=Tryz.prog) Tryz.isAgg59
@[reducible,instance] def AFb:=JA.mk (P:=Tryz.prog) Tryz.isAgg64
@[reducible,instance] def AFc:=JA.mk (P:=Tryz.prog) Tryz.isAgg67
@[reducible,instance] def AFd:=JA.mk (P:=Tryz.prog) Tryz.isAgg69
@[reducible,instance] def AEl:=JA.mk (P:=Tryz.prog) Tryz.isAgg102
@[reducible,instance] def AEm:=JA.mk (P:=Tryz.prog) Tryz.isAgg126
@[reducible,instance] def AEn:=JA.mk (P:=Tryz.prog) Tryz.isAgg129
@[reducible,instance] def AEo:=JA.mk (P:=Tryz.prog) Tryz.isAgg221
@[reducible,instance] def JS2:=JS.mk (P:=Tryz.prog) Tryz.sizeOf2
@[reducible,instance] def JS3:=JS.mk (P:=Tryz.prog) Tryz.sizeOf3
@[reducible,instance] def JS4:=JS.mk (P:=Tryz.prog) Tryz.sizeOf4
@[reducible,instance] def JS5:=JS.mk (P:=Tryz.prog) Tryz.sizeOf5
@[reducible,instance] def JS9:=JS.mk (P:=Tryz.prog) Tryz.sizeOf9
@[reducible,instance] def AFe:=JS.mk (P:=Tryz.prog) Tryz.sizeOf23
@[reducible,instance] def AFf:=JS.mk (P:=Tryz.prog) Tryz.sizeOf24
@[reducible,instance] def AFg:=JS.mk (P:=Tryz.prog) Tryz.sizeOf26
@[reducible,instance] def AFh:=JS.mk (P:=Tryz.prog) Tryz.sizeOf29
@[reducible,instance] def AFi:=JS.mk (P:=Tryz.prog) Tryz.sizeOf40
@[reducible,instance] def AFj:=JS.mk (P:=Tryz.prog) Tryz.sizeOf45
@[reducible,instance] def AFk:=JS.mk (P:=Tryz.prog) Tryz.sizeOf47
@[reducible,instance] def AFl:=JS.mk (P:=Tryz.prog) Tryz.sizeOf48
@[reducible,instance] def AFm:=JS.mk (P:=Tryz.prog) Tryz.sizeOf59
@[reducible,instance] def AFn:=JS.mk (P:=Tryz.prog) Tryz.sizeOf64
@[reducible,instance] def AFo:=JS.mk (P:=Tryz.prog) Tryz.sizeOf67
@[reducible,instance] def AFp:=JS.mk (P:=Tryz.prog) Tryz.sizeOf69
@[reducible,instance] def AFq:=JS.mk (P:=Tryz.prog) Tryz.sizeOf74
@[reducible,instance] def AEp:=JS.mk (P:=Tryz.prog) Tryz.sizeOf126
@[reducible,instance] def AEq:=JS.mk (P:=Tryz.prog) Tryz.sizeOf127
@[reducible,instance] def AEr:=JS.mk (P:=Tryz.prog) Tryz.sizeOf129
@[reducible,instance] def JU2:=JU.mk (P:=Tryz.prog) Tryz.underlying2
@[reducible,instance] def JU3:=JU.mk (P:=Tryz.prog) Tryz.underlying3
@[reducible,instance] def JU4:=JU.mk (P:=Tryz.prog) Tryz.underlying4
@[reducible,instance] def JU5:=JU.mk (P:=Tryz.prog) Tryz.underlying5
@[reducible,instance] def JU9:=JU.mk (P:=Tryz.prog) Tryz.underlying9
@[reducible,instance] def AFr:=JU.mk (P:=Tryz.prog) Tryz.underlying20
@[reducible,instance] def AFs:=JU.mk (P:=Tryz.prog) Tryz.underlying23
@[reducible,instance] def AFt:=JU.mk (P:=Tryz.prog) Tryz.underlying26
@[reducible,instance] def AFu:=JU.mk (P:=Tryz.prog) Tryz.underlying29
@[reducible,instance] def AFv:=JU.mk (P:=Tryz.prog) Tryz.underlying40
@[reducible,instance] def AFw:=JU.mk (P:=Tryz.prog) Tryz.underlying45
@[reducible,instance] def AFx:=JU.mk (P:=Tryz.prog) Tryz.underlying47
@[reducible,instance] def AFy:=JU.mk (P:=Tryz.prog) Tryz.underlying48
@[reducible,instance] def AFz:=JU.mk (P:=Tryz.prog) Tryz.underlying53
@[reducible,instance] def AG0:=JU.mk (P:=Tryz.prog) Tryz.underlying59
@[reducible,instance] def AG1:=JU.mk (P:=Tryz.prog) Tryz.underlying64
@[reducible,instance] def AG2:=JU.mk (P:=Tryz.prog) Tryz.underlying67
@[reducible,instance] def AG3:=JU.mk (P:=Tryz.prog) Tryz.underlying69
@[reducible,instance] def AG4:=JU.mk (P:=Tryz.prog) Tryz.underlying72
@[reducible,instance] def AEs:=JU.mk (P:=Tryz.prog) Tryz.underlying126
@[reducible,instance] def AEt:=JU.mk (P:=Tryz.prog) Tryz.underlying127
@[reducible,instance] def AEu:=JU.mk (P:=Tryz.prog) Tryz.underlying129
@[reducible,instance] def AEv:=JU.mk (P:=Tryz.prog) Tryz.underlying160
@[reducible,instance] def AEw:=JU.mk (P:=Tryz.prog) Tryz.underlying166
@[reducible,instance] def AEx:=JU.mk (P:=Tryz.prog) Tryz.underlying223
@[reducible,instance] def JZ3:=JZ.mk (P:=Tryz.prog) Tryz.zeroValue3
@[reducible,instance] def JZ4:=JZ.mk (P:=Tryz.prog) Tryz.zeroValue4
@[reducible,instance] def JZ5:=JZ.mk (P:=Tryz.prog) Tryz.zeroValue5
@[reducible,instance] def JZ9:=JZ.mk (P:=Tryz.prog) Tryz.zeroValue9
@[reducible,instance] def AG5:=JZ.mk (P:=Tryz.prog) Tryz.zeroValue23
@[reducible,instance] def AG6:=JZ.mk (P:=Tryz.prog) Tryz.zeroValue26
@[reducible,instance] def AG7:=JZ.mk (P:=Tryz.prog) Tryz.zeroValue29
@[reducible,instance] def AG8:=JZ.mk (P:=Tryz.prog) Tryz.zeroValue47
@[reducible,instance] def AG9:=JZ.mk (P:=Tryz.prog) Tryz.zeroValue48
@[reducible,instance] def AGa:=JZ.mk (P:=Tryz.prog) Tryz.zeroValue53
@[reducible,instance] def AGb:=JZ.mk (P:=Tryz.prog) Tryz.zeroValue59
@[reducible,instance] def AGc:=JZ.mk (P:=Tryz.prog) Tryz.zeroValue64
@[reducible,instance] def AGd:=JZ.mk (P:=Tryz.prog) Tryz.zeroValue67
@[reducible,instance] def AGe:=JZ.mk (P:=Tryz.prog) Tryz.zeroValue69
@[reducible,instance] def AGf:=JZ.mk (P:=Tryz.prog) Tryz.zeroValue74
@[reducible,instance] def AEy:=JZ.mk (P:=Tryz.prog) Tryz.zeroValue129
@[reducible,instance] def AEz:=JZ.mk (P:=Tryz.prog) Tryz.zeroValue160
@[reducible,instance] def AF0:=JZ.mk (P:=Tryz.prog) Tryz.zeroValue223
end Go.SX.Nb
