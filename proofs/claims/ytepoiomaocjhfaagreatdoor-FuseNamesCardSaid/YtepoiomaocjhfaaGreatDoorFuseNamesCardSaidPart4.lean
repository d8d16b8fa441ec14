/- Texts on the way to this: FuseNames answers true for whatever it is handed: over right steps there is a tree for each column, of its kind or of none, or the error says that a tree grew too large. (part 4) -/
import Derived.Test.YtepoiomaocjhfaaGreatDoorProg
import Derived.Test.YtepoiomaocjhfaaGreatDoorFuseNamesCardSaidPart3
set_option linter.all false
namespace Go.SX.Nb
open Go Go.SX Go.Proofs
structure Hk (q:Prop):Prop where h:q
variable {p q:Prop}
theorem Z0(k:q)(h:Hk q→p:=by intro qk;refine R.go ?_;refine R.go ?_;exact qk.h):p:=h ⟨k⟩
theorem Z1(k:q)(h:Hk q→p:=by intro qk;refine D3 ?_;refine Z0 ?_;exact qk.h):p:=h ⟨k⟩
theorem Z2(k:q)(h:Hk q→p:=by intro qk;refine D3 ?_;refine R.go ?_;exact qk.h):p:=h ⟨k⟩
theorem Z3(k:q)(h:Hk q→p:=by intro qk;refine R.fin [2] ?_;refine AW.ret ?_;exact qk.h):p:=h ⟨k⟩
theorem Z5(k:q)(h:Hk q→p:=by intro qk;refine AW.skip ?_;refine K.thN ?_;exact qk.h):p:=h ⟨k⟩
theorem Z6(k:q)(h:Hk q→p:=by intro qk;refine K.blR ?_;refine K.thR ?_;exact qk.h):p:=h ⟨k⟩
theorem Z7(k:q)(h:Hk q→p:=by intro qk;refine G.go ?_;refine G.go ?_;exact qk.h):p:=h ⟨k⟩
theorem Z8(k:q)(h:Hk q→p:=by intro qk;refine W.seq ?_;refine Z1 ?_;exact qk.h):p:=h ⟨k⟩
theorem Z9(k:q)(h:Hk q→p:=by intro qk;refine K.blN ?_;refine K.thN ?_;exact qk.h):p:=h ⟨k⟩
theorem Z11(k:q)(h:Hk q→p:=by intro qk;refine AW.region ?_;refine Z0 ?_;exact qk.h):p:=h ⟨k⟩
theorem Z13(k:q)(h:Hk q→p:=by intro qk;refine Fk ?_;refine Z3 ?_;exact qk.h):p:=h ⟨k⟩
theorem Z14(k:q)(h:Hk q→p:=by intro qk;refine D.go ?_;refine D.go ?_;exact qk.h):p:=h ⟨k⟩
theorem Z16(k:q)(h:Hk q→p:=by intro qk;refine AW.skip ?_;refine Z9 ?_;exact qk.h):p:=h ⟨k⟩
theorem Z17(k:q)(h:Hk q→p:=by intro qk;refine Z1 ?_;refine R.go ?_;exact qk.h):p:=h ⟨k⟩
theorem Z18(k:q)(h:Hk q→p:=by intro qk;refine R.fin [4,5] ?_;refine AW.ret ?_;exact qk.h):p:=h ⟨k⟩
theorem Z19(k:q)(h:Hk q→p:=by intro qk;refine W.seq ?_;refine Fq ?_;exact qk.h):p:=h ⟨k⟩
theorem Z20(k:q)(h:Hk q→p:=by intro qk;refine R.alloc jZ ?_;refine Fk ?_;exact qk.h):p:=h ⟨k⟩
theorem Z21(k:q)(h:Hk q→p:=by intro qk;refine Z2 ?_;refine Z3 ?_;exact qk.h):p:=h ⟨k⟩
theorem Z22(k:q)(h:Hk q→p:=by intro qk;refine R.fin [4] ?_;refine AW.ret ?_;exact qk.h):p:=h ⟨k⟩
theorem Z23(k:q)(h:Hk q→p:=by intro qk;refine Z0 ?_;refine R.go ?_;exact qk.h):p:=h ⟨k⟩
theorem Z24(k:q)(h:Hk q→p:=by intro qk;refine D3 ?_;refine Kg ?_;refine Vd ?_;exact qk.h):p:=h ⟨k⟩
theorem Z26(k:q)(h:Hk q→p:=by intro qk;refine K.lpE ?_;refine K.thN ?_;exact qk.h):p:=h ⟨k⟩
theorem Z27(k:q)(h:Hk q→p:=by intro qk;refine Z0 ?_;refine Z7 ?_;exact qk.h):p:=h ⟨k⟩
theorem Z28(k:q)(h:Hk q→p:=by intro qk;refine K.lpR ?_;refine K.thR ?_;exact qk.h):p:=h ⟨k⟩
theorem Z29(k:q)(h:Hk q→p:=by intro qk;refine Z11 ?_;refine R.go ?_;exact qk.h):p:=h ⟨k⟩
theorem Z30(k:q)(h:Hk q→p:=by intro qk;refine AW.exit ?_;refine K.thE ?_;exact qk.h):p:=h ⟨k⟩
theorem Z31(k:q)(h:Hk q→p:=by intro qk;refine W.seq ?_;refine Z2 ?_;exact qk.h):p:=h ⟨k⟩
theorem Z32(k:q)(h:Hk q→p:=by intro qk;refine D3 ?_;refine R.alloc jZ ?_;exact qk.h):p:=h ⟨k⟩
theorem Z33(k:q)(h:Hk q→p:=by intro qk;refine Z24 ?_;refine Z13 ?_;exact qk.h):p:=h ⟨k⟩
theorem Z34(k:q)(h:Hk q→p:=by intro qk;refine Z6 ?_;refine Z28 ?_;exact qk.h):p:=h ⟨k⟩
theorem Z35(k:q)(h:Hk q→p:=by intro qk;refine Z8 ?_;refine R.go ?_;exact qk.h):p:=h ⟨k⟩
theorem Z37(k:q)(h:Hk q→p:=by intro qk;refine AW.ret ?_;refine K.thR ?_;exact qk.h):p:=h ⟨k⟩
theorem Z38(k:q)(h:Hk q→p:=by intro qk;refine D3 ?_;refine ec ?_;exact qk.h):p:=h ⟨k⟩
theorem Z39(k:q)(h:Hk q→p:=by intro qk;refine Z0 ?_;refine Z3 ?_;exact qk.h):p:=h ⟨k⟩
theorem Z40(k:q)(h:Hk q→p:=by intro qk;refine Z2 ?_;refine R.fin [0] ?_;exact qk.h):p:=h ⟨k⟩
theorem Z41(k:q)(h:Hk q→p:=by intro qk;refine Z1 ?_;refine Z0 ?_;exact qk.h):p:=h ⟨k⟩
theorem Z42(k:q)(h:Hk q→p:=by intro qk;refine Z18 ?_;refine K.thR ?_;exact qk.h):p:=h ⟨k⟩
theorem Z43(k:q)(h:Hk q→p:=by intro qk;refine Z5 ?_;refine Z19 ?_;exact qk.h):p:=h ⟨k⟩
theorem Z45(k:q)(h:Hk q→p:=by intro qk;refine H.go ?_;refine H.go ?_;exact qk.h):p:=h ⟨k⟩
theorem Z46(h:p:=by refine K.thJ ?_;exact StLe.of_eq (by unfold Hd;first|(simp only [ht38,ht41,ht49,ht57,ht57,ht66,ht74,hk3,hk6,Bool.true_or,Bool.false_or,Bool.or_true,Bool.or_false,if_true,if_false,Bool.false_eq_true,↓reduceIte]<;>rfl)|(simp only [ht38,ht41,ht49,ht57,ht57,ht66,ht74,hk3,Bool.true_or,Bool.false_or,Bool.or_true,if_true,if_false,Bool.false_eq_true,↓reduceIte]<;>rfl)|(simp only [ht38,ht41,ht49,ht57,ht57,ht66,ht74,if_true,if_false,Bool.false_eq_true,↓reduceIte]<;>rfl))):p:=h
theorem Z47(k:q)(h:Hk q→p:=by intro qk;refine Z30 ?_;refine Z26 ?_;exact qk.h):p:=h ⟨k⟩
theorem Z48(h:p:=by refine Z6 ?_;exact uh):p:=h
theorem Z49(h:p:=by refine Z6 ?_;exact K.fin (V.one V.tmp) ⟨by rw [hn];first|(simp only [ht22,ht25,ht33,ht41,ht41,hk3,hk6,Bool.true_or,Bool.false_or,Bool.or_true,Bool.or_false,if_true,if_false,Bool.false_eq_true,↓reduceIte]<;>rfl)|(simp only [ht22,ht25,ht33,ht41,ht41,hk3,Bool.true_or,Bool.false_or,Bool.or_true,if_true,if_false,Bool.false_eq_true,↓reduceIte]<;>rfl)|(simp only [ht22,ht25,ht33,ht41,ht41,if_true,if_false,Bool.false_eq_true,↓reduceIte]<;>rfl),rfl⟩):p:=h
theorem Z50(h:p:=by refine D.buildSlice jU jS jZ ?_;exact Tr):p:=h
theorem Z51(h:p:=by refine K.thJ ?_;exact StLe.of_eq (by unfold Hd;first|(simp only [ht38,ht41,ht49,ht57,ht57,hk3,hk6,Bool.true_or,Bool.false_or,Bool.or_true,Bool.or_false,if_true,if_false,Bool.false_eq_true,↓reduceIte]<;>rfl)|(simp only [ht38,ht41,ht49,ht57,ht57,hk3,Bool.true_or,Bool.false_or,Bool.or_true,if_true,if_false,Bool.false_eq_true,↓reduceIte]<;>rfl)|(simp only [ht38,ht41,ht49,ht57,ht57,if_true,if_false,Bool.false_eq_true,↓reduceIte]<;>rfl))):p:=h
theorem Z53(k:q)(h:Hk q→p:=by intro qk;refine Z14 ?_;refine D.go ?_;exact qk.h):p:=h ⟨k⟩
theorem Z54(h:p:=by refine Z21 ?_;refine Z6 ?_;exact K.fin (V.one V.tmp) ⟨by simp_all [Mx],rfl⟩):p:=h
theorem Z55(k:q)(h:Hk q→p:=by intro qk;refine R.go ?_;refine R.fin [6,7] ?_;exact qk.h):p:=h ⟨k⟩
theorem Z56(k:q)(h:Hk q→p:=by intro qk;refine Z27 ?_;refine Z7 ?_;exact qk.h):p:=h ⟨k⟩
theorem Z57(k:q)(h:Hk q→p:=by intro qk;refine Z8 ?_;refine Z0 ?_;exact qk.h):p:=h ⟨k⟩
theorem Z58(h:p:=by refine Z34 ?_;exact k7):p:=h
theorem Z59(h:p:=by refine K.thJ ?_;exact StLe.of_eq (by simp [*])):p:=h
theorem Z60(h:p:=by refine Z33 ?_;refine Z6 ?_;exact yz):p:=h
theorem Z61(k:q)(h:Hk q→p:=by intro qk;refine AW.region ?_;refine R.go ?_;exact qk.h):p:=h ⟨k⟩
theorem Z62(k:q)(h:Hk q→p:=by intro qk;refine Z2 ?_;refine R.fin [0,1] ?_;exact qk.h):p:=h ⟨k⟩
theorem Z63(k:q)(h:Hk q→p:=by intro qk;refine Z32 ?_;refine R.fin [0,2] ?_;exact qk.h):p:=h ⟨k⟩
theorem Z64(k:q)(h:Hk q→p:=by intro qk;refine Z16 ?_;refine Z29 ?_;exact qk.h):p:=h ⟨k⟩
theorem Z65(k:q)(h:Hk q→p:=by intro qk;refine R.fin [] ?_;refine K.blN ?_;exact qk.h):p:=h ⟨k⟩
theorem Z66(k:q)(h:Hk q→p:=by intro qk;refine G.go ?_;refine R.go ?_;exact qk.h):p:=h ⟨k⟩
theorem Z67(k:q)(h:Hk q→p:=by intro qk;refine Z2 ?_;refine R.callUp Tryz.call250 ho (by simp) Bp (ll l S o _ (A5 ho) hi hll) ?_;exact qk.h):p:=h ⟨k⟩
theorem Z68(k:q)(h:Hk q→p:=by intro qk;refine W.seq ?_;refine D3 ?_;exact qk.h):p:=h ⟨k⟩
theorem Z70(k:q)(h:Hk q→p:=by intro qk;refine Z5 ?_;refine Z17 ?_;exact qk.h):p:=h ⟨k⟩
theorem Z71(k:q)(h:Hk q→p:=by intro qk;refine Z1 ?_;refine R.fin [1] ?_;exact qk.h):p:=h ⟨k⟩
theorem Z72(k:q)(h:Hk q→p:=by intro qk;refine AW.ret ?_;refine Z6 ?_;exact qk.h):p:=h ⟨k⟩
theorem Z73(h:p:=by refine Z65 ?_;exact K.finN .nores ⟨rfl,by rw [pe]<;>simp [fq]⟩):p:=h
theorem Z74(h:p:=by refine K.thR ?_;exact jx):p:=h
theorem Z75(k:q)(h:Hk q→p:=by intro qk;refine R.go ?_;refine Kg ?_;exact qk.h):p:=h ⟨k⟩
theorem Z76(k:q)(h:Hk q→p:=by intro qk;refine Z0 ?_;refine Z0 ?_;exact qk.h):p:=h ⟨k⟩
theorem Z78(k:q)(h:Hk q→p:=by intro qk;refine D3 ?_;refine Y3 ?_;exact qk.h):p:=h ⟨k⟩
theorem Z79(k:q)(h:Hk q→p:=by intro qk;refine D3 ?_;refine R.freeze (k:=2) (n:=1) 5 1 [Ak ⟨y.name,(c.getD (Aj s c).toNat ⟨[],0⟩).kind⟩] hcc rfl rfl (Wq [⟨y.name,(c.getD (Aj s c).toNat ⟨[],0⟩).kind⟩]) (Wr [⟨y.name,(c.getD (Aj s c).toNat ⟨[],0⟩).kind⟩]) (Qa [⟨y.name,(c.getD (Aj s c).toNat ⟨[],0⟩).kind⟩]) ?_;exact qk.h):p:=h ⟨k⟩
theorem Z80(h:p:=by refine K.thR ?_;exact K.fin (V.one (V.cellN jA jS)) ⟨by rw [e,A8],by rw [e]⟩ (hlow:=low_agg _)):p:=h
theorem Z81(k:q)(h:Hk q→p:=by intro qk;refine Z14 ?_;refine Z14 ?_;exact qk.h):p:=h ⟨k⟩
theorem Z83(k:q)(h:Hk q→p:=by intro qk;refine Z27 ?_;refine G.go ?_;exact qk.h):p:=h ⟨k⟩
theorem Z84(h:p:=by refine Z42 ?_;exact p8):p:=h
theorem Z85(k:q)(h:Hk q→p:=by intro qk;refine Z8 ?_;refine R.fin [11,235] ?_;exact qk.h):p:=h ⟨k⟩
theorem Z86(k:q)(h:Hk q→p:=by intro qk;refine R.fin [6] ?_;refine AW.ret ?_;exact qk.h):p:=h ⟨k⟩
theorem Z87(k:q)(h:Hk q→p:=by intro qk;refine Z43 ?_;refine W.drawQ [0,1,0,4,15,31,63,63,255,511,63,63,63,6207,14399,30783,65535,131071,262143] 16 Ad (by kernel_rfl) ?_;exact qk.h):p:=h ⟨k⟩
theorem Z88(h:p:=by refine Z33 ?_;refine Z6 ?_;exact yy):p:=h
theorem Z89(k:q)(h:Hk q→p:=by intro qk;refine Z0 ?_;refine Z23 ?_;exact qk.h):p:=h ⟨k⟩
theorem Z91(h:p:=by refine D.go ?_;exact Tr):p:=h
theorem Z92(k:q)(h:Hk q→p:=by intro qk;refine Z1 ?_;refine R.fin [2,18] ?_;exact qk.h):p:=h ⟨k⟩
theorem Z94(k:q)(h:Hk q→p:=by intro qk;refine Z1 ?_;refine Z42 ?_;exact qk.h):p:=h ⟨k⟩
theorem Z95(k:q)(h:Hk q→p:=by intro qk;refine R.go ?_;refine Fk ?_;exact qk.h):p:=h ⟨k⟩
theorem Z98(h:p:=by refine Z22 ?_;exact K.fin (V.one V.tmp) ⟨by rw [←fw];try rfl,rfl⟩):p:=h
theorem Z99(h:p:=by refine Z39 ?_;exact ea):p:=h
theorem Lo(k:q)(h:Hk q→p:=by intro qk;refine Fq ?_;refine Z1 ?_;exact qk.h):p:=h ⟨k⟩
theorem O1(k:q)(h:Hk q→p:=by intro qk;refine Z1 ?_;refine R.fin [13] ?_;exact qk.h):p:=h ⟨k⟩
theorem Mc(k:q)(h:Hk q→p:=by intro qk;refine Z16 ?_;refine Z11 ?_;exact qk.h):p:=h ⟨k⟩
theorem Jc(k:q)(h:Hk q→p:=by intro qk;refine Z0 ?_;refine G.go ?_;exact qk.h):p:=h ⟨k⟩
theorem Qz(k:q)(h:Hk q→p:=by intro qk;refine Z1 ?_;refine R.fin [2,3,9] ?_;exact qk.h):p:=h ⟨k⟩
theorem Jd(k:q)(h:Hk q→p:=by intro qk;refine Z17 ?_;refine Z7 ?_;exact qk.h):p:=h ⟨k⟩
theorem Xs(k:q)(h:Hk q→p:=by intro qk;refine D3 ?_;refine Kg ?_;exact qk.h):p:=h ⟨k⟩
theorem O2(k:q)(h:Hk q→p:=by intro qk;refine Z19 ?_;refine D3 ?_;exact qk.h):p:=h ⟨k⟩
theorem tc(h:p:=by refine Z22 ?_;exact ea):p:=h
theorem O3(h:p:=by refine Z16 ?_;refine Z21 ?_;exact K.fin (V.one V.tmp) ⟨by simp_all [Mx],rfl⟩):p:=h
theorem O4(h:p:=by refine Z16 ?_;refine Z24 ?_;refine Z13 ?_;exact yz):p:=h
theorem j7(h:p:=by refine AW.skip ?_;exact Z59):p:=h
theorem wo(h:p:=by refine Z72 ?_;exact yr):p:=h
theorem Kf(k:q)(h:Hk q→p:=by intro qk;refine Z5 ?_;refine Z2 ?_;exact qk.h):p:=h ⟨k⟩
theorem Tk(k:q)(h:Hk q→p:=by intro qk;refine Z31 ?_;refine It ?_;exact qk.h):p:=h ⟨k⟩
theorem wq(k:q)(h:Hk q→p:=by intro qk;refine D3 ?_;refine R.freeze (k:=2) (n:=1) 5 1 [Ak ⟨y.name,y.kind⟩] hcc rfl rfl (Wq [⟨y.name,y.kind⟩]) (Wr [⟨y.name,y.kind⟩]) (Qa [⟨y.name,y.kind⟩]) ?_;exact qk.h):p:=h ⟨k⟩
theorem R0(k:q)(h:Hk q→p:=by intro qk;refine Z21 ?_;refine Z34 ?_;exact qk.h):p:=h ⟨k⟩
theorem Md(k:q)(h:Hk q→p:=by intro qk;refine Z70 ?_;refine Z18 ?_;exact qk.h):p:=h ⟨k⟩
theorem V4(k:q)(h:Hk q→p:=by intro qk;refine Z20 ?_;refine R.fin [0,2,3] ?_;exact qk.h):p:=h ⟨k⟩
theorem O5(k:q)(h:Hk q→p:=by intro qk;refine R.go ?_;refine Z20 ?_;exact qk.h):p:=h ⟨k⟩
theorem wr(h:p:=by refine R.fin [0,1,2,10,11] ?_;exact K.lpN (i+1) hli (by omega) (StCut.of_eq (by simp only [hst,List.map_append,List.map_cons,List.map_nil]<;>rfl))):p:=h
theorem V5(k:q)(h:Hk q→p:=by intro qk;refine AW.region ?_;refine R.moveT ?_;exact qk.h):p:=h ⟨k⟩
theorem Me(k:q)(h:Hk q→p:=by intro qk;refine Z43 ?_;refine Z1 ?_;exact qk.h):p:=h ⟨k⟩
theorem wt(k:q)(h:Hk q→p:=by intro qk;refine R.go ?_;refine F8 ?_;exact qk.h):p:=h ⟨k⟩
theorem V6(k:q)(h:Hk q→p:=by intro qk;refine Z2 ?_;refine Z22 ?_;exact qk.h):p:=h ⟨k⟩
theorem td(k:q)(h:Hk q→p:=by intro qk;refine Z1 ?_;refine ec ?_;exact qk.h):p:=h ⟨k⟩
theorem tg(k:q)(h:Hk q→p:=by intro qk;refine ec ?_;refine Z13 ?_;exact qk.h):p:=h ⟨k⟩
theorem th(h:p:=by refine Z34 ?_;exact p8):p:=h
theorem O6(k:q)(h:Hk q→p:=by intro qk;refine Z9 ?_;refine Z11 ?_;exact qk.h):p:=h ⟨k⟩
theorem dl(h:p:=by refine Z14 ?_;exact Tr):p:=h
theorem Mf(k:q)(h:Hk q→p:=by intro qk;refine Z7 ?_;refine Z7 ?_;exact qk.h):p:=h ⟨k⟩
theorem Oy(k:q)(h:Hk q→p:=by intro qk;refine Z2 ?_;refine R.nilSl 6 2 ?_;refine Z55 ?_;exact qk.h):p:=h ⟨k⟩
theorem O7(k:q)(h:Hk q→p:=by intro qk;refine Z19 ?_;refine Z2 ?_;exact qk.h):p:=h ⟨k⟩
theorem tj(h:p:=by refine R0 ?_;exact jx):p:=h
theorem tm(k:q)(h:Hk q→p:=by intro qk;refine R.nilTmp 4 2 false ?_;refine R.go ?_;exact qk.h):p:=h ⟨k⟩
theorem Xt(k:q)(h:Hk q→p:=by intro qk;refine Fk ?_;refine wt ?_;exact qk.h):p:=h ⟨k⟩
theorem tq(k:q)(h:Hk q→p:=by intro qk;refine R.alloc jZ ?_;refine Z95 ?_;exact qk.h):p:=h ⟨k⟩
theorem Oz(k:q)(h:Hk q→p:=by intro qk;refine R.fin [11,12] ?_;refine Z9 ?_;refine Z85 ?_;exact qk.h):p:=h ⟨k⟩
theorem dm(k:q)(h:Hk q→p:=by intro qk;refine Z2 ?_;refine R.fin [0,1,7,8,9] ?_;exact qk.h):p:=h ⟨k⟩
theorem o6(h:p:=by refine Z13 ?_;exact K.fin (V.one (V.cellN jA jS))):p:=h
theorem tr(h:p:=by refine Z6 ?_;exact K.fin (V.one V.tmp) ⟨by simp_all [Zt],rfl⟩):p:=h
theorem P0(k:q)(h:Hk q→p:=by intro qk;refine Z9 ?_;refine Z29 ?_;exact qk.h):p:=h ⟨k⟩
theorem Xu(k:q)(h:Hk q→p:=by intro qk;refine Z64 ?_;refine It ?_;exact qk.h):p:=h ⟨k⟩
theorem tt(h:p:=by refine Z39 ?_;refine Z6 ?_;exact z6):p:=h
theorem j8(h:p:=by refine W.keep [3,8] ?_;exact j7):p:=h
theorem wu(h:p:=by refine R.fin [] ?_;exact K.finN .nores (hp:=⟨cd m x,k,by unfold Nv;rw [hT];rfl,rfl,by exact gq⟩)):p:=h
theorem O8(k:q)(h:Hk q→p:=by intro qk;refine Z5 ?_;refine Z1 ?_;exact qk.h):p:=h ⟨k⟩
theorem Xv(k:q)(h:Hk q→p:=by intro qk;refine Z2 ?_;refine Fk ?_;exact qk.h):p:=h ⟨k⟩
theorem P1(k:q)(h:Hk q→p:=by intro qk;refine Z8 ?_;refine Z23 ?_;exact qk.h):p:=h ⟨k⟩
theorem j9(h:p:=by refine Z81 ?_;exact Tr):p:=h
theorem ja(k:q)(h:Hk q→p:=by intro qk;refine Fk ?_;refine F8 ?_;exact qk.h):p:=h ⟨k⟩
theorem V7(k:q)(h:Hk q→p:=by intro qk;refine D.tail ?_;refine R.go ?_;exact qk.h):p:=h ⟨k⟩
theorem Xw(k:q)(h:Hk q→p:=by intro qk;refine R.go ?_;refine Z3 ?_;exact qk.h):p:=h ⟨k⟩
theorem Xx(k:q)(h:Hk q→p:=by intro qk;refine Z1 ?_;refine It ?_;exact qk.h):p:=h ⟨k⟩
theorem V8(k:q)(h:Hk q→p:=by intro qk;refine Z16 ?_;refine Z21 ?_;exact qk.h):p:=h ⟨k⟩
theorem wv(h:p:=by refine V6 ?_;exact K.fin (V.one V.tmp) ⟨by rw [Y8 (H3 (by simp at ht9;omega) hx.2)],rfl⟩):p:=h
theorem ww(k:q)(h:Hk q→p:=by intro qk;refine Z7 ?_;refine Z0 ?_;exact qk.h):p:=h ⟨k⟩
theorem Tl(k:q)(h:Hk q→p:=by intro qk;refine Z43 ?_;refine Z17 ?_;exact qk.h):p:=h ⟨k⟩
theorem jb(k:q)(h:Hk q→p:=by intro qk;refine R.fin [2,3,4,5] ?_;refine AW.ret ?_;exact qk.h):p:=h ⟨k⟩
theorem wx(h:p:=by refine Tq ?_;exact K.lpN (x+1) hlt (by omega) (by simp only [em];exact StCut.of_eq rfl)):p:=h
theorem o7(h:p:=by refine Xw ?_;exact ea):p:=h
theorem Tm(k:q)(h:Hk q→p:=by intro qk;refine Z7 ?_;refine R.go ?_;exact qk.h):p:=h ⟨k⟩
theorem jc(k:q)(h:Hk q→p:=by intro qk;refine R.fin [2,3,4,5] ?_;refine Z72 ?_;exact qk.h):p:=h ⟨k⟩
theorem wy(h:p:=by refine D.build (places:=#[(0,1),(1,1)]) jU (fun w=>by simp) jZ ?_;exact Tr):p:=h
theorem jd(h:p:=by refine Z56 ?_;exact tt):p:=h
theorem V9(k:q)(h:Hk q→p:=by intro qk;refine Z39 ?_;refine Z6 ?_;exact qk.h):p:=h ⟨k⟩
theorem wz(h:p:=by refine K.thR ?_;exact uh):p:=h
theorem x5(h:p:=by refine R.fin [0,7,9,10,11,13] ?_;exact K.lpN (x+1) hlt (by omega) (StCut.of_eq rfl)):p:=h
theorem x6(h:p:=by refine G.call Tryz.call109 (fun hB=>zc e.text K9 hs (by decide) _) ?_;exact jd):p:=h
theorem tw(k:q)(h:Hk q→p:=by intro qk;refine Z2 ?_;refine R.call Tryz.call258 (zf l S o _ (A5 ho) hi) ?_;exact qk.h):p:=h ⟨k⟩
theorem x7(h:p:=by refine V8 ?_;exact uh):p:=h
theorem x8(h:p:=by refine Z34 ?_;exact K.fin (V.two V.tmp V.tmp) ⟨by rw [Yz hr hkn];try rfl,rfl⟩):p:=h
theorem tz(k:q)(h:Hk q→p:=by intro qk;refine R.go ?_;refine R.call Tryz.call166 (Q9 (ks.getD 0 0) 1 _) ?_;exact qk.h):p:=h ⟨k⟩
theorem u6(k:q)(h:Hk q→p:=by intro qk;refine R.go ?_;refine R.call Tryz.call166 (Q9 (ks.getD 0 0) 2 _) ?_;exact qk.h):p:=h ⟨k⟩
theorem u7(k:q)(h:Hk q→p:=by intro qk;refine Z2 ?_;refine R.call Tryz.call88 (c88 L i o _ (A5 ho) hi) ?_;exact qk.h):p:=h ⟨k⟩
theorem o8(k:q)(h:Hk q→p:=by intro qk;refine Fk ?_;refine R.nilCell 0 5 6 ?_;exact qk.h):p:=h ⟨k⟩
theorem Tn(k:q)(h:Hk q→p:=by intro qk;refine Z5 ?_;refine Z31 ?_;exact qk.h):p:=h ⟨k⟩
theorem je(k:q)(h:Hk q→p:=by intro qk;refine Z1 ?_;refine Z22 ?_;exact qk.h):p:=h ⟨k⟩
theorem jf(k:q)(h:Hk q→p:=by intro qk;refine R.fin [6] ?_;refine Z37 ?_;exact qk.h):p:=h ⟨k⟩
theorem dn(k:q)(h:Hk q→p:=by intro qk;refine Z26 ?_;refine Z2 ?_;exact qk.h):p:=h ⟨k⟩
theorem Va(k:q)(h:Hk q→p:=by intro qk;refine Z7 ?_;refine G.go ?_;exact qk.h):p:=h ⟨k⟩
theorem x9(h:p:=by refine Z37 ?_;exact K.fin (V.two V.tmp V.tmp) ⟨by rw [lc hr];try rfl,rfl⟩):p:=h
theorem xa(k:q)(h:Hk q→p:=by intro qk;refine D.tail ?_;refine G.call Tryz.call32 (fun hB=>c32 30 ty[x] (cl hbt hlt) (by decide) dd hD c[x].kind _) ?_;exact qk.h):p:=h ⟨k⟩
theorem jg(h:p:=by refine D.go ?_;exact Z50):p:=h
theorem Vb(k:q)(h:Hk q→p:=by intro qk;refine Z47 ?_;refine Z21 ?_;exact qk.h):p:=h ⟨k⟩
theorem dp(k:q)(h:Hk q→p:=by intro qk;refine D3 ?_;refine R.box ?_;exact qk.h):p:=h ⟨k⟩
theorem Vc(k:q)(h:Hk q→p:=by intro qk;refine Z40 ?_;refine Z35 ?_;exact qk.h):p:=h ⟨k⟩
theorem xb(h:p:=by refine V8 ?_;exact z6):p:=h
theorem jh(k:q)(h:Hk q→p:=by intro qk;refine D3 ?_;refine R.makeFunc ?_;exact qk.h):p:=h ⟨k⟩
theorem xc(h:p:=by refine Z37 ?_;exact yt):p:=h
theorem dq(k:q)(h:Hk q→p:=by intro qk;refine Z14 ?_;refine Z45 ?_;exact qk.h):p:=h ⟨k⟩
theorem xd(h:p:=by refine Z22 ?_;exact K.fin (V.one V.tmp) ⟨by rw [r6 h3]<;>rfl,rfl⟩):p:=h
theorem xe(k:q)(h:Hk q→p:=by intro qk;refine Y.buildSlice jU Tryz.sizeOf9 Tryz.zeroValue9 ?_;refine Y.tail (tn:=[2]) (U:=U2 L Hp o om j (mvO m)) ?_;exact qk.h):p:=h ⟨k⟩
theorem Xy(k:q)(h:Hk q→p:=by intro qk;refine Z45 ?_;refine H.go ?_;exact qk.h):p:=h ⟨k⟩
theorem ua(k:q)(h:Hk q→p:=by intro qk;refine Kg ?_;refine Kg ?_;exact qk.h):p:=h ⟨k⟩
theorem xf(h:p:=by refine Z13 ?_;exact K.fin (V.one (V.cellN jA jS)) ⟨by simp [ht5],rfl⟩):p:=h
theorem xg(k:q)(h:Hk q→p:=by intro qk;refine Z17 ?_;refine R.callUp Tryz.call221 ho (by simp) Bp (fk l S 8 (A7 l S.i).at_ o _ (A5 ho)) ?_;exact qk.h):p:=h ⟨k⟩
theorem xh(h:p:=by refine Z39 ?_;exact Z48):p:=h
theorem xi(h:p:=by refine Z34 ?_;exact K.fin (V.two V.tmp V.tmp) ⟨by rw [hbad],rfl⟩):p:=h
theorem xj(h:p:=by refine Z6 ?_;exact ug):p:=h
theorem Xz(k:q)(h:Hk q→p:=by intro qk;refine Z23 ?_;refine Z20 ?_;refine R.go ?_;exact qk.h):p:=h ⟨k⟩
theorem xk(h:p:=by refine Z28 ?_;exact K.fin (V.one V.tmp) ⟨by rw [hx.eq,hw],rfl⟩):p:=h
theorem ji(h:p:=by refine Z21 ?_;exact Z74):p:=h
theorem jk(h:p:=by refine Z21 ?_;refine Z6 ?_;exact K.fin (V.one V.tmp) ⟨by simp_all [L8],rfl⟩):p:=h
theorem xl(h:p:=by refine Z34 ?_;exact K.fin (V.two V.tmp V.tmp) ⟨by rw [hkb],rfl⟩):p:=h
theorem xm(h:p:=by refine V9 ?_;exact jx):p:=h
theorem Y0(k:q)(h:Hk q→p:=by intro qk;refine Z14 ?_;refine Z53 ?_;exact qk.h):p:=h ⟨k⟩
theorem jl(k:q)(h:Hk q→p:=by intro qk;refine Z1 ?_;refine R.fin [3,8] ?_;exact qk.h):p:=h ⟨k⟩
theorem jm(k:q)(h:Hk q→p:=by intro qk;refine Z17 ?_;refine R.fin [1,2] ?_;exact qk.h):p:=h ⟨k⟩
theorem xn(k:q)(h:Hk q→p:=by intro qk;refine W.drawQ [0,1,3,7,15,3,35,99,255,511,1023] 8 Ad (by kernel_rfl) ?_;refine dq ?_;exact qk.h):p:=h ⟨k⟩
theorem o9(h:p:=by refine K.blN ?_;refine K.thJ ?_;exact StLe.of_eq (by rw [e]<;>rfl)):p:=h
theorem xp(h:p:=by refine Z94 ?_;exact oz):p:=h
theorem xq(h:p:=by refine Z39 ?_;exact jx):p:=h
theorem jn(h:p:=by refine Z0 ?_;exact tc):p:=h
theorem oa(k:q)(h:Hk q→p:=by intro qk;refine R.fin [2,3,4,5] ?_;refine Z37 ?_;exact qk.h):p:=h ⟨k⟩
theorem xt(k:q)(h:Hk q→p:=by intro qk;refine W.drawQ [0,1,3,7,0,16,48,112,240,511,1023] 9 Ad (by kernel_rfl) ?_;refine Z14 ?_;exact qk.h):p:=h ⟨k⟩
theorem xu(h:p:=by refine Z18 ?_;exact oz):p:=h
theorem xv(h:p:=by refine R.call Tryz.call44 (c44 61 e hok (by decide) _) ?_;exact Z99):p:=h
theorem dr(k:q)(h:Hk q→p:=by intro qk;refine Z29 ?_;refine ww ?_;refine R.fin [1,3,4,5] ?_;refine K.blN ?_;exact qk.h):p:=h ⟨k⟩
theorem dt(k:q)(h:Hk q→p:=by intro qk;refine R.go ?_;refine tq ?_;exact qk.h):p:=h ⟨k⟩
theorem xw(k:q)(h:Hk q→p:=by intro qk;refine Z63 ?_;refine W.drawQ [0,1,3,7,0,16,48,112,255,511,1023] 8 Ad (by kernel_rfl) ?_;exact qk.h):p:=h ⟨k⟩
theorem du(k:q)(h:Hk q→p:=by intro qk;refine Z5 ?_;refine D3 ?_;exact qk.h):p:=h ⟨k⟩
theorem xy(h:p:=by refine Z34 ?_;exact uf):p:=h
theorem xz(k:q)(h:Hk q→p:=by intro qk;refine To ?_;refine W.drawQ [0,1,3,0,8,24,56,127] 7 Ad (by kernel_rfl) ?_;exact qk.h):p:=h ⟨k⟩
theorem y6(h:p:=by refine jf ?_;exact k7):p:=h
theorem ob(h:p:=by refine je ?_;refine Z34 ?_;exact K.fin (V.one V.tmp) ⟨by rw [ma hlt ht16 hx.2],rfl⟩):p:=h
theorem y7(k:q)(h:Hk q→p:=by intro qk;refine Z2 ?_;refine ec ?_;exact qk.h):p:=h ⟨k⟩
theorem dv(k:q)(h:Hk q→p:=by intro qk;refine R.go ?_;refine G.go ?_;exact qk.h):p:=h ⟨k⟩
theorem dw(k:q)(h:Hk q→p:=by intro qk;refine Z30 ?_;refine K.lpE ?_;exact qk.h):p:=h ⟨k⟩
theorem jo(k:q)(h:Hk q→p:=by intro qk;refine R.fin [] ?_;refine Z37 ?_;exact qk.h):p:=h ⟨k⟩
theorem ub(h:p:=by refine Z27 ?_;exact xh):p:=h
theorem y8(h:p:=by refine Z86 ?_;exact k7):p:=h
theorem od(h:p:=by refine Z21 ?_;refine K.thR ?_;exact k7):p:=h
theorem oe(h:p:=by refine Mc ?_;refine R.fin [0,1,7,8] ?_;exact K.lpN (x+1) ⟨hlt,Av hlt hx.2 ht16⟩ (by omega) (StCut.of_eq rfl)):p:=h
theorem og(h:p:=by refine Z56 ?_;refine ww ?_;refine Z22 ?_;exact K.fin (V.one V.tmp) ⟨by rcases hf1 with e|e<;>rcases hb1 with e'|e'<;>rw [e,e']<;>rfl,rfl⟩):p:=h
theorem y9(k:q)(h:Hk q→p:=by intro qk;refine Vd ?_;refine Fk ?_;exact qk.h):p:=h ⟨k⟩
theorem Y1(k:q)(h:Hk q→p:=by intro qk;refine Z1 ?_;refine Z3 ?_;exact qk.h):p:=h ⟨k⟩
theorem yb(h:p:=by refine R.call Tryz.call145 (c145 e.text _) ?_;exact ub):p:=h
theorem oh(k:q)(h:Hk q→p:=by intro qk;refine Z1 ?_;refine R.fin [2,3,18] ?_;exact qk.h):p:=h ⟨k⟩
theorem jp(k:q)(h:Hk q→p:=by intro qk;refine Z41 ?_;refine R.fin [0] ?_;exact qk.h):p:=h ⟨k⟩
theorem jq(k:q)(h:Hk q→p:=by intro qk;refine Z2 ?_;refine R.alloc jZ ?_;exact qk.h):p:=h ⟨k⟩
theorem Y2(k:q)(h:Hk q→p:=by intro qk;refine Z71 ?_;refine Z2 ?_;exact qk.h):p:=h ⟨k⟩
theorem oi(h:p:=by refine Z16 ?_;refine Z33 ?_;exact yy):p:=h
theorem ol(h:p:=by refine Z1 ?_;refine tm ?_;exact Z84):p:=h
theorem yd(k:q)(h:Hk q→p:=by intro qk;refine Z2 ?_;refine Y3 ?_;exact qk.h):p:=h ⟨k⟩
theorem uc(k:q)(h:Hk q→p:=by intro qk;refine R.go ?_;refine R.call Tryz.call74 (c74 e _) ?_;exact qk.h):p:=h ⟨k⟩
theorem oo(h:p:=by refine Z47 ?_;refine Z21 ?_;exact k7):p:=h
theorem ot(h:p:=by refine Z0 ?_;refine Z22 ?_;exact K.fin (V.one V.tmp) ⟨by first|(rw [hgy hf];rfl)|(rw [hgv hf];rfl),rfl⟩):p:=h
theorem ou(h:p:=by refine dn ?_;refine Z22 ?_;exact K.fin (V.one V.tmp) ⟨by rw [Zp (En hxe hx.2)],rfl⟩):p:=h
theorem dx(k:q)(h:Hk q→p:=by intro qk;refine Z19 ?_;refine Z1 ?_;refine R.fin [0,1,5,7,8] ?_;refine Z17 ?_;exact qk.h):p:=h ⟨k⟩
theorem ye(h:p:=by refine K.lpE ?_;exact K.finN .nores (hp:=by rw [hxe])):p:=h
theorem ov(k:q)(h:Hk q→p:=by intro qk;refine R.fin [3,9] ?_;refine K.thN ?_;exact qk.h):p:=h ⟨k⟩
theorem ow(k:q)(h:Hk q→p:=by intro qk;refine R.fin [0,3,5] ?_;refine Z35 ?_;exact qk.h):p:=h ⟨k⟩
theorem yf(k:q)(h:Hk q→p:=by intro qk;refine p9 ?_;refine K.lpN (z+1) hz2 (by omega) ?_;exact qk.h):p:=h ⟨k⟩
theorem dy(k:q)(h:Hk q→p:=by intro qk;refine Z62 ?_;refine Z35 ?_;refine R.fin [0,1,7,8] ?_;exact qk.h):p:=h ⟨k⟩
theorem jr(k:q)(h:Hk q→p:=by intro qk;refine V6 ?_;refine K.thR ?_;exact qk.h):p:=h ⟨k⟩
theorem dz(h:p:=by exact ⟨rfl,Below.refl _ _⟩):p:=h
theorem Ic(k:q)(h:Hk q→p:=by intro qk;refine R.assignT ?_;exact qk.h):p:=h ⟨k⟩
theorem It(k:q)(h:Hk q→p:=by intro qk;refine R.fin [0,3] ?_;exact qk.h):p:=h ⟨k⟩
theorem To(k:q)(h:Hk q→p:=by intro qk;refine R.fin [0,3,4] ?_;exact qk.h):p:=h ⟨k⟩
theorem yg(h:p:=by exact h (y,j) (by rw [List.mem_zipIdx_iff_getElem?];exact hj)):p:=h
theorem yh(h:p:=by exact K.fin (V.one V.tmp) ⟨by simp [Dk,ht5],rfl⟩):p:=h
theorem yi(h:p:=by exact K.fin (V.one V.tmp) ⟨by simp [Dk,ht5,ht16,ht22],rfl⟩):p:=h
theorem ea(h:p:=by exact K.fin (V.one V.tmp)):p:=h
theorem eb(k:q)(h:Hk q→p:=by intro qk;refine R.fin [0,1,5,7,8,16] ?_;exact qk.h):p:=h ⟨k⟩
theorem F8(k:q)(h:Hk q→p:=by intro qk;refine R.fin [2,3] ?_;exact qk.h):p:=h ⟨k⟩
theorem Fk(k:q)(h:Hk q→p:=by intro qk;refine R.storeOwn jS ?_;exact qk.h):p:=h ⟨k⟩
theorem Y3(k:q)(h:Hk q→p:=by intro qk;refine R.build (places:=#[(0,1),(1,1),(2,1)]) jU (fun w=>by simp) jZ ?_;exact qk.h):p:=h ⟨k⟩
theorem yj(h:p:=by exact K.fin (V.one V.tmp) ⟨by simp only [E8,hp,ht7,ht14,ht23,ht27,Bool.not_true,Bool.false_eq_true,if_false,if_true];try rfl,rfl⟩):p:=h
theorem yk(h:p:=by exact K.fin (V.two (V.cellN jA jS) V.tmp) ⟨by simp only [Vj,ht17,if_true,if_false,Bool.false_eq_true];rfl,rfl⟩):p:=h
theorem D3(k:q)(h:Hk q→p:=by intro qk;refine AW.seqR ?_;exact qk.h):p:=h ⟨k⟩
theorem Fq(k:q)(h:Hk q→p:=by intro qk;refine AW.block ?_;exact qk.h):p:=h ⟨k⟩
theorem yl(h:p:=by exact K.fin (V.four V.tmp V.tmp V.tmp V.tmp) ⟨by simp only [Ky,ht11,ht17,if_true,if_false,Bool.false_eq_true];try rfl,rfl⟩):p:=h
theorem ym(h:p:=by exact K.fin (V.four V.tmp V.tmp V.tmp V.tmp) ⟨by simp only [Pb,ht18,ht23,if_true,if_false,Bool.false_eq_true];try rfl,rfl⟩):p:=h
theorem yn(h:p:=by exact K.fin (V.four V.tmp V.tmp V.tmp V.tmp) ⟨by simp only [B6,ht6,ht17,ht28,if_true,if_false,Bool.false_eq_true],rfl⟩):p:=h
theorem js(h:p:=by exact absurd h (by decide)):p:=h
theorem ud(k:q)(h:Hk q→p:=by intro qk;refine K.rdN (iy hL (C5 (by decide)) (C5 (by decide))) ?_;exact qk.h):p:=h ⟨k⟩
theorem Kg(k:q)(h:Hk q→p:=by intro qk;refine R.buildSlice jU jS jZ ?_;exact qk.h):p:=h ⟨k⟩
theorem Vd(k:q)(h:Hk q→p:=by intro qk;refine R.build (places:=#[(0,1),(1,1)]) jU (fun w=>by simp) jZ ?_;exact qk.h):p:=h ⟨k⟩
theorem jt(h:p:=by exact ⟨hFRl,by simp [oid]⟩):p:=h
theorem ju(h:p:=by exact Hn (fun x hx=>ObjLow.le (by omega) (hlow x hx)) hOl x hx):p:=h
theorem ue(k:q)(h:Hk q→p:=by intro qk;refine K.rdR (iy hL (C5 (by decide)) (C5 (by decide))) ?_;exact qk.h):p:=h ⟨k⟩
theorem oy(k:q)(h:Hk q→p:=by intro qk;refine K.rdN (ix hL (C5 (by decide))) ?_;exact qk.h):p:=h ⟨k⟩
theorem jv(k:q)(h:Hk q→p:=by intro qk;refine K.lpN (x+1) hlt (by omega) ?_;exact qk.h):p:=h ⟨k⟩
theorem Tp(k:q)(h:Hk q→p:=by intro qk;refine R.fin [0,1,2] ?_;exact qk.h):p:=h ⟨k⟩
theorem Y4(k:q)(h:Hk q→p:=by intro qk;refine R.fin [0,1,2,6] ?_;exact qk.h):p:=h ⟨k⟩
theorem ec(k:q)(h:Hk q→p:=by intro qk;refine R.build (places:=#[(0,1),(1,1),(2,3),(5,1)]) jU (fun w=>by simp) jZ ?_;exact qk.h):p:=h ⟨k⟩
theorem Tq(k:q)(h:Hk q→p:=by intro qk;refine R.fin [1,3,4] ?_;exact qk.h):p:=h ⟨k⟩
theorem uf(h:p:=by exact K.fin (V.one V.tmp) ⟨by rw [hf],rfl⟩):p:=h
theorem ee(k:q)(h:Hk q→p:=by intro qk;refine R.fin [2,6,13,14,15] ?_;exact qk.h):p:=h ⟨k⟩
theorem oz(h:p:=by exact K.fin (V.two V.tmp V.tmp) ⟨by rw [hk],rfl⟩):p:=h
theorem ug(h:p:=by exact K.fin (V.two V.tmp V.tmp) ⟨by rw [hk,hk2],rfl⟩):p:=h
theorem p8(h:p:=by exact K.fin (V.two V.tmp V.tmp) ⟨by rw [hm]<;>rfl,rfl⟩):p:=h
theorem yo(h:p:=by exact K.fin (V.one V.tmp) ⟨by rw [hn];first|(simp only [ht22,ht25,ht33,ht41,ht41,ht50,ht58,hk3,hk6,Bool.true_or,Bool.false_or,Bool.or_true,Bool.or_false,if_true,if_false,Bool.false_eq_true,↓reduceIte]<;>rfl)|(simp only [ht22,ht25,ht33,ht41,ht41,ht50,ht58,hk3,Bool.true_or,Bool.false_or,Bool.or_true,if_true,if_false,Bool.false_eq_true,↓reduceIte]<;>rfl)|(simp only [ht22,ht25,ht33,ht41,ht41,ht50,ht58,if_true,if_false,Bool.false_eq_true,↓reduceIte]<;>rfl),rfl⟩):p:=h
theorem jx(h:p:=by exact K.fin (V.one V.tmp) ⟨by rw [hm]<;>rfl,rfl⟩):p:=h
theorem yp(h:p:=by exact K.fin (V.two V.tmp V.tmp) ⟨by rw [hm],rfl⟩ (hlow:=by simp only [Lk,List.mem_cons,List.mem_nil_iff,or_false];rintro y (rfl|rfl);exact Gu;simp)):p:=h
theorem yq(h:p:=by exact K.fin (V.two (V.cellN jA jS) V.tmp) ⟨by rw [hm];show _=AV.tup [A4 Ab,Al false];rw [A8];rfl,rfl⟩ (hlow:=by simp [or_imp,forall_and])):p:=h
theorem yr(h:p:=by exact K.fin (V.two (V.cellN jA jS) V.tmp) ⟨by rw [hm];show _=AV.tup [A4 Ab,A2 _];rw [A8];rfl,rfl⟩ (hlow:=by simp [or_imp,forall_and])):p:=h
theorem yt(h:p:=by exact K.fin (V.two V.tmp V.tmp) ⟨by rw [hsh]<;>rfl,rfl⟩):p:=h
theorem p9(k:q)(h:Hk q→p:=by intro qk;refine R.fin [6,8,9,10,11,13,54,55,56] ?_;exact qk.h):p:=h ⟨k⟩
theorem yu(h:p:=by exact ⟨Nat.lt_succ_self i,hl.step hi (by rw [hk];decide)⟩):p:=h
theorem Y5(h:p:=by exact ⟨by omega,c2,c3⟩):p:=h
theorem jy(h:p:=by exact (Bk hX (e)).elim):p:=h
theorem Tr(h:p:=by exact D.end rfl rfl):p:=h
theorem yw(h:p:=by exact (Bk hX (by first|exact by unfold Nv;rw [hT];rfl|exact hT)).elim):p:=h
theorem yx(h:p:=by exact (AA9 L i o _ (A5 (Cn ho hne)) hi hl hll).ok hT):p:=h
theorem jz(k:q)(h:Hk q→p:=by intro qk;refine AW.upEq (M7 ho hm).symm ?_;exact qk.h):p:=h ⟨k⟩
theorem yy(h:p:=by exact K.fin (V.one (V.cellN jA jS)) ⟨by first|exact vg (by simp_all [Ca])|exact m0 (by simp_all [Ca])|exact vh (by simp_all [Ca]),rfl⟩):p:=h
theorem yz(h:p:=by exact K.fin (V.one (V.cellN jA jS)) ⟨by first|exact m0 (by simp_all [Dl]),rfl⟩):p:=h
theorem uh(h:p:=by exact K.fin (V.one V.tmp) ⟨by simp_all [Ea,I0,fm],rfl⟩):p:=h
theorem z6(h:p:=by exact K.fin (V.one V.tmp) ⟨by simp_all [C8,I0],rfl⟩):p:=h
theorem k7(h:p:=by exact K.fin (V.one V.tmp) ⟨by rw [hm],rfl⟩):p:=h
end Go.SX.Nb
namespace Go.SX.Nb
open Go Go.SX Go.Proofs
@[reducible,instance] def JA2:=JA.mk (P:=Tryz.prog) Tryz.isAgg2
@[reducible,instance] def JA3:=JA.mk (P:=Tryz.prog) Tryz.isAgg3
@[reducible,instance] def JA4:=JA.mk (P:=Tryz.prog) Tryz.isAgg4
@[reducible,instance] def JA9:=JA.mk (P:=Tryz.prog) Tryz.isAgg9
@[reducible,instance] def AD4:=JA.mk (P:=Tryz.prog) Tryz.isAgg22
@[reducible,instance] def AD5:=JA.mk (P:=Tryz.prog) Tryz.isAgg23
@[reducible,instance] def AD6:=JA.mk (P:=Tryz.prog) Tryz.isAgg27
@[reducible,instance] def AD7:=JA.mk (P:=Tryz.prog) Tryz.isAgg34
@[reducible,instance] def AD8:=JA.mk (P:=Tryz.prog) Tryz.isAgg37
@[reducible,instance] def AD9:=JA.mk (P:=Tryz.prog) Tryz.isAgg42
@[reducible,instance] def ADa:=JA.mk (P:=Tryz.prog) Tryz.isAgg43
@[reducible,instance] def ADb:=JA.mk (P:=Tryz.prog) Tryz.isAgg45
@[reducible,instance] def ADc:=JA.mk (P:=Tryz.prog) Tryz.isAgg58
@[reducible,instance] def ADd:=JA.mk (P:=Tryz.prog) Tryz.isAgg60
@[reducible,instance] def ADe:=JA.mk (P:=Tryz.prog) Tryz.isAgg64
@[reducible,instance] def ADf:=JA.mk (P:=Tryz.prog) Tryz.isAgg91
@[reducible,instance] def ADg:=JA.mk (P:=Tryz.prog) Tryz.isAgg94
@[reducible,instance] def ACl:=JA.mk (P:=Tryz.prog) Tryz.isAgg125
@[reducible,instance] def ACm:=JA.mk (P:=Tryz.prog) Tryz.isAgg146
@[reducible,instance] def ACn:=JA.mk (P:=Tryz.prog) Tryz.isAgg148
@[reducible,instance] def ACo:=JA.mk (P:=Tryz.prog) Tryz.isAgg155
@[reducible,instance] def ACp:=JA.mk (P:=Tryz.prog) Tryz.isAgg220
@[reducible,instance] def JS2:=JS.mk (P:=Tryz.prog) Tryz.sizeOf2
@[reducible,instance] def JS3:=JS.mk (P:=Tryz.prog) Tryz.sizeOf3
@[reducible,instance] def JS4:=JS.mk (P:=Tryz.prog) Tryz.sizeOf4
@[reducible,instance] def JS9:=JS.mk (P:=Tryz.prog) Tryz.sizeOf9
@[reducible,instance] def ADh:=JS.mk (P:=Tryz.prog) Tryz.sizeOf22
@[reducible,instance] def ADi:=JS.mk (P:=Tryz.prog) Tryz.sizeOf23
@[reducible,instance] def ADj:=JS.mk (P:=Tryz.prog) Tryz.sizeOf27
@[reducible,instance] def ADk:=JS.mk (P:=Tryz.prog) Tryz.sizeOf34
@[reducible,instance] def ADl:=JS.mk (P:=Tryz.prog) Tryz.sizeOf37
@[reducible,instance] def ADm:=JS.mk (P:=Tryz.prog) Tryz.sizeOf42
@[reducible,instance] def ADn:=JS.mk (P:=Tryz.prog) Tryz.sizeOf43
@[reducible,instance] def ADo:=JS.mk (P:=Tryz.prog) Tryz.sizeOf45
@[reducible,instance] def ADp:=JS.mk (P:=Tryz.prog) Tryz.sizeOf58
@[reducible,instance] def ADq:=JS.mk (P:=Tryz.prog) Tryz.sizeOf60
@[reducible,instance] def ADr:=JS.mk (P:=Tryz.prog) Tryz.sizeOf64
@[reducible,instance] def ADs:=JS.mk (P:=Tryz.prog) Tryz.sizeOf91
@[reducible,instance] def ACq:=JS.mk (P:=Tryz.prog) Tryz.sizeOf107
@[reducible,instance] def ACr:=JS.mk (P:=Tryz.prog) Tryz.sizeOf125
@[reducible,instance] def ACs:=JS.mk (P:=Tryz.prog) Tryz.sizeOf146
@[reducible,instance] def ACt:=JS.mk (P:=Tryz.prog) Tryz.sizeOf148
@[reducible,instance] def JU3:=JU.mk (P:=Tryz.prog) Tryz.underlying3
@[reducible,instance] def JU4:=JU.mk (P:=Tryz.prog) Tryz.underlying4
@[reducible,instance] def JU5:=JU.mk (P:=Tryz.prog) Tryz.underlying5
@[reducible,instance] def JU9:=JU.mk (P:=Tryz.prog) Tryz.underlying9
@[reducible,instance] def ADt:=JU.mk (P:=Tryz.prog) Tryz.underlying20
@[reducible,instance] def ADu:=JU.mk (P:=Tryz.prog) Tryz.underlying22
@[reducible,instance] def ADv:=JU.mk (P:=Tryz.prog) Tryz.underlying23
@[reducible,instance] def ADw:=JU.mk (P:=Tryz.prog) Tryz.underlying34
@[reducible,instance] def ADx:=JU.mk (P:=Tryz.prog) Tryz.underlying37
@[reducible,instance] def ADy:=JU.mk (P:=Tryz.prog) Tryz.underlying42
@[reducible,instance] def ADz:=JU.mk (P:=Tryz.prog) Tryz.underlying43
@[reducible,instance] def AE0:=JU.mk (P:=Tryz.prog) Tryz.underlying45
@[reducible,instance] def AE1:=JU.mk (P:=Tryz.prog) Tryz.underlying58
@[reducible,instance] def AE2:=JU.mk (P:=Tryz.prog) Tryz.underlying60
@[reducible,instance] def AE3:=JU.mk (P:=Tryz.prog) Tryz.underlying64
@[reducible,instance] def AE4:=JU.mk (P:=Tryz.prog) Tryz.underlying91
@[reducible,instance] def AE5:=JU.mk (P:=Tryz.prog) Tryz.underlying96
@[reducible,instance] def ACu:=JU.mk (P:=Tryz.prog) Tryz.underlying109
@[reducible,instance] def ACv:=JU.mk (P:=Tryz.prog) Tryz.underlying125
@[reducible,instance] def ACw:=JU.mk (P:=Tryz.prog) Tryz.underlying146
@[reducible,instance] def ACx:=JU.mk (P:=Tryz.prog) Tryz.underlying148
@[reducible,instance] def ACy:=JU.mk (P:=Tryz.prog) Tryz.underlying184
@[reducible,instance] def ACz:=JU.mk (P:=Tryz.prog) Tryz.underlying222
@[reducible,instance] def JZ3:=JZ.mk (P:=Tryz.prog) Tryz.zeroValue3
@[reducible,instance] def JZ4:=JZ.mk (P:=Tryz.prog) Tryz.zeroValue4
@[reducible,instance] def JZ9:=JZ.mk (P:=Tryz.prog) Tryz.zeroValue9
@[reducible,instance] def AE6:=JZ.mk (P:=Tryz.prog) Tryz.zeroValue22
@[reducible,instance] def AE7:=JZ.mk (P:=Tryz.prog) Tryz.zeroValue23
@[reducible,instance] def AE8:=JZ.mk (P:=Tryz.prog) Tryz.zeroValue27
@[reducible,instance] def AE9:=JZ.mk (P:=Tryz.prog) Tryz.zeroValue34
@[reducible,instance] def AEa:=JZ.mk (P:=Tryz.prog) Tryz.zeroValue37
@[reducible,instance] def AEb:=JZ.mk (P:=Tryz.prog) Tryz.zeroValue42
@[reducible,instance] def AEc:=JZ.mk (P:=Tryz.prog) Tryz.zeroValue43
@[reducible,instance] def AEd:=JZ.mk (P:=Tryz.prog) Tryz.zeroValue45
@[reducible,instance] def AEe:=JZ.mk (P:=Tryz.prog) Tryz.zeroValue58
@[reducible,instance] def AEf:=JZ.mk (P:=Tryz.prog) Tryz.zeroValue60
@[reducible,instance] def AEg:=JZ.mk (P:=Tryz.prog) Tryz.zeroValue64
@[reducible,instance] def AEh:=JZ.mk (P:=Tryz.prog) Tryz.zeroValue91
@[reducible,instance] def AEi:=JZ.mk (P:=Tryz.prog) Tryz.zeroValue96
@[reducible,instance] def AD0:=JZ.mk (P:=Tryz.prog) Tryz.zeroValue109
@[reducible,instance] def AD1:=JZ.mk (P:=Tryz.prog) Tryz.zeroValue125
@[reducible,instance] def AD2:=JZ.mk (P:=Tryz.prog) Tryz.zeroValue148
@[reducible,instance] def AD3:=JZ.mk (P:=Tryz.prog) Tryz.zeroValue222
end Go.SX.Nb
