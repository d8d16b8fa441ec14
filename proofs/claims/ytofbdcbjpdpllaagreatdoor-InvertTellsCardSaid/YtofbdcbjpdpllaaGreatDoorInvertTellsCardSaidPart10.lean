/- On the way (part 10). -/
import Derived.Lib.ItoaLen
import Derived.Test.YtofbdcbjpdpllaaGreatDoorInvertTellsCardSaidPart9
set_option linter.all false
namespace Go.SX.Nb
open Go Go.SX Go.Proofs
variable [ErrAt]
set_option maxRecDepth 4000
theorem AVs (a b:Int) (a0 : -9223372036854775808≤a) (a1:a≤9223372036854775807) (b0 : -9223372036854775808≤b) (b1:b≤9223372036854775807):a.natAbs*b.natAbs<B32 ^ 5:=by
 have:a.natAbs*b.natAbs≤9223372036854775808*9223372036854775808:=Nat.mul_le_mul (by omega) (by omega)
 have h2:(9223372036854775808*9223372036854775808:Nat)<B32 ^ 5:=by decide
 omega
theorem AMe {a:Int} (a0 : -9223372036854775808≤a) (a1:a≤9223372036854775807):a.natAbs<B32 ^ 5∧a.natAbs<B32 ^ 2:=by
 have h2:(9223372036854775809:Nat)≤B32 ^ 5:=by decide
 have h3:(9223372036854775809:Nat)≤B32 ^ 2:=by decide
 omega
section
variable {t:Str} {a b:Val}
theorem V9 (h3:(Bt t==3)=false) (h:(t==[38])=true):J7 t a b=Jb a b:=by rw [Zz h3,if_pos h]
theorem zk (h3:(Bt t==3)=false) (h:(t==[38])=false) (hk:((a.kind != 1) || (b.kind != 1))=true):J7 t a b=(noV,10):=by
 rw [Zz h3,if_neg (by rw [h];simp)]
 have:(!Cx [a,b] [1,1])=true:=by
  simp only [Cx,R0]
  simp only [Dg,bne_iff_ne,ne_eq] at hk
  simp
  exact hk
 rw [if_pos this]
 rfl
theorem zl (h3:(Bt t==3)=false) (h:(t==[38])=false) (hk:((a.kind != 1) || (b.kind != 1))=false):J7 t a b=Ga (Gc t a.n b.n):=by
 rw [Zz h3,if_neg (by rw [h];simp)]
 have:(!Cx [a,b] [1,1])=false:=by
  simp only [Df,bne_eq_false_iff_eq] at hk
  simp [Cx,hk.1,hk.2]
 rw [if_neg (by rw [this];simp)]
theorem AMf (h:((a.kind != 2) || (b.kind != 2))=true):Jb a b=(noV,10):=by
 unfold Jb
 have:(!Cx [a,b] [2,2])=true:=by
  simp only [Cx,R0]
  simp only [Dg,bne_iff_ne,ne_eq] at h
  simp
  exact h
 rw [if_pos this]
 rfl
theorem AMg (h:((a.kind != 2) || (b.kind != 2))=false) (h2:decide ((200:Int)<(a.s.length:Int)+(b.s.length:Int))=true):Jb a b=(noV,3):=by
 unfold Jb
 have:(!Cx [a,b] [2,2])=false:=by
  simp only [Df,bne_eq_false_iff_eq] at h
  simp [Cx,h.1,h.2]
 rw [if_neg (by rw [this];simp),if_pos h2]
 rfl
theorem AMh (h:((a.kind != 2) || (b.kind != 2))=false) (h2:decide ((200:Int)<(a.s.length:Int)+(b.s.length:Int))=false):Jb a b=(⟨2,0,a.s++b.s⟩,0):=by
 unfold Jb
 have:(!Cx [a,b] [2,2])=false:=by
  simp only [Df,bne_eq_false_iff_eq] at h
  simp [Cx,h.1,h.2]
 rw [if_neg (by rw [this];simp),if_neg (by rw [h2];simp)]
 unfold Rq
 simp only [decide_eq_false_iff_not] at h2
 rw [Dn (by rw [Aw];omega)]
end
theorem AIh {t:Str} {a b:Int} (h1:(t==[43])=false) (h2:(t==[45])=false) (h3:(t==[42])=false) (hb:(b==0)=true):Ga (Gc t a b)=(noV,5):=by
 unfold Gc Yt T8
 rw [if_neg (by rw [h1];simp),if_neg (by rw [h2];simp),if_neg (by rw [h3];simp),if_pos hb,if_pos hb]
 split<;>rfl
theorem AVt (t:Str) (a b:Val) (fa:Fine a) (fb:Fine b) (hal:a.s.length≤1048576) (hbl:b.s.length≤1048576) (Hp:List AObj):AFun Tryz.prog 190 [Ac t,Ca a,Ca b] Hp (Nt (J7 t a b)):=by
 have ea:=AMe fa.lo fa.hi
 have eb:=AMe fb.lo fb.hi
 refine Aj [.cell 6 23,.tmp 7] [0,1,2] Tryz.func190 Tryz.ntmps190 (fun d=>?_)
 refine ABc ?_;refine A2 [0,4,5,6] ?_;refine Z25 ?_;refine A9 Tryz.call147 (AH5 t _) ?_;refine A4 ?_;refine A2 [0,4,5,6,16] ?_
 refine A3 (fun ht16=>?_) (fun ht16=>?_)
 ·refine O8 ?_;refine A2 [0,4,5,6,21] ?_
  refine A3 (fun ht21=>?_) (fun ht21=>?_)
  ·refine Z28 ?_;refine ns ?_;exact A8 (As (Ap jA jS) A7) ⟨by rw [AEk ht16 ht21];try rfl,rfl⟩
  have hbc:=AIg fa.plain fb.plain ht16 ht21
  refine Z3 ?_;refine C3 [0,0,3,0,0,31,63,127] 5 Am (by kernel_rfl) ?_;refine Z9 ?_;refine Cd Tryz.call245 (AR8 a b hal _) ?_;refine Z85 ?_;refine A9 Tryz.call245 (AR8 b a hbl _) ?_;refine Z0 ?_;refine A2 [0,6,8,9] ?_;refine Z25 ?_;refine A2 [6,8,9,29] ?_;refine Z97 ?_;refine A2 [6,8,9,29,30] ?_
  refine A3 (fun ht30=>?_) (fun ht30=>?_)
  ·refine Z14 ?_;refine Nj ?_;refine ABo ?_;exact A8 (As (Ap jA jS) A7) ⟨by rw [hbc];unfold i8;rw [if_pos ht30];try rfl,rfl⟩
  refine Z1 ?_;refine A2 [6,8,9,29,39] ?_
  refine A3 (fun ht39=>?_) (fun ht39=>?_)
  ·refine Z1 ?_;refine Z92 ?_;refine ABo ?_;exact A8 (As (Ap jA jS) A7) ⟨by rw [hbc];unfold i8;rw [if_neg (by rw [ht30];simp),if_pos ht39];try rfl,rfl⟩
  refine Z1 ?_;refine A2 [6,8,9,29,46] ?_
  refine A3 (fun ht46=>?_) (fun ht46=>?_)
  ·refine Z2 ?_;refine ABo ?_;exact A8 (As (Ap jA jS) A7) ⟨by rw [hbc];unfold i8;rw [if_neg (by rw [ht30];simp),if_neg (by rw [ht39];simp),if_pos ht46];try rfl,rfl⟩
  refine Z1 ?_;refine A2 [6,8,9,29,50] ?_
  refine A3 (fun ht50=>?_) (fun ht50=>?_)
  ·refine Z1 ?_;refine ABo ?_;exact A8 (As (Ap jA jS) A7) ⟨by rw [hbc];unfold i8;rw [if_neg (by rw [ht30];simp),if_neg (by rw [ht39];simp),if_neg (by rw [ht46];simp),if_pos ht50];try rfl,rfl⟩
  refine Z1 ?_;refine A2 [6,8,9,55] ?_
  refine A3 (fun ht55=>?_) (fun ht55=>?_)
  ·refine Z2 ?_;refine ABo ?_;exact A8 (As (Ap jA jS) A7) ⟨by rw [hbc];unfold i8;rw [if_neg (by rw [ht30];simp),if_neg (by rw [ht39];simp),if_neg (by rw [ht46];simp),if_neg (by rw [ht50];simp),if_pos ht55];try rfl,rfl⟩
  refine aq ?_;refine AKq ?_;exact A8 (As (Ap jA jS) A7) ⟨by rw [hbc];unfold i8;rw [if_neg (by rw [ht30];simp),if_neg (by rw [ht39];simp),if_neg (by rw [ht46];simp),if_neg (by rw [ht50];simp),if_neg (by rw [ht55];simp)];try rfl,rfl⟩
 refine Re ?_;refine A2 [0,4,5,6,63] ?_
 refine A3 (fun ht63=>?_) (fun ht63=>?_)
 ·refine Z46 ?_;refine Mf ?_;refine A2 [4,5,6,71] ?_
  refine A3 (fun ht71=>?_) (fun ht71=>?_)
  ·refine Z28 ?_;refine ns ?_;exact A8 (As (Ap jA jS) A7) ⟨by rw [V9 ht16 ht63,AMf ht71];try rfl,rfl⟩
  refine fj ?_;refine Z72 ?_;refine A2 [4,5,6,80] ?_
  refine A3 (fun ht80=>?_) (fun ht80=>?_)
  ·refine Z28 ?_;refine ns ?_;exact A8 (As (Ap jA jS) A7) ⟨by rw [V9 ht16 ht63,AMg ht71 ht80];try rfl,rfl⟩
  refine U9 ?_
  refine A4 (h:=Nc (hl:=fun _=>by omega)) (hr:=?_)
  refine AK9 ?_;exact A8 (As (Ap jA jS) A7) ⟨by rw [V9 ht16 ht63,AMh ht71 ht80];try rfl,rfl⟩
 refine fj ?_;refine Mf ?_;refine A2 [0,4,5,6,95] ?_
 refine A3 (fun ht95=>?_) (fun ht95=>?_)
 ·refine Z28 ?_;refine Z51 ?_;exact A8 (As (Ap jA jS) A7) ⟨by rw [zk ht16 ht63 ht95];try rfl,rfl⟩
 have hba:=zl (a:=a) (b:=b) ht16 ht63 ht95
 refine Z3 ?_;refine Hc [0,1,3,0,8,31,0,0,255,511] [] [.q 6 [] [],.s [10] none [] [],.s [11] none [] [],.s [10] none [] [],.s [11] none [] []] (fun _=>Hp) (fun _=>[.cells 23 [A5 0,A5 0,Ac []]]) Am (by kernel_rfl) rfl rfl (fun _=>rfl) ?_
 apply Y.q
 ·intro B hT hF
  refine Z9 ?_;refine Cd Tryz.call193 (yz a.n fa.lo fa.hi _) ?_;refine Z9 ?_;refine Cd Tryz.call193 (yz b.n fb.lo fb.hi _) ?_;exact ar
 case hTF=>decide
 refine Y.allocP Tryz.zeroValue236 ?_;refine Y.allocP Tryz.zeroValue236 ?_;refine Y.storeP Tryz.sizeOf236 ?_;refine Y.storeP Tryz.sizeOf236 ?_;refine Hd (tn:=[])  ?_;refine A2 [0,4,5,6,10,11] ?_;refine Z25 ?_;refine A2 [0,4,5,6,10,11,103] ?_;refine Z97 ?_;refine A2 [0,4,5,6,10,11,103,104] ?_
 refine A3 (fun ht104=>?_) (fun ht104=>?_)
 ·refine Z1 ?_;refine A9 Tryz.call246 (AMa (decide (a.n<0)) a.n.natAbs (decide (b.n<0)) b.n.natAbs ea.1 eb.1 _) ?_;refine A9 Tryz.call191 (zc _ _ (AEm fa.lo fa.hi fb.lo fb.hi) _) ?_;refine wi ?_;exact A8 (As (Ap jA jS) A7) ⟨by rw [hba,show Gc t a.n b.n=bb a.n b.n from if_pos ht104,L0,zf fa.lo fa.hi fb.lo fb.hi];try rfl,rfl⟩
 refine Z1 ?_;refine A2 [0,4,5,6,10,11,103,112] ?_
 refine A3 (fun ht112=>?_) (fun ht112=>?_)
 ·refine C3 [0,0,2,7,15,31,31,127,255] 7 Am (by kernel_rfl) ?_;refine Z9 ?_;refine Cd Tryz.call192 (AQz (decide (b.n<0)) (dig b.n.natAbs) _) ?_;refine Cd Tryz.call246 (AMa (decide (a.n<0)) a.n.natAbs (!(decide (b.n<0))) b.n.natAbs ea.1 eb.1 _) ?_;refine Cd Tryz.call191 (zc _ _ (AEm fa.lo fa.hi fb.lo fb.hi) _) ?_;refine Z85 ?_;refine Z93 ?_;exact A8 (As (Ap jA jS) A7) ⟨by rw [hba,show Gc t a.n b.n=Pa a.n b.n from (by unfold Gc;rw [if_neg (by rw [ht104];simp),if_pos ht112]),L0,zg fa.lo fa.hi fb.lo fb.hi];try rfl,rfl⟩
 refine Z1 ?_;refine A2 [0,4,5,6,10,11,121] ?_
 refine A3 (fun ht121=>?_) (fun ht121=>?_)
 ·refine Z1 ?_;refine A9 Tryz.call247 (AR2 (decide (a.n<0)) a.n.natAbs (decide (b.n<0)) b.n.natAbs ea.2 eb.2 _) ?_;refine A9 Tryz.call191 (zc _ _ (AVs a.n b.n fa.lo fa.hi fb.lo fb.hi) _) ?_;refine wi ?_;exact A8 (As (Ap jA jS) A7) ⟨by rw [hba,show Gc t a.n b.n=T7 a.n b.n from (by unfold Gc;rw [if_neg (by rw [ht104];simp),if_neg (by rw [ht112];simp),if_pos ht121]),L0,zh fa.lo fa.hi fb.lo fb.hi];try rfl,rfl⟩
 refine Z18 ?_;refine Z31 ?_;refine A2 [0,4,5,6,131] ?_
 refine A3 (fun ht131=>?_) (fun ht131=>?_)
 ·refine Z28 ?_;refine Z51 ?_;exact A8 (As (Ap jA jS) A7) ⟨by rw [hba,AIh ht104 ht112 ht121 ht131];try rfl,rfl⟩
 refine U9 ?_;refine A9 Tryz.call248 (AVr a.n b.n fa.lo fa.hi fb.lo fb.hi (by simpa using ht131) _) ?_;refine Z53 ?_;refine ABh ?_;refine A2 [0,6,12,13] ?_;refine Z8 ?_;refine A2 [6,12,13,142] ?_
 refine A3 (fun ht142=>?_) (fun ht142=>?_)
 ·refine Z2 ?_;refine A9 Tryz.call191 (zc _ _ (Sc (Ws _ _) ea.1) _) ?_;refine Z0 ?_;refine Z51 ?_;exact A8 (As (Ap jA jS) A7) ⟨by rw [hba,show Gc t a.n b.n=Yt a.n b.n from (by unfold Gc;rw [if_neg (by rw [ht104];simp),if_neg (by rw [ht112];simp),if_neg (by rw [ht121];simp),if_pos ht142]),L0,zi fa.lo fa.hi fb.lo fb.hi ht131];try rfl,rfl⟩
 refine Z58 ?_;refine A9 Tryz.call191 (zc _ _ (Sc (Se _ _) ea.1) _) ?_;refine Z0 ?_;refine jb ?_;exact A8 (As (Ap jA jS) A7) ⟨by rw [hba,show Gc t a.n b.n=T8 a.n b.n from (by unfold Gc;rw [if_neg (by rw [ht104];simp),if_neg (by rw [ht112];simp),if_neg (by rw [ht121];simp),if_neg (by rw [ht142];simp)]),L0,zj fa.lo fa.hi fb.lo fb.hi ht131];try rfl,rfl⟩

set_option maxRecDepth 8000
/-! The reference's reading of a number. -/
def rdS (x:Nat×Bool) (c:UInt8):Nat×Bool:=if x.2 then x else (x.1*10+(c.toNat-48),decide (18446744073709551616≤x.1*10+(c.toNat-48)))
def rdL (d:Str):Nat×Bool:=d.foldl rdS (0,false)
def Tn (c:UInt8):Bool:=(decide (48≤c.toNat)&&decide (c.toNat≤57))
theorem i9:∀(l:Str) (m:Nat),l.foldl rdS (m,true)=(m,true)
 | [],m=>rfl
 | c::r,m=>i9 r m
theorem ue {d:Str} {i:Nat} (h:i<d.length):rdL (d.take (i+1))=rdS (rdL (d.take i)) d[i]:=by
 unfold rdL
 rw [Gm h,Xa]
 rfl
theorem AEn {l:Str} (hl:∀c∈l,Tn c=true):∀x:Nat×Bool,(x.2=false→x.1<18446744073709551616)→(l.foldl rdS x).2=false→(l.foldl rdS x).1<18446744073709551616:=by
 induction l with
 | nil=>exact fun x h h2=>h h2
 | cons c r ih =>
  intro x h h2
  refine ih (fun y hy=>hl y (It _ hy)) (rdS x c) (fun h3=>?_) h2
  unfold rdS at h3 ⊢
  split
  ·rename_i h4;rw [if_pos h4] at h3;rw [h4] at h3;cases h3
  rename_i h4;rw [if_neg h4] at h3;simp at h3;simpa using h3
theorem mf:∀(l:Str) (m:Nat),(∀c∈l,Tn c=true)→m<18446744073709551616→Lib.parseUintM 18446744073709551615 m l=if (l.foldl rdS (m,false)).2=true then .range else .ok (l.foldl rdS (m,false)).1
 | [],m,_,_=>by rw [Lib.parseUintM];rfl
 | c::r,m,h,hm=>by
  have hc:=h c (by simp)
  unfold Tn at hc
  simp only [Ah,decide_eq_true_eq] at hc
  have hr:=fun y hy=>h y (It _ hy)
  have e:(c::r).foldl rdS (m,false)=r.foldl rdS (m*10+(c.toNat-48),decide (18446744073709551616≤m*10+(c.toNat-48))):=rfl
  rw [Lib.parseUintM,if_pos hc,e]
  by_cases h1:1844674407370955162≤m
  ·rw [if_pos h1,decide_eq_true (by omega),i9,if_pos rfl]
  rw [if_neg h1]
  by_cases h2:18446744073709551615<m*10+(c.toNat-48)
  ·rw [if_pos h2,decide_eq_true (by omega),i9,if_pos rfl]
  rw [if_neg h2,decide_eq_false (by omega)]
  exact mf r _ hr (by omega)
theorem uf (c:UInt8):Tn c=digs.contains c:=(Mg c).symm
/-- What is wrong with a text that is no number. -/
theorem AIi {s d:Str} (hd:d=Mp s) (h:((((d.length:Nat):Int)==0) || (decide ((1:Int)<((s.length:Nat):Int))&&(((d.headD 0).toNat:Int)==48)))=true):Cf s=(0,6):=by
 have:Hf s=true:=by
  unfold Hf
  rw [←hd]
  simp only [Dg,Ah,beq_iff_eq,decide_eq_true_eq] at h
  rcases h with h|⟨h1,h2⟩
  ·have:d=[]:=N4 (by omega)
   rw [this];rfl
  have e:d.headD 0=48:=Kp.1 (by have:(48:UInt8).toNat=48:=rfl;omega)
  rw [e,decide_eq_true (by omega)]
  simp
 unfold Cf
 rw [if_pos this]
theorem AIj {s d:Str} (hd:d=Mp s) {i:Nat} (hi:i<d.length) (h:(decide (((d[i].toNat:Nat):Int)<48) || decide ((57:Int)<((d[i].toNat:Nat):Int)))=true):Cf s=(0,6):=by
 have:Hf s=true:=by
  unfold Hf
  rw [←hd]
  cases hb:Lib.trimS d digs==[] with
  | false=>simp
  | true =>
   exfalso
   have hb':=trimS_nil.1 (eq_of_beq hb) d[i] (Bb hi)
   rw [←uf] at hb'
   unfold Tn at hb'
   simp only [Ah,decide_eq_true_eq] at hb'
   simp only [Dg,decide_eq_true_eq] at h
   omega
 unfold Cf
 rw [if_pos this]
theorem ug {s d:Str} (hd:d=Mp s) (h:((((d.length:Nat):Int)==0) || (decide ((1:Int)<((s.length:Nat):Int))&&(((d.headD 0).toNat:Int)==48)))=false) (ha:∀c∈d,Tn c=true):Cf s=if (rdL d).2=true then (0,4) else Ex (decide (((d.length:Nat):Int)<((s.length:Nat):Int))) (rdL d).1:=by
 simp only [Df,dq,beq_eq_false_iff_ne,ne_eq,decide_eq_false_iff_not] at h
 have hne:d≠[]:=fun e=>h.1 (by rw [e];rfl)
 have hg:Hf s=false:=by
  unfold Hf
  rw [←hd]
  have h1:(d==[])=false:=by simpa using hne
  have h2:(Lib.trimS d digs==[])=true:=by
   have:=trimS_nil.2 (fun b hb=>by rw [←uf];exact ha b hb)
   simpa using this
  have h3:((d.headD 0==48)&&decide (1<s.length))=false:=by
   rw [dq]
   rcases h.2 with h4|h4
   ·exact .inr (decide_eq_false (by omega))
   refine .inl ?_
   rw [beq_eq_false_iff_ne]
   intro e
   rw [e] at h4
   exact h4 rfl
  rw [h1,h2,h3]
  rfl
 have hl:=AEn ha (0,false) (fun _=>by decide)
 have hp:=mf d 0 ha (by decide)
 have hU:Lib.parseUintB 64 d=if (rdL d).2=true then .range else .ok (rdL d).1:=by
  unfold Lib.parseUintB
  rw [if_neg hne]
  exact hp
 unfold Cf
 rw [hg,if_neg (by simp)]
 have p1:(2:Nat) ^ (64-1)=9223372036854775808:=rfl
 rcases K4 s with ⟨h3,h4⟩|⟨r,h3,h4⟩
 ·have e:d=s:=hd.trans h4
  subst e
  cases d with
  | nil=>exact absurd rfl hne
  | cons c r =>
   have hc:=ha c (by simp)
   unfold Tn at hc
   simp only [Ah,decide_eq_true_eq] at hc
   have n1:¬(c.toNat=43∨c.toNat=45):=by omega
   have n2:¬c.toNat=45:=by omega
   simp only [Lib.parseIntB,if_neg n1,hU]
   cases ho:(rdL (c::r)).2 with
   | true=>simp
   | false =>
    have hm:=hl ho
    simp only [An,if_false]
    rw [decide_eq_false (show ¬(((c::r).length:Nat):Int)<(((c::r).length:Nat):Int) by omega)]
    unfold Ex
    simp only [n2,not_false_eq_true,true_and,false_and,if_false,Es,Da,Dc,An,decide_eq_true_eq]
    by_cases hx:2 ^ (64-1)≤(rdL (c::r)).1
    ·rw [if_pos hx,if_neg (by omega)]
    rw [if_neg hx,if_pos (by omega)]
 have e:d=r:=hd.trans h4
 subst e
 subst h3
 have n1:((45:UInt8).toNat=43∨(45:UInt8).toNat=45):=.inr rfl
 have n2:(45:UInt8).toNat=45:=rfl
 simp only [Lib.parseIntB,if_pos n1,hU]
 cases ho:(rdL d).2 with
 | true=>simp
 | false =>
  have hm:=hl ho
  simp only [An,if_false]
  rw [decide_eq_true (show ((d.length:Nat):Int)<(((45::d:Str).length:Nat):Int) by simp;omega)]
  unfold Ex
  simp only [n2,not_true_eq_false,true_and,false_and,if_false,if_true,Ck,Es,Dc,An,decide_eq_true_eq]
  by_cases hx:2 ^ (64-1)<(rdL d).1
  ·rw [if_pos hx,if_neg (by omega)]
  rw [if_neg hx,if_pos (by omega)]
set_option maxRecDepth 4000
theorem gd1 {s:Str} (h:(decide ((0:Int)<((s.length:Nat):Int))==true)=true):s≠[]:=by rintro rfl;simp at h
theorem gd2 {d:Str} {b:Bool} (h:(((((d.length:Nat):Int)==0)==false)&&b)=true):d≠[]:=by rintro rfl;simp at h
theorem AR9 (a b:Nat) (ha:a<B32 ^ 5) (hb:b<B32 ^ 5) (Hp:List AObj):AFun Tryz.prog 246 [.agg (wF false (dig a)),.agg (wF false (dig b))] Hp (.agg (wF false (dig (a+b)))):=AMa false a false b ha hb Hp
theorem AVu (a b:Nat) (ha:a<B32 ^ 2) (hb:b<B32 ^ 2) (Hp:List AObj):AFun Tryz.prog 247 [.agg (wF false (dig a)),.agg (wF false (dig b))] Hp (.agg (wF false (dig (a*b)))):=AR2 false a false b ha hb Hp
theorem AVv (Hp:List AObj):AFun Tryz.prog 193 [A5 10] Hp (.agg (wF false (dig 10))):=yz 10 (by decide) (by decide) Hp
theorem uh {p q:Nat} (hp:p<256) (hq:q<256):Ce (wF false (dig p)) 1 [Bw (q:Nat)]=wF false (dig q):=by
 have h0:dig q 0=q:=by rw [ub];omega
 refine i7 (k:=0) (by decide) h0 fun i hi=>?_
 have hb:B32 ^ 1≤B32 ^ i:=Wv (by decide) (by omega)
 have hb1:(256:Nat)≤B32 ^ 1:=by decide
 rw [Fq (m:=q) (i:=i) (by omega),Fq (m:=p) (i:=i) (by omega)]
theorem ui:wF false (dig 0)=[At false,Bw 0,Bw 0,Bw 0,Bw 0,Bw 0]:=by
 have:∀i,dig 0 i=0:=fun i=>by unfold dig;simp
 unfold wF
 rw [this,this,this,this,this]
 rfl
theorem w48 {c:UInt8} (h:48≤c.toNat):IntKind.u64.wrap (IntKind.u64.wrap ((c.toNat:Nat):Int)-48)=((c.toNat-48:Nat):Int):=by
 have:=c.toNat_lt
 simp only [IntKind.wrap_u64]
 omega
theorem mg {m:Nat} (h:m<B32 ^ 3):decide (0<((dig m 2:Nat):Int))=decide (18446744073709551616≤m):=by
 rw [decide_eq_decide]
 unfold dig
 simp only [B32,Nat.reducePow] at h ⊢
 omega
structure RdAt (d:Str) (x:Nat×Nat):Prop where
 le:x.1≤d.length
 dg:∀(j:Nat) (c:UInt8),j<x.1→d[j]? = some c→Tn c=true
 one:x.2<256
theorem RdAt.low {d:Str} {x:Nat×Nat} (h:RdAt d x) (ho:(rdL (d.take x.1)).2=false):(rdL (d.take x.1)).1<18446744073709551616:=by
 refine AEn (l:=d.take x.1) (fun c hc=>?_) (0,false) (fun _=>by decide) ho
 obtain ⟨j,hj⟩:=Cr hc
 have hj1:j<x.1:=by
  have:=(Ak.1 hj).1
  rw [E7] at this
  omega
 rw [Je,if_pos hj1] at hj
 exact h.dg j c hj1 hj
theorem AVw (s:Str) (hs:s.length≤1048576) (Hp:List AObj):AFun Tryz.prog 195 [Ac s] Hp (.tup [A5 (Cf s).1,A5 (Cf s).2]):=by
 refine Aj [.tmp 2,.tmp 3] [0] Tryz.func195 Tryz.ntmps195 (fun d=>?_)
 refine Z1 ?_;refine A2 [0] ?_;refine Z1 ?_;refine A2 [0,4] ?_;refine Z46 ?_;refine Bl ?_
 refine Bl (h:=Fj 0 (s.headD 0) (fun hB=>Kv (gd1 hB))) (hr:=?_)
 refine Z92 ?_;refine A2 [0,4,18] ?_
 refine A3 (fun ht18=>?_) (fun ht18=>?_)
 ·have h45:s.headD 0=45:=by
   simp only [Ah,decide_eq_true_eq,beq_iff_eq] at ht18
   exact Kp.1 (by have:(45:UInt8).toNat=45:=rfl;have:=ht18.2;omega)
  have h1s:1≤s.length:=by simp only [Ah,decide_eq_true_eq] at ht18;have:=ht18.1;omega
  obtain ⟨d,hd0⟩:∃d,d=s.drop 1:=⟨_,rfl⟩
  have hd:d=Mp s:=by
   rw [hd0]
   rcases K4 s with ⟨h3,h4⟩|⟨r,h3,h4⟩
   ·exfalso
    cases s with
    | nil=>simp at h1s
    | cons c r=>simp at h3 h45;exact h3 h45
   rw [h4,h3];rfl
  have hdl:d.length≤1048576:=by rw [hd0,Gl];omega
  refine Z48 ?_
  refine A4 (h:=R9 1 (fun _=>h1s) (fun _=>Ao _)) (hr:=?_)
  refine A4 ?_;refine A2 [0,4] ?_;refine Fl ?_;refine Z89 ?_
  refine D7 4 (Ac d) (by rw [hd0];exact Le.refl _) ?_
  refine Z0 ?_;refine Z42 ?_;refine Z27 ?_
  refine Bl (h:=Fj 0 (d.headD 0) (fun hB=>Kv (gd2 hB))) (hr:=?_)
  refine Nj ?_;refine A2 [0,4,33] ?_
  refine A3 (fun ht33=>?_) (fun ht33=>?_)
  ·exact AG4
  refine Xr ?_;refine Z79 ?_;refine A2 [0,4,5] ?_;refine Z2 ?_;refine A2 [0,4,5,6] ?_;refine E9 ?_;refine AOa ?_;refine La ?_;refine ABh ?_;refine A2 [0,4,5,6,7,8] ?_;refine Z25 ?_;refine av ?_
  refine B9 (α:=Nat×Nat) (fun x=>⟨82,Aa 0 (Ac s) (Aa 4 (Ac d) (Aa 5 (.ptr (oid Hp.length 0) 0) (Aa 6 (At (rdL (d.take x.1)).2) (Aa 7 (.ptr (oid Hp.length 1) 0) (Aa 8 (.ptr (oid Hp.length 2) 0) (Aa 9 (A5 (x.1:Nat)) (fun _=>.any))))))),Hp,[.cells 236 (wF false (dig (rdL (d.take x.1)).1)),.cells 236 (wF false (dig 10)),.cells 236 (wF false (dig x.2))],[],none⟩) (fun x=>RdAt d x) (fun x=>d.length-x.1) ((0,0)) ⟨Av _,fun j c hj=>by omega,by decide⟩ (Az (by simp only [List.take_zero,show rdL []=(0,false) from rfl,ui]<;>rfl)) rfl (fun x hx=>?_)
  obtain ⟨i,p⟩:=x
  simp only at hx ⊢
  refine Z46 ?_;refine A2 [0,4,5,6,7,8,9,40] ?_
  refine A3 (fun ht40=>?_) (fun ht40=>?_)
  ·have hil:i<d.length:=by simp at ht40;omega
   refine Z50 ?_;refine Z8 ?_
   refine A4 (h:=Fj i d[i] (fun _=>Ae hil)) (hr:=?_)
   refine Z42 ?_
   refine Bl (h:=Fj i d[i] (fun _=>Ae hil)) (hr:=?_)
   refine Z92 ?_;refine A2 [0,4,5,6,7,8,9,52] ?_
   refine A3 (fun ht52=>?_) (fun ht52=>?_)
   ·refine Z1 ?_;refine Z88 ?_;exact ANb
   have hdc:48≤d[i].toNat∧d[i].toNat≤57:=by
    simp only [Df,decide_eq_false_iff_not] at ht52
    omega
   have hnx:=ue hil
   refine Z98 ?_
   refine A4 (h:=Fj i d[i] (fun _=>Ae hil)) (hr:=?_)
   refine A4 ?_
   refine A4 (h:=Kg) (hr:=?_)
   rw [w48 hdc.1]
   refine AFn ?_
   refine Mb jS (hput:=uh hx.one (q:=(d[i].toNat-48)) (by have:=(d[i]).toNat_lt;omega)) (hfit:=by simp) ?_
   refine av ?_;refine Z1 ?_;refine A2 [0,4,5,6,7,8,9,61] ?_
   refine A3 (fun ht61=>?_) (fun ht61=>?_)
   ·have ho:(rdL (d.take i)).2=false:=by simpa using ht61
    have hml:=hx.low ho
    simp only at hml
    have hm2:(rdL (d.take i)).1<B32 ^ 2:=hml
    have hm5:(rdL (d.take i)).1*10<B32 ^ 5:=Cy (show (rdL (d.take i)).1*10<184467440737095516170 by omega) (by decide)
    have hm3:(rdL (d.take i)).1*10+(d[i].toNat-48)<B32 ^ 3:=Cy (show (rdL (d.take i)).1*10+(d[i].toNat-48)<184467440737095516170 by omega) (by decide)
    have hst:rdL (d.take (i+1))=((rdL (d.take i)).1*10+(d[i].toNat-48),decide (18446744073709551616≤(rdL (d.take i)).1*10+(d[i].toNat-48))):=by rw [hnx];exact if_neg (by rw [ho];simp)
    refine C3 [0,0,3,0,15,31] 4 Am (by kernel_rfl) ?_;refine Z9 ?_;refine AP0 ?_
    refine A9 Tryz.call246 (AR9 ((rdL (d.take i)).1*10) (d[i].toNat-48) hm5 (Cy (show (d[i].toNat-48)<256 by have:=(d[i]).toNat_lt;omega) (by decide)) _) ?_
    refine G4 ?_;refine A2 [0,4,5,7,8,9] ?_;refine Z48 ?_;refine Oz (2) jU Tryz.sizeOf233 (by decide) ?_;refine Z0 ?_
    rw [mg hm3]
    refine A4 ?_;refine av ?_;refine Me ?_;refine av ?_
    refine B2 (i+1,(d[i].toNat-48)) ⟨hil,fun j c hj hc=>?_,by have:=(d[i]).toNat_lt;show d[i].toNat-48<256;omega⟩ (by show d.length-(i+1)<d.length-i;omega) (Bz (by rw [hst]<;>rfl))
    rcases Bn j i with h|h
    ·exact hx.dg j c h hc
    have:j=i:=by have hj':j<i+1:=hj;omega
    subst this
    rw [Ae hil] at hc
    injection hc with hc
    rw [←hc]
    unfold Tn
    simp only [Ah,decide_eq_true_eq]
    exact hdc
   have ho:(rdL (d.take i)).2=true:=by simpa using ht61
   have hst:rdL (d.take (i+1))=rdL (d.take i):=by rw [hnx];exact if_pos ho
   refine Z87 ?_;refine av ?_
   refine B2 (i+1,(d[i].toNat-48)) ⟨hil,fun j c hj hc=>?_,by have:=(d[i]).toNat_lt;show d[i].toNat-48<256;omega⟩ (by show d.length-(i+1)<d.length-i;omega) (Bz (by rw [hst]<;>rfl))
   rcases Bn j i with h|h
   ·exact hx.dg j c h hc
   have:j=i:=by have hj':j<i+1:=hj;omega
   subst this
   rw [Ae hil] at hc
   injection hc with hc
   rw [←hc]
   unfold Tn
   simp only [Ah,decide_eq_true_eq]
   exact hdc
  have hie:d.take i=d:=Dn (by simp at ht40;omega)
  have hall:∀c∈d,Tn c=true:=fun c hc=>by
   obtain ⟨j,hj⟩:=Cr hc
   exact hx.dg j c (by have:=(Ak.1 hj).1;simp at ht40;omega) hj
  have hgood:=ug hd ht33 hall
  have hlow:=hx.low
  simp only at hlow
  rw [hie] at hlow ⊢
  refine Z52 ?_;refine Z21 ?_;refine Z0 ?_;refine G4 ?_;refine A2 [5,6] ?_;refine Z25 ?_;refine A2 [5,77] ?_
  refine A3 (fun ht77=>?_) (fun ht77=>?_)
  ·rw [if_pos ht77] at hgood
   exact AG4
  rw [if_neg (by rw [ht77];simp)] at hgood
  refine AOf ?_;refine Z72 ?_;exact ANd
 obtain ⟨d,hd0⟩:∃d,d=s:=⟨_,rfl⟩
 have hd:d=Mp s:=by
  rw [hd0]
  rcases K4 s with ⟨h3,h4⟩|⟨r,h3,h4⟩
  ·exact h4.symm
  exfalso
  rw [h3] at ht18
  simp at ht18<;>omega
 have hdl:d.length≤1048576:=by rw [hd0];exact hs
 refine Z3 ?_;refine Z89 ?_
 refine D7 4 (Ac d) (by rw [hd0];exact Le.refl _) ?_
 refine Z0 ?_;refine Z42 ?_;refine Z27 ?_
 refine Bl (h:=Fj 0 (d.headD 0) (fun hB=>Kv (gd2 hB))) (hr:=?_)
 refine Nj ?_;refine A2 [0,4,33] ?_
 refine A3 (fun ht33=>?_) (fun ht33=>?_)
 ·exact AG4
 refine Xr ?_;refine Z79 ?_;refine A2 [0,4,5] ?_;refine Z2 ?_;refine A2 [0,4,5,6] ?_;refine E9 ?_;refine AOa ?_;refine La ?_;refine ABh ?_;refine A2 [0,4,5,6,7,8] ?_;refine Z25 ?_;refine av ?_
 refine B9 (α:=Nat×Nat) (fun x=>⟨82,Aa 0 (Ac s) (Aa 4 (Ac d) (Aa 5 (.ptr (oid Hp.length 0) 0) (Aa 6 (At (rdL (d.take x.1)).2) (Aa 7 (.ptr (oid Hp.length 1) 0) (Aa 8 (.ptr (oid Hp.length 2) 0) (Aa 9 (A5 (x.1:Nat)) (fun _=>.any))))))),Hp,[.cells 236 (wF false (dig (rdL (d.take x.1)).1)),.cells 236 (wF false (dig 10)),.cells 236 (wF false (dig x.2))],[],none⟩) (fun x=>RdAt d x) (fun x=>d.length-x.1) ((0,0)) ⟨Av _,fun j c hj=>by omega,by decide⟩ (Az (by simp only [List.take_zero,show rdL []=(0,false) from rfl,ui]<;>rfl)) rfl (fun x hx=>?_)
 obtain ⟨i,p⟩:=x
 simp only at hx ⊢
 refine Z46 ?_;refine A2 [0,4,5,6,7,8,9,40] ?_
 refine A3 (fun ht40=>?_) (fun ht40=>?_)
 ·have hil:i<d.length:=by simp at ht40;omega
  refine Z50 ?_;refine Z8 ?_
  refine A4 (h:=Fj i d[i] (fun _=>Ae hil)) (hr:=?_)
  refine Z42 ?_
  refine Bl (h:=Fj i d[i] (fun _=>Ae hil)) (hr:=?_)
  refine Z92 ?_;refine A2 [0,4,5,6,7,8,9,52] ?_
  refine A3 (fun ht52=>?_) (fun ht52=>?_)
  ·refine Z1 ?_;refine Z88 ?_;exact ANb
  have hdc:48≤d[i].toNat∧d[i].toNat≤57:=by
   simp only [Df,decide_eq_false_iff_not] at ht52
   omega
  have hnx:=ue hil
  refine Z98 ?_
  refine A4 (h:=Fj i d[i] (fun _=>Ae hil)) (hr:=?_)
  refine A4 ?_
  refine A4 (h:=Kg) (hr:=?_)
  rw [w48 hdc.1]
  refine AFn ?_
  refine Mb jS (hput:=uh hx.one (q:=(d[i].toNat-48)) (by have:=(d[i]).toNat_lt;omega)) (hfit:=by simp) ?_
  refine av ?_;refine Z1 ?_;refine A2 [0,4,5,6,7,8,9,61] ?_
  refine A3 (fun ht61=>?_) (fun ht61=>?_)
  ·have ho:(rdL (d.take i)).2=false:=by simpa using ht61
   have hml:=hx.low ho
   simp only at hml
   have hm2:(rdL (d.take i)).1<B32 ^ 2:=hml
   have hm5:(rdL (d.take i)).1*10<B32 ^ 5:=Cy (show (rdL (d.take i)).1*10<184467440737095516170 by omega) (by decide)
   have hm3:(rdL (d.take i)).1*10+(d[i].toNat-48)<B32 ^ 3:=Cy (show (rdL (d.take i)).1*10+(d[i].toNat-48)<184467440737095516170 by omega) (by decide)
   have hst:rdL (d.take (i+1))=((rdL (d.take i)).1*10+(d[i].toNat-48),decide (18446744073709551616≤(rdL (d.take i)).1*10+(d[i].toNat-48))):=by rw [hnx];exact if_neg (by rw [ho];simp)
   refine C3 [0,0,3,0,15,31] 4 Am (by kernel_rfl) ?_;refine Z9 ?_;refine AP0 ?_
   refine A9 Tryz.call246 (AR9 ((rdL (d.take i)).1*10) (d[i].toNat-48) hm5 (Cy (show (d[i].toNat-48)<256 by have:=(d[i]).toNat_lt;omega) (by decide)) _) ?_
   refine G4 ?_;refine A2 [0,4,5,7,8,9] ?_;refine Z48 ?_;refine Oz (2) jU Tryz.sizeOf233 (by decide) ?_;refine Z0 ?_
   rw [mg hm3]
   refine A4 ?_;refine av ?_;refine Me ?_;refine av ?_
   refine B2 (i+1,(d[i].toNat-48)) ⟨hil,fun j c hj hc=>?_,by have:=(d[i]).toNat_lt;show d[i].toNat-48<256;omega⟩ (by show d.length-(i+1)<d.length-i;omega) (Bz (by rw [hst]<;>rfl))
   rcases Bn j i with h|h
   ·exact hx.dg j c h hc
   have:j=i:=by have hj':j<i+1:=hj;omega
   subst this
   rw [Ae hil] at hc
   injection hc with hc
   rw [←hc]
   unfold Tn
   simp only [Ah,decide_eq_true_eq]
   exact hdc
  have ho:(rdL (d.take i)).2=true:=by simpa using ht61
  have hst:rdL (d.take (i+1))=rdL (d.take i):=by rw [hnx];exact if_pos ho
  refine Z87 ?_;refine av ?_
  refine B2 (i+1,(d[i].toNat-48)) ⟨hil,fun j c hj hc=>?_,by have:=(d[i]).toNat_lt;show d[i].toNat-48<256;omega⟩ (by show d.length-(i+1)<d.length-i;omega) (Bz (by rw [hst]<;>rfl))
  rcases Bn j i with h|h
  ·exact hx.dg j c h hc
  have:j=i:=by have hj':j<i+1:=hj;omega
  subst this
  rw [Ae hil] at hc
  injection hc with hc
  rw [←hc]
  unfold Tn
  simp only [Ah,decide_eq_true_eq]
  exact hdc
 have hie:d.take i=d:=Dn (by simp at ht40;omega)
 have hall:∀c∈d,Tn c=true:=fun c hc=>by
  obtain ⟨j,hj⟩:=Cr hc
  exact hx.dg j c (by have:=(Ak.1 hj).1;simp at ht40;omega) hj
 have hgood:=ug hd ht33 hall
 have hlow:=hx.low
 simp only at hlow
 rw [hie] at hlow ⊢
 refine Z52 ?_;refine Z21 ?_;refine Z0 ?_;refine G4 ?_;refine A2 [5,6] ?_;refine Z25 ?_;refine A2 [5,77] ?_
 refine A3 (fun ht77=>?_) (fun ht77=>?_)
 ·rw [if_pos ht77] at hgood
  exact AG4
 rw [if_neg (by rw [ht77];simp)] at hgood
 refine AOf ?_;refine Z72 ?_;exact ANd

set_option maxRecDepth 8000
/-! The reference's Eval. -/
def Qn:Str:=[115,116,114]
def Qo:Str:=[108,101,110]
def Qp:Str:=[110,117,109]
def W4:Str:=[108,101,102,116]
def Nx (n k:Int):Int:=if decide (n<0)=true then 0 else if decide (n<k)=true then n else k
def qt (t:Str) (a b:Val):Rs:=if (t==W4)=true then (⟨2,0,a.s.take (Nx b.n a.s.length).toNat⟩,0) else (⟨2,0,a.s.drop (a.s.length-(Nx b.n a.s.length).toNat)⟩,0)
def be (t:Str) (a b:Val):Rs:=
 if (t==Qn)=true then (if (a.kind != 1)=true then (noV,10) else (⟨2,0,Lib.itoa a.n⟩,0))
 else if (a.kind != 2)=true then (noV,10)
 else if (t==Qo)=true then (⟨1,a.s.length,[]⟩,0)
 else if (t==Qp)=true then (if ((Cf a.s).2 != 0)=true then (noV,(Cf a.s).2) else (⟨1,(Cf a.s).1,[]⟩,0))
 else if (b.kind != 1)=true then (noV,10) else qt t a b
def Rz (o:Int) (t:Str) (a b:Val):Rs:=
 if ((a.kind==0) || (b.kind==0))=true then (noV,0)
 else if (o==5)=true then J7 t a b
 else if (o==3)=true then (if (a.kind != 1)=true then (noV,10) else dk (!decide (a.n<0)) a.n.natAbs)
 else if (o==4)=true then (if (a.kind != 3)=true then (noV,10) else (Bs (a.n==0),0))
 else be t a b
def zm (k:Int) (o:Int) (t:Str) (a:Val) (rb:Rs):Rs:=if (k==2)=true then (if (rb.2 != 0)=true then (noV,rb.2) else Rz o t a rb.1) else Rz o t a ⟨9,0,[]⟩
def AEo (t:Str) (a:Val) (rb:Rs):Rs:=
 if (!((a.kind==0) || (a.kind==3)))=true then (noV,10)
 else if (a==Bs (t==orW))=true then (a,0)
 else if (rb.2 != 0)=true then (noV,rb.2)
 else if ((rb.1.kind != 0)&&(rb.1.kind != 3))=true then (noV,10)
 else if (rb.1==Bs (t==orW))=true then (rb.1,0)
 else if ((a.kind==0) || (rb.1.kind==0))=true then (noV,0)
 else (Bs (t==O9),0)
def Jr (k:Int) (o:Int) (t:Str) (ra rb rc:Rs):Rs:=
 if (ra.2 != 0)=true then (noV,ra.2)
 else if ((o==5)&&((t==orW) || (t==O9)))=true then AEo t ra.1 rb
 else if (o==6)=true then
  (if (t==Co)=true then (Bs (ra.1.kind==0),0)
  else if (t==Gu)=true then (if (ra.1.kind != 0)=true then (ra.1,0) else rb)
  else if (t==ifW)=true then (if (!((ra.1.kind==0) || (ra.1.kind==3)))=true then (noV,10) else if (ra.1.n==1)=true then rb else rc)
  else zm k o t ra.1 rb)
 else zm k o t ra.1 rb
/-- Who ends in an error has no value. -/
def Lq (r:Rs):Prop:=r.2≠0→r.1=noV
theorem mh (e:Int):Lq (D9 e):=fun _=>rfl
theorem aa (v:Val):Lq (v,0):=fun h=>absurd rfl h
theorem Pm (x:Int×Int):Lq (Ga x):=by
 unfold Ga
 split
 ·exact Ub
 exact Uc
theorem W5 {r:Rs} (h:Lq r):Lq (Ba r):=by
 unfold Ba
 split
 ·exact Ub
 exact h
theorem zn (t:Str) (a b:Val):Lq (J7 t a b):=by
 unfold J7
 split
 ·split
  ·exact Ub
  exact Uc
 split
 ·unfold Jb
  split
  ·exact Ub
  split
  ·exact Ub
  exact Uc
 split
 ·exact Ub
 exact Pm _
theorem ia (o:Int) (t:Str) (l:List Val):Lq (Bo o t l):=by
 unfold Bo
 split
 ·exact zn _ _ _
 split
 ·exact Pm _
 split
 ·exact Uc
 split
 ·exact Ub
 split
 ·unfold J3
  split
  ·exact Uc
  split
  ·exact Uc
  split
  ·exact Pm _
  exact Ub
 split
 ·exact Ub
 exact Uc
theorem qu {c:List Col} {l:List Val} {o:Int} {t:Str} {v:Val} {ks:List Rs} (h:∀i,Lq (ks.getD i (noV,0))):Lq (Gy Bo c l o t v ks):=by
 unfold Gy
 split
 ·exact Uc
 split
 ·unfold Vx
  split
  ·exact Ub
  exact Uc
 have hlog:∀s,Lq (Gb s (ks.getD 0 (noV,0)) (ks.getD 1 (noV,0))):=fun s=>by
  unfold Gb
  split
  ·exact W5 (h 0)
  split
  ·exact W5 (h 1)
  exact Uc
 split
 ·exact hlog _
 split
 ·exact hlog _
 split
 ·unfold Ed
  split
  ·split
   ·exact Ub
   split
   ·exact h 1
   exact h 2
  split
  ·exact Ub
  split
  ·exact Uc
  split
  ·exact Uc
  exact h 1
 unfold Ks
 split
 ·exact Ub
 split
 ·exact Uc
 exact ia _ _ _
theorem ae (c:List Col) (l:List Val):∀(n:Nat) (e:Expr),sizeE e≤n→Lq (Al c l e)
 | 0,e,h=>by rw [Ds] at h;omega
 | n+1,e,h=>by
  obtain ⟨o,t,v,k⟩:=e
  rw [Al,I1]
  refine qu fun i=>?_
  rw [Cz,Cp]
  cases hk:(Expr.mk o t v k).kids[i]? with
  | none=>exact aa _
  | some y =>
   have hlt:=(Ak.1 hk).1
   have hy:=(Ak.1 hk).2
   have:=Sv (.mk o t v k) hlt
   rw [hy] at this
   exact ae c l n y (by omega)
theorem mi (S:List Val→Rs) (ra:Rs):Ks S [ra]=if (ra.2 != 0)=true then (noV,ra.2) else if (ra.1.kind==0)=true then (noV,0) else S [ra.1]:=by
 unfold Ks
 cases h:ra.2 != 0 with
 | true=>simp [h,D9]
 | false=>simp [h]
theorem AEp (S:List Val→Rs) (ra rb:Rs):Ks S [ra,rb]=if (ra.2 != 0)=true then (noV,ra.2) else if (rb.2 != 0)=true then (noV,rb.2) else if ((ra.1.kind==0) || (rb.1.kind==0))=true then (noV,0) else S [ra.1,rb.1]:=by
 unfold Ks
 cases h:ra.2 != 0 with
 | true=>simp [h,D9]
 | false =>
  cases h2:rb.2 != 0 with
  | true=>simp [h,h2,D9]
  | false=>simp [h,h2]
theorem Va {r:Rs} (h:(r.2 != 0)=true):Ba r=r:=by
 unfold Ba
 have:(r.2==0)=false:=by simpa using h
 rw [this]
 simp
theorem Vb {v:Val} (h:((v.kind==0) || (v.kind==3))=false):Ba (v,0)=(noV,10):=by
 simp only [Df,beq_eq_false_iff_ne,ne_eq] at h
 unfold Ba
 rw [if_pos (by simp [h.1,h.2])]
 rfl
theorem af {v:Val} (h:((v.kind==0) || (v.kind==3))=true):Ba (v,0)=(v,0):=by
 unfold Ba
 rw [if_neg]
 simp only [Dg,beq_iff_eq] at h
 simp
 intro h0
 rcases h with h|h
 ·exact absurd h h0
 exact h
theorem ib {r:Rs} (h:(r.2 != 0)=false):r=(r.1,0):=by
 obtain ⟨v,e⟩:=r
 have:e=0:=by simpa using h
 rw [this]
theorem AEq {r:Rs} (h:Lq r) (h2:(r.2 != 0)=true):r=(noV,r.2):=by
 obtain ⟨v,e⟩:=r
 have:=h (by simpa using h2)
 simp only at this ⊢
 rw [this]
theorem zo {t:Str} (ht:t=orW∨t=O9) {a:Val} {rb:Rs} (fa:Fine a) (fb:Fine rb.1) (eb:Lq rb):Gb (Bs (t==orW)) (a,0) rb=AEo t a rb:=by
 unfold AEo Gb
 cases h3:(a.kind==0) || (a.kind==3) with
 | false=>rw [Vb h3];rfl
 | true =>
  rw [af h3]
  simp only [Ck,An,if_false,show ((0:Int) != 0)=false from rfl,Cj]
  cases h4:a==Bs (t==orW) with
  | true=>simp
  | false =>
   simp only [An,if_false]
   cases h5:rb.2 != 0 with
   | true =>
    rw [Va h5,h5]
    simp only [Dd,if_true]
    exact AEq eb h5
   | false =>
    simp only [An,if_false]
    rw [ib h5]
    generalize rb.1=b at fb
    try simp only
    cases h6:(b.kind==0) || (b.kind==3) with
    | false =>
     rw [Vb h6]
     have:((b.kind != 0)&&(b.kind != 3))=true:=by
      simp only [Df,beq_eq_false_iff_ne,ne_eq] at h6
      simp [h6.1,h6.2]
     rw [if_pos this]
     rfl
    | true =>
     rw [af h6]
     have:((b.kind != 0)&&(b.kind != 3))=false:=by
      simp only [Dg,beq_iff_eq] at h6
      rcases h6 with h|h<;>simp [h]
     rw [this]
     simp only [An,if_false,show ((0:Int) != 0)=false from rfl,Cj]
     cases h7:b==Bs (t==orW) with
     | true=>simp
     | false =>
      simp only [Cj,An,if_false]
      by_cases ha0:a.kind=0
      ·have e:a=noV:=Mx fa.plain ha0
       rw [e]
       rfl
      rw [if_pos (by simpa using ha0)]
      by_cases hb0:b.kind=0
      ·rw [if_pos (by simp [hb0]),Mx fb.plain hb0]
      rw [if_neg (by simp [ha0,hb0])]
      have hb3:b.kind=3:=by simpa [hb0] using h6
      rcases Nu fb.plain hb3 with rfl|rfl
      ·rcases ht with rfl|rfl
       ·cases h7
       rfl
      rcases ht with rfl|rfl
      ·rfl
      cases h7
theorem AMi {ra rb rc:Rs} (fa:Fine ra.1) (h:(ra.2 != 0)=false):Ed ifW ra rb rc=if (!((ra.1.kind==0) || (ra.1.kind==3)))=true then (noV,10) else if (ra.1.n==1)=true then rb else rc:=by
 have e:=ib h
 generalize ra.1=a at fa e ⊢
 subst e
 unfold Ed
 rw [if_pos (show (ifW==ifW)=true from rfl)]
 cases h3:(a.kind==0) || (a.kind==3) with
 | false=>rw [Vb h3];rfl
 | true =>
  rw [af h3,if_neg (by simp)]
  simp only [Ck,An,if_false]
  have e2:(a==Bs true)=(a.n==1):=by
   simp only [Dg,beq_iff_eq] at h3
   rcases h3 with h3|h3
   ·rw [Mx fa.plain h3];rfl
   rcases Nu fa.plain h3 with rfl|rfl<;>rfl
  rw [e2]
theorem AEr {n:Int} (h0 : -9223372036854775808≤n) (h1:n≤9223372036854775807):Rq (Lib.itoa n)=⟨2,0,Lib.itoa n⟩:=by
 have:=Lib.itoa_length_le n (by omega) (by omega)
 unfold Rq
 rw [Dn (by omega)]
theorem AEs (n:Int) (k:Nat):(max 0 (min n k))=Nx n k:=by
 unfold Nx
 by_cases h:n<0
 ·rw [if_pos (by simpa using h)];omega
 rw [if_neg (by simpa using h)]
 by_cases h2:n<k
 ·rw [if_pos (by simpa using h2)];omega
 rw [if_neg (by simpa using h2)];omega
theorem zp {t:Str} (a b:Val) (hl:a.s.length≤200):Kk t a.s b.n=(qt t a b).1∧(qt t a b).2=0:=by
 unfold Kk qt
 rw [AEs]
 show (if (t==W4)=true then _ else _)=_∧_
 cases t==W4 with
 | true =>
  simp only [if_true,and_true]
  unfold Rq
  rw [Dn (by rw [E7];omega)]
 | false =>
  simp only [An,if_false,and_true]
  unfold Rq
  rw [Dn (by rw [Gl];omega)]
section
variable {a b:Val}
theorem AIk (fa:Fine a):Bo 3 [] [a]=(if (a.kind != 1)=true then (noV,10) else dk (!decide (a.n<0)) a.n.natAbs):=by
 show (if (((3:Int)==5))=true then _ else if (((3:Int)==3)&&Cx [a] [1])=true then Ga (Pa 0 a.n) else _)=_
 rw [if_neg (by decide)]
 have e:Cx [a] [1]=(a.kind==1):=by simp [Cx]
 rw [e]
 cases h:a.kind==1 with
 | true =>
  have h':(a.kind != 1)=false:=by rw [bne,h];rfl
  rw [if_pos (by rfl),h',L0,Kz,mc,Pl,t2 (by decide) (by decide) fa.lo fa.hi]
  simp
 | false =>
  have h':(a.kind != 1)=true:=by rw [bne,h];rfl
  rw [if_neg (by simp),h']
  rfl
theorem AIl:Bo 4 [] [a]=(if (a.kind != 3)=true then (noV,10) else (Bs (a.n==0),0)):=by
 show (if (((4:Int)==5))=true then _ else if (((4:Int)==3)&&Cx [a] [1])=true then _ else if (((4:Int)==4)&&Cx [a] [3])=true then (Bs (a.n==0),0) else _)=_
 rw [if_neg (by decide),if_neg (by simp)]
 have e:Cx [a] [3]=(a.kind==3):=by simp [Cx]
 rw [e]
 cases h:a.kind==3 with
 | true =>
  have h':(a.kind != 3)=false:=by rw [bne,h];rfl
  rw [if_pos (by rfl),h']
  rfl
 | false =>
  have h':(a.kind != 3)=true:=by rw [bne,h];rfl
  rw [if_neg (by simp),h']
  rfl
theorem AIm:Bo 6 Qo [a]=be Qo a ⟨9,0,[]⟩:=by
 show J3 Qo a=_
 unfold J3 be
 simp only [show (Qo==[115,116,114])=false from rfl,show (Qo==[108,101,110])=true from rfl,show (Qo==[110,117,109])=false from rfl,show (Qo==Qn)=false from rfl,show (Qo==Qo)=true from rfl,Es,Dc,An,if_false,if_true]
 cases h:a.kind==2 with
 | true=>rw [show (a.kind != 2)=false by rw [bne,h];rfl];rfl
 | false=>rw [show (a.kind != 2)=true by rw [bne,h];rfl];rfl
theorem AIn:Bo 6 Qp [a]=be Qp a ⟨9,0,[]⟩:=by
 show J3 Qp a=_
 unfold J3 be
 simp only [show (Qp==[115,116,114])=false from rfl,show (Qp==[108,101,110])=false from rfl,show (Qp==[110,117,109])=true from rfl,show (Qp==Qn)=false from rfl,show (Qp==Qo)=false from rfl,show (Qp==Qp)=true from rfl,Es,Dc,An,if_false,if_true]
 cases h:a.kind==2 with
 | true=>rw [show (a.kind != 2)=false by rw [bne,h];rfl];rfl
 | false=>rw [show (a.kind != 2)=true by rw [bne,h];rfl];rfl
theorem AIo (fa:Fine a):Bo 6 Qn [a]=be Qn a ⟨9,0,[]⟩:=by
 show J3 Qn a=_
 unfold J3 be
 simp only [show (Qn==[115,116,114])=true from rfl,show (Qn==[108,101,110])=false from rfl,show (Qn==[110,117,109])=false from rfl,show (Qn==Qn)=true from rfl,Es,Dc,An,if_false,if_true]
 cases h:a.kind==1 with
 | true=>rw [show (a.kind != 1)=false by rw [bne,h];rfl,AEr fa.lo fa.hi];rfl
 | false=>rw [show (a.kind != 1)=true by rw [bne,h];rfl];rfl
theorem dm (fa:Fine a) {t:Str} (ht:t=W4∨t=[114,105,103,104,116]):Bo 6 t [a,b]=be t a b:=by
 show (if (!Cx [a,b] [2,1])=true then D9 10 else (Kk t a.s b.n,0))=_
 have e1:(t==Qn)=false:=by rcases ht with rfl|rfl<;>rfl
 have e2:(t==Qo)=false:=by rcases ht with rfl|rfl<;>rfl
 have e3:(t==Qp)=false:=by rcases ht with rfl|rfl<;>rfl
 unfold be
 rw [e1,e2,e3]
 simp only [An,if_false]
 have e:Cx [a,b] [2,1]=((a.kind==2)&&(b.kind==1)):=by simp [Cx]
 rw [e]
 have hp:=zp (t:=t) a b fa.len
 cases h:a.kind==2 with
 | false=>rw [show (a.kind != 2)=true by rw [bne,h];rfl];rfl
 | true =>
  rw [show (a.kind != 2)=false by rw [bne,h];rfl]
  cases h2:b.kind==1 with
  | false=>rw [show (b.kind != 1)=true by rw [bne,h2];rfl];rfl
  | true =>
   rw [show (b.kind != 1)=false by rw [bne,h2];rfl]
   show (Kk t a.s b.n,(0:Int))=qt t a b
   rw [hp.1,←hp.2]
end
theorem mj {a:Val}:((a.kind==0) || ((⟨9,0,[]⟩:Val).kind==0))=(a.kind==0):=by simp
/-- The reference's way is the tree's value. -/
theorem AMj {c:List Col} {l:List Val} {e:Expr} (hn:Ch e=true) (hf:∀y∈e.kids,Fine (Al c l y).1∧Lq (Al c l y)) (h1:(e.op==1)=false) (h2:(e.op==2)=false):Al c l e=Jr (e.kids.length:Int) e.op e.text (Al c l (e.kids.getD 0 A6)) (Al c l (e.kids.getD 1 A6)) (Al c l (e.kids.getD 2 A6)):=by
 cases Ij hn with
 | val v hp h0=>cases h1
 | name t ht=>cases h2
 | neg x =>
  obtain ⟨fa,_⟩:=hf x (by simp [Gw,Expr.kids])
  show Ks (Bo 3 []) [Al c l x]=Jr 1 3 [] (Al c l x) _ _
  rw [mi]
  generalize Al c l x=ra at fa ⊢
  unfold Jr
  cases h:ra.2 != 0 with
  | true=>rfl
  | false =>
   show _=Rz 3 [] ra.1 ⟨9,0,[]⟩
   unfold Rz
   rw [mj,AIk fa]
   rfl
 | no x =>
  obtain ⟨fa,_⟩:=hf x (by simp [Gw,Expr.kids])
  show Ks (Bo 4 []) [Al c l x]=Jr 1 4 [] (Al c l x) _ _
  rw [mi]
  generalize Al c l x=ra at fa ⊢
  unfold Jr
  cases h:ra.2 != 0 with
  | true=>rfl
  | false =>
   show _=Rz 4 [] ra.1 ⟨9,0,[]⟩
   unfold Rz
   rw [mj,AIl]
   rfl
 | bin t x y ht =>
  obtain ⟨fa,ea⟩:=hf x (by simp [Jm,Expr.kids])
  obtain ⟨fb,eb⟩:=hf y (by simp [Jm,Expr.kids])
  show Gy Bo c l 5 t noV [Al c l x,Al c l y]=Jr 2 5 t (Al c l x) (Al c l y) _
  generalize Al c l x=ra at fa ea ⊢
  generalize Al c l y=rb at fb eb ⊢
  have hlog:(t=orW∨t=O9)→Gb (Bs (t==orW)) ra rb=if (ra.2 != 0)=true then (noV,ra.2) else AEo t ra.1 rb:=fun h=>by
   cases h5:ra.2 != 0 with
   | true =>
    unfold Gb
    rw [Va h5,h5]
    simp only [Dd,if_true]
    exact AEq ea h5
   | false =>
    rw [if_neg (by simp)]
    have e:=ib h5
    rw [e]
    exact zo h fa fb eb
  unfold Jr Gy
  simp only [show ((5:Int)==1)=false from rfl,show ((5:Int)==2)=false from rfl,show ((5:Int)==5)=true from rfl,show ((5:Int)==6)=false from rfl,Dc,Es,An,if_false]
  cases ho:t==orW with
  | true =>
   have et:t=orW:=eq_of_beq ho
   have:=hlog (.inl et)
   rw [ho] at this
   simp only [Dd,if_true]
   exact this
  | false =>
   cases hw:t==O9 with
   | true =>
    have et:t=O9:=eq_of_beq hw
    have:=hlog (.inr et)
    rw [ho] at this
    simp only [Cj,An,if_false,if_true]
    exact this
   | false =>
    simp only [Cj,An,if_false]
    show Ks (Bo 5 t) [ra,rb]=_
    rw [AEp]
    cases h5:ra.2 != 0 with
    | true=>rfl
    | false =>
     show _=(if (rb.2 != 0)=true then (noV,rb.2) else Rz 5 t ra.1 rb.1)
     rfl
 | call t k ha =>
  rcases Eb ha with ⟨e,hk⟩|⟨e,hk⟩|⟨e,hk⟩|⟨e,hk⟩|⟨e,hk⟩|⟨e,hk⟩|⟨e,hk⟩|⟨e,hk⟩<;>subst e
  ·match k,hk with
   | [x],_ =>
    obtain ⟨fa,_⟩:=hf x (by simp [Expr.kids])
    show Ks (Bo 6 Qo) [Al c l x]=Jr 1 6 Qo (Al c l x) _ _
    rw [mi,AIm]
    cases h:(Al c l x).2 != 0 with
    | true=>unfold Jr;rw [h];rfl
    | false =>
     unfold Jr
     rw [h]
     show _=Rz 6 Qo (Al c l x).1 ⟨9,0,[]⟩
     unfold Rz
     rw [mj]
     rfl
  ·match k,hk with
   | [x],_ =>
    obtain ⟨fa,_⟩:=hf x (by simp [Expr.kids])
    show Ks (Bo 6 Qn) [Al c l x]=Jr 1 6 Qn (Al c l x) _ _
    rw [mi,AIo fa]
    cases h:(Al c l x).2 != 0 with
    | true=>unfold Jr;rw [h];rfl
    | false =>
     unfold Jr
     rw [h]
     show _=Rz 6 Qn (Al c l x).1 ⟨9,0,[]⟩
     unfold Rz
     rw [mj]
     rfl
  ·match k,hk with
   | [x],_ =>
    obtain ⟨fa,_⟩:=hf x (by simp [Expr.kids])
    show Ks (Bo 6 Qp) [Al c l x]=Jr 1 6 Qp (Al c l x) _ _
    rw [mi,AIn]
    cases h:(Al c l x).2 != 0 with
    | true=>unfold Jr;rw [h];rfl
    | false =>
     unfold Jr
     rw [h]
     show _=Rz 6 Qp (Al c l x).1 ⟨9,0,[]⟩
     unfold Rz
     rw [mj]
     rfl
  ·match k,hk with
   | [x],_ =>
    obtain ⟨fa,ea⟩:=hf x (by simp [Expr.kids])
    show Ed Co (Al c l x) (noV,0) (noV,0)=Jr 1 6 Co (Al c l x) _ _
    unfold Ed Jr
    cases h:(Al c l x).2 != 0 with
    | true=>rfl
    | false=>rfl
  ·match k,hk with
   | [x,y],_ =>
    obtain ⟨fa,ea⟩:=hf x (by simp [Expr.kids])
    show Ed Gu (Al c l x) (Al c l y) (noV,0)=Jr 2 6 Gu (Al c l x) (Al c l y) _
    unfold Ed Jr
    cases h:(Al c l x).2 != 0 with
    | true=>rfl
    | false=>rfl
  ·match k,hk with
   | [x,y],_ =>
    obtain ⟨fa,_⟩:=hf x (by simp [Expr.kids])
    show Ks (Bo 6 W4) [Al c l x,Al c l y]=Jr 2 6 W4 (Al c l x) (Al c l y) _
    rw [AEp,dm fa (.inl rfl)]
    unfold Jr
    cases h:(Al c l x).2 != 0 with
    | true=>rfl
    | false=>rfl
  ·match k,hk with
   | [x,y],_ =>
    obtain ⟨fa,_⟩:=hf x (by simp [Expr.kids])
    show Ks (Bo 6 [114,105,103,104,116]) [Al c l x,Al c l y]=Jr 2 6 [114,105,103,104,116] (Al c l x) (Al c l y) _
    rw [AEp,dm fa (.inr rfl)]
    unfold Jr
    cases h:(Al c l x).2 != 0 with
    | true=>rfl
    | false=>rfl
  match k,hk with
  | [x,y,z],_ =>
   obtain ⟨fa,ea⟩:=hf x (by simp [Expr.kids])
   show Ed ifW (Al c l x) (Al c l y) (Al c l z)=Jr 3 6 ifW (Al c l x) (Al c l y) (Al c l z)
   unfold Jr
   cases h:(Al c l x).2 != 0 with
   | true =>
    unfold Ed
    rw [Va h,h]
    rfl
   | false =>
    rw [AMi fa h]
    rfl
set_option maxRecDepth 4000
theorem zq {a:Int} (h:wz a):Kl a=(a.natAbs:Int):=Qe h.1 h.2
theorem AIp {u:Int} (h:0≤u) (h2:u<18446744073709551616):IntKind.u64.wrap (IntKind.u64.wrap (IntKind.u64.wrap (u.tdiv 4294967296)*4294967296)+u.tmod 4294967296)=u:=by
 simp only [IntKind.wrap_u64]
 rw [X6 h,X7 h]
 omega
/-- How far the digits have come. -/
def DGR (n:Nat) (x:Nat×Str):Prop:=(x.1=n∧x.2=[])∨(x.2≠[]∧(if x.1=0 then [] else Lib.decDigits x.1)++x.2=Lib.decDigits n)
theorem DGR.step {n:Nat} {x:Nat×Str} (h:DGR n x) (hc:0<x.1∨x.2=[]):DGR n (x.1 / 10,UInt8.ofNat (48+x.1 % 10)::x.2):=by
 obtain ⟨u,s⟩:=x
 refine .inr ⟨by simp,?_⟩
 simp only at *
 have key:(if u / 10=0 then [] else Lib.decDigits (u / 10))++[UInt8.ofNat (48+u % 10)]=Lib.decDigits u:=by
  rw [Lib.decDigits.eq_1 u]
  by_cases h10:u<10
  ·rw [dif_pos h10,if_pos (by omega),Pv h10];rfl
  rw [dif_neg h10,if_neg (by omega)]
 rw [show UInt8.ofNat (48+u % 10)::s=[UInt8.ofNat (48+u % 10)]++s from rfl,←C1,key]
 rcases h with ⟨h1,h2⟩|⟨h1,h2⟩
 ·simp only at h1 h2
  rw [h1,h2,Jd]
 simp only at h1 h2
 rw [←h2,if_neg (by rcases hc with hc|hc;omega;exact absurd hc h1)]
theorem DGR.done {n:Nat} {x:Nat×Str} (h:DGR n x) (h1:¬0<x.1) (h2:x.2≠[]):x.2=Lib.decDigits n:=by
 rcases h with ⟨_,h⟩|⟨_,h⟩
 ·exact absurd h h2
 rw [if_pos (by omega)] at h
 simpa using h
theorem DGR.len {n:Nat} {x:Nat×Str} (h:DGR n x) (hn:n≤9223372036854775808):x.2.length≤21:=by
 have h2:(Lib.decDigits n).length≤21:=by
  have:=Lib.itoa_length_le (-(n:Int)) (by omega) (by omega)
  unfold Lib.itoa at this
  split at this
  ·have e:(-(n:Int)).natAbs=n:=by omega
   rw [e] at this
   simp at this
   omega
  have:n=0:=by omega
  rw [this]
  rw [Lib.decDigits_one (by omega)]
  simp
 rcases h with ⟨_,h⟩|⟨_,h⟩
 ·rw [h];simp
 have:=congrArg List.length h
 rw [Aw] at this
 omega
theorem DGR.le {n:Nat} {x:Nat×Str} (h:x.1≤n):x.1 / 10≤n:=by omega
theorem ARa (u:Nat):IntKind.u8.wrap (48+IntKind.u8.wrap ((u:Int).tmod 10))=((UInt8.ofNat (48+u % 10)).toNat:Int):=by
 rw [X7 (by omega)]
 simp [IntKind.wrap,IntKind.bits,IntKind.signed,UInt8.toNat_ofNat']
theorem AMk {u n:Nat} (h:u≤n) (hn:n≤9223372036854775808):IntKind.u64.wrap ((u:Int).tdiv 10)=((u / 10:Nat):Int):=by
 rw [X6 (by omega),IntKind.wrap_u64]
 omega
theorem dn (a:Int):Lib.itoa a=if decide (a<0) then 45::Lib.decDigits a.natAbs else Lib.decDigits a.natAbs:=by
 unfold Lib.itoa
 by_cases h:a<0
 ·simp [h]
 have:a.toNat=a.natAbs:=by omega
 simp [h,this]
theorem AVx (a:Int) (ha:wz a) (Hp:List AObj):AFun Tryz.prog 194 [A5 a] Hp (Ac (Lib.itoa a)):=by
 have hs:=zq ha
 have hn:a.natAbs≤9223372036854775808:=by have:=ha.1;have:=ha.2;omega
 have hh:=AIp (u:=Kl a) (by rw [hs];omega) (by rw [hs];omega)
 refine Aj [.tmp 2] [0] Tryz.func194 Tryz.ntmps194 (fun d=>?_)
 refine Z56 ?_;refine Z2 ?_;refine A9 Tryz.call193 (AQy a _) ?_;refine Z17 ?_;refine A2 [3] ?_;refine Z2 ?_;refine Oz (1) jU Tryz.sizeOf233 (by decide) ?_;refine Z11 ?_;refine AGb ?_;refine A4 ?_
 refine A4 (h:=Fz) (hr:=?_)
 rw [hh,hs]
 refine A4 ?_;refine A2 [3,4] ?_;refine Z2 ?_;refine A2 [3,4,5] ?_;refine Ki ?_
 refine B9 (α:=Nat×Str) (fun x=>⟨37,Aa 3 (.ptr (oid Hp.length 0) 0) (Aa 4 (Bw (x.1:Nat)) (Aa 5 (Ac x.2) (fun _=>.any))),Hp,[.cells 236 (Zw a)],[],none⟩) (fun x=>x.1≤a.natAbs∧DGR a.natAbs x) (fun x=>2*x.1+(if x.2=[] then 1 else 0)) ((a.natAbs,[])) ⟨Ao _,.inl ⟨rfl,rfl⟩⟩ (Az (by simp)) rfl (fun x hx=>?_)
 refine Z31 ?_;refine Nj ?_;refine A2 [3,4,5,21] ?_
 refine A3 (fun ht21=>?_) (fun ht21=>?_)
 ·have hc:0<x.1∨x.2=[]:=by
   have h:=ht21
   simp only [Dg,decide_eq_true_eq,beq_iff_eq] at h
   rcases h with h|h
   ·exact .inl (by omega)
   exact .inr h
  have hl21:=hx.2.len hn
  refine vt ?_;refine Z14 ?_
  refine A4 (h:=Fz) (hr:=?_)
  refine Wi ?_
  rw [ARa]
  refine R.bytesStr [UInt8.ofNat (48+x.1 % 10)] jU jU jU ?_;refine A4 ?_
  refine A4 (h:=Nc (hl:=fun _=>by simp only [B6,Bc];omega)) (hr:=?_)
  refine A4 ?_;refine A2 [3,4,5] ?_;refine Z29 ?_
  rw [AMk hx.1 hn]
  refine A4 ?_;refine A2 [3,4,5] ?_;refine Ix ?_
  refine B2 (x.1 / 10,UInt8.ofNat (48+x.1 % 10)::x.2) ⟨DGR.le hx.1,hx.2.step hc⟩ (by rw [if_neg (by simp)];rcases hc with h|h;omega;rw [if_pos h];omega) (Bz rfl)
 have hl21:=hx.2.len hn
 have hD:x.2=Lib.decDigits a.natAbs:=by
  have h:=ht21
  simp only [Df,decide_eq_false_iff_not,beq_eq_false_iff_ne] at h
  exact hx.2.done (by omega) h.2
 refine Z52 ?_;refine Z8 ?_;refine A2 [5,33] ?_
 refine A3 (fun ht33=>?_) (fun ht33=>?_)
 ·have hm:=dn a
  rw [if_pos ht33] at hm
  refine Z48 ?_
  refine A4 (h:=Nc (hl:=fun _=>by simp only [B6,Bc];omega)) (hr:=?_)
  refine A4 ?_;refine A2 [5] ?_;refine Fl ?_;refine fk ?_;exact APq
 have hm:=dn a
 rw [if_neg (by rw [ht33];simp)] at hm
 refine Z98 ?_;refine Z4 ?_;exact APq

theorem N1 {ks:List Expr} {i:Nat} (h:i<ks.length):(ks.map Ab)[i]? = some (Ab (ks.getD i A6)):=by
 rw [Cp,Ae h,Cz,Ae h]
 rfl
theorem AIq (v:Val) (k n:Int) (s:Str):(v.kind==k&&v.n==n&&v.s==s)=(v==⟨k,n,s⟩):=by
 obtain ⟨a,b,c⟩:=v
 rw [K9]
 simp [Val.mk.injEq,and_assoc]
theorem X4 (v s:Val):(v.kind==s.kind&&v.n==s.n&&v.s==s.s)=(v==s):=AIq v s.kind s.n s.s
theorem AIr {x:Expr} (k6:x.op=6→Cc x.text=(x.kids.length:Int)) (h:(x.op==6)=true) (ht:(x.text==Gu)=true):1<x.kids.length:=by
 have e:=eq_of_beq ht
 rcases Eb (k6 (eq_of_beq h)) with ⟨q,_⟩|⟨q,_⟩|⟨q,_⟩|⟨q,_⟩|⟨_,q⟩|⟨q,_⟩|⟨q,_⟩|⟨q,_⟩
 all_goals first|omega|(rw [e] at q;exact absurd q (by decide))
theorem AMl {x:Expr} (k6:x.op=6→Cc x.text=(x.kids.length:Int)) (h:(x.op==6)=true) (ht:(x.text==ifW)=true):2<x.kids.length:=by
 have e:=eq_of_beq ht
 rcases Eb (k6 (eq_of_beq h)) with ⟨q,_⟩|⟨q,_⟩|⟨q,_⟩|⟨q,_⟩|⟨q,_⟩|⟨q,_⟩|⟨q,_⟩|⟨_,q⟩
 all_goals first|omega|(rw [e] at q;exact absurd q (by decide))
theorem AEt {l:List Val} {i:Nat} (h:i<l.length):(l.map Ca)[i]? = some (Ca (l.getD i noV)):=by
 rw [Cp,Ae h,Cz,Ae h]
 rfl
/-- What the second kid comes to. -/
def bR (c:List Col) (l:List Val) (x:Expr):Val:=if x.kids.length=2 then (Al c l (x.kids.getD 1 A6)).1 else ⟨9,0,[]⟩
theorem zr (n:Int) (k:Nat):∃m:Nat,Nx n (k:Int)=(m:Int)∧m≤k:=by
 unfold Nx
 split
 ·exact ⟨0,rfl,Av _⟩
 split
 ·rename_i h h2
  simp at h h2
  exact ⟨n.toNat,by omega,by omega⟩
 exact ⟨k,rfl,Ao _⟩




set_option maxHeartbeats 8000000 in
theorem AVy (c:List Col) (l:List Val) (hc:OkCols c) (hl:l.length=c.length) (hf:∀v∈l,Fine v):∀(n:Nat) (x:Expr),okE n x→Bq Ch x=true→Bq Cw x=true→∀Hp:List AObj,AFun Tryz.prog 145 [Ab x,B0 c,P1 l] Hp (Nt (Al c l x)):=by
 intro n
 induction n with
 | zero=>exact fun x h=>h.elim
 | succ n ih =>
 intro x hok hnode hrng Hp
 have hn0:=hnode
 have hr0:=hrng
 rw [Cb,Ah] at hn0 hr0
 have hev:∀y∈x.kids,∀Hp:List AObj,AFun Tryz.prog 145 [Ab y,B0 c,P1 l] Hp (Nt (Al c l y)):=fun y hy=>ih y (hok.2.2 y hy) ((Bd _ _).1 hn0.2 y hy) ((Bd _ _).1 hr0.2 y hy)
 have hfe:∀y∈x.kids,Fine (Al c l y).1∧Lq (Al c l y):=fun y hy=>⟨Mw hf y (Tc y ((Bd _ _).1 hn0.2 y hy)) ((Bd _ _).1 hr0.2 y hy),ae c l _ y (Ao _)⟩
 obtain ⟨k5,k34,k6,kall⟩:=Jo hn0.1
 have hev0:Al c l x=Gy Bo c l x.op x.text x.val (x.kids.map (Al c l)):=I1 _ _ _ _
 refine Aj [.cell 6 23,.tmp 7] [0,1,2] Tryz.func145 Tryz.ntmps145 (fun d=>?_)
 refine j8 ?_;refine A2 [1,2,3,6] ?_;refine Z28 ?_;refine Z17 ?_;refine A2 [1,2,3,6,8] ?_;refine Z16 ?_;refine Z21 ?_;refine A2 [1,2,3,6,8,23] ?_
 refine A3 (fun ht23=>?_) (fun ht23=>?_)
 ·have hm:Al c l x=(x.val,0):=by rw [hev0];unfold Gy;rw [if_pos ht23]
  refine Z1 ?_;refine Z15 ?_;exact Z23
 refine Z21 ?_;refine A2 [1,2,3,6,8,29] ?_
 refine A3 (fun ht29=>?_) (fun ht29=>?_)
 ·have hm0:Al c l x=Vx c l x.text:=by rw [hev0];unfold Gy;rw [if_neg (by rw [ht23];simp),if_pos ht29]
  refine Z14 ?_;refine A9 Tryz.call25 (c25 c hc x.text _) ?_;refine A4 ?_;refine A2 [2,6,8,9] ?_;refine Z8 ?_;refine A2 [2,6,8,9,38] ?_
  refine A3 (fun ht38=>?_) (fun ht38=>?_)
  ·have hm:Al c l x=(noV,9):=by rw [hm0];exact if_pos (by simpa using ht38)
   refine we ?_;exact ANp
  have hnn:¬C6 x.text c<0:=by simpa using ht38
  obtain ⟨j,hj,hjc⟩:=J4 hnn
  have hm:Al c l x=(l.getD j noV,0):=by
   rw [hm0]
   unfold Vx
   rw [if_neg hnn,hj]
   rfl
  rw [hj]
  refine Z98 ?_
  refine A4 (h:=Ad (j) (Ca (l.getD j noV)) (fun _=>AEt (by omega))) (hr:=?_)
  refine A4 ?_;refine Z15 ?_;exact Z23
 have href:=AMj hn0.1 hfe ht23 ht29
 clear hev0
 simp only [Jr,AEo,ifW,Gu,Co,orW,O9] at href
 have hk0:0<x.kids.length:=by
  simp only [beq_eq_false_iff_ne,ne_eq] at ht23 ht29
  rcases kall with h|h|h|h|h|h
  ·exact absurd h ht23
  ·exact absurd h ht29
  ·have:=k34 (.inl h);omega
  ·have:=k34 (.inr h);omega
  ·have:=k5 h;omega
  have:=k6 h
  rcases Eb this with ⟨_,e⟩|⟨_,e⟩|⟨_,e⟩|⟨_,e⟩|⟨_,e⟩|⟨_,e⟩|⟨_,e⟩|⟨_,e⟩<;>omega
 have fa:=(hfe _ (M2 hk0)).1
 refine aq ?_
 refine A4 (h:=Ad (0) (Ab (x.kids.getD 0 A6)) (fun _=>N1 hk0)) (hr:=?_)
 refine Z11 ?_;refine A9 Tryz.call145 (hev (x.kids.getD 0 A6) (M2 hk0) _) ?_;refine Z94 ?_;refine A2 [1,2,3,6,8,10,11] ?_;refine Z8 ?_;refine A2 [1,2,3,6,8,10,11,55] ?_
 refine A3 (fun ht55=>?_) (fun ht55=>?_)
 ·refine Z1 ?_;refine Z51 ?_
  try simp only [*,An,Ck,Da,↓reduceIte] at href
  exact Ip
 refine Z3 ?_;refine O7 ?_;refine A2 [1,2,3,6,8,10,12] ?_;refine Z8 ?_;refine Z42 ?_;refine Z70 ?_;refine Nj ?_;refine A2 [1,2,3,6,8,10,12,78] ?_
 refine A3 (fun ht78=>?_) (fun ht78=>?_)
 ·have hk2l:x.kids.length=2:=k5 (by simp only [Ah,beq_iff_eq] at ht78;exact ht78.1)
  refine Z14 ?_;refine A9 Tryz.call189 (AMb _ _) ?_;refine Z17 ?_;refine A2 [1,2,3,6,8,10,12,13] ?_;refine Z8 ?_;refine A2 [1,2,3,6,8,10,13,84] ?_
  refine A3 (fun ht84=>?_) (fun ht84=>?_)
  ·refine je ?_
   try simp only [*,An,Ck,Da,↓reduceIte] at href
   exact Ip
  refine Re ?_
  refine A4 (h:=M8 Ud (fun w=>Ho (Al c l (x.kids.getD 0 A6)).1.kind (Al c l (x.kids.getD 0 A6)).1.n (Bs (x.text==[111,114])).kind (Bs (x.text==[111,114])).n (Al c l (x.kids.getD 0 A6)).1.s (Bs (x.text==[111,114])).s w)) (hr:=?_)
  refine A2 [1,2,3,6,8,10,13,88] ?_
  refine A3 (fun ht88=>?_) (fun ht88=>?_)
  ·rw [X4] at ht88
   refine je ?_
   try simp only [*,An,Ck,Da,↓reduceIte] at href
   exact Ip
  rw [X4] at ht88
  refine Z98 ?_
  refine A4 (h:=Ad (1) (Ab (x.kids.getD 1 A6)) (fun _=>N1 (by omega))) (hr:=?_)
  refine Z11 ?_;refine A9 Tryz.call145 (hev (x.kids.getD 1 A6) (M2 (by omega)) _) ?_;refine Z94 ?_;refine A2 [3,6,8,10,13,14,15] ?_;refine Z8 ?_;refine A2 [3,6,8,10,13,14,15,101] ?_
  refine A3 (fun ht101=>?_) (fun ht101=>?_)
  ·refine Z1 ?_;refine ns ?_
   try simp only [*,An,Ck,Da,↓reduceIte] at href
   exact Ip
  refine fj ?_;refine Mf ?_;refine A2 [3,6,8,10,13,14,111] ?_
  refine A3 (fun ht111=>?_) (fun ht111=>?_)
  ·refine je ?_
   try simp only [*,An,Ck,Da,↓reduceIte] at href
   exact Ip
  refine Re ?_
  refine A4 (h:=M8 Ud (fun w=>Ho (Al c l (x.kids.getD 1 A6)).1.kind (Al c l (x.kids.getD 1 A6)).1.n (Bs (x.text==[111,114])).kind (Bs (x.text==[111,114])).n (Al c l (x.kids.getD 1 A6)).1.s (Bs (x.text==[111,114])).s w)) (hr:=?_)
  refine A2 [3,6,8,10,14,115] ?_
  refine A3 (fun ht115=>?_) (fun ht115=>?_)
  ·rw [X4] at ht115
   refine je ?_
   try simp only [*,An,Ck,Da,↓reduceIte] at href
   exact Ip
  rw [X4] at ht115
  refine fj ?_;refine Mf ?_;refine A2 [3,6,8,124] ?_
  refine A3 (fun ht124=>?_) (fun ht124=>?_)
  ·refine je ?_
   try simp only [*,An,Ck,Da,↓reduceIte] at href
   exact Ip
  refine Nl ?_;refine AKq ?_
  try simp only [*,An,Ck,Da,↓reduceIte] at href
  exact Ip
 have h78:(x.op==5)=true→((x.text==[111,114]) || (x.text==[97,110,100]))=false:=fun h=>by rw [h] at ht78;exact ht78
 refine Z3 ?_
 refine W.joinP ⟨316,Aa 1 (B0 c) (Aa 2 (P1 l) (Aa 3 (.ro (B7 x)) (Aa 6 (.ptr (oid Hp.length 0) 0) (Aa 8 (.ptr (oid Hp.length 1) 0) (Aa 10 (.ptr (oid Hp.length 2) 0) (fun _=>.any)))))),Hp,[.cells 23 [A5 0,A5 0,Ac []],.cells 23 [A5 0,A5 0,Ac []],.cells 23 [A5 (Al c l (x.kids.getD 0 A6)).1.kind,A5 (Al c l (x.kids.getD 0 A6)).1.n,Ac (Al c l (x.kids.getD 0 A6)).1.s]],[],none⟩ (Al c l x=zm (x.kids.length:Int) x.op x.text (Al c l (x.kids.getD 0 A6)).1 (Al c l (x.kids.getD 1 A6))) ?_ (fun hQ=>?_)
 ·refine Z14 ?_;refine A2 [1,2,3,6,8,10,12,132] ?_
  refine A3 (fun ht132=>?_) (fun ht132=>?_)
  ·refine Z1 ?_;refine A2 [1,2,3,6,8,10,12,134] ?_;refine Z97 ?_;refine A2 [1,2,3,6,8,10,12,134,135] ?_
   refine A3 (fun ht135=>?_) (fun ht135=>?_)
   ·refine Z14 ?_;refine AN2 ?_
    try simp only [*,An,Ck,Da,↓reduceIte] at href
    exact Ip
   refine Z1 ?_;refine A2 [1,2,3,6,8,10,12,134,141] ?_
   refine A3 (fun ht141=>?_) (fun ht141=>?_)
   ·have hk1:1<x.kids.length:=AIr k6 ht132 ht141
    refine Z31 ?_;refine A2 [1,2,3,6,10,145] ?_
    refine A3 (fun ht145=>?_) (fun ht145=>?_)
    ·refine we ?_;refine Z7 ?_
     try simp only [*,An,Ck,Da,↓reduceIte] at href
     exact Ip
    refine Z98 ?_
    refine A4 (h:=Ad (1) (Ab (x.kids.getD 1 A6)) (fun _=>N1 hk1)) (hr:=?_)
    refine AKc ?_;refine wi ?_
    try simp only [*,An,Ck,Da,↓reduceIte] at href
    exact Ip
   refine Z1 ?_;refine A2 [1,2,3,6,8,10,12,156] ?_
   refine A3 (fun ht156=>?_) (fun ht156=>?_)
   ·have hk2:2<x.kids.length:=AMl k6 ht132 ht156
    have hk1:1<x.kids.length:=by omega
    refine Z8 ?_;refine A2 [1,2,3,6,8,10,159] ?_
    refine A3 (fun ht159=>?_) (fun ht159=>?_)
    ·refine we ?_;refine Z7 ?_
     try simp only [*,An,Ck,Da,↓reduceIte] at href
     exact Ip
    refine Nm ?_;refine A2 [1,2,3,6,163] ?_
    refine A3 (fun ht163=>?_) (fun ht163=>?_)
    ·refine Z1 ?_
     refine A4 (h:=Ad (1) (Ab (x.kids.getD 1 A6)) (fun _=>N1 hk1)) (hr:=?_)
     refine AKc ?_;refine Z0 ?_;refine Z51 ?_;refine Z7 ?_
     try simp only [*,An,Ck,Da,↓reduceIte] at href
     exact Ip
    refine Z98 ?_
    refine A4 (h:=Ad (2) (Ab (x.kids.getD 2 A6)) (fun _=>N1 hk2)) (hr:=?_)
    refine Z11 ?_;refine A9 Tryz.call145 (hev (x.kids.getD 2 A6) (M2 hk2) _) ?_;refine wi ?_
    try simp only [*,An,Ck,Da,↓reduceIte] at href
    exact Ip
   refine Di [1,2,3,6,8,10] ?_;refine ABl ?_
   refine K.thJP ?_ ?_
   ·exact Az rfl
   simp only [*,An,Ck,Da,↓reduceIte] at href
   exact href
  refine Di [1,2,3,6,8,10] ?_;refine Jf ?_
  refine K.thJP ?_ ?_
  ·exact Az rfl
  simp only [*,An,Ck,Da,↓reduceIte] at href
  exact href
 clear href
 refine Z28 ?_;refine Z17 ?_;refine A2 [1,2,3,6,8,10,16] ?_
 refine W.joinC ⟨316,Aa 3 (.ro (B7 x)) (Aa 6 (.ptr (oid Hp.length 0) 0) (Aa 8 (.ptr (oid Hp.length 1) 0) (Aa 10 (.ptr (oid Hp.length 2) 0) (Aa 16 (.ptr (oid Hp.length 3) 0) (fun _=>.any))))),Hp,[.cells 23 [A5 0,A5 0,Ac []],.cells 23 [A5 0,A5 0,Ac []],.cells 23 [A5 (Al c l (x.kids.getD 0 A6)).1.kind,A5 (Al c l (x.kids.getD 0 A6)).1.n,Ac (Al c l (x.kids.getD 0 A6)).1.s],.cells 23 [A5 (bR c l x).kind,A5 (bR c l x).n,Ac (bR c l x).s]],[],none⟩ (Al c l x=Rz x.op x.text (Al c l (x.kids.getD 0 A6)).1 (bR c l x)) ?_ (fun hQ2=>?_)
 ·refine Z21 ?_;refine A2 [1,2,3,6,8,10,16,186] ?_
  refine A3 (fun ht186=>?_) (fun ht186=>?_)
  ·rw [B8] at ht186
   have hk2:x.kids.length=2:=by simp only [beq_iff_eq] at ht186;omega
   have hk1:1<x.kids.length:=by omega
   have hB:(bR c l x)=(Al c l (x.kids.getD 1 A6)).1:=if_pos hk2
   refine Z1 ?_
   refine A4 (h:=Ad (1) (Ab (x.kids.getD 1 A6)) (fun _=>N1 hk1)) (hr:=?_)
   refine AKc ?_;refine Z94 ?_;refine A2 [3,6,8,10,16,17,18] ?_;refine Z8 ?_;refine A2 [3,6,8,10,16,17,18,198] ?_
   refine A3 (fun ht198=>?_) (fun ht198=>?_)
   ·have href:Al c l x=(noV,(Al c l (x.kids.getD 1 A6)).2):=by rw [hQ];unfold zm;rw [if_pos ht186,if_pos ht198]
    clear hQ
    refine Z1 ?_;refine ns ?_
    try simp only [*,An,Ck,Da,↓reduceIte] at href
    exact Ip
   refine Z3 ?_;refine Z48 ?_;refine G4 ?_;refine A2 [3,6,8,10,16] ?_
   refine K.thJC ?_ ?_
   ·rw [hB]
    exact Dz (own:=[.cells 23 [A5 0,A5 0,Ac []],.cells 23 [A5 0,A5 0,Ac []],.cells 23 [A5 (Al c l (x.kids.getD 0 A6)).1.kind,A5 (Al c l (x.kids.getD 0 A6)).1.n,Ac (Al c l (x.kids.getD 0 A6)).1.s],.cells 23 [A5 (Al c l (x.kids.getD 1 A6)).1.kind,A5 (Al c l (x.kids.getD 1 A6)).1.n,Ac (Al c l (x.kids.getD 1 A6)).1.s]]) (fun _=>.refl _) (by repeat (first|exact By|refine Bx (by first|exact Io|(simp [oid,or_imp,forall_and,Ag];done)) ?_)) (by simp [ObjLow,or_imp,forall_and]) (by simp)
   rw [hB,hQ]
   unfold zm
   first|rw [if_pos ht186,if_neg (by rw [ht198];simp)]|rw [if_neg (by rw [ht186];simp)]
  rw [B8] at ht186
  have hB:(bR c l x)=⟨9,0,[]⟩:=if_neg (by simp only [beq_eq_false_iff_ne] at ht186;omega)
  refine Di [3,6,8,10,16] ?_;refine Jf ?_
  refine K.thJC ?_ ?_
  ·rw [hB]
   exact Bz rfl
  rw [hB,hQ]
  unfold zm
  first|rw [if_pos ht186,if_neg (by rw [ht198];simp)]|rw [if_neg (by rw [ht186];simp)]
 have href:=hQ2
 clear hQ hQ2
 simp only [Rz,be,Qn,Qo,Qp] at href
 refine Z46 ?_;refine Mf ?_;refine A2 [3,6,8,10,16,209] ?_
 refine A3 (fun ht209=>?_) (fun ht209=>?_)
 ·refine we ?_
  try simp only [*,An,Ck,Da,↓reduceIte] at href
  exact Ip
 refine Nm ?_;refine A2 [3,6,8,10,16,213] ?_
 refine A3 (fun ht213=>?_) (fun ht213=>?_)
 ·have hk2:x.kids.length=2:=k5 (eq_of_beq ht213)
  have hk1:1<x.kids.length:=by omega
  have fb:Fine (bR c l x):=by rw [show (bR c l x)=(Al c l (x.kids.getD 1 A6)).1 from if_pos hk2];exact (hfe _ (M2 hk1)).1
  have h79:=h78 ht213
  refine Z21 ?_
  refine A9 Tryz.call190 (AVt x.text (Al c l (x.kids.getD 0 A6)).1 (bR c l x) fa fb (by have:=fa.len;omega) (by have:=fb.len;omega) _) ?_
  refine Z0 ?_;refine Z51 ?_
  try simp only [*,An,Ck,Da,↓reduceIte,h79,Dc] at href
  exact Ip
 refine Nm ?_;refine A2 [3,6,8,10,16,223] ?_
 refine A3 (fun ht223=>?_) (fun ht223=>?_)
 ·refine Z31 ?_;refine A2 [6,8,10,226] ?_
  refine A3 (fun ht226=>?_) (fun ht226=>?_)
  ·refine je ?_
   try simp only [*,An,Ck,Da,↓reduceIte] at href
   exact Ip
  refine Z98 ?_;refine A9 Tryz.call193 (yz (Al c l (x.kids.getD 0 A6)).1.n fa.lo fa.hi _) ?_;refine A9 Tryz.call192 (AQz _ _ _) ?_;refine A9 Tryz.call191 (zc _ _ (AMe fa.lo fa.hi).1 _) ?_;refine Z0 ?_;refine Z51 ?_
  try simp only [*,An,Ck,Da,↓reduceIte] at href
  exact Ip
 refine Nm ?_;refine A2 [3,6,8,10,16,237] ?_
 refine A3 (fun ht237=>?_) (fun ht237=>?_)
 ·refine Z31 ?_;refine A2 [6,8,10,240] ?_
  refine A3 (fun ht240=>?_) (fun ht240=>?_)
  ·refine je ?_
   try simp only [*,An,Ck,Da,↓reduceIte] at href
   exact Ip
  refine Nl ?_;refine AKq ?_
  try simp only [*,An,Ck,Da,↓reduceIte] at href
  exact Ip
 refine Nm ?_;refine A2 [3,6,8,10,16,248] ?_
 refine A3 (fun ht248=>?_) (fun ht248=>?_)
 ·refine Z31 ?_;refine A2 [6,8,10,251] ?_
  refine A3 (fun ht251=>?_) (fun ht251=>?_)
  ·refine je ?_
   try simp only [*,An,Ck,Da,↓reduceIte] at href
   exact Ip
  refine Z98 ?_;refine A9 Tryz.call194 (AVx (Al c l (x.kids.getD 0 A6)).1.n ⟨fa.lo,fa.hi⟩ _) ?_;refine AK9 ?_
  try simp only [*,An,Ck,Da,↓reduceIte] at href
  exact Ip
 refine Nm ?_;refine A2 [3,6,8,10,16,259] ?_
 refine A3 (fun ht259=>?_) (fun ht259=>?_)
 ·refine we ?_
  try simp only [*,An,Ck,Da,↓reduceIte] at href
  exact Ip
 refine Re ?_;refine A2 [3,6,8,10,16,262] ?_;refine Z97 ?_;refine A2 [3,6,8,10,16,262,263] ?_
 refine A3 (fun ht263=>?_) (fun ht263=>?_)
 ·refine Z14 ?_;refine AOx ?_
  try simp only [*,An,Ck,Da,↓reduceIte] at href
  exact Ip
 refine Z1 ?_;refine A2 [3,6,8,10,16,269] ?_
 refine A3 (fun ht269=>?_) (fun ht269=>?_)
 ·refine Z1 ?_
  refine A9 Tryz.call195 (AVw (Al c l (x.kids.getD 0 A6)).1.s (by have:=fa.len;omega) _) ?_
  refine L9 ?_;refine A2 [6,8,19,20] ?_;refine Z8 ?_;refine A2 [6,8,19,20,278] ?_
  refine A3 (fun ht278=>?_) (fun ht278=>?_)
  ·refine Z1 ?_;refine Z51 ?_;refine Z7 ?_
   try simp only [*,An,Ck,Da,↓reduceIte] at href
   exact Ip
  refine Z58 ?_;refine AOx ?_
  try simp only [*,An,Ck,Da,↓reduceIte] at href
  exact Ip
 refine Z18 ?_;refine Z31 ?_;refine A2 [3,6,8,10,16,285] ?_
 refine A3 (fun ht285=>?_) (fun ht285=>?_)
 ·refine we ?_
  try simp only [*,An,Ck,Da,↓reduceIte] at href
  exact Ip
 refine U9 ?_;refine A2 [3,6,10,16,21] ?_
 refine Hw ⟨316,Aa 3 (.ro (B7 x)) (Aa 6 (.ptr (oid Hp.length 0) 0) (Aa 10 (.ptr (oid Hp.length 2) 0) (Aa 16 (.ptr (oid Hp.length 3) 0) (Aa 21 (A5 (if decide ((bR c l x).n<(((Al c l (x.kids.getD 0 A6)).1.s.length:Nat):Int))=true then (bR c l x).n else (((Al c l (x.kids.getD 0 A6)).1.s.length:Nat):Int))) (fun _=>.any))))),Hp,[.cells 23 [A5 0,A5 0,Ac []],.cells 23 [A5 0,A5 0,Ac []],.cells 23 [A5 (Al c l (x.kids.getD 0 A6)).1.kind,A5 (Al c l (x.kids.getD 0 A6)).1.n,Ac (Al c l (x.kids.getD 0 A6)).1.s],.cells 23 [A5 (bR c l x).kind,A5 (bR c l x).n,Ac (bR c l x).s]],[],none⟩ ?_ ?_
 ·refine Z21 ?_;refine A2 [3,6,10,16,21,293] ?_
  refine A3 (fun ht293=>?_) (fun ht293=>?_)
  ·refine Z22 ?_;refine A2 [3,6,10,16,21] ?_;refine Md ?_
   first|(rw [if_pos ht293];exact Az rfl)|(rw [if_neg (by rw [ht293];simp)];exact Az rfl)
  refine Di [3,6,10,16,21] ?_;refine ABk ?_
  first|(rw [if_pos ht293];exact Az rfl)|(rw [if_neg (by rw [ht293];simp)];exact Az rfl)
 refine Hw ⟨316,Aa 3 (.ro (B7 x)) (Aa 6 (.ptr (oid Hp.length 0) 0) (Aa 10 (.ptr (oid Hp.length 2) 0) (Aa 21 (A5 (Nx (bR c l x).n (((Al c l (x.kids.getD 0 A6)).1.s.length:Nat):Int))) (fun _=>.any)))),Hp,[.cells 23 [A5 0,A5 0,Ac []],.cells 23 [A5 0,A5 0,Ac []],.cells 23 [A5 (Al c l (x.kids.getD 0 A6)).1.kind,A5 (Al c l (x.kids.getD 0 A6)).1.n,Ac (Al c l (x.kids.getD 0 A6)).1.s],.cells 23 [A5 (bR c l x).kind,A5 (bR c l x).n,Ac (bR c l x).s]],[],none⟩ ?_ ?_
 ·refine Z14 ?_;refine A2 [3,6,10,21,298] ?_
  refine A3 (fun ht298=>?_) (fun ht298=>?_)
  ·refine Z48 ?_;refine A2 [3,6,10,21] ?_;refine Md ?_
   unfold Nx
   first|(rw [if_pos ht298];exact Az rfl)|(rw [if_neg (show ¬decide ((bR c l x).n<0)=true by rw [ht298];simp)];exact Az rfl)
  refine Di [3,6,10,21] ?_;refine ABk ?_
  unfold Nx
  first|(rw [if_pos ht298];exact Az rfl)|(rw [if_neg (show ¬decide ((bR c l x).n<0)=true by rw [ht298];simp)];exact Az rfl)
 refine Z89 ?_
 obtain ⟨n0,hcl,hn0l⟩:=zr (bR c l x).n (Al c l (x.kids.getD 0 A6)).1.s.length
 rw [hcl]
 refine Z11 ?_;refine A2 [6,10,21,301] ?_
 refine A3 (fun ht301=>?_) (fun ht301=>?_)
 ·refine Z14 ?_
  refine A4 (h:=Kf n0 (fun _=>Av _) (fun _=>hn0l)) (hr:=?_)
  refine AK9 ?_
  try simp only [*,An,Ck,Da,↓reduceIte,qt,W4,hcl,Int.toNat_natCast] at href
  exact Ip
 refine U9 ?_;refine Z0 ?_
 refine A4 (h:=Q.sub64 (h1:=fun _=>by omega) (h2:=fun _=>by have:=fa.len;omega)) (hr:=?_)
 rw [show (((Al c l (x.kids.getD 0 A6)).1.s.length:Int)-(n0:Int))=(((Al c l (x.kids.getD 0 A6)).1.s.length-n0:Nat):Int) by omega]
 refine A4 (h:=R9 ((Al c l (x.kids.getD 0 A6)).1.s.length-n0) (fun _=>show (Al c l (x.kids.getD 0 A6)).1.s.length-n0≤(Al c l (x.kids.getD 0 A6)).1.s.length by omega) (fun _=>Ao _)) (hr:=?_)
 refine Wg ?_;refine jb ?_
 try simp only [*,An,Ck,Da,↓reduceIte,qt,W4,hcl,Int.toNat_natCast] at href
 exact Ip

/-! Trimmed again it stays; it names no other columns. -/
/-! ref33.Trim. -/
section
variable {o:Int} {t:Str} {ks:List Expr}
theorem S1 {v:Val} (hp:C2 v=true):v=noV∨v=Bs true∨v=Bs false∨(v.kind≠0∧v.kind≠3):=by
 by_cases h0:v.kind=0
 ·exact .inl (Mx hp h0)
 by_cases h3:v.kind=3
 ·rcases Nu hp h3 with h|h
  ·exact .inr (.inl h)
  exact .inr (.inr (.inl h))
 exact .inr (.inr (.inr ⟨h0,h3⟩))
theorem W6 {v:Val} (h:v.kind≠0∧v.kind≠3):(v==Bs true)=false∧(v==Bs false)=false∧(v==noV)=false:=by
 refine ⟨?_,?_,?_⟩<;>rw [beq_eq_false_iff_ne]<;>rintro rfl
 ·exact h.2 rfl
 ·exact h.2 rfl
 exact h.1 rfl
theorem AMm (hp:C2 (ks.getD 0 A6).val=true) (h:(((t==ifW)&&(o==6))&&(((ks.getD 0 A6).val.kind==3) || ((ks.getD 0 A6).val.kind==0)))=true) (h2:(((ks.getD 0 A6).val.kind==3)&&((ks.getD 0 A6).val.n==1))=true):Ct o t ks=some (ks.getD 1 A6):=by
 unfold Ct
 generalize (ks.getD 0 A6).val=v at *
 simp only [Ah] at h
 obtain ⟨⟨h3,h4⟩,_⟩:=h
 rw [h3,h4]
 rcases S1 hp with rfl|rfl|rfl|hv
 ·cases h2
 ·rfl
 ·cases h2
 simp only [Ah,beq_iff_eq] at h2;exact absurd h2.1 hv.2
theorem AMn (hp:C2 (ks.getD 0 A6).val=true) (h:(((t==ifW)&&(o==6))&&(((ks.getD 0 A6).val.kind==3) || ((ks.getD 0 A6).val.kind==0)))=true) (h2:(((ks.getD 0 A6).val.kind==3)&&((ks.getD 0 A6).val.n==1))=false):Ct o t ks=some (ks.getD 2 A6):=by
 unfold Ct
 generalize (ks.getD 0 A6).val=v at *
 simp only [Ah] at h
 obtain ⟨⟨h3,h4⟩,h5⟩:=h
 rw [h3,h4]
 rcases S1 hp with rfl|rfl|rfl|hv
 ·rfl
 ·cases h2
 ·rfl
 simp only [Dg,beq_iff_eq] at h5;exact h5.elim (fun e=>absurd e hv.2) (fun e=>absurd e hv.1)
theorem qv (h:(((t==ifW)&&(o==6))&&(((ks.getD 0 A6).val.kind==3) || ((ks.getD 0 A6).val.kind==0)))=false):(((o==6)&&(t==ifW))&&((ks.getD 0 A6).val==Bs true))=false∧(((o==6)&&(t==ifW))&&(((ks.getD 0 A6).val==Bs false) || ((ks.getD 0 A6).val==noV)))=false:=by
 generalize (ks.getD 0 A6).val=v at *
 cases h3:t==ifW<;>cases h4:o==6
 ·exact ⟨rfl,rfl⟩
 ·exact ⟨rfl,rfl⟩
 ·exact ⟨rfl,rfl⟩
 rw [h3,h4] at h
 simp only [Bool.and_self,Dc,Df,beq_eq_false_iff_ne,ne_eq] at h
 obtain ⟨q1,q2,q3⟩:=W6 (v:=v) ⟨h.2,h.1⟩
 rw [q1,q2,q3]
 exact ⟨rfl,rfl⟩
theorem AIs (hp:C2 (ks.getD 0 A6).val=true) (h0:(((t==ifW)&&(o==6))&&(((ks.getD 0 A6).val.kind==3) || ((ks.getD 0 A6).val.kind==0)))=false) (h:((t==Gu)&&(o==6))=true) (h2:((ks.getD 0 A6).val.kind==0)=true):Ct o t ks=some (ks.getD 1 A6):=by
 obtain ⟨q1,q2⟩:=qv h0
 unfold Ct
 rw [q1,q2]
 simp only [Ah] at h
 rw [h.1,h.2,Mx hp (eq_of_beq h2)]
 rfl
theorem AIt (h0:(((t==ifW)&&(o==6))&&(((ks.getD 0 A6).val.kind==3) || ((ks.getD 0 A6).val.kind==0)))=false) (h:((t==Gu)&&(o==6))=true) (h2:((ks.getD 0 A6).val.kind==0)=false):Ct o t ks=some (ks.getD 0 A6):=by
 obtain ⟨q1,q2⟩:=qv h0
 unfold Ct
 rw [q1,q2]
 simp only [Ah] at h
 have hn:((ks.getD 0 A6).val==noV)=false:=by
  rw [beq_eq_false_iff_ne]
  intro e
  rw [e] at h2
  cases h2
 rw [h.1,h.2,hn]
 rfl
theorem AIu (h:((t==Gu)&&(o==6))=false):((o==6)&&(t==Gu))=false:=by rw [Bool.and_comm];exact h
theorem AMo (hp:C2 (ks.getD 0 A6).val=true) (h:(((o==5)&&((ks.getD 0 A6).val.kind==3))&&(((t==orW)&&((ks.getD 0 A6).val.n==1)) || ((t==O9)&&((ks.getD 0 A6).val.n==0))))=true):Ct o t ks=some (ks.getD 0 A6):=by
 simp only [Ah,beq_iff_eq] at h
 obtain ⟨⟨rfl,h3⟩,h4⟩:=h
 have e:(((t==orW)&&((ks.getD 0 A6).val==Bs true)) || ((t==O9)&&((ks.getD 0 A6).val==Bs false)))=true:=by
  generalize (ks.getD 0 A6).val=v at *
  rcases Nu hp h3 with rfl|rfl
  ·simpa [Bs] using h4
  simpa [Bs] using h4
 unfold Ct
 rw [e]
 rfl
theorem AIv (hp:C2 (ks.getD 0 A6).val=true) (h0:(((t==ifW)&&(o==6))&&(((ks.getD 0 A6).val.kind==3) || ((ks.getD 0 A6).val.kind==0)))=false) (h1:((t==Gu)&&(o==6))=false) (h:(((o==5)&&((ks.getD 0 A6).val.kind==3))&&(((t==orW)&&((ks.getD 0 A6).val.n==1)) || ((t==O9)&&((ks.getD 0 A6).val.n==0))))=false):Ct o t ks=none:=by
 obtain ⟨q1,q2⟩:=qv h0
 have e:((o==5)&&(((t==orW)&&((ks.getD 0 A6).val==Bs true)) || ((t==O9)&&((ks.getD 0 A6).val==Bs false))))=false:=by
  generalize (ks.getD 0 A6).val=v at *
  cases h5:o==5
  ·rfl
  rw [h5] at h
  rcases S1 hp with rfl|rfl|rfl|hv
  ·simp only [show (noV==Bs true)=false from rfl,show (noV==Bs false)=false from rfl,dr,Jc]
  ·simpa [Bs] using h
  ·simpa [Bs] using h
  obtain ⟨r1,r2,_⟩:=W6 hv
  rw [r1,r2]
  simp
 unfold Ct
 rw [q1,q2,AIu h1,e]
 rfl
theorem ARb (h:((ks.getD 0 A6).op==1)=true) (hc:Ct o t ks=none):J5 o t ks=(G6 (.mk o t noV ks)).getD (.mk o t noV ks):=by
 unfold J5
 rw [if_pos h,hc]
 simp only
 cases G6 (.mk o t noV ks)<;>rfl
theorem ARc (h:((ks.getD 0 A6).op==1)=false):J5 o t ks=(G6 (.mk o t noV ks)).getD (.mk o t noV ks):=by
 unfold J5
 rw [if_neg (by rw [h];simp)]
 simp only
 cases G6 (.mk o t noV ks)<;>rfl
theorem ic {l:List Expr}:(l.any fun k => !(k.op==1)) = !(l.all fun k=>k.op==1):=by
 induction l with
 | nil=>rfl
 | cons a r ih=>rw [List.any_cons,List.all_cons,ih,Bool.not_and]
theorem ARd (h:(ks.all fun k=>k.op==1)=false):G6 (.mk o t noV ks)=none:=if_pos (by show (ks.any fun k => !(k.op==1))=true;rw [ic,h];rfl)
theorem ARe (h:(ks.all fun k=>k.op==1)=true) (hr:Ar (.mk o t noV ks)=true) (h2:(((Al [] [] (.mk o t noV ks)).2 != 0) || (((Al [] [] (.mk o t noV ks)).1.kind==1)&&decide ((Al [] [] (.mk o t noV ks)).1.n<0)))=true):G6 (.mk o t noV ks)=none:=by
 have he:Fe (.mk o t noV ks) [] []=Al [] [] (.mk o t noV ks):=Tb hr (by kernel_rfl)
 unfold G6
 rw [if_neg (by show ¬(ks.any fun k => !(k.op==1))=true;rw [ic,h];simp),he,if_pos h2]
theorem ARf (h:(ks.all fun k=>k.op==1)=true) (hr:Ar (.mk o t noV ks)=true) (h2:(((Al [] [] (.mk o t noV ks)).2 != 0) || (((Al [] [] (.mk o t noV ks)).1.kind==1)&&decide ((Al [] [] (.mk o t noV ks)).1.n<0)))=false):G6 (.mk o t noV ks)=some (Ei (Al [] [] (.mk o t noV ks)).1):=by
 have he:Fe (.mk o t noV ks) [] []=Al [] [] (.mk o t noV ks):=Tb hr (by kernel_rfl)
 unfold G6
 rw [if_neg (by show ¬(ks.any fun k => !(k.op==1))=true;rw [ic,h];simp),he,if_neg (by rw [h2];simp)]
theorem AEu {l:List Expr} {x:Nat} (h:x<l.length):((l.take (x+1)).map B4).all (fun k=>k.op==1)=(((l.take x).map B4).all (fun k=>k.op==1)&&((B4 l[x]).op==1)):=by rw [lf h,mv];simp
end
theorem zt {x:Expr} (hn:Bq Ch x=true) (h:((x.op==1) || (x.op==2))=true):B4 x=x:=by
 rw [Cb,Ah] at hn
 have hk:x.kids.length=0:=by
  have hnn:=hn.1
  obtain ⟨o,t,v,k⟩:=x
  rw [Hj,Gt] at hnn
  simp only [Expr.op,Expr.kids] at h ⊢
  split at hnn
  ·simp only [Ah,beq_iff_eq] at hnn
   have:=hnn.2
   omega
  rename_i h1
  have h2:(o==2)=true:=by
   cases e:o==1 with
   | true=>exact absurd e h1
   | false=>rw [e] at h;exact h
  have h2':=eq_of_beq h2
  subst h2'
  split at hnn
  ·cases hnn
  simp only [show ((2:Int)==2)=true from rfl,if_true,Ah,beq_iff_eq] at hnn
  have:=hnn.2
  omega
 exact t6 (by rw [hk];rfl)
theorem ml {n:Nat} {x:Expr} (hok:okE n x) (hnode:Bq Ch x=true) (hrg:Bq Cw x=true) (Hp:List AObj):AFun Tryz.prog 145 [Ab x,.nil,.nil] Hp (Nt (Al [] [] x)):=by
 have:=AVy [] [] ⟨by decide,by decide⟩ rfl (fun v hv=>by cases hv) n x hok hnode hrg Hp
 refine ACall.argLe this rfl fun i y y' h1 h2=>?_
 match i with
 | 0=>simp at h1 h2;subst h1;subst h2;exact .refl _
 | 1=>simp at h1 h2;subst h1;subst h2;exact .nil false 2
 | 2=>simp at h1 h2;subst h1;subst h2;exact .nil false 3
 | i+3=>simp at h1
theorem AVz:∀(n:Nat) (x:Expr),okE n x→n≤1000000→Bq Ch x=true→Bq Cw x=true→sizeE x≤300→depthE x≤30→∀Hp:List AObj,AFun Tryz.prog 101 [Ab x] Hp (Ab (B4 x)):=by
 intro n
 induction n with
 | zero=>exact fun x h=>h.elim
 | succ n ih =>
 intro x hok hn hnode hrng hsz hdp Hp
 have hkid:∀y∈x.kids,∀Hp:List AObj,AFun Tryz.prog 101 [Ab y] Hp (Ab (B4 y)):=fun y hy=>ih y (hok.2.2 y hy) (by omega) (by rw [Cb,Ah] at hnode;exact (Bd _ _).1 hnode.2 y hy) (by rw [Cb,Ah] at hrng;exact (Bd _ _).1 hrng.2 y hy) (by have:=Qc hy;have:=Ds x;omega) (by have:=Pb hy;have:=In x;omega)
 have hn0:=hnode
 rw [Cb,Ah] at hn0
 obtain ⟨k5,k34,k6,kall⟩:=Jo hn0.1
 refine Aj [.cell 2 26] [0] Tryz.func101 Tryz.ntmps101 (fun d=>?_)
 refine Z2 ?_;refine ABb ?_;refine Z46 ?_;refine Mf ?_;refine A2 [1,2,18] ?_
 refine A3 (fun ht18=>?_) (fun ht18=>?_)
 ·refine Z2 ?_;refine Rd ?_;exact A8 (Ai (Ap jA jS)) ⟨by rw [zt hnode ht18];simp only [Af];try rfl,rfl⟩ (hlow:=by simp [Ag])
 have hk1:0<x.kids.length:=by
  simp only [Df,beq_eq_false_iff_ne,ne_eq] at ht18
  rcases kall with h|h|h|h|h|h
  ·exact absurd h ht18.1
  ·exact absurd h ht18.2
  ·have:=k34 (.inl h);omega
  ·have:=k34 (.inr h);omega
  ·have:=k5 h;omega
  have:=k6 h
  rcases Eb this with ⟨_,e⟩|⟨_,e⟩|⟨_,e⟩|⟨_,e⟩|⟨_,e⟩|⟨_,e⟩|⟨_,e⟩|⟨_,e⟩<;>omega
 have hte:=t7 (x:=x) (by cases h:((x.kids.length:Int)==0) with|false=>rfl|true=>simp at h;rw [h] at hk1;exact absurd hk1 (by decide))
 have hk0:0<(x.kids.map B4).length:=by simpa using hk1
 obtain ⟨hyn,hyr,hys,hyd⟩:=d9 hnode hrng hk1
 obtain ⟨hy3,hy2⟩:=dc hyn
 have hyok:okE (n+1) (Expr.mk x.op x.text noV (x.kids.map B4)):=Zj (n+1) _ (I7 hyd (Q9 _ _ hok)) hyn
 have hyR:Ar (Expr.mk x.op x.text noV (x.kids.map B4))=true:=by
  rw [C4]
  unfold Ax
  simp only [Ah,decide_eq_true_eq]
  exact ⟨⟨by omega,by omega⟩,hyn⟩
 have hya:C2 ((x.kids.map B4).getD 0 A6).val=true∨(((x.kids.map B4).getD 0 A6).op==1)=false:=by
  cases h:((x.kids.map B4).getD 0 A6).op==1 with
  | false=>exact .inr rfl
  | true =>
   rw [Bq,Ah] at hyn
   have:=(Bd _ _).1 hyn.2 _ (M2 hk0)
   rw [Cb,Ah] at this
   exact .inl (Zc this.1 h)
 refine U9 ?_;refine AK4 ?_;refine A2 [1,2,3] ?_;refine E9 ?_;refine Rc 1 5 6 ?_;refine A4 ?_;refine A2 [1,2,3,4] ?_;refine Z25 ?_;refine A2 [1,2,3,4,5] ?_
 refine B9 (α:=Nat) (fun i=>⟨162,Aa 1 (.ro (B7 x)) (Aa 2 (.ptr (oid Hp.length 0) 0) (Aa 3 (.ptr (oid Hp.length 1) 0) (Aa 4 (At (((x.kids.take i).map B4).all fun k=>k.op==1)) (Aa 5 (A5 (i:Nat)) (fun _=>.any))))),Hp,[.cells 26 [A5 0,Ac [],A5 0,A5 0,Ac [],.nil],.cells 26 [A5 x.op,Ac x.text,A5 0,A5 0,Ac [],.slice true 6 (((x.kids.take i).map B4).map Ab)]],[],none⟩) (fun i=>i≤x.kids.length) (fun i=>x.kids.length-i) (0) (Av _) (Az (by simp)) rfl (fun i hi=>?_)
 refine O8 ?_;refine A2 [1,2,3,4,5,29] ?_
 refine A3 (fun ht29=>?_) (fun ht29=>?_)
 ·have hlt:i<x.kids.length:=by simpa using ht29
  have hkl:=hok.2.1
  refine jh ?_
  refine A4 (h:=Ad (i) (Ab x.kids[i]) (fun _=>B3 hlt)) (hr:=?_)
  refine A4 ?_;refine A9 Tryz.call101 (hkid x.kids[i] (Bb hlt) _) ?_;refine Z17 ?_;refine A2 [1,2,3,4,5,6] ?_;refine Z1 ?_;refine Z67 ?_;refine A2 [1,2,3,4,5,6] ?_;refine Z48 ?_;refine R.loadOwnT jA ?_;refine fc ?_
  refine Gz jU Tryz.type26 ?_ ?_ ?_
  ·simp only [B8,E7,B6,Bc,Tryz.t26];omega
  ·simp only [B8,E7,B6,Bc,Tryz.t26];omega
  refine A4 ?_;refine R.storeOwnT jS ?_;refine A2 [1,2,3,4,5] ?_;refine Me ?_;refine A2 [1,2,3,4,5] ?_;refine B2 (i+1) hlt (by omega) ?_
  have hlo:∀m,ObjLow m (.cells 26 [A5 x.op,Ac x.text,A5 0,A5 0,Ac [],.slice true 6 (((x.kids.take i).map B4++[B4 x.kids[i]]).map Ab)]):=fun m=>ADp
  simp only [Cs,Ci,Fs,Af] at hlo
  try simp only [show Tryz.t26.size=6 from rfl]
  rw [AEu hlt,lf hlt,Cs,Ci,Fs,Af]
  exact Dz (fun _=>.refl _) (by repeat (first|exact By|refine Bx (by first|exact D4|(simp [oid,Ag];done)|(simp [oid]<;>omega)) ?_)) (ATp Q8 (hlo _)) (by simp)
 have hxe:x.kids.length≤i:=by simpa using ht29
 rw [Dn hxe]
 refine Z52 ?_;refine Z1 ?_
 refine A4 (h:=Ad (0) (Ab ((x.kids.map B4).getD 0 A6)) (fun _=>Dy hk0)) (hr:=?_)
 refine We ?_;refine A2 [2,3,4,7] ?_;refine Z31 ?_;refine A2 [2,3,4,7,56] ?_
 refine A3 (fun ht56=>?_) (fun ht56=>?_)
 ·have hp:C2 ((x.kids.map B4).getD 0 A6).val=true:=hya.resolve_right (by rw [ht56];simp)
  refine fh ?_;refine A2 [2,3,4,7,8] ?_;refine Z46 ?_;refine ff ?_;refine Mf ?_;refine A2 [2,3,4,7,8,77] ?_
  refine A3 (fun ht77=>?_) (fun ht77=>?_)
  ·have h3:=hy3 (by have:=ht77;simp only [Ah] at this;rw [this.1.2];exact this.1.1)
   have h1k:1<(x.kids.map B4).length:=by omega
   have h2k:2<(x.kids.map B4).length:=by omega
   refine Z8 ?_;refine Z70 ?_;refine A4 ?_;refine A2 [2,3,84] ?_
   refine A3 (fun ht84=>?_) (fun ht84=>?_)
   ·have hc:=AMm hp ht77 ht84
    refine Z1 ?_
    refine A4 (h:=Ad (1) (Ab ((x.kids.map B4).getD 1 A6)) (fun _=>Dy h1k)) (hr:=?_)
    refine A4 ?_;refine Rd ?_;refine Fm ?_;exact Z54
   have hc:=AMn hp ht77 ht84
   refine Z98 ?_
   refine A4 (h:=Ad (2) (Ab ((x.kids.map B4).getD 2 A6)) (fun _=>Dy h2k)) (hr:=?_)
   refine A4 ?_;refine Rd ?_;exact Z54
  refine fj ?_;refine Mf ?_;refine A2 [2,3,4,7,8,100] ?_
  refine A3 (fun ht100=>?_) (fun ht100=>?_)
  ·have h2:=hy2 (by have:=ht100;simp only [Ah] at this;rw [this.2];exact this.1)
   have h1k:1<(x.kids.map B4).length:=by omega
   refine Z46 ?_;refine A2 [2,3,7,104] ?_
   refine A3 (fun ht104=>?_) (fun ht104=>?_)
   ·have hc:=AIs hp ht77 ht100 ht104
    refine Z1 ?_
    refine A4 (h:=Ad (1) (Ab ((x.kids.map B4).getD 1 A6)) (fun _=>Dy h1k)) (hr:=?_)
    refine A4 ?_;refine Rd ?_;refine Fm ?_;exact Z54
   have hc:=AIt ht77 ht100 ht104
   refine Z58 ?_;refine Rd ?_;exact Z54
  refine U9 ?_;refine wd ?_;refine ap ?_;refine ap ?_;refine Nj ?_;refine A2 [2,3,4,7,137] ?_
  refine A3 (fun ht137=>?_) (fun ht137=>?_)
  ·have hc:=AMo hp ht137
   refine Z2 ?_;refine Z24 ?_;exact Z54
  have htr:=ARb ht56 (AIv hp ht77 ht100 ht137)
  refine Re ?_;refine A2 [2,3,140] ?_
  refine A3 (fun ht140=>?_) (fun ht140=>?_)
  ·have hal:=ARd (o:=x.op) (t:=x.text) (show ((x.kids.map B4).all fun k=>k.op==1)=false by simpa using ht140)
   refine Z2 ?_;exact AN7
  have hal:((x.kids.map B4).all fun k=>k.op==1)=true:=by simpa using ht140
  refine Z58 ?_;refine A9 Tryz.call145 (ml hyok hyn hyr _) ?_;refine Z94 ?_;refine A2 [2,3,9,10] ?_;refine Z31 ?_;refine ap ?_;refine A4 ?_;refine A2 [2,3,9,158] ?_
  refine A3 (fun ht158=>?_) (fun ht158=>?_)
  ·have hrk:=ARe hal hyR ht158
   refine Z2 ?_;exact AN8
  have hrk:=ARf hal hyR ht158
  refine Z58 ?_;refine AN6 ?_;exact ANe
 have htr:=ARc (o:=x.op) (t:=x.text) ht56
 refine Re ?_;refine A2 [2,3,140] ?_
 refine A3 (fun ht140=>?_) (fun ht140=>?_)
 ·have hal:=ARd (o:=x.op) (t:=x.text) (show ((x.kids.map B4).all fun k=>k.op==1)=false by simpa using ht140)
  refine Z2 ?_;exact AN7
 have hal:((x.kids.map B4).all fun k=>k.op==1)=true:=by simpa using ht140
 refine Z58 ?_;refine A9 Tryz.call145 (ml hyok hyn hyr _) ?_;refine Z94 ?_;refine A2 [2,3,9,10] ?_;refine Z31 ?_;refine ap ?_;refine A4 ?_;refine A2 [2,3,9,158] ?_
 refine A3 (fun ht158=>?_) (fun ht158=>?_)
 ·have hrk:=ARe hal hyR ht158
  refine Z2 ?_;exact AN8
 have hrk:=ARf hal hyR ht158
 refine Z58 ?_;refine AN6 ?_;exact ANe

/-! The same moves. -/
def N2 (x y:Mov):Bool:=((((x.kind==y.kind)&&decide (x.take=y.take))&&decide (x.give=y.give))&&eqL x.ahead y.ahead)&&eqL x.back y.back
def Qq (a b:List Mov):Bool:=decide (a.length=b.length)&&(a.zip b).all fun p=>N2 p.1 p.2
theorem mm (l:List Expr):eqL l l=true:=(M0 l l).2 rfl
theorem zu (m:Mov):N2 m m=true:=by
 unfold N2
 rw [mm,mm]
 simp
theorem dp (a:List Mov):Qq a a=true:=by
 unfold Qq
 rw [decide_eq_true rfl,Dc,Bj]
 intro p hp
 obtain ⟨j,hj,rfl⟩:=R5 hp
 rw [List.getElem_zip]
 exact zu _
theorem AEv {a b:List Mov} (h:a.length≠b.length):Qq a b=false:=by
 unfold Qq
 rw [decide_eq_false h]
 rfl
theorem X5 {a b:List Mov} {x:Nat} {p q:Mov} (hx:a[x]? = some p) (hb:b[x]? = some q) (h:N2 p q=false):Qq a b=false:=by
 unfold Qq
 have:(a.zip b).all (fun p=>N2 p.1 p.2)=false:=by
  rw [Od]
  refine ⟨(p,q),Be (i:=x) ?_,by rw [h];simp⟩
  rw [Tx]
  exact ⟨hx,hb⟩
 rw [this,dr]
theorem AEw {a b:List Mov} (hl:a.length=b.length) (h:∀(j:Nat) (y z:Mov),j<a.length→a[j]? = some y→b[j]? = some z→N2 y z=true):Qq a b=true:=by
 unfold Qq
 rw [decide_eq_true hl,Dc,Bj]
 intro p hp
 obtain ⟨j,hj,rfl⟩:=R5 hp
 have h1:j<a.length:=by rw [List.length_zip] at hj;omega
 rw [List.getElem_zip]
 exact h j _ _ h1 (Ae h1) (Ae (by omega))
theorem ARg {a b:List Mov} {x:Nat} {p q:Mov} (hx:a[x]? = some p) (hb:b[x]? = some q) (h:∀(j:Nat) (y z:Mov),j<x→a[j]? = some y→b[j]? = some z→N2 y z=true) (he:N2 p q=true):∀(j:Nat) (y z:Mov),j<x+1→a[j]? = some y→b[j]? = some z→N2 y z=true:=by
 intro j y z hj h1 h2
 rcases Bn j x with h3|h3
 ·exact h j y z h3 h1 h2
 have:j=x:=by omega
 subst this
 rw [hx] at h1
 rw [hb] at h2
 injection h1 with h1
 injection h2 with h2
 rw [←h1,←h2]
 exact he
theorem zv {p q:Mov} (h:(((((p.kind != q.kind) || !(decide (p.take=q.take))) || ((p.give.length:Int) != (q.give.length:Int))) || ((p.ahead.length:Int) != (q.ahead.length:Int))) || ((p.back.length:Int) != (q.back.length:Int)))=true):N2 p q=false:=by
 rw [D6]
 intro e
 unfold N2 at e
 simp only [Ah,beq_iff_eq,decide_eq_true_eq] at e
 obtain ⟨⟨⟨⟨e1,e2⟩,e3⟩,e4⟩,e5⟩:=e
 rw [e1,e2,e3,(M0 _ _).1 e4,(M0 _ _).1 e5] at h
 simp at h
structure MvHead (p q:Mov):Prop where
 kind:p.kind=q.kind
 take:p.take=q.take
 give:p.give.length=q.give.length
 ahead:p.ahead.length=q.ahead.length
 back:p.back.length=q.back.length
theorem AIw {p q:Mov} (h:(((((p.kind != q.kind) || !(decide (p.take=q.take))) || ((p.give.length:Int) != (q.give.length:Int))) || ((p.ahead.length:Int) != (q.ahead.length:Int))) || ((p.back.length:Int) != (q.back.length:Int)))=false):MvHead p q:=by
 simp only [Df,bne_eq_false_iff_eq,Ka,decide_eq_true_eq] at h
 obtain ⟨⟨⟨⟨e1,e2⟩,e3⟩,e4⟩,e5⟩:=h
 exact ⟨e1,e2,by omega,by omega,by omega⟩
theorem zw {p q:Mov} {k:Nat} (h1:k<p.give.length) (h2:k<q.give.length) (h:p.give[k]≠q.give[k]):N2 p q=false:=by
 unfold N2
 have:decide (p.give=q.give)=false:=decide_eq_false fun e=>h (by simp only [e])
 rw [this]
 simp
theorem qw {p q:Mov} (h:eqL p.ahead q.ahead=false):N2 p q=false:=by
 unfold N2
 rw [h]
 simp
theorem zx {p q:Mov} (h:eqL p.back q.back=false):N2 p q=false:=by
 unfold N2
 rw [h]
 simp
theorem AEx {p q:Mov} (h:MvHead p q) (h3:p.give=q.give) (h4:eqL p.ahead q.ahead=true) (h5:eqL p.back q.back=true):N2 p q=true:=by
 unfold N2
 rw [h.kind,h.take,h3,h4,h5]
 simp
theorem c27 (a b:List Mov) (ha:OkMovs a) (Hp:List AObj):AFun Tryz.prog 27 [Gi a,Gi b] Hp (At (Qq a b)):=by
 refine Aj [.tmp 4] [0,1] Tryz.func27 Tryz.ntmps27 (fun d=>?_)
 refine Z60 ?_;refine O8 ?_;refine A2 [0,1,15] ?_
 refine A3 (fun ht15=>?_) (fun ht15=>?_)
 ·rw [B8,B8] at ht15
  have hm:Qq a b=false:=AEv (by simp at ht15;omega)
  refine Z84 ?_;refine Z10 ?_;exact o7
 rw [B8,B8] at ht15
 have hab:a.length=b.length:=by simp at ht15;omega
 refine Nk ?_;refine Xx ?_
 refine B9 (α:=Nat) (fun x=>⟨126,Aa 0 (Gi a) (Aa 1 (Gi b) (Aa 5 (A5 (x:Nat)) (fun _=>.any))),Hp,[],[],none⟩) (fun x=>x≤a.length∧∀(j:Nat) (y z:Mov),j<x→a[j]? = some y→b[j]? = some z→N2 y z=true) (fun x=>a.length-x) (0) ⟨Av _,fun j y z h=>by omega⟩ (F1 _) rfl (fun x hx=>?_)
 refine Z46 ?_;refine A2 [0,1,5,19] ?_
 refine A3 (fun ht19=>?_) (fun ht19=>?_)
 ·have hal:=ha.len
  have hlt:x<a.length:=by simpa using ht19
  obtain ⟨p,hp⟩:∃p,p=a[x]:=⟨_,rfl⟩
  obtain ⟨q,hq⟩:∃q,q=b[x]:=⟨_,rfl⟩
  have hpa:a[x]? = some p:=by rw [hp];exact Ae hlt
  have hqb:b[x]? = some q:=by rw [hq];exact Ae (by omega)
  have hax:(a.map Ir)[x]? = some (Ir p):=by rw [Cp,hpa];rfl
  have hbx:(b.map Ir)[x]? = some (Ir q):=by rw [Cp,hqb];rfl
  have hpo:=ha.each p (Be hpa)
  have hb1:=hpo.gives2
  have hb2:=hpo.ahead.len
  have hb3:=hpo.back.len
  refine Z50 ?_;refine Hc [0,0,3,7,0,0,48,112,0,0,783,2047] [] [.q 8 [] [],.s [6] none [] [],.s [7] none [] [],.s [6] none [] [],.s [7] none [] []] (fun _=>Hp) (fun _=>[]) Am (by kernel_rfl) rfl rfl (fun _=>rfl) ?_
  apply Y.q
  ·intro B hT hF
   refine Z9 ?_
   refine Aq (h:=Ad (x) (Ir p) (fun _=>hax)) (hr:=?_)
   refine Z37 ?_
   refine Aq (h:=Ad (x) (Ir q) (fun _=>hbx)) (hr:=?_)
   exact Xp
  case hTF=>decide
  refine Y.allocP Tryz.zeroValue48 ?_;refine Y.allocP Tryz.zeroValue48 ?_;refine Y.storeP Tryz.sizeOf48 ?_;refine Y.storeP Tryz.sizeOf48 ?_;refine Hd (tn:=[])  ?_;refine A2 [0,1,5,6,7] ?_;refine Z46 ?_;refine am ?_;refine Bk Tryz.call63 (fun hB=>c63 p.take q.take hpo.takes _) ?_;refine Bl ?_;refine am ?_;refine ff ?_;refine ff ?_;refine Mf ?_;refine A2 [0,1,5,6,7,69] ?_
  refine A3 (fun ht69=>?_) (fun ht69=>?_)
  ·simp only [B8] at ht69
   have hm:Qq a b=false:=X5 hpa hqb (zv ht69)
   refine Z84 ?_;refine Z10 ?_;exact Z83
  simp only [B8] at ht69
  have hh:=AIw ht69
  refine Nk ?_;refine A2 [0,1,5,6,7,8] ?_
  refine B9 (α:=Nat) (fun k=>⟨126,Aa 0 (Gi a) (Aa 1 (Gi b) (Aa 5 (A5 (x:Nat)) (Aa 6 (.ro (Ph p)) (Aa 7 (.ro (Ph q)) (Aa 8 (A5 (k:Nat)) (fun _=>.any)))))),Hp,[],[],none⟩) (fun k=>k≤p.give.length∧∀(j:Nat) (y:Col),j<k→p.give[j]? = some y→q.give[j]? = some y) (fun k=>p.give.length-k) (0) ⟨Av _,fun j y h=>by omega⟩ (F1 _) rfl (fun k hk=>?_)
  refine O8 ?_;refine A2 [0,1,5,6,7,8,74] ?_
  refine A3 (fun ht74=>?_) (fun ht74=>?_)
  ·have hkl:k<p.give.length:=by simpa using ht74
   have hkq:k<q.give.length:=by have:=hh.give;omega
   refine Z50 ?_;refine C3 [0,1,0,7,15,0,32,0,224,480,1023] 10 Am (by kernel_rfl) ?_;refine Z37 ?_
   refine Aq (h:=Ad (k) (D8 p.give[k]) (fun _=>B3 hkl)) (hr:=?_)
   refine O6 ?_
   refine Aq (h:=Ad (k) (D8 q.give[k]) (fun _=>B3 hkq)) (hr:=?_)
   refine Z86 ?_
   refine A4 (h:=Q.neqAgg ASl (AGu p.give[k].kind q.give[k].kind p.give[k].name q.give[k].name)) (hr:=?_)
   refine A2 [0,1,5,6,7,8,87] ?_
   refine A3 (fun ht87=>?_) (fun ht87=>?_)
   ·rw [s0] at ht87
    have hm:Qq a b=false:=X5 hpa hqb (zw hkl hkq (by simpa using ht87))
    refine Z84 ?_;refine Z99 ?_;exact Z83
   rw [s0] at ht87
   refine Z87 ?_;refine A2 [0,1,5,6,7,8] ?_
   exact B2 (k+1) ⟨hkl,Ig (p:=fun j y=>q.give[j]? = some y) hkl hk.2 (by rw [Ae hkq];simpa using (Eq.symm (by simpa using ht87):q.give[k]=p.give[k]))⟩ (by omega) (Bz rfl)
  have hke:k=p.give.length:=by simp at ht74;omega
  subst hke
  have hge:p.give=q.give:=Mk hh.give fun j y hj hy=>by rw [hk.2 j y hj hy]
  refine Z52 ?_;refine Z25 ?_;refine A2 [0,1,5,6,7,9] ?_
  refine B9 (α:=Nat) (fun k=>⟨126,Aa 0 (Gi a) (Aa 1 (Gi b) (Aa 5 (A5 (x:Nat)) (Aa 6 (.ro (Ph p)) (Aa 7 (.ro (Ph q)) (Aa 9 (A5 (k:Nat)) (fun _=>.any)))))),Hp,[],[],none⟩) (fun k=>k≤p.ahead.length∧∀(j:Nat) (y z:Expr),j<k→p.ahead[j]? = some y→q.ahead[j]? = some z→eqE y z=true) (fun k=>p.ahead.length-k) (0) ⟨Av _,fun j y z h=>by omega⟩ (F1 _) rfl (fun k hk=>?_)
  refine O8 ?_;refine A2 [0,1,5,6,7,9,92] ?_
  refine A3 (fun ht92=>?_) (fun ht92=>?_)
  ·have hkl:k<p.ahead.length:=by simpa using ht92
   have hkq:k<q.ahead.length:=by have:=hh.ahead;omega
   refine AK0 ?_;refine Z37 ?_
   refine Aq (h:=Ad (k) (Ab p.ahead[k]) (fun _=>B3 hkl)) (hr:=?_)
   refine O6 ?_
   refine Aq (h:=Ad (k) (Ab q.ahead[k]) (fun _=>B3 hkq)) (hr:=?_)
   refine Z86 ?_;refine A9 Tryz.call20 (c20 61 p.ahead[k] (hpo.ahead.ok _ (Bb hkl)) q.ahead[k] _) ?_;refine A4 ?_;refine A2 [0,1,5,6,7,9,106] ?_
   refine A3 (fun ht106=>?_) (fun ht106=>?_)
   ·have hm:Qq a b=false:=X5 hpa hqb (qw (gr hkl hkq (by simpa using ht106)))
    refine Z84 ?_;refine Z99 ?_;exact Z83
   refine Z87 ?_;refine A2 [0,1,5,6,7,9] ?_;exact B2 (k+1) ⟨hkl,sx hkl hkq hk.2 (by simpa using ht106)⟩ (by omega) (Bz rfl)
  have hke:k=p.ahead.length:=by simp at ht92;omega
  subst hke
  have hae:eqL p.ahead q.ahead=true:=Ta hh.ahead hk.2
  refine Xw ?_;refine A2 [0,1,5,6,7,10] ?_
  refine B9 (α:=Nat) (fun k=>⟨126,Aa 0 (Gi a) (Aa 1 (Gi b) (Aa 5 (A5 (x:Nat)) (Aa 6 (.ro (Ph p)) (Aa 7 (.ro (Ph q)) (Aa 10 (A5 (k:Nat)) (fun _=>.any)))))),Hp,[],[],none⟩) (fun k=>k≤p.back.length∧∀(j:Nat) (y z:Expr),j<k→p.back[j]? = some y→q.back[j]? = some z→eqE y z=true) (fun k=>p.back.length-k) (0) ⟨Av _,fun j y z h=>by omega⟩ (F1 _) rfl (fun k hk=>?_)
  refine O8 ?_;refine A2 [0,1,5,6,7,10,111] ?_
  refine A3 (fun ht111=>?_) (fun ht111=>?_)
  ·have hkl:k<p.back.length:=by simpa using ht111
   have hkq:k<q.back.length:=by have:=hh.back;omega
   refine AK0 ?_;refine Z37 ?_
   refine Aq (h:=Ad (k) (Ab p.back[k]) (fun _=>B3 hkl)) (hr:=?_)
   refine O6 ?_
   refine Aq (h:=Ad (k) (Ab q.back[k]) (fun _=>B3 hkq)) (hr:=?_)
   refine Z86 ?_;refine A9 Tryz.call20 (c20 61 p.back[k] (hpo.back.ok _ (Bb hkl)) q.back[k] _) ?_;refine A4 ?_;refine A2 [0,1,5,6,7,10,125] ?_
   refine A3 (fun ht125=>?_) (fun ht125=>?_)
   ·have hm:Qq a b=false:=X5 hpa hqb (zx (gr hkl hkq (by simpa using ht125)))
    refine Z84 ?_;refine Z13 ?_;refine Kh ?_;exact Z83
   refine Z87 ?_;refine A2 [0,1,5,6,7,10] ?_;exact B2 (k+1) ⟨hkl,sx hkl hkq hk.2 (by simpa using ht125)⟩ (by omega) (Bz rfl)
  have hke:k=p.back.length:=by simp at ht111;omega
  subst hke
  have hbe:eqL p.back q.back=true:=Ta hh.back hk.2
  refine w7 ?_;refine Me ?_;refine Xx ?_
  refine B2 (x+1) ⟨hlt,ARg hpa hqb hx.2 (AEx hh hge hae hbe)⟩ (by omega) (Bz rfl)
 have hxe:x=a.length:=by simp at ht19;omega
 subst hxe
 have hm:Qq a b=true:=AEw hab hx.2
 refine Xw ?_;refine Z33 ?_;exact o7

end Go.SX.Nb
namespace Go.SX
variable [GI:GlobInv]
open Classical
section
variable {P:Program} {d:Nat} {st:St} {dst:Option Tmp} {ty:TypeId} {pos:String} {aft:Array Edge} {gd:Option (Nat×Bool)}
variable {sz:Nat} {fr:Nat→AV} {up own own':List AObj} {dfs:List Nat} {rnd:Option Nat} {Q:St→Prop} {ops:Array Oper} {rest:List Oper} {s:Nat}
variable {l0:List Oper} {E:List Oper→(Nat→AV)→Prop} {kd:Nat}
end
end Go.SX
