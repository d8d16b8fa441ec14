/- On the way (part 8). -/
import Derived.Lib.ItoaLen
import Derived.Test.YtfngkblpcigciaaGreatDoorProg
import Derived.Shelf.Strconv.Itoa4
import Derived.KernelRfl
import Derived.Test.YtfngkblpcigciaaGreatDoorQueryRunsCardSaidPart7
set_option linter.all false
namespace Go.SX.Nb
open Go Go.SX Go.Proofs
variable [ErrAt]
set_option maxRecDepth 4000
theorem AN9 (a b:Int) (a0 : -9223372036854775808≤a) (a1:a≤9223372036854775807) (b0 : -9223372036854775808≤b) (b1:b≤9223372036854775807):a.natAbs*b.natAbs<B32 ^ 5:=by
 have:a.natAbs*b.natAbs≤9223372036854775808*9223372036854775808:=Nat.mul_le_mul (by omega) (by omega)
 have h2:(9223372036854775808*9223372036854775808:Nat)<B32 ^ 5:=by decide
 omega
theorem AGl {a:Int} (a0 : -9223372036854775808≤a) (a1:a≤9223372036854775807):a.natAbs<B32 ^ 5∧a.natAbs<B32 ^ 2:=by
 have h2:(9223372036854775809:Nat)≤B32 ^ 5:=by decide
 have h3:(9223372036854775809:Nat)≤B32 ^ 2:=by decide
 omega
section
variable {t:Str} {a b:Val}
theorem Si (h3:(Ba t==3)=false) (h:(t==[38])=true):H0 t a b=Hj a b:=by rw [X0 h3,if_pos h]
theorem sw (h3:(Ba t==3)=false) (h:(t==[38])=false) (hk:((a.kind != 1) || (b.kind != 1))=true):H0 t a b=(noV,10):=by
 rw [X0 h3,if_neg (by rw [h];simp)]
 have:(!Bl [a,b] [1,1])=true:=by
  simp only [Bl,P4]
  simp only [C7,bne_iff_ne,ne_eq] at hk
  simp
  exact hk
 rw [if_pos this]
 rfl
theorem sx (h3:(Ba t==3)=false) (h:(t==[38])=false) (hk:((a.kind != 1) || (b.kind != 1))=false):H0 t a b=Eo (Dt t a.n b.n):=by
 rw [X0 h3,if_neg (by rw [h];simp)]
 have:(!Bl [a,b] [1,1])=false:=by
  simp only [Cv,bne_eq_false_iff_eq] at hk
  simp [Bl,hk.1,hk.2]
 rw [if_neg (by rw [this];simp)]
theorem AGm (h:((a.kind != 2) || (b.kind != 2))=true):Hj a b=(noV,10):=by
 unfold Hj
 have:(!Bl [a,b] [2,2])=true:=by
  simp only [Bl,P4]
  simp only [C7,bne_iff_ne,ne_eq] at h
  simp
  exact h
 rw [if_pos this]
 rfl
theorem AGn (h:((a.kind != 2) || (b.kind != 2))=false) (h2:decide ((200:Int)<(a.s.length:Int)+(b.s.length:Int))=true):Hj a b=(noV,3):=by
 unfold Hj
 have:(!Bl [a,b] [2,2])=false:=by
  simp only [Cv,bne_eq_false_iff_eq] at h
  simp [Bl,h.1,h.2]
 rw [if_neg (by rw [this];simp),if_pos h2]
 rfl
theorem AGo (h:((a.kind != 2) || (b.kind != 2))=false) (h2:decide ((200:Int)<(a.s.length:Int)+(b.s.length:Int))=false):Hj a b=(⟨2,0,a.s++b.s⟩,0):=by
 unfold Hj
 have:(!Bl [a,b] [2,2])=false:=by
  simp only [Cv,bne_eq_false_iff_eq] at h
  simp [Bl,h.1,h.2]
 rw [if_neg (by rw [this];simp),if_neg (by rw [h2];simp)]
 unfold Pi
 simp only [decide_eq_false_iff_not] at h2
 rw [De (by rw [Aq];omega)]
end
theorem ACn {t:Str} {a b:Int} (h1:(t==[43])=false) (h2:(t==[45])=false) (h3:(t==[42])=false) (hb:(b==0)=true):Eo (Dt t a b)=(noV,5):=by
 unfold Dt Ty Pk
 rw [if_neg (by rw [h1];simp),if_neg (by rw [h2];simp),if_neg (by rw [h3];simp),if_pos hb,if_pos hb]
 split<;>rfl
theorem c53 (t:Str) (a b:Val) (fa:Fine a) (fb:Fine b) (hal:a.s.length≤1048576) (hbl:b.s.length≤1048576) (Hp:List AObj):AFun Tryz.prog 53 [Ac t,B8 a,B8 b] Hp (Nk (H0 t a b)):=by
 have ea:=AGl fa.lo fa.hi
 have eb:=AGl fb.lo fb.hi
 refine Ah [.cell 6 24,.tmp 7] [0,1,2] Tryz.func53 Tryz.ntmps53 (fun d=>?_)
 refine Z1 ?_;refine Z83 ?_;refine A2 [0,4,5,6] ?_;refine Z23 ?_;refine A7 Tryz.call84 (c84 t _) ?_;refine A4 ?_;refine A2 [0,4,5,6,16] ?_
 refine A3 (fun ht16=>?_) (fun ht16=>?_)
 ·refine Lu ?_;refine A2 [0,4,5,6,21] ?_
  refine A3 (fun ht21=>?_) (fun ht21=>?_)
  ·refine Z25 ?_;refine ph ?_;exact A8 (B4 (Az jA jS) A6) ⟨by rw [zb ht16 ht21];try rfl,rfl⟩
  have hbc:=ACm fa.plain fb.plain ht16 ht21
  refine Z3 ?_;refine Ct [0,0,3,0,0,31,63,127] 5 Aj (by kernel_rfl) ?_;refine Z10 ?_;refine Cy Tryz.call85 (c85 a b hal _) ?_;refine Q9 ?_;refine A7 Tryz.call85 (c85 b a hbl _) ?_;refine Z0 ?_;refine A2 [0,6,8,9] ?_;refine Z23 ?_;refine A2 [6,8,9,29] ?_;refine Z91 ?_;refine A2 [6,8,9,29,30] ?_
  refine A3 (fun ht30=>?_) (fun ht30=>?_)
  ·refine Z13 ?_;refine Qa ?_;refine w6 ?_;exact A8 (B4 (Az jA jS) A6) ⟨by rw [hbc];unfold cp;rw [if_pos ht30];try rfl,rfl⟩
  refine Z1 ?_;refine A2 [6,8,9,29,39] ?_
  refine A3 (fun ht39=>?_) (fun ht39=>?_)
  ·refine Z1 ?_;refine Z95 ?_;refine w6 ?_;exact A8 (B4 (Az jA jS) A6) ⟨by rw [hbc];unfold cp;rw [if_neg (by rw [ht30];simp),if_pos ht39];try rfl,rfl⟩
  refine Z1 ?_;refine A2 [6,8,9,29,46] ?_
  refine A3 (fun ht46=>?_) (fun ht46=>?_)
  ·refine Z2 ?_;refine w6 ?_;exact A8 (B4 (Az jA jS) A6) ⟨by rw [hbc];unfold cp;rw [if_neg (by rw [ht30];simp),if_neg (by rw [ht39];simp),if_pos ht46];try rfl,rfl⟩
  refine Z1 ?_;refine A2 [6,8,9,29,50] ?_
  refine A3 (fun ht50=>?_) (fun ht50=>?_)
  ·refine Z1 ?_;refine w6 ?_;exact A8 (B4 (Az jA jS) A6) ⟨by rw [hbc];unfold cp;rw [if_neg (by rw [ht30];simp),if_neg (by rw [ht39];simp),if_neg (by rw [ht46];simp),if_pos ht50];try rfl,rfl⟩
  refine Z1 ?_;refine A2 [6,8,9,55] ?_
  refine A3 (fun ht55=>?_) (fun ht55=>?_)
  ·refine Z2 ?_;refine w6 ?_;exact A8 (B4 (Az jA jS) A6) ⟨by rw [hbc];unfold cp;rw [if_neg (by rw [ht30];simp),if_neg (by rw [ht39];simp),if_neg (by rw [ht46];simp),if_neg (by rw [ht50];simp),if_pos ht55];try rfl,rfl⟩
  refine bi ?_;refine AF8 ?_;exact A8 (B4 (Az jA jS) A6) ⟨by rw [hbc];unfold cp;rw [if_neg (by rw [ht30];simp),if_neg (by rw [ht39];simp),if_neg (by rw [ht46];simp),if_neg (by rw [ht50];simp),if_neg (by rw [ht55];simp)];try rfl,rfl⟩
 refine bj ?_;refine A2 [0,4,5,6,63] ?_
 refine A3 (fun ht63=>?_) (fun ht63=>?_)
 ·refine Z48 ?_;refine Z90 ?_;refine A2 [4,5,6,71] ?_
  refine A3 (fun ht71=>?_) (fun ht71=>?_)
  ·refine Z25 ?_;refine ph ?_;exact A8 (B4 (Az jA jS) A6) ⟨by rw [Si ht16 ht63,AGm ht71];try rfl,rfl⟩
  refine jy ?_;refine Z61 ?_;refine A2 [4,5,6,80] ?_
  refine A3 (fun ht80=>?_) (fun ht80=>?_)
  ·refine Z25 ?_;refine ph ?_;exact A8 (B4 (Az jA jS) A6) ⟨by rw [Si ht16 ht63,AGn ht71 ht80];try rfl,rfl⟩
  refine Tv ?_
  refine A4 (h:=Lp (hl:=fun _=>by omega)) (hr:=?_)
  refine AEp ?_;exact A8 (B4 (Az jA jS) A6) ⟨by rw [Si ht16 ht63,AGo ht71 ht80];try rfl,rfl⟩
 refine jy ?_;refine Z90 ?_;refine A2 [0,4,5,6,95] ?_
 refine A3 (fun ht95=>?_) (fun ht95=>?_)
 ·refine Z25 ?_;refine Z55 ?_;exact A8 (B4 (Az jA jS) A6) ⟨by rw [sw ht16 ht63 ht95];try rfl,rfl⟩
 have hba:=sx (a:=a) (b:=b) ht16 ht63 ht95
 refine Z3 ?_;refine Fs [0,1,3,0,8,31,0,0,255,511] [] [.q 6 [] [],.s [10] none [] [],.s [11] none [] [],.s [10] none [] [],.s [11] none [] []] (fun _=>Hp) (fun _=>[.cells 24 [A5 0,A5 0,Ac []]]) Aj (by kernel_rfl) rfl rfl (fun _=>rfl) ?_
 apply Y.q
 ·intro B hT hF
  refine Z10 ?_;refine Cy Tryz.call56 (sc a.n fa.lo fa.hi _) ?_;refine Z10 ?_;refine Cy Tryz.call56 (sc b.n fb.lo fb.hi _) ?_;exact k9
 case hTF=>decide
 refine Y.allocP Tryz.zeroValue100 ?_;refine Y.allocP Tryz.zeroValue100 ?_;refine Y.storeP Tryz.sizeOf100 ?_;refine Y.storeP Tryz.sizeOf100 ?_;refine F7 (tn:=[])  ?_;refine A2 [0,4,5,6,10,11] ?_;refine Z23 ?_;refine A2 [0,4,5,6,10,11,103] ?_;refine Z91 ?_;refine A2 [0,4,5,6,10,11,103,104] ?_
 refine A3 (fun ht104=>?_) (fun ht104=>?_)
 ·refine Z1 ?_;refine A7 Tryz.call86 (c86 (decide (a.n<0)) a.n.natAbs (decide (b.n<0)) b.n.natAbs ea.1 eb.1 _) ?_;refine A7 Tryz.call54 (c54 _ _ (zd fa.lo fa.hi fb.lo fb.hi) _) ?_;refine dx ?_;refine Z41 ?_;exact A8 (B4 (Az jA jS) A6) ⟨by rw [hba,show Dt t a.n b.n=Wl a.n b.n from if_pos ht104,Jr,sm fa.lo fa.hi fb.lo fb.hi];try rfl,rfl⟩
 refine Z1 ?_;refine A2 [0,4,5,6,10,11,103,112] ?_
 refine A3 (fun ht112=>?_) (fun ht112=>?_)
 ·refine Ct [0,0,2,7,15,31,31,127,255] 7 Aj (by kernel_rfl) ?_;refine Z10 ?_;refine Cy Tryz.call55 (c55 (decide (b.n<0)) (dig b.n.natAbs) _) ?_;refine Cy Tryz.call86 (c86 (decide (a.n<0)) a.n.natAbs (!(decide (b.n<0))) b.n.natAbs ea.1 eb.1 _) ?_;refine Cy Tryz.call54 (c54 _ _ (zd fa.lo fa.hi fb.lo fb.hi) _) ?_;refine Q9 ?_;refine Z21 ?_;refine Z41 ?_;exact A8 (B4 (Az jA jS) A6) ⟨by rw [hba,show Dt t a.n b.n=Ji a.n b.n from (by unfold Dt;rw [if_neg (by rw [ht104];simp),if_pos ht112]),Jr,so fa.lo fa.hi fb.lo fb.hi];try rfl,rfl⟩
 refine Z1 ?_;refine A2 [0,4,5,6,10,11,121] ?_
 refine A3 (fun ht121=>?_) (fun ht121=>?_)
 ·refine Z1 ?_;refine A7 Tryz.call87 (c87 (decide (a.n<0)) a.n.natAbs (decide (b.n<0)) b.n.natAbs ea.2 eb.2 _) ?_;refine A7 Tryz.call54 (c54 _ _ (AN9 a.n b.n fa.lo fa.hi fb.lo fb.hi) _) ?_;refine dx ?_;refine Z41 ?_;exact A8 (B4 (Az jA jS) A6) ⟨by rw [hba,show Dt t a.n b.n=Pj a.n b.n from (by unfold Dt;rw [if_neg (by rw [ht104];simp),if_neg (by rw [ht112];simp),if_pos ht121]),Jr,sq fa.lo fa.hi fb.lo fb.hi];try rfl,rfl⟩
 refine Z18 ?_;refine Z32 ?_;refine A2 [0,4,5,6,131] ?_
 refine A3 (fun ht131=>?_) (fun ht131=>?_)
 ·refine Z25 ?_;refine Z55 ?_;exact A8 (B4 (Az jA jS) A6) ⟨by rw [hba,ACn ht104 ht112 ht121 ht131];try rfl,rfl⟩
 refine Tv ?_;refine A7 Tryz.call88 (c88 a.n b.n fa.lo fa.hi fb.lo fb.hi (by simpa using ht131) _) ?_;refine AEi ?_;refine vp ?_;refine A2 [0,6,12,13] ?_;refine Z8 ?_;refine A2 [6,12,13,142] ?_
 refine A3 (fun ht142=>?_) (fun ht142=>?_)
 ·refine Z2 ?_;refine A7 Tryz.call54 (c54 _ _ (Pz (U9 _ _) ea.1) _) ?_;refine Z0 ?_;refine Z55 ?_;exact A8 (B4 (Az jA jS) A6) ⟨by rw [hba,show Dt t a.n b.n=Ty a.n b.n from (by unfold Dt;rw [if_neg (by rw [ht104];simp),if_neg (by rw [ht112];simp),if_neg (by rw [ht121];simp),if_pos ht142]),Jr,sr fa.lo fa.hi fb.lo fb.hi ht131];try rfl,rfl⟩
 refine Z93 ?_;refine A7 Tryz.call54 (c54 _ _ (Pz (Q0 _ _) ea.1) _) ?_;refine dx ?_;refine Eu ?_;exact A8 (B4 (Az jA jS) A6) ⟨by rw [hba,show Dt t a.n b.n=Pk a.n b.n from (by unfold Dt;rw [if_neg (by rw [ht104];simp),if_neg (by rw [ht112];simp),if_neg (by rw [ht121];simp),if_neg (by rw [ht142];simp)]),Jr,su fa.lo fa.hi fb.lo fb.hi ht131];try rfl,rfl⟩

set_option maxRecDepth 8000
/-! The reference's reading of a number. -/
def rdS (x:Nat×Bool) (c:UInt8):Nat×Bool:=if x.2 then x else (x.1*10+(c.toNat-48),decide (18446744073709551616≤x.1*10+(c.toNat-48)))
def rdL (d:Str):Nat×Bool:=d.foldl rdS (0,false)
def Qu (c:UInt8):Bool:=(decide (48≤c.toNat)&&decide (c.toNat≤57))
theorem cq:∀(l:Str) (m:Nat),l.foldl rdS (m,true)=(m,true)
 | [],m=>rfl
 | c::r,m=>cq r m
theorem nt {d:Str} {i:Nat} (h:i<d.length):rdL (d.take (i+1))=rdS (rdL (d.take i)) d[i]:=by
 unfold rdL
 rw [Fw h,Zw]
 rfl
theorem ze {l:Str} (hl:∀c∈l,Qu c=true):∀x:Nat×Bool,(x.2=false→x.1<18446744073709551616)→(l.foldl rdS x).2=false→(l.foldl rdS x).1<18446744073709551616:=by
 induction l with
 | nil=>exact fun x h h2=>h h2
 | cons c r ih =>
  intro x h h2
  refine ih (fun y hy=>hl y (Pv _ hy)) (rdS x c) (fun h3=>?_) h2
  unfold rdS at h3 ⊢
  split
  ·rename_i h4;rw [if_pos h4] at h3;rw [h4] at h3;cases h3
  rename_i h4;rw [if_neg h4] at h3;simp at h3;simpa using h3
theorem ip:∀(l:Str) (m:Nat),(∀c∈l,Qu c=true)→m<18446744073709551616→Lib.parseUintM 18446744073709551615 m l=if (l.foldl rdS (m,false)).2=true then .range else .ok (l.foldl rdS (m,false)).1
 | [],m,_,_=>by rw [Lib.parseUintM];rfl
 | c::r,m,h,hm=>by
  have hc:=h c (by simp)
  unfold Qu at hc
  simp only [Al,decide_eq_true_eq] at hc
  have hr:=fun y hy=>h y (Pv _ hy)
  have e:(c::r).foldl rdS (m,false)=r.foldl rdS (m*10+(c.toNat-48),decide (18446744073709551616≤m*10+(c.toNat-48))):=rfl
  rw [Lib.parseUintM,if_pos hc,e]
  by_cases h1:1844674407370955162≤m
  ·rw [if_pos h1,decide_eq_true (by omega),cq,if_pos rfl]
  rw [if_neg h1]
  by_cases h2:18446744073709551615<m*10+(c.toNat-48)
  ·rw [if_pos h2,decide_eq_true (by omega),cq,if_pos rfl]
  rw [if_neg h2,decide_eq_false (by omega)]
  exact ip r _ hr (by omega)
theorem nu (c:UInt8):Qu c=digs.contains c:=(Kt c).symm
/-- What is wrong with a text that is no number. -/
theorem ACo {s d:Str} (hd:d=L3 s) (h:((((d.length:Nat):Int)==0) || (decide ((1:Int)<((s.length:Nat):Int))&&(((d.headD 0).toNat:Int)==48)))=true):Bj s=(0,6):=by
 have:Gc s=true:=by
  unfold Gc
  rw [←hd]
  simp only [C7,Al,beq_iff_eq,decide_eq_true_eq] at h
  rcases h with h|⟨h1,h2⟩
  ·have:d=[]:=Zr (by omega)
   rw [this];rfl
  have e:d.headD 0=48:=Je.1 (by have:(48:UInt8).toNat=48:=rfl;omega)
  rw [e,decide_eq_true (by omega)]
  simp
 unfold Bj
 rw [if_pos this]
theorem ACp {s d:Str} (hd:d=L3 s) {i:Nat} (hi:i<d.length) (h:(decide (((d[i].toNat:Nat):Int)<48) || decide ((57:Int)<((d[i].toNat:Nat):Int)))=true):Bj s=(0,6):=by
 have:Gc s=true:=by
  unfold Gc
  rw [←hd]
  cases hb:Lib.trimS d digs==[] with
  | false=>simp
  | true =>
   exfalso
   have hb':=trimS_nil.1 (eq_of_beq hb) d[i] (Br hi)
   rw [←nu] at hb'
   unfold Qu at hb'
   simp only [Al,decide_eq_true_eq] at hb'
   simp only [C7,decide_eq_true_eq] at h
   omega
 unfold Bj
 rw [if_pos this]
theorem nv {s d:Str} (hd:d=L3 s) (h:((((d.length:Nat):Int)==0) || (decide ((1:Int)<((s.length:Nat):Int))&&(((d.headD 0).toNat:Int)==48)))=false) (ha:∀c∈d,Qu c=true):Bj s=if (rdL d).2=true then (0,4) else E1 (decide (((d.length:Nat):Int)<((s.length:Nat):Int))) (rdL d).1:=by
 simp only [Cv,Us,beq_eq_false_iff_ne,ne_eq,decide_eq_false_iff_not] at h
 have hne:d≠[]:=fun e=>h.1 (by rw [e];rfl)
 have hg:Gc s=false:=by
  unfold Gc
  rw [←hd]
  have h1:(d==[])=false:=by simpa using hne
  have h2:(Lib.trimS d digs==[])=true:=by
   have:=trimS_nil.2 (fun b hb=>by rw [←nu];exact ha b hb)
   simpa using this
  have h3:((d.headD 0==48)&&decide (1<s.length))=false:=by
   rw [Us]
   rcases h.2 with h4|h4
   ·exact .inr (decide_eq_false (by omega))
   refine .inl ?_
   rw [beq_eq_false_iff_ne]
   intro e
   rw [e] at h4
   exact h4 rfl
  rw [h1,h2,h3]
  rfl
 have hl:=ze ha (0,false) (fun _=>by decide)
 have hp:=ip d 0 ha (by decide)
 have hU:Lib.parseUintB 64 d=if (rdL d).2=true then .range else .ok (rdL d).1:=by
  unfold Lib.parseUintB
  rw [if_neg hne]
  exact hp
 unfold Bj
 rw [hg,if_neg (by simp)]
 have p1:(2:Nat) ^ (64-1)=9223372036854775808:=rfl
 rcases Iq s with ⟨h3,h4⟩|⟨r,h3,h4⟩
 ·have e:d=s:=hd.trans h4
  subst e
  cases d with
  | nil=>exact absurd rfl hne
  | cons c r =>
   have hc:=ha c (by simp)
   unfold Qu at hc
   simp only [Al,decide_eq_true_eq] at hc
   have n1:¬(c.toNat=43∨c.toNat=45):=by omega
   have n2:¬c.toNat=45:=by omega
   simp only [Lib.parseIntB,if_neg n1,hU]
   cases ho:(rdL (c::r)).2 with
   | true=>simp
   | false =>
    have hm:=hl ho
    simp only [Af,if_false]
    rw [decide_eq_false (show ¬(((c::r).length:Nat):Int)<(((c::r).length:Nat):Int) by omega)]
    unfold E1
    simp only [n2,not_false_eq_true,true_and,false_and,if_false,Dy,Cj,Cw,Af,decide_eq_true_eq]
    by_cases hx:2 ^ (64-1)≤(rdL (c::r)).1
    ·rw [if_pos hx,if_neg (by omega)]
    rw [if_neg hx,if_pos (by omega)]
 have e:d=r:=hd.trans h4
 subst e
 subst h3
 have n1:((45:UInt8).toNat=43∨(45:UInt8).toNat=45):=.inr rfl
 have n2:(45:UInt8).toNat=45:=rfl
 simp only [Lib.parseIntB,if_pos n1,hU]
 cases ho:(rdL d).2 with
 | true=>simp
 | false =>
  have hm:=hl ho
  simp only [Af,if_false]
  rw [decide_eq_true (show ((d.length:Nat):Int)<(((45::d:Str).length:Nat):Int) by simp;omega)]
  unfold E1
  simp only [n2,not_true_eq_false,true_and,false_and,if_false,if_true,Bn,Dy,Cw,Af,decide_eq_true_eq]
  by_cases hx:2 ^ (64-1)<(rdL d).1
  ·rw [if_pos hx,if_neg (by omega)]
  rw [if_neg hx,if_pos (by omega)]
set_option maxRecDepth 4000
theorem gd1 {s:Str} (h:(decide ((0:Int)<((s.length:Nat):Int))==true)=true):s≠[]:=by rintro rfl;simp at h
theorem gd2 {d:Str} {b:Bool} (h:(((((d.length:Nat):Int)==0)==false)&&b)=true):d≠[]:=by rintro rfl;simp at h
theorem AKr (a b:Nat) (ha:a<B32 ^ 5) (hb:b<B32 ^ 5) (Hp:List AObj):AFun Tryz.prog 86 [.agg (wF false (dig a)),.agg (wF false (dig b))] Hp (.agg (wF false (dig (a+b)))):=c86 false a false b ha hb Hp
theorem ANa (a b:Nat) (ha:a<B32 ^ 2) (hb:b<B32 ^ 2) (Hp:List AObj):AFun Tryz.prog 87 [.agg (wF false (dig a)),.agg (wF false (dig b))] Hp (.agg (wF false (dig (a*b)))):=c87 false a false b ha hb Hp
theorem ANb (Hp:List AObj):AFun Tryz.prog 56 [A5 10] Hp (.agg (wF false (dig 10))):=sc 10 (by decide) (by decide) Hp
theorem nw {p q:Nat} (hp:p<256) (hq:q<256):Bz (wF false (dig p)) 1 [Bd (q:Nat)]=wF false (dig q):=by
 have h0:dig q 0=q:=by rw [nq];omega
 refine co (k:=0) (by decide) h0 fun i hi=>?_
 have hb:B32 ^ 1≤B32 ^ i:=Uc (by decide) (by omega)
 have hb1:(256:Nat)≤B32 ^ 1:=by decide
 rw [Er (m:=q) (i:=i) (by omega),Er (m:=p) (i:=i) (by omega)]
theorem nx:wF false (dig 0)=[At false,Bd 0,Bd 0,Bd 0,Bd 0,Bd 0]:=by
 have:∀i,dig 0 i=0:=fun i=>by unfold dig;simp
 unfold wF
 rw [this,this,this,this,this]
 rfl
theorem w48 {c:UInt8} (h:48≤c.toNat):IntKind.u64.wrap (IntKind.u64.wrap ((c.toNat:Nat):Int)-48)=((c.toNat-48:Nat):Int):=by
 have:=c.toNat_lt
 simp only [IntKind.wrap_u64]
 omega
theorem iq {m:Nat} (h:m<B32 ^ 3):decide (0<((dig m 2:Nat):Int))=decide (18446744073709551616≤m):=by
 rw [decide_eq_decide]
 unfold dig
 simp only [B32,Nat.reducePow] at h ⊢
 omega
structure RdAt (d:Str) (x:Nat×Nat):Prop where
 le:x.1≤d.length
 dg:∀(j:Nat) (c:UInt8),j<x.1→d[j]? = some c→Qu c=true
 one:x.2<256
theorem RdAt.low {d:Str} {x:Nat×Nat} (h:RdAt d x) (ho:(rdL (d.take x.1)).2=false):(rdL (d.take x.1)).1<18446744073709551616:=by
 refine ze (l:=d.take x.1) (fun c hc=>?_) (0,false) (fun _=>by decide) ho
 obtain ⟨j,hj⟩:=Cg hc
 have hj1:j<x.1:=by
  have:=(Ad.1 hj).1
  rw [Ei] at this
  omega
 rw [Gy,if_pos hj1] at hj
 exact h.dg j c hj1 hj
theorem c58 (s:Str) (hs:s.length≤1048576) (Hp:List AObj):AFun Tryz.prog 58 [Ac s] Hp (.tup [A5 (Bj s).1,A5 (Bj s).2]):=by
 refine Ah [.tmp 2,.tmp 3] [0] Tryz.func58 Tryz.ntmps58 (fun d=>?_)
 refine Z1 ?_;refine A2 [0] ?_;refine Z1 ?_;refine A2 [0,4] ?_;refine Z48 ?_;refine B3 ?_
 refine B3 (h:=El 0 (s.headD 0) (fun hB=>Jn (gd1 hB))) (hr:=?_)
 refine Z95 ?_;refine A2 [0,4,18] ?_
 refine A3 (fun ht18=>?_) (fun ht18=>?_)
 ·have h45:s.headD 0=45:=by
   simp only [Al,decide_eq_true_eq,beq_iff_eq] at ht18
   exact Je.1 (by have:(45:UInt8).toNat=45:=rfl;have:=ht18.2;omega)
  have h1s:1≤s.length:=by simp only [Al,decide_eq_true_eq] at ht18;have:=ht18.1;omega
  obtain ⟨d,hd0⟩:∃d,d=s.drop 1:=⟨_,rfl⟩
  have hd:d=L3 s:=by
   rw [hd0]
   rcases Iq s with ⟨h3,h4⟩|⟨r,h3,h4⟩
   ·exfalso
    cases s with
    | nil=>simp at h1s
    | cons c r=>simp at h3 h45;exact h3 h45
   rw [h4,h3];rfl
  have hdl:d.length≤1048576:=by rw [hd0,F5];omega
  refine Z43 ?_
  refine A4 (h:=P7 1 (fun _=>h1s) (fun _=>Ap _)) (hr:=?_)
  refine A4 ?_;refine A2 [0,4] ?_;refine Ef ?_;refine Rk ?_
  refine R.wk 4 (Ac d) (by rw [hd0];exact Le.refl _) ?_
  refine Z0 ?_;refine Z46 ?_;refine Z29 ?_
  refine B3 (h:=El 0 (d.headD 0) (fun hB=>Jn (gd2 hB))) (hr:=?_)
  refine Qa ?_;refine A2 [0,4,33] ?_
  refine A3 (fun ht33=>?_) (fun ht33=>?_)
  ·exact AAs
  refine jt ?_;refine Z62 ?_;refine A2 [0,4,5] ?_;refine Z2 ?_;refine A2 [0,4,5,6] ?_;refine Eg ?_;refine AIb ?_;refine Ks ?_;refine vp ?_;refine A2 [0,4,5,6,7,8] ?_;refine Z23 ?_;refine Xs ?_
  refine Bh (α:=Nat×Nat) (fun x=>⟨82,A9 0 (Ac s) (A9 4 (Ac d) (A9 5 (.ptr (oid Hp.length 0) 0) (A9 6 (At (rdL (d.take x.1)).2) (A9 7 (.ptr (oid Hp.length 1) 0) (A9 8 (.ptr (oid Hp.length 2) 0) (A9 9 (A5 (x.1:Nat)) (fun _=>.any))))))),Hp,[.cells 100 (wF false (dig (rdL (d.take x.1)).1)),.cells 100 (wF false (dig 10)),.cells 100 (wF false (dig x.2))],[],none⟩) (fun x=>RdAt d x) (fun x=>d.length-x.1) ((0,0)) ⟨Av _,fun j c hj=>by omega,by decide⟩ (Bc (by simp only [List.take_zero,show rdL []=(0,false) from rfl,nx]<;>rfl)) rfl (fun x hx=>?_)
  obtain ⟨i,p⟩:=x
  simp only at hx ⊢
  refine Z48 ?_;refine A2 [0,4,5,6,7,8,9,40] ?_
  refine A3 (fun ht40=>?_) (fun ht40=>?_)
  ·have hil:i<d.length:=by simp at ht40;omega
   refine Z53 ?_;refine Z8 ?_
   refine A4 (h:=El i d[i] (fun _=>Aa hil)) (hr:=?_)
   refine Z46 ?_
   refine B3 (h:=El i d[i] (fun _=>Aa hil)) (hr:=?_)
   refine Z95 ?_;refine A2 [0,4,5,6,7,8,9,52] ?_
   refine A3 (fun ht52=>?_) (fun ht52=>?_)
   ·refine pu ?_;exact AHg
   have hdc:48≤d[i].toNat∧d[i].toNat≤57:=by
    simp only [Cv,decide_eq_false_iff_not] at ht52
    omega
   have hnx:=nt hil
   refine Z88 ?_
   refine A4 (h:=El i d[i] (fun _=>Aa hil)) (hr:=?_)
   refine A4 ?_
   refine A4 (h:=Iw) (hr:=?_)
   rw [w48 hdc.1]
   refine AAi ?_
   refine My jS (hput:=nw hx.one (q:=(d[i].toNat-48)) (by have:=(d[i]).toNat_lt;omega)) (hfit:=by simp) ?_
   refine Xs ?_;refine Z1 ?_;refine A2 [0,4,5,6,7,8,9,61] ?_
   refine A3 (fun ht61=>?_) (fun ht61=>?_)
   ·have ho:(rdL (d.take i)).2=false:=by simpa using ht61
    have hml:=hx.low ho
    simp only at hml
    have hm2:(rdL (d.take i)).1<B32 ^ 2:=hml
    have hm5:(rdL (d.take i)).1*10<B32 ^ 5:=Cc (show (rdL (d.take i)).1*10<184467440737095516170 by omega) (by decide)
    have hm3:(rdL (d.take i)).1*10+(d[i].toNat-48)<B32 ^ 3:=Cc (show (rdL (d.take i)).1*10+(d[i].toNat-48)<184467440737095516170 by omega) (by decide)
    have hst:rdL (d.take (i+1))=((rdL (d.take i)).1*10+(d[i].toNat-48),decide (18446744073709551616≤(rdL (d.take i)).1*10+(d[i].toNat-48))):=by rw [hnx];exact if_neg (by rw [ho];simp)
    refine Ct [0,0,3,0,15,31] 4 Aj (by kernel_rfl) ?_;refine Z10 ?_;refine AIx ?_
    refine A7 Tryz.call86 (AKr ((rdL (d.take i)).1*10) (d[i].toNat-48) hm5 (Cc (show (d[i].toNat-48)<256 by have:=(d[i]).toNat_lt;omega) (by decide)) _) ?_
    refine F1 ?_;refine A2 [0,4,5,7,8,9] ?_;refine Z43 ?_;refine N2 (2) jU Tryz.sizeOf97 (by decide) ?_;refine Z0 ?_
    rw [iq hm3]
    refine A4 ?_;refine Xs ?_;refine N3 ?_;refine Xs ?_
    refine B5 (i+1,(d[i].toNat-48)) ⟨hil,fun j c hj hc=>?_,by have:=(d[i]).toNat_lt;show d[i].toNat-48<256;omega⟩ (by show d.length-(i+1)<d.length-i;omega) (Bx (by rw [hst]<;>rfl))
    rcases Bf j i with h|h
    ·exact hx.dg j c h hc
    have:j=i:=by have hj':j<i+1:=hj;omega
    subst this
    rw [Aa hil] at hc
    injection hc with hc
    rw [←hc]
    unfold Qu
    simp only [Al,decide_eq_true_eq]
    exact hdc
   have ho:(rdL (d.take i)).2=true:=by simpa using ht61
   have hst:rdL (d.take (i+1))=rdL (d.take i):=by rw [hnx];exact if_pos ho
   refine Z96 ?_;refine Xs ?_
   refine B5 (i+1,(d[i].toNat-48)) ⟨hil,fun j c hj hc=>?_,by have:=(d[i]).toNat_lt;show d[i].toNat-48<256;omega⟩ (by show d.length-(i+1)<d.length-i;omega) (Bx (by rw [hst]<;>rfl))
   rcases Bf j i with h|h
   ·exact hx.dg j c h hc
   have:j=i:=by have hj':j<i+1:=hj;omega
   subst this
   rw [Aa hil] at hc
   injection hc with hc
   rw [←hc]
   unfold Qu
   simp only [Al,decide_eq_true_eq]
   exact hdc
  have hie:d.take i=d:=De (by simp at ht40;omega)
  have hall:∀c∈d,Qu c=true:=fun c hc=>by
   obtain ⟨j,hj⟩:=Cg hc
   exact hx.dg j c (by have:=(Ad.1 hj).1;simp at ht40;omega) hj
  have hgood:=nv hd ht33 hall
  have hlow:=hx.low
  simp only at hlow
  rw [hie] at hlow ⊢
  refine Z52 ?_;refine Z20 ?_;refine Z0 ?_;refine F1 ?_;refine A2 [5,6] ?_;refine Z23 ?_;refine A2 [5,77] ?_
  refine A3 (fun ht77=>?_) (fun ht77=>?_)
  ·rw [if_pos ht77] at hgood
   exact AAs
  rw [if_neg (by rw [ht77];simp)] at hgood
  refine AIh ?_;refine Z61 ?_;exact AHk
 obtain ⟨d,hd0⟩:∃d,d=s:=⟨_,rfl⟩
 have hd:d=L3 s:=by
  rw [hd0]
  rcases Iq s with ⟨h3,h4⟩|⟨r,h3,h4⟩
  ·exact h4.symm
  exfalso
  rw [h3] at ht18
  simp at ht18<;>omega
 have hdl:d.length≤1048576:=by rw [hd0];exact hs
 refine Z3 ?_;refine Rk ?_
 refine R.wk 4 (Ac d) (by rw [hd0];exact Le.refl _) ?_
 refine Z0 ?_;refine Z46 ?_;refine Z29 ?_
 refine B3 (h:=El 0 (d.headD 0) (fun hB=>Jn (gd2 hB))) (hr:=?_)
 refine Qa ?_;refine A2 [0,4,33] ?_
 refine A3 (fun ht33=>?_) (fun ht33=>?_)
 ·exact AAs
 refine jt ?_;refine Z62 ?_;refine A2 [0,4,5] ?_;refine Z2 ?_;refine A2 [0,4,5,6] ?_;refine Eg ?_;refine AIb ?_;refine Ks ?_;refine vp ?_;refine A2 [0,4,5,6,7,8] ?_;refine Z23 ?_;refine Xs ?_
 refine Bh (α:=Nat×Nat) (fun x=>⟨82,A9 0 (Ac s) (A9 4 (Ac d) (A9 5 (.ptr (oid Hp.length 0) 0) (A9 6 (At (rdL (d.take x.1)).2) (A9 7 (.ptr (oid Hp.length 1) 0) (A9 8 (.ptr (oid Hp.length 2) 0) (A9 9 (A5 (x.1:Nat)) (fun _=>.any))))))),Hp,[.cells 100 (wF false (dig (rdL (d.take x.1)).1)),.cells 100 (wF false (dig 10)),.cells 100 (wF false (dig x.2))],[],none⟩) (fun x=>RdAt d x) (fun x=>d.length-x.1) ((0,0)) ⟨Av _,fun j c hj=>by omega,by decide⟩ (Bc (by simp only [List.take_zero,show rdL []=(0,false) from rfl,nx]<;>rfl)) rfl (fun x hx=>?_)
 obtain ⟨i,p⟩:=x
 simp only at hx ⊢
 refine Z48 ?_;refine A2 [0,4,5,6,7,8,9,40] ?_
 refine A3 (fun ht40=>?_) (fun ht40=>?_)
 ·have hil:i<d.length:=by simp at ht40;omega
  refine Z53 ?_;refine Z8 ?_
  refine A4 (h:=El i d[i] (fun _=>Aa hil)) (hr:=?_)
  refine Z46 ?_
  refine B3 (h:=El i d[i] (fun _=>Aa hil)) (hr:=?_)
  refine Z95 ?_;refine A2 [0,4,5,6,7,8,9,52] ?_
  refine A3 (fun ht52=>?_) (fun ht52=>?_)
  ·refine pu ?_;exact AHg
  have hdc:48≤d[i].toNat∧d[i].toNat≤57:=by
   simp only [Cv,decide_eq_false_iff_not] at ht52
   omega
  have hnx:=nt hil
  refine Z88 ?_
  refine A4 (h:=El i d[i] (fun _=>Aa hil)) (hr:=?_)
  refine A4 ?_
  refine A4 (h:=Iw) (hr:=?_)
  rw [w48 hdc.1]
  refine AAi ?_
  refine My jS (hput:=nw hx.one (q:=(d[i].toNat-48)) (by have:=(d[i]).toNat_lt;omega)) (hfit:=by simp) ?_
  refine Xs ?_;refine Z1 ?_;refine A2 [0,4,5,6,7,8,9,61] ?_
  refine A3 (fun ht61=>?_) (fun ht61=>?_)
  ·have ho:(rdL (d.take i)).2=false:=by simpa using ht61
   have hml:=hx.low ho
   simp only at hml
   have hm2:(rdL (d.take i)).1<B32 ^ 2:=hml
   have hm5:(rdL (d.take i)).1*10<B32 ^ 5:=Cc (show (rdL (d.take i)).1*10<184467440737095516170 by omega) (by decide)
   have hm3:(rdL (d.take i)).1*10+(d[i].toNat-48)<B32 ^ 3:=Cc (show (rdL (d.take i)).1*10+(d[i].toNat-48)<184467440737095516170 by omega) (by decide)
   have hst:rdL (d.take (i+1))=((rdL (d.take i)).1*10+(d[i].toNat-48),decide (18446744073709551616≤(rdL (d.take i)).1*10+(d[i].toNat-48))):=by rw [hnx];exact if_neg (by rw [ho];simp)
   refine Ct [0,0,3,0,15,31] 4 Aj (by kernel_rfl) ?_;refine Z10 ?_;refine AIx ?_
   refine A7 Tryz.call86 (AKr ((rdL (d.take i)).1*10) (d[i].toNat-48) hm5 (Cc (show (d[i].toNat-48)<256 by have:=(d[i]).toNat_lt;omega) (by decide)) _) ?_
   refine F1 ?_;refine A2 [0,4,5,7,8,9] ?_;refine Z43 ?_;refine N2 (2) jU Tryz.sizeOf97 (by decide) ?_;refine Z0 ?_
   rw [iq hm3]
   refine A4 ?_;refine Xs ?_;refine N3 ?_;refine Xs ?_
   refine B5 (i+1,(d[i].toNat-48)) ⟨hil,fun j c hj hc=>?_,by have:=(d[i]).toNat_lt;show d[i].toNat-48<256;omega⟩ (by show d.length-(i+1)<d.length-i;omega) (Bx (by rw [hst]<;>rfl))
   rcases Bf j i with h|h
   ·exact hx.dg j c h hc
   have:j=i:=by have hj':j<i+1:=hj;omega
   subst this
   rw [Aa hil] at hc
   injection hc with hc
   rw [←hc]
   unfold Qu
   simp only [Al,decide_eq_true_eq]
   exact hdc
  have ho:(rdL (d.take i)).2=true:=by simpa using ht61
  have hst:rdL (d.take (i+1))=rdL (d.take i):=by rw [hnx];exact if_pos ho
  refine Z96 ?_;refine Xs ?_
  refine B5 (i+1,(d[i].toNat-48)) ⟨hil,fun j c hj hc=>?_,by have:=(d[i]).toNat_lt;show d[i].toNat-48<256;omega⟩ (by show d.length-(i+1)<d.length-i;omega) (Bx (by rw [hst]<;>rfl))
  rcases Bf j i with h|h
  ·exact hx.dg j c h hc
  have:j=i:=by have hj':j<i+1:=hj;omega
  subst this
  rw [Aa hil] at hc
  injection hc with hc
  rw [←hc]
  unfold Qu
  simp only [Al,decide_eq_true_eq]
  exact hdc
 have hie:d.take i=d:=De (by simp at ht40;omega)
 have hall:∀c∈d,Qu c=true:=fun c hc=>by
  obtain ⟨j,hj⟩:=Cg hc
  exact hx.dg j c (by have:=(Ad.1 hj).1;simp at ht40;omega) hj
 have hgood:=nv hd ht33 hall
 have hlow:=hx.low
 simp only at hlow
 rw [hie] at hlow ⊢
 refine Z52 ?_;refine Z20 ?_;refine Z0 ?_;refine F1 ?_;refine A2 [5,6] ?_;refine Z23 ?_;refine A2 [5,77] ?_
 refine A3 (fun ht77=>?_) (fun ht77=>?_)
 ·rw [if_pos ht77] at hgood
  exact AAs
 rw [if_neg (by rw [ht77];simp)] at hgood
 refine AIh ?_;refine Z61 ?_;exact AHk

set_option maxRecDepth 8000
/-! The reference's Eval. -/
def Ol:Str:=[115,116,114]
def Om:Str:=[108,101,110]
def On:Str:=[110,117,109]
def Tg:Str:=[108,101,102,116]
def M4 (n k:Int):Int:=if decide (n<0)=true then 0 else if decide (n<k)=true then n else k
def ls (t:Str) (a b:Val):Rs:=if (t==Tg)=true then (⟨2,0,a.s.take (M4 b.n a.s.length).toNat⟩,0) else (⟨2,0,a.s.drop (a.s.length-(M4 b.n a.s.length).toNat)⟩,0)
def Y1 (t:Str) (a b:Val):Rs:=
 if (t==Ol)=true then (if (a.kind != 1)=true then (noV,10) else (⟨2,0,Lib.itoa a.n⟩,0))
 else if (a.kind != 2)=true then (noV,10)
 else if (t==Om)=true then (⟨1,a.s.length,[]⟩,0)
 else if (t==On)=true then (if ((Bj a.s).2 != 0)=true then (noV,(Bj a.s).2) else (⟨1,(Bj a.s).1,[]⟩,0))
 else if (b.kind != 1)=true then (noV,10) else ls t a b
def Ps (o:Int) (t:Str) (a b:Val):Rs:=
 if ((a.kind==0) || (b.kind==0))=true then (noV,0)
 else if (o==5)=true then H0 t a b
 else if (o==3)=true then (if (a.kind != 1)=true then (noV,10) else Zg (!decide (a.n<0)) a.n.natAbs)
 else if (o==4)=true then (if (a.kind != 3)=true then (noV,10) else (D9 (a.n==0),0))
 else Y1 t a b
def sy (k:Int) (o:Int) (t:Str) (a:Val) (rb:Rs):Rs:=if (k==2)=true then (if (rb.2 != 0)=true then (noV,rb.2) else Ps o t a rb.1) else Ps o t a ⟨9,0,[]⟩
def zf (t:Str) (a:Val) (rb:Rs):Rs:=
 if (!((a.kind==0) || (a.kind==3)))=true then (noV,10)
 else if (a==D9 (t==orW))=true then (a,0)
 else if (rb.2 != 0)=true then (noV,rb.2)
 else if ((rb.1.kind != 0)&&(rb.1.kind != 3))=true then (noV,10)
 else if (rb.1==D9 (t==orW))=true then (rb.1,0)
 else if ((a.kind==0) || (rb.1.kind==0))=true then (noV,0)
 else (D9 (t==Oj),0)
def Ig (k:Int) (o:Int) (t:Str) (ra rb rc:Rs):Rs:=
 if (ra.2 != 0)=true then (noV,ra.2)
 else if ((o==5)&&((t==orW) || (t==Oj)))=true then zf t ra.1 rb
 else if (o==6)=true then
  (if (t==Bt)=true then (D9 (ra.1.kind==0),0)
  else if (t==Md)=true then (if (ra.1.kind != 0)=true then (ra.1,0) else rb)
  else if (t==ifW)=true then (if (!((ra.1.kind==0) || (ra.1.kind==3)))=true then (noV,10) else if (ra.1.n==1)=true then rb else rc)
  else sy k o t ra.1 rb)
 else sy k o t ra.1 rb
/-- Who ends in an error has no value. -/
def Ka (r:Rs):Prop:=r.2≠0→r.1=noV
theorem ir (e:Int):Ka (Ch e):=fun _=>rfl
theorem X1 (v:Val):Ka (v,0):=fun h=>absurd rfl h
theorem No (x:Int×Int):Ka (Eo x):=by
 unfold Eo
 split
 ·exact Rl
 exact Rm
theorem Th {r:Rs} (h:Ka r):Ka (B0 r):=by
 unfold B0
 split
 ·exact Rl
 exact h
theorem t2 (t:Str) (a b:Val):Ka (H0 t a b):=by
 unfold H0
 split
 ·split
  ·exact Rl
  exact Rm
 split
 ·unfold Hj
  split
  ·exact Rl
  split
  ·exact Rl
  exact Rm
 split
 ·exact Rl
 exact No _
theorem cr (o:Int) (t:Str) (l:List Val):Ka (Au o t l):=by
 unfold Au
 split
 ·exact t2 _ _ _
 split
 ·exact No _
 split
 ·exact Rm
 split
 ·exact Rl
 split
 ·unfold Fm
  split
  ·exact Rm
  split
  ·exact Rm
  split
  ·exact No _
  exact Rl
 split
 ·exact Rl
 exact Rm
theorem lu {c:List Col} {l:List Val} {o:Int} {t:Str} {v:Val} {ks:List Rs} (h:∀i,Ka (ks.getD i (noV,0))):Ka (I0 Au c l o t v ks):=by
 unfold I0
 split
 ·exact Rm
 split
 ·unfold P1
  split
  ·exact Rl
  exact Rm
 have hlog:∀s,Ka (F9 s (ks.getD 0 (noV,0)) (ks.getD 1 (noV,0))):=fun s=>by
  unfold F9
  split
  ·exact Th (h 0)
  split
  ·exact Th (h 1)
  exact Rm
 split
 ·exact hlog _
 split
 ·exact hlog _
 split
 ·unfold Di
  split
  ·split
   ·exact Rl
   split
   ·exact h 1
   exact h 2
  split
  ·exact Rl
  split
  ·exact Rm
  split
  ·exact Rm
  exact h 1
 unfold Gq
 split
 ·exact Rl
 split
 ·exact Rm
 exact cr _ _ _
theorem X2 (c:List Col) (l:List Val):∀(n:Nat) (e:Expr),sizeE e≤n→Ka (Ab c l e)
 | 0,e,h=>by rw [H1] at h;omega
 | n+1,e,h=>by
  obtain ⟨o,t,v,k⟩:=e
  rw [Ab,Ql]
  refine lu fun i=>?_
  rw [D6,C8]
  cases hk:(Expr.mk o t v k).kids[i]? with
  | none=>exact X1 _
  | some y =>
   have hlt:=(Ad.1 hk).1
   have hy:=(Ad.1 hk).2
   have:=Vz (.mk o t v k) hlt
   rw [hy] at this
   exact X2 c l n y (by omega)
/-! Trees that are trimmed. -/
theorem X3 {v:Val} (hp:Bu v=true) (h:v.kind=0):v=noV:=by
 obtain ⟨k,n,s⟩:=v
 simp only at h
 subst h
 simp [Bu] at hp
 rw [hp.1,hp.2];rfl
theorem X4 {v:Val} (hp:Bu v=true) (h:v.kind=3):v=D9 true∨v=D9 false:=by
 obtain ⟨k,n,s⟩:=v
 simp only at h
 subst h
 simp [Bu] at hp
 obtain ⟨⟨rfl,h0⟩,h1⟩:=hp
 have:n=0∨n=1:=by omega
 rcases this with rfl|rfl
 ·exact .inr rfl
 exact .inl rfl
theorem Oe {k:List Expr} {i:Nat} (h:i<k.length):k.getD i Am∈k:=by
 rw [D6,Aa h]
 exact Br h
theorem iu (S:List Val→Rs) (ra:Rs):Gq S [ra]=if (ra.2 != 0)=true then (noV,ra.2) else if (ra.1.kind==0)=true then (noV,0) else S [ra.1]:=by
 unfold Gq
 cases h:ra.2 != 0 with
 | true=>simp [h,Ch]
 | false=>simp [h]
theorem zg (S:List Val→Rs) (ra rb:Rs):Gq S [ra,rb]=if (ra.2 != 0)=true then (noV,ra.2) else if (rb.2 != 0)=true then (noV,rb.2) else if ((ra.1.kind==0) || (rb.1.kind==0))=true then (noV,0) else S [ra.1,rb.1]:=by
 unfold Gq
 cases h:ra.2 != 0 with
 | true=>simp [h,Ch]
 | false =>
  cases h2:rb.2 != 0 with
  | true=>simp [h,h2,Ch]
  | false=>simp [h,h2]
theorem Sj {r:Rs} (h:(r.2 != 0)=true):B0 r=r:=by
 unfold B0
 have:(r.2==0)=false:=by simpa using h
 rw [this]
 simp
theorem Sk {v:Val} (h:((v.kind==0) || (v.kind==3))=false):B0 (v,0)=(noV,10):=by
 simp only [Cv,beq_eq_false_iff_ne,ne_eq] at h
 unfold B0
 rw [if_pos (by simp [h.1,h.2])]
 rfl
theorem X5 {v:Val} (h:((v.kind==0) || (v.kind==3))=true):B0 (v,0)=(v,0):=by
 unfold B0
 rw [if_neg]
 simp only [C7,beq_iff_eq] at h
 simp
 intro h0
 rcases h with h|h
 ·exact absurd h h0
 exact h
theorem ct {r:Rs} (h:(r.2 != 0)=false):r=(r.1,0):=by
 obtain ⟨v,e⟩:=r
 have:e=0:=by simpa using h
 rw [this]
theorem zh {r:Rs} (h:Ka r) (h2:(r.2 != 0)=true):r=(noV,r.2):=by
 obtain ⟨v,e⟩:=r
 have:=h (by simpa using h2)
 simp only at this ⊢
 rw [this]
theorem t6 {t:Str} (ht:t=orW∨t=Oj) {a:Val} {rb:Rs} (fa:Fine a) (fb:Fine rb.1) (eb:Ka rb):F9 (D9 (t==orW)) (a,0) rb=zf t a rb:=by
 unfold zf F9
 cases h3:(a.kind==0) || (a.kind==3) with
 | false=>rw [Sk h3];rfl
 | true =>
  rw [X5 h3]
  simp only [Bn,Af,if_false,show ((0:Int) != 0)=false from rfl,Dd]
  cases h4:a==D9 (t==orW) with
  | true=>simp
  | false =>
   simp only [Af,if_false]
   cases h5:rb.2 != 0 with
   | true =>
    rw [Sj h5,h5]
    simp only [Gv,if_true]
    exact zh eb h5
   | false =>
    simp only [Af,if_false]
    rw [ct h5]
    generalize rb.1=b at fb
    try simp only
    cases h6:(b.kind==0) || (b.kind==3) with
    | false =>
     rw [Sk h6]
     have:((b.kind != 0)&&(b.kind != 3))=true:=by
      simp only [Cv,beq_eq_false_iff_ne,ne_eq] at h6
      simp [h6.1,h6.2]
     rw [if_pos this]
     rfl
    | true =>
     rw [X5 h6]
     have:((b.kind != 0)&&(b.kind != 3))=false:=by
      simp only [C7,beq_iff_eq] at h6
      rcases h6 with h|h<;>simp [h]
     rw [this]
     simp only [Af,if_false,show ((0:Int) != 0)=false from rfl,Dd]
     cases h7:b==D9 (t==orW) with
     | true=>simp
     | false =>
      simp only [Dd,Af,if_false]
      by_cases ha0:a.kind=0
      ·have e:a=noV:=X3 fa.plain ha0
       rw [e]
       rfl
      rw [if_pos (by simpa using ha0)]
      by_cases hb0:b.kind=0
      ·rw [if_pos (by simp [hb0]),X3 fb.plain hb0]
      rw [if_neg (by simp [ha0,hb0])]
      have hb3:b.kind=3:=by simpa [hb0] using h6
      rcases X4 fb.plain hb3 with rfl|rfl
      ·rcases ht with rfl|rfl
       ·cases h7
       rfl
      rcases ht with rfl|rfl
      ·rfl
      cases h7
theorem AGp {ra rb rc:Rs} (fa:Fine ra.1) (h:(ra.2 != 0)=false):Di ifW ra rb rc=if (!((ra.1.kind==0) || (ra.1.kind==3)))=true then (noV,10) else if (ra.1.n==1)=true then rb else rc:=by
 have e:=ct h
 generalize ra.1=a at fa e ⊢
 subst e
 unfold Di
 rw [if_pos (show (ifW==ifW)=true from rfl)]
 cases h3:(a.kind==0) || (a.kind==3) with
 | false=>rw [Sk h3];rfl
 | true =>
  rw [X5 h3,if_neg (by simp)]
  simp only [Bn,Af,if_false]
  have e2:(a==D9 true)=(a.n==1):=by
   simp only [C7,beq_iff_eq] at h3
   rcases h3 with h3|h3
   ·rw [X3 fa.plain h3];rfl
   rcases X4 fa.plain h3 with rfl|rfl<;>rfl
  rw [e2]
theorem zi {n:Int} (h0 : -9223372036854775808≤n) (h1:n≤9223372036854775807):Pi (Lib.itoa n)=⟨2,0,Lib.itoa n⟩:=by
 have:=Lib.itoa_length_le n (by omega) (by omega)
 unfold Pi
 rw [De (by omega)]
theorem zj (n:Int) (k:Nat):(max 0 (min n k))=M4 n k:=by
 unfold M4
 by_cases h:n<0
 ·rw [if_pos (by simpa using h)];omega
 rw [if_neg (by simpa using h)]
 by_cases h2:n<k
 ·rw [if_pos (by simpa using h2)];omega
 rw [if_neg (by simpa using h2)];omega
theorem t7 {t:Str} (a b:Val) (hl:a.s.length≤200):J1 t a.s b.n=(ls t a b).1∧(ls t a b).2=0:=by
 unfold J1 ls
 rw [zj]
 show (if (t==Tg)=true then _ else _)=_∧_
 cases t==Tg with
 | true =>
  simp only [if_true,and_true]
  unfold Pi
  rw [De (by rw [Ei];omega)]
 | false =>
  simp only [Af,if_false,and_true]
  unfold Pi
  rw [De (by rw [F5];omega)]
section
variable {a b:Val}
theorem ACq (fa:Fine a):Au 3 [] [a]=(if (a.kind != 1)=true then (noV,10) else Zg (!decide (a.n<0)) a.n.natAbs):=by
 show (if (((3:Int)==5))=true then _ else if (((3:Int)==3)&&Bl [a] [1])=true then Eo (Ji 0 a.n) else _)=_
 rw [if_neg (by decide)]
 have e:Bl [a] [1]=(a.kind==1):=by simp [Bl]
 rw [e]
 cases h:a.kind==1 with
 | true =>
  have h':(a.kind != 1)=false:=by rw [bne,h];rfl
  rw [if_pos (by rfl),h',Jr,Jq,il,Nn,nl (by decide) (by decide) fa.lo fa.hi]
  simp
 | false =>
  have h':(a.kind != 1)=true:=by rw [bne,h];rfl
  rw [if_neg (by simp),h']
  rfl
theorem ACr:Au 4 [] [a]=(if (a.kind != 3)=true then (noV,10) else (D9 (a.n==0),0)):=by
 show (if (((4:Int)==5))=true then _ else if (((4:Int)==3)&&Bl [a] [1])=true then _ else if (((4:Int)==4)&&Bl [a] [3])=true then (D9 (a.n==0),0) else _)=_
 rw [if_neg (by decide),if_neg (by simp)]
 have e:Bl [a] [3]=(a.kind==3):=by simp [Bl]
 rw [e]
 cases h:a.kind==3 with
 | true =>
  have h':(a.kind != 3)=false:=by rw [bne,h];rfl
  rw [if_pos (by rfl),h']
  rfl
 | false =>
  have h':(a.kind != 3)=true:=by rw [bne,h];rfl
  rw [if_neg (by simp),h']
  rfl
theorem ACs:Au 6 Om [a]=Y1 Om a ⟨9,0,[]⟩:=by
 show Fm Om a=_
 unfold Fm Y1
 simp only [show (Om==[115,116,114])=false from rfl,show (Om==[108,101,110])=true from rfl,show (Om==[110,117,109])=false from rfl,show (Om==Ol)=false from rfl,show (Om==Om)=true from rfl,Dy,Cw,Af,if_false,if_true]
 cases h:a.kind==2 with
 | true=>rw [show (a.kind != 2)=false by rw [bne,h];rfl];rfl
 | false=>rw [show (a.kind != 2)=true by rw [bne,h];rfl];rfl
theorem ACt:Au 6 On [a]=Y1 On a ⟨9,0,[]⟩:=by
 show Fm On a=_
 unfold Fm Y1
 simp only [show (On==[115,116,114])=false from rfl,show (On==[108,101,110])=false from rfl,show (On==[110,117,109])=true from rfl,show (On==Ol)=false from rfl,show (On==Om)=false from rfl,show (On==On)=true from rfl,Dy,Cw,Af,if_false,if_true]
 cases h:a.kind==2 with
 | true=>rw [show (a.kind != 2)=false by rw [bne,h];rfl];rfl
 | false=>rw [show (a.kind != 2)=true by rw [bne,h];rfl];rfl
theorem ACu (fa:Fine a):Au 6 Ol [a]=Y1 Ol a ⟨9,0,[]⟩:=by
 show Fm Ol a=_
 unfold Fm Y1
 simp only [show (Ol==[115,116,114])=true from rfl,show (Ol==[108,101,110])=false from rfl,show (Ol==[110,117,109])=false from rfl,show (Ol==Ol)=true from rfl,Dy,Cw,Af,if_false,if_true]
 cases h:a.kind==1 with
 | true=>rw [show (a.kind != 1)=false by rw [bne,h];rfl,zi fa.lo fa.hi];rfl
 | false=>rw [show (a.kind != 1)=true by rw [bne,h];rfl];rfl
theorem Zi (fa:Fine a) {t:Str} (ht:t=Tg∨t=[114,105,103,104,116]):Au 6 t [a,b]=Y1 t a b:=by
 show (if (!Bl [a,b] [2,1])=true then Ch 10 else (J1 t a.s b.n,0))=_
 have e1:(t==Ol)=false:=by rcases ht with rfl|rfl<;>rfl
 have e2:(t==Om)=false:=by rcases ht with rfl|rfl<;>rfl
 have e3:(t==On)=false:=by rcases ht with rfl|rfl<;>rfl
 unfold Y1
 rw [e1,e2,e3]
 simp only [Af,if_false]
 have e:Bl [a,b] [2,1]=((a.kind==2)&&(b.kind==1)):=by simp [Bl]
 rw [e]
 have hp:=t7 (t:=t) a b fa.len
 cases h:a.kind==2 with
 | false=>rw [show (a.kind != 2)=true by rw [bne,h];rfl];rfl
 | true =>
  rw [show (a.kind != 2)=false by rw [bne,h];rfl]
  cases h2:b.kind==1 with
  | false=>rw [show (b.kind != 1)=true by rw [bne,h2];rfl];rfl
  | true =>
   rw [show (b.kind != 1)=false by rw [bne,h2];rfl]
   show (J1 t a.s b.n,(0:Int))=ls t a b
   rw [hp.1,←hp.2]
end
theorem iv {a:Val}:((a.kind==0) || ((⟨9,0,[]⟩:Val).kind==0))=(a.kind==0):=by simp
/-- The reference's way is the tree's value. -/
theorem AGq {c:List Col} {l:List Val} {e:Expr} (hn:Cu e=true) (hf:∀y∈e.kids,Fine (Ab c l y).1∧Ka (Ab c l y)) (h1:(e.op==1)=false) (h2:(e.op==2)=false):Ab c l e=Ig (e.kids.length:Int) e.op e.text (Ab c l (e.kids.getD 0 Am)) (Ab c l (e.kids.getD 1 Am)) (Ab c l (e.kids.getD 2 Am)):=by
 cases Hf hn with
 | val v hp h0=>cases h1
 | name t ht=>cases h2
 | neg x =>
  obtain ⟨fa,_⟩:=hf x (by simp [Fy,Expr.kids])
  show Gq (Au 3 []) [Ab c l x]=Ig 1 3 [] (Ab c l x) _ _
  rw [iu]
  generalize Ab c l x=ra at fa ⊢
  unfold Ig
  cases h:ra.2 != 0 with
  | true=>rfl
  | false =>
   show _=Ps 3 [] ra.1 ⟨9,0,[]⟩
   unfold Ps
   rw [iv,ACq fa]
   rfl
 | no x =>
  obtain ⟨fa,_⟩:=hf x (by simp [Fy,Expr.kids])
  show Gq (Au 4 []) [Ab c l x]=Ig 1 4 [] (Ab c l x) _ _
  rw [iu]
  generalize Ab c l x=ra at fa ⊢
  unfold Ig
  cases h:ra.2 != 0 with
  | true=>rfl
  | false =>
   show _=Ps 4 [] ra.1 ⟨9,0,[]⟩
   unfold Ps
   rw [iv,ACr]
   rfl
 | bin t x y ht =>
  obtain ⟨fa,ea⟩:=hf x (by simp [Hn,Expr.kids])
  obtain ⟨fb,eb⟩:=hf y (by simp [Hn,Expr.kids])
  show I0 Au c l 5 t noV [Ab c l x,Ab c l y]=Ig 2 5 t (Ab c l x) (Ab c l y) _
  generalize Ab c l x=ra at fa ea ⊢
  generalize Ab c l y=rb at fb eb ⊢
  have hlog:(t=orW∨t=Oj)→F9 (D9 (t==orW)) ra rb=if (ra.2 != 0)=true then (noV,ra.2) else zf t ra.1 rb:=fun h=>by
   cases h5:ra.2 != 0 with
   | true =>
    unfold F9
    rw [Sj h5,h5]
    simp only [Gv,if_true]
    exact zh ea h5
   | false =>
    rw [if_neg (by simp)]
    have e:=ct h5
    rw [e]
    exact t6 h fa fb eb
  unfold Ig I0
  simp only [show ((5:Int)==1)=false from rfl,show ((5:Int)==2)=false from rfl,show ((5:Int)==5)=true from rfl,show ((5:Int)==6)=false from rfl,Cw,Dy,Af,if_false]
  cases ho:t==orW with
  | true =>
   have et:t=orW:=eq_of_beq ho
   have:=hlog (.inl et)
   rw [ho] at this
   simp only [Gv,if_true]
   exact this
  | false =>
   cases hw:t==Oj with
   | true =>
    have et:t=Oj:=eq_of_beq hw
    have:=hlog (.inr et)
    rw [ho] at this
    simp only [Dd,Af,if_false,if_true]
    exact this
   | false =>
    simp only [Dd,Af,if_false]
    show Gq (Au 5 t) [ra,rb]=_
    rw [zg]
    cases h5:ra.2 != 0 with
    | true=>rfl
    | false =>
     show _=(if (rb.2 != 0)=true then (noV,rb.2) else Ps 5 t ra.1 rb.1)
     rfl
 | call t k ha =>
  rcases Gg ha with ⟨e,hk⟩|⟨e,hk⟩|⟨e,hk⟩|⟨e,hk⟩|⟨e,hk⟩|⟨e,hk⟩|⟨e,hk⟩|⟨e,hk⟩<;>subst e
  ·match k,hk with
   | [x],_ =>
    obtain ⟨fa,_⟩:=hf x (by simp [Expr.kids])
    show Gq (Au 6 Om) [Ab c l x]=Ig 1 6 Om (Ab c l x) _ _
    rw [iu,ACs]
    cases h:(Ab c l x).2 != 0 with
    | true=>unfold Ig;rw [h];rfl
    | false =>
     unfold Ig
     rw [h]
     show _=Ps 6 Om (Ab c l x).1 ⟨9,0,[]⟩
     unfold Ps
     rw [iv]
     rfl
  ·match k,hk with
   | [x],_ =>
    obtain ⟨fa,_⟩:=hf x (by simp [Expr.kids])
    show Gq (Au 6 Ol) [Ab c l x]=Ig 1 6 Ol (Ab c l x) _ _
    rw [iu,ACu fa]
    cases h:(Ab c l x).2 != 0 with
    | true=>unfold Ig;rw [h];rfl
    | false =>
     unfold Ig
     rw [h]
     show _=Ps 6 Ol (Ab c l x).1 ⟨9,0,[]⟩
     unfold Ps
     rw [iv]
     rfl
  ·match k,hk with
   | [x],_ =>
    obtain ⟨fa,_⟩:=hf x (by simp [Expr.kids])
    show Gq (Au 6 On) [Ab c l x]=Ig 1 6 On (Ab c l x) _ _
    rw [iu,ACt]
    cases h:(Ab c l x).2 != 0 with
    | true=>unfold Ig;rw [h];rfl
    | false =>
     unfold Ig
     rw [h]
     show _=Ps 6 On (Ab c l x).1 ⟨9,0,[]⟩
     unfold Ps
     rw [iv]
     rfl
  ·match k,hk with
   | [x],_ =>
    obtain ⟨fa,ea⟩:=hf x (by simp [Expr.kids])
    show Di Bt (Ab c l x) (noV,0) (noV,0)=Ig 1 6 Bt (Ab c l x) _ _
    unfold Di Ig
    cases h:(Ab c l x).2 != 0 with
    | true=>rfl
    | false=>rfl
  ·match k,hk with
   | [x,y],_ =>
    obtain ⟨fa,ea⟩:=hf x (by simp [Expr.kids])
    show Di Md (Ab c l x) (Ab c l y) (noV,0)=Ig 2 6 Md (Ab c l x) (Ab c l y) _
    unfold Di Ig
    cases h:(Ab c l x).2 != 0 with
    | true=>rfl
    | false=>rfl
  ·match k,hk with
   | [x,y],_ =>
    obtain ⟨fa,_⟩:=hf x (by simp [Expr.kids])
    show Gq (Au 6 Tg) [Ab c l x,Ab c l y]=Ig 2 6 Tg (Ab c l x) (Ab c l y) _
    rw [zg,Zi fa (.inl rfl)]
    unfold Ig
    cases h:(Ab c l x).2 != 0 with
    | true=>rfl
    | false=>rfl
  ·match k,hk with
   | [x,y],_ =>
    obtain ⟨fa,_⟩:=hf x (by simp [Expr.kids])
    show Gq (Au 6 [114,105,103,104,116]) [Ab c l x,Ab c l y]=Ig 2 6 [114,105,103,104,116] (Ab c l x) (Ab c l y) _
    rw [zg,Zi fa (.inr rfl)]
    unfold Ig
    cases h:(Ab c l x).2 != 0 with
    | true=>rfl
    | false=>rfl
  match k,hk with
  | [x,y,z],_ =>
   obtain ⟨fa,ea⟩:=hf x (by simp [Expr.kids])
   show Di ifW (Ab c l x) (Ab c l y) (Ab c l z)=Ig 3 6 ifW (Ab c l x) (Ab c l y) (Ab c l z)
   unfold Ig
   cases h:(Ab c l x).2 != 0 with
   | true =>
    unfold Di
    rw [Sj h,h]
    rfl
   | false =>
    rw [AGp fa h]
    rfl
set_option maxRecDepth 4000
theorem t8 {a:Int} (h:qj a):J5 a=(a.natAbs:Int):=Oc h.1 h.2
theorem ACv {u:Int} (h:0≤u) (h2:u<18446744073709551616):IntKind.u64.wrap (IntKind.u64.wrap (IntKind.u64.wrap (u.tdiv 4294967296)*4294967296)+u.tmod 4294967296)=u:=by
 simp only [IntKind.wrap_u64]
 rw [Ut h,Uu h]
 omega
/-- How far the digits have come. -/
def DGR (n:Nat) (x:Nat×Str):Prop:=(x.1=n∧x.2=[])∨(x.2≠[]∧(if x.1=0 then [] else Lib.decDigits x.1)++x.2=Lib.decDigits n)
theorem DGR.step {n:Nat} {x:Nat×Str} (h:DGR n x) (hc:0<x.1∨x.2=[]):DGR n (x.1 / 10,UInt8.ofNat (48+x.1 % 10)::x.2):=by
 obtain ⟨u,s⟩:=x
 refine .inr ⟨by simp,?_⟩
 simp only at *
 have key:(if u / 10=0 then [] else Lib.decDigits (u / 10))++[UInt8.ofNat (48+u % 10)]=Lib.decDigits u:=by
  rw [Lib.decDigits.eq_1 u]
  by_cases h10:u<10
  ·rw [dif_pos h10,if_pos (by omega),Nw h10];rfl
  rw [dif_neg h10,if_neg (by omega)]
 rw [show UInt8.ofNat (48+u % 10)::s=[UInt8.ofNat (48+u % 10)]++s from rfl,←C2,key]
 rcases h with ⟨h1,h2⟩|⟨h1,h2⟩
 ·simp only at h1 h2
  rw [h1,h2,Fz]
 simp only at h1 h2
 rw [←h2,if_neg (by rcases hc with hc|hc;omega;exact absurd hc h1)]
theorem DGR.done {n:Nat} {x:Nat×Str} (h:DGR n x) (h1:¬0<x.1) (h2:x.2≠[]):x.2=Lib.decDigits n:=by
 rcases h with ⟨_,h⟩|⟨_,h⟩
 ·exact absurd h h2
 rw [if_pos (by omega)] at h
 simpa using h
theorem DGR.len {n:Nat} {x:Nat×Str} (h:DGR n x) (hn:n≤9223372036854775808):x.2.length≤21:=by
 have h2:(Lib.decDigits n).length≤21:=by
  have:=Lib.itoa_length_le (-(n:Int)) (by omega) (by omega)
  unfold Lib.itoa at this
  split at this
  ·have e:(-(n:Int)).natAbs=n:=by omega
   rw [e] at this
   simp at this
   omega
  have:n=0:=by omega
  rw [this]
  rw [Lib.decDigits_one (by omega)]
  simp
 rcases h with ⟨_,h⟩|⟨_,h⟩
 ·rw [h];simp
 have:=congrArg List.length h
 rw [Aq] at this
 omega
theorem DGR.le {n:Nat} {x:Nat×Str} (h:x.1≤n):x.1 / 10≤n:=by omega
theorem AKs (u:Nat):IntKind.u8.wrap (48+IntKind.u8.wrap ((u:Int).tmod 10))=((UInt8.ofNat (48+u % 10)).toNat:Int):=by
 rw [Uu (by omega)]
 simp [IntKind.wrap,IntKind.bits,IntKind.signed,UInt8.toNat_ofNat']
theorem AGr {u n:Nat} (h:u≤n) (hn:n≤9223372036854775808):IntKind.u64.wrap ((u:Int).tdiv 10)=((u / 10:Nat):Int):=by
 rw [Ut (by omega),IntKind.wrap_u64]
 omega
theorem Zj (a:Int):Lib.itoa a=if decide (a<0) then 45::Lib.decDigits a.natAbs else Lib.decDigits a.natAbs:=by
 unfold Lib.itoa
 by_cases h:a<0
 ·simp [h]
 have:a.toNat=a.natAbs:=by omega
 simp [h,this]
theorem c57 (a:Int) (ha:qj a) (Hp:List AObj):AFun Tryz.prog 57 [A5 a] Hp (Ac (Lib.itoa a)):=by
 have hs:=t8 ha
 have hn:a.natAbs≤9223372036854775808:=by have:=ha.1;have:=ha.2;omega
 have hh:=ACv (u:=J5 a) (by rw [hs];omega) (by rw [hs];omega)
 refine Ah [.tmp 2] [0] Tryz.func57 Tryz.ntmps57 (fun d=>?_)
 refine Z58 ?_;refine Z2 ?_;refine A7 Tryz.call56 (c56 a _) ?_;refine Z16 ?_;refine A2 [3] ?_;refine Z2 ?_;refine N2 (1) jU Tryz.sizeOf97 (by decide) ?_;refine Z11 ?_;refine AB2 ?_;refine A4 ?_
 refine A4 (h:=Ev) (hr:=?_)
 rw [hh,hs]
 refine A4 ?_;refine A2 [3,4] ?_;refine Z2 ?_;refine A2 [3,4,5] ?_;refine Kp ?_
 refine Bh (α:=Nat×Str) (fun x=>⟨37,A9 3 (.ptr (oid Hp.length 0) 0) (A9 4 (Bd (x.1:Nat)) (A9 5 (Ac x.2) (fun _=>.any))),Hp,[.cells 100 (Wx a)],[],none⟩) (fun x=>x.1≤a.natAbs∧DGR a.natAbs x) (fun x=>2*x.1+(if x.2=[] then 1 else 0)) ((a.natAbs,[])) ⟨Ap _,.inl ⟨rfl,rfl⟩⟩ (Bc (by simp)) rfl (fun x hx=>?_)
 refine Z32 ?_;refine Qa ?_;refine A2 [3,4,5,21] ?_
 refine A3 (fun ht21=>?_) (fun ht21=>?_)
 ·have hc:0<x.1∨x.2=[]:=by
   have h:=ht21
   simp only [C7,decide_eq_true_eq,beq_iff_eq] at h
   rcases h with h|h
   ·exact .inl (by omega)
   exact .inr h
  have hl21:=hx.2.len hn
  refine w7 ?_;refine Z13 ?_
  refine A4 (h:=Ev) (hr:=?_)
  refine bb jU jS jZ ?_
  rw [AKs]
  refine R.bytesStr [UInt8.ofNat (48+x.1 % 10)] jU jU jU ?_;refine A4 ?_
  refine A4 (h:=Lp (hl:=fun _=>by simp only [Aw,Bb];omega)) (hr:=?_)
  refine A4 ?_;refine A2 [3,4,5] ?_;refine Z28 ?_
  rw [AGr hx.1 hn]
  refine A4 ?_;refine A2 [3,4,5] ?_;refine Hc ?_
  refine B5 (x.1 / 10,UInt8.ofNat (48+x.1 % 10)::x.2) ⟨DGR.le hx.1,hx.2.step hc⟩ (by rw [if_neg (by simp)];rcases hc with h|h;omega;rw [if_pos h];omega) (Bx rfl)
 have hl21:=hx.2.len hn
 have hD:x.2=Lib.decDigits a.natAbs:=by
  have h:=ht21
  simp only [Cv,decide_eq_false_iff_not,beq_eq_false_iff_ne] at h
  exact hx.2.done (by omega) h.2
 refine Z52 ?_;refine Z8 ?_;refine A2 [5,33] ?_
 refine A3 (fun ht33=>?_) (fun ht33=>?_)
 ·have hm:=Zj a
  rw [if_pos ht33] at hm
  refine Z43 ?_
  refine A4 (h:=Lp (hl:=fun _=>by simp only [Aw,Bb];omega)) (hr:=?_)
  refine A4 ?_;refine A2 [5] ?_;refine Ef ?_;refine Z1 ?_;exact AIc
 have hm:=Zj a
 rw [if_neg (by rw [ht33];simp)] at hm
 refine Z88 ?_;exact AIc

theorem c49 (l:List Val) (hl:l.length≤1048576) (Hp:List AObj):AFun Tryz.prog 49 [Fh l] Hp (Fh l):=by
 refine Ah [.tmp 2] [0] Tryz.func49 Tryz.ntmps49 (fun d=>?_)
 refine Z58 ?_;refine Z23 ?_
 refine R.eqlNil jU (by kernel_rfl) (fun b hb=>?_)
 refine A2 [0,4] ?_
 refine A3 (fun ht4=>?_) (fun ht4=>?_)
 ·have hl0:l=[]:=by simpa using hb ht4
  subst hl0
  refine Z2 ?_;refine R.nilTmp 2 3 false ?_;refine Z4 ?_;refine Ex ?_;exact A8 (Ai A6) ⟨rfl,rfl⟩
 refine Z3 ?_;refine Z45 ?_;refine A4 ?_
 refine Ix jU Tryz.type24 ?_ ?_ ?_
 ·simp [Tryz.t24];omega
 ·simp [Tryz.t24];omega
 refine Iy ?_;refine Z4 ?_;exact A8 (Ai A6) ⟨rfl,rfl⟩

theorem Lf {ks:List Expr} {i:Nat} (h:i<ks.length):(ks.map Ae)[i]? = some (Ae (ks.getD i Am)):=by
 rw [C8,Aa h,D6,Aa h]
 rfl
theorem ACw (v:Val) (k n:Int) (s:Str):(v.kind==k&&v.n==n&&v.s==s)=(v==⟨k,n,s⟩):=by
 obtain ⟨a,b,c⟩:=v
 rw [Js]
 simp [Val.mk.injEq,and_assoc]
theorem Up (v s:Val):(v.kind==s.kind&&v.n==s.n&&v.s==s.s)=(v==s):=ACw v s.kind s.n s.s
theorem ACx {x:Expr} (k6:x.op=6→Bv x.text=(x.kids.length:Int)) (h:(x.op==6)=true) (ht:(x.text==Md)=true):1<x.kids.length:=by
 have e:=eq_of_beq ht
 rcases Gg (k6 (eq_of_beq h)) with ⟨q,_⟩|⟨q,_⟩|⟨q,_⟩|⟨q,_⟩|⟨_,q⟩|⟨q,_⟩|⟨q,_⟩|⟨q,_⟩
 all_goals first|omega|(rw [e] at q;exact absurd q (by decide))
theorem AGs {x:Expr} (k6:x.op=6→Bv x.text=(x.kids.length:Int)) (h:(x.op==6)=true) (ht:(x.text==ifW)=true):2<x.kids.length:=by
 have e:=eq_of_beq ht
 rcases Gg (k6 (eq_of_beq h)) with ⟨q,_⟩|⟨q,_⟩|⟨q,_⟩|⟨q,_⟩|⟨q,_⟩|⟨q,_⟩|⟨q,_⟩|⟨_,q⟩
 all_goals first|omega|(rw [e] at q;exact absurd q (by decide))
theorem zk {l:List Val} {i:Nat} (h:i<l.length):(l.map B8)[i]? = some (B8 (l.getD i noV)):=by
 rw [C8,Aa h,D6,Aa h]
 rfl
/-- What the second kid comes to. -/
def bR (c:List Col) (l:List Val) (x:Expr):Val:=if x.kids.length=2 then (Ab c l (x.kids.getD 1 Am)).1 else ⟨9,0,[]⟩
theorem ta (n:Int) (k:Nat):∃m:Nat,M4 n (k:Int)=(m:Int)∧m≤k:=by
 unfold M4
 split
 ·exact ⟨0,rfl,Av _⟩
 split
 ·rename_i h h2
  simp at h h2
  exact ⟨n.toNat,by omega,by omega⟩
 exact ⟨k,rfl,Ap _⟩




set_option maxHeartbeats 8000000 in
theorem c23 (c:List Col) (l:List Val) (hc:OkCols c) (hl:l.length=c.length) (hf:∀v∈l,Fine v):∀(n:Nat) (x:Expr),okE n x→Dk Cu x=true→Dk Hy x=true→∀Hp:List AObj,AFun Tryz.prog 23 [Ae x,Ce c,Fh l] Hp (Nk (Ab c l x)):=by
 intro n
 induction n with
 | zero=>exact fun x h=>h.elim
 | succ n ih =>
 intro x hok hnode hrng Hp
 have hn0:=hnode
 have hr0:=hrng
 rw [Ff,Al] at hn0 hr0
 have hev:∀y∈x.kids,∀Hp:List AObj,AFun Tryz.prog 23 [Ae y,Ce c,Fh l] Hp (Nk (Ab c l y)):=fun y hy=>ih y (hok.2.2 y hy) ((D3 _ _).1 hn0.2 y hy) ((D3 _ _).1 hr0.2 y hy)
 have hfe:∀y∈x.kids,Fine (Ab c l y).1∧Ka (Ab c l y):=fun y hy=>⟨O6 hf y (cn y ((D3 _ _).1 hn0.2 y hy)) ((D3 _ _).1 hr0.2 y hy),X2 c l _ y (Ap _)⟩
 obtain ⟨k5,k34,k6,kall⟩:=Sf hn0.1
 have hev0:Ab c l x=I0 Au c l x.op x.text x.val (x.kids.map (Ab c l)):=Ql _ _ _ _
 refine Ah [.cell 6 24,.tmp 7] [0,1,2] Tryz.func23 Tryz.ntmps23 (fun d=>?_)
 refine Z2 ?_;refine Z83 ?_;refine A2 [1,2,3,6] ?_;refine Z25 ?_;refine Z16 ?_;refine A2 [1,2,3,6,8] ?_;refine Z19 ?_;refine Z20 ?_;refine A2 [1,2,3,6,8,23] ?_
 refine A3 (fun ht23=>?_) (fun ht23=>?_)
 ·have hm:Ab c l x=(x.val,0):=by rw [hev0];unfold I0;rw [if_pos ht23]
  refine Z1 ?_;refine Z21 ?_;refine Eu ?_;exact Z15
 refine Z20 ?_;refine A2 [1,2,3,6,8,29] ?_
 refine A3 (fun ht29=>?_) (fun ht29=>?_)
 ·have hm0:Ab c l x=P1 c l x.text:=by rw [hev0];unfold I0;rw [if_neg (by rw [ht23];simp),if_pos ht29]
  refine Z13 ?_;refine A7 Tryz.call24 (c24 c hc x.text _) ?_;refine A4 ?_;refine A2 [2,6,8,9] ?_;refine Z8 ?_;refine A2 [2,6,8,9,38] ?_
  refine A3 (fun ht38=>?_) (fun ht38=>?_)
  ·have hm:Ab c l x=(noV,9):=by rw [hm0];exact if_pos (by simpa using ht38)
   refine q8 ?_;exact Z15
  have hnn:¬Co x.text c<0:=by simpa using ht38
  obtain ⟨j,hj,hjc⟩:=Ni hnn
  have hm:Ab c l x=(l.getD j noV,0):=by
   rw [hm0]
   unfold P1
   rw [if_neg hnn,hj]
   rfl
  rw [hj]
  refine Z88 ?_
  refine A4 (h:=Ag (j) (B8 (l.getD j noV)) (fun _=>zk (by omega))) (hr:=?_)
  refine A4 ?_;refine Z21 ?_;refine Eu ?_;exact Z15
 have href:=AGq hn0.1 hfe ht23 ht29
 clear hev0
 simp only [Ig,zf,ifW,Md,Bt,orW,Oj] at href
 have hk0:0<x.kids.length:=by
  simp only [beq_eq_false_iff_ne,ne_eq] at ht23 ht29
  rcases kall with h|h|h|h|h|h
  ·exact absurd h ht23
  ·exact absurd h ht29
  ·have:=k34 (.inl h);omega
  ·have:=k34 (.inr h);omega
  ·have:=k5 h;omega
  have:=k6 h
  rcases Gg this with ⟨_,e⟩|⟨_,e⟩|⟨_,e⟩|⟨_,e⟩|⟨_,e⟩|⟨_,e⟩|⟨_,e⟩|⟨_,e⟩<;>omega
 have fa:=(hfe _ (Oe hk0)).1
 refine bi ?_
 refine A4 (h:=Ag (0) (Ae (x.kids.getD 0 Am)) (fun _=>Lf hk0)) (hr:=?_)
 refine Z11 ?_;refine A7 Tryz.call23 (hev (x.kids.getD 0 Am) (Oe hk0) _) ?_;refine Xn ?_;refine A2 [1,2,3,6,8,10,11] ?_;refine Z8 ?_;refine A2 [1,2,3,6,8,10,11,55] ?_
 refine A3 (fun ht55=>?_) (fun ht55=>?_)
 ·refine Z1 ?_;refine Z55 ?_
  try simp only [*,Af,Bn,Cj,↓reduceIte] at href
  exact Hm
 refine Tv ?_;refine Z78 ?_;refine A2 [1,2,3,6,8,10,12] ?_;refine Z8 ?_;refine Z46 ?_;refine Q8 ?_;refine Qa ?_;refine A2 [1,2,3,6,8,10,12,78] ?_
 refine A3 (fun ht78=>?_) (fun ht78=>?_)
 ·have hk2l:x.kids.length=2:=k5 (by simp only [Al,beq_iff_eq] at ht78;exact ht78.1)
  refine Z13 ?_;refine A7 Tryz.call52 (c52 _ _) ?_;refine Z16 ?_;refine A2 [1,2,3,6,8,10,12,13] ?_;refine Z8 ?_;refine A2 [1,2,3,6,8,10,13,84] ?_
  refine A3 (fun ht84=>?_) (fun ht84=>?_)
  ·refine dz ?_
   try simp only [*,Af,Bn,Cj,↓reduceIte] at href
   exact Hm
  refine bj ?_
  refine A4 (h:=Lo Rn (fun w=>Gn (Ab c l (x.kids.getD 0 Am)).1.kind (Ab c l (x.kids.getD 0 Am)).1.n (D9 (x.text==[111,114])).kind (D9 (x.text==[111,114])).n (Ab c l (x.kids.getD 0 Am)).1.s (D9 (x.text==[111,114])).s w)) (hr:=?_)
  refine A2 [1,2,3,6,8,10,13,88] ?_
  refine A3 (fun ht88=>?_) (fun ht88=>?_)
  ·rw [Up] at ht88
   refine dz ?_
   try simp only [*,Af,Bn,Cj,↓reduceIte] at href
   exact Hm
  rw [Up] at ht88
  refine Z88 ?_
  refine A4 (h:=Ag (1) (Ae (x.kids.getD 1 Am)) (fun _=>Lf (by omega))) (hr:=?_)
  refine Z11 ?_;refine A7 Tryz.call23 (hev (x.kids.getD 1 Am) (Oe (by omega)) _) ?_;refine Xn ?_;refine A2 [3,6,8,10,13,14,15] ?_;refine Z8 ?_;refine A2 [3,6,8,10,13,14,15,101] ?_
  refine A3 (fun ht101=>?_) (fun ht101=>?_)
  ·refine Z1 ?_;refine ph ?_
   try simp only [*,Af,Bn,Cj,↓reduceIte] at href
   exact Hm
  refine jy ?_;refine Z90 ?_;refine A2 [3,6,8,10,13,14,111] ?_
  refine A3 (fun ht111=>?_) (fun ht111=>?_)
  ·refine dz ?_
   try simp only [*,Af,Bn,Cj,↓reduceIte] at href
   exact Hm
  refine bj ?_
  refine A4 (h:=Lo Rn (fun w=>Gn (Ab c l (x.kids.getD 1 Am)).1.kind (Ab c l (x.kids.getD 1 Am)).1.n (D9 (x.text==[111,114])).kind (D9 (x.text==[111,114])).n (Ab c l (x.kids.getD 1 Am)).1.s (D9 (x.text==[111,114])).s w)) (hr:=?_)
  refine A2 [3,6,8,10,14,115] ?_
  refine A3 (fun ht115=>?_) (fun ht115=>?_)
  ·rw [Up] at ht115
   refine dz ?_
   try simp only [*,Af,Bn,Cj,↓reduceIte] at href
   exact Hm
  rw [Up] at ht115
  refine jy ?_;refine Z90 ?_;refine A2 [3,6,8,124] ?_
  refine A3 (fun ht124=>?_) (fun ht124=>?_)
  ·refine dz ?_
   try simp only [*,Af,Bn,Cj,↓reduceIte] at href
   exact Hm
  refine Oh ?_;refine AF8 ?_
  try simp only [*,Af,Bn,Cj,↓reduceIte] at href
  exact Hm
 have h78:(x.op==5)=true→((x.text==[111,114]) || (x.text==[97,110,100]))=false:=fun h=>by rw [h] at ht78;exact ht78
 refine Z3 ?_
 refine W.joinP ⟨316,A9 1 (Ce c) (A9 2 (Fh l) (A9 3 (.ro (Ey x)) (A9 6 (.ptr (oid Hp.length 0) 0) (A9 8 (.ptr (oid Hp.length 1) 0) (A9 10 (.ptr (oid Hp.length 2) 0) (fun _=>.any)))))),Hp,[.cells 24 [A5 0,A5 0,Ac []],.cells 24 [A5 0,A5 0,Ac []],.cells 24 [A5 (Ab c l (x.kids.getD 0 Am)).1.kind,A5 (Ab c l (x.kids.getD 0 Am)).1.n,Ac (Ab c l (x.kids.getD 0 Am)).1.s]],[],none⟩ (Ab c l x=sy (x.kids.length:Int) x.op x.text (Ab c l (x.kids.getD 0 Am)).1 (Ab c l (x.kids.getD 1 Am))) ?_ (fun hQ=>?_)
 ·refine Z13 ?_;refine A2 [1,2,3,6,8,10,12,132] ?_
  refine A3 (fun ht132=>?_) (fun ht132=>?_)
  ·refine Z1 ?_;refine A2 [1,2,3,6,8,10,12,134] ?_;refine Z91 ?_;refine A2 [1,2,3,6,8,10,12,134,135] ?_
   refine A3 (fun ht135=>?_) (fun ht135=>?_)
   ·refine Z13 ?_;refine AIm ?_
    try simp only [*,Af,Bn,Cj,↓reduceIte] at href
    exact Hm
   refine Z1 ?_;refine A2 [1,2,3,6,8,10,12,134,141] ?_
   refine A3 (fun ht141=>?_) (fun ht141=>?_)
   ·have hk1:1<x.kids.length:=ACx k6 ht132 ht141
    refine Z32 ?_;refine A2 [1,2,3,6,10,145] ?_
    refine A3 (fun ht145=>?_) (fun ht145=>?_)
    ·refine q8 ?_;refine Z5 ?_
     try simp only [*,Af,Bn,Cj,↓reduceIte] at href
     exact Hm
    refine Z88 ?_
    refine A4 (h:=Ag (1) (Ae (x.kids.getD 1 Am)) (fun _=>Lf hk1)) (hr:=?_)
    refine AEs ?_;refine dx ?_;refine Z41 ?_
    try simp only [*,Af,Bn,Cj,↓reduceIte] at href
    exact Hm
   refine Z1 ?_;refine A2 [1,2,3,6,8,10,12,156] ?_
   refine A3 (fun ht156=>?_) (fun ht156=>?_)
   ·have hk2:2<x.kids.length:=AGs k6 ht132 ht156
    have hk1:1<x.kids.length:=by omega
    refine Z8 ?_;refine A2 [1,2,3,6,8,10,159] ?_
    refine A3 (fun ht159=>?_) (fun ht159=>?_)
    ·refine q8 ?_;refine Z5 ?_
     try simp only [*,Af,Bn,Cj,↓reduceIte] at href
     exact Hm
    refine L2 ?_;refine A2 [1,2,3,6,163] ?_
    refine A3 (fun ht163=>?_) (fun ht163=>?_)
    ·refine Z1 ?_
     refine A4 (h:=Ag (1) (Ae (x.kids.getD 1 Am)) (fun _=>Lf hk1)) (hr:=?_)
     refine AEs ?_;refine Z0 ?_;refine Z55 ?_;refine Z5 ?_
     try simp only [*,Af,Bn,Cj,↓reduceIte] at href
     exact Hm
    refine Z88 ?_
    refine A4 (h:=Ag (2) (Ae (x.kids.getD 2 Am)) (fun _=>Lf hk2)) (hr:=?_)
    refine Z11 ?_;refine A7 Tryz.call23 (hev (x.kids.getD 2 Am) (Oe hk2) _) ?_;refine dx ?_;refine Z41 ?_
    try simp only [*,Af,Bn,Cj,↓reduceIte] at href
    exact Hm
   refine Dg [1,2,3,6,8,10] ?_;refine G5 ?_;refine Hc ?_
   refine K.thJP ?_ ?_
   ·exact Bc rfl
   simp only [*,Af,Bn,Cj,↓reduceIte] at href
   exact href
  refine Dg [1,2,3,6,8,10] ?_;refine G5 ?_
  refine K.thJP ?_ ?_
  ·exact Bc rfl
  simp only [*,Af,Bn,Cj,↓reduceIte] at href
  exact href
 clear href
 refine Z25 ?_;refine Z16 ?_;refine A2 [1,2,3,6,8,10,16] ?_
 refine W.joinC ⟨316,A9 3 (.ro (Ey x)) (A9 6 (.ptr (oid Hp.length 0) 0) (A9 8 (.ptr (oid Hp.length 1) 0) (A9 10 (.ptr (oid Hp.length 2) 0) (A9 16 (.ptr (oid Hp.length 3) 0) (fun _=>.any))))),Hp,[.cells 24 [A5 0,A5 0,Ac []],.cells 24 [A5 0,A5 0,Ac []],.cells 24 [A5 (Ab c l (x.kids.getD 0 Am)).1.kind,A5 (Ab c l (x.kids.getD 0 Am)).1.n,Ac (Ab c l (x.kids.getD 0 Am)).1.s],.cells 24 [A5 (bR c l x).kind,A5 (bR c l x).n,Ac (bR c l x).s]],[],none⟩ (Ab c l x=Ps x.op x.text (Ab c l (x.kids.getD 0 Am)).1 (bR c l x)) ?_ (fun hQ2=>?_)
 ·refine Z20 ?_;refine A2 [1,2,3,6,8,10,16,186] ?_
  refine A3 (fun ht186=>?_) (fun ht186=>?_)
  ·rw [B6] at ht186
   have hk2:x.kids.length=2:=by simp only [beq_iff_eq] at ht186;omega
   have hk1:1<x.kids.length:=by omega
   have hB:(bR c l x)=(Ab c l (x.kids.getD 1 Am)).1:=if_pos hk2
   refine Z1 ?_
   refine A4 (h:=Ag (1) (Ae (x.kids.getD 1 Am)) (fun _=>Lf hk1)) (hr:=?_)
   refine AEs ?_;refine Xn ?_;refine A2 [3,6,8,10,16,17,18] ?_;refine Z8 ?_;refine A2 [3,6,8,10,16,17,18,198] ?_
   refine A3 (fun ht198=>?_) (fun ht198=>?_)
   ·have href:Ab c l x=(noV,(Ab c l (x.kids.getD 1 Am)).2):=by rw [hQ];unfold sy;rw [if_pos ht186,if_pos ht198]
    clear hQ
    refine Z1 ?_;refine ph ?_
    try simp only [*,Af,Bn,Cj,↓reduceIte] at href
    exact Hm
   refine Z3 ?_;refine Z43 ?_;refine F1 ?_;refine A2 [3,6,8,10,16] ?_
   refine K.thJC ?_ ?_
   ·rw [hB]
    exact E5 (own:=[.cells 24 [A5 0,A5 0,Ac []],.cells 24 [A5 0,A5 0,Ac []],.cells 24 [A5 (Ab c l (x.kids.getD 0 Am)).1.kind,A5 (Ab c l (x.kids.getD 0 Am)).1.n,Ac (Ab c l (x.kids.getD 0 Am)).1.s],.cells 24 [A5 (Ab c l (x.kids.getD 1 Am)).1.kind,A5 (Ab c l (x.kids.getD 1 Am)).1.n,Ac (Ab c l (x.kids.getD 1 Am)).1.s]]) (fun _=>.refl _) (by repeat (first|exact C5|refine C4 (by first|exact Ld|(simp [oid,or_imp,forall_and,B2];done)) ?_)) (by simp [ObjLow,or_imp,forall_and]) (by simp)
   rw [hB,hQ]
   unfold sy
   first|rw [if_pos ht186,if_neg (by rw [ht198];simp)]|rw [if_neg (by rw [ht186];simp)]
  rw [B6] at ht186
  have hB:(bR c l x)=⟨9,0,[]⟩:=if_neg (by simp only [beq_eq_false_iff_ne] at ht186;omega)
  refine Dg [3,6,8,10,16] ?_;refine G5 ?_
  refine K.thJC ?_ ?_
  ·rw [hB]
   exact Bx rfl
  rw [hB,hQ]
  unfold sy
  first|rw [if_pos ht186,if_neg (by rw [ht198];simp)]|rw [if_neg (by rw [ht186];simp)]
 have href:=hQ2
 clear hQ hQ2
 simp only [Ps,Y1,Ol,Om,On] at href
 refine Z48 ?_;refine Z90 ?_;refine A2 [3,6,8,10,16,209] ?_
 refine A3 (fun ht209=>?_) (fun ht209=>?_)
 ·refine q8 ?_
  try simp only [*,Af,Bn,Cj,↓reduceIte] at href
  exact Hm
 refine L2 ?_;refine A2 [3,6,8,10,16,213] ?_
 refine A3 (fun ht213=>?_) (fun ht213=>?_)
 ·have hk2:x.kids.length=2:=k5 (eq_of_beq ht213)
  have hk1:1<x.kids.length:=by omega
  have fb:Fine (bR c l x):=by rw [show (bR c l x)=(Ab c l (x.kids.getD 1 Am)).1 from if_pos hk2];exact (hfe _ (Oe hk1)).1
  have h79:=h78 ht213
  refine Z20 ?_
  refine A7 Tryz.call53 (c53 x.text (Ab c l (x.kids.getD 0 Am)).1 (bR c l x) fa fb (by have:=fa.len;omega) (by have:=fb.len;omega) _) ?_
  refine Z0 ?_;refine Z55 ?_
  try simp only [*,Af,Bn,Cj,↓reduceIte,h79,Cw] at href
  exact Hm
 refine L2 ?_;refine A2 [3,6,8,10,16,223] ?_
 refine A3 (fun ht223=>?_) (fun ht223=>?_)
 ·refine Z32 ?_;refine A2 [6,8,10,226] ?_
  refine A3 (fun ht226=>?_) (fun ht226=>?_)
  ·refine dz ?_
   try simp only [*,Af,Bn,Cj,↓reduceIte] at href
   exact Hm
  refine Z88 ?_;refine A7 Tryz.call56 (sc (Ab c l (x.kids.getD 0 Am)).1.n fa.lo fa.hi _) ?_;refine A7 Tryz.call55 (c55 _ _ _) ?_;refine A7 Tryz.call54 (c54 _ _ (AGl fa.lo fa.hi).1 _) ?_;refine Z0 ?_;refine Z55 ?_
  try simp only [*,Af,Bn,Cj,↓reduceIte] at href
  exact Hm
 refine L2 ?_;refine A2 [3,6,8,10,16,237] ?_
 refine A3 (fun ht237=>?_) (fun ht237=>?_)
 ·refine Z32 ?_;refine A2 [6,8,10,240] ?_
  refine A3 (fun ht240=>?_) (fun ht240=>?_)
  ·refine dz ?_
   try simp only [*,Af,Bn,Cj,↓reduceIte] at href
   exact Hm
  refine Oh ?_;refine AF8 ?_
  try simp only [*,Af,Bn,Cj,↓reduceIte] at href
  exact Hm
 refine L2 ?_;refine A2 [3,6,8,10,16,248] ?_
 refine A3 (fun ht248=>?_) (fun ht248=>?_)
 ·refine Z32 ?_;refine A2 [6,8,10,251] ?_
  refine A3 (fun ht251=>?_) (fun ht251=>?_)
  ·refine dz ?_
   try simp only [*,Af,Bn,Cj,↓reduceIte] at href
   exact Hm
  refine Z88 ?_;refine A7 Tryz.call57 (c57 (Ab c l (x.kids.getD 0 Am)).1.n ⟨fa.lo,fa.hi⟩ _) ?_;refine AEp ?_
  try simp only [*,Af,Bn,Cj,↓reduceIte] at href
  exact Hm
 refine L2 ?_;refine A2 [3,6,8,10,16,259] ?_
 refine A3 (fun ht259=>?_) (fun ht259=>?_)
 ·refine q8 ?_
  try simp only [*,Af,Bn,Cj,↓reduceIte] at href
  exact Hm
 refine bj ?_;refine A2 [3,6,8,10,16,262] ?_;refine Z91 ?_;refine A2 [3,6,8,10,16,262,263] ?_
 refine A3 (fun ht263=>?_) (fun ht263=>?_)
 ·refine Z13 ?_;refine AEq ?_;refine Z41 ?_
  try simp only [*,Af,Bn,Cj,↓reduceIte] at href
  exact Hm
 refine Z1 ?_;refine A2 [3,6,8,10,16,269] ?_
 refine A3 (fun ht269=>?_) (fun ht269=>?_)
 ·refine Z1 ?_
  refine A7 Tryz.call58 (c58 (Ab c l (x.kids.getD 0 Am)).1.s (by have:=fa.len;omega) _) ?_
  refine Z86 ?_;refine A2 [6,8,19,20] ?_;refine Z8 ?_;refine A2 [6,8,19,20,278] ?_
  refine A3 (fun ht278=>?_) (fun ht278=>?_)
  ·refine Z1 ?_;refine Z55 ?_;refine Z5 ?_
   try simp only [*,Af,Bn,Cj,↓reduceIte] at href
   exact Hm
  refine Z93 ?_;refine AEq ?_;refine Z41 ?_
  try simp only [*,Af,Bn,Cj,↓reduceIte] at href
  exact Hm
 refine Z18 ?_;refine Z32 ?_;refine A2 [3,6,8,10,16,285] ?_
 refine A3 (fun ht285=>?_) (fun ht285=>?_)
 ·refine q8 ?_
  try simp only [*,Af,Bn,Cj,↓reduceIte] at href
  exact Hm
 refine Tv ?_;refine A2 [3,6,10,16,21] ?_
 refine Ht ⟨316,A9 3 (.ro (Ey x)) (A9 6 (.ptr (oid Hp.length 0) 0) (A9 10 (.ptr (oid Hp.length 2) 0) (A9 16 (.ptr (oid Hp.length 3) 0) (A9 21 (A5 (if decide ((bR c l x).n<(((Ab c l (x.kids.getD 0 Am)).1.s.length:Nat):Int))=true then (bR c l x).n else (((Ab c l (x.kids.getD 0 Am)).1.s.length:Nat):Int))) (fun _=>.any))))),Hp,[.cells 24 [A5 0,A5 0,Ac []],.cells 24 [A5 0,A5 0,Ac []],.cells 24 [A5 (Ab c l (x.kids.getD 0 Am)).1.kind,A5 (Ab c l (x.kids.getD 0 Am)).1.n,Ac (Ab c l (x.kids.getD 0 Am)).1.s],.cells 24 [A5 (bR c l x).kind,A5 (bR c l x).n,Ac (bR c l x).s]],[],none⟩ ?_ ?_
 ·refine Z20 ?_;refine A2 [3,6,10,16,21,293] ?_
  refine A3 (fun ht293=>?_) (fun ht293=>?_)
  ·refine Z22 ?_;refine A2 [3,6,10,16,21] ?_;refine K.thJ ?_
   first|(rw [if_pos ht293];exact Bc rfl)|(rw [if_neg (by rw [ht293];simp)];exact Bc rfl)
  refine Dg [3,6,10,16,21] ?_;refine vw ?_
  first|(rw [if_pos ht293];exact Bc rfl)|(rw [if_neg (by rw [ht293];simp)];exact Bc rfl)
 refine Ht ⟨316,A9 3 (.ro (Ey x)) (A9 6 (.ptr (oid Hp.length 0) 0) (A9 10 (.ptr (oid Hp.length 2) 0) (A9 21 (A5 (M4 (bR c l x).n (((Ab c l (x.kids.getD 0 Am)).1.s.length:Nat):Int))) (fun _=>.any)))),Hp,[.cells 24 [A5 0,A5 0,Ac []],.cells 24 [A5 0,A5 0,Ac []],.cells 24 [A5 (Ab c l (x.kids.getD 0 Am)).1.kind,A5 (Ab c l (x.kids.getD 0 Am)).1.n,Ac (Ab c l (x.kids.getD 0 Am)).1.s],.cells 24 [A5 (bR c l x).kind,A5 (bR c l x).n,Ac (bR c l x).s]],[],none⟩ ?_ ?_
 ·refine Z13 ?_;refine A2 [3,6,10,21,298] ?_
  refine A3 (fun ht298=>?_) (fun ht298=>?_)
  ·refine Z43 ?_;refine A2 [3,6,10,21] ?_;refine K.thJ ?_
   unfold M4
   first|(rw [if_pos ht298];exact Bc rfl)|(rw [if_neg (show ¬decide ((bR c l x).n<0)=true by rw [ht298];simp)];exact Bc rfl)
  refine Dg [3,6,10,21] ?_;refine vw ?_
  unfold M4
  first|(rw [if_pos ht298];exact Bc rfl)|(rw [if_neg (show ¬decide ((bR c l x).n<0)=true by rw [ht298];simp)];exact Bc rfl)
 refine Rk ?_
 obtain ⟨n0,hcl,hn0l⟩:=ta (bR c l x).n (Ab c l (x.kids.getD 0 Am)).1.s.length
 rw [hcl]
 refine Z11 ?_;refine A2 [6,10,21,301] ?_
 refine A3 (fun ht301=>?_) (fun ht301=>?_)
 ·refine Z13 ?_
  refine A4 (h:=Iv n0 (fun _=>Av _) (fun _=>hn0l)) (hr:=?_)
  refine AEp ?_
  try simp only [*,Af,Bn,Cj,↓reduceIte,ls,Tg,hcl,Int.toNat_natCast] at href
  exact Hm
 refine Tv ?_;refine Z0 ?_
 refine A4 (h:=Q.sub64 (h1:=fun _=>by omega) (h2:=fun _=>by have:=fa.len;omega)) (hr:=?_)
 rw [show (((Ab c l (x.kids.getD 0 Am)).1.s.length:Int)-(n0:Int))=(((Ab c l (x.kids.getD 0 Am)).1.s.length-n0:Nat):Int) by omega]
 refine A4 (h:=P7 ((Ab c l (x.kids.getD 0 Am)).1.s.length-n0) (fun _=>show (Ab c l (x.kids.getD 0 Am)).1.s.length-n0≤(Ab c l (x.kids.getD 0 Am)).1.s.length by omega) (fun _=>Ap _)) (hr:=?_)
 refine AEq ?_;refine Eu ?_
 try simp only [*,Af,Bn,Cj,↓reduceIte,ls,Tg,hcl,Int.toNat_natCast] at href
 exact Hm

/-! What ref22.Run answers is what query.Run answers. -/
def Ih (r:Rs):Bool:=(r.1.kind==3)&&(r.1.n==1)
def Lg (q:Qry) (c:List Col):List Row→List Row→List Row×Int
 | [],o=>(o,0)
 | x::r,o=>if ((o.length:Nat):Int)==q.lim then (o,0) else if !Fb c x.l then ([],1)
   else if Fa q&&((Ab c x.l q.whr).2 != 0) then ([],(Ab c x.l q.whr).2)
   else if Fa q && !Ih (Ab c x.l q.whr) then Lg q c r o else Lg q c r (o++[Lc q c x])
/-- A query that goes with its columns asks a tree that is right and has the kind of a truth. -/
theorem X6 {q:Qry} {c:List Col} (h:D7 q c=0) (ha:Fa q=true):C3 q.whr=true∧(Db q.whr c).2=0∧((Db q.whr c).1=3∨(Db q.whr c).1=0):=by
 unfold D7 at h
 by_cases h1:(!Dq q || !N9 c)=true
 ·rw [if_pos h1] at h;cases h
 rw [if_neg h1] at h
 by_cases h2:(q.cols.any (fun s=>decide (Co s c<0)))=true
 ·rw [if_pos h2] at h;cases h
 rw [if_neg h2,ha] at h
 simp only [Bn,Af,↓reduceIte] at h
 by_cases h3:((Db q.whr c).2 != 0)=true
 ·rw [if_pos h3] at h;rw [h] at h3;cases h3
 rw [if_neg h3] at h
 by_cases h4:(!P2 q.whr c 3)=true
 ·rw [if_pos h4] at h;cases h
 have h4:P2 q.whr c 3=true:=by simpa using h4
 have hr:Dq q=true:=by
  cases e:Dq q with
  | true=>rfl
  | false=>simp [e] at h1
 unfold Dq at hr
 split at hr
 ·cases hr
 rw [ha] at hr
 simp only [Al,Bn,Dd] at hr
 unfold P2 at h4
 simp only [Al,C7,beq_iff_eq] at h4
 exact ⟨by rw [Ds];exact hr.2,h4.1,h4.2⟩
theorem AEc {x:Expr} {c:List Col} {l:List Val} (h:C3 x=true) (hr:Fb c l=true):Fx x c l=Ab c l x:=by
 show Yx Au x c l=_
 unfold Yx
 rw [h,hr]
 rfl
theorem zl {q:Qry} {c:List Col} {l:List Val} (h:D7 q c=0) (hg:Dk Hy q.whr=true) (hl:∀v∈l,Fine v) (hr:Fb c l=true) (ha:Fa q=true):C1 q c l=(if (Ab c l q.whr).2=0 then Ih (Ab c l q.whr) else false,(Ab c l q.whr).2):=by
 obtain ⟨h1,h2,h3⟩:=X6 h ha
 have hk:=s6 h2 hr
 have hf:Fine (Fx q.whr c l).1:=yo hl hg
 rw [AEc h1 hr] at hk hf
 unfold C1
 rw [hr,ha,AEc h1 hr]
 simp only [Bn,Af,↓reduceIte]
 generalize Ab c l q.whr=r at hk hf
 have he:Tc r=r.2:=by
  unfold Tc
  split
  ·rename_i h5
   simp only [Al,beq_iff_eq,bne_iff_ne] at h5
   have:=hk.kind h5.1.1
   omega
  rfl
 refine Prod.ext ?_ he
 show Yz r=_
 unfold Yz
 rw [he]
 by_cases h0:r.2=0
 ·rw [if_pos h0,h0]
  unfold Ih
  by_cases h6:r.1.kind=3
  ·have hp:=hf.plain
   unfold Bu at hp
   simp [h6] at hp
   simp [h6,hp.1.1]
  simp [h6]
 rw [if_neg h0]
 simp [h0]
theorem ny {q:Qry} {c:List Col} (h:D7 q c=0) (hg:Dk Hy q.whr=true):∀(r o:List Row),(∀x∈r,∀v∈x.l,Fine v∨Fb c x.l=false)→((o.length:Nat):Int)≠q.lim→Lg q c r o=Kb q c r o
 | [],o,_,_=>rfl
 | x::r,o,hw,ho=>by
  have hw':∀y∈r,∀v∈y.l,Fine v∨Fb c y.l=false:=fun y hy=>hw y (Pv _ hy)
  have next:∀o':List Row,Lg q c r o'=if (((o'.length:Nat):Int)==q.lim)=true then (o',0) else Kb q c r o':=fun o'=>by
   by_cases e:((o'.length:Nat):Int)=q.lim
   ·rw [if_pos (by simpa using e)]
    cases r with
    | nil=>rfl
    | cons y s=>rw [Lg,if_pos (by simpa using e)]
   rw [if_neg (by simpa using e)]
   exact ny h hg r o' hw' e
  rw [Lg,Kb,if_neg (by simpa using ho)]
  by_cases hr:Fb c x.l=true
  ·have hl:∀v∈x.l,Fine v:=fun v hv=>by
    rcases hw x (U2 ..) v hv with h1|h1
    ·exact h1
    rw [hr] at h1;cases h1
   rw [if_neg (by rw [hr];decide)]
   by_cases ha:Fa q=true
   ·rw [zl h hg hl hr ha,ha]
    by_cases he:(Ab c x.l q.whr).2=0
    ·rw [he]
     by_cases hv:Ih (Ab c x.l q.whr)=true
     ·simp [hv,next]
     simp only [R5] at hv
     simp [hv,next,ho]
    simp [he]
   have hh:C1 q c x.l=(true,0):=by
    unfold C1
    simp [hr,ha]
   rw [hh]
   simp [ha,next]
  have hh:C1 q c x.l=(false,1):=by
   unfold C1
   simp [hr]
  rw [hh]
  simp [hr]
theorem zm {q:Qry} {c:List Col} {rows:List Row} (h:D7 q c=0) (hg:Dk Hy q.whr=true) (hw:∀x∈rows,∀v∈x.l,Fine v∨Fb c x.l=false):Lg q c rows []=Ok q c rows:=by
 unfold Ok
 by_cases h0:q.lim=0
 ·rw [if_pos (by simp [h0]),h]
  cases rows with
  | nil=>rfl
  | cons x r=>rw [Lg,if_pos (by simp [h0])]
 rw [if_neg (by simp [h,h0])]
 exact ny h hg rows [] hw (by simp;omega)
abbrev prq (l:List Tok) (S:QS):AObj:=.cells 77 [.slice false 3 (l.map Ic),A5 (S.i:Int),A5 S.code,A5 S.at_]
abbrev qoC (own:Bool) (q:Qry):List AV:=[At q.all,.slice own 1 (q.cols.map Ac),A5 q.whr.op,Ac q.whr.text,A5 q.whr.val.kind,A5 q.whr.val.n,Ac q.whr.val.s,.slice false 6 (q.whr.kids.map Ae),A5 q.lim]
abbrev qo (own:Bool) (q:Qry):AObj:=.cells 29 (qoC own q)
theorem I2 {n:Nat} {l:List Tok} {S:QS}:ObjLow n (prq l S):=by
 show ∀y∈[AV.slice false 3 (l.map Ic),A5 (S.i:Int),A5 S.code,A5 S.at_],Low n y
 intro y hy
 simp only [By,Fv,or_false] at hy
 rcases hy with rfl|rfl|rfl|rfl
 ·simp [or_imp,forall_and]
 all_goals simp
theorem zn {n:Nat} {own:Bool} {l:List Str}:Low n (.slice own 1 (l.map Ac)):=by simp
theorem zo {n:Nat} {own:Bool} {q:Qry}:ObjLow n (qo own q):=by
 show ∀y∈qoC own q,Low n y
 intro y hy
 simp only [qoC,By,Fv,or_false] at hy
 rcases hy with rfl|rfl|rfl|rfl|rfl|rfl|rfl|rfl|rfl
 all_goals first|exact Eq|exact zn|simp
abbrev Ti:AV:=.v (.tuple #[])
theorem c42 (l:List Tok) (S:QS) (e:Int) (o:Nat) (Hp:List AObj) (ho:Hp[o]? = some (prq l S)) (hi:S.i<l.length):ACall Tryz.prog 42 [.ptr o 0,A5 e] Hp (fun r H'=>r=Ti∧H'=Hp.set o (prq l (I6 l e S))):=by
 refine Ah [] [0,1] Tryz.func42 Tryz.ntmps42 (fun d=>?_)
 refine Z20 ?_
 refine A4 (h:=Cn ho) (hr:=?_)
 refine A4 ?_;refine A2 [0,1,9] ?_
 refine A3 (fun ht9=>?_) (fun ht9=>?_)
 ·have e:I6 l e S=⟨S.i,e,((Ak l S.i).at_:Int)⟩:=if_pos ht9
  refine W.draw0 [0,0,0,4,12,28,0,64,192,448,1020,2044,4092,8190,16383,32767,65535] 14 Aj (by kernel_rfl) ?_;refine ee ?_
  refine An (h:=Cn ho) (hr:=?_)
  refine Z34 ?_
  refine An (h:=Cn ho) (hr:=?_)
  refine An (h:=Ag (S.i) (Ic (Ak l S.i)) (fun _=>M0 hi)) (hr:=?_)
  refine Z10 ?_;refine D.build (places:=#[(0,1),(1,1)]) jU (fun w=>by simp) jZ ?_;refine Ee ?_;refine Z0 ?_
  refine Ew jS ho ?_ ?_
  ·simp
  exact AHd
 have e:I6 l e S=S:=if_neg (by rw [ht9];simp)
 exact AHf

theorem c72 (l:List Tok) (S:QS) (s:Str) (o:Nat) (Hp:List AObj) (ho:Hp[o]? = some (prq l S)) (hi:S.i<l.length) (hll:l.length≤1048576):ACall Tryz.prog 72 [.ptr o 0,Ac s] Hp (fun r H'=>r=At (isQ l s S)∧H'=Hp.set o (prq l (gw l s S))):=by
 refine Ah [.tmp 4] [0,1] Tryz.func72 Tryz.ntmps72 (fun d=>?_)
 refine Z64 ?_;refine Fs [0,1,3,7,0,16,48,112,255,511,0,2047] [] [.q 10 [] [],.s [5] none [] [],.s [5] none [] []] (fun _=>Hp) (fun _=>[]) Aj (by kernel_rfl) rfl rfl (fun _=>rfl) ?_
 apply Y.q
 ·intro B hT hF
  refine Z34 ?_
  refine An (h:=Cn ho) (hr:=?_)
  refine Z34 ?_
  refine An (h:=Cn ho) (hr:=?_)
  refine An (h:=Ag (S.i) (Ic (Ak l S.i)) (fun _=>M0 hi)) (hr:=?_)
  exact Z79
 case hTF=>decide
 refine AF1 ?_;refine F7 (tn:=[])  ?_;refine Vg ?_;refine Z20 ?_
 refine A4 (h:=Cn ho) (hr:=?_)
 refine Z46 ?_;refine Q8 ?_;refine Z6 ?_;refine Xl ?_;refine Z0 ?_;refine A2 [0,6] ?_;refine Z23 ?_;refine A2 [0,6,39] ?_
 refine A3 (fun ht39=>?_) (fun ht39=>?_)
 ·have e:gw l s S=Eh S:=if_pos ht39
  refine Z22 ?_
  refine A4 (h:=Cn ho) (hr:=?_)
  refine Z11 ?_
  refine Ew jS ho ?_ ?_
  ·simp
  refine A2 [6] ?_;refine Ef ?_;refine Z1 ?_;exact AHi
 have e:gw l s S=S:=if_neg (by rw [show isQ l s S=false from ht39];simp)
 refine Z88 ?_;exact AHi

theorem X7 {l:List Tok} {s:Str} {S:QS} (h:isQ l s S=true):gw l s S=Eh S:=if_pos h
theorem X8 {l:List Tok} {s:Str} {S:QS} (h:isQ l s S=false):gw l s S=S:=if_neg (by rw [h];simp)
theorem AGt {l:List Tok} {s:Str} {S:QS} (h:isQ l s S=true):Qo l s S=Eh S:=if_pos h
theorem AGu {l:List Tok} {s:Str} {S:QS} (h:isQ l s S=false):Qo l s S=I6 l 8 S:=if_neg (by rw [h];simp)
theorem c38 (l:List Tok) (S:QS) (s:Str) (o:Nat) (Hp:List AObj) (ho:Hp[o]? = some (prq l S)) (hi:S.i<l.length) (hll:l.length≤1048576):ACall Tryz.prog 38 [.ptr o 0,Ac s] Hp (fun r H'=>r=Ti∧H'=Hp.set o (prq l (Qo l s S))):=by
 refine Ah [] [0,1] Tryz.func38 Tryz.ntmps38 (fun d=>?_)
 refine Z1 ?_;refine Bk Tryz.call72 ho (by simp) I2 (c72 l S s o _ (Ar ho) hi hll) ?_;refine A4 ?_;refine A2 [0,7] ?_
 refine A3 (fun ht7=>?_) (fun ht7=>?_)
 ·have hq:isQ l s S=false:=by simpa using ht7
  have e:=AGu hq
  rw [X8 hq,Cp ho]
  refine Z43 ?_;refine Bk Tryz.call42 ho (by simp) I2 (c42 l S 8 o _ (Ar ho) hi) ?_;exact AHd
 have hq:isQ l s S=true:=by simpa using ht7
 have e:=AGt hq
 rw [X7 hq]
 exact AHf

theorem AGv {l:List Tok} {q:Qry} {S:QS} (h:(S.code != 0)=true):Gu l (q,S)=(q,S):=if_pos h
theorem AGw {l:List Tok} {q:Qry} {S:QS} (h:(S.code != 0)=false) (h2:((Ak l S.i).kind != 1)=true):Gu l (q,S)=(q,I6 l 8 S):=by unfold Gu;rw [if_neg (by show ¬(S.code != 0)=true;rw [h];simp),if_pos h2]
theorem AGx {l:List Tok} {q:Qry} {S:QS} (h:(S.code != 0)=false) (h2:((Ak l S.i).kind != 1)=false) (h3:((q.cols.length:Int)==12)=true):Gu l (q,S)=(q,I6 l 3 S):=by unfold Gu;rw [if_neg (by show ¬(S.code != 0)=true;rw [h];simp),if_neg (by show ¬((Ak l S.i).kind != 1)=true;rw [h2];simp),if_pos h3]
theorem AGy {l:List Tok} {q:Qry} {S:QS} (h:(S.code != 0)=false) (h2:((Ak l S.i).kind != 1)=false) (h3:((q.cols.length:Int)==12)=false):Gu l (q,S)=(⟨q.all,q.cols++[(Ak l S.i).text],q.whr,q.lim⟩,Eh S):=by unfold Gu;rw [if_neg (by show ¬(S.code != 0)=true;rw [h];simp),if_neg (by show ¬((Ak l S.i).kind != 1)=true;rw [h2];simp),if_neg (by show ¬((q.cols.length:Int)==12)=true;rw [h3];simp)]
theorem Zk {Hp:List AObj} {o oq:Nat} {A B:AObj} (hne:oq≠o) (ho:Hp[o]? = some A) (hoq:Hp[oq]? = some B):(Hp.set o A).set oq B=Hp:=by rw [Cp ho,Cp hoq]
theorem c73 (l:List Tok) (S:QS) (q:Qry) (o oq:Nat) (Hp:List AObj) (hne:oq≠o) (ho:Hp[o]? = some (prq l S)) (hoq:Hp[oq]? = some (qo true q)) (hi:S.i<l.length) (hll:l.length≤1048576) (hcl:q.cols.length≤1048576):ACall Tryz.prog 73 [.ptr o 0,.ptr oq 0] Hp (fun r H'=>r=Ti∧H'=(Hp.set o (prq l (Gu l (q,S)).2)).set oq (qo true (Gu l (q,S)).1)):=by
 refine Ah [] [0,1] Tryz.func73 Tryz.ntmps73 (fun d=>?_)
 refine Fs [0,1,3,7,0,16,48,112,255,511,0,2047] [] [.q 10 [] [],.s [4] none [] [],.s [4] none [] []] (fun _=>Hp) (fun _=>[]) Aj (by kernel_rfl) rfl rfl (fun _=>rfl) ?_
 apply Y.q
 ·intro B hT hF
  refine Z34 ?_
  refine An (h:=Cn ho) (hr:=?_)
  refine Z34 ?_
  refine An (h:=Cn ho) (hr:=?_)
  refine An (h:=Ag (S.i) (Ic (Ak l S.i)) (fun _=>M0 hi)) (hr:=?_)
  exact Z79
 case hTF=>decide
 refine AF1 ?_;refine F7 (tn:=[])  ?_;refine A2 [0,1,4] ?_;refine Z19 ?_;refine Z20 ?_
 refine A4 (h:=Cn ho) (hr:=?_)
 refine Z0 ?_;refine A2 [0,1,4,15] ?_
 refine A3 (fun ht15=>?_) (fun ht15=>?_)
 ·have e:=AGv (l:=l) (q:=q) ht15
  refine Z41 ?_
  exact A8 .nores (hp:=⟨rfl,by first|(rw [e];exact (Zk hne ho hoq).symm)|(rw [e];exact (Cp (by rw [Cr (Ne.symm hne)];exact hoq)).symm)|(rw [e];simp only [Cb];rw [Lj _ _ hne];simp only [qo,qoC,Cs,Dl,J6];rfl)⟩)
 refine Z20 ?_;refine A2 [0,1,4,22] ?_
 refine A3 (fun ht22=>?_) (fun ht22=>?_)
 ·have e:=AGw (q:=q) ht15 ht22
  refine Z2 ?_;refine Bk Tryz.call42 ho (by simp) I2 (c42 l S 8 o _ (Ar ho) hi) ?_;refine A2 [] ?_;refine Z41 ?_
  exact A8 .nores (hp:=⟨rfl,by first|(rw [e];exact (Zk hne ho hoq).symm)|(rw [e];exact (Cp (by rw [Cr (Ne.symm hne)];exact hoq)).symm)|(rw [e];simp only [Cb];rw [Lj _ _ hne];simp only [qo,qoC,Cs,Dl,J6];rfl)⟩)
 refine Z13 ?_
 refine A4 (h:=Cn hoq) (hr:=?_)
 refine Z11 ?_;refine A2 [0,1,4,28] ?_
 refine A3 (fun ht28=>?_) (fun ht28=>?_)
 ·rw [B6] at ht28
  have e:=AGx ht15 ht22 ht28
  refine Z2 ?_;refine Bk Tryz.call42 ho (by simp) I2 (c42 l S 3 o _ (Ar ho) hi) ?_;refine A2 [] ?_;refine Z41 ?_
  exact A8 .nores (hp:=⟨rfl,by first|(rw [e];exact (Zk hne ho hoq).symm)|(rw [e];exact (Cp (by rw [Cr (Ne.symm hne)];exact hoq)).symm)|(rw [e];simp only [Cb];rw [Lj _ _ hne];simp only [qo,qoC,Cs,Dl,J6];rfl)⟩)
 rw [B6] at ht28
 have e:=AGy ht15 ht22 ht28
 refine Z18 ?_;refine Fs [0,0,2,6,14,0,32,96,254,511,1023,2047] [4] [.q 4 [] [],.s [41] (some 0) [] [],.q 3 [] [],.s [41,45] none [0] []] (fun B=>Hp.set oq (if B 0=true then qo false q else qo true q)) (fun _=>[]) Aj (by kernel_rfl) (Cp hoq) rfl (fun B=>by simp) ?_
 apply Y.q
 ·intro B hT hF
  exact pi
 case hTF=>decide
 refine uz (o:=oq) (t':=29) (cs:=[At q.all,.slice true 1 (q.cols.map Ac),A5 q.whr.op,Ac q.whr.text,A5 q.whr.val.kind,A5 q.whr.val.n,Ac q.whr.val.s,.slice false 6 (q.whr.kids.map Ae),A5 q.lim]) (cs':=[At q.all,.slice false 1 (q.cols.map Ac),A5 q.whr.op,Ac q.whr.text,A5 q.whr.val.kind,A5 q.whr.val.n,Ac q.whr.val.s,.slice false 6 (q.whr.kids.map Ae),A5 q.lim]) Tryz.isAgg22 (fun B hB=>⟨by simp only [hB];exact As hoq,(Cb ..).symm,rfl⟩) ?_
 apply Y.q
 ·intro B hT hF
  refine Z10 ?_;exact Z84
 case hTF=>decide
 refine Y.append jU Tryz.type9 ?_ ?_ ?_
 ·simp [Tryz.t9];omega
 ·simp [Tryz.t9];omega
 refine F7 (tn:=[4]) (U:=Hp.set oq (qo false q)) ?_;refine Z0 ?_
 refine jk jS (As hoq) ?_ ?_
 ·simp [or_imp,forall_and]
 refine A2 [0] ?_;refine Z22 ?_
 refine A4 (h:=Cn (by rw [Cr hne,Cr hne];exact ho)) (hr:=?_)
 refine Z11 ?_
 refine Ew jS (by rw [Cr hne,Cr hne];exact ho) ?_ ?_
 ·simp
 refine A2 [] ?_
 exact Jz .nores (hp:=⟨rfl,by first|(rw [e];exact (Zk hne ho hoq).symm)|(rw [e];exact (Cp (by rw [Cr (Ne.symm hne)];exact hoq)).symm)|(rw [e];simp only [Cb];rw [Lj _ _ hne];simp only [qo,qoC,Cs,Dl,J6];rfl)⟩)

end Go.SX.Nb
namespace Go.Proofs
open Go Go.Shelf
def Tryz.ren171:Ren where
 f:=fun x=>match x with|171=>45|243=>81|246=>119|283=>153|284=>154|285=>155|286=>156|129=>179|317=>178|318=>180|319=>181|320=>182|337=>204|338=>205|n=>n
 t:=fun x=>match x with|3=>3|9=>9|2=>2|4=>4|171=>187|0=>0|53=>97|37=>119|5=>5|173=>190|212=>216|51=>217|20=>20|213=>218|46=>42|232=>237|233=>238|n=>n
 g:=fun x=>match x with|17=>3|18=>4|19=>5|n=>n
theorem Tryz.lays171:LaysM.n171 Tryz.prog Tryz.ren171:=ly
end Go.Proofs
namespace Go.SX
variable [GI:GlobInv]
open Classical Go.RowKit
section
variable {P:Program} {g:FuncId} {Hp:List AObj}
theorem AFun.libAny {xs:List Value} {n:Value} (h:∀w,Hu w→Calls P g xs.toArray w (fun e w'=>∃u,e=.returned (.tuple #[n,u])∧Below w.heap.size w w')):AFun P g (xs.map .v) Hp (.tup [.v n,.any]):=by
 intro d G w vs hn hv hH hT hTop
 have hvs:=Uj hn (fun i y u a b=>⟨_,hv i y u a b⟩)
 subst hvs
 refine (callsIn_wide.2 (h w (fun x hx=>let ⟨_,u,a,b⟩:=hT.glob x hx;⟨u,a,b⟩))).mono ?_
 rintro e w' ⟨u,rfl,hb⟩
 obtain ⟨h1,h2⟩:=Pb hH hT hb
 refine ⟨.tuple #[n,u],G,.tup [.v n,.any],Hp,rfl,.tup _ _ _ rfl (fun i y u' hy hu=>?_),h1,h2,(Lv hT hb).keep _,rfl,rfl,rfl⟩
 match i with
 | 0=>simp at hy hu;subst hy;subst hu;exact .v _ _
 | 1=>simp at hy;subst hy;exact .any _ _
 | i+2=>simp at hy
end
end Go.SX
