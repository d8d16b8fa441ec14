/- On the way (part 9). -/
import Derived.Lib.ItoaLen
import Derived.Lib.SliceRun
import Derived.Test.YtejjpdbfdmdgpaaGreatDoorImageForthCardSaidPart8
set_option linter.all false
namespace Go.SX.Nb
open Go Go.SX Go.Proofs
variable [ErrAt]
set_option maxRecDepth 4000
theorem AUe (a b:Int) (a0 : -9223372036854775808≤a) (a1:a≤9223372036854775807) (b0 : -9223372036854775808≤b) (b1:b≤9223372036854775807):a.natAbs*b.natAbs<B32 ^ 5:=by
 have:a.natAbs*b.natAbs≤9223372036854775808*9223372036854775808:=Nat.mul_le_mul (by omega) (by omega)
 have h2:(9223372036854775808*9223372036854775808:Nat)<B32 ^ 5:=by decide
 omega
theorem AN9 {a:Int} (a0 : -9223372036854775808≤a) (a1:a≤9223372036854775807):a.natAbs<B32 ^ 5∧a.natAbs<B32 ^ 2:=by
 have h2:(9223372036854775809:Nat)≤B32 ^ 5:=by decide
 have h3:(9223372036854775809:Nat)≤B32 ^ 2:=by decide
 omega
section
variable {t:Str} {a b:Val}
theorem Vy (h3:(Dq t==3)=false) (h:(t==[38])=true):Id t a b=J7 a b:=by rw [b8 h3,if_pos h]
theorem AAv (h3:(Dq t==3)=false) (h:(t==[38])=false) (hk:((a.kind != 1) || (b.kind != 1))=true):Id t a b=(noV,10):=by
 rw [b8 h3,if_neg (by rw [h];simp)]
 have:(!By [a,b] [1,1])=true:=by
  simp only [By,Pc]
  simp only [Co,bne_iff_ne,ne_eq] at hk
  simp
  exact hk
 rw [if_pos this]
 rfl
theorem AAw (h3:(Dq t==3)=false) (h:(t==[38])=false) (hk:((a.kind != 1) || (b.kind != 1))=false):Id t a b=Fu (Eu t a.n b.n):=by
 rw [b8 h3,if_neg (by rw [h];simp)]
 have:(!By [a,b] [1,1])=false:=by
  simp only [Cr,bne_eq_false_iff_eq] at hk
  simp [By,hk.1,hk.2]
 rw [if_neg (by rw [this];simp)]
theorem ANa (h:((a.kind != 2) || (b.kind != 2))=true):J7 a b=(noV,10):=by
 unfold J7
 have:(!By [a,b] [2,2])=true:=by
  simp only [By,Pc]
  simp only [Co,bne_iff_ne,ne_eq] at h
  simp
  exact h
 rw [if_pos this]
 rfl
theorem ANb (h:((a.kind != 2) || (b.kind != 2))=false) (h2:decide ((200:Int)<(a.s.length:Int)+(b.s.length:Int))=true):J7 a b=(noV,3):=by
 unfold J7
 have:(!By [a,b] [2,2])=false:=by
  simp only [Cr,bne_eq_false_iff_eq] at h
  simp [By,h.1,h.2]
 rw [if_neg (by rw [this];simp),if_pos h2]
 rfl
theorem ANc (h:((a.kind != 2) || (b.kind != 2))=false) (h2:decide ((200:Int)<(a.s.length:Int)+(b.s.length:Int))=false):J7 a b=(⟨2,0,a.s++b.s⟩,0):=by
 unfold J7
 have:(!By [a,b] [2,2])=false:=by
  simp only [Cr,bne_eq_false_iff_eq] at h
  simp [By,h.1,h.2]
 rw [if_neg (by rw [this];simp),if_neg (by rw [h2];simp)]
 unfold Sq
 simp only [decide_eq_false_iff_not] at h2
 rw [D8 (by rw [Ap];omega)]
end
theorem AJb {t:Str} {a b:Int} (h1:(t==[43])=false) (h2:(t==[45])=false) (h3:(t==[42])=false) (hb:(b==0)=true):Fu (Eu t a b)=(noV,5):=by
 unfold Eu Xh Ss
 rw [if_neg (by rw [h1];simp),if_neg (by rw [h2];simp),if_neg (by rw [h3];simp),if_pos hb,if_pos hb]
 split<;>rfl
theorem c53 (t:Str) (a b:Val) (fa:Fine a) (fb:Fine b) (hal:a.s.length≤1048576) (hbl:b.s.length≤1048576) (Hp:List AObj):AFun Tryz.prog 53 [Ae t,Bi a,Bi b] Hp (Q6 (Id t a b)):=by
 have ea:=AN9 fa.lo fa.hi
 have eb:=AN9 fb.lo fb.hi
 refine Ag [.cell 6 42,.tmp 7] [0,1,2] Tryz.func53 Tryz.ntmps53 (fun d=>?_)
 refine Z1 ?_;refine Z81 ?_;refine A2 [0,4,5,6] ?_;refine Z29 ?_;refine A8 Tryz.call82 (c82 t _) ?_;refine A4 ?_;refine A2 [0,4,5,6,16] ?_
 refine A3 (fun ht16=>?_) (fun ht16=>?_)
 ·refine Oh ?_;refine A2 [0,4,5,6,21] ?_
  refine A3 (fun ht21=>?_) (fun ht21=>?_)
  ·refine Z34 ?_;refine yr ?_;exact A9 (B1 (B8 jA jS) A7) ⟨by rw [AFr ht16 ht21];try rfl,rfl⟩
  have hbc:=AJa fa.plain fb.plain ht16 ht21
  refine Z4 ?_;refine Cb [0,0,3,0,0,31,63,127] 5 Ai (by kernel_rfl) ?_;refine Z12 ?_;refine Dd Tryz.call83 (c83 a b hal _) ?_;refine Z89 ?_;refine A8 Tryz.call83 (c83 b a hbl _) ?_;refine Z0 ?_;refine A2 [0,6,8,9] ?_;refine Z29 ?_;refine A2 [6,8,9,29] ?_;refine Z99 ?_;refine A2 [6,8,9,29,30] ?_
  refine A3 (fun ht30=>?_) (fun ht30=>?_)
  ·refine Z19 ?_;refine Z96 ?_;refine ADm ?_;exact A9 (B1 (B8 jA jS) A7) ⟨by rw [hbc];unfold ju;rw [if_pos ht30];try rfl,rfl⟩
  refine Z1 ?_;refine A2 [6,8,9,29,39] ?_
  refine A3 (fun ht39=>?_) (fun ht39=>?_)
  ·refine Z1 ?_;refine Z74 ?_;refine ADm ?_;exact A9 (B1 (B8 jA jS) A7) ⟨by rw [hbc];unfold ju;rw [if_neg (by rw [ht30];simp),if_pos ht39];try rfl,rfl⟩
  refine Z1 ?_;refine A2 [6,8,9,29,46] ?_
  refine A3 (fun ht46=>?_) (fun ht46=>?_)
  ·refine Z2 ?_;refine ADm ?_;exact A9 (B1 (B8 jA jS) A7) ⟨by rw [hbc];unfold ju;rw [if_neg (by rw [ht30];simp),if_neg (by rw [ht39];simp),if_pos ht46];try rfl,rfl⟩
  refine Z1 ?_;refine A2 [6,8,9,29,50] ?_
  refine A3 (fun ht50=>?_) (fun ht50=>?_)
  ·refine Z1 ?_;refine ADm ?_;exact A9 (B1 (B8 jA jS) A7) ⟨by rw [hbc];unfold ju;rw [if_neg (by rw [ht30];simp),if_neg (by rw [ht39];simp),if_neg (by rw [ht46];simp),if_pos ht50];try rfl,rfl⟩
  refine Z1 ?_;refine A2 [6,8,9,55] ?_
  refine A3 (fun ht55=>?_) (fun ht55=>?_)
  ·refine Z2 ?_;refine ADm ?_;exact A9 (B1 (B8 jA jS) A7) ⟨by rw [hbc];unfold ju;rw [if_neg (by rw [ht30];simp),if_neg (by rw [ht39];simp),if_neg (by rw [ht46];simp),if_neg (by rw [ht50];simp),if_pos ht55];try rfl,rfl⟩
  refine j9 ?_;refine AMd ?_;exact A9 (B1 (B8 jA jS) A7) ⟨by rw [hbc];unfold ju;rw [if_neg (by rw [ht30];simp),if_neg (by rw [ht39];simp),if_neg (by rw [ht46];simp),if_neg (by rw [ht50];simp),if_neg (by rw [ht55];simp)];try rfl,rfl⟩
 refine Sg ?_;refine A2 [0,4,5,6,63] ?_
 refine A3 (fun ht63=>?_) (fun ht63=>?_)
 ·refine Z8 ?_;refine rt ?_;refine A2 [4,5,6,71] ?_
  refine A3 (fun ht71=>?_) (fun ht71=>?_)
  ·refine Z34 ?_;refine yr ?_;exact A9 (B1 (B8 jA jS) A7) ⟨by rw [Vy ht16 ht63,ANa ht71];try rfl,rfl⟩
  refine Z4 ?_;refine Z54 ?_;refine Z72 ?_;refine A2 [4,5,6,80] ?_
  refine A3 (fun ht80=>?_) (fun ht80=>?_)
  ·refine Z34 ?_;refine yr ?_;exact A9 (B1 (B8 jA jS) A7) ⟨by rw [Vy ht16 ht63,ANb ht71 ht80];try rfl,rfl⟩
  refine Yv ?_
  refine A4 (h:=Q.sadd (hl:=fun _=>by omega)) (hr:=?_)
  refine ALs ?_;exact A9 (B1 (B8 jA jS) A7) ⟨by rw [Vy ht16 ht63,ANc ht71 ht80];try rfl,rfl⟩
 refine Sg ?_;refine rt ?_;refine A2 [0,4,5,6,95] ?_
 refine A3 (fun ht95=>?_) (fun ht95=>?_)
 ·refine Z34 ?_;refine Z64 ?_;exact A9 (B1 (B8 jA jS) A7) ⟨by rw [AAv ht16 ht63 ht95];try rfl,rfl⟩
 have hba:=AAw (a:=a) (b:=b) ht16 ht63 ht95
 refine Z4 ?_;refine Hw [0,1,3,0,8,31,0,0,255,511] [] [.q 6 [] [],.s [10] none [] [],.s [11] none [] [],.s [10] none [] [],.s [11] none [] []] (fun _=>Hp) (fun _=>[.cells 42 [A5 0,A5 0,Ae []]]) Ai (by kernel_rfl) rfl rfl (fun _=>rfl) ?_
 apply Y.q
 ·intro B hT hF
  refine Z12 ?_;refine Dd Tryz.call56 (AAi a.n fa.lo fa.hi _) ?_;refine Z12 ?_;refine Dd Tryz.call56 (AAi b.n fb.lo fb.hi _) ?_;exact cu
 case hTF=>decide
 refine Y.allocP Tryz.zeroValue91 ?_;refine Y.allocP Tryz.zeroValue91 ?_;refine Y.storeP Tryz.sizeOf91 ?_;refine Y.storeP Tryz.sizeOf91 ?_;refine Gx (tn:=[])  ?_;refine A2 [0,4,5,6,10,11] ?_;refine Z29 ?_;refine A2 [0,4,5,6,10,11,103] ?_;refine Z99 ?_;refine A2 [0,4,5,6,10,11,103,104] ?_
 refine A3 (fun ht104=>?_) (fun ht104=>?_)
 ·refine Z1 ?_;refine A8 Tryz.call84 (c84 (decide (a.n<0)) a.n.natAbs (decide (b.n<0)) b.n.natAbs ea.1 eb.1 _) ?_;refine A8 Tryz.call54 (c54 _ _ (AFt fa.lo fa.hi fb.lo fb.hi) _) ?_;refine lw ?_;refine Z21 ?_;exact A9 (B1 (B8 jA jS) A7) ⟨by rw [hba,show Eu t a.n b.n=aq a.n b.n from if_pos ht104,M4,AAq fa.lo fa.hi fb.lo fb.hi];try rfl,rfl⟩
 refine Z1 ?_;refine A2 [0,4,5,6,10,11,103,112] ?_
 refine A3 (fun ht112=>?_) (fun ht112=>?_)
 ·refine Cb [0,0,2,7,15,31,31,127,255] 7 Ai (by kernel_rfl) ?_;refine Z12 ?_;refine Dd Tryz.call55 (c55 (decide (b.n<0)) (dig b.n.natAbs) _) ?_;refine Dd Tryz.call84 (c84 (decide (a.n<0)) a.n.natAbs (!(decide (b.n<0))) b.n.natAbs ea.1 eb.1 _) ?_;refine Dd Tryz.call54 (c54 _ _ (AFt fa.lo fa.hi fb.lo fb.hi) _) ?_;refine Z89 ?_;refine Z27 ?_;refine Z21 ?_;exact A9 (B1 (B8 jA jS) A7) ⟨by rw [hba,show Eu t a.n b.n=Lt a.n b.n from (by unfold Eu;rw [if_neg (by rw [ht104];simp),if_pos ht112]),M4,AAr fa.lo fa.hi fb.lo fb.hi];try rfl,rfl⟩
 refine Z1 ?_;refine A2 [0,4,5,6,10,11,121] ?_
 refine A3 (fun ht121=>?_) (fun ht121=>?_)
 ·refine Z1 ?_;refine A8 Tryz.call85 (c85 (decide (a.n<0)) a.n.natAbs (decide (b.n<0)) b.n.natAbs ea.2 eb.2 _) ?_;refine A8 Tryz.call54 (c54 _ _ (AUe a.n b.n fa.lo fa.hi fb.lo fb.hi) _) ?_;refine lw ?_;refine Z21 ?_;exact A9 (B1 (B8 jA jS) A7) ⟨by rw [hba,show Eu t a.n b.n=Sr a.n b.n from (by unfold Eu;rw [if_neg (by rw [ht104];simp),if_neg (by rw [ht112];simp),if_pos ht121]),M4,AAs fa.lo fa.hi fb.lo fb.hi];try rfl,rfl⟩
 refine Z17 ?_;refine Z33 ?_;refine A2 [0,4,5,6,131] ?_
 refine A3 (fun ht131=>?_) (fun ht131=>?_)
 ·refine Z34 ?_;refine Z64 ?_;exact A9 (B1 (B8 jA jS) A7) ⟨by rw [hba,AJb ht104 ht112 ht121 ht131];try rfl,rfl⟩
 refine Yv ?_;refine A8 Tryz.call86 (c86 a.n b.n fa.lo fa.hi fb.lo fb.hi (by simpa using ht131) _) ?_;refine ALg ?_;refine ADf ?_;refine A2 [0,6,12,13] ?_;refine Z8 ?_;refine A2 [6,12,13,142] ?_
 refine A3 (fun ht142=>?_) (fun ht142=>?_)
 ·refine Z2 ?_;refine A8 Tryz.call54 (c54 _ _ (Tg (Xq _ _) ea.1) _) ?_;refine Z0 ?_;refine Z64 ?_;exact A9 (B1 (B8 jA jS) A7) ⟨by rw [hba,show Eu t a.n b.n=Xh a.n b.n from (by unfold Eu;rw [if_neg (by rw [ht104];simp),if_neg (by rw [ht112];simp),if_neg (by rw [ht121];simp),if_pos ht142]),M4,AAt fa.lo fa.hi fb.lo fb.hi ht131];try rfl,rfl⟩
 refine Z93 ?_;refine A8 Tryz.call54 (c54 _ _ (Tg (Th _ _) ea.1) _) ?_;refine lw ?_;refine Dc ?_;exact A9 (B1 (B8 jA jS) A7) ⟨by rw [hba,show Eu t a.n b.n=Ss a.n b.n from (by unfold Eu;rw [if_neg (by rw [ht104];simp),if_neg (by rw [ht112];simp),if_neg (by rw [ht121];simp),if_neg (by rw [ht142];simp)]),M4,AAu fa.lo fa.hi fb.lo fb.hi ht131];try rfl,rfl⟩

set_option maxRecDepth 8000
/-! The reference's reading of a number. -/
def rdS (x:Nat×Bool) (c:UInt8):Nat×Bool:=if x.2 then x else (x.1*10+(c.toNat-48),decide (18446744073709551616≤x.1*10+(c.toNat-48)))
def rdL (d:Str):Nat×Bool:=d.foldl rdS (0,false)
def Uc (c:UInt8):Bool:=(decide (48≤c.toNat)&&decide (c.toNat≤57))
theorem jv:∀(l:Str) (m:Nat),l.foldl rdS (m,true)=(m,true)
 | [],m=>rfl
 | c::r,m=>jv r m
theorem wu {d:Str} {i:Nat} (h:i<d.length):rdL (d.take (i+1))=rdS (rdL (d.take i)) d[i]:=by
 unfold rdL
 rw [Ip h,gx]
 rfl
theorem AFu {l:Str} (hl:∀c∈l,Uc c=true):∀x:Nat×Bool,(x.2=false→x.1<18446744073709551616)→(l.foldl rdS x).2=false→(l.foldl rdS x).1<18446744073709551616:=by
 induction l with
 | nil=>exact fun x h h2=>h h2
 | cons c r ih =>
  intro x h h2
  refine ih (fun y hy=>hl y (Qk _ hy)) (rdS x c) (fun h3=>?_) h2
  unfold rdS at h3 ⊢
  split
  ·rename_i h4;rw [if_pos h4] at h3;rw [h4] at h3;cases h3
  rename_i h4;rw [if_neg h4] at h3;simp at h3;simpa using h3
theorem o9:∀(l:Str) (m:Nat),(∀c∈l,Uc c=true)→m<18446744073709551616→Lib.parseUintM 18446744073709551615 m l=if (l.foldl rdS (m,false)).2=true then .range else .ok (l.foldl rdS (m,false)).1
 | [],m,_,_=>by rw [Lib.parseUintM];rfl
 | c::r,m,h,hm=>by
  have hc:=h c (by simp)
  unfold Uc at hc
  simp only [As,decide_eq_true_eq] at hc
  have hr:=fun y hy=>h y (Qk _ hy)
  have e:(c::r).foldl rdS (m,false)=r.foldl rdS (m*10+(c.toNat-48),decide (18446744073709551616≤m*10+(c.toNat-48))):=rfl
  rw [Lib.parseUintM,if_pos hc,e]
  by_cases h1:1844674407370955162≤m
  ·rw [if_pos h1,decide_eq_true (by omega),jv,if_pos rfl]
  rw [if_neg h1]
  by_cases h2:18446744073709551615<m*10+(c.toNat-48)
  ·rw [if_pos h2,decide_eq_true (by omega),jv,if_pos rfl]
  rw [if_neg h2,decide_eq_false (by omega)]
  exact o9 r _ hr (by omega)
theorem wv (c:UInt8):Uc c=digs.contains c:=(Ng c).symm
/-- What is wrong with a text that is no number. -/
theorem AJc {s d:Str} (hd:d=Np s) (h:((((d.length:Nat):Int)==0) || (decide ((1:Int)<((s.length:Nat):Int))&&(((d.headD 0).toNat:Int)==48)))=true):Bv s=(0,6):=by
 have:I0 s=true:=by
  unfold I0
  rw [←hd]
  simp only [Co,As,beq_iff_eq,decide_eq_true_eq] at h
  rcases h with h|⟨h1,h2⟩
  ·have:d=[]:=Pd (by omega)
   rw [this];rfl
  have e:d.headD 0=48:=Lo.1 (by have:(48:UInt8).toNat=48:=rfl;omega)
  rw [e,decide_eq_true (by omega)]
  simp
 unfold Bv
 rw [if_pos this]
theorem AJd {s d:Str} (hd:d=Np s) {i:Nat} (hi:i<d.length) (h:(decide (((d[i].toNat:Nat):Int)<48) || decide ((57:Int)<((d[i].toNat:Nat):Int)))=true):Bv s=(0,6):=by
 have:I0 s=true:=by
  unfold I0
  rw [←hd]
  cases hb:Lib.trimS d digs==[] with
  | false=>simp
  | true =>
   exfalso
   have hb':=trimS_nil.1 (eq_of_beq hb) d[i] (Av hi)
   rw [←wv] at hb'
   unfold Uc at hb'
   simp only [As,decide_eq_true_eq] at hb'
   simp only [Co,decide_eq_true_eq] at h
   omega
 unfold Bv
 rw [if_pos this]
theorem ww {s d:Str} (hd:d=Np s) (h:((((d.length:Nat):Int)==0) || (decide ((1:Int)<((s.length:Nat):Int))&&(((d.headD 0).toNat:Int)==48)))=false) (ha:∀c∈d,Uc c=true):Bv s=if (rdL d).2=true then (0,4) else F1 (decide (((d.length:Nat):Int)<((s.length:Nat):Int))) (rdL d).1:=by
 simp only [Cr,Y6,beq_eq_false_iff_ne,ne_eq,decide_eq_false_iff_not] at h
 have hne:d≠[]:=fun e=>h.1 (by rw [e];rfl)
 have hg:I0 s=false:=by
  unfold I0
  rw [←hd]
  have h1:(d==[])=false:=by simpa using hne
  have h2:(Lib.trimS d digs==[])=true:=by
   have:=trimS_nil.2 (fun b hb=>by rw [←wv];exact ha b hb)
   simpa using this
  have h3:((d.headD 0==48)&&decide (1<s.length))=false:=by
   rw [Y6]
   rcases h.2 with h4|h4
   ·exact .inr (decide_eq_false (by omega))
   refine .inl ?_
   rw [beq_eq_false_iff_ne]
   intro e
   rw [e] at h4
   exact h4 rfl
  rw [h1,h2,h3]
  rfl
 have hl:=AFu ha (0,false) (fun _=>by decide)
 have hp:=o9 d 0 ha (by decide)
 have hU:Lib.parseUintB 64 d=if (rdL d).2=true then .range else .ok (rdL d).1:=by
  unfold Lib.parseUintB
  rw [if_neg hne]
  exact hp
 unfold Bv
 rw [hg,if_neg (by simp)]
 have p1:(2:Nat) ^ (64-1)=9223372036854775808:=rfl
 rcases Ku s with ⟨h3,h4⟩|⟨r,h3,h4⟩
 ·have e:d=s:=hd.trans h4
  subst e
  cases d with
  | nil=>exact absurd rfl hne
  | cons c r =>
   have hc:=ha c (by simp)
   unfold Uc at hc
   simp only [As,decide_eq_true_eq] at hc
   have n1:¬(c.toNat=43∨c.toNat=45):=by omega
   have n2:¬c.toNat=45:=by omega
   simp only [Lib.parseIntB,if_neg n1,hU]
   cases ho:(rdL (c::r)).2 with
   | true=>simp
   | false =>
    have hm:=hl ho
    simp only [Af,if_false]
    rw [decide_eq_false (show ¬(((c::r).length:Nat):Int)<(((c::r).length:Nat):Int) by omega)]
    unfold F1
    simp only [n2,not_false_eq_true,true_and,false_and,if_false,Ey,D0,Dl,Af,decide_eq_true_eq]
    by_cases hx:2 ^ (64-1)≤(rdL (c::r)).1
    ·rw [if_pos hx,if_neg (by omega)]
    rw [if_neg hx,if_pos (by omega)]
 have e:d=r:=hd.trans h4
 subst e
 subst h3
 have n1:((45:UInt8).toNat=43∨(45:UInt8).toNat=45):=.inr rfl
 have n2:(45:UInt8).toNat=45:=rfl
 simp only [Lib.parseIntB,if_pos n1,hU]
 cases ho:(rdL d).2 with
 | true=>simp
 | false =>
  have hm:=hl ho
  simp only [Af,if_false]
  rw [decide_eq_true (show ((d.length:Nat):Int)<(((45::d:Str).length:Nat):Int) by simp;omega)]
  unfold F1
  simp only [n2,not_true_eq_false,true_and,false_and,if_false,if_true,C9,Ey,Dl,Af,decide_eq_true_eq]
  by_cases hx:2 ^ (64-1)<(rdL d).1
  ·rw [if_pos hx,if_neg (by omega)]
  rw [if_neg hx,if_pos (by omega)]
set_option maxRecDepth 4000
theorem gd1 {s:Str} (h:(decide ((0:Int)<((s.length:Nat):Int))==true)=true):s≠[]:=by rintro rfl;simp at h
theorem gd2 {d:Str} {b:Bool} (h:(((((d.length:Nat):Int)==0)==false)&&b)=true):d≠[]:=by rintro rfl;simp at h
theorem ARy (a b:Nat) (ha:a<B32 ^ 5) (hb:b<B32 ^ 5) (Hp:List AObj):AFun Tryz.prog 84 [.agg (wF false (dig a)),.agg (wF false (dig b))] Hp (.agg (wF false (dig (a+b)))):=c84 false a false b ha hb Hp
theorem AUf (a b:Nat) (ha:a<B32 ^ 2) (hb:b<B32 ^ 2) (Hp:List AObj):AFun Tryz.prog 85 [.agg (wF false (dig a)),.agg (wF false (dig b))] Hp (.agg (wF false (dig (a*b)))):=c85 false a false b ha hb Hp
theorem AUg (Hp:List AObj):AFun Tryz.prog 56 [A5 10] Hp (.agg (wF false (dig 10))):=AAi 10 (by decide) (by decide) Hp
theorem wx {p q:Nat} (hp:p<256) (hq:q<256):Cd (wF false (dig p)) 1 [Bo (q:Nat)]=wF false (dig q):=by
 have h0:dig q 0=q:=by rw [wq];omega
 refine jt (k:=0) (by decide) h0 fun i hi=>?_
 have hb:B32 ^ 1≤B32 ^ i:=Xs (by decide) (by omega)
 have hb1:(256:Nat)≤B32 ^ 1:=by decide
 rw [Fy (m:=q) (i:=i) (by omega),Fy (m:=p) (i:=i) (by omega)]
theorem wy:wF false (dig 0)=[B3 false,Bo 0,Bo 0,Bo 0,Bo 0,Bo 0]:=by
 have:∀i,dig 0 i=0:=fun i=>by unfold dig;simp
 unfold wF
 rw [this,this,this,this,this]
 rfl
theorem w48 {c:UInt8} (h:48≤c.toNat):IntKind.u64.wrap (IntKind.u64.wrap ((c.toNat:Nat):Int)-48)=((c.toNat-48:Nat):Int):=by
 have:=c.toNat_lt
 simp only [IntKind.wrap_u64]
 omega
theorem oa {m:Nat} (h:m<B32 ^ 3):decide (0<((dig m 2:Nat):Int))=decide (18446744073709551616≤m):=by
 rw [decide_eq_decide]
 unfold dig
 simp only [B32,Nat.reducePow] at h ⊢
 omega
structure RdAt (d:Str) (x:Nat×Nat):Prop where
 le:x.1≤d.length
 dg:∀(j:Nat) (c:UInt8),j<x.1→d[j]? = some c→Uc c=true
 one:x.2<256
theorem RdAt.low {d:Str} {x:Nat×Nat} (h:RdAt d x) (ho:(rdL (d.take x.1)).2=false):(rdL (d.take x.1)).1<18446744073709551616:=by
 refine AFu (l:=d.take x.1) (fun c hc=>?_) (0,false) (fun _=>by decide) ho
 obtain ⟨j,hj⟩:=Cf hc
 have hj1:j<x.1:=by
  have:=(Ad.1 hj).1
  rw [Bx] at this
  omega
 rw [He,if_pos hj1] at hj
 exact h.dg j c hj1 hj
theorem c58 (s:Str) (hs:s.length≤1048576) (Hp:List AObj):AFun Tryz.prog 58 [Ae s] Hp (.tup [A5 (Bv s).1,A5 (Bv s).2]):=by
 refine Ag [.tmp 2,.tmp 3] [0] Tryz.func58 Tryz.ntmps58 (fun d=>?_)
 refine Z1 ?_;refine A2 [0] ?_;refine Z1 ?_;refine A2 [0,4] ?_;refine Z54 ?_;refine Bd ?_
 refine Bd (h:=Fq 0 (s.headD 0) (fun hB=>M1 (gd1 hB))) (hr:=?_)
 refine Z74 ?_;refine A2 [0,4,18] ?_
 refine A3 (fun ht18=>?_) (fun ht18=>?_)
 ·have h45:s.headD 0=45:=by
   simp only [As,decide_eq_true_eq,beq_iff_eq] at ht18
   exact Lo.1 (by have:(45:UInt8).toNat=45:=rfl;have:=ht18.2;omega)
  have h1s:1≤s.length:=by simp only [As,decide_eq_true_eq] at ht18;have:=ht18.1;omega
  obtain ⟨d,hd0⟩:∃d,d=s.drop 1:=⟨_,rfl⟩
  have hd:d=Np s:=by
   rw [hd0]
   rcases Ku s with ⟨h3,h4⟩|⟨r,h3,h4⟩
   ·exfalso
    cases s with
    | nil=>simp at h1s
    | cons c r=>simp at h3 h45;exact h3 h45
   rw [h4,h3];rfl
  have hdl:d.length≤1048576:=by rw [hd0,Fh];omega
  refine Z51 ?_
  refine A4 (h:=S5 1 (fun _=>h1s) (fun _=>Aj _)) (hr:=?_)
  refine A4 ?_;refine A2 [0,4] ?_;refine Er ?_;refine Z75 ?_
  refine R.wk 4 (Ae d) (by rw [hd0];exact Le.refl _) ?_
  refine Z0 ?_;refine Z38 ?_;refine Z49 ?_
  refine Bd (h:=Fq 0 (d.headD 0) (fun hB=>M1 (gd2 hB))) (hr:=?_)
  refine Z96 ?_;refine A2 [0,4,33] ?_
  refine A3 (fun ht33=>?_) (fun ht33=>?_)
  ·exact AHe
  refine rm ?_;refine Z80 ?_;refine A2 [0,4,5] ?_;refine Z2 ?_;refine A2 [0,4,5,6] ?_;refine Eb ?_;refine APl ?_;refine Mj ?_;refine ADf ?_;refine A2 [0,4,5,6,7,8] ?_;refine Z29 ?_;refine cv ?_
  refine Az (α:=Nat×Nat) (fun x=>⟨82,A6 0 (Ae s) (A6 4 (Ae d) (A6 5 (.ptr (oid Hp.length 0) 0) (A6 6 (B3 (rdL (d.take x.1)).2) (A6 7 (.ptr (oid Hp.length 1) 0) (A6 8 (.ptr (oid Hp.length 2) 0) (A6 9 (A5 (x.1:Nat)) (fun _=>.any))))))),Hp,[.cells 91 (wF false (dig (rdL (d.take x.1)).1)),.cells 91 (wF false (dig 10)),.cells 91 (wF false (dig x.2))],[],none⟩) (fun x=>RdAt d x) (fun x=>d.length-x.1) ((0,0)) ⟨An _,fun j c hj=>by omega,by decide⟩ (B5 (by simp only [List.take_zero,show rdL []=(0,false) from rfl,wy]<;>rfl)) rfl (fun x hx=>?_)
  obtain ⟨i,p⟩:=x
  simp only at hx ⊢
  refine Z54 ?_;refine A2 [0,4,5,6,7,8,9,40] ?_
  refine A3 (fun ht40=>?_) (fun ht40=>?_)
  ·have hil:i<d.length:=by simp at ht40;omega
   refine Z42 ?_;refine Z8 ?_
   refine A4 (h:=Fq i d[i] (fun _=>Aa hil)) (hr:=?_)
   refine Z38 ?_
   refine Bd (h:=Fq i d[i] (fun _=>Aa hil)) (hr:=?_)
   refine Z74 ?_;refine A2 [0,4,5,6,7,8,9,52] ?_
   refine A3 (fun ht52=>?_) (fun ht52=>?_)
   ·refine yt ?_;refine Z13 ?_;exact AOk
   have hdc:48≤d[i].toNat∧d[i].toNat≤57:=by
    simp only [Cr,decide_eq_false_iff_not] at ht52
    omega
   have hnx:=wu hil
   refine Lq ?_
   refine A4 (h:=Fq i d[i] (fun _=>Aa hil)) (hr:=?_)
   refine A4 ?_
   refine A4 (h:=L2) (hr:=?_)
   rw [w48 hdc.1]
   refine AH7 ?_
   refine Nf jS (hput:=wx hx.one (q:=(d[i].toNat-48)) (by have:=(d[i]).toNat_lt;omega)) (hfit:=by simp) ?_
   refine cv ?_;refine Z1 ?_;refine A2 [0,4,5,6,7,8,9,61] ?_
   refine A3 (fun ht61=>?_) (fun ht61=>?_)
   ·have ho:(rdL (d.take i)).2=false:=by simpa using ht61
    have hml:=hx.low ho
    simp only at hml
    have hm2:(rdL (d.take i)).1<B32 ^ 2:=hml
    have hm5:(rdL (d.take i)).1*10<B32 ^ 5:=Cq (show (rdL (d.take i)).1*10<184467440737095516170 by omega) (by decide)
    have hm3:(rdL (d.take i)).1*10+(d[i].toNat-48)<B32 ^ 3:=Cq (show (rdL (d.take i)).1*10+(d[i].toNat-48)<184467440737095516170 by omega) (by decide)
    have hst:rdL (d.take (i+1))=((rdL (d.take i)).1*10+(d[i].toNat-48),decide (18446744073709551616≤(rdL (d.take i)).1*10+(d[i].toNat-48))):=by rw [hnx];exact if_neg (by rw [ho];simp)
    refine Cb [0,0,3,0,15,31] 4 Ai (by kernel_rfl) ?_;refine Z12 ?_;refine AQ7 ?_
    refine A8 Tryz.call84 (ARy ((rdL (d.take i)).1*10) (d[i].toNat-48) hm5 (Cq (show (d[i].toNat-48)<256 by have:=(d[i]).toNat_lt;omega) (by decide)) _) ?_
    refine Gd ?_;refine A2 [0,4,5,7,8,9] ?_;refine Z51 ?_;refine S9 (2) jU Tryz.sizeOf88 (by decide) ?_;refine Z0 ?_
    rw [oa hm3]
    refine A4 ?_;refine cv ?_;refine Z84 ?_;refine cv ?_
    refine Ay (i+1,(d[i].toNat-48)) ⟨hil,fun j c hj hc=>?_,by have:=(d[i]).toNat_lt;show d[i].toNat-48<256;omega⟩ (by show d.length-(i+1)<d.length-i;omega) (Bh (by rw [hst]<;>rfl))
    rcases Be j i with h|h
    ·exact hx.dg j c h hc
    have:j=i:=by have hj':j<i+1:=hj;omega
    subst this
    rw [Aa hil] at hc
    injection hc with hc
    rw [←hc]
    unfold Uc
    simp only [As,decide_eq_true_eq]
    exact hdc
   have ho:(rdL (d.take i)).2=true:=by simpa using ht61
   have hst:rdL (d.take (i+1))=rdL (d.take i):=by rw [hnx];exact if_pos ho
   refine Z70 ?_;refine cv ?_
   refine Ay (i+1,(d[i].toNat-48)) ⟨hil,fun j c hj hc=>?_,by have:=(d[i]).toNat_lt;show d[i].toNat-48<256;omega⟩ (by show d.length-(i+1)<d.length-i;omega) (Bh (by rw [hst]<;>rfl))
   rcases Be j i with h|h
   ·exact hx.dg j c h hc
   have:j=i:=by have hj':j<i+1:=hj;omega
   subst this
   rw [Aa hil] at hc
   injection hc with hc
   rw [←hc]
   unfold Uc
   simp only [As,decide_eq_true_eq]
   exact hdc
  have hie:d.take i=d:=D8 (by simp at ht40;omega)
  have hall:∀c∈d,Uc c=true:=fun c hc=>by
   obtain ⟨j,hj⟩:=Cf hc
   exact hx.dg j c (by have:=(Ad.1 hj).1;simp at ht40;omega) hj
  have hgood:=ww hd ht33 hall
  have hlow:=hx.low
  simp only at hlow
  rw [hie] at hlow ⊢
  refine Z44 ?_;refine Z25 ?_;refine Z0 ?_;refine Gd ?_;refine A2 [5,6] ?_;refine Z29 ?_;refine A2 [5,77] ?_
  refine A3 (fun ht77=>?_) (fun ht77=>?_)
  ·rw [if_pos ht77] at hgood
   exact AHe
  rw [if_neg (by rw [ht77];simp)] at hgood
  refine APo ?_;refine Z72 ?_;refine Ja ?_;exact AOl
 obtain ⟨d,hd0⟩:∃d,d=s:=⟨_,rfl⟩
 have hd:d=Np s:=by
  rw [hd0]
  rcases Ku s with ⟨h3,h4⟩|⟨r,h3,h4⟩
  ·exact h4.symm
  exfalso
  rw [h3] at ht18
  simp at ht18<;>omega
 have hdl:d.length≤1048576:=by rw [hd0];exact hs
 refine Z4 ?_;refine Z75 ?_
 refine R.wk 4 (Ae d) (by rw [hd0];exact Le.refl _) ?_
 refine Z0 ?_;refine Z38 ?_;refine Z49 ?_
 refine Bd (h:=Fq 0 (d.headD 0) (fun hB=>M1 (gd2 hB))) (hr:=?_)
 refine Z96 ?_;refine A2 [0,4,33] ?_
 refine A3 (fun ht33=>?_) (fun ht33=>?_)
 ·exact AHe
 refine rm ?_;refine Z80 ?_;refine A2 [0,4,5] ?_;refine Z2 ?_;refine A2 [0,4,5,6] ?_;refine Eb ?_;refine APl ?_;refine Mj ?_;refine ADf ?_;refine A2 [0,4,5,6,7,8] ?_;refine Z29 ?_;refine cv ?_
 refine Az (α:=Nat×Nat) (fun x=>⟨82,A6 0 (Ae s) (A6 4 (Ae d) (A6 5 (.ptr (oid Hp.length 0) 0) (A6 6 (B3 (rdL (d.take x.1)).2) (A6 7 (.ptr (oid Hp.length 1) 0) (A6 8 (.ptr (oid Hp.length 2) 0) (A6 9 (A5 (x.1:Nat)) (fun _=>.any))))))),Hp,[.cells 91 (wF false (dig (rdL (d.take x.1)).1)),.cells 91 (wF false (dig 10)),.cells 91 (wF false (dig x.2))],[],none⟩) (fun x=>RdAt d x) (fun x=>d.length-x.1) ((0,0)) ⟨An _,fun j c hj=>by omega,by decide⟩ (B5 (by simp only [List.take_zero,show rdL []=(0,false) from rfl,wy]<;>rfl)) rfl (fun x hx=>?_)
 obtain ⟨i,p⟩:=x
 simp only at hx ⊢
 refine Z54 ?_;refine A2 [0,4,5,6,7,8,9,40] ?_
 refine A3 (fun ht40=>?_) (fun ht40=>?_)
 ·have hil:i<d.length:=by simp at ht40;omega
  refine Z42 ?_;refine Z8 ?_
  refine A4 (h:=Fq i d[i] (fun _=>Aa hil)) (hr:=?_)
  refine Z38 ?_
  refine Bd (h:=Fq i d[i] (fun _=>Aa hil)) (hr:=?_)
  refine Z74 ?_;refine A2 [0,4,5,6,7,8,9,52] ?_
  refine A3 (fun ht52=>?_) (fun ht52=>?_)
  ·refine yt ?_;refine Z13 ?_;exact AOk
  have hdc:48≤d[i].toNat∧d[i].toNat≤57:=by
   simp only [Cr,decide_eq_false_iff_not] at ht52
   omega
  have hnx:=wu hil
  refine Lq ?_
  refine A4 (h:=Fq i d[i] (fun _=>Aa hil)) (hr:=?_)
  refine A4 ?_
  refine A4 (h:=L2) (hr:=?_)
  rw [w48 hdc.1]
  refine AH7 ?_
  refine Nf jS (hput:=wx hx.one (q:=(d[i].toNat-48)) (by have:=(d[i]).toNat_lt;omega)) (hfit:=by simp) ?_
  refine cv ?_;refine Z1 ?_;refine A2 [0,4,5,6,7,8,9,61] ?_
  refine A3 (fun ht61=>?_) (fun ht61=>?_)
  ·have ho:(rdL (d.take i)).2=false:=by simpa using ht61
   have hml:=hx.low ho
   simp only at hml
   have hm2:(rdL (d.take i)).1<B32 ^ 2:=hml
   have hm5:(rdL (d.take i)).1*10<B32 ^ 5:=Cq (show (rdL (d.take i)).1*10<184467440737095516170 by omega) (by decide)
   have hm3:(rdL (d.take i)).1*10+(d[i].toNat-48)<B32 ^ 3:=Cq (show (rdL (d.take i)).1*10+(d[i].toNat-48)<184467440737095516170 by omega) (by decide)
   have hst:rdL (d.take (i+1))=((rdL (d.take i)).1*10+(d[i].toNat-48),decide (18446744073709551616≤(rdL (d.take i)).1*10+(d[i].toNat-48))):=by rw [hnx];exact if_neg (by rw [ho];simp)
   refine Cb [0,0,3,0,15,31] 4 Ai (by kernel_rfl) ?_;refine Z12 ?_;refine AQ7 ?_
   refine A8 Tryz.call84 (ARy ((rdL (d.take i)).1*10) (d[i].toNat-48) hm5 (Cq (show (d[i].toNat-48)<256 by have:=(d[i]).toNat_lt;omega) (by decide)) _) ?_
   refine Gd ?_;refine A2 [0,4,5,7,8,9] ?_;refine Z51 ?_;refine S9 (2) jU Tryz.sizeOf88 (by decide) ?_;refine Z0 ?_
   rw [oa hm3]
   refine A4 ?_;refine cv ?_;refine Z84 ?_;refine cv ?_
   refine Ay (i+1,(d[i].toNat-48)) ⟨hil,fun j c hj hc=>?_,by have:=(d[i]).toNat_lt;show d[i].toNat-48<256;omega⟩ (by show d.length-(i+1)<d.length-i;omega) (Bh (by rw [hst]<;>rfl))
   rcases Be j i with h|h
   ·exact hx.dg j c h hc
   have:j=i:=by have hj':j<i+1:=hj;omega
   subst this
   rw [Aa hil] at hc
   injection hc with hc
   rw [←hc]
   unfold Uc
   simp only [As,decide_eq_true_eq]
   exact hdc
  have ho:(rdL (d.take i)).2=true:=by simpa using ht61
  have hst:rdL (d.take (i+1))=rdL (d.take i):=by rw [hnx];exact if_pos ho
  refine Z70 ?_;refine cv ?_
  refine Ay (i+1,(d[i].toNat-48)) ⟨hil,fun j c hj hc=>?_,by have:=(d[i]).toNat_lt;show d[i].toNat-48<256;omega⟩ (by show d.length-(i+1)<d.length-i;omega) (Bh (by rw [hst]<;>rfl))
  rcases Be j i with h|h
  ·exact hx.dg j c h hc
  have:j=i:=by have hj':j<i+1:=hj;omega
  subst this
  rw [Aa hil] at hc
  injection hc with hc
  rw [←hc]
  unfold Uc
  simp only [As,decide_eq_true_eq]
  exact hdc
 have hie:d.take i=d:=D8 (by simp at ht40;omega)
 have hall:∀c∈d,Uc c=true:=fun c hc=>by
  obtain ⟨j,hj⟩:=Cf hc
  exact hx.dg j c (by have:=(Ad.1 hj).1;simp at ht40;omega) hj
 have hgood:=ww hd ht33 hall
 have hlow:=hx.low
 simp only at hlow
 rw [hie] at hlow ⊢
 refine Z44 ?_;refine Z25 ?_;refine Z0 ?_;refine Gd ?_;refine A2 [5,6] ?_;refine Z29 ?_;refine A2 [5,77] ?_
 refine A3 (fun ht77=>?_) (fun ht77=>?_)
 ·rw [if_pos ht77] at hgood
  exact AHe
 rw [if_neg (by rw [ht77];simp)] at hgood
 refine APo ?_;refine Z72 ?_;refine Ja ?_;exact AOl

set_option maxRecDepth 8000
/-! The reference's Eval. -/
def Rf:Str:=[115,116,114]
def Rg:Str:=[108,101,110]
def Rh:Str:=[110,117,109]
def Wu:Str:=[108,101,102,116]
def Oo (n k:Int):Int:=if decide (n<0)=true then 0 else if decide (n<k)=true then n else k
def uj (t:Str) (a b:Val):Rs:=if (t==Wu)=true then (⟨2,0,a.s.take (Oo b.n a.s.length).toNat⟩,0) else (⟨2,0,a.s.drop (a.s.length-(Oo b.n a.s.length).toNat)⟩,0)
def dh (t:Str) (a b:Val):Rs:=
 if (t==Rf)=true then (if (a.kind != 1)=true then (noV,10) else (⟨2,0,Lib.itoa a.n⟩,0))
 else if (a.kind != 2)=true then (noV,10)
 else if (t==Rg)=true then (⟨1,a.s.length,[]⟩,0)
 else if (t==Rh)=true then (if ((Bv a.s).2 != 0)=true then (noV,(Bv a.s).2) else (⟨1,(Bv a.s).1,[]⟩,0))
 else if (b.kind != 1)=true then (noV,10) else uj t a b
def Sx (o:Int) (t:Str) (a b:Val):Rs:=
 if ((a.kind==0) || (b.kind==0))=true then (noV,0)
 else if (o==5)=true then Id t a b
 else if (o==3)=true then (if (a.kind != 1)=true then (noV,10) else fh (!decide (a.n<0)) a.n.natAbs)
 else if (o==4)=true then (if (a.kind != 3)=true then (noV,10) else (E4 (a.n==0),0))
 else dh t a b
def AAx (k:Int) (o:Int) (t:Str) (a:Val) (rb:Rs):Rs:=if (k==2)=true then (if (rb.2 != 0)=true then (noV,rb.2) else Sx o t a rb.1) else Sx o t a ⟨9,0,[]⟩
def AFv (t:Str) (a:Val) (rb:Rs):Rs:=
 if (!((a.kind==0) || (a.kind==3)))=true then (noV,10)
 else if (a==E4 (t==orW))=true then (a,0)
 else if (rb.2 != 0)=true then (noV,rb.2)
 else if ((rb.1.kind != 0)&&(rb.1.kind != 3))=true then (noV,10)
 else if (rb.1==E4 (t==orW))=true then (rb.1,0)
 else if ((a.kind==0) || (rb.1.kind==0))=true then (noV,0)
 else (E4 (t==Re),0)
def Ka (k:Int) (o:Int) (t:Str) (ra rb rc:Rs):Rs:=
 if (ra.2 != 0)=true then (noV,ra.2)
 else if ((o==5)&&((t==orW) || (t==Re)))=true then AFv t ra.1 rb
 else if (o==6)=true then
  (if (t==C7)=true then (E4 (ra.1.kind==0),0)
  else if (t==P9)=true then (if (ra.1.kind != 0)=true then (ra.1,0) else rb)
  else if (t==ifW)=true then (if (!((ra.1.kind==0) || (ra.1.kind==3)))=true then (noV,10) else if (ra.1.n==1)=true then rb else rc)
  else AAx k o t ra.1 rb)
 else AAx k o t ra.1 rb
/-- Who ends in an error has no value. -/
def Mp (r:Rs):Prop:=r.2≠0→r.1=noV
theorem ob (e:Int):Mp (Cz e):=fun _=>rfl
theorem b9 (v:Val):Mp (v,0):=fun h=>absurd rfl h
theorem Q9 (x:Int×Int):Mp (Fu x):=by
 unfold Fu
 split
 ·exact V6
 exact V7
theorem Wv {r:Rs} (h:Mp r):Mp (B9 r):=by
 unfold B9
 split
 ·exact V6
 exact h
theorem AAy (t:Str) (a b:Val):Mp (Id t a b):=by
 unfold Id
 split
 ·split
  ·exact V6
  exact V7
 split
 ·unfold J7
  split
  ·exact V6
  split
  ·exact V6
  exact V7
 split
 ·exact V6
 exact Q9 _
theorem jx (o:Int) (t:Str) (l:List Val):Mp (B0 o t l):=by
 unfold B0
 split
 ·exact AAy _ _ _
 split
 ·exact Q9 _
 split
 ·exact V7
 split
 ·exact V6
 split
 ·unfold H9
  split
  ·exact V7
  split
  ·exact V7
  split
  ·exact Q9 _
  exact V6
 split
 ·exact V6
 exact V7
theorem uk {c:List Col} {l:List Val} {o:Int} {t:Str} {v:Val} {ks:List Rs} (h:∀i,Mp (ks.getD i (noV,0))):Mp (J8 B0 c l o t v ks):=by
 unfold J8
 split
 ·exact V7
 split
 ·unfold Lf
  split
  ·exact V6
  exact V7
 have hlog:∀s,Mp (Gq s (ks.getD 0 (noV,0)) (ks.getD 1 (noV,0))):=fun s=>by
  unfold Gq
  split
  ·exact Wv (h 0)
  split
  ·exact Wv (h 1)
  exact V7
 split
 ·exact hlog _
 split
 ·exact hlog _
 split
 ·unfold E9
  split
  ·split
   ·exact V6
   split
   ·exact h 1
   exact h 2
  split
  ·exact V6
  split
  ·exact V7
  split
  ·exact V7
  exact h 1
 unfold I9
 split
 ·exact V6
 split
 ·exact V7
 exact jx _ _ _
theorem ba (c:List Col) (l:List Val):∀(n:Nat) (e:Expr),sizeE e≤n→Mp (Al c l e)
 | 0,e,h=>by rw [Kv] at h;omega
 | n+1,e,h=>by
  obtain ⟨o,t,v,k⟩:=e
  rw [Al,U7]
  refine uk fun i=>?_
  rw [D3,Ce]
  cases hk:(Expr.mk o t v k).kids[i]? with
  | none=>exact b9 _
  | some y =>
   have hlt:=(Ad.1 hk).1
   have hy:=(Ad.1 hk).2
   have:=mp (.mk o t v k) hlt
   rw [hy] at this
   exact ba c l n y (by omega)
set_option maxRecDepth 4000
theorem AUh (t:Str) (a b:Int) (ha : -9223372036854775808≤a∧a≤9223372036854775807) (Hp:List AObj):AFun Tryz.prog 223 [Ae t,A5 a,A5 b] Hp (Q6 (Fu (Eu t a b))):=by
 refine Ag [.cell 6 42,.tmp 7] [0,1,2] Tryz.func223 Tryz.ntmps223 (fun d=>?_)
 refine mb ?_;refine A2 [0,1,2,6] ?_;refine Z29 ?_;refine A2 [1,2,6,8] ?_;refine Z99 ?_;refine A2 [1,2,6,8,9] ?_
 refine A3 (fun ht9=>?_) (fun ht9=>?_)
 ·refine Z1 ?_;refine A8 Tryz.call243 (AU2 _ _ _) ?_;exact AHh
 refine Z1 ?_;refine A2 [1,2,6,8,19] ?_
 refine A3 (fun ht19=>?_) (fun ht19=>?_)
 ·refine Z1 ?_;refine A8 Tryz.call224 (ARo _ _ _) ?_;exact AHh
 refine Z1 ?_;refine A2 [1,2,6,8,29] ?_
 refine A3 (fun ht29=>?_) (fun ht29=>?_)
 ·refine Z1 ?_;refine A8 Tryz.call244 (AU6 _ _ _) ?_;exact AHh
 refine Z1 ?_;refine A2 [1,2,6,39] ?_
 refine A3 (fun ht39=>?_) (fun ht39=>?_)
 ·refine Z1 ?_;refine A8 Tryz.call245 (AU7 _ _ _) ?_;exact AHh
 refine j9 ?_;refine A8 Tryz.call246 (AU8 _ _ ha _) ?_;refine AH5 ?_;refine lw ?_;refine Dc ?_;exact AQm

theorem AUi (a b:Val) (fa:Fine a) (fb:Fine b) (Hp:List AObj):AFun Tryz.prog 222 [.slice false 3 [Bi a,Bi b]] Hp (Q6 (J7 a b)):=by
 refine Ag [.cell 2 42,.tmp 3] [0] Tryz.func222 Tryz.ntmps222 (fun d=>?_)
 refine mb ?_;refine A2 [0,2] ?_;refine Ts ?_;refine s7 ?_;refine A8 Tryz.call191 (AFm [a,b] [2,2] (by simp) (by simp) _) ?_;refine Z0 ?_;refine A2 [0,2,4] ?_
 refine A3 (fun ht4=>?_) (fun ht4=>?_)
 ·have hm:J7 a b=Cz 10:=if_pos ht4
  refine cp ?_;refine Tp ?_;exact Z24
 have hla:=fa.len
 have hlb:=fb.len
 refine Cb [0,1,3,7,15,0,32,96,224,480,1023,2047,4095] 10 Ai (by kernel_rfl) ?_;refine Ak ?_
 refine Ak (h:=Ac (0) (Bi a) (fun _=>show ([Bi a,Bi b]:List AV)[0]? = some (Bi a) from rfl)) (hr:=?_)
 refine Tr ?_
 refine Ak (h:=Ac (1) (Bi b) (fun _=>show ([Bi a,Bi b]:List AV)[1]? = some (Bi b) from rfl)) (hr:=?_)
 refine z8 ?_
 refine A4 (h:=Q.add64 (h1:=fun _=>by omega) (h2:=fun _=>by omega)) (hr:=?_)
 refine Z0 ?_;refine A2 [0,2,12] ?_
 refine A3 (fun ht12=>?_) (fun ht12=>?_)
 ·have hm:J7 a b=Cz 3:=by unfold J7;rw [if_neg (by rw [ht4];simp),if_pos ht12]
  refine cp ?_;refine Tp ?_;exact Z24
 have hm:J7 a b=(Sq (a.s++b.s),0):=by unfold J7;rw [if_neg (by rw [ht4];simp),if_neg (by rw [ht12];simp)]
 refine Z17 ?_;refine Cb [0,1,3,7,0,16,48,112,255,511,1023,2047] 8 Ai (by kernel_rfl) ?_;refine Ak ?_
 refine Ak (h:=Ac (0) (Bi a) (fun _=>show ([Bi a,Bi b]:List AV)[0]? = some (Bi a) from rfl)) (hr:=?_)
 refine Z40 ?_
 refine Ak (h:=Ac (1) (Bi b) (fun _=>show ([Bi a,Bi b]:List AV)[1]? = some (Bi b) from rfl)) (hr:=?_)
 refine Z89 ?_
 refine A4 (h:=Q.sadd (hl:=fun _=>by omega)) (hr:=?_)
 refine A8 Tryz.call206 (zn _ _) ?_;refine Tp ?_;exact Z45

theorem AUj (t:Str) (a b:Val) (fa:Fine a) (fb:Fine b) (Hp:List AObj):AFun Tryz.prog 190 [Ae t,.slice false 3 [Bi a,Bi b]] Hp (Q6 (Id t a b)):=by
 refine Ag [.cell 4 42,.tmp 5] [0,1] Tryz.func190 Tryz.ntmps190 (fun d=>?_)
 refine mb ?_;refine A2 [0,1,4] ?_;refine Mh ?_;refine Cb [0,0,2,6,0,16,48,126,255,511,1023,1023,2047,8191] 13 Ai (by kernel_rfl) ?_;refine Z12 ?_
 refine Ak (h:=Ac (0) (Bi a) (fun _=>show ([Bi a,Bi b]:List AV)[0]? = some (Bi a) from rfl)) (hr:=?_)
 refine Z12 ?_
 refine Ak (h:=Ac (1) (Bi b) (fun _=>show ([Bi a,Bi b]:List AV)[1]? = some (Bi b) from rfl)) (hr:=?_)
 refine Ak ?_;refine Dd Tryz.call221 (AUc _ _ _) ?_;refine Dd Tryz.call220 (AU1 _ _ _) ?_;refine Z12 ?_;refine rq ?_;refine A2 [0,1,4,6,7] ?_;refine Z2 ?_;refine A2 [0,1,4,6,20] ?_
 refine A3 (fun ht20=>?_) (fun ht20=>?_)
 ·refine Mh ?_;refine Cb [0,1,3,7,0,16,48,112,255] 8 Ai (by kernel_rfl) ?_;refine Ak ?_
  refine Ak (h:=Ac (0) (Bi a) (fun _=>show ([Bi a,Bi b]:List AV)[0]? = some (Bi a) from rfl)) (hr:=?_)
  refine Z40 ?_
  refine Ak (h:=Ac (1) (Bi b) (fun _=>show ([Bi a,Bi b]:List AV)[1]? = some (Bi b) from rfl)) (hr:=?_)
  refine rq ?_;refine A2 [4,6,29] ?_
  refine A3 (fun ht29=>?_) (fun ht29=>?_)
  ·have hm:Id t a b=Cz 10:=by unfold Id;rw [if_pos ht20,if_pos ht29]
   refine cp ?_;refine Z41 ?_;refine Z13 ?_;exact ALl
  have hm:Id t a b=(E4 (Fc t (Su a b)).1,0):=by unfold Id;rw [if_pos ht20,if_neg (by rw [ht29];simp)]
  refine Z93 ?_;refine A8 Tryz.call145 (zm _ _) ?_;exact yz
 refine Sg ?_;refine A2 [0,1,4,36] ?_
 refine A3 (fun ht36=>?_) (fun ht36=>?_)
 ·have hm:Id t a b=J7 a b:=by unfold Id;rw [if_neg (by rw [ht20];simp),if_pos ht36]
  refine Z2 ?_;refine A8 Tryz.call222 (AUi a b fa fb _) ?_;refine Z0 ?_;exact yz
 refine Se ?_;refine s7 ?_;refine A8 Tryz.call191 (AFm [a,b] [1,1] (by simp) (by simp) _) ?_;refine A4 ?_;refine A2 [0,1,4,44] ?_
 refine A3 (fun ht44=>?_) (fun ht44=>?_)
 ·have hm:Id t a b=Cz 10:=by unfold Id;rw [if_neg (by rw [ht20];simp),if_neg (by rw [ht36];simp),if_pos ht44]
  refine cp ?_;exact yz
 have hm:Id t a b=Fu (Eu t a.n b.n):=by unfold Id;rw [if_neg (by rw [ht20];simp),if_neg (by rw [ht36];simp),if_neg (by rw [ht44];simp)]
 refine Z4 ?_;refine Cb [0,0,2,6,14,0,32,96,224,511,1023,1023,4095,8191] 12 Ai (by kernel_rfl) ?_;refine Z12 ?_
 refine Ak (h:=Ac (0) (Bi a) (fun _=>show ([Bi a,Bi b]:List AV)[0]? = some (Bi a) from rfl)) (hr:=?_)
 refine Z40 ?_
 refine Ak (h:=Ac (1) (Bi b) (fun _=>show ([Bi a,Bi b]:List AV)[1]? = some (Bi b) from rfl)) (hr:=?_)
 refine Z12 ?_;refine Dd Tryz.call223 (AUh _ _ _ ⟨fa.lo,fa.hi⟩ _) ?_;refine Z89 ?_;exact rl

theorem ANd (s:Str) (n:Int):∃k:Nat,(if (0:Int)<(if (s.length:Int)<n then (s.length:Int) else n) then (if (s.length:Int)<n then (s.length:Int) else n) else 0)=(k:Int)∧k≤s.length∧k=(max 0 (min n s.length)).toNat:=by
 refine ⟨(max 0 (min n s.length)).toNat,?_,?_,rfl⟩<;>repeat' split
 all_goals omega
theorem AUk (t s:Str) (n:Int) (hs:s.length≤1048576) (Hp:List AObj):AFun Tryz.prog 195 [Ae t,Ae s,A5 n] Hp (Bi (L7 t s n)):=by
 refine Ag [.cell 6 42] [0,1,2] Tryz.func195 Tryz.ntmps195 (fun d=>?_)
 refine AHc ?_;refine Z19 ?_;refine R.minI ?_;refine R.maxI ?_
 obtain ⟨k,hk,hks,hke⟩:=ANd s n
 simp only [hk]
 refine A4 ?_;refine A2 [0,1,6,7] ?_;refine Z8 ?_;refine A2 [1,6,7,14] ?_
 refine A3 (fun ht14=>?_) (fun ht14=>?_)
 ·have hm:L7 t s n=Sq (s.take k):=by unfold L7;rw [if_pos ht14,←hke]
  refine Z1 ?_
  refine A4 (h:=L1 k (fun _=>An _) (fun _=>hks)) (hr:=?_)
  refine A8 Tryz.call206 (zn _ _) ?_;refine Gd ?_;refine j4 ?_;exact AQn
 have hm:L7 t s n=Sq (s.drop (s.length-k)):=by unfold L7;rw [if_neg (by rw [ht14];simp),←hke]
 refine Yv ?_
 refine A4 (h:=Q.sub64 (h1:=fun _=>by omega) (h2:=fun _=>by omega)) (hr:=?_)
 refine A4 (h:=S5 (s.length-k) (fun _=>show s.length-k≤s.length by omega) (fun _=>Aj _)) (hr:=?_)
 refine A8 Tryz.call206 (zn _ _) ?_;refine ADb ?_;exact AQn

theorem AUl (t:Str) (v:Val) (h:Fine v) (Hp:List AObj):AFun Tryz.prog 194 [Ae t,Bi v] Hp (Q6 (H9 t v)):=by
 have hlen:=h.len
 refine Ag [.cell 4 42,.tmp 5] [0,1] Tryz.func194 Tryz.ntmps194 (fun d=>?_)
 refine Z2 ?_;refine Z81 ?_;refine A2 [0,3,4] ?_;refine mc ?_;refine Rb ?_;refine A2 [0,3,4,6] ?_
 refine A3 (fun ht6=>?_) (fun ht6=>?_)
 ·have hm:H9 t v=(Sq (Lib.itoa v.n),0):=if_pos ht6
  refine Z1 ?_;refine A8 Tryz.call225 (ARd _ h.lo h.hi _) ?_;refine A8 Tryz.call206 (zn _ _) ?_;exact V4
 refine Z19 ?_;refine Rb ?_;refine A2 [0,3,4,18] ?_
 refine A3 (fun ht18=>?_) (fun ht18=>?_)
 ·have hm:H9 t v=(⟨1,v.s.length,[]⟩,0):=by unfold H9;rw [if_neg (by rw [ht6];simp),if_pos ht18]
  refine Z19 ?_;refine A8 Tryz.call184 (AMr _ _) ?_;exact V4
 refine Z19 ?_;refine Rb ?_;refine A2 [3,4,30] ?_
 refine A3 (fun ht30=>?_) (fun ht30=>?_)
 ·have hm:H9 t v=Fu (Bv v.s):=by unfold H9;rw [if_neg (by rw [ht6];simp),if_neg (by rw [ht18];simp),if_pos ht30]
  refine Z1 ?_;refine A8 Tryz.call183 (ARc v.s (by omega) _) ?_;refine AH5 ?_;exact AHl
 have hm:H9 t v=Cz 10:=by unfold H9;rw [if_neg (by rw [ht6];simp),if_neg (by rw [ht18];simp),if_neg (by rw [ht30];simp)]
 refine Z17 ?_;refine cp ?_;exact rl

theorem AJe {vs:List Val} (h:0<vs.length):vs.getD 0 noV=vs[0]:=by rw [D3,Aa h];rfl
/-- As many values as a node asks for. -/
structure ArgsOk (o:Int) (vs:List Val):Prop where
 two:o=5→∃a b,vs=[a,b]
 one:o=3∨o=4→vs.length=1
 call:o=6→vs.length=1∨∃a b,vs=[a,b]
 fine:∀v∈vs,Fine v
theorem AUm (e:Expr) (vs:List Val) (h:ArgsOk e.op vs) (Hp:List AObj):AFun Tryz.prog 170 [Ab e,Bt vs] Hp (Q6 (B0 e.op e.text vs)):=by
 refine Ag [.cell 4 42,.tmp 5] [0,1] Tryz.func170 Tryz.ntmps170 (fun d=>?_)
 refine Z2 ?_;refine Z81 ?_;refine A2 [1,2,4] ?_;refine Z18 ?_;refine Z25 ?_;refine A2 [1,2,4,6] ?_
 refine A3 (fun ht6=>?_) (fun ht6=>?_)
 ·obtain ⟨a,b,rfl⟩:=h.two (by simpa using ht6)
  have hm:B0 e.op e.text [a,b]=Id e.text a b:=if_pos ht6
  refine Z19 ?_;refine A8 Tryz.call190 (AUj e.text a b (h.fine a (by simp)) (h.fine b (by simp)) _) ?_;exact AHl
 refine rr ?_;refine G.buildSl jU jS jZ ?_
 refine Bm Tryz.call191 (C:=((e.op==3)==true)) (fun hB=>AFm vs [1] (by have:=h.one (.inl (by simpa using hB));simp [this]) (by simp) _) ?_
 refine Z0 ?_;refine A2 [1,2,4,16] ?_
 refine A3 (fun ht16=>?_) (fun ht16=>?_)
 ·have hm0:((e.op==3)&&By vs [1])=true:=ht16
  have hop:e.op=3:=by simp only [As,beq_iff_eq] at hm0;exact hm0.1
  have hln:=h.one (.inl hop)
  have hg0:(vs.map Bi)[0]? = some (Bi (vs.getD 0 noV)):=by rw [AJe (by omega)];exact Aw (by omega)
  have hm:B0 e.op e.text vs=Fu (Lt 0 (vs.getD 0 noV).n):=by unfold B0;rw [if_neg (by rw [ht6];simp),if_pos ht16]
  refine Z2 ?_
  refine A4 (h:=Ac (0) (Bi (vs.getD 0 noV)) (fun _=>hg0)) (hr:=?_)
  refine Z0 ?_;refine A8 Tryz.call193 (AU3 _ _) ?_;refine AH5 ?_;exact AHl
 refine rr ?_;refine G.buildSl jU jS jZ ?_
 refine Bm Tryz.call191 (C:=((e.op==4)==true)) (fun hB=>AFm vs [3] (by have:=h.one (.inr (by simpa using hB));simp [this]) (by simp) _) ?_
 refine Z0 ?_;refine A2 [1,2,4,35] ?_
 refine A3 (fun ht35=>?_) (fun ht35=>?_)
 ·have hm0:((e.op==4)&&By vs [3])=true:=ht35
  have hop:e.op=4:=by simp only [As,beq_iff_eq] at hm0;exact hm0.1
  have hln:=h.one (.inr hop)
  have hg0:(vs.map Bi)[0]? = some (Bi (vs.getD 0 noV)):=by rw [AJe (by omega)];exact Aw (by omega)
  have hm:B0 e.op e.text vs=(E4 ((vs.getD 0 noV).n==0),0):=by unfold B0;rw [if_neg (by rw [ht6];simp),if_neg (by rw [ht16];simp),if_pos ht35]
  refine Z2 ?_
  refine A4 (h:=Ac (0) (Bi (vs.getD 0 noV)) (fun _=>hg0)) (hr:=?_)
  refine Z10 ?_;exact AQ8
 refine Z25 ?_;refine A2 [1,2,4,50] ?_
 refine A3 (fun ht50=>?_) (fun ht50=>?_)
 ·have hm:B0 e.op e.text vs=Cz 10:=by unfold B0;rw [if_neg (by rw [ht6];simp),if_neg (by rw [ht16];simp),if_neg (by rw [ht35];simp),if_pos ht50]
  refine cp ?_;exact V4
 have hop:e.op=6:=by simpa using ht50
 have hcl:=h.call hop
 refine Z25 ?_;refine A2 [1,2,4,57] ?_
 refine A3 (fun ht57=>?_) (fun ht57=>?_)
 ·rw [Am] at ht57
  have hln:vs.length=1:=by have:=ht57;simp only [beq_iff_eq] at this;omega
  have hg0:(vs.map Bi)[0]? = some (Bi (vs.getD 0 noV)):=by rw [AJe (by omega)];exact Aw (by omega)
  have hf0:Fine (vs.getD 0 noV):=by rw [AJe (by omega)];exact h.fine _ (Av _)
  have hm:B0 e.op e.text vs=H9 e.text (vs.getD 0 noV):=by unfold B0;rw [if_neg (by rw [ht6];simp),if_neg (by rw [ht16];simp),if_neg (by rw [ht35];simp),if_neg (by rw [ht50];simp),if_pos ht57]
  refine Cb [0,1,0,4,12,31,63,63,255,511] 8 Ai (by kernel_rfl) ?_;refine Z40 ?_
  refine Ak (h:=Ac (0) (Bi (vs.getD 0 noV)) (fun _=>hg0)) (hr:=?_)
  refine Ak ?_;refine Dd Tryz.call194 (AUl _ _ hf0 _) ?_;refine Z89 ?_;exact V4
 rw [Am] at ht57
 obtain ⟨a,b,rfl⟩:∃a b,vs=[a,b]:=by
  rcases hcl with h1|h1
  ·exfalso
   have:=ht57
   rw [h1] at this
   simp at this
  exact h1
 refine Z2 ?_;refine s7 ?_;refine A8 Tryz.call191 (AFm [a,b] [2,1] (by simp) (by simp) _) ?_;refine Z0 ?_;refine A2 [1,2,4,69] ?_
 refine A3 (fun ht69=>?_) (fun ht69=>?_)
 ·have hm:B0 e.op e.text [a,b]=Cz 10:=by unfold B0;rw [if_neg (by rw [ht6];simp),if_neg (by rw [ht16];simp),if_neg (by rw [ht35];simp),if_neg (by rw [ht50];simp),if_neg (by rw [ht57];simp),if_pos ht69]
  refine cp ?_;exact V4
 have hm:B0 e.op e.text [a,b]=(L7 e.text a.s b.n,0):=by unfold B0;rw [if_neg (by rw [ht6];simp),if_neg (by rw [ht16];simp),if_neg (by rw [ht35];simp),if_neg (by rw [ht50];simp),if_neg (by rw [ht57];simp),if_neg (by rw [ht69];simp)];rfl
 refine Z17 ?_;refine Cb [0,1,0,4,12,28,0,64,192,448,1023,2047,4095] 10 Ai (by kernel_rfl) ?_;refine Z40 ?_
 refine Ak (h:=Ac (0) (Bi a) (fun _=>show ([Bi a,Bi b]:List AV)[0]? = some (Bi a) from rfl)) (hr:=?_)
 refine Z40 ?_
 refine Ak (h:=Ac (1) (Bi b) (fun _=>show ([Bi a,Bi b]:List AV)[1]? = some (Bi b) from rfl)) (hr:=?_)
 refine Z89 ?_
 refine A8 Tryz.call195 (AUk e.text a.s b.n (by have:=(h.fine a (by simp)).len;omega) _) ?_
 exact rl

theorem R5 (a b:Val):((a.kind==b.kind&&a.n==b.n)&&a.s==b.s)=(a==b):=by
 obtain ⟨k,n,s⟩:=a
 obtain ⟨k',n',s'⟩:=b
 by_cases h:(⟨k,n,s⟩:Val)=⟨k',n',s'⟩
 ·injection h with h1 h2 h3
  subst h1;subst h2;subst h3
  simp
 have:((⟨k,n,s⟩:Val)==⟨k',n',s'⟩)=false:=by simpa using h
 rw [this]
 simp only [Y6,beq_eq_false_iff_ne]
 by_cases h1:k=k'
 ·by_cases h2:n=n'
  ·right
   rintro rfl
   exact h (by rw [h1,h2])
  exact .inl (.inr h2)
 exact .inl (.inl h1)
/-- What eval answers for a tree, over any heap. -/
abbrev Lv (c:List Col) (l:List Val) (e:Expr) (r:Rs):Prop:=∀Hp,AFun Tryz.prog 105 [ay c l,Ab e] Hp (Q6 r)
theorem ARz (c:List Col) (l:List Val) (x:Expr) (r:Rs) (h:Lv c l x r) (Hp:List AObj):AFun Tryz.prog 169 [ay c l,Ab x] Hp (Q6 (B9 r)):=by
 refine Ag [.cell 4 42,.tmp 5] [0,1] Tryz.func169 Tryz.ntmps169 (fun d=>?_)
 refine Z1 ?_;refine AHp ?_;refine Z1 ?_;refine A8 Tryz.call105 (h _) ?_;refine Yu ?_;refine A2 [4,6,7] ?_;refine Z33 ?_;refine V5 ?_;refine Z74 ?_;refine A2 [4,6,7,25] ?_
 refine A3 (fun ht25=>?_) (fun ht25=>?_)
 ·have hm:B9 r=Cz 10:=if_pos ht25
  refine cp ?_;exact yz
 have hm:B9 r=r:=if_neg (by rw [ht25];simp)
 refine Lq ?_;exact rl

theorem AS0 (c:List Col) (l:List Val) (x k0 k1:Expr) (s:Val) (ra rb:Rs) (h0:(x.kids.map Ab)[0]? = some (Ab k0)) (h1:(x.kids.map Ab)[1]? = some (Ab k1)) (ha:Lv c l k0 ra) (hb:Lv c l k1 rb) (Hp:List AObj):AFun Tryz.prog 144 [ay c l,Ab x,Bi s] Hp (Q6 (Gq s ra rb)):=by
 refine Ag [.cell 6 42,.tmp 7] [0,1,2] Tryz.func144 Tryz.ntmps144 (fun d=>?_)
 refine Z19 ?_;refine Z81 ?_;refine A2 [3,4,5,6] ?_;refine Hw [0,0,2,6,14,31,63,127,127,0,767,2047] [9,10] [.q 9 [] [],.s [8] (some 0) [] [1],.s [] (some 1) [0] []] (fun _=>Hp) (fun B=>if B 0=true then [.cells 42 [A5 0,A5 0,Ae []],(if B 1=true then .cells 42 [A5 (B9 ra).1.kind,A5 (B9 ra).1.n,Ae (B9 ra).1.s] else .cells 42 [A5 0,A5 0,Ae []]:AObj)] else [.cells 42 [A5 0,A5 0,Ae []]]) Ai (by kernel_rfl) rfl rfl (fun _=>rfl) ?_
 apply Y.q
 ·intro B hT hF
  refine Z40 ?_
  refine Ak (h:=Ac (0) (Ab k0) (fun _=>h0)) (hr:=?_)
  refine Ak ?_;exact APy
 case hTF=>decide
 refine Z79 ?_;refine AOj ?_;refine A2 [3,4,5,6,8,9] ?_;refine Z33 ?_;refine Z7 ?_
 refine Bd (h:=Oc Tu (fun w=>Hm (B9 ra).1.kind (B9 ra).1.n s.kind s.n (B9 ra).1.s s.s w)) (hr:=?_)
 refine A4 ?_;refine A2 [3,4,5,6,8,9,26] ?_
 refine A3 (fun ht26=>?_) (fun ht26=>?_)
 ·rw [R5] at ht26
  have hm:Gq s ra rb=B9 ra:=if_pos ht26
  refine Z1 ?_;refine Z27 ?_;exact Z50
 rw [R5] at ht26
 refine Z4 ?_;refine Hw [0,0,2,6,14,31,63,127,127,0,767,2047] [9,10] [.q 9 [] [],.s [10] (some 0) [] [1],.s [] (some 1) [0] []] (fun _=>Hp) (fun B=>if B 0=true then [.cells 42 [A5 0,A5 0,Ae []],.cells 42 [A5 (B9 ra).1.kind,A5 (B9 ra).1.n,Ae (B9 ra).1.s],(if B 1=true then .cells 42 [A5 (B9 rb).1.kind,A5 (B9 rb).1.n,Ae (B9 rb).1.s] else .cells 42 [A5 0,A5 0,Ae []]:AObj)] else [.cells 42 [A5 0,A5 0,Ae []],.cells 42 [A5 (B9 ra).1.kind,A5 (B9 ra).1.n,Ae (B9 ra).1.s]]) Ai (by kernel_rfl) rfl rfl (fun _=>rfl) ?_
 apply Y.q
 ·intro B hT hF
  refine Z40 ?_
  refine Ak (h:=Ac (1) (Ab k1) (fun _=>h1)) (hr:=?_)
  refine Ak ?_;refine Dd Tryz.call169 (ARz c l k1 rb hb _) ?_;exact AH9
 case hTF=>decide
 refine Y.alloc (zs:=[A5 0,A5 0,Ae []]) (n:=2) (u:=Hp.length) Tryz.zeroValue42 (fun B hT hF hB=>⟨rfl,by simp [hB],by simp [upd,hB,hF 1 (by simp)],rfl⟩) ?_;refine Y.storeOwnT (u:=Hp.length) (n:=2) (t':=42) (cs:=[A5 0,A5 0,Ae []]) (cs':=[A5 (B9 rb).1.kind,A5 (B9 rb).1.n,Ae (B9 rb).1.s]) Tryz.sizeOf42 (fun B hT hF hB=>⟨rfl,by simp [hT 0 (by simp),hB],by simp [upd,hT 0 (by simp),hB],rfl⟩) ?_;refine Gx (tn:=[9,10]) (O:=[.cells 42 [A5 0,A5 0,Ae []],.cells 42 [A5 (B9 ra).1.kind,A5 (B9 ra).1.n,Ae (B9 ra).1.s],.cells 42 [A5 (B9 rb).1.kind,A5 (B9 rb).1.n,Ae (B9 rb).1.s]]) ?_;refine A4 ?_;refine A2 [5,6,8,9,10] ?_;refine Z33 ?_;refine Z7 ?_
 refine Bd (h:=Oc Tu (fun w=>Hm (B9 rb).1.kind (B9 rb).1.n s.kind s.n (B9 rb).1.s s.s w)) (hr:=?_)
 refine rt ?_;refine A2 [6,8,9,10,49] ?_
 refine A3 (fun ht49=>?_) (fun ht49=>?_)
 ·rw [R5] at ht49
  have hm:Gq s ra rb=B9 rb:=by unfold Gq;rw [if_neg (by rw [ht26];simp),if_pos ht49]
  refine Z1 ?_;refine Z27 ?_;exact Z50
 rw [R5] at ht49
 have hm:Gq s ra rb=((B9 ra).1,0):=by unfold Gq;rw [if_neg (by rw [ht26];simp),if_neg (by rw [ht49];simp)]
 refine Z93 ?_;refine Z27 ?_;exact Z45

theorem AUn (c:List Col) (l:List Val) (x k0 k1 k2:Expr) (ra rb d2:Rs) (h0:(x.kids.map Ab)[0]? = some (Ab k0)) (h1:(x.text==C7)=false→(x.kids.map Ab)[1]? = some (Ab k1)) (h2:(x.text==ifW)=true→(x.kids.map Ab)[2]? = some (Ab k2)) (ha:Lv c l k0 ra) (hb:(x.text==C7)=false→Lv c l k1 rb) (hd:(x.text==ifW)=true→Lv c l k2 d2) (Hp:List AObj):AFun Tryz.prog 146 [ay c l,Ab x] Hp (Q6 (E9 x.text ra rb d2)):=by
 refine Ag [.cell 4 42,.tmp 5] [0,1] Tryz.func146 Tryz.ntmps146 (fun d=>?_)
 refine Z1 ?_;refine AHp ?_;refine Z33 ?_;refine A2 [2,3,4,12] ?_
 refine A3 (fun ht12=>?_) (fun ht12=>?_)
 ·have hni:(x.text==C7)=false:=by
   have e:x.text=ifW:=by simpa [ifW] using ht12
   rw [e];rfl
  have hc:E9 x.text ra rb d2=(if (B9 ra).2 != 0 then Cz (B9 ra).2 else if (B9 ra).1==E4 true then rb else d2):=if_pos ht12
  refine Hw [0,0,2,6,14,31,63,127,127,0,767,2047] [9,10] [.q 9 [] [],.s [6] (some 0) [] [1],.s [] (some 1) [0] []] (fun _=>Hp) (fun B=>if B 0=true then [.cells 42 [A5 0,A5 0,Ae []],(if B 1=true then .cells 42 [A5 (B9 ra).1.kind,A5 (B9 ra).1.n,Ae (B9 ra).1.s] else .cells 42 [A5 0,A5 0,Ae []]:AObj)] else [.cells 42 [A5 0,A5 0,Ae []]]) Ai (by kernel_rfl) rfl rfl (fun _=>rfl) ?_
  apply Y.q
  ·intro B hT hF
   refine Z40 ?_
   refine Ak (h:=Ac (0) (Ab k0) (fun _=>h0)) (hr:=?_)
   refine Ak ?_;exact APy
  case hTF=>decide
  refine Z79 ?_;refine AOj ?_;refine A2 [2,3,4,6,7] ?_;refine mc ?_;refine A2 [2,3,4,6,7,22] ?_
  refine A3 (fun ht22=>?_) (fun ht22=>?_)
  ·have hm:E9 x.text ra rb d2=Cz (B9 ra).2:=by rw [hc,if_pos ht22]
   refine Z2 ?_;refine Z63 ?_;refine Z41 ?_;refine Z21 ?_;exact ALl
  refine Cb [0,0,3,7] 2 Ai (by kernel_rfl) ?_;refine Ak ?_;refine Dd Tryz.call145 (zm true _) ?_;refine J0 ?_
  refine A4 (h:=Oc Tu (fun w=>Hm (B9 ra).1.kind (B9 ra).1.n 3 1 (B9 ra).1.s [] w)) (hr:=?_)
  refine A4 ?_;refine A2 [2,3,4,29] ?_
  refine A3 (fun ht29=>?_) (fun ht29=>?_)
  ·rw [R5 (B9 ra).1 ⟨3,1,[]⟩] at ht29
   have ht29b:((B9 ra).1==E4 true)=true:=ht29
   have hm:E9 x.text ra rb d2=rb:=by rw [hc,if_neg (by rw [ht22];simp),if_pos ht29b]
   refine ALr ?_
   refine Ak (h:=Ac (1) (Ab k1) (fun _=>h1 hni)) (hr:=?_)
   refine Ak ?_;refine Dd Tryz.call105 (hb hni _) ?_;refine Z89 ?_;refine Z41 ?_;refine Z21 ?_;exact ALl
  rw [R5 (B9 ra).1 ⟨3,1,[]⟩] at ht29
  have hm:E9 x.text ra rb d2=d2:=by rw [hc,if_neg (by rw [ht22];simp),if_neg (by show ¬((B9 ra).1==⟨3,1,[]⟩)=true;rw [ht29];simp)]
  refine Z17 ?_;refine ALr ?_
  refine Ak (h:=Ac (2) (Ab k2) (fun _=>h2 ht12)) (hr:=?_)
  refine Ak ?_;refine Dd Tryz.call105 (hd ht12 _) ?_;refine Z89 ?_;exact yz
 have hc:E9 x.text ra rb d2=(if ra.2 != 0 then Cz ra.2 else if x.text==C7 then (E4 (ra.1.kind==0),0) else if ra.1.kind != 0 then (ra.1,0) else rb):=if_neg (by show ¬(x.text==ifW)=true;rw [show (x.text==ifW)=false from ht12];simp)
 refine Z4 ?_;refine Hw [0,0,2,6,14,31,63,127,127,0,767,2047] [9,10] [.q 9 [] [],.s [8] (some 0) [] [1],.s [] (some 1) [0] []] (fun _=>Hp) (fun B=>if B 0=true then [.cells 42 [A5 0,A5 0,Ae []],(if B 1=true then .cells 42 [A5 ra.1.kind,A5 ra.1.n,Ae ra.1.s] else .cells 42 [A5 0,A5 0,Ae []]:AObj)] else [.cells 42 [A5 0,A5 0,Ae []]]) Ai (by kernel_rfl) rfl rfl (fun _=>rfl) ?_
 apply Y.q
 ·intro B hT hF
  refine Z40 ?_
  refine Ak (h:=Ac (0) (Ab k0) (fun _=>h0)) (hr:=?_)
  refine Ak ?_;refine Dd Tryz.call105 (ha _) ?_;exact AH9
 case hTF=>decide
 refine AQo ?_;refine Y.storeOwnT (u:=Hp.length) (n:=1) (t':=42) (cs:=[A5 0,A5 0,Ae []]) (cs':=[A5 ra.1.kind,A5 ra.1.n,Ae ra.1.s]) Tryz.sizeOf42 (fun B hT hF hB=>⟨rfl,by simp [hT 0 (by simp),hB],by simp [upd,hT 0 (by simp),hB],rfl⟩) ?_;refine Gx (tn:=[9,10]) (O:=[.cells 42 [A5 0,A5 0,Ae []],.cells 42 [A5 ra.1.kind,A5 ra.1.n,Ae ra.1.s]]) ?_;refine A4 ?_;refine A2 [2,3,4,8,9] ?_;refine mc ?_;refine A2 [2,3,4,8,9,58] ?_
 refine A3 (fun ht58=>?_) (fun ht58=>?_)
 ·have hm:E9 x.text ra rb d2=Cz ra.2:=by rw [hc,if_pos ht58]
  refine Z2 ?_;refine Z63 ?_;exact V4
 refine Z25 ?_;refine A2 [2,3,4,8,65] ?_
 refine A3 (fun ht65=>?_) (fun ht65=>?_)
 ·have hm:E9 x.text ra rb d2=(E4 (ra.1.kind==0),0):=by rw [hc,if_neg (by rw [ht58];simp),if_pos (show (x.text==C7)=true from ht65)]
  refine Z19 ?_;exact AQ8
 refine Z25 ?_;refine A2 [2,3,4,8,73] ?_
 refine A3 (fun ht73=>?_) (fun ht73=>?_)
 ·have hm:E9 x.text ra rb d2=(ra.1,0):=by rw [hc,if_neg (by rw [ht58];simp),if_neg (by show ¬(x.text==C7)=true;rw [show (x.text==C7)=false from ht65];simp),if_pos ht73]
  refine Z2 ?_;exact V4
 have hm:E9 x.text ra rb d2=rb:=by rw [hc,if_neg (by rw [ht58];simp),if_neg (by show ¬(x.text==C7)=true;rw [show (x.text==C7)=false from ht65];simp),if_neg (by rw [ht73];simp)]
 refine Z17 ?_;refine ALr ?_
 refine Ak (h:=Ac (1) (Ab k1) (fun _=>h1 ht65)) (hr:=?_)
 refine Ak ?_;refine Dd Tryz.call105 (hb ht65 _) ?_;refine Z89 ?_;exact rl

abbrev bb (s:Sign):AV:=.agg [.slice false 1 (s.kids.map A5),A5 s.own]
theorem ANe {m:Sign} {a o:Int} (h:m=⟨[a],o⟩):AV.agg [.slice false 1 [A5 a],A5 o]=bb m:=by rw [h];rfl
theorem AFw {m:Sign} {a b o:Int} (h:m=⟨[a,b],o⟩):AV.agg [.slice false 1 [A5 a,A5 b],A5 o]=bb m:=by rw [h];rfl
theorem ANf {m:Sign} {a b c o:Int} (h:m=⟨[a,b,c],o⟩):AV.agg [.slice false 1 [A5 a,A5 b,A5 c],A5 o]=bb m:=by rw [h];rfl
theorem AUo (s:Str) (Hp:List AObj):AFun Tryz.prog 217 [Ae s] Hp (bb (Dh s)):=by
 refine Ag [.cell 2 187] [0] Tryz.func217 Tryz.ntmps217 (fun d=>?_)
 refine Z67 ?_;refine Z29 ?_;refine Ja ?_;refine Mi ?_;refine Z8 ?_;refine Yx ?_
 refine A3 (fun ht4=>?_) (fun ht4=>?_)
 ·refine Z4 ?_
  refine A3 (fun ht4=>?_) (fun ht4=>?_)
  ·exact Z77
  refine Z8 ?_;refine A2 [2,3,9] ?_
  refine A3 (fun ht9=>?_) (fun ht9=>?_)
  ·refine Z4 ?_
   refine A3 (fun ht9=>?_) (fun ht9=>?_)
   ·exact Z77
   refine X7 ?_
   refine A3 (fun ht18=>?_) (fun ht18=>?_)
   ·exact Z77
   exact Xb
  refine cn ?_
  refine A3 (fun ht9=>?_) (fun ht9=>?_)
  ·refine Z4 ?_
   refine A3 (fun ht9=>?_) (fun ht9=>?_)
   ·exact Z77
   refine X7 ?_
   refine A3 (fun ht18=>?_) (fun ht18=>?_)
   ·exact Z77
   exact Xb
  refine cn ?_
  refine A3 (fun ht9=>?_) (fun ht9=>?_)
  ·refine Z4 ?_
   refine A3 (fun ht9=>?_) (fun ht9=>?_)
   ·exact Z77
   refine X7 ?_
   refine A3 (fun ht18=>?_) (fun ht18=>?_)
   ·exact Z77
   exact Xb
  refine cn ?_
  refine A3 (fun ht9=>?_) (fun ht9=>?_)
  ·refine Z4 ?_
   refine A3 (fun ht9=>?_) (fun ht9=>?_)
   ·exact Z77
   refine X7 ?_
   refine A3 (fun ht18=>?_) (fun ht18=>?_)
   ·exact Z77
   exact Xb
  refine cn ?_
  refine A3 (fun ht9=>?_) (fun ht9=>?_)
  ·refine Z4 ?_
   refine A3 (fun ht9=>?_) (fun ht9=>?_)
   ·exact Z77
   refine X7 ?_
   refine A3 (fun ht18=>?_) (fun ht18=>?_)
   ·exact Z77
   exact Xb
  refine Z31 ?_;refine A2 [2,3,9] ?_;refine Er ?_
  refine A3 (fun ht9=>?_) (fun ht9=>?_)
  ·exact Z77
  refine X7 ?_
  refine A3 (fun ht18=>?_) (fun ht18=>?_)
  ·exact Z77
  exact Xb
 refine Z31 ?_;refine Yx ?_;refine Er ?_
 refine A3 (fun ht4=>?_) (fun ht4=>?_)
 ·exact Z77
 refine Z8 ?_;refine A2 [2,3,9] ?_
 refine A3 (fun ht9=>?_) (fun ht9=>?_)
 ·refine Z4 ?_
  refine A3 (fun ht9=>?_) (fun ht9=>?_)
  ·exact Z77
  refine X7 ?_
  refine A3 (fun ht18=>?_) (fun ht18=>?_)
  ·exact Z77
  exact Xb
 refine cn ?_
 refine A3 (fun ht9=>?_) (fun ht9=>?_)
 ·refine Z4 ?_
  refine A3 (fun ht9=>?_) (fun ht9=>?_)
  ·exact Z77
  refine X7 ?_
  refine A3 (fun ht18=>?_) (fun ht18=>?_)
  ·exact Z77
  exact Xb
 refine cn ?_
 refine A3 (fun ht9=>?_) (fun ht9=>?_)
 ·refine Z4 ?_
  refine A3 (fun ht9=>?_) (fun ht9=>?_)
  ·exact Z77
  refine X7 ?_
  refine A3 (fun ht18=>?_) (fun ht18=>?_)
  ·exact Z77
  exact Xb
 refine cn ?_
 refine A3 (fun ht9=>?_) (fun ht9=>?_)
 ·refine Z4 ?_
  refine A3 (fun ht9=>?_) (fun ht9=>?_)
  ·exact Z77
  refine X7 ?_
  refine A3 (fun ht18=>?_) (fun ht18=>?_)
  ·exact Z77
  exact Xb
 refine cn ?_
 refine A3 (fun ht9=>?_) (fun ht9=>?_)
 ·refine Z4 ?_
  refine A3 (fun ht9=>?_) (fun ht9=>?_)
  ·exact Z77
  refine X7 ?_
  refine A3 (fun ht18=>?_) (fun ht18=>?_)
  ·exact Z77
  exact Xb
 refine Z31 ?_;refine A2 [2,3,9] ?_;refine Er ?_
 refine A3 (fun ht9=>?_) (fun ht9=>?_)
 ·exact Z77
 refine X7 ?_
 refine A3 (fun ht18=>?_) (fun ht18=>?_)
 ·exact Z77
 exact Xb

theorem AUp (s:Str) (Hp:List AObj):AFun Tryz.prog 218 [Ae s] Hp (bb (Dx s)):=by
 refine Ag [.cell 2 187] [0] Tryz.func218 Tryz.ntmps218 (fun d=>?_)
 refine Z67 ?_;refine Z29 ?_;refine Ja ?_;refine Mi ?_;refine Z8 ?_;refine Yx ?_
 refine A3 (fun ht4=>?_) (fun ht4=>?_)
 ·refine Z4 ?_
  refine A3 (fun ht4=>?_) (fun ht4=>?_)
  ·exact Ra
  refine cn ?_
  refine A3 (fun ht9=>?_) (fun ht9=>?_)
  ·exact Ra
  refine Z8 ?_;refine A2 [2,3,13] ?_
  refine A3 (fun ht13=>?_) (fun ht13=>?_)
  ·refine Z4 ?_
   refine A3 (fun ht13=>?_) (fun ht13=>?_)
   ·exact Ra
   refine AHi ?_
   refine A3 (fun ht18=>?_) (fun ht18=>?_)
   ·exact Ra
   refine Z1 ?_;refine A2 [2,22] ?_
   refine A3 (fun ht22=>?_) (fun ht22=>?_)
   ·exact Ra
   exact AHm
  refine Z31 ?_;refine A2 [2,3,13] ?_;refine Er ?_
  refine A3 (fun ht13=>?_) (fun ht13=>?_)
  ·exact Ra
  refine AHi ?_
  refine A3 (fun ht18=>?_) (fun ht18=>?_)
  ·exact Ra
  refine Z1 ?_;refine A2 [2,22] ?_
  refine A3 (fun ht22=>?_) (fun ht22=>?_)
  ·exact Ra
  exact AHm
 refine Z31 ?_;refine Yx ?_;refine Er ?_
 refine A3 (fun ht4=>?_) (fun ht4=>?_)
 ·exact Ra
 refine cn ?_
 refine A3 (fun ht9=>?_) (fun ht9=>?_)
 ·exact Ra
 refine Z8 ?_;refine A2 [2,3,13] ?_
 refine A3 (fun ht13=>?_) (fun ht13=>?_)
 ·refine Z4 ?_
  refine A3 (fun ht13=>?_) (fun ht13=>?_)
  ·exact Ra
  refine AHi ?_
  refine A3 (fun ht18=>?_) (fun ht18=>?_)
  ·exact Ra
  refine Z1 ?_;refine A2 [2,22] ?_
  refine A3 (fun ht22=>?_) (fun ht22=>?_)
  ·exact Ra
  exact AHm
 refine Z31 ?_;refine A2 [2,3,13] ?_;refine Er ?_
 refine A3 (fun ht13=>?_) (fun ht13=>?_)
 ·exact Ra
 refine AHi ?_
 refine A3 (fun ht18=>?_) (fun ht18=>?_)
 ·exact Ra
 refine Z1 ?_;refine A2 [2,22] ?_
 refine A3 (fun ht22=>?_) (fun ht22=>?_)
 ·exact Ra
 exact AHm

theorem AUq (e:Expr) (Hp:List AObj):AFun Tryz.prog 188 [Ab e] Hp (bb (Js e.op e.text)):=by
 refine Ag [.cell 2 187] [0] Tryz.func188 Tryz.ntmps188 (fun d=>?_)
 refine Z2 ?_;refine Mj ?_;refine A2 [1,2] ?_;refine Z8 ?_;refine A2 [1,2,4] ?_;refine Z99 ?_;refine A2 [1,2,4,5] ?_
 refine A3 (fun ht5=>?_) (fun ht5=>?_)
 ·refine Z43 ?_;exact ALj
 refine Z1 ?_;refine A2 [1,2,4,9] ?_
 refine A3 (fun ht9=>?_) (fun ht9=>?_)
 ·refine Z43 ?_;exact ALj
 refine Z1 ?_;refine A2 [1,2,13] ?_
 refine A3 (fun ht13=>?_) (fun ht13=>?_)
 ·refine Z1 ?_;refine A8 Tryz.call217 (AUo e.text _) ?_;refine Z16 ?_;exact ALj
 refine j9 ?_;refine A8 Tryz.call218 (AUp e.text _) ?_;refine Z16 ?_;exact AQp

theorem AS1 (a b:Int) (Hp:List AObj):AFun Tryz.prog 219 [A5 a,A5 b] Hp (.tup [A5 (Gj a b).1,B3 (Gj a b).2]):=by
 refine Ag [.tmp 4,.tmp 5] [0,1] Tryz.func219 Tryz.ntmps219 (fun d=>?_)
 refine lv ?_;refine mc ?_;refine A2 [0,1,6] ?_
 refine A3 (fun ht6=>?_) (fun ht6=>?_)
 ·refine Z19 ?_;exact AP9
 refine Z19 ?_;refine Rb ?_;refine A2 [0,10] ?_
 refine A3 (fun ht10=>?_) (fun ht10=>?_)
 ·refine Z19 ?_;exact AP9
 refine j9 ?_;refine Z78 ?_;exact AQq

structure FitAt (s:Sign) (ks:List Int) (x:Nat×Int):Prop where
 le:x.1≤ks.length
 eq:Hi s.kids ks 0=Hi (s.kids.drop x.1) (ks.drop x.1) x.2
theorem FitAt.step {s:Sign} {ks:List Int} {x:Nat×Int} (h:FitAt s ks x) (hk:x.1<ks.length) (hs:x.1<s.kids.length):Hi s.kids ks 0=(if s.kids[x.1] == -2 then Hi (s.kids.drop (x.1+1)) (ks.drop (x.1+1)) x.2 else if s.kids[x.1] == -1 then (if (Gj x.2 ks[x.1]).2 then Hi (s.kids.drop (x.1+1)) (ks.drop (x.1+1)) (Gj x.2 ks[x.1]).1 else none) else if (Gj s.kids[x.1] ks[x.1]).2 then Hi (s.kids.drop (x.1+1)) (ks.drop (x.1+1)) x.2 else none):=by
 rw [h.eq,Hd hk,Hd hs,Hi]
theorem FitAt.skip {s:Sign} {ks:List Int} {x:Nat×Int} (h:FitAt s ks x) (hk:x.1<ks.length) (hs:x.1<s.kids.length) (h2:(s.kids[x.1] == -2)=true):FitAt s ks (x.1+1,x.2):=⟨hk,by rw [h.step hk hs,if_pos h2]⟩
theorem FitAt.same {s:Sign} {ks:List Int} {x:Nat×Int} (h:FitAt s ks x) (hk:x.1<ks.length) (hs:x.1<s.kids.length) (h2:(s.kids[x.1] == -2)=false) (h1:(s.kids[x.1] == -1)=true) (hm:(Gj x.2 ks[x.1]).2=true):FitAt s ks (x.1+1,(Gj x.2 ks[x.1]).1):=⟨hk,by rw [h.step hk hs,if_neg (by rw [h2];simp),if_pos h1,if_pos hm]⟩
theorem FitAt.want {s:Sign} {ks:List Int} {x:Nat×Int} (h:FitAt s ks x) (hk:x.1<ks.length) (hs:x.1<s.kids.length) (h2:(s.kids[x.1] == -2)=false) (h1:(s.kids[x.1] == -1)=false) (hm:(Gj s.kids[x.1] ks[x.1]).2=true):FitAt s ks (x.1+1,x.2):=⟨hk,by rw [h.step hk hs,if_neg (by rw [h2];simp),if_neg (by rw [h1];simp),if_pos hm]⟩
theorem FitAt.bad {s:Sign} {ks:List Int} {x:Nat×Int} (h:FitAt s ks x) (hk:x.1<ks.length) (hs:x.1<s.kids.length) (h2:(s.kids[x.1] == -2)=false) (hm:(if s.kids[x.1] == -1 then (Gj x.2 ks[x.1]).2 else (Gj s.kids[x.1] ks[x.1]).2)=false):L6 s ks=(0,10):=by
 unfold L6
 rw [h.step hk hs,if_neg (by rw [h2];simp)]
 split at hm
 ·rename_i h1
  rw [if_pos h1,if_neg (by rw [hm];simp)]
 rename_i h1
 rw [if_neg h1,if_neg (by rw [hm];simp)]
theorem FitAt.out {s:Sign} {ks:List Int} {x:Nat×Int} (h:FitAt s ks x) (hk:ks.length≤x.1):L6 s ks=if s.own == -1 then (x.2,0) else (s.own,0):=by
 unfold L6
 rw [h.eq,Uv hk]
 cases s.kids.drop x.1<;>rfl
theorem AUr (s:Sign) (ks:List Int) (hks:ks.length≤s.kids.length) (hk2:ks.length≤1048576) (Hp:List AObj):AFun Tryz.prog 189 [bb s,.slice false 1 (ks.map A5)] Hp (.tup [A5 (L6 s ks).1,A5 (L6 s ks).2]):=by
 refine Ag [.tmp 4,.tmp 5] [0,1] Tryz.func189 Tryz.ntmps189 (fun d=>?_)
 refine ADi ?_;refine Eb ?_;refine Z20 ?_;refine A2 [1,2,6] ?_;refine Z33 ?_;refine ze ?_
 refine Az (α:=Nat×Int) (fun x=>⟨49,A6 2 (.ro [.slice false 1 (s.kids.map A5),A5 s.own]) (A6 6 (.ptr (oid Hp.length 0) 0) (A6 13 (.slice false 1 (ks.map A5)) (A6 14 (A5 (ks.length:Nat)) (A6 15 (A5 (x.1:Nat)) (fun _=>.any))))),Hp,[.cells 3 [A5 x.2]],[],none⟩) (fun x=>FitAt s ks x) (fun x=>ks.length-x.1) ((0,0)) ⟨An _,rfl⟩ (B5 (by simp)) rfl (fun x hx=>?_)
 refine Z2 ?_;refine A2 [2,6,13,14,15,16] ?_
 refine Ei (fun ht16=>?_) (fun ht16=>?_)
 ·have hlt:x.1<ks.length:=by simpa using ht16
  have hls:x.1<s.kids.length:=by omega
  refine Ts ?_
  refine A4 (h:=Ac (x.1) (A5 ks[x.1]) (fun _=>Aw hlt)) (hr:=?_)
  refine Z10 ?_;refine A2 [2,6,7,8,13,14,15] ?_;refine Z19 ?_
  refine A4 (h:=Ac (x.1) (A5 s.kids[x.1]) (fun _=>Aw hls)) (hr:=?_)
  refine Xc ?_;refine A2 [2,6,8,9,13,14,15] ?_;refine Z8 ?_;refine A2 [2,6,8,9,13,14,15,26] ?_
  refine A3 (fun ht26=>?_) (fun ht26=>?_)
  ·refine Hy [2,6,13,14,15] ?_;refine Z32 ?_;refine K.blE ?_;refine Er ?_;refine Z31 ?_;refine ze ?_
   first|(refine Ay (x.1+1,x.2) (hx.skip hlt hls ht26) (by show ks.length-(x.1+1)<ks.length-x.1;omega) ?_;exact Dp (own:=[.cells 3 [A5 x.2]]) (fun _=>.refl _) (by repeat (first|exact Bq|refine Bp (by first|(simp [or_imp,forall_and];done)|(simp [oid]<;>omega)) ?_)) (by intro y hy;rw [Br.1 hy];intro z hz;rw [Br.1 hz];simp) (by simp))|(refine Ay (x.1+1,(Gj x.2 ks[x.1]).1) (hx.same hlt hls ht26 ht28 (by simpa using ht38)) (by show ks.length-(x.1+1)<ks.length-x.1;omega) ?_;exact Dp (own:=[.cells 3 [A5 (Gj x.2 ks[x.1]).1]]) (fun _=>.refl _) (by repeat (first|exact Bq|refine Bp (by first|(simp [or_imp,forall_and];done)|(simp [oid]<;>omega)) ?_)) (by intro y hy;rw [Br.1 hy];intro z hz;rw [Br.1 hz];simp) (by simp))|(refine Ay (x.1+1,x.2) (hx.want hlt hls ht26 ht28 (by simpa using ht38)) (by show ks.length-(x.1+1)<ks.length-x.1;omega) ?_;exact Dp (own:=[.cells 3 [A5 x.2]]) (fun _=>.refl _) (by repeat (first|exact Bq|refine Bp (by first|(simp [or_imp,forall_and];done)|(simp [oid]<;>omega)) ?_)) (by intro y hy;rw [Br.1 hy];intro z hz;rw [Br.1 hz];simp) (by simp))
  refine Z93 ?_;refine A2 [2,6,8,9,10,13,14,15] ?_;refine Z8 ?_;refine A2 [2,6,8,10,13,14,15,28] ?_
  refine A3 (fun ht28=>?_) (fun ht28=>?_)
  ·refine Z51 ?_;refine A2 [2,6,8,10,13,14,15] ?_;refine Er ?_;refine Z25 ?_;refine A8 Tryz.call219 (AS1 _ _ _) ?_;refine Z59 ?_;refine A2 [2,6,10,11,12,13,14,15] ?_;refine Z8 ?_;refine A2 [2,6,10,11,13,14,15,38] ?_
   refine A3 (fun ht38=>?_) (fun ht38=>?_)
   ·have hbad:=hx.bad hlt hls ht26 (by first|(rw [if_pos ht28];simpa using ht38)|(rw [if_neg (by rw [ht28];simp)];simpa using ht38))
    refine z6 ?_;exact APi
   refine Z4 ?_;refine Z23 ?_;refine Gd ?_;refine ze ?_;refine j6 ?_;refine ze ?_
   first|(refine Ay (x.1+1,x.2) (hx.skip hlt hls ht26) (by show ks.length-(x.1+1)<ks.length-x.1;omega) ?_;exact Dp (own:=[.cells 3 [A5 x.2]]) (fun _=>.refl _) (by repeat (first|exact Bq|refine Bp (by first|(simp [or_imp,forall_and];done)|(simp [oid]<;>omega)) ?_)) (by intro y hy;rw [Br.1 hy];intro z hz;rw [Br.1 hz];simp) (by simp))|(refine Ay (x.1+1,(Gj x.2 ks[x.1]).1) (hx.same hlt hls ht26 ht28 (by simpa using ht38)) (by show ks.length-(x.1+1)<ks.length-x.1;omega) ?_;exact Dp (own:=[.cells 3 [A5 (Gj x.2 ks[x.1]).1]]) (fun _=>.refl _) (by repeat (first|exact Bq|refine Bp (by first|(simp [or_imp,forall_and];done)|(simp [oid]<;>omega)) ?_)) (by intro y hy;rw [Br.1 hy];intro z hz;rw [Br.1 hz];simp) (by simp))|(refine Ay (x.1+1,x.2) (hx.want hlt hls ht26 ht28 (by simpa using ht38)) (by show ks.length-(x.1+1)<ks.length-x.1;omega) ?_;exact Dp (own:=[.cells 3 [A5 x.2]]) (fun _=>.refl _) (by repeat (first|exact Bq|refine Bp (by first|(simp [or_imp,forall_and];done)|(simp [oid]<;>omega)) ?_)) (by intro y hy;rw [Br.1 hy];intro z hz;rw [Br.1 hz];simp) (by simp))
  refine Yv ?_;refine A8 Tryz.call219 (AS1 _ _ _) ?_;refine Z59 ?_;refine A2 [2,6,10,11,12,13,14,15] ?_;refine Z8 ?_;refine A2 [2,6,10,11,13,14,15,38] ?_
  refine A3 (fun ht38=>?_) (fun ht38=>?_)
  ·have hbad:=hx.bad hlt hls ht26 (by first|(rw [if_pos ht28];simpa using ht38)|(rw [if_neg (by rw [ht28];simp)];simpa using ht38))
   refine z6 ?_;exact APi
  refine Z4 ?_;refine Z23 ?_;refine Gd ?_;refine ze ?_;refine j6 ?_;refine ze ?_
  first|(refine Ay (x.1+1,x.2) (hx.skip hlt hls ht26) (by show ks.length-(x.1+1)<ks.length-x.1;omega) ?_;exact Dp (own:=[.cells 3 [A5 x.2]]) (fun _=>.refl _) (by repeat (first|exact Bq|refine Bp (by first|(simp [or_imp,forall_and];done)|(simp [oid]<;>omega)) ?_)) (by intro y hy;rw [Br.1 hy];intro z hz;rw [Br.1 hz];simp) (by simp))|(refine Ay (x.1+1,(Gj x.2 ks[x.1]).1) (hx.same hlt hls ht26 ht28 (by simpa using ht38)) (by show ks.length-(x.1+1)<ks.length-x.1;omega) ?_;exact Dp (own:=[.cells 3 [A5 (Gj x.2 ks[x.1]).1]]) (fun _=>.refl _) (by repeat (first|exact Bq|refine Bp (by first|(simp [or_imp,forall_and];done)|(simp [oid]<;>omega)) ?_)) (by intro y hy;rw [Br.1 hy];intro z hz;rw [Br.1 hz];simp) (by simp))|(refine Ay (x.1+1,x.2) (hx.want hlt hls ht26 ht28 (by simpa using ht38)) (by show ks.length-(x.1+1)<ks.length-x.1;omega) ?_;exact Dp (own:=[.cells 3 [A5 x.2]]) (fun _=>.refl _) (by repeat (first|exact Bq|refine Bp (by first|(simp [or_imp,forall_and];done)|(simp [oid]<;>omega)) ?_)) (by intro y hy;rw [Br.1 hy];intro z hz;rw [Br.1 hz];simp) (by simp))
 have hxe:ks.length≤x.1:=by simpa using ht16
 have hout:=hx.out hxe
 refine Z26 ?_;refine Z33 ?_;refine A2 [2,6,45] ?_
 refine A3 (fun ht45=>?_) (fun ht45=>?_)
 ·refine Z19 ?_;refine Z86 ?_;exact A9 (B1 A7 A7) ⟨by rw [hout,if_pos ht45],rfl⟩
 refine Yv ?_;refine Z78 ?_;exact A9 (B1 A7 A7) ⟨by rw [hout,if_neg (by rw [ht45];simp)],rfl⟩

theorem AFx {n k:Nat} {own:Bool} {l:List Int}:Low n (.slice own k (l.map A5)):=low_slice.2 fun y hy=>by
 obtain ⟨z,_,rfl⟩:=D5.1 hy
 simp
theorem wz {n:Nat} {e:Expr}:Low n (.ro (Dy e)):=by have:=B7 n e;rw [Ax] at this;simpa using this
theorem Jl {c:List Col} {t:Str} (h:¬(Bn t c<0)):∃(j:Nat),Bn t c=(j:Int)∧j<c.length:=by
 obtain ⟨j,y,h2,_,h3⟩:=find_mem.1 h
 exact ⟨j,h3,(Ad.1 h2).1⟩
theorem od {c:List Col} {e:Expr} (h:(e.op==1)=true):Bs c e=(e.val.kind,0):=by rw [U5];unfold Rq;rw [if_pos h]
theorem fk {c:List Col} {e:Expr} (h1:(e.op==1)=false) (h:(e.op==2)=true):Bs c e=Rp c e.text:=by rw [U5];unfold Rq;rw [h1,if_pos h];rfl
theorem oe {c:List Col} {e:Expr} (h1:(e.op==1)=false) (h2:(e.op==2)=false) {x:Nat} (hx:x<e.kids.length) (h0:∀(j:Nat) (y:Expr),j<x→e.kids[j]? = some y→((Bs c y).2 != 0)=false) (hb:((Bs c e.kids[x]).2 != 0)=true):Bs c e=(0,(Bs c e.kids[x]).2):=by
 rw [U5]
 unfold Rq
 rw [h1,h2]
 have:(e.kids.map (Bs c)).find? (fun q=>q.2 != 0)=some ((e.kids.map (Bs c))[x]'(by simpa using hx)):=jd (by simpa using hx) (by simpa using hb) (fun j y hj hy=>by
  rw [Ce,Eo] at hy
  obtain ⟨z,hz,rfl⟩:=hy
  exact h0 j z hj hz)
 rw [this]
 simp
theorem og {c:List Col} {e:Expr} (h1:(e.op==1)=false) (h2:(e.op==2)=false) (h0:∀(j:Nat) (y:Expr),j<e.kids.length→e.kids[j]? = some y→((Bs c y).2 != 0)=false):Bs c e=L6 (Js e.op e.text) (e.kids.map fun y=>(Bs c y).1):=by
 rw [U5]
 unfold Rq
 rw [h1,h2]
 have:(e.kids.map (Bs c)).find? (fun q=>q.2 != 0)=none:=Va (fun j y hy=>by
  rw [Ce,Eo] at hy
  obtain ⟨z,hz,rfl⟩:=hy
  exact h0 j z (Ad.1 hz).1 hz)
 rw [this]
 simp only [Io]
 rfl
theorem fl (f:Expr→Int) (l:List Expr) {x:Nat} (h:x<l.length):((l.take x).map f).map A5++[A5 (f l[x])]=((l.take (x+1)).map f).map A5:=by rw [Ip h,C5,C5];rfl
theorem AUs (c:List Col) (hc:OkCols c):∀(n:Nat) (e:Expr),okE n e→Es E8 e=true→∀Hp:List AObj,AFun Tryz.prog 168 [Ab e,Ao c] Hp (.tup [A5 (Bs c e).1,A5 (Bs c e).2]):=by
 intro n
 induction n with
 | zero=>exact fun e h=>h.elim
 | succ n ih =>
 intro e hok hnd Hp
 have hnd0:=hnd
 rw [Jj,As] at hnd0
 refine Ag [.tmp 4,.tmp 5] [0,1] Tryz.func168 Tryz.ntmps168 (fun d=>?_)
 refine ADi ?_;refine Z8 ?_;refine A2 [1,2,13] ?_;refine Z99 ?_;refine A2 [1,2,13,14] ?_
 refine A3 (fun ht14=>?_) (fun ht14=>?_)
 ·have hk:=od (c:=c) ht14
  refine Z1 ?_;refine Z10 ?_;refine Z76 ?_;exact AMf
 refine Z1 ?_;refine A2 [1,2,19] ?_
 refine A3 (fun ht19=>?_) (fun ht19=>?_)
 ·have hk:=fk (c:=c) ht14 ht19
  refine Z19 ?_;refine A8 Tryz.call46 (c46 c hc e.text _) ?_;refine A4 ?_;refine A2 [1,6] ?_;refine Z8 ?_;refine A2 [1,6,26] ?_
  refine A3 (fun ht26=>?_) (fun ht26=>?_)
  ·have hk2:Rp c e.text=(0,9):=if_pos (by simpa using ht26)
   refine z6 ?_;refine Z6 ?_;exact AHw
  have hneg:¬(Bn e.text c<0):=by simpa using ht26
  obtain ⟨j,hj,hjl⟩:=Jl hneg
  have hk2:Rp c e.text=(c[j].kind,0):=by
   unfold Rp
   rw [if_neg hneg,hj,Int.toNat_natCast,D3,Aa hjl]
   rfl
  rw [hj]
  refine Lq ?_
  refine A4 (h:=Ac (j) (Bj c[j]) (fun _=>Aw hjl)) (hr:=?_)
  refine Z72 ?_;refine Z76 ?_;exact AHw
 refine Z17 ?_;refine Z2 ?_;refine A2 [1,2,7] ?_;refine Z75 ?_;refine Sa 7 1 ?_;refine Z72 ?_;refine A2 [1,2,7,33,34,35] ?_
 refine Az (α:=Nat) (fun x=>⟨59,A6 1 (Ao c) (A6 2 (.ro (Dy e)) (A6 7 (.slice true 1 (((e.kids.take x).map fun y=>(Bs c y).1).map A5)) (A6 33 (.slice false 6 (e.kids.map Ab)) (A6 34 (A5 (e.kids.length:Nat)) (A6 35 (A5 (x:Nat)) (fun _=>.any)))))),Hp,[],[],none⟩) (fun x=>x≤e.kids.length∧∀(j:Nat) (y:Expr),j<x→e.kids[j]? = some y→((Bs c y).2 != 0)=false) (fun x=>e.kids.length-x) (0) ⟨An _,fun j y h=>by omega⟩ (B5 (by simp)) rfl (fun x hx=>?_)
 refine Z2 ?_;refine A2 [1,2,7,33,34,35,36] ?_
 refine Ei (fun ht36=>?_) (fun ht36=>?_)
 ·have hlt:x<e.kids.length:=by simpa using ht36
  have hkl:=hok.2.1
  refine X9 ?_
  refine A4 (h:=Ac (x) (Ab e.kids[x]) (fun _=>Aw hlt)) (hr:=?_)
  refine Xc ?_;refine A2 [1,2,7,9,33,34,35] ?_;refine Z1 ?_;refine A8 Tryz.call168 (ih e.kids[x] (hok.2.2 _ (Av hlt)) ((F3 _ _).1 hnd0.2 _ (Av hlt)) _) ?_;refine Z59 ?_;refine A2 [1,2,7,10,11,33,34,35] ?_;refine Z8 ?_;refine A2 [1,2,7,10,11,33,34,35,46] ?_
  refine A3 (fun ht46=>?_) (fun ht46=>?_)
  ·have hkb:=oe (c:=c) ht14 ht19 hlt hx.2 ht46
   refine Z19 ?_;refine Z86 ?_;exact APm
  refine za ?_
  refine Ed jU Tryz.type3 ?_ ?_ ?_
  ·simp only [Am,Bx,B6,Bw,Tryz.t3];omega
  ·simp only [Am,Bx,B6,Bw,Tryz.t3];omega
  refine Lr ?_;refine A2 [1,2,7,33,34,35] ?_;refine j6 ?_;refine A2 [1,2,7,33,34,35] ?_;refine Ay (x+1) ⟨hlt,C1 hlt hx.2 ht46⟩ (by omega) ?_
  simp only [show Tryz.t3.size=1 from rfl,fl]
  exact Dp (own:=[]) (fun _=>.refl _) (by repeat (first|exact Bq|refine Bp (by first|exact AFx|exact wz|exact Fx|(simp [or_imp,forall_and];done)) ?_)) (by simp) (by simp)
 have hxe:e.kids.take x=e.kids:=D8 (by simp at ht36;omega)
 have hxl:e.kids.length≤x:=by simp at ht36;omega
 have hka:=og (c:=c) ht14 ht19 (fun j y hj hy=>hx.2 j y (by omega) hy)
 rw [hxe]
 refine Tt ?_;refine A8 Tryz.call188 (AUq e _) ?_;refine A4 ?_
 refine A8 Tryz.call189 (AUr (Js e.op e.text) (e.kids.map fun y=>(Bs c y).1) (by rw [Ny hnd0.1 ht14 ht19];simp) (by simpa using hok.2.1) _) ?_
 refine Z72 ?_;refine Z78 ?_;exact A9 (B1 A7 A7) ⟨by rw [hka],rfl⟩

theorem Kx {e:Expr} (h:Bk e=true):Es E8 e=true:=by
 rw [G6] at h
 unfold Ea at h
 rw [As] at h
 exact h.2
theorem AS2 (n:Nat) (e:Expr) (hok:okE n e) (hn:n≤1048576) (c:List Col) (hc:OkCols c) (Hp:List AObj):AFun Tryz.prog 141 [Ab e,Ao c] Hp (.tup [A5 (Et e c).1,A5 (Et e c).2]):=by
 refine Ag [.tmp 4,.tmp 5] [0,1] Tryz.func141 Tryz.ntmps141 (fun d=>?_)
 refine ADi ?_;refine Z29 ?_;refine A8 Tryz.call59 (c59 n e hok hn _) ?_;refine P8 ?_;refine Bm Tryz.call34 (fun hB=>c34 c hc _) ?_;refine Z74 ?_;refine A2 [1,2,13] ?_
 refine A3 (fun ht13=>?_) (fun ht13=>?_)
 ·have hk:Et e c=(0,1):=if_pos ht13
  refine Z1 ?_;exact AM0
 have hk:Et e c=Bs c e:=if_neg (by rw [ht13];simp)
 have hr:Bk e=true:=by simp only [Cr,Jv] at ht13;exact ht13.1
 refine Lq ?_;refine A8 Tryz.call168 (AUs c hc n e hok (Kx hr) _) ?_;refine Z72 ?_;exact APv

/-- The first fault of those that were asked. -/
structure AllAt (f:Expr→Rs) (k:List Expr) (x:Nat):Prop where
 le:x≤k.length
 ok:∀(j:Nat) (y:Expr),j<x→k[j]? = some y→((f y).2 != 0)=false
theorem AllAt.bad {f:Expr→Rs} {k:List Expr} {x:Nat} (h:AllAt f k x) (hx:x<k.length) (hb:((f k[x]).2 != 0)=true) (g:List Val→Rs):I9 g (k.map f)=Cz (f k[x]).2:=by
 unfold I9
 have:(k.map f).find? (fun q=>q.2 != 0)=some ((k.map f)[x]'(by simpa using hx)):=jd (by simpa using hx) (by simpa using hb) (fun j y hj hy=>by
  rw [Ce,Eo] at hy
  obtain ⟨z,hz,rfl⟩:=hy
  exact h.ok j z hj hz)
 rw [this]
 simp
theorem AllAt.all {f:Expr→Rs} {k:List Expr} {x:Nat} (h:AllAt f k x) (hx:k.length≤x) (g:List Val→Rs):I9 g (k.map f)=if (k.take x).any (fun y=>(f y).1.kind==0) then (noV,0) else g ((k.take x).map fun y=>(f y).1):=by
 unfold I9
 have:(k.map f).find? (fun q=>q.2 != 0)=none:=Va (fun j y hy=>by
  rw [Ce,Eo] at hy
  obtain ⟨z,hz,rfl⟩:=hy
  exact h.ok j z (by have:=(Ad.1 hz).1;omega) hz)
 rw [this,D8 hx]
 simp only [List.any_map,Io]
 rfl
theorem AllAt.next {f:Expr→Rs} {k:List Expr} {x:Nat} (h:AllAt f k x) (hx:x<k.length) (hb:((f k[x]).2 != 0)=false):AllAt f k (x+1):=⟨hx,C1 hx h.ok hb⟩
theorem AFy (f:Expr→Bool) (k:List Expr) {x:Nat} (h:x<k.length):(k.take (x+1)).any f=((k.take x).any f || f k[x]):=by rw [Ip h,List.any_append];simp
theorem AAz (f:Expr→Val) (l:List Expr) {x:Nat} (h:x<l.length):((l.take x).map f).map Bi++[Bi (f l[x])]=((l.take (x+1)).map f).map Bi:=by rw [Ip h,C5,C5];rfl
theorem oh {n k:Nat} {own:Bool} {l:List Val}:Low n (.slice own k (l.map Bi)):=low_slice.2 fun y hy=>by
 obtain ⟨z,_,rfl⟩:=D5.1 hy
 simp [or_imp,forall_and]
theorem AUt (c:List Col) (l:List Val) (e:Expr) (hk:e.kids.length≤1048576) (hev:∀y∈e.kids,Lv c l y (Al c l y)) (hargs:((∀y∈e.kids,(Al c l y).2=0)→ArgsOk e.op (e.kids.map fun y=>(Al c l y).1))) (Hp:List AObj):AFun Tryz.prog 147 [ay c l,Ab e] Hp (Q6 (I9 (B0 e.op e.text) (e.kids.map (Al c l)))):=by
 refine Ag [.cell 4 42,.tmp 5] [0,1] Tryz.func147 Tryz.ntmps147 (fun d=>?_)
 refine Z1 ?_;refine AHp ?_;refine Z2 ?_;refine A2 [2,3,4,6] ?_;refine Eb ?_;refine Sa 6 3 ?_;refine A4 ?_;refine A2 [2,3,4,6,7] ?_;refine Z54 ?_;refine A2 [2,3,4,6,7,13,14,15] ?_
 refine Az (α:=Nat) (fun x=>⟨49,A6 2 (.ro [Ao c,Bt l]) (A6 3 (.ro (Dy e)) (A6 4 (.ptr (oid Hp.length 0) 0) (A6 6 (.slice true 3 (((e.kids.take x).map fun y=>(Al c l y).1).map Bi)) (A6 7 (B3 ((e.kids.take x).any fun y=>(Al c l y).1.kind==0)) (A6 13 (.slice false 6 (e.kids.map Ab)) (A6 14 (A5 (e.kids.length:Nat)) (A6 15 (A5 (x:Nat)) (fun _=>.any)))))))),Hp,[.cells 42 [A5 0,A5 0,Ae []]],[],none⟩) (fun x=>AllAt (Al c l) e.kids x) (fun x=>e.kids.length-x) (0) ⟨An _,fun j y h=>by omega⟩ (B5 (by simp)) rfl (fun x hx=>?_)
 refine Z2 ?_;refine A2 [2,3,4,6,7,13,14,15,16] ?_
 refine Ei (fun ht16=>?_) (fun ht16=>?_)
 ·have hlt:x<e.kids.length:=by simpa using ht16
  refine X9 ?_
  refine A4 (h:=Ac (x) (Ab e.kids[x]) (fun _=>Aw hlt)) (hr:=?_)
  refine Xc ?_;refine A2 [2,3,4,6,7,9,13,14,15] ?_;refine Z1 ?_;refine A8 Tryz.call105 (hev _ (Av hlt) _) ?_;refine Yu ?_;refine A2 [2,3,4,6,7,10,11,13,14,15] ?_;refine Z8 ?_;refine A2 [2,3,4,6,7,10,11,13,14,15,26] ?_
  refine A3 (fun ht26=>?_) (fun ht26=>?_)
  ·have hm:=hx.bad hlt ht26 (B0 e.op e.text)
   refine Z2 ?_;refine Z63 ?_;refine Z41 ?_;refine Z13 ?_;refine Z73 ?_;exact zf
  refine Lq ?_;refine Rb ?_;refine A2 [2,3,4,6,7,10,13,14,15] ?_;refine Z92 ?_;refine Z53 ?_
  refine Ed jU Tryz.type42 ?_ ?_ ?_
  ·simp only [Am,Bx,B6,Bw,Tryz.t42];omega
  ·simp only [Am,Bx,B6,Bw,Tryz.t42];omega
  refine Lr ?_;refine A2 [2,3,4,6,7,13,14,15] ?_;refine j6 ?_;refine A2 [2,3,4,6,7,13,14,15] ?_;refine Ay (x+1) (hx.next hlt ht26) (by omega) ?_
  simp only [show Tryz.t42.size=3 from rfl,AFy _ _ hlt]
  have hvs:((e.kids.take x).map fun y=>(Al c l y).1).map Bi++[.agg [.v (.int .i64 (Al c l e.kids[x]).1.kind),.v (.int .i64 (Al c l e.kids[x]).1.n),.v (sv (Al c l e.kids[x]).1.s)]]=((e.kids.take (x+1)).map fun y=>(Al c l y).1).map Bi:=AAz _ _ hlt
  simp only [hvs]
  exact Dp (own:=[.cells 42 [A5 0,A5 0,Ae []]]) (fun _=>.refl _) (by repeat (first|exact Bq|refine Bp (by first|exact Fx|exact oh|exact wz|(simp [or_imp,forall_and,oid]<;>omega)) ?_)) (by intro y hy;rw [Br.1 hy];intro z hz;simp only [Bu,I3,or_false] at hz;rcases hz with rfl|rfl|rfl<;>simp) (by simp)
 have hxe:e.kids.length≤x:=by simpa using ht16
 have ha:=hx.all hxe (B0 e.op e.text)
 have htk:e.kids.take x=e.kids:=D8 hxe
 have h00:∀y∈e.kids,(Al c l y).2=0:=fun y hy=>by
  obtain ⟨j,hj⟩:=Cf hy
  have:=hx.ok j y (by have:=(Ad.1 hj).1;omega) hj
  simpa using this
 have hao:=hargs h00
 rw [←htk] at hao
 refine Z26 ?_;refine Z29 ?_;refine A2 [3,4,6,42] ?_
 refine A3 (fun ht42=>?_) (fun ht42=>?_)
 ·have hm:I9 (B0 e.op e.text) (e.kids.map (Al c l))=(noV,0):=by rw [ha,if_pos ht42]
  refine AMb ?_;exact yz
 have hm:I9 (B0 e.op e.text) (e.kids.map (Al c l))=B0 e.op e.text ((e.kids.take x).map fun y=>(Al c l y).1):=by rw [ha,if_neg (by rw [ht42];simp)]
 refine Lq ?_;refine A8 Tryz.call170 (AUm e _ hao _) ?_;refine Z0 ?_;exact rl

set_option maxRecDepth 8000
theorem AFz {x:Expr} {c:List Col} (h:(Et x c).2=0):Bk x=true∧H5 c=true∧Et x c=Bs c x:=by
 unfold Et at h ⊢
 split at h
 ·cases h
 rename_i h1
 rw [if_neg h1]
 simp only [Co,Jc,not_or,gm] at h1
 exact ⟨h1.1,by rw [←N6];exact h1.2,rfl⟩
set_option maxRecDepth 4000
theorem oi {a b:List Expr} (hl:a.length=b.length) (h:∀(j:Nat) (y z:Expr),j<a.length→a[j]? = some y→b[j]? = some z→eqE y z=true):eqL a b=true:=by
 rw [U1]
 refine de hl fun j y hj hy=>?_
 have hjb:j<b.length:=by omega
 have:=h j y b[j] hj hy (Aa hjb)
 rw [Aa hjb,(jn _ _).1 this]
theorem ANg {a b:List Expr} (h:eqL a b=true) {j:Nat} (hj:j<a.length) (hb:j<b.length):eqE a[j] b[j]=true:=by
 have e:=(U1 _ _).1 h
 subst e
 exact AEs _
theorem AG0 {a b:List Expr} {j:Nat} (hj:j<a.length) (hb:j<b.length) (h:eqE a[j] b[j]=false):eqL a b=false:=by
 rw [Ic]
 intro h2
 rw [ANg h2 hj hb] at h
 cases h
theorem x5 {a b:List Expr} (h:a.length≠b.length):eqL a b=false:=by
 rw [Ic]
 exact fun h2=>h (AIb h2)
theorem AL6 {a b:List Expr} {x:Nat} (hx:x<a.length) (hb:x<b.length) (h:∀(j:Nat) (y z:Expr),j<x→a[j]? = some y→b[j]? = some z→eqE y z=true) (he:eqE a[x] b[x]=true):∀(j:Nat) (y z:Expr),j<x+1→a[j]? = some y→b[j]? = some z→eqE y z=true:=by
 intro j y z hj h1 h2
 rcases Be j x with h3|h3
 ·exact h j y z h3 h1 h2
 have:j=x:=by omega
 subst this
 rw [Aa hx] at h1
 rw [Aa hb] at h2
 injection h1 with h1
 injection h2 with h2
 rw [←h1,←h2]
 exact he
def ol (x y:Expr):Bool:=((x.op==y.op)&&(x.text==y.text))&&((x.val.kind==y.val.kind&&x.val.n==y.val.n)&&x.val.s==y.val.s)
theorem jy (x y:Expr):eqE x y=(ol x y&&eqL x.kids y.kids):=AEr x y
theorem c77:∀(n:Nat) (x:Expr),okE n x→∀(y:Expr) (Hp:List AObj),AFun Tryz.prog 77 [Ab x,Ab y] Hp (B3 (eqE x y)):=by
 intro n
 induction n with
 | zero=>exact fun x h=>h.elim
 | succ n ih =>
 intro x hok y Hp
 refine Ag [.tmp 4] [0,1] Tryz.func77 Tryz.ntmps77 (fun d=>?_)
 refine yx ?_;refine Z54 ?_;refine Z38 ?_;refine V5 ?_;refine Z7 ?_
 refine Bd (h:=Q.neqAgg Tu (fun w=>Hm x.val.kind x.val.n y.val.kind y.val.n x.val.s y.val.s w)) (hr:=?_)
 refine ry ?_;refine Yt ?_;refine A2 [2,3,33] ?_
 refine A3 (fun ht33=>?_) (fun ht33=>?_)
 ·have hf:eqE x y=false:=by
   rw [jy]
   simp only [Co,bne_iff_ne,ne_eq,Am,Jc] at ht33
   by_cases hh:ol x y=true
   ·rw [hh,Dl]
    refine x5 ?_
    unfold ol at hh
    simp only [As,beq_iff_eq] at hh
    obtain ⟨⟨h1,h2⟩,⟨h3,h4⟩,h5⟩:=hh
    rcases ht33 with ((h|h)|h)|h
    ·exact absurd h1 h
    ·simp [h2] at h
    ·simp [h3,h4,h5] at h
    intro e;exact h (by rw [e])
   rw [Ur] at hh
   rw [hh,Ey]
  refine Z90 ?_;refine Z13 ?_;exact AMg
 have hh:ol x y=true∧x.kids.length=y.kids.length:=by
  simp only [Cr,bne_eq_false_iff_eq,Am,Jv] at ht33
  obtain ⟨⟨⟨h1,h2⟩,h3⟩,h4⟩:=ht33
  unfold ol
  refine ⟨?_,by omega⟩
  simp only [beq_iff_eq,As] at h1 h2 h3 ⊢
  exact ⟨⟨h1,h2⟩,h3⟩
 obtain ⟨hh,hlen⟩:=hh
 have hkl:=hok.2.1
 refine Se ?_;refine A2 [2,3,5] ?_
 refine Az (α:=Nat) (fun i=>⟨53,A6 2 (.ro (Dy x)) (A6 3 (.ro (Dy y)) (A6 5 (A5 (i:Nat)) (fun _=>.any))),Hp,[],[],none⟩) (fun i=>i≤x.kids.length∧∀(j:Nat) (a b:Expr),j<i→x.kids[j]? = some a→y.kids[j]? = some b→eqE a b=true) (fun i=>x.kids.length-i) (0) ⟨An _,fun j a b h=>by omega⟩ (F7 _) rfl (fun i hi=>?_)
 refine Oh ?_;refine A2 [2,3,5,38] ?_
 refine A3 (fun ht38=>?_) (fun ht38=>?_)
 ·have hlt:i<x.kids.length:=by simpa using ht38
  have hly:i<y.kids.length:=by omega
  refine Z42 ?_;refine Cb [0,1,0,7,15,0,32,0,224,480,1023,2047] 10 Ai (by kernel_rfl) ?_;refine Z40 ?_
  refine Ak (h:=Ac (i) (Ab x.kids[i]) (fun _=>Aw hlt)) (hr:=?_)
  refine Tr ?_
  refine Ak (h:=Ac (i) (Ab y.kids[i]) (fun _=>Aw hly)) (hr:=?_)
  refine Sd ?_;refine A8 Tryz.call77 (ih x.kids[i] (hok.2.2 _ (Av hlt)) y.kids[i] _) ?_;refine A4 ?_;refine A2 [2,3,5,52] ?_
  refine A3 (fun ht52=>?_) (fun ht52=>?_)
  ·have hf:eqE x y=false:=by rw [jy,AG0 hlt hly (by simpa using ht52),Bool.and_false]
   refine Z90 ?_;exact APx
  have he:eqE x.kids[i] y.kids[i]=true:=by simpa using ht52
  refine Z70 ?_;refine A2 [2,3,5] ?_;exact Ay (i+1) ⟨hlt,AL6 hlt hly hi.2 he⟩ (by omega) (Bh rfl)
 have hxe:x.kids.length≤i:=by simpa using ht38
 refine Xe ?_;refine Z39 ?_;exact A9 (Ah A7) ⟨by rw [jy,hh,oi hlen (fun j a b hj=>hi.2 j a b (by omega))];rfl,rfl⟩

theorem AUu (n:Nat) (a b:List Expr) (ha:a.length≤1048576) (hok:∀y∈a,okE n y) (ih:∀(x:Expr),okE n x→∀(y:Expr) (Hp:List AObj),AFun Tryz.prog 136 [Ab x,Ab y] Hp (B3 (eqE x y))) (Hp:List AObj):AFun Tryz.prog 166 [.slice false 6 (a.map Ab),.slice false 6 (b.map Ab),.fn (.func 136) [] []] Hp (B3 (eqL a b)):=by
 refine Ag [.tmp 6] [0,1,2] Tryz.func166 Tryz.ntmps166 (fun d=>?_)
 refine ADc ?_;refine Oh ?_;refine A2 [0,1,2,14] ?_
 refine A3 (fun ht14=>?_) (fun ht14=>?_)
 ·have hf:eqL a b=false:=x5 (by have:=ht14;simp at this;omega)
  refine Z2 ?_;refine j4 ?_;exact AMg
 have hlen:a.length=b.length:=by have:=ht14;simp at this;omega
 refine Nn ?_;refine A2 [1,2,15,16,17] ?_
 refine Az (α:=Nat) (fun i=>⟨32,A6 1 (.slice false 6 (b.map Ab)) (A6 2 (.fn (.func 136) [] []) (A6 15 (.slice false 6 (a.map Ab)) (A6 16 (A5 (a.length:Nat)) (A6 17 (A5 (i:Nat)) (fun _=>.any))))),Hp,[],[],none⟩) (fun i=>i≤a.length∧∀(j:Nat) (y z:Expr),j<i→a[j]? = some y→b[j]? = some z→eqE y z=true) (fun i=>a.length-i) (0) ⟨An _,fun j y z h=>by omega⟩ (B5 (by simp)) rfl (fun i hi=>?_)
 refine Z2 ?_;refine A2 [1,2,15,16,17,18] ?_
 refine Ei (fun ht18=>?_) (fun ht18=>?_)
 ·have hlt:i<a.length:=by simpa using ht18
  have hlb:i<b.length:=by omega
  refine Ts ?_
  refine A4 (h:=Ac (i) (Ab a[i]) (fun _=>Aw hlt)) (hr:=?_)
  refine rn ?_;refine A2 [1,2,7,8,15,16,17] ?_;refine Z1 ?_
  refine A4 (h:=Ac (i) (Ab b[i]) (fun _=>Aw hlb)) (hr:=?_)
  refine Xc ?_;refine A2 [1,2,8,9,15,16,17] ?_;refine Z19 ?_;refine R.callV Tryz.call136 (ih a[i] (hok _ (Av hlt)) b[i] _) ?_;refine A4 ?_;refine A2 [1,2,15,16,17,30] ?_
  refine A3 (fun ht30=>?_) (fun ht30=>?_)
  ·have hf:eqL a b=false:=AG0 hlt hlb (by simpa using ht30)
   refine Z2 ?_;refine A2 [6] ?_;exact APx
  have he:eqE a[i] b[i]=true:=by simpa using ht30
  refine Nm ?_;refine A2 [1,2,15,16,17] ?_;refine Ay (i+1) ⟨hlt,AL6 hlt hlb hi.2 he⟩ (by omega) ?_
  exact Dp (own:=[]) (fun _=>.refl _) (by repeat (first|exact Bq|refine Bp (by first|exact Fx|(simp;done)) ?_)) (by simp) (by simp)
 have hxe:a.length≤i:=by simpa using ht18
 refine Tt ?_;refine lr ?_;exact A9 (Ah A7) ⟨by rw [oi hlen (fun j y z hj=>hi.2 j y z (by omega))],rfl⟩

theorem AS3:∀(n:Nat) (x:Expr),okE n x→∀(y:Expr) (Hp:List AObj),AFun Tryz.prog 136 [Ab x,Ab y] Hp (B3 (eqE x y)):=by
 intro n
 induction n with
 | zero=>exact fun x h=>h.elim
 | succ n ih =>
 intro x hok y Hp
 refine Ag [.tmp 4] [0,1] Tryz.func136 Tryz.ntmps136 (fun d=>?_)
 refine yx ?_;refine Z25 ?_;refine Z38 ?_;refine V5 ?_;refine Z7 ?_
 refine Bd (h:=Oc Tu (fun w=>Hm x.val.kind x.val.n y.val.kind y.val.n x.val.s y.val.s w)) (hr:=?_)
 refine ry ?_;refine Bm Tryz.call166 (fun hB=>AUu n x.kids y.kids hok.2.1 hok.2.2 ih _) ?_;refine Z0 ?_;refine Z39 ?_;exact A9 (Ah A7) ⟨by rw [AEr],rfl⟩

theorem jz (o:Int) (t:Str) (v:Val) (k:List Expr):Ab (.mk o t v k)=.agg [A5 o,.v (sv t),A5 v.kind,A5 v.n,.v (sv v.s),.slice false 6 (k.map Ab)]:=by rw [Ax];rfl
set_option maxRecDepth 8000
/-! Who decides decides: the law's sources, columns and truths. -/
/-! Rows. -/
theorem row_iff {c:List Col} {l:List Val}:F4 c l=true↔H5 c=true∧l.length=c.length∧∀(i:Nat) (v:Val) (y:Col),l[i]? = some v→c[i]? = some y→Cg v=true∧(v.kind=0∨v.kind=y.kind):=by
 unfold F4
 rw [As,As,N6,beq_iff_eq,B4,and_assoc]
 refine and_congr_right fun _=>and_congr_right fun hl=>⟨fun h i v y hv hy=>?_,fun h p hp=>?_⟩
 ·have:=h (v,y) (B2 (i:=i) (by rw [Ry];exact ⟨hv,hy⟩))
  simpa using this
 obtain ⟨i,hi⟩:=Cf hp
 rw [Ry] at hi
 have:=h i p.1 p.2 hi.1 hi.2
 simpa using this
theorem AJf {x:Expr} {c:List Col} {l:List Val} (h1:Bk x=true) (h2:F4 c l=true):Em x c l=Al c l x:=by
 unfold Em wm
 rw [h1,h2]
 rfl
/-! Rows that differ in what is not named. -/
/-! Who has a kind comes to it. -/
/-- What a tree of this kind may come to. -/
structure KOk (k:Int) (r:Rs):Prop where
 kind:r.2=0→r.1.kind=k∨r.1.kind=0
 err:r.2≠0→r.2=4∨r.2=5∨r.2=6∨r.2=3
theorem KOk.null (k:Int):KOk k (noV,0):=⟨fun _=>.inr rfl,fun h=>absurd rfl h⟩
theorem KOk.val {k:Int} {v:Val} (h:v.kind=k):KOk k (v,0):=⟨fun _=>.inl h,fun h=>absurd rfl h⟩
theorem KOk.wrong {k e:Int} (h:e=4∨e=5∨e=6∨e=3):KOk k (Cz e):=⟨fun h0=>by rw [show e=0 from h0] at h;omega,fun _=>h⟩
theorem KOk.whole {x:Int×Int} (h:x.2≠0→x.2=4∨x.2=5∨x.2=6∨x.2=3):KOk 1 (Fu x):=by
 unfold Fu
 split
 ·rename_i h1;exact .wrong (h (by simpa using h1))
 exact .val rfl
theorem KOk.mono {k k':Int} {r:Rs} (h:KOk k r) (hk:k=k'∨k=0):KOk k' r:=⟨fun h0=>by have:=h.kind h0;omega,h.err⟩
theorem Ww {α:Type} {g:α→Int} {r:α→Rs} {l:List α} (h:∀y∈l,KOk (g y) (r y)) {k:Int} {f:List Val→Rs} (hs:∀vs:List Val,vs.map (·.kind)=l.map g→(∀v∈vs,v.kind≠0)→KOk k (f vs)):KOk k (I9 f (l.map r)):=by
 unfold I9
 split
 ·rename_i q hq
  have h1:=gu hq
  obtain ⟨y,hy,rfl⟩:=D5.1 (List.mem_of_find?_eq_some hq)
  exact .wrong ((h y hy).err (by simpa using h1))
 rename_i hq
 have h0:∀y∈l,(r y).2=0:=fun y hy=>by
  have:=Na.1 hq (r y) (gz hy)
  simpa using this
 split
 ·exact .null k
 rename_i hn
 have hnn:∀y∈l,(r y).1.kind≠0:=fun y hy e=>hn (by rw [Jw];exact ⟨r y,gz hy,by simpa using e⟩)
 refine hs _ ?_ ?_
 ·rw [Io,Io]
  refine Qj fun y hy=>?_
  have:=(h y hy).kind (h0 y hy)
  have:=hnn y hy
  show (r y).1.kind=g y
  omega
 intro v hv
 rw [Io] at hv
 obtain ⟨y,hy,rfl⟩:=D5.1 hv
 exact hnn y hy
theorem Ud {a b:Int} (h:(Gj a b).2=true):((a=0∧(Gj a b).1=b)∨(a≠0∧(b=0∨b=a)∧(Gj a b).1=a)):=by
 unfold Gj at h ⊢
 split
 ·rename_i e;exact .inl ⟨by simpa using e,rfl⟩
 rename_i e
 rw [if_neg e] at h
 split
 ·rename_i e2
  exact .inr ⟨by simpa using e,by simp only [Co,beq_iff_eq] at e2;omega,rfl⟩
 rename_i e2
 rw [if_neg e2] at h
 cases h
theorem ANh {s:Sign} {ks:List Int} (h:(L6 s ks).2=0):∃c,Hi s.kids ks 0=some c∧(L6 s ks).1=if s.own == -1 then c else s.own:=by
 unfold L6 at h ⊢
 cases hk:Hi s.kids ks 0 with
 | none=>rw [hk] at h;cases h
 | some c=>exact ⟨c,rfl,by simp only;split<;>rfl⟩
/-- One kid, of a kind. -/
theorem AB0 {w k0 c:Int} (h1:(w == -2)=false) (h2:(w == -1)=false) (h3:w≠0) (h:Hi [w] [k0] 0=some c):k0=0∨k0=w:=by
 rw [Hi,h1,h2] at h
 simp only [Af,if_false] at h
 split at h
 ·rename_i hm;have:=Ud hm;omega
 cases h
theorem AB1 {w w' k0 k1 c:Int} (h1:(w == -2)=false) (h2:(w == -1)=false) (h3:w≠0) (h1':(w' == -2)=false) (h2':(w' == -1)=false) (h3':w'≠0) (h:Hi [w,w'] [k0,k1] 0=some c):(k0=0∨k0=w)∧(k1=0∨k1=w'):=by
 rw [Hi,h1,h2] at h
 simp only [Af,if_false] at h
 split at h
 ·rename_i hm
  rw [Hi,h1',h2'] at h
  simp only [Af,if_false] at h
  split at h
  ·rename_i hm';have:=Ud hm;have:=Ud hm';omega
  cases h
 cases h
/-- Two kids of one kind, whichever. -/
theorem k7 {k0 k1 c c0:Int} (h:Hi [-1, -1] [k0,k1] c0=some c) (h0:c0=0):(k0=0∨k0=c)∧(k1=0∨k1=c)∧(k0≠0→k1≠0→k0=k1):=by
 subst h0
 rw [Hi] at h
 simp only [show ((-1:Int) == -2)=false from rfl,show ((-1:Int) == -1)=true from rfl,Af,if_false,if_true] at h
 split at h
 ·rename_i hm
  rw [Hi] at h
  simp only [show ((-1:Int) == -2)=false from rfl,show ((-1:Int) == -1)=true from rfl,Af,if_false,if_true] at h
  split at h
  ·rename_i hm'
   rw [Hi] at h
   injection h with h
   have a:=Ud hm
   have b:=Ud hm'
   omega
  cases h
 cases h
theorem R6 {c:List Col} {o:Int} {t:Str} {v:Val} {k:List Expr} (h:(Bs c (.mk o t v k)).2=0) (h1:(o==1)=false) (h2:(o==2)=false):
  (∀y∈k,(Bs c y).2=0)∧∃m,Hi (Js o t).kids (k.map fun y=>(Bs c y).1) 0=some m∧(Bs c (.mk o t v k)).1=if (Js o t).own == -1 then m else (Js o t).own:=by
 rw [Bs] at h ⊢
 have hk:=AF0 h h1 h2
 rw [Vq] at hk h ⊢
 have hk':∀y∈k,(Bs c y).2=0:=fun y hy=>hk _ (gz hy)
 refine ⟨hk',?_⟩
 have e:Rq c o t v (k.map (Bs c))=L6 (Js o t) (k.map fun y=>(Bs c y).1):=by
  unfold Rq
  rw [h1,h2]
  have:(k.map (Bs c)).find? (fun q=>q.2 != 0)=none:=Na.2 fun q hq=>by simpa using hk q hq
  simp only [Af,if_false,this,Io]
  rfl
 rw [e] at h ⊢
 exact ANh h
theorem AB2 (t:Str) (a b:Int):(Eu t a b).2≠0→(Eu t a b).2=4∨(Eu t a b).2=5∨(Eu t a b).2=6∨(Eu t a b).2=3:=by
 unfold Eu aq Lt Sr Xh Ss
 simp only
 repeat' split
 all_goals simp
theorem AJg (a b:Int):(Lt a b).2≠0→(Lt a b).2=4∨(Lt a b).2=5∨(Lt a b).2=6∨(Lt a b).2=3:=by
 unfold Lt
 repeat' split
 all_goals simp
theorem AJh (s:Str):(Bv s).2≠0→(Bv s).2=4∨(Bv s).2=5∨(Bv s).2=6∨(Bv s).2=3:=by
 unfold Bv
 repeat' split
 all_goals simp
theorem ANi {a b:Val} (ha:a.kind=2) (hb:b.kind=2):KOk 2 (J7 a b):=by
 unfold J7
 rw [show By [a,b] [2,2]=true by simp [By,ha,hb]]
 simp only [C9,Af,if_false]
 split
 ·exact .wrong (by omega)
 exact .val rfl
/-- A mark of two values of the kinds that its sign asks for. -/
theorem AS4 {t:Str} {a b:Val} (ht:t∈[[61],[33,61],[60],[60,61],[62],[62,61],[43],[45],[38],[42],[47],[37]]) {m:Int} (hf:Hi (Dh t).kids [a.kind,b.kind] 0=some m) (ha:a.kind≠0) (hb:b.kind≠0):
  KOk (if (Dh t).own == -1 then m else (Dh t).own) (Id t a b):=by
 have hcmp:∀t:Str,(Fc t (Su a b)).2=true→Dh t=⟨[-1, -1],3⟩→Hi (Dh t).kids [a.kind,b.kind] 0=some m→KOk (if (Dh t).own == -1 then m else (Dh t).own) (Id t a b):=fun t h1 h2 hf=>by
  rw [h2] at hf ⊢
  have:=k7 hf rfl
  have e:a.kind=b.kind:=this.2.2 ha hb
  unfold Id
  rw [h1,if_pos rfl,e]
  simp only [bne_self_eq_false,Af,if_false]
  exact .val rfl
 have har:∀t:Str,(Fc t (Su a b)).2=false→(t==[38])=false→Dh t=⟨[1,1],1⟩→Hi (Dh t).kids [a.kind,b.kind] 0=some m→KOk (if (Dh t).own == -1 then m else (Dh t).own) (Id t a b):=fun t h1 h2 h3 hf=>by
  rw [h3] at hf ⊢
  have:=AB1 rfl rfl (by decide) rfl rfl (by decide) hf
  unfold Id
  rw [h1,h2,show By [a,b] [1,1]=true by simp [By];omega]
  exact KOk.whole (AB2 _ _ _)
 simp only [Bu,I3,or_false] at ht
 rcases ht with rfl|rfl|rfl|rfl|rfl|rfl|rfl|rfl|rfl|rfl|rfl|rfl
 ·exact zg
 ·exact zg
 ·exact zg
 ·exact zg
 ·exact zg
 ·exact zg
 ·exact ADw
 ·exact ADw
 ·have h3:Dh [38]=⟨[2,2],2⟩:=rfl
  rw [h3] at hf ⊢
  have:=AB1 rfl rfl (by decide) rfl rfl (by decide) hf
  exact ANi (by omega) (by omega)
 ·exact ADw
 ·exact ADw
 exact ADw
theorem k8 {r:Rs} (h:KOk 3 r):B9 r=r:=by
 unfold B9
 split
 ·rename_i e
  simp only [As,beq_iff_eq,bne_iff_ne] at e
  have:=h.kind e.1.1
  omega
 rfl
theorem x6 {s:Val} {a b:Rs} (ha:KOk 3 a) (hb:KOk 3 b):KOk 3 (Gq s a b):=by
 unfold Gq
 rw [k8 ha,k8 hb]
 split
 ·exact ha
 rename_i h1
 split
 ·exact hb
 simp only [Co,bne_iff_ne,not_or,Decidable.not_not] at h1
 exact ⟨fun _=>ha.kind h1.1,fun h=>absurd rfl h⟩
theorem Kb {t:Str} {n:Nat} (h:Cc t=(n:Int)):(t=[108,101,110]∧n=1)∨(t=[115,116,114]∧n=1)∨(t=[110,117,109]∧n=1)∨(t=C7∧n=1)∨(t=P9∧n=2)∨(t=[108,101,102,116]∧n=2)∨(t=[114,105,103,104,116]∧n=2)∨(t=ifW∧n=3):=by
 by_cases hm:t∈arityList.map (·.1)
 ·have ha:∀s∈arityList.map (·.1),(s=[108,101,110]∧Cc s=1)∨(s=[115,116,114]∧Cc s=1)∨(s=[110,117,109]∧Cc s=1)∨(s=C7∧Cc s=1)∨(s=P9∧Cc s=2)∨(s=[108,101,102,116]∧Cc s=2)∨(s=[114,105,103,104,116]∧Cc s=2)∨(s=ifW∧Cc s=3):=by
   have:((arityList.map (·.1)).all fun s=>decide ((s=[108,101,110]∧Cc s=1)∨(s=[115,116,114]∧Cc s=1)∨(s=[110,117,109]∧Cc s=1)∨(s=C7∧Cc s=1)∨(s=P9∧Cc s=2)∨(s=[108,101,102,116]∧Cc s=2)∨(s=[114,105,103,104,116]∧Cc s=2)∨(s=ifW∧Cc s=3)))=true:=by kernel_rfl
   exact fun s hs=>of_decide_eq_true (B4.1 this s hs)
  have:=ha t hm
  rw [h] at this
  rcases this with ⟨e,h2⟩|⟨e,h2⟩|⟨e,h2⟩|⟨e,h2⟩|⟨e,h2⟩|⟨e,h2⟩|⟨e,h2⟩|⟨e,h2⟩
  ·exact .inl ⟨e,by omega⟩
  ·exact .inr (.inl ⟨e,by omega⟩)
  ·exact .inr (.inr (.inl ⟨e,by omega⟩))
  ·exact .inr (.inr (.inr (.inl ⟨e,by omega⟩)))
  ·exact .inr (.inr (.inr (.inr (.inl ⟨e,by omega⟩))))
  ·exact .inr (.inr (.inr (.inr (.inr (.inl ⟨e,by omega⟩)))))
  ·exact .inr (.inr (.inr (.inr (.inr (.inr (.inl ⟨e,by omega⟩))))))
  exact .inr (.inr (.inr (.inr (.inr (.inr (.inr ⟨e,by omega⟩))))))
 have h1:Cc t = -1:=by
  unfold Cc
  rw [Na.2 fun p hp=>by
   simp only [beq_iff_eq]
   rintro rfl
   exact hm (D5.2 ⟨p,hp,rfl⟩)]
 omega
theorem Xz {k:List Expr} (h:k.length=1):∃a,k=[a]:=by match k,h with|[a],_=>exact ⟨a,rfl⟩
theorem R7 {k:List Expr} (h:k.length=2):∃a b,k=[a,b]:=by match k,h with|[a,b],_=>exact ⟨a,b,rfl⟩
theorem AB3 {k:List Expr} (h:k.length=3):∃a b c,k=[a,b,c]:=by match k,h with|[a,b,c],_=>exact ⟨a,b,c,rfl⟩
theorem O0 {vs:List Val} {k:Int} (h:vs.map (·.kind)=[k]):∃v,vs=[v]∧v.kind=k:=by
 match vs,h with
 | [v],h=>exact ⟨v,rfl,by simpa using h⟩
theorem Vz {vs:List Val} {k k':Int} (h:vs.map (·.kind)=[k,k']):∃v v',vs=[v,v']∧v.kind=k∧v'.kind=k':=by
 match vs,h with
 | [v,v'],h=>exact ⟨v,v',rfl,by simpa using h⟩
theorem x7 {c:List Col} {l:List Val} (hl:F4 c l=true):∀(n:Nat) (e:Expr),sizeE e≤n→Es E8 e=true→(Bs c e).2=0→KOk (Bs c e).1 (Al c l e)
 | 0,e,hn,_,_=>by have:=Kv e;omega
 | n+1,e,hn,hnd,hk=>by
  have hnd0:=hnd
  rw [Jj,As] at hnd0
  have ih:∀y∈e.kids,(Bs c y).2=0→KOk (Bs c y).1 (Al c l y):=fun y hy h0=>x7 hl n y (AAa hn hy) ((F3 _ _).1 hnd0.2 y hy) h0
  obtain ⟨r1,r2,r3⟩:=row_iff.1 hl
  have hNC:=On hnd0.1
  cases hNC with
  | val v hp h0 =>
   have:Bs c (Rd v)=(v.kind,0):=by rw [Rd,Bs];rfl
   rw [this]
   exact .val rfl
  | name t ht =>
   have e1:Bs c (Ds t)=Rp c t:=by rw [Ds,Bs];rfl
   have e2:Al c l (Ds t)=Lf c l t:=by rw [Al,Ds,G7];rfl
   rw [e1] at hk ⊢
   rw [e2]
   unfold Rp at hk ⊢
   unfold Lf
   split at hk
   ·cases hk
   rename_i hf
   rw [if_neg hf,if_neg hf]
   obtain ⟨j,z,hj,hz,hfj⟩:=find_mem.1 hf
   have hjl:j<l.length:=by rw [r2];exact (Ad.1 hj).1
   have:=r3 j l[j] z (Aa hjl) hj
   rw [hfj,Int.toNat_natCast,D3,D3,hj,Aa hjl]
   exact ⟨fun _=>by show l[j].kind=z.kind∨l[j].kind=0;omega,fun h=>absurd rfl h⟩
  | neg a =>
   rw [Mw] at hk ⊢
   obtain ⟨hky,m,hf,ho⟩:=R6 hk rfl rfl
   rw [ho,Al,G7,M2]
   have hs:Js 3 []=⟨[1],1⟩:=rfl
   rw [hs] at hf ⊢
   have hm:=AB0 rfl rfl (by decide) hf
   show KOk 1 (I9 (B0 3 []) ([a].map (G7 B0 c l)))
   refine Ww (g:=fun y=>(Bs c y).1) (fun y hy=>ih y hy (hky y hy)) (fun vs hvs hnz=>?_)
   obtain ⟨v,rfl,hv⟩:=O0 hvs
   have hv0:=hnz v (by simp)
   have hv1:v.kind=1:=by omega
   unfold B0
   rw [show By [v] [1]=true by simp [By,hv1]]
   exact KOk.whole (AJg _ _)
  | no a =>
   rw [Mw] at hk ⊢
   obtain ⟨hky,m,hf,ho⟩:=R6 hk rfl rfl
   rw [ho,Al,G7,M2]
   have hs:Js 4 []=⟨[3],3⟩:=rfl
   rw [hs] at hf ⊢
   have hm:=AB0 rfl rfl (by decide) hf
   show KOk 3 (I9 (B0 4 []) ([a].map (G7 B0 c l)))
   refine Ww (g:=fun y=>(Bs c y).1) (fun y hy=>ih y hy (hky y hy)) (fun vs hvs hnz=>?_)
   obtain ⟨v,rfl,hv⟩:=O0 hvs
   have hv0:=hnz v (by simp)
   have hv1:v.kind=3:=by omega
   unfold B0
   rw [show By [v] [3]=true by simp [By,hv1]]
   exact KOk.val rfl
  | bin t a b ht =>
   rw [Mv] at hk ⊢
   obtain ⟨hky,m,hf,ho⟩:=R6 hk rfl rfl
   have ha:=ih a (by simp [Mv,Expr.kids]) (hky a (by simp))
   have hb:=ih b (by simp [Mv,Expr.kids]) (hky b (by simp))
   rw [ho,Al,G7,M2]
   rw [show Js 5 t=Dh t from rfl] at hf ⊢
   have hmem:t∈levels.flatten:=by
    rcases nq t with h|h
    ·exact h
    omega
   by_cases h1:(t==orW)=true
   ·have e:t=orW:=by simpa using h1
    subst e
    rw [show Dh orW=⟨[3,3],3⟩ from rfl] at hf ⊢
    have hm:((Bs c a).1=0∨(Bs c a).1=3)∧((Bs c b).1=0∨(Bs c b).1=3):=AB1 rfl rfl (by decide) rfl rfl (by decide) hf
    exact x6 (ha.mono (by omega)) (hb.mono (by omega))
   by_cases h2:(t==Re)=true
   ·have e:t=Re:=by simpa using h2
    subst e
    rw [show Dh Re=⟨[3,3],3⟩ from rfl] at hf ⊢
    have hm:((Bs c a).1=0∨(Bs c a).1=3)∧((Bs c b).1=0∨(Bs c b).1=3):=AB1 rfl rfl (by decide) rfl rfl (by decide) hf
    exact x6 (ha.mono (by omega)) (hb.mono (by omega))
   have e:J8 B0 c l 5 t noV ([a,b].map (G7 B0 c l))=I9 (B0 5 t) ([a,b].map (G7 B0 c l)):=by
    unfold J8
    rw [show (t==orW)=false by simpa using h1,show (t==Re)=false by simpa using h2]
    rfl
   rw [e]
   have hm12:t∈[[61],[33,61],[60],[60,61],[62],[62,61],[43],[45],[38],[42],[47],[37]]:=by
    have h1':t≠orW:=by simpa using h1
    have h2':t≠Re:=by simpa using h2
    simp only [levels,List.flatten_cons,List.flatten_nil,Fe,F6,Hs,Bu,I3,or_false] at hmem ⊢
    rcases hmem with h|h|h
    ·exact absurd h h1'
    ·exact absurd h h2'
    exact h
   refine Ww (g:=fun y=>(Bs c y).1) (fun y hy=>ih y hy (hky y hy)) (fun vs hvs hnz=>?_)
   obtain ⟨v,v',rfl,hv,hv'⟩:=Vz hvs
   have hf':Hi (Dh t).kids [v.kind,v'.kind] 0=some m:=by rw [hv,hv'];exact hf
   exact AS4 hm12 hf' (hnz v (by simp)) (hnz v' (by simp))
  | call t k ht =>
   obtain ⟨hky,m,hf,ho⟩:=R6 hk rfl rfl
   rw [ho,Al,G7,M2]
   rw [show Js 6 t=Dx t from rfl] at hf ⊢
   rcases Kb ht with ⟨rfl,hn1⟩|⟨rfl,hn1⟩|⟨rfl,hn1⟩|⟨rfl,hn1⟩|⟨rfl,hn1⟩|⟨rfl,hn1⟩|⟨rfl,hn1⟩|⟨rfl,hn1⟩
   ·obtain ⟨a,rfl⟩:=Xz hn1
    have hs:Dx [108,101,110]=⟨[2],1⟩:=rfl
    rw [hs] at hf ⊢
    have hm:=AB0 rfl rfl (by decide) hf
    show KOk 1 (I9 (B0 6 [108,101,110]) ([a].map (G7 B0 c l)))
    refine Ww (g:=fun y=>(Bs c y).1) (fun y hy=>ih y hy (hky y hy)) (fun vs hvs hnz=>?_)
    obtain ⟨v,rfl,hv⟩:=O0 hvs
    have hv0:=hnz v (by simp)
    have hv1:v.kind=2:=by omega
    show KOk 1 (H9 [108,101,110] v)
    unfold H9
    rw [hv1]
    exact KOk.val rfl
   ·obtain ⟨a,rfl⟩:=Xz hn1
    have hs:Dx [115,116,114]=⟨[1],2⟩:=rfl
    rw [hs] at hf ⊢
    have hm:=AB0 rfl rfl (by decide) hf
    show KOk 2 (I9 (B0 6 [115,116,114]) ([a].map (G7 B0 c l)))
    refine Ww (g:=fun y=>(Bs c y).1) (fun y hy=>ih y hy (hky y hy)) (fun vs hvs hnz=>?_)
    obtain ⟨v,rfl,hv⟩:=O0 hvs
    have hv0:=hnz v (by simp)
    have hv1:v.kind=1:=by omega
    show KOk 2 (H9 [115,116,114] v)
    unfold H9
    rw [hv1]
    exact KOk.val rfl
   ·obtain ⟨a,rfl⟩:=Xz hn1
    have hs:Dx [110,117,109]=⟨[2],1⟩:=rfl
    rw [hs] at hf ⊢
    have hm:=AB0 rfl rfl (by decide) hf
    show KOk 1 (I9 (B0 6 [110,117,109]) ([a].map (G7 B0 c l)))
    refine Ww (g:=fun y=>(Bs c y).1) (fun y hy=>ih y hy (hky y hy)) (fun vs hvs hnz=>?_)
    obtain ⟨v,rfl,hv⟩:=O0 hvs
    have hv0:=hnz v (by simp)
    have hv1:v.kind=2:=by omega
    show KOk 1 (H9 [110,117,109] v)
    unfold H9
    rw [hv1]
    exact KOk.whole (AJh _)
   ·obtain ⟨a,rfl⟩:=Xz hn1
    have ha:=ih a (by simp [Expr.kids]) (hky a (by simp))
    have hs:Dx C7=⟨[-2],3⟩:=rfl
    rw [hs]
    show KOk 3 (E9 C7 (Al c l a) (noV,0) (noV,0))
    unfold E9
    rw [show (C7==ifW)=false from rfl,show (C7==C7)=true from rfl]
    simp only [Af,if_false,if_true]
    split
    ·rename_i h;exact .wrong (ha.err (by simpa using h))
    exact .val rfl
   ·obtain ⟨a,b,rfl⟩:=R7 hn1
    have ha:=ih a (by simp [Expr.kids]) (hky a (by simp))
    have hb:=ih b (by simp [Expr.kids]) (hky b (by simp))
    have hs:Dx P9=⟨[-1, -1], -1⟩:=rfl
    rw [hs] at hf ⊢
    have hm:((Bs c a).1=0∨(Bs c a).1=m)∧((Bs c b).1=0∨(Bs c b).1=m)∧((Bs c a).1≠0→(Bs c b).1≠0→(Bs c a).1=(Bs c b).1):=k7 hf rfl
    show KOk m (E9 P9 (Al c l a) (Al c l b) (noV,0))
    unfold E9
    rw [show (P9==ifW)=false from rfl,show (P9==C7)=false from rfl]
    simp only [Af,if_false]
    split
    ·rename_i h;exact .wrong (ha.err (by simpa using h))
    rename_i h
    split
    ·rename_i h2
     have:=ha.kind (by simpa using h)
     have h2:(Al c l a).1.kind≠0:=by simpa using h2
     exact .val (by omega)
    exact hb.mono (by omega)
   ·obtain ⟨a,b,rfl⟩:=R7 hn1
    have hs:Dx [108,101,102,116]=⟨[2,1],2⟩:=rfl
    rw [hs] at hf ⊢
    have hm:=AB1 rfl rfl (by decide) rfl rfl (by decide) hf
    show KOk 2 (I9 (B0 6 [108,101,102,116]) ([a,b].map (G7 B0 c l)))
    refine Ww (g:=fun y=>(Bs c y).1) (fun y hy=>ih y hy (hky y hy)) (fun vs hvs hnz=>?_)
    obtain ⟨v,v',rfl,hv,hv'⟩:=Vz hvs
    have hv0:=hnz v (by simp)
    have hv0':=hnz v' (by simp)
    have hv1:v.kind=2:=by omega
    have hv1':v'.kind=1:=by omega
    unfold B0
    rw [show By [v,v'] [2,1]=true by simp [By,hv1,hv1']]
    exact KOk.val rfl
   ·obtain ⟨a,b,rfl⟩:=R7 hn1
    have hs:Dx [114,105,103,104,116]=⟨[2,1],2⟩:=rfl
    rw [hs] at hf ⊢
    have hm:=AB1 rfl rfl (by decide) rfl rfl (by decide) hf
    show KOk 2 (I9 (B0 6 [114,105,103,104,116]) ([a,b].map (G7 B0 c l)))
    refine Ww (g:=fun y=>(Bs c y).1) (fun y hy=>ih y hy (hky y hy)) (fun vs hvs hnz=>?_)
    obtain ⟨v,v',rfl,hv,hv'⟩:=Vz hvs
    have hv0:=hnz v (by simp)
    have hv0':=hnz v' (by simp)
    have hv1:v.kind=2:=by omega
    have hv1':v'.kind=1:=by omega
    unfold B0
    rw [show By [v,v'] [2,1]=true by simp [By,hv1,hv1']]
    exact KOk.val rfl
   obtain ⟨a,b,d,rfl⟩:=AB3 hn1
   have ha:=ih a (by simp [Expr.kids]) (hky a (by simp))
   have hb:=ih b (by simp [Expr.kids]) (hky b (by simp))
   have hd:=ih d (by simp [Expr.kids]) (hky d (by simp))
   have hs:Dx ifW=⟨[3, -1, -1], -1⟩:=rfl
   rw [hs] at hf ⊢
   have hf':Hi [3] [(Bs c a).1] 0=some 0∧Hi [-1, -1] [(Bs c b).1,(Bs c d).1] 0=some m:=by
    simp only [C6,Ee] at hf
    rw [Hi] at hf
    simp only [show ((3:Int) == -2)=false from rfl,show ((3:Int) == -1)=false from rfl,Af,if_false] at hf
    split at hf
    ·rename_i hm
     refine ⟨?_,hf⟩
     rw [Hi]
     simp only [show ((3:Int) == -2)=false from rfl,show ((3:Int) == -1)=false from rfl,Af,if_false,hm,if_true]
     rw [Hi]
    cases hf
   have hm1:=AB0 rfl rfl (by decide) hf'.1
   have hm:=k7 hf'.2 rfl
   show KOk m (E9 ifW (Al c l a) (Al c l b) (Al c l d))
   unfold E9
   rw [show (ifW==ifW)=true from rfl,if_pos rfl,k8 (ha.mono (by omega))]
   split
   ·rename_i h;exact .wrong (ha.err (by simpa using h))
   split
   ·exact hb.mono (by omega)
   exact hd.mono (by omega)
set_option maxRecDepth 4000
theorem W0 {e:Expr} (h:E8 e=true):(e.op=5→e.kids.length=2)∧(e.op=3∨e.op=4→e.kids.length=1)∧(e.op=6→Cc e.text=(e.kids.length:Int))∧(e.op=1∨e.op=2∨e.op=3∨e.op=4∨e.op=5∨e.op=6):=by
 cases On h with
 | val v hp h0=>simp [Rd,Expr.op]
 | name t ht=>simp [Ds,Expr.op]
 | neg a=>simp [Mw,Expr.op,Expr.kids]
 | no a=>simp [Mw,Expr.op,Expr.kids]
 | bin t a b ht=>simp [Mv,Expr.op,Expr.kids]
 | call t k ht=>simpa [Expr.op,Expr.kids,Expr.text] using ht
theorem Ik {k:List Expr} {i:Nat} (h:i<k.length):(k.map Ab)[i]? = some (Ab (k.getD i At))∧k.getD i At∈k∧∀(f:Expr→Rs) (d:Rs),(k.map f).getD i d=f (k.getD i At):=by
 have e:k.getD i At=k[i]:=by rw [D3,Aa h];rfl
 rw [e]
 refine ⟨by simp [h],Av h,fun f d=>?_⟩
 rw [D3,Ce,Aa h]
 rfl
theorem k9 {c:List Col} {l:List Val} {e:Expr} (h1:(e.op==1)=false) (h2:(e.op==2)=false) (h3:((e.op==5)&&(e.text==orW))=false) (h4:((e.op==5)&&(e.text==Re))=false) (h5:((e.op==6)&&(((e.text==ifW) || (e.text==P9)) || (e.text==C7)))=false):Al c l e=I9 (B0 e.op e.text) (e.kids.map (Al c l)):=by
 rw [Al,U7]
 unfold J8
 rw [h1,h2,h3,h4,h5]
 rfl
theorem AJi {c:List Col} {l:List Val} (hf:∀v∈l,Fine v) {e:Expr} (hnd:Es E8 e=true) (hrg:Es L5 e=true) (hv:Es Nz e=true) (h5:((e.op==6)&&(((e.text==ifW) || (e.text==P9)) || (e.text==C7)))=false):ArgsOk e.op (e.kids.map fun y=>(Al c l y).1):=by
 rw [Jj,As] at hnd hrg hv
 obtain ⟨k5,k34,k6,_⟩:=W0 hnd.1
 refine ⟨fun h=>?_,fun h=>by rw [Am];exact k34 h,fun h=>?_,fun v hv'=>?_⟩
 ·obtain ⟨a,b,e⟩:=R7 (k5 h)
  rw [e]
  exact ⟨_,_,rfl⟩
 ·rw [Am]
  rw [h] at h5
  simp only [beq_self_eq_true,Dl,Cr,beq_eq_false_iff_ne] at h5
  rcases Kb (k6 h) with ⟨_,h⟩|⟨_,h⟩|⟨_,h⟩|⟨e,_⟩|⟨e,_⟩|⟨_,h⟩|⟨_,h⟩|⟨e,_⟩
  ·exact .inl h
  ·exact .inl h
  ·exact .inl h
  ·exact absurd e h5.2
  ·exact absurd e h5.1.2
  ·obtain ⟨a,b,e⟩:=R7 h
   rw [e]
   exact .inr ⟨_,_,rfl⟩
  ·obtain ⟨a,b,e⟩:=R7 h
   rw [e]
   exact .inr ⟨_,_,rfl⟩
  exact absurd e h5.1.1
 obtain ⟨y,hy,rfl⟩:=D5.1 hv'
 exact R1 hf y ((F3 _ _).1 hv.2 y hy) ((F3 _ _).1 hrg.2 y hy)
theorem Wx (a b d:Rs):E9 C7 a b d=E9 C7 a (noV,0) (noV,0):=by
 unfold E9
 rw [show (C7==ifW)=false from rfl,show (C7==C7)=true from rfl]
 rfl
theorem ul {t:Str} (h:(t==ifW)=false) (a b d d':Rs):E9 t a b d=E9 t a b d':=by
 unfold E9
 rw [h]
 rfl
theorem oo {t:Str} (h:(t==C7)=true) (a b b' d d':Rs):E9 t a b d=E9 t a b' d':=by
 have e:t=C7:=by simpa using h
 subst e
 rw [Wx,Wx a b' d']
theorem AB4 {t:Str} {k:List Expr} {f:Expr→Rs} {a:Rs} (h1:(t==C7)=false→1<k.length) (h2:(t==ifW)=true→2<k.length):E9 t a ((k.map f).getD 1 (noV,0)) ((k.map f).getD 2 (noV,0))=E9 t a (f (k.getD 1 At)) (f (k.getD 2 At)):=by
 cases hn:t==C7 with
 | true=>exact oo hn _ _ _ _ _
 | false =>
  rw [(Ik (h1 hn)).2.2]
  cases hi:t==ifW with
  | true=>rw [(Ik (h2 hi)).2.2]
  | false=>exact ul hi _ _ _ _
theorem AUv (c:List Col) (l:List Val) (hc:OkCols c) (hl:l.length=c.length) (hf:∀v∈l,Fine v):∀(n:Nat) (e:Expr),okE n e→Es E8 e=true→Es L5 e=true→Es Nz e=true→Lv c l e (Al c l e):=by
 intro n
 induction n with
 | zero=>exact fun e h=>h.elim
 | succ n ih =>
 intro e hok hnd hrg hvo Hp
 have hnd0:=hnd
 have hrg0:=hrg
 have hvo0:=hvo
 rw [Jj,As] at hnd0 hrg0 hvo0
 have hev:∀y∈e.kids,Lv c l y (Al c l y):=fun y hy=>ih y (hok.2.2 y hy) ((F3 _ _).1 hnd0.2 y hy) ((F3 _ _).1 hrg0.2 y hy) ((F3 _ _).1 hvo0.2 y hy)
 obtain ⟨k5,k34,k6,_⟩:=W0 hnd0.1
 have hev0:Al c l e=J8 B0 c l e.op e.text e.val (e.kids.map (Al c l)):=U7 _ _ _ _
 refine Ag [.cell 4 42,.tmp 5] [0,1] Tryz.func105 Tryz.ntmps105 (fun d=>?_)
 refine Z1 ?_;refine AHp ?_;refine Z18 ?_;refine Z25 ?_;refine A2 [2,3,4,7] ?_
 refine A3 (fun ht7=>?_) (fun ht7=>?_)
 ·have hm:Al c l e=(e.val,0):=by rw [hev0];unfold J8;rw [if_pos ht7]
  refine Z1 ?_;exact V4
 refine Z25 ?_;refine A2 [2,3,4,13] ?_
 refine A3 (fun ht13=>?_) (fun ht13=>?_)
 ·have hm0:Al c l e=Lf c l e.text:=by rw [hev0];unfold J8;rw [if_neg (by rw [ht7];simp),if_pos ht13]
  refine Z25 ?_;refine A8 Tryz.call46 (c46 c hc e.text _) ?_;refine A4 ?_;refine A2 [2,4,6] ?_;refine Z8 ?_;refine A2 [2,4,6,23] ?_
  refine A3 (fun ht23=>?_) (fun ht23=>?_)
  ·have hm:Al c l e=Cz 9:=by rw [hm0];exact if_pos (by simpa using ht23)
   refine cp ?_;refine Z41 ?_;refine Z13 ?_;exact AOy
  have hneg:¬(Bn e.text c<0):=by simpa using ht23
  obtain ⟨j,hj,hjc⟩:=Jl hneg
  have hjl:j<l.length:=by omega
  have hm:Al c l e=(l[j],0):=by
   rw [hm0]
   unfold Lf
   rw [if_neg hneg,hj,Int.toNat_natCast,D3,Aa hjl]
   rfl
  rw [hj]
  refine No ?_
  refine A4 (h:=Ac (j) (Bi l[j]) (fun _=>Aw hjl)) (hr:=?_)
  refine A4 ?_;exact V4
 refine Z25 ?_;refine Rb ?_;refine A2 [2,3,4,32] ?_
 refine A3 (fun ht32=>?_) (fun ht32=>?_)
 ·have h32:((e.op==5)&&(e.text==orW))=true:=ht32
  have hop:e.op=5:=by simp only [As,beq_iff_eq] at h32;exact h32.1
  have hkl:=k5 hop
  have hm:Al c l e=Gq (E4 true) (Al c l (e.kids.getD 0 At)) (Al c l (e.kids.getD 1 At)):=by rw [hev0];unfold J8;rw [if_neg (by rw [ht7];simp),if_neg (by rw [ht13];simp),if_pos h32,(Ik (by omega)).2.2,(Ik (by omega)).2.2]
  refine AQ9 ?_;refine Dd Tryz.call145 (zm _ _) ?_;refine Dd Tryz.call144 (AS0 c l e (e.kids.getD 0 At) (e.kids.getD 1 At) (E4 true) _ _ (Ik (by omega)).1 (Ik (by omega)).1 (hev _ (Ik (by omega)).2.1) (hev _ (Ik (by omega)).2.1) _) ?_;refine Z89 ?_;exact V4
 have h32:((e.op==5)&&(e.text==orW))=false:=ht32
 refine Z25 ?_;refine Rb ?_;refine A2 [2,3,4,47] ?_
 refine A3 (fun ht47=>?_) (fun ht47=>?_)
 ·have h47:((e.op==5)&&(e.text==Re))=true:=ht47
  have hop:e.op=5:=by simp only [As,beq_iff_eq] at h47;exact h47.1
  have hkl:=k5 hop
  have hm:Al c l e=Gq (E4 false) (Al c l (e.kids.getD 0 At)) (Al c l (e.kids.getD 1 At)):=by rw [hev0];unfold J8;rw [if_neg (by rw [ht7];simp),if_neg (by rw [ht13];simp),if_neg (by rw [h32];simp),if_pos h47,(Ik (by omega)).2.2,(Ik (by omega)).2.2]
  refine AQ9 ?_;refine Dd Tryz.call145 (zm _ _) ?_;refine Dd Tryz.call144 (AS0 c l e (e.kids.getD 0 At) (e.kids.getD 1 At) (E4 false) _ _ (Ik (by omega)).1 (Ik (by omega)).1 (hev _ (Ik (by omega)).2.1) (hev _ (Ik (by omega)).2.1) _) ?_;refine Z89 ?_;exact V4
 have h47:((e.op==5)&&(e.text==Re))=false:=ht47
 refine Z25 ?_;refine Pw ?_;refine Pw ?_;refine Z7 ?_;refine Rb ?_;refine A2 [2,3,4,62] ?_
 refine A3 (fun ht62=>?_) (fun ht62=>?_)
 ·have h62:((e.op==6)&&(((e.text==ifW) || (e.text==P9)) || (e.text==C7)))=true:=ht62
  obtain ⟨hkl,hl1,hl2⟩:0<e.kids.length∧((e.text==C7)=false→1<e.kids.length)∧((e.text==ifW)=true→2<e.kids.length):=by
   have h:=h62
   simp only [As,Co,beq_iff_eq] at h
   have ha:=k6 h.1
   rcases h.2 with (h1|h1)|h1
   ·rw [h1] at ha ⊢
    have:e.kids.length=3:=by
     have:Cc ifW=3:=by kernel_rfl
     omega
    exact ⟨by omega,fun _=>by omega,fun _=>by omega⟩
   ·rw [h1] at ha ⊢
    have:e.kids.length=2:=by
     have:Cc P9=2:=by kernel_rfl
     omega
    exact ⟨by omega,fun _=>by omega,fun h=>absurd h (by decide)⟩
   rw [h1] at ha ⊢
   have:e.kids.length=1:=by
    have:Cc C7=1:=by kernel_rfl
    omega
   exact ⟨by omega,fun h=>absurd h (by decide),fun h=>absurd h (by decide)⟩
  have hm:Al c l e=E9 e.text (Al c l (e.kids.getD 0 At)) (Al c l (e.kids.getD 1 At)) (Al c l (e.kids.getD 2 At)):=by
   rw [hev0]
   unfold J8
   rw [if_neg (by rw [ht7];simp),if_neg (by rw [ht13];simp),if_neg (by rw [h32];simp),if_neg (by rw [h47];simp),if_pos h62,(Ik hkl).2.2]
   exact AB4 hl1 hl2
  refine Z1 ?_;refine A8 Tryz.call146 (AUn c l e (e.kids.getD 0 At) (e.kids.getD 1 At) (e.kids.getD 2 At) _ _ _ (Ik (by omega)).1 (fun h=>(Ik (hl1 h)).1) (fun h=>(Ik (hl2 h)).1) (hev _ (Ik (by omega)).2.1) (fun h=>hev _ (Ik (hl1 h)).2.1) (fun h=>hev _ (Ik (hl2 h)).2.1) _) ?_;exact AHl
 have h62:((e.op==6)&&(((e.text==ifW) || (e.text==P9)) || (e.text==C7)))=false:=ht62
 have hm:=k9 (c:=c) (l:=l) ht7 ht13 h32 h47 h62
 refine j9 ?_;refine A8 Tryz.call147 (AUt c l e hok.2.1 hev (fun _=>AJi hf hnd hrg hvo h62) _) ?_;refine Z0 ?_;exact rl

abbrev xo (own:Bool) (t:Str) (ks:List Expr):AObj:=.cells 62 [A5 6,Ae t,A5 0,A5 0,Ae [],.slice own 6 (ks.map Ab)]
theorem ANj {n:Nat} {own:Bool} {t:Str} {ks:List Expr}:ObjLow n (xo own t ks):=by
 show ∀z∈[A5 6,Ae t,A5 0,A5 0,Ae [],AV.slice own 6 (ks.map Ab)],Low n z
 intro z hz
 simp only [Bu,I3,or_false] at hz
 rcases hz with rfl|rfl|rfl|rfl|rfl|rfl
 all_goals first|exact Fx|simp
theorem AJj:Ev (.agg #[.int .i64 0,.string ⟨#[]⟩,.int .i64 0,.int .i64 0,.string ⟨#[]⟩,.slice none 0 0])=.agg [A5 0,Ae [],A5 0,A5 0,Ae [],.nil]:=rfl
attribute [go_sem] AJj
theorem gA {Hp:List AObj} {o ox:Nat} {z A B:AObj} (ho:Hp[o]? = some z) (hne:ox≠o):((Hp.set o A).set ox B)[o]? = some A:=by rw [List.getElem?_set_ne hne];exact getset ho
theorem gB {Hp:List AObj} {o ox:Nat} {z A B:AObj} (hox:Hp[ox]? = some z):((Hp.set o A).set ox B)[ox]? = some B:=by
 have:=(List.getElem?_eq_some_iff.1 hox).1
 simp [this]
theorem AG1 {Hp:List AObj} {o ox:Nat} {A A' B:AObj} (hne:ox≠o):((Hp.set o A).set ox B).set o A'=(Hp.set o A').set ox B:=by rw [List.set_comm _ _ hne,List.set_set]
theorem Sy (ks:List Expr) (x:Expr):ks.map Ab++[.agg [.v (.int .i64 x.op),.v (sv x.text),.v (.int .i64 x.val.kind),.v (.int .i64 x.val.n),.v (sv x.val.s),.slice false 6 (x.kids.map Ab)]]=(ks++[x]).map Ab:=by rw [List.map_append,List.map_cons,List.map_nil,Ax x]
theorem AUw (l:List Tok) (S:PS) (t:Str) (Dv:Fam) (o ox:Nat) (Hp:List AObj) (hne:ox≠o) (ho:Hp[o]? = some (pr l S)) (hox:Hp[ox]? = some (xo true t [])) (hi:S.i<l.length) (hl:TokEnd l) (hll:l.length≤1048576) (hf:Ft l S.nest Dv.ei) (hcf:PC 213 l Dv.ei S.nest):ACall Tryz.prog 300 [.ptr ox 0,.ro [.ptr o 0]] Hp (fun r H'=>r=Ab (.mk 6 t noV (Jt l Dv.ei S).1)∧H'=(Hp.set o (pr l (Jt l Dv.ei S).2)).set ox (xo true t (Jt l Dv.ei S).1)):=by
 have hoxl:=(List.getElem?_eq_some_iff.1 hox).1
 have hol:=(List.getElem?_eq_some_iff.1 ho).1
 refine ACall.body [.cell 2 62] [0,1] Tryz.func300 Tryz.ntmps300 (fun d=>?_)
 refine Z37 ?_;refine R.fin [0,1,2] ?_
 refine W.drawT [0,1,0,4,3,0,63,127,255,127,639] [1,3] [.q 1 [] [0],.s [4] (some 0) [] [],.q 1 [] [1],.s [6] (some 1) [] [],.q 2 [] []] (fun B=>(Hp.set o (if B 1=true then pr l (Dv.ei S).2 else pr l S)).set ox (if B 0=true then xo false t [] else xo true t [])) (fun _=>[Ni]) Ai (by kernel_rfl) (by simp only [Bool.false_eq_true,if_false];rw [Jg ho,Jg hox]) rfl (fun B=>by simp) ?_
 apply Y.q
 ·intro B hT hF
  exact Yp
 case hTF=>decide
 refine Y.loadUpT (o:=ox) (t':=62) (cs:=[A5 6,Ae t,A5 0,A5 0,Ae [],.slice true 6 ([].map Ab)]) (cs':=[A5 6,Ae t,A5 0,A5 0,Ae [],.slice false 6 ([].map Ab)]) Tryz.isAgg52 (fun B hB=>⟨by simp only [hB];exact gB hox,by simp [upd,List.set_set]<;>rfl,rfl⟩) ?_
 apply Y.q
 ·intro B hT hF
  exact Yp
 case hTF=>decide
 refine Y.callUp (r:=Ab (Dv.ei S).1) (o:=o) (x0:=pr l S) (x:=pr l (Dv.ei S).2) Tryz.call213 (fun B hT hF hB=>⟨by simp only [hB];exact gA ho hne,?_,rfl,Dt,?_⟩) ?_
 ·simp only [upd,hB,Nat.reduceEqDiff,if_false,if_true,Bool.false_eq_true]
  exact (AG1 hne).symm
 ·simp only [hB]
  exact hcf o _ S (Ar (gA ho hne)) hi rfl
 apply Y.q
 ·intro B hT hF
  exact AHf
 case hTF=>decide
 refine Y.appendPut (tn:=[1,3]) (U:=(Hp.set o (pr l (Dv.ei S).2)).set ox (xo false t [])) (O:=[Ni]) (o:=ox) (t':=62) (cs:=[A5 6,Ae t,A5 0,A5 0,Ae [],.slice false 6 ([].map Ab)]) (by kernel_rfl) jU Tryz.type62 Tryz.sizeOf62 Tryz.sizeOf52 jU (Ar (gB hox)) ?_ ?_ ?_ (hfsz:=Tryz.sizeOf52)
 ·simp [Tryz.t62]
 ·simp [Tryz.t62]
 refine R.go ?_
 refine R.storeUpT jS (gB hox) ?_ ?_
 ·first|(rw [Sy];exact Fx)|(have:=Fx (n:=((Hp.set o (pr l (Dv.ei S).2)).set ox (xo false t [])).length) (k:=6) (o:=true) (l:=[(Dv.ei S).1]);simp only [List.map_cons,List.map_nil,Ax] at this;exact this)
 refine R.fin [0,1,2] ?_;refine W.seq ?_
 refine AW.loopC (α:=List Expr×PS) (fun r=>⟨34,A6 0 (.ptr ox 0) (A6 1 (.ro [.ptr o 0]) (A6 2 (.ptr (oid Hp.length 0) 0) (fun _=>.any))),(Hp.set o (pr l r.2)).set ox (xo true t r.1),[Ni],[],none⟩) (fun r=>ArgsAt l Dv.ei S r) (fun r=>l.length-r.2.i) (([(Dv.ei S).1],(Dv.ei S).2)) (.start (hf S hi rfl)) (StLe.of_eq (by simp [List.set_set,xo,Ax])) rfl (fun r hx=>?_)
 refine Z54 ?_
 refine R.go (h:=Q.loadUp (gA ho hne)) (hr:=?_)
 refine P8 ?_;refine G.call Tryz.call258 (fun hB=>nk l r.2 af o _ (Ar (gA ho hne)) hx.fact.lt hl (by decide)) ?_;refine R.go ?_;refine R.fin [0,1,2,21] ?_
 refine W.cond (fun ht21=>?_) (fun ht21=>?_)
 ·have hon:=hx.on hl ht21 hf
  have hle:=hon.2.1.le
  have hlt0:=hx.fact.lt
  refine ADn ?_;refine Z2 ?_;refine R.callUp Tryz.call259 (gA ho hne) (by simp) Dt (AF2 l r.2 o _ (Ar (gA ho hne)) hx.fact.lt hll) ?_;refine R.fin [0,1,2] ?_
  refine W.drawT0 [0,1,0,4,3,0,63,127,255,127,639] [1,3] [.q 1 [] [0],.s [25] (some 0) [] [],.q 1 [] [1],.s [27] (some 1) [] [],.q 2 [] []] (fun B=>(Hp.set o (if B 1=true then pr l (Dv.ei (Au r.2)).2 else pr l (Au r.2))).set ox (if B 0=true then xo false t r.1 else xo true t r.1)) (fun _=>[Ni]) Ai (by kernel_rfl) (by simp only [Bool.false_eq_true,if_false];exact (AG1 hne).symm) rfl (fun B=>by simp) ?_
  apply Y.q
  ·intro B hT hF
   exact Yp
  case hTF=>decide
  refine Y.loadUpT (o:=ox) (t':=62) (cs:=[A5 6,Ae t,A5 0,A5 0,Ae [],.slice true 6 (r.1.map Ab)]) (cs':=[A5 6,Ae t,A5 0,A5 0,Ae [],.slice false 6 (r.1.map Ab)]) Tryz.isAgg52 (fun B hB=>⟨by simp only [hB];exact gB hox,by simp [upd,List.set_set]<;>rfl,rfl⟩) ?_
  apply Y.q
  ·intro B hT hF
   exact Yp
  case hTF=>decide
  refine Y.callUp (r:=Ab (Dv.ei (Au r.2)).1) (o:=o) (x0:=pr l (Au r.2)) (x:=pr l (Dv.ei (Au r.2)).2) Tryz.call213 (fun B hT hF hB=>⟨by simp only [hB];exact gA ho hne,?_,rfl,Dt,?_⟩) ?_
  ·simp only [upd,hB,Nat.reduceEqDiff,if_false,if_true,Bool.false_eq_true]
   exact (AG1 hne).symm
  ·simp only [hB]
   exact hcf o _ (Au r.2) (Ar (gA ho hne)) hon.1 hx.fact.nest
  apply Y.q
  ·intro B hT hF
   exact AHf
  case hTF=>decide
  refine Y.appendPut (tn:=[1,3]) (U:=(Hp.set o (pr l (Dv.ei (Au r.2)).2)).set ox (xo false t r.1)) (O:=[Ni]) (o:=ox) (t':=62) (cs:=[A5 6,Ae t,A5 0,A5 0,Ae [],.slice false 6 (r.1.map Ab)]) (by kernel_rfl) jU Tryz.type62 Tryz.sizeOf62 Tryz.sizeOf52 jU (Ar (gB hox)) ?_ ?_ ?_ (hfsz:=Tryz.sizeOf52)
  ·have:=hx.fact.len;have:=hx.fact.lt;simp only [List.length_map,Tryz.t62];omega
  ·have:=hx.fact.len;have:=hx.fact.lt;simp only [List.length_map,Tryz.t62];omega
  refine R.go ?_
  refine R.storeUpT jS (gB hox) ?_ ?_
  ·first|(rw [Sy];exact Fx)|(have:=Fx (n:=((Hp.set o (pr l (Dv.ei S).2)).set ox (xo false t [])).length) (k:=6) (o:=true) (l:=[(Dv.ei S).1]);simp only [List.map_cons,List.map_nil,Ax] at this;exact this)
  refine R.fin [0,1,2] ?_;refine K.blN ?_
  refine K.lpN (r.1++[(Dv.ei (Au r.2)).1],(Dv.ei (Au r.2)).2) hon.2.2 (by show l.length-(Dv.ei (Au r.2)).2.i<l.length-r.2.i;have:r.2.i+1≤(Dv.ei (Au r.2)).2.i:=hle;omega) (StCut.of_eq ?_)
  simp only [show Tryz.t62.size=6 from rfl,Sy,List.set_set]
 have hout:=hx.out (by rw [ht21];simp)
 refine z4 ?_
 refine R.go (h:=Q.loadUpN (gB hox)) (hr:=?_)
 refine Z16 ?_;exact K.fin (V.one (V.cellN jA jS)) ⟨by rw [hout,jz];rfl,by rw [hout]⟩ (hlow:=by have:=B7 Hp.length (.mk 6 t noV r.1);rw [jz] at this;simpa using this)

/-- within, with the function that gathers a call's kids. -/
theorem AS5 (l:List Tok) (S:PS) (a:Int) (t:Str) (Dv:Fam) (o:Nat) (Hp:List AObj) (A0 A1:AObj) (l0:ObjLow 0 A0) (ho:Hp[o]? = some (pr l S)) (hi:S.i<l.length) (hl:TokEnd l) (hll:l.length≤1048576) (hnl:S.nest≤30) (hd:DeepC l Dv S.nest):
  ACall Tryz.prog 277 [.ptr o 0,A5 a,.fn (.func 300) [] [.ptr (oid Hp.length 2) 0,.ro [.ptr o 0]]] (Hp++[A0,A1,xo true t []]) (fun r H'=>r=Ab (if S.nest=30 then At else .mk 6 t noV (Wr l a Dv.ei S).1)∧H'=Hp.set o (pr l (Wr l a Dv.ei S).2)++[A0,A1,xo true t (Wr l a Dv.ei S).1]):=by
 have hlt:=(Ad.1 ho).1
 have ho':(Hp++[A0,A1,xo true t []])[o]? = some (pr l S):=Ar ho
 by_cases h30:S.nest=30
 ·refine (AIm l S a 300 [] [.ptr (oid Hp.length 2) 0,.ro [.ptr o 0]] At (E5 S) o (Hp++[A0,A1,xo true t []]) ((Hp++[A0,A1,xo true t []]).set o (pr l (E5 S))) ho' (by omega) Tryz.call300 (by simp) (getset ho') rfl (fun h=>h) (fun h=>absurd h30 h)).mono fun r H' h=>?_
  have e:Wr l a Dv.ei S=([],Fb 18 a S):=if_pos (by rw [h30];rfl)
  rw [e,if_pos h30]
  obtain ⟨h1,h2⟩:=h.1 h30
  exact ⟨h1,by rw [h2,Lk _ _ hlt]⟩
 have hq:=ai (S:=E5 S) hl hi (hd.ei h30).1
 refine (AIm l S a 300 [] [.ptr (oid Hp.length 2) 0,.ro [.ptr o 0]] (.mk 6 t noV (Jt l Dv.ei (E5 S)).1) (Jt l Dv.ei (E5 S)).2 o (Hp++[A0,A1,xo true t []]) (Hp.set o (pr l (Jt l Dv.ei (E5 S)).2)++[A0,A1,xo true t (Jt l Dv.ei (E5 S)).1]) ho' (by omega) Tryz.call300 (by simp) (Ar (getset ho)) hq.nest (fun h y hy=>?_) (fun _ own=>?_)).mono fun r H' h=>?_
 ·rw [Lk _ _ hlt] at h
  rcases En.1 hy with hy|hy
  ·rcases My hy with h1|h1
   ·obtain ⟨i,hi',rfl⟩:=Qi h1
    by_cases hio:i=o
    ·subst hio
     have:Hp[i]=pr l S:=by rw [Aa hi'] at ho;injection ho
     rw [this];exact Dt
    refine h _ (Xl _ ?_)
    rw [v7]
    exact ⟨i,by rw [Ec (Ne.symm hio),Aa hi']⟩
   rw [h1];exact Dt
  simp only [Bu,I3,or_false] at hy
  rcases hy with rfl|rfl|rfl
  ·exact h _ (T9 _ (by simp))
  ·exact h _ (T9 _ (by simp))
  exact ANj
 ·have hoid:oid Hp.length 2≠o:=by unfold oid;omega
  have e1:(Hp++[A0,A1,xo true t []]).set o (pr l (E5 S))++own=(Hp.set o (pr l (E5 S))++[A0,A1,xo true t []])++own:=by rw [Lk _ _ hlt]
  rw [e1]
  have g1:((Hp.set o (pr l (E5 S))++[A0,A1,xo true t []])++own)[o]? = some (pr l (E5 S)):=Ar (Ar (getset ho))
  have g2:((Hp.set o (pr l (E5 S))++[A0,A1,xo true t []])++own)[oid Hp.length 2]? = some (xo true t []):=Ar (by
   have:=C0 (U:=Hp.set o (pr l (E5 S))) (O:=[A0,A1,xo true t []]) (n:=2)
   rw [Dw] at this
   exact this)
  refine (AUw l (E5 S) t Dv o (oid Hp.length 2) _ hoid g1 g2 hi hl hll (hd.ei h30).1 (hd.ei h30).2).mono fun r H' h=>⟨h.1,h.2.trans ?_⟩
  rw [Ca,Lk _ _ (by simpa using hlt),E0]
  have:=Hl (U:=Hp.set o (pr l (Jt l Dv.ei (E5 S)).2)) (O:=[A0,A1,xo true t []]++own) (n:=2) (x:=xo true t (Jt l Dv.ei (E5 S)).1)
  rw [Dw] at this
  rw [this]
  simp
 have e:Wr l a Dv.ei S=((Jt l Dv.ei (E5 S)).1,ey (Jt l Dv.ei (E5 S)).2):=if_neg (by
  show ¬(((S.nest:Int)==30)=true)
  simp
  omega)
 rw [e,if_neg h30]
 obtain ⟨h1,h2⟩:=h.2 h30
 exact ⟨h1,by rw [h2,Lk _ _ (by simpa using hlt),E0]⟩
theorem AUx (l:List Tok) (S:PS) (Dv:Fam) (t:Tok) (o:Nat) (Hp:List AObj) (ho:Hp[o]? = some (pr l S)) (hi:(Au S).i<l.length) (hl:TokEnd l) (hll:l.length≤1048576) (hnl:S.nest≤30) (hd:DeepC l Dv S.nest):ACall Tryz.prog 298 [.ptr o 0,Mm t] Hp (fun r H'=>r=Ab (Ju l Dv t S).1∧H'=Hp.set o (pr l (Ju l Dv t S).2)):=by
 have hi0:S.i<l.length:=by have:S.i+1<l.length:=hi;omega
 have hol:=(Ad.1 ho).1
 have hkf:KFact l (Au S) (Ek l Dv S):=aj hl _ hi (fun h=>(hd.ei h).1)
 refine Ag [.cell 4 62] [0,1] Tryz.func298 Tryz.ntmps298 (fun d=>?_)
 refine Z1 ?_;refine Mj ?_;refine Yx ?_;refine Z1 ?_;refine A8 Tryz.call113 (AMp t.text _) ?_;refine A4 ?_;refine cr ?_;refine Z8 ?_;refine A2 [2,3,4,5,12] ?_
 refine A3 (fun ht12=>?_) (fun ht12=>?_)
 ·have hlt0:Cc t.text<0:=by simpa using ht12
  have e:Ju l Dv t S=(At,Fb 9 t.at_ S):=if_pos hlt0
  refine Z19 ?_;refine E2 Tryz.call215 ho (by simp) Dt (AA6 l S 9 t.at_ o _ (Ar ho)) ?_;refine Gd ?_;refine A2 [4] ?_;refine Z13 ?_;exact AQr
 have hge:¬Cc t.text<0:=by simpa using ht12
 refine Z93 ?_;refine E2 Tryz.call259 ho (by simp) Dt (AF2 l S o _ (Ar ho) hi0 hll) ?_;refine Z20 ?_;refine A2 [2,3,4,5,6] ?_;refine APz ?_;refine Z20 ?_;refine A2 [2,3,4,5,6,7] ?_;refine Eb ?_;refine Sb 2 5 6 ?_;refine Z10 ?_;refine K1 ?_
 refine K2 (up':=(Hp.set o (pr l (Au S))).set o (pr l (Ek l Dv S).2)) (own':=[Ni,.cells 103 [A5 (Aq l S.i).kind,Ae (Aq l S.i).text,A5 (Aq l S.i).at_],xo true t.text (Ek l Dv S).1]) Tryz.call277 (by have:=AS5 l (Au S) (Aq l S.i).at_ t.text Dv o (Hp.set o (pr l (Au S))) Ni (.cells 103 [A5 (Aq l S.i).kind,Ae (Aq l S.i).text,A5 (Aq l S.i).at_]) wh (getset ho) hi hl hll hnl hd;rw [Dw] at this;exact this) (by simp) (fun h=>AIo h Dt) ?_
 refine A2 [2,3,4,5,7] ?_;refine Z2 ?_;refine E2 Tryz.call299 (getset (getset ho)) (by simp) Dt (ARg l (Ek l Dv S).2 H0 o _ (Ar (getset (getset ho))) hkf.lt hll) ?_;refine A2 [2,3,4,5,7] ?_;refine Z54 ?_
 refine A4 (h:=Cm (getset (getset (getset ho)))) (hr:=?_)
 refine Z38 ?_;refine Yt ?_;refine A2 [2,3,4,7,41] ?_
 refine A3 (fun ht41=>?_) (fun ht41=>?_)
 ·have e:Ju l Dv t S=(At,Fb 8 t.at_ (H7 l H0 (Ek l Dv S).2)):=by
   unfold Ju
   rw [if_neg hge,if_pos (by have:=ht41;simp only [Am] at this;exact this)]
  refine Z19 ?_;refine E2 Tryz.call215 (getset (getset (getset ho))) (by simp) Dt (AA6 l (H7 l H0 (Ek l Dv S).2) 8 t.at_ o _ (Ar (getset (getset (getset ho))))) ?_;refine Gd ?_;refine A2 [4] ?_;refine Z13 ?_;exact A9 (Ah (B8 jA jS)) ⟨by rw [e,Ax],by rw [e,E0,E0,E0]⟩ (hlow:=low_agg _)
 have e:Ju l Dv t S=(.mk 6 t.text noV (Ek l Dv S).1,(H7 l H0 (Ek l Dv S).2)):=by
  unfold Ju
  rw [if_neg hge,if_neg (by have:=ht41;simp only [Am] at this;rw [Ic] at this;exact this)]
 refine Z93 ?_;refine Gd ?_;refine Z39 ?_;exact A9 (Ah (B8 jA jS)) ⟨by rw [e,jz];rfl,by rw [e,E0,E0]⟩ (hlow:=by have:=B7 Hp.length (.mk 6 t.text noV (Ek l Dv S).1);rw [jz] at this;simpa using this)

theorem AB5 {l:List Tok} (hl:TokEnd l) (hll:l.length≤1048576) (n:Nat) (Dv:Fam) (hn:n≤30) (hd:DeepC l Dv n):nl l Dv n:=fun o Hp S t ho hi hS _ _=>by
 subst hS
 exact AUx l S Dv t o Hp ho hi hl hll hn hd
def Ue (l:List Val):Bool:=decide ((50:Int)<(l.length:Int)) || l.any fun v=>decide ((400:Int)<(v.s.length:Int))
theorem c21 (l:List Val) (Hp:List AObj):AFun Tryz.prog 21 [Bt l] Hp (B3 (Ue l)):=by
 refine Ag [.tmp 2] [0] Tryz.func21 Tryz.ntmps21 (fun d=>?_)
 refine j7 ?_;refine A2 [0,6] ?_
 refine A3 (fun ht6=>?_) (fun ht6=>?_)
 ·rw [Am] at ht6
  have hm:Ue l=true:=by unfold Ue;rw [ht6];rfl
  exact ADd
 rw [Am] at ht6
 have hl50:l.length≤50:=by simp at ht6;omega
 refine yw ?_
 refine Az (α:=Nat) (fun x=>⟨20,A6 0 (Bt l) (A6 3 (A5 (x:Nat)) (fun _=>.any)),Hp,[],[],none⟩) (fun x=>x≤l.length∧∀(j:Nat) (v:Val),j<x→l[j]? = some v→decide ((400:Int)<(v.s.length:Int))=false) (fun x=>l.length-x) (0) ⟨An _,fun j v h=>by omega⟩ (B5 (by simp)) rfl (fun x hx=>?_)
 refine AHk ?_
 refine A3 (fun ht10=>?_) (fun ht10=>?_)
 ·have hlt:x<l.length:=by simpa using ht10
  refine Sf ?_
  refine A4 (h:=Ac (x) (Bi l[x]) (fun _=>Aw hlt)) (hr:=?_)
  refine Z72 ?_;refine A2 [0,3,19] ?_
  refine A3 (fun ht19=>?_) (fun ht19=>?_)
  ·have hm:Ue l=true:=by unfold Ue;rw [Co];exact .inr (Jw.2 ⟨l[x],Av hlt,ht19⟩)
   exact AHd
  refine Z17 ?_;refine Z51 ?_
  refine A4 (h:=Q.add64 (h1:=fun _=>by omega) (h2:=fun _=>by omega)) (hr:=?_)
  refine A4 ?_;refine Oi ?_;exact AOr
 have hxe:l.length≤x:=by simpa using ht10
 have hm:Ue l=false:=by
  unfold Ue
  rw [ht6,C8,M8]
  intro v hv
  obtain ⟨j,hj⟩:=Cf hv
  have:=hx.2 j v (by have:=(Ad.1 hj).1;omega) hj
  rw [this]
  simp
 exact ADh

structure RowAt (c:List Col) (l:List Val) (x:Nat):Prop where
 le:x≤l.length
 ok:∀(i:Nat) (v:Val) (y:Col),i<x→l[i]? = some v→c[i]? = some y→Cg v=true∧(v.kind=0∨v.kind=y.kind)
theorem RowAt.next {c:List Col} {l:List Val} {x:Nat} (h:RowAt c l x) (hl:x<l.length) (hc:x<c.length) (hb:((!(Cg l[x])) || ((l[x].kind != 0)&&(l[x].kind != c[x].kind)))=false):RowAt c l (x+1):=⟨hl,fun i v y hi hv hy=>by
 rcases Be i x with h'|h'
 ·exact h.ok i v y h' hv hy
 have e:i=x:=by omega
 subst e
 rw [Aa hl] at hv
 rw [Aa hc] at hy
 injection hv with hv
 injection hy with hy
 subst hv
 subst hy
 simp only [Cr,Jv,Y6,bne_eq_false_iff_eq] at hb
 exact ⟨hb.1,hb.2⟩⟩
theorem RowAt.bad {c:List Col} {l:List Val} {x:Nat} (hl:x<l.length) (hc:x<c.length) (hb:((!(Cg l[x])) || ((l[x].kind != 0)&&(l[x].kind != c[x].kind)))=true):F4 c l=false:=by
 cases h:F4 c l with
 | false=>rfl
 | true =>
  obtain ⟨h1,h2⟩:=(row_iff.1 h).2.2 x l[x] c[x] (Aa hl) (Aa hc)
  rw [h1] at hb
  simp only [C9,C8,As,bne_iff_ne] at hb
  omega
theorem c14 (c:List Col) (hc:OkCols c) (l:List Val) (hll:l.length≤1048576) (Hp:List AObj):AFun Tryz.prog 14 [Ao c,Bt l] Hp (B3 (F4 c l)):=by
 refine Ag [.tmp 4] [0,1] Tryz.func14 Tryz.ntmps14 (fun d=>?_)
 refine Z62 ?_;refine Z29 ?_;refine A8 Tryz.call34 (c34 c hc _) ?_;refine Z38 ?_;refine Yt ?_;refine A2 [0,1,16] ?_
 refine A3 (fun ht16=>?_) (fun ht16=>?_)
 ·have hm:F4 c l=false:=by
   simp only [Am,Co,Jc,bne_iff_ne,ne_eq] at ht16
   unfold F4
   rcases ht16 with h|h
   ·rw [h];rfl
   rw [show (l.length==c.length)=false by simpa using (show l.length≠c.length by omega)];simp
  exact rj
 have hcl:U0 c=true∧l.length=c.length:=by
  simp only [Am,Cr,Jv,bne_eq_false_iff_eq] at ht16
  exact ⟨ht16.1,by omega⟩
 refine Nn ?_;refine A2 [0,17,18,19] ?_
 refine Az (α:=Nat) (fun x=>⟨43,A6 0 (Ao c) (A6 17 (Bt l) (A6 18 (A5 (l.length:Nat)) (A6 19 (A5 (x:Nat)) (fun _=>.any)))),Hp,[],[],none⟩) (fun x=>RowAt c l x) (fun x=>l.length-x) (0) ⟨An _,fun i v y h=>by omega⟩ (B5 (by simp)) rfl (fun x hx=>?_)
 refine Z2 ?_;refine A2 [0,17,18,19,20] ?_
 refine Ei (fun ht20=>?_) (fun ht20=>?_)
 ·have hlt:x<l.length:=by simpa using ht20
  have hlc:x<c.length:=by omega
  refine Ts ?_
  refine A4 (h:=Ac (x) (Bi l[x]) (fun _=>Aw hlt)) (hr:=?_)
  refine rn ?_;refine A2 [0,5,6,17,18,19] ?_;refine Cb [0,1,3,7,15,31,63,127,255,511,255,255,3327,7423,15615,32767,65535,131071] 15 Ai (by kernel_rfl) ?_;refine Ak ?_;refine Dd Tryz.call35 (c35 _ _) ?_;refine Z12 ?_;refine Z56 ?_;refine Z56 ?_;refine Z56 ?_;refine Z56 ?_
  refine Eh (h:=Ac (x) (Bj c[x]) (fun _=>Aw hlc)) (hr:=?_)
  refine Z56 ?_;refine J0 ?_;refine Z96 ?_;refine A2 [0,17,18,19,41] ?_
  refine A3 (fun ht41=>?_) (fun ht41=>?_)
  ·have hm:=RowAt.bad hlt hlc ht41
   refine Z90 ?_;exact AHg
  refine Nm ?_;refine A2 [0,17,18,19] ?_;refine Ay (x+1) (hx.next hlt hlc ht41) (by omega) ?_
  exact Dp (own:=[]) (fun _=>.refl _) (by repeat (first|exact Bq|refine Bp (by first|exact oh|exact low_cols|(simp [or_imp,forall_and];done)) ?_)) (by simp) (by simp)
 have hxe:l.length≤x:=by simpa using ht20
 have hm:F4 c l=true:=row_iff.2 ⟨by rw [←N6];exact hcl.1,hcl.2,fun i v y hv hy=>hx.ok i v y (by have:=(Ad.1 hv).1;omega) hv hy⟩
 refine Tt ?_;exact yq

theorem AG2 {e:Expr} (h:E8 e=true):Nz e=true:=by
 unfold Nz
 cases On h with
 | val v hp h0=>simpa [Rd,Expr.op,Expr.val] using hp
 | name t ht=>rfl
 | neg a=>rfl
 | no a=>rfl
 | bin t a b ht=>rfl
 | call t k ht=>rfl
mutual
theorem ka:∀e:Expr,Es E8 e=true→Es Nz e=true
 | .mk o t v k,h=>by
  rw [Es,As] at h ⊢
  exact ⟨AG2 h.1,ot k h.2⟩
theorem ot:∀k:List Expr,Ji E8 k=true→Ji Nz k=true
  | [],_=>rfl
  | e::r,h=>by
    rw [Ji,As] at h ⊢
    exact ⟨ka e h.1,ot r h.2⟩
 end
theorem AG3 {c:List Col} {l:List Val} (h:F4 c l=true) (hr:∀v∈l, -9223372036854775808≤v.n∧v.n≤9223372036854775807):∀v∈l,Fine v:=fun v hv=>by
 obtain ⟨i,hi⟩:=Cf hv
 obtain ⟨_,h2,h3⟩:=row_iff.1 h
 have hil:=(Ad.1 hi).1
 exact ⟨(h3 i v _ hi (Aa (show i<c.length by omega))).1,(hr v hv).1,(hr v hv).2⟩
theorem c73 (n:Nat) (x:Expr) (hok:okE n x) (hn:n≤1048576) (hrg:Es L5 x=true) (c:List Col) (hc:OkCols c) (l:List Val) (hll:l.length≤1048576) (hlr:∀v∈l, -9223372036854775808≤v.n∧v.n≤9223372036854775807) (Hp:List AObj):AFun Tryz.prog 73 [Ab x,Ao c,Bt l] Hp (Q6 (Em x c l)):=by
 refine Ag [.cell 6 42,.tmp 7] [0,1,2] Tryz.func73 Tryz.ntmps73 (fun d=>?_)
 refine Z2 ?_;refine Z81 ?_;refine A2 [1,2,3,6] ?_;refine Z29 ?_;refine A8 Tryz.call59 (c59 n x hok hn _) ?_;refine Z38 ?_;refine Bm Tryz.call14 (fun hB=>c14 c hc l hll _) ?_;refine Z74 ?_;refine A2 [1,2,3,6,16] ?_
 refine A3 (fun ht16=>?_) (fun ht16=>?_)
 ·have hm:Em x c l=Cz 1:=if_pos ht16
  refine cp ?_;refine Z27 ?_;exact Z50
 have hm:Em x c l=Al c l x:=if_neg (by rw [ht16];simp)
 have hrr:Bk x=true∧F4 c l=true:=by simpa using ht16
 obtain ⟨hr,hrow⟩:=hrr
 refine Lq ?_;refine ja ?_;refine A4 ?_;refine A8 Tryz.call105 (AUv c l hc (row_iff.1 hrow).2.1 (AG3 hrow hlr) n x hok (Kx hr) hrg (ka x (Kx hr)) _) ?_;refine lw ?_;exact Z45

theorem AB6 {x:Expr} {c:List Col} {l:List Val} (hk:(Et x c).2=0) (hrow:F4 c l=true):KOk (Et x c).1 (Em x c l):=by
 obtain ⟨h1,h2,h3⟩:=AFz hk
 rw [h3] at hk ⊢
 rw [AJf h1 hrow]
 exact x7 hrow (sizeE x) x (Aj _) (Kx h1) hk
set_option maxRecDepth 8000
/-! Trees that are trimmed. -/
theorem bc {v:Val} (hp:Cg v=true) (h:v.kind=0):v=noV:=by
 obtain ⟨k,n,s⟩:=v
 simp only at h
 subst h
 simp [Cg] at hp
 rw [hp.1,hp.2];rfl
theorem be {v:Val} (hp:Cg v=true) (h:v.kind=3):v=E4 true∨v=E4 false:=by
 obtain ⟨k,n,s⟩:=v
 simp only at h
 subst h
 simp [Cg] at hp
 obtain ⟨⟨rfl,h0⟩,h1⟩:=hp
 have:n=0∨n=1:=by omega
 rcases this with rfl|rfl
 ·exact .inr rfl
 exact .inl rfl
theorem R8 {k:List Expr} {i:Nat} (h:i<k.length):k.getD i At∈k:=by
 rw [D3,Aa h]
 exact Av h
theorem ou (S:List Val→Rs) (ra:Rs):I9 S [ra]=if (ra.2 != 0)=true then (noV,ra.2) else if (ra.1.kind==0)=true then (noV,0) else S [ra.1]:=by
 unfold I9
 cases h:ra.2 != 0 with
 | true=>simp [h,Cz]
 | false=>simp [h]
theorem AG4 (S:List Val→Rs) (ra rb:Rs):I9 S [ra,rb]=if (ra.2 != 0)=true then (noV,ra.2) else if (rb.2 != 0)=true then (noV,rb.2) else if ((ra.1.kind==0) || (rb.1.kind==0))=true then (noV,0) else S [ra.1,rb.1]:=by
 unfold I9
 cases h:ra.2 != 0 with
 | true=>simp [h,Cz]
 | false =>
  cases h2:rb.2 != 0 with
  | true=>simp [h,h2,Cz]
  | false=>simp [h,h2]
theorem W3 {r:Rs} (h:(r.2 != 0)=true):B9 r=r:=by
 unfold B9
 have:(r.2==0)=false:=by simpa using h
 rw [this]
 simp
theorem W4 {v:Val} (h:((v.kind==0) || (v.kind==3))=false):B9 (v,0)=(noV,10):=by
 simp only [Cr,beq_eq_false_iff_ne,ne_eq] at h
 unfold B9
 rw [if_pos (by simp [h.1,h.2])]
 rfl
theorem bf {v:Val} (h:((v.kind==0) || (v.kind==3))=true):B9 (v,0)=(v,0):=by
 unfold B9
 rw [if_neg]
 simp only [Co,beq_iff_eq] at h
 simp
 intro h0
 rcases h with h|h
 ·exact absurd h h0
 exact h
theorem kb {r:Rs} (h:(r.2 != 0)=false):r=(r.1,0):=by
 obtain ⟨v,e⟩:=r
 have:e=0:=by simpa using h
 rw [this]
theorem AG5 {r:Rs} (h:Mp r) (h2:(r.2 != 0)=true):r=(noV,r.2):=by
 obtain ⟨v,e⟩:=r
 have:=h (by simpa using h2)
 simp only at this ⊢
 rw [this]
theorem AB7 {t:Str} (ht:t=orW∨t=Re) {a:Val} {rb:Rs} (fa:Fine a) (fb:Fine rb.1) (eb:Mp rb):Gq (E4 (t==orW)) (a,0) rb=AFv t a rb:=by
 unfold AFv Gq
 cases h3:(a.kind==0) || (a.kind==3) with
 | false=>rw [W4 h3];rfl
 | true =>
  rw [bf h3]
  simp only [C9,Af,if_false,show ((0:Int) != 0)=false from rfl,C8]
  cases h4:a==E4 (t==orW) with
  | true=>simp
  | false =>
   simp only [Af,if_false]
   cases h5:rb.2 != 0 with
   | true =>
    rw [W3 h5,h5]
    simp only [Da,if_true]
    exact AG5 eb h5
   | false =>
    simp only [Af,if_false]
    rw [kb h5]
    generalize rb.1=b at fb
    try simp only
    cases h6:(b.kind==0) || (b.kind==3) with
    | false =>
     rw [W4 h6]
     have:((b.kind != 0)&&(b.kind != 3))=true:=by
      simp only [Cr,beq_eq_false_iff_ne,ne_eq] at h6
      simp [h6.1,h6.2]
     rw [if_pos this]
     rfl
    | true =>
     rw [bf h6]
     have:((b.kind != 0)&&(b.kind != 3))=false:=by
      simp only [Co,beq_iff_eq] at h6
      rcases h6 with h|h<;>simp [h]
     rw [this]
     simp only [Af,if_false,show ((0:Int) != 0)=false from rfl,C8]
     cases h7:b==E4 (t==orW) with
     | true=>simp
     | false =>
      simp only [C8,Af,if_false]
      by_cases ha0:a.kind=0
      ·have e:a=noV:=bc fa.plain ha0
       rw [e]
       rfl
      rw [if_pos (by simpa using ha0)]
      by_cases hb0:b.kind=0
      ·rw [if_pos (by simp [hb0]),bc fb.plain hb0]
      rw [if_neg (by simp [ha0,hb0])]
      have hb3:b.kind=3:=by simpa [hb0] using h6
      rcases be fb.plain hb3 with rfl|rfl
      ·rcases ht with rfl|rfl
       ·cases h7
       rfl
      rcases ht with rfl|rfl
      ·rfl
      cases h7
theorem ANk {ra rb rc:Rs} (fa:Fine ra.1) (h:(ra.2 != 0)=false):E9 ifW ra rb rc=if (!((ra.1.kind==0) || (ra.1.kind==3)))=true then (noV,10) else if (ra.1.n==1)=true then rb else rc:=by
 have e:=kb h
 generalize ra.1=a at fa e ⊢
 subst e
 unfold E9
 rw [if_pos (show (ifW==ifW)=true from rfl)]
 cases h3:(a.kind==0) || (a.kind==3) with
 | false=>rw [W4 h3];rfl
 | true =>
  rw [bf h3,if_neg (by simp)]
  simp only [C9,Af,if_false]
  have e2:(a==E4 true)=(a.n==1):=by
   simp only [Co,beq_iff_eq] at h3
   rcases h3 with h3|h3
   ·rw [bc fa.plain h3];rfl
   rcases be fa.plain h3 with rfl|rfl<;>rfl
  rw [e2]
theorem AG6 {n:Int} (h0 : -9223372036854775808≤n) (h1:n≤9223372036854775807):Sq (Lib.itoa n)=⟨2,0,Lib.itoa n⟩:=by
 have:=Lib.itoa_length_le n (by omega) (by omega)
 unfold Sq
 rw [D8 (by omega)]
theorem AG7 (n:Int) (k:Nat):(max 0 (min n k))=Oo n k:=by
 unfold Oo
 by_cases h:n<0
 ·rw [if_pos (by simpa using h)];omega
 rw [if_neg (by simpa using h)]
 by_cases h2:n<k
 ·rw [if_pos (by simpa using h2)];omega
 rw [if_neg (by simpa using h2)];omega
theorem AB8 {t:Str} (a b:Val) (hl:a.s.length≤200):L7 t a.s b.n=(uj t a b).1∧(uj t a b).2=0:=by
 unfold L7 uj
 rw [AG7]
 show (if (t==Wu)=true then _ else _)=_∧_
 cases t==Wu with
 | true =>
  simp only [if_true,and_true]
  unfold Sq
  rw [D8 (by rw [Bx];omega)]
 | false =>
  simp only [Af,if_false,and_true]
  unfold Sq
  rw [D8 (by rw [Fh];omega)]
section
variable {a b:Val}
theorem AJk (fa:Fine a):B0 3 [] [a]=(if (a.kind != 1)=true then (noV,10) else fh (!decide (a.n<0)) a.n.natAbs):=by
 show (if (((3:Int)==5))=true then _ else if (((3:Int)==3)&&By [a] [1])=true then Fu (Lt 0 a.n) else _)=_
 rw [if_neg (by decide)]
 have e:By [a] [1]=(a.kind==1):=by simp [By]
 rw [e]
 cases h:a.kind==1 with
 | true =>
  have h':(a.kind != 1)=false:=by rw [bne,h];rfl
  rw [if_pos (by rfl),h',M4,M3,o6,Q8,wn (by decide) (by decide) fa.lo fa.hi]
  simp
 | false =>
  have h':(a.kind != 1)=true:=by rw [bne,h];rfl
  rw [if_neg (by simp),h']
  rfl
theorem AJl:B0 4 [] [a]=(if (a.kind != 3)=true then (noV,10) else (E4 (a.n==0),0)):=by
 show (if (((4:Int)==5))=true then _ else if (((4:Int)==3)&&By [a] [1])=true then _ else if (((4:Int)==4)&&By [a] [3])=true then (E4 (a.n==0),0) else _)=_
 rw [if_neg (by decide),if_neg (by simp)]
 have e:By [a] [3]=(a.kind==3):=by simp [By]
 rw [e]
 cases h:a.kind==3 with
 | true =>
  have h':(a.kind != 3)=false:=by rw [bne,h];rfl
  rw [if_pos (by rfl),h']
  rfl
 | false =>
  have h':(a.kind != 3)=true:=by rw [bne,h];rfl
  rw [if_neg (by simp),h']
  rfl
theorem AJm:B0 6 Rg [a]=dh Rg a ⟨9,0,[]⟩:=by
 show H9 Rg a=_
 unfold H9 dh
 simp only [show (Rg==[115,116,114])=false from rfl,show (Rg==[108,101,110])=true from rfl,show (Rg==[110,117,109])=false from rfl,show (Rg==Rf)=false from rfl,show (Rg==Rg)=true from rfl,Ey,Dl,Af,if_false,if_true]
 cases h:a.kind==2 with
 | true=>rw [show (a.kind != 2)=false by rw [bne,h];rfl];rfl
 | false=>rw [show (a.kind != 2)=true by rw [bne,h];rfl];rfl
theorem AJn:B0 6 Rh [a]=dh Rh a ⟨9,0,[]⟩:=by
 show H9 Rh a=_
 unfold H9 dh
 simp only [show (Rh==[115,116,114])=false from rfl,show (Rh==[108,101,110])=false from rfl,show (Rh==[110,117,109])=true from rfl,show (Rh==Rf)=false from rfl,show (Rh==Rg)=false from rfl,show (Rh==Rh)=true from rfl,Ey,Dl,Af,if_false,if_true]
 cases h:a.kind==2 with
 | true=>rw [show (a.kind != 2)=false by rw [bne,h];rfl];rfl
 | false=>rw [show (a.kind != 2)=true by rw [bne,h];rfl];rfl
theorem AJo (fa:Fine a):B0 6 Rf [a]=dh Rf a ⟨9,0,[]⟩:=by
 show H9 Rf a=_
 unfold H9 dh
 simp only [show (Rf==[115,116,114])=true from rfl,show (Rf==[108,101,110])=false from rfl,show (Rf==[110,117,109])=false from rfl,show (Rf==Rf)=true from rfl,Ey,Dl,Af,if_false,if_true]
 cases h:a.kind==1 with
 | true=>rw [show (a.kind != 1)=false by rw [bne,h];rfl,AG6 fa.lo fa.hi];rfl
 | false=>rw [show (a.kind != 1)=true by rw [bne,h];rfl];rfl
theorem fm (fa:Fine a) {t:Str} (ht:t=Wu∨t=[114,105,103,104,116]):B0 6 t [a,b]=dh t a b:=by
 show (if (!By [a,b] [2,1])=true then Cz 10 else (L7 t a.s b.n,0))=_
 have e1:(t==Rf)=false:=by rcases ht with rfl|rfl<;>rfl
 have e2:(t==Rg)=false:=by rcases ht with rfl|rfl<;>rfl
 have e3:(t==Rh)=false:=by rcases ht with rfl|rfl<;>rfl
 unfold dh
 rw [e1,e2,e3]
 simp only [Af,if_false]
 have e:By [a,b] [2,1]=((a.kind==2)&&(b.kind==1)):=by simp [By]
 rw [e]
 have hp:=AB8 (t:=t) a b fa.len
 cases h:a.kind==2 with
 | false=>rw [show (a.kind != 2)=true by rw [bne,h];rfl];rfl
 | true =>
  rw [show (a.kind != 2)=false by rw [bne,h];rfl]
  cases h2:b.kind==1 with
  | false=>rw [show (b.kind != 1)=true by rw [bne,h2];rfl];rfl
  | true =>
   rw [show (b.kind != 1)=false by rw [bne,h2];rfl]
   show (L7 t a.s b.n,(0:Int))=uj t a b
   rw [hp.1,←hp.2]
end
theorem ov {a:Val}:((a.kind==0) || ((⟨9,0,[]⟩:Val).kind==0))=(a.kind==0):=by simp
/-- The reference's way is the tree's value. -/
theorem ANl {c:List Col} {l:List Val} {e:Expr} (hn:E8 e=true) (hf:∀y∈e.kids,Fine (Al c l y).1∧Mp (Al c l y)) (h1:(e.op==1)=false) (h2:(e.op==2)=false):Al c l e=Ka (e.kids.length:Int) e.op e.text (Al c l (e.kids.getD 0 At)) (Al c l (e.kids.getD 1 At)) (Al c l (e.kids.getD 2 At)):=by
 cases On hn with
 | val v hp h0=>cases h1
 | name t ht=>cases h2
 | neg x =>
  obtain ⟨fa,_⟩:=hf x (by simp [Mw,Expr.kids])
  show I9 (B0 3 []) [Al c l x]=Ka 1 3 [] (Al c l x) _ _
  rw [ou]
  generalize Al c l x=ra at fa ⊢
  unfold Ka
  cases h:ra.2 != 0 with
  | true=>rfl
  | false =>
   show _=Sx 3 [] ra.1 ⟨9,0,[]⟩
   unfold Sx
   rw [ov,AJk fa]
   rfl
 | no x =>
  obtain ⟨fa,_⟩:=hf x (by simp [Mw,Expr.kids])
  show I9 (B0 4 []) [Al c l x]=Ka 1 4 [] (Al c l x) _ _
  rw [ou]
  generalize Al c l x=ra at fa ⊢
  unfold Ka
  cases h:ra.2 != 0 with
  | true=>rfl
  | false =>
   show _=Sx 4 [] ra.1 ⟨9,0,[]⟩
   unfold Sx
   rw [ov,AJl]
   rfl
 | bin t x y ht =>
  obtain ⟨fa,ea⟩:=hf x (by simp [Mv,Expr.kids])
  obtain ⟨fb,eb⟩:=hf y (by simp [Mv,Expr.kids])
  show J8 B0 c l 5 t noV [Al c l x,Al c l y]=Ka 2 5 t (Al c l x) (Al c l y) _
  generalize Al c l x=ra at fa ea ⊢
  generalize Al c l y=rb at fb eb ⊢
  have hlog:(t=orW∨t=Re)→Gq (E4 (t==orW)) ra rb=if (ra.2 != 0)=true then (noV,ra.2) else AFv t ra.1 rb:=fun h=>by
   cases h5:ra.2 != 0 with
   | true =>
    unfold Gq
    rw [W3 h5,h5]
    simp only [Da,if_true]
    exact AG5 ea h5
   | false =>
    rw [if_neg (by simp)]
    have e:=kb h5
    rw [e]
    exact AB7 h fa fb eb
  unfold Ka J8
  simp only [show ((5:Int)==1)=false from rfl,show ((5:Int)==2)=false from rfl,show ((5:Int)==5)=true from rfl,show ((5:Int)==6)=false from rfl,Dl,Ey,Af,if_false]
  cases ho:t==orW with
  | true =>
   have et:t=orW:=eq_of_beq ho
   have:=hlog (.inl et)
   rw [ho] at this
   simp only [Da,if_true]
   exact this
  | false =>
   cases hw:t==Re with
   | true =>
    have et:t=Re:=eq_of_beq hw
    have:=hlog (.inr et)
    rw [ho] at this
    simp only [C8,Af,if_false,if_true]
    exact this
   | false =>
    simp only [C8,Af,if_false]
    show I9 (B0 5 t) [ra,rb]=_
    rw [AG4]
    cases h5:ra.2 != 0 with
    | true=>rfl
    | false =>
     show _=(if (rb.2 != 0)=true then (noV,rb.2) else Sx 5 t ra.1 rb.1)
     rfl
 | call t k ha =>
  rcases Kb ha with ⟨e,hk⟩|⟨e,hk⟩|⟨e,hk⟩|⟨e,hk⟩|⟨e,hk⟩|⟨e,hk⟩|⟨e,hk⟩|⟨e,hk⟩<;>subst e
  ·match k,hk with
   | [x],_ =>
    obtain ⟨fa,_⟩:=hf x (by simp [Expr.kids])
    show I9 (B0 6 Rg) [Al c l x]=Ka 1 6 Rg (Al c l x) _ _
    rw [ou,AJm]
    cases h:(Al c l x).2 != 0 with
    | true=>unfold Ka;rw [h];rfl
    | false =>
     unfold Ka
     rw [h]
     show _=Sx 6 Rg (Al c l x).1 ⟨9,0,[]⟩
     unfold Sx
     rw [ov]
     rfl
  ·match k,hk with
   | [x],_ =>
    obtain ⟨fa,_⟩:=hf x (by simp [Expr.kids])
    show I9 (B0 6 Rf) [Al c l x]=Ka 1 6 Rf (Al c l x) _ _
    rw [ou,AJo fa]
    cases h:(Al c l x).2 != 0 with
    | true=>unfold Ka;rw [h];rfl
    | false =>
     unfold Ka
     rw [h]
     show _=Sx 6 Rf (Al c l x).1 ⟨9,0,[]⟩
     unfold Sx
     rw [ov]
     rfl
  ·match k,hk with
   | [x],_ =>
    obtain ⟨fa,_⟩:=hf x (by simp [Expr.kids])
    show I9 (B0 6 Rh) [Al c l x]=Ka 1 6 Rh (Al c l x) _ _
    rw [ou,AJn]
    cases h:(Al c l x).2 != 0 with
    | true=>unfold Ka;rw [h];rfl
    | false =>
     unfold Ka
     rw [h]
     show _=Sx 6 Rh (Al c l x).1 ⟨9,0,[]⟩
     unfold Sx
     rw [ov]
     rfl
  ·match k,hk with
   | [x],_ =>
    obtain ⟨fa,ea⟩:=hf x (by simp [Expr.kids])
    show E9 C7 (Al c l x) (noV,0) (noV,0)=Ka 1 6 C7 (Al c l x) _ _
    unfold E9 Ka
    cases h:(Al c l x).2 != 0 with
    | true=>rfl
    | false=>rfl
  ·match k,hk with
   | [x,y],_ =>
    obtain ⟨fa,ea⟩:=hf x (by simp [Expr.kids])
    show E9 P9 (Al c l x) (Al c l y) (noV,0)=Ka 2 6 P9 (Al c l x) (Al c l y) _
    unfold E9 Ka
    cases h:(Al c l x).2 != 0 with
    | true=>rfl
    | false=>rfl
  ·match k,hk with
   | [x,y],_ =>
    obtain ⟨fa,_⟩:=hf x (by simp [Expr.kids])
    show I9 (B0 6 Wu) [Al c l x,Al c l y]=Ka 2 6 Wu (Al c l x) (Al c l y) _
    rw [AG4,fm fa (.inl rfl)]
    unfold Ka
    cases h:(Al c l x).2 != 0 with
    | true=>rfl
    | false=>rfl
  ·match k,hk with
   | [x,y],_ =>
    obtain ⟨fa,_⟩:=hf x (by simp [Expr.kids])
    show I9 (B0 6 [114,105,103,104,116]) [Al c l x,Al c l y]=Ka 2 6 [114,105,103,104,116] (Al c l x) (Al c l y) _
    rw [AG4,fm fa (.inr rfl)]
    unfold Ka
    cases h:(Al c l x).2 != 0 with
    | true=>rfl
    | false=>rfl
  match k,hk with
  | [x,y,z],_ =>
   obtain ⟨fa,ea⟩:=hf x (by simp [Expr.kids])
   show E9 ifW (Al c l x) (Al c l y) (Al c l z)=Ka 3 6 ifW (Al c l x) (Al c l y) (Al c l z)
   unfold Ka
   cases h:(Al c l x).2 != 0 with
   | true =>
    unfold E9
    rw [W3 h,h]
    rfl
   | false =>
    rw [ANk fa h]
    rfl
set_option maxRecDepth 4000
theorem AB9 {a:Int} (h:AMs a):Ld a=(a.natAbs:Int):=R3 h.1 h.2
theorem AJp {u:Int} (h:0≤u) (h2:u<18446744073709551616):IntKind.u64.wrap (IntKind.u64.wrap (IntKind.u64.wrap (u.tdiv 4294967296)*4294967296)+u.tmod 4294967296)=u:=by
 simp only [IntKind.wrap_u64]
 rw [Y7 h,Y8 h]
 omega
/-- How far the digits have come. -/
def DGR (n:Nat) (x:Nat×Str):Prop:=(x.1=n∧x.2=[])∨(x.2≠[]∧(if x.1=0 then [] else Lib.decDigits x.1)++x.2=Lib.decDigits n)
theorem DGR.step {n:Nat} {x:Nat×Str} (h:DGR n x) (hc:0<x.1∨x.2=[]):DGR n (x.1 / 10,UInt8.ofNat (48+x.1 % 10)::x.2):=by
 obtain ⟨u,s⟩:=x
 refine .inr ⟨by simp,?_⟩
 simp only at *
 have key:(if u / 10=0 then [] else Lib.decDigits (u / 10))++[UInt8.ofNat (48+u % 10)]=Lib.decDigits u:=by
  rw [Lib.decDigits.eq_1 u]
  by_cases h10:u<10
  ·rw [dif_pos h10,if_pos (by omega),Qr h10];rfl
  rw [dif_neg h10,if_neg (by omega)]
 rw [show UInt8.ofNat (48+u % 10)::s=[UInt8.ofNat (48+u % 10)]++s from rfl,←Ca,key]
 rcases h with ⟨h1,h2⟩|⟨h1,h2⟩
 ·simp only at h1 h2
  rw [h1,h2,Hs]
 simp only at h1 h2
 rw [←h2,if_neg (by rcases hc with hc|hc;omega;exact absurd hc h1)]
theorem DGR.done {n:Nat} {x:Nat×Str} (h:DGR n x) (h1:¬0<x.1) (h2:x.2≠[]):x.2=Lib.decDigits n:=by
 rcases h with ⟨_,h⟩|⟨_,h⟩
 ·exact absurd h h2
 rw [if_pos (by omega)] at h
 simpa using h
theorem DGR.len {n:Nat} {x:Nat×Str} (h:DGR n x) (hn:n≤9223372036854775808):x.2.length≤21:=by
 have h2:(Lib.decDigits n).length≤21:=by
  have:=Lib.itoa_length_le (-(n:Int)) (by omega) (by omega)
  unfold Lib.itoa at this
  split at this
  ·have e:(-(n:Int)).natAbs=n:=by omega
   rw [e] at this
   simp at this
   omega
  have:n=0:=by omega
  rw [this]
  rw [Lib.decDigits_one (by omega)]
  simp
 rcases h with ⟨_,h⟩|⟨_,h⟩
 ·rw [h];simp
 have:=congrArg List.length h
 rw [Ap] at this
 omega
theorem DGR.le {n:Nat} {x:Nat×Str} (h:x.1≤n):x.1 / 10≤n:=by omega
theorem AS6 (u:Nat):IntKind.u8.wrap (48+IntKind.u8.wrap ((u:Int).tmod 10))=((UInt8.ofNat (48+u % 10)).toNat:Int):=by
 rw [Y8 (by omega)]
 simp [IntKind.wrap,IntKind.bits,IntKind.signed,UInt8.toNat_ofNat']
theorem ANm {u n:Nat} (h:u≤n) (hn:n≤9223372036854775808):IntKind.u64.wrap ((u:Int).tdiv 10)=((u / 10:Nat):Int):=by
 rw [Y7 (by omega),IntKind.wrap_u64]
 omega
theorem fp (a:Int):Lib.itoa a=if decide (a<0) then 45::Lib.decDigits a.natAbs else Lib.decDigits a.natAbs:=by
 unfold Lib.itoa
 by_cases h:a<0
 ·simp [h]
 have:a.toNat=a.natAbs:=by omega
 simp [h,this]
theorem c57 (a:Int) (ha:AMs a) (Hp:List AObj):AFun Tryz.prog 57 [A5 a] Hp (Ae (Lib.itoa a)):=by
 have hs:=AB9 ha
 have hn:a.natAbs≤9223372036854775808:=by have:=ha.1;have:=ha.2;omega
 have hh:=AJp (u:=Ld a) (by rw [hs];omega) (by rw [hs];omega)
 refine Ag [.tmp 2] [0] Tryz.func57 Tryz.ntmps57 (fun d=>?_)
 refine Z48 ?_;refine Z2 ?_;refine A8 Tryz.call56 (c56 a _) ?_;refine Z20 ?_;refine A2 [3] ?_;refine Z2 ?_;refine ADt ?_;refine Z10 ?_;refine AHu ?_;refine A4 ?_
 refine A4 (h:=Gc) (hr:=?_)
 rw [hh,hs]
 refine A4 ?_;refine A2 [3,4] ?_;refine Z2 ?_;refine A2 [3,4,5] ?_;refine Mh ?_
 refine Az (α:=Nat×Str) (fun x=>⟨37,A6 3 (.ptr (oid Hp.length 0) 0) (A6 4 (Bo (x.1:Nat)) (A6 5 (Ae x.2) (fun _=>.any))),Hp,[.cells 91 (az a)],[],none⟩) (fun x=>x.1≤a.natAbs∧DGR a.natAbs x) (fun x=>2*x.1+(if x.2=[] then 1 else 0)) ((a.natAbs,[])) ⟨Aj _,.inl ⟨rfl,rfl⟩⟩ (B5 (by simp)) rfl (fun x hx=>?_)
 refine Z33 ?_;refine Z96 ?_;refine A2 [3,4,5,21] ?_
 refine A3 (fun ht21=>?_) (fun ht21=>?_)
 ·have hc:0<x.1∨x.2=[]:=by
   have h:=ht21
   simp only [Co,decide_eq_true_eq,beq_iff_eq] at h
   rcases h with h|h
   ·exact .inl (by omega)
   exact .inr h
  have hl21:=hx.2.len hn
  refine ADn ?_;refine Z19 ?_
  refine A4 (h:=Gc) (hr:=?_)
  refine s7 ?_
  rw [AS6]
  refine R.bytesStr [UInt8.ofNat (48+x.1 % 10)] jU jU jU ?_;refine A4 ?_
  refine A4 (h:=Q.sadd (hl:=fun _=>by simp only [B6,Bw];omega)) (hr:=?_)
  refine A4 ?_;refine A2 [3,4,5] ?_;refine Z31 ?_
  rw [ANm hx.1 hn]
  refine A4 ?_;refine A2 [3,4,5] ?_;refine L3 ?_
  refine Ay (x.1 / 10,UInt8.ofNat (48+x.1 % 10)::x.2) ⟨DGR.le hx.1,hx.2.step hc⟩ (by rw [if_neg (by simp)];rcases hc with h|h;omega;rw [if_pos h];omega) (Bh rfl)
 have hl21:=hx.2.len hn
 have hD:x.2=Lib.decDigits a.natAbs:=by
  have h:=ht21
  simp only [Cr,decide_eq_false_iff_not,beq_eq_false_iff_ne] at h
  exact hx.2.done (by omega) h.2
 refine Z44 ?_;refine Z8 ?_;refine A2 [5,33] ?_
 refine A3 (fun ht33=>?_) (fun ht33=>?_)
 ·have hm:=fp a
  rw [if_pos ht33] at hm
  refine Z51 ?_
  refine A4 (h:=Q.sadd (hl:=fun _=>by simp only [B6,Bw];omega)) (hr:=?_)
  refine A4 ?_;refine A2 [5] ?_;refine Er ?_;refine j8 ?_;exact AQs
 have hm:=fp a
 rw [if_neg (by rw [ht33];simp)] at hm
 refine Lq ?_;refine Z3 ?_;exact AQs

set_option maxRecDepth 8000
/-! The document's kinds of trees are infer's. -/
def Fm (k w:Int):Bool:=(k==0) || (k==w)
def Hj (o:Int) (t:Str) (ks:List Int):Int×Bool:=
 if o==3 then (1,Fm (ks.getD 0 0) 1) else if o==4 then (3,Fm (ks.getD 0 0) 3)
 else if (o==5)&&((t==[111,114]) || (t==[97,110,100])) then (3,Fm (ks.getD 0 0) 3&&Fm (ks.getD 1 0) 3)
 else if (o==5)&&(Dq t==3) then (3,(ks.getD 0 0==0) || Fm (ks.getD 1 0) (ks.getD 0 0))
 else if (o==5)&&(t==[38]) then (2,Fm (ks.getD 0 0) 2&&Fm (ks.getD 1 0) 2)
 else if o==5 then (1,Fm (ks.getD 0 0) 1&&Fm (ks.getD 1 0) 1)
 else if (t==[108,101,110]) || (t==[110,117,109]) then (1,Fm (ks.getD 0 0) 2)
 else if t==[115,116,114] then (2,Fm (ks.getD 0 0) 1)
 else if (t==[108,101,102,116]) || (t==[114,105,103,104,116]) then (2,Fm (ks.getD 0 0) 2&&Fm (ks.getD 1 0) 1)
 else if t==[105,115,110,117,108,108] then (3,true)
 else (if ks.getD (ks.length-2) 0==0 then ks.getD (ks.length-1) 0 else ks.getD (ks.length-2) 0,
  ((ks.getD (ks.length-2) 0==0) || Fm (ks.getD (ks.length-1) 0) (ks.getD (ks.length-2) 0))&&((t==[110,118,108]) || Fm (ks.getD 0 0) 3))
def W5 (o:Int) (t:Str) (ks:List Int):Int×Int:=if (Hj o t ks).2 then ((Hj o t ks).1,0) else (0,10)
theorem R9 (w k:Int) (hw:(w==0)=false):(Gj w k).2=Fm k w:=by
 unfold Gj Fm
 rw [hw]
 simp only [Af,if_false]
 by_cases h:(k==0)=true
 ·simp [h]
 have h':(k==0)=false:=by simpa using h
 rw [h']
 by_cases h2:w=k
 ·subst h2;simp
 have:¬k=w:=fun e=>h2 e.symm
 simp [h2,this]
theorem AJq (t:Str):(Dq t==3)=((((((t==[61]) || (t==[33,61])) || (t==[60])) || (t==[60,61])) || (t==[62])) || (t==[62,61])):=by
 by_cases h:t∈[[61],[33,61],[60],[60,61],[62],[62,61]]
 ·simp only [Bu,Fi,or_false] at h
  rcases h with rfl|rfl|rfl|rfl|rfl|rfl<;>rfl
 have e:((((((t==[61]) || (t==[33,61])) || (t==[60])) || (t==[60,61])) || (t==[62])) || (t==[62,61]))=false:=by
  simp only [Bu,Fi,or_false,not_or] at h
  simp [h]
 rw [e]
 unfold Dq
 split
 ·rename_i i hi
  rw [Jx] at hi
  obtain ⟨hl,hc,_⟩:=hi
  by_cases h3:i=3
  ·subst h3
   exact (h (by simp [levels] at hc;simpa using hc)).elim
  have:¬((i:Int)=3):=by omega
  simp [this]
 rfl
theorem x8 {s:Sign} {a w:Int} (hk:s.kids=[w]) (hw:(w==0)=false) (h1:(w == -1)=false) (h2:(w == -2)=false) (ho:(s.own == -1)=false):L6 s [a]=if Fm a w then (s.own,0) else (0,10):=by
 unfold L6
 rw [hk]
 simp only [Hi,h1,h2,Af,if_false,R9 w a hw]
 cases Fm a w<;>simp [ho]
theorem x9 {s:Sign} {a b v w:Int} (hk:s.kids=[v,w]) (hv:(v==0)=false) (hv1:(v == -1)=false) (hv2:(v == -2)=false) (hw:(w==0)=false) (h1:(w == -1)=false) (h2:(w == -2)=false) (ho:(s.own == -1)=false):L6 s [a,b]=if Fm a v&&Fm b w then (s.own,0) else (0,10):=by
 unfold L6
 rw [hk]
 simp only [Hi,hv1,hv2,h1,h2,Af,if_false,R9 w b hw,R9 v a hv]
 cases Fm a v<;>cases Fm b w<;>simp [ho]
theorem AL7 {s:Sign} {a b:Int} (hk:s.kids=[-1, -1]):L6 s [a,b]=if (a==0) || Fm b a then (if s.own == -1 then (if a==0 then b else a,0) else (s.own,0)) else (0,10):=by
 unfold L6 Fm
 rw [hk]
 simp only [Hi,Gj]
 by_cases ha:a=0
 ·subst ha;simp
 by_cases hb:b=0
 ·subst hb;simp [ha]
 by_cases he:a=b
 ·subst he;simp [ha]
 have:¬b=a:=fun e=>he e.symm
 simp [ha,hb,he,this]
theorem ANn {s:Sign} {x a b:Int} (hk:s.kids=[3, -1, -1]):L6 s [x,a,b]=if ((a==0) || Fm b a)&&Fm x 3 then (if s.own == -1 then (if a==0 then b else a,0) else (s.own,0)) else (0,10):=by
 unfold L6 Fm
 rw [hk]
 simp only [Hi,R9 3 x rfl,Fm]
 simp only [Gj]
 by_cases hx:((x==0) || (x==3))=true
 ·by_cases ha:a=0
  ·subst ha;simp [hx]
  by_cases hb:b=0
  ·subst hb;simp [ha,hx]
  by_cases he:a=b
  ·subst he;simp [ha,hx]
  have:¬b=a:=fun e=>he e.symm
  simp [ha,hb,he,this,hx]
 simp [hx]
theorem AS7 {s:Sign} {x:Int} (hk:s.kids=[-2]) (ho:(s.own == -1)=false):L6 s [x]=(s.own,0):=by
 unfold L6
 rw [hk]
 simp [Hi,ho]
theorem ow {ks:List Int} (h:ks.length=1):∃a,ks=[a]:=by
 match ks,h with
 | [a],_=>exact ⟨a,rfl⟩
theorem AG8 {ks:List Int} (h:ks.length=2):∃a b,ks=[a,b]:=by
 match ks,h with
 | [a,b],_=>exact ⟨a,b,rfl⟩
theorem AS8 {ks:List Int} (h:ks.length=3):∃a b c,ks=[a,b,c]:=by
 match ks,h with
 | [a,b,c],_=>exact ⟨a,b,c,rfl⟩
theorem um (t:Str) (a b:Int):W5 5 t [a,b]=L6 (Dh t) [a,b]:=by
 unfold W5 Hj Dh
 simp only [AJq,show ((5:Int)==3)=false from rfl,show ((5:Int)==4)=false from rfl,show ((5:Int)==5)=true from rfl,Dl,Af,if_false]
 by_cases h1:((t==[111,114]) || (t==[97,110,100]))=true
 ·simp only [h1,if_true]
  rw [x9 (v:=3) (w:=3) rfl rfl rfl rfl rfl rfl rfl rfl]
  rfl
 simp only [h1,if_false,Af]
 by_cases h2:((((((t==[61]) || (t==[33,61])) || (t==[60])) || (t==[60,61])) || (t==[62])) || (t==[62,61]))=true
 ·simp only [h2,if_true]
  rw [AL7 rfl]
  rfl
 simp only [h2,if_false,Af]
 by_cases h3:(t==[38])=true
 ·simp only [h3,if_true]
  rw [x9 (v:=2) (w:=2) rfl rfl rfl rfl rfl rfl rfl rfl]
  rfl
 simp only [h3,if_false,Af,if_true]
 rw [x9 (v:=1) (w:=1) rfl rfl rfl rfl rfl rfl rfl rfl]
 rfl
theorem un {t:Str} {ks:List Int} (h:(Dx t).kids.length=ks.length):W5 6 t ks=L6 (Dx t) ks:=by
 unfold W5 Hj
 simp only [show ((6:Int)==3)=false from rfl,show ((6:Int)==4)=false from rfl,show ((6:Int)==5)=false from rfl,Ey,Af,if_false]
 unfold Dx at h ⊢
 by_cases h1:((t==[108,101,110]) || (t==[110,117,109]))=true
 ·simp only [h1,if_true] at h ⊢
  obtain ⟨a,rfl⟩:=ow h.symm
  rw [x8 (w:=2) rfl rfl rfl rfl rfl]
  rfl
 simp only [h1,if_false,Af] at h ⊢
 by_cases h2:(t==[115,116,114])=true
 ·simp only [h2,if_true] at h ⊢
  obtain ⟨a,rfl⟩:=ow h.symm
  rw [x8 (w:=1) rfl rfl rfl rfl rfl]
  rfl
 simp only [h2,if_false,Af] at h ⊢
 by_cases h3:((t==[108,101,102,116]) || (t==[114,105,103,104,116]))=true
 ·simp only [h3,if_true] at h ⊢
  obtain ⟨a,b,rfl⟩:=AG8 h.symm
  rw [x9 (v:=2) (w:=1) rfl rfl rfl rfl rfl rfl rfl rfl]
  rfl
 simp only [h3,if_false,Af] at h ⊢
 by_cases h4:(t==[105,115,110,117,108,108])=true
 ·simp only [h4,if_true] at h ⊢
  obtain ⟨a,rfl⟩:=ow h.symm
  rw [AS7 rfl rfl]
 simp only [h4,if_false,Af] at h ⊢
 by_cases h5:(t==[110,118,108])=true
 ·simp only [h5,if_true] at h ⊢
  obtain ⟨a,b,rfl⟩:=AG8 h.symm
  rw [AL7 rfl]
  simp
 simp only [h5,if_false,Af] at h ⊢
 obtain ⟨a,b,c,rfl⟩:=AS8 h.symm
 rw [ANn rfl]
 simp
theorem AJr {e:Expr} (h:E8 e=true) (h1:(e.op==1)=false) (h2:(e.op==2)=false) {ks:List Int} (hl:ks.length=e.kids.length):W5 e.op e.text ks=L6 (Js e.op e.text) ks:=by
 have hs:=Ny h h1 h2
 unfold Js at hs ⊢
 unfold E8 at h
 rw [h1,h2] at h
 simp only [Af,if_false] at h
 by_cases h3:e.op=3
 ·rw [h3] at hs ⊢
  simp only [beq_self_eq_true,if_true] at hs ⊢
  obtain ⟨a,rfl⟩:=ow (by rw [hl,←hs];rfl)
  rw [x8 (w:=1) rfl rfl rfl rfl rfl]
  rfl
 by_cases h4:e.op=4
 ·rw [h4] at hs ⊢
  obtain ⟨a,rfl⟩:=ow (by rw [hl,←hs];rfl)
  rw [show (if ((4:Int)==3)=true then (⟨[1],1⟩:Sign) else if ((4:Int)==4)=true then ⟨[3],3⟩ else if ((4:Int)==5)=true then Dh e.text else Dx e.text)=⟨[3],3⟩ from rfl,x8 (w:=3) rfl rfl rfl rfl rfl]
  rfl
 by_cases h5:e.op=5
 ·rw [h5] at hs ⊢
  rw [show (if ((5:Int)==3)=true then (⟨[1],1⟩:Sign) else if ((5:Int)==4)=true then ⟨[3],3⟩ else if ((5:Int)==5)=true then Dh e.text else Dx e.text)=Dh e.text from rfl] at hs ⊢
  obtain ⟨a,b,rfl⟩:=AG8 (by rw [hl,←hs,Sp])
  exact um _ _ _
 have h6:e.op=6:=by
  simp [h3,h4,h5] at h
  exact h.1
 rw [h6] at hs ⊢
 rw [show (if ((6:Int)==3)=true then (⟨[1],1⟩:Sign) else if ((6:Int)==4)=true then ⟨[3],3⟩ else if ((6:Int)==5)=true then Dh e.text else Dx e.text)=Dx e.text from rfl] at hs ⊢
 exact un (by rw [hs,hl])
/-! Moves: what mig.Right, sound.* and the document's layers 18, 19 answer. -/
structure Mov where
 kind:Int
 take:List Str
 give:List Col
 ahead:List Expr
 back:List Expr
abbrev L8 (l:List Expr):AV:=.slice false 6 (l.map Ab)
abbrev Nj (m:Mov):List AV:=[A5 m.kind,Gi m.take,Ao m.give,L8 m.ahead,L8 m.back]
abbrev Fv (m:Mov):AV:=.agg (Nj m)
abbrev Dz (l:List Mov):AV:=.slice false 5 (l.map Fv)
/-- Trees that may be walked. -/
structure OkEs (l:List Expr):Prop where
 len:l.length≤1048576
 ok:∀e∈l,okE 61 e
 size:∀e∈l,sizeE e≤1048576
 rng:∀e∈l,Es L5 e=true
structure OkMov (m:Mov):Prop where
 takes:m.take.length≤1048576
 names:∀s∈m.take,s.length≤1048576
 gives:OkCols m.give
 gives2:m.give.length≤1000000
 ahead:OkEs m.ahead
 back:OkEs m.back
structure OkMovs (l:List Mov):Prop where
 len:l.length≤1048576
 each:∀m∈l,OkMov m
def G8 (m:Mov):Bool:=
 if ((m.ahead.length:Int) != (m.give.length:Int)) || ((m.back.length:Int) != (m.take.length:Int)) then false
 else if m.kind==1 then ((m.take.length:Int)==0)&&((m.give.length:Int)==1)
 else if m.kind==2 then ((m.take.length:Int)==1)&&((m.give.length:Int)==0)
 else if (m.kind==3) || (m.kind==6) then ((m.take.length:Int)==1)&&((m.give.length:Int)==1)
 else if m.kind==4 then ((m.take.length:Int)==1)&&decide ((1:Int)<(m.give.length:Int))
 else if m.kind==5 then decide ((1:Int)<(m.take.length:Int))&&((m.give.length:Int)==1)
 else false
def Kc (m:Mov) (c:Col):Bool:=Df c.name&&(((Ci c.kind==[])==(m.kind==3)) && !((m.kind==3)&&(c.kind != 0)))
def Mq (m:Mov):Bool:=
 if m.kind==3 then eqE (m.ahead.getD 0 At) (Ds (m.take.getD 0 []))&&eqE (m.back.getD 0 At) (Ds (m.give.getD 0 ⟨[],0⟩).name)
 else if m.kind==6 then m.take.getD 0 []==(m.give.getD 0 ⟨[],0⟩).name else true
def Fo (m:Mov):Bool:=(((((G8 m&&m.give.all (Kc m))&&m.take.all Df)&&m.ahead.all Bk)&&m.back.all Bk)&&Mq m)
def Pa (l:List Mov):Bool:=decide ((l.length:Int)≤8)&&l.all Fo
/-! Columns behind moves. -/
def Wy (e:Expr) (c:List Col) (w:Int):Bool:=((Et e c).2==0)&&(((Et e c).1==w) || ((Et e c).1==0))
def Ba (c:List Col) (m:Mov):List Col:=
 if m.kind==3 then (if Bn (m.take.getD 0 []) c<0 then m.give else match m.give with
  | []=>[]
  | y::r=>⟨y.name,(c.getD (Bn (m.take.getD 0 []) c).toNat ⟨[],0⟩).kind⟩::r)
 else m.give
def O1 (e:Expr) (c:List Col) (w:Int):Int:=if (Et e c).2 != 0 then (Et e c).2 else if !Wy e c w then 10 else 0
def Ct (over:List Col):List Expr→List Col→Int
 | x::r,w::ws=>if O1 x over w.kind != 0 then O1 x over w.kind else Ct over r ws
 | _,_=>0
def Ge (c:List Col) (m:Mov):List Col:=m.take.map fun s=>c.getD (Bn s c).toNat ⟨[],0⟩
def Bc (c:List Col) (m:Mov):List Col×Int:=
 if (D4 c m.take (Ba c m)).2 != 0 then ([],(D4 c m.take (Ba c m)).2)
 else if Ct c m.ahead (Ba c m) != 0 then ([],Ct c m.ahead (Ba c m))
 else if Ct (D4 c m.take (Ba c m)).1 m.back (Ge c m) != 0 then ([],Ct (D4 c m.take (Ba c m)).1 m.back (Ge c m))
 else ((D4 c m.take (Ba c m)).1,0)
/-- The columns ahead of each move and behind the last one, till one is wrong; the error. -/
def Du (c:List Col):List Mov→List (List Col)×Int
 | []=>([c],0)
 | m::r=>if (Bc c m).2 != 0 then ([c],(Bc c m).2) else (c::(Du (Bc c m).1 r).1,(Du (Bc c m).1 r).2)
def Mr (c:List Col) (l:List Mov):Bool:=D7 c&&Pa l
/-- ref19.Steps. -/
def Gr (c:List Col) (l:List Mov):List (List Col)×Int:=if Mr c l then Du c l else ([],1)
/-- sound.Steps. -/
def Cp (c:List Col) (l:List Mov):List (List Col)×Int:=if (Gr c l).2 != 0 then ([],(Gr c l).2) else Gr c l
theorem M5 {m:Mov} (h:Fo m=true):G8 m=true:=by
 unfold Fo at h
 simp only [As] at h
 exact h.1.1.1.1.1
theorem Gf {m:Mov} (h:G8 m=true):m.ahead.length=m.give.length∧m.back.length=m.take.length:=by
 unfold G8 at h
 split at h
 ·cases h
 rename_i h1
 simp only [Co,bne_iff_ne,ne_eq,not_or,Classical.not_not] at h1
 omega
theorem Qa {m:Mov} (h:G8 m=true) (h3:((m.kind==3) || (m.kind==6))=true):m.take.length=1∧m.give.length=1:=by
 unfold G8 at h
 split at h
 ·cases h
 have h1:(m.kind==1)=false:=by simp at h3 ⊢;omega
 have h2:(m.kind==2)=false:=by simp at h3 ⊢;omega
 simp only [h1,h2,h3,if_true,if_false,Af,As,beq_iff_eq] at h
 omega
theorem J9 (c:List Col) (m:Mov):(Ba c m).length=m.give.length:=by
 unfold Ba
 split
 ·split
  ·rfl
  split<;>simp_all
 rfl
set_option maxRecDepth 4000
theorem Di {n k:Nat} {o:Bool} {l:List Col}:Low n (.slice o k (l.map Bj)):=by simp [or_imp,forall_and]
theorem AJs {α β:Type} {f:α→β} {l:List α} {k:Nat} {y:α} (h:l[k]? = some y):(l.map f)[k]? = some (f y):=by rw [Ce,h];rfl
theorem AUy (c:List Col) (hc:OkCols c) (take:List Str) (ht:take.length≤1048576) (give:List Col) (hg:OkCols give) (hg2:give.length≤1000000) (Hp:List AObj):AFun Tryz.prog 101 [Ao c,Gi take,Ao give] Hp (.tup [Ao (D4 c take give).1,A5 (D4 c take give).2]):=by
 refine Ag [.tmp 6,.tmp 7] [0,1,2,9] Tryz.func101 Tryz.ntmps101 (fun d=>?_)
 refine Z1 ?_;refine A2 [0,1,2,9] ?_;refine Z29 ?_;refine A8 Tryz.call68 (c68 c hc _) ?_;refine A4 ?_;refine A2 [0,1,2,9,12] ?_
 refine A3 (fun ht12=>?_) (fun ht12=>?_)
 ·have hr:D7 c=false:=by rw [Nw] at ht12;simpa using ht12
  refine Ys ?_;exact AP1
 have hr:D7 c=true:=by rw [Nw] at ht12;simpa using ht12
 refine Sg ?_;refine A8 Tryz.call138 (ATf c hc take ht _) ?_;refine A4 ?_;refine A2 [0,1,2,9,16] ?_
 refine A3 (fun ht16=>?_) (fun ht16=>?_)
 ·have hk:Gz c take=false:=by simpa using ht16
  refine Ys ?_;refine Z13 ?_;exact A9 (B1 A7 A7) ⟨by rw [tz hr hk];try rfl,rfl⟩
 have hk:Gz c take=true:=by simpa using ht16
 refine Z4 ?_;refine Z37 ?_;refine A2 [0,1,2,8,9] ?_;refine Z75 ?_;refine Yo 0 2 ?_
 refine Pu (fun hlow=>?_)
 refine Z0 ?_;refine A8 Tryz.call139 (ATh c take _) ?_;refine A2 [2,8,9,19] ?_;refine Mi ?_
 refine Sc (m:=1) Tryz.call167 (fun FR as' bd' hFR has hbd=>?_)
 have hFRl:∀s,Low (Hp.length+3) (FR s):=by
  intro s
  rw [hFR]
  refine Ux ?_
  revert s
  repeat (first|exact Bq|refine Bp (by simp [oid,or_imp,forall_and]<;>try omega) ?_)
 have hOl:∀{k:Nat},∀x∈[AObj.cells 22 [.slice true 2 ((Ch (c.take k) take).map Bj)],AObj.defs,AObj.loop LoopState.ready none FR 41 #[20] as' bd' (oid Hp.length 1)],ObjLow (Hp.length+3) x:=by
  intro k x hx
  simp only [Bu,Fi,or_false] at hx
  rcases hx with rfl|rfl|rfl
  ·intro y hy
   rw [Br.1 hy]
   exact Di
  ·trivial
  exact ADq
 refine ⟨_,ATi (oid Hp.length 2) c take hc.len ht (fun k=>Hp++[AObj.cells 22 [.slice true 2 ((Ch (c.take k) take).map Bj)],AObj.defs,AObj.loop LoopState.ready none FR 41 #[20] as' bd' (oid Hp.length 1)]) (fun k=>by simp) (by simp [oid]) (fun k x hx=>?_) (fun k y hk hcn=>by simp only [ew hk hcn]) (fun k y X hk hcn=>?_),?_⟩
 ·have:=Ol (fun x hx=>Vi (by omega) (hlow x hx)) hOl x hx
  simpa using this
 ·generalize hV:Hp++[AObj.cells 22 [.slice true 2 ((Ch (c.take k) take).map Bj)],AObj.defs,AObj.loop LoopState.ready none FR 41 #[20] as' bd' (oid Hp.length 1)]++X=V
  have hL:V[oid Hp.length 2]? = some (AObj.loop LoopState.ready none FR 41 #[20] as' bd' (oid Hp.length 1)):=by rw [←hV,Ca,C0];rfl
  have hA0:V[oid Hp.length 0]? = some (AObj.cells 22 [.slice true 2 ((Ch (c.take k) take).map Bj)]):=by rw [←hV,Ca,C0];rfl
  refine S4 (pd:=none) (fr:=FR) (sz:=41) (ps:=#[20]) (df:=oid Hp.length 1) (asg:=as') (bd:=bd') hL rfl (by decide) (fun d=>?_)
  subst hFR has hbd
  refine Hy [8,20] ?_;refine Ix ?_;refine Z20 ?_;refine A2 [8,9] ?_
  refine ⟨rfl,none,hL,?_⟩
  generalize hbz:(AObj.loop LoopState.busy _ _ _ _ _ _ _)=bz
  have hA:(V.set (oid Hp.length 2) bz)[oid Hp.length 0]? = some (AObj.cells 22 [.slice true 2 ((Ch (c.take k) take).map Bj)]):=by rw [Ec (Cv (by decide))];exact hA0
  refine Mi ?_;refine Ix ?_;refine R.loadUpT jA hA ?_;refine Z53 ?_
  refine Ed jU Tryz.type36 ?_ ?_ ?_
  ·have h1:=Ih (c.take k) take;have h2:=hc.len;simp only [Bx] at h1;simp [Tryz.t36];omega
  ·have h1:=Ih (c.take k) take;have h2:=hc.len;simp only [Bx] at h1;simp [Tryz.t36];omega
  refine J1 jS (getset hA) ?_ ?_
  ·exact AA1
  refine Yr ?_
  subst hbz
  refine AHt ?_
  refine ⟨rfl,?_⟩
  subst hV
  simp only [Ca,Hl,Fe,F6,List.set_cons_succ,List.set_cons_zero]
  rw [w7 hk hcn,C5]
  rfl
 rintro r H' rfl
 simp only [Tb]
 refine ⟨Hp,_,_,_,rfl,rfl,fun h=>h,?_,rfl,by simp,?_⟩
 ·intro o ho
  have:o=oid Hp.length 1:=by simpa using ho
  subst this
  rw [C0]
  rfl
 refine Z11 ?_;refine Eb ?_;refine R.loadOwnT jA ?_;refine A4 ?_
 refine Ed jU Tryz.type36 ?_ ?_ ?_
 ·have h1:=Ih c take;have h2:=Nx hr;simp [Tryz.t36];omega
 ·have h1:=Ih c take;have h2:=Nx hr;simp [Tryz.t36];omega
 refine ir jS ?_;refine A2 [8] ?_;refine X9 ?_
 have e10:(Ch c take).map Bj++give.map Bj=(Ch c take++give).map Bj:=(C5 ..).symm
 rw [e10]
 generalize hout:Ch c take++give=out
 have ho:OkCols out:=u9 hc hr hg hg2 hout
 refine A4 ?_;refine A8 Tryz.call140 (ATg out ho _) ?_;refine Z0 ?_;refine A2 [8,28] ?_
 refine A3 (fun ht28=>?_) (fun ht28=>?_)
 ·have hn:J2 out=false:=by simpa using ht28
  refine Ys ?_;refine Z21 ?_;exact A9 (B1 A7 A7) ⟨by rw [u4 hr hk hout hn];try rfl,rfl⟩
 have hn:J2 out=true:=by simpa using ht28
 refine Z2 ?_;refine A8 Tryz.call34 (c34 out ho _) ?_;refine Z0 ?_;refine A2 [8,32] ?_
 refine A3 (fun ht32=>?_) (fun ht32=>?_)
 ·have hq:H5 out=false:=by rw [N6] at ht32;simpa using ht32
  refine Ys ?_;refine Z21 ?_;exact A9 (B1 A7 A7) ⟨by rw [u5 hr hk hout hn hq];try rfl,rfl⟩
 have hq:H5 out=true:=by rw [N6] at ht32;simpa using ht32
 refine Z25 ?_;refine A2 [8,36] ?_
 refine A3 (fun ht36=>?_) (fun ht36=>?_)
 ·have h12:12<out.length:=by simp at ht36;omega
  refine Ys ?_;refine Z21 ?_;exact A9 (B1 A7 A7) ⟨by rw [u6 hr hk hout hn hq h12];try rfl,rfl⟩
 have h12:¬12<out.length:=by simp at ht36;omega
 refine Z17 ?_;refine rh ?_;refine Dc ?_;exact A9 (B1 A7 A7) ⟨by rw [u7 hr hk hout hn hq h12];try rfl,rfl⟩

theorem c6u (c:List Col) (Hp:List AObj):AFun Tryz.prog 19 [Ao c] Hp (B3 (J6 c)):=by
 refine Ag [.tmp 2] [0] Tryz.func19 Tryz.ntmps19 (fun d=>?_)
 refine j7 ?_;refine A2 [0,6] ?_
 refine A3 (fun ht6=>?_) (fun ht6=>?_)
 ·rw [Am] at ht6
  have hm:J6 c=true:=by unfold J6;rw [ht6];rfl
  exact ADd
 rw [Am] at ht6
 have hl50:c.length≤50:=by simp at ht6;omega
 refine yw ?_
 refine Az (α:=Nat) (fun x=>⟨20,A6 0 (Ao c) (A6 3 (A5 (x:Nat)) (fun _=>.any)),Hp,[],[],none⟩) (fun x=>x≤c.length∧∀(j:Nat) (v:Col),j<x→c[j]? = some v→decide ((100:Int)<(v.name.length:Int))=false) (fun x=>c.length-x) (0) ⟨An _,fun j v h=>by omega⟩ (B5 (by simp)) rfl (fun x hx=>?_)
 refine AHk ?_
 refine A3 (fun ht10=>?_) (fun ht10=>?_)
 ·have hlt:x<c.length:=by simpa using ht10
  refine Sf ?_
  refine A4 (h:=Ac (x) (Bj c[x]) (fun _=>Aw hlt)) (hr:=?_)
  refine Z72 ?_;refine A2 [0,3,19] ?_
  refine A3 (fun ht19=>?_) (fun ht19=>?_)
  ·have hm:J6 c=true:=by unfold J6;rw [Co];exact .inr (Jw.2 ⟨c[x],Av hlt,ht19⟩)
   exact AHd
  refine Z17 ?_;refine Z51 ?_
  refine A4 (h:=Q.add64 (h1:=fun _=>by omega) (h2:=fun _=>by omega)) (hr:=?_)
  refine A4 ?_;refine Oi ?_;exact AOr
 have hxe:c.length≤x:=by simpa using ht10
 have hm:J6 c=false:=by
  unfold J6
  rw [ht6,C8,M8]
  intro v hv
  obtain ⟨j,hj⟩:=Cf hv
  have:=hx.2 j v (by have:=(Ad.1 hj).1;omega) hj
  rw [this]
  simp
 exact ADh

/-- law18.Wide. -/
def Ms (m:Mov):Bool:=(((((J6 m.give || decide ((20:Int)<(m.take.length:Int))) || decide ((20:Int)<(m.ahead.length:Int))) || decide ((20:Int)<(m.back.length:Int))) || m.take.any fun s=>decide ((100:Int)<(s.length:Int))) || m.ahead.any ae) || m.back.any ae
def Jm (l:List Mov):Bool:=decide ((12:Int)<(l.length:Int)) || l.any Ms
theorem Il {α:Type} {p:α→Bool} {l:List α} {x:Nat} (h:l.length≤x) (hp:∀(j:Nat) (v:α),j<x→l[j]? = some v→p v=false):l.any p=false:=by
 rw [M8]
 intro v hv
 obtain ⟨j,hj⟩:=Cf hv
 rw [hp j v (by have:=(Ad.1 hj).1;omega) hj]
 simp
theorem Lw {n:Nat} {m:Mov}:∀y∈Nj m,Low n y:=by
 intro y hy
 simp only [Nj,Bu,Fi,or_false] at hy
 rcases hy with rfl|rfl|rfl|rfl|rfl<;>simp [or_imp,forall_and,B7]
theorem oy {n:Nat} {m:Mov}:Low n (Fv m):=Go.SX.low_agg.2 Lw
theorem Fg {n k:Nat} {o:Bool} {l:List Mov}:Low n (.slice o k (l.map Fv)):=low_slice.2 fun y hy=>by
 obtain ⟨m,_,rfl⟩:=D5.1 hy
 exact oy
theorem Iv {α:Type} {p:α→Bool} (l:List α):(l.any fun s => !(p s)) = !(l.all p):=by
 induction l with
 | nil=>rfl
 | cons a r ih=>rw [List.any_cons,List.all_cons,ih];cases p a<;>simp
theorem c20 (l:List Mov) (Hp:List AObj):AFun Tryz.prog 20 [Dz l] Hp (B3 (Jm l)):=by
 refine Ag [.tmp 2] [0] Tryz.func20 Tryz.ntmps20 (fun d=>?_)
 refine j7 ?_;refine A2 [0,10] ?_
 refine A3 (fun ht10=>?_) (fun ht10=>?_)
 ·rw [Am] at ht10
  have hm:Jm l=true:=by unfold Jm;rw [ht10];rfl
  exact ADd
 rw [Am] at ht10
 have hl12:l.length≤12:=by simp at ht10;omega
 refine yw ?_
 refine Az (α:=Nat) (fun x=>⟨82,A6 0 (Dz l) (A6 3 (A5 (x:Nat)) (fun _=>.any)),Hp,[],[],none⟩) (fun x=>x≤l.length∧∀(j:Nat) (v:Mov),j<x→l[j]? = some v→Ms v=false) (fun x=>l.length-x) (0) ⟨An _,fun j v h=>by omega⟩ (B5 (by simp)) rfl (fun x hx=>?_)
 refine Z54 ?_;refine A2 [0,3,14] ?_
 refine A3 (fun ht14=>?_) (fun ht14=>?_)
 ·have hlt:x<l.length:=by simpa using ht14
  have hbad:Ms l[x]=true→Jm l=true:=fun h=>by unfold Jm;rw [Co];exact .inr (Jw.2 ⟨l[x],Av hlt,h⟩)
  refine Sf ?_
  refine A4 (h:=Ac (x) (Fv l[x]) (fun _=>Aw hlt)) (hr:=?_)
  refine Xc ?_;refine A2 [0,3,4] ?_;refine Z8 ?_;refine A8 Tryz.call19 (c6u l[x].give _) ?_;refine A4 ?_;refine Pw ?_;refine ry ?_;refine Z38 ?_;refine Z96 ?_;refine A2 [0,3,4,41] ?_
  refine A3 (fun ht41=>?_) (fun ht41=>?_)
  ·simp only [Am] at ht41
   have hm:Jm l=true:=hbad (by unfold Ms;rw [ht41];rfl)
   refine Z28 ?_;refine F9 ?_;exact rf
  simp only [Am] at ht41
  have hk:l[x].take.length≤20∧l[x].ahead.length≤20∧l[x].back.length≤20:=by simp only [Cr,decide_eq_false_iff_not] at ht41;omega
  refine Se ?_;refine A2 [0,3,4,5] ?_
  refine Az (α:=Nat) (fun a=>⟨82,A6 0 (Dz l) (A6 3 (A5 (x:Nat)) (A6 4 (.ptr (oid Hp.length 0) 0) (A6 5 (A5 (a:Nat)) (fun _=>.any)))),Hp,[.cells 54 (Nj l[x])],[],none⟩) (fun a=>a≤l[x].take.length∧∀(j:Nat) v,j<a→l[x].take[j]? = some v→(fun s:Str=>decide ((100:Int)<(s.length:Int))) v=false) (fun a=>l[x].take.length-a) (0) ⟨An _,fun j v h=>by omega⟩ (B5 (by simp)) rfl (fun a ha=>?_)
  refine Oh ?_;refine A2 [0,3,4,5,46] ?_
  refine A3 (fun ht46=>?_) (fun ht46=>?_)
  ·have ha1:a<l[x].take.length:=by simpa using ht46
   refine Xd ?_
   refine A4 (h:=Ac (a) (Ae l[x].take[a]) (fun _=>Aw ha1)) (hr:=?_)
   refine Z10 ?_;refine A2 [0,3,4,5,55] ?_
   refine A3 (fun ht55=>?_) (fun ht55=>?_)
   ·have hm:Jm l=true:=hbad (by unfold Ms;rw [ht41,Jw.2 ⟨_,Av ha1,ht55⟩];rfl)
    refine co ?_;exact rf
   refine Z70 ?_;refine A2 [0,3,4,5] ?_;exact Ay (a+1) ⟨ha1,C1 ha1 ha.2 ht55⟩ (by omega) (Bh rfl)
  have hae:l[x].take.length≤a:=by simpa using ht46
  have e1:=Il hae ha.2
  refine Z44 ?_;refine Z29 ?_;refine A2 [0,3,4,6] ?_
  refine Az (α:=Nat) (fun b=>⟨82,A6 0 (Dz l) (A6 3 (A5 (x:Nat)) (A6 4 (.ptr (oid Hp.length 0) 0) (A6 6 (A5 (b:Nat)) (fun _=>.any)))),Hp,[.cells 54 (Nj l[x])],[],none⟩) (fun b=>b≤l[x].ahead.length∧∀(j:Nat) v,j<b→l[x].ahead[j]? = some v→ae v=false) (fun b=>l[x].ahead.length-b) (0) ⟨An _,fun j v h=>by omega⟩ (B5 (by simp)) rfl (fun b hb=>?_)
  refine Oh ?_;refine A2 [0,3,4,6,60] ?_
  refine A3 (fun ht60=>?_) (fun ht60=>?_)
  ·have hb1:b<l[x].ahead.length:=by simpa using ht60
   refine Xd ?_
   refine A4 (h:=Ac (b) (Ab l[x].ahead[b]) (fun _=>Aw hb1)) (hr:=?_)
   refine A4 ?_;refine A8 Tryz.call39 (c39 l[x].ahead[b] _) ?_;refine A2 [0,3,4,6,68] ?_
   refine A3 (fun ht68=>?_) (fun ht68=>?_)
   ·have hm:Jm l=true:=hbad (by unfold Ms;rw [Jw.2 ⟨_,Av hb1,ht68⟩];simp)
    refine co ?_;exact rf
   refine Z70 ?_;refine A2 [0,3,4,6] ?_;exact Ay (b+1) ⟨hb1,C1 hb1 hb.2 ht68⟩ (by omega) (Bh rfl)
  have hbe:l[x].ahead.length≤b:=by simpa using ht60
  have e2:=Il hbe hb.2
  refine Xe ?_;refine A2 [0,3,4,7] ?_
  refine Az (α:=Nat) (fun e=>⟨82,A6 0 (Dz l) (A6 3 (A5 (x:Nat)) (A6 4 (.ptr (oid Hp.length 0) 0) (A6 7 (A5 (e:Nat)) (fun _=>.any)))),Hp,[.cells 54 (Nj l[x])],[],none⟩) (fun e=>e≤l[x].back.length∧∀(j:Nat) v,j<e→l[x].back[j]? = some v→ae v=false) (fun e=>l[x].back.length-e) (0) ⟨An _,fun j v h=>by omega⟩ (B5 (by simp)) rfl (fun e he=>?_)
  refine Oh ?_;refine A2 [0,3,4,7,73] ?_
  refine A3 (fun ht73=>?_) (fun ht73=>?_)
  ·have he1:e<l[x].back.length:=by simpa using ht73
   refine Xd ?_
   refine A4 (h:=Ac (e) (Ab l[x].back[e]) (fun _=>Aw he1)) (hr:=?_)
   refine A4 ?_;refine A8 Tryz.call39 (c39 l[x].back[e] _) ?_;refine A2 [0,3,4,7,81] ?_
   refine A3 (fun ht81=>?_) (fun ht81=>?_)
   ·have hm:Jm l=true:=hbad (by unfold Ms;rw [Jw.2 ⟨_,Av he1,ht81⟩];simp)
    refine Z28 ?_;refine Z6 ?_;refine Mg ?_;exact rf
   refine Z70 ?_;refine A2 [0,3,4,7] ?_;exact Ay (e+1) ⟨he1,C1 he1 he.2 ht81⟩ (by omega) (Bh rfl)
  have hee:l[x].back.length≤e:=by simpa using ht73
  have e3:=Il hee he.2
  have e4:Ms l[x]=false:=by unfold Ms;rw [ht41,e1,e2,e3];rfl
  refine rp ?_;refine Z84 ?_;refine Oi ?_;refine Ay (x+1) ⟨hlt,C1 hlt hx.2 e4⟩ (by omega) ?_
  exact Dp (own:=[]) (fun _=>.refl _) (by repeat (first|exact Bq|refine Bp (by first|(simp [or_imp,forall_and];done)|exact Fg|(simp [oid]<;>omega)) ?_)) (by simp) (by simp)
 have hxe:l.length≤x:=by simpa using ht14
 have hm:Jm l=false:=by unfold Jm;rw [ht10,Il hxe hx.2];rfl
 exact ADh

theorem c76 (l:List Expr) (h:OkEs l) (Hp:List AObj):AFun Tryz.prog 76 [L8 l] Hp (B3 (l.all Ea)):=by
 refine Ag [.tmp 2] [0] Tryz.func76 Tryz.ntmps76 (fun d=>?_)
 refine rx ?_;refine Oi ?_
 refine Az (α:=Nat) (fun x=>⟨16,A6 0 (L8 l) (A6 3 (A5 (x:Nat)) (fun _=>.any)),Hp,[],[],none⟩) (fun x=>x≤l.length∧∀(j:Nat) (v:Expr),j<x→l[j]? = some v→(!Ea v)=false) (fun x=>l.length-x) (0) ⟨An _,fun j v h=>by omega⟩ (B5 (by simp)) rfl (fun x hx=>?_)
 refine Z54 ?_;refine A2 [0,3,7] ?_
 refine A3 (fun ht7=>?_) (fun ht7=>?_)
 ·have hlt:x<l.length:=by simpa using ht7
  have hlen:=h.len
  refine Sf ?_
  refine A4 (h:=Ac (x) (Ab l[x]) (fun _=>Aw hlt)) (hr:=?_)
  refine A4 ?_;refine A8 Tryz.call106 (ARi 61 l[x] (h.ok _ (Av hlt)) (by decide) (h.size _ (Av hlt)) _) ?_;refine A4 ?_;refine A2 [0,3,15] ?_
  refine A3 (fun ht15=>?_) (fun ht15=>?_)
  ·have hm:l.all Ea=false:=by rw [Rw];exact ⟨_,Av hlt,by simpa using ht15⟩
   exact AHd
  refine rg ?_;exact Ay (x+1) ⟨hlt,C1 hlt hx.2 ht15⟩ (by omega) (Bh rfl)
 have hxe:l.length≤x:=by simpa using ht7
 have hm:l.all Ea=true:=by have:=Il hxe hx.2;rw [Iv] at this;simpa using this
 exact ADh

theorem bg (k w:Int) (Hp:List AObj):AFun Tryz.prog 151 [A5 k,A5 w] Hp (B3 (Fm k w)):=by
 refine Ag [.tmp 4] [0,1] Tryz.func151 Tryz.ntmps151 (fun d=>?_)
 refine Z62 ?_;refine Z19 ?_;refine Rb ?_;exact AH6

theorem AUz (n:Nat) (e:Expr) (hok:okE n e) (hn:n≤1048576) (c:List Col) (hc:OkCols c) (w:Int) (Hp:List AObj):AFun Tryz.prog 142 [Ab e,Ao c,A5 w] Hp (B3 (Wy e c w)):=by
 refine Ag [.tmp 6] [0,1,2] Tryz.func142 Tryz.ntmps142 (fun d=>?_)
 refine Z1 ?_;refine A2 [1,2,3] ?_;refine Z1 ?_;refine A8 Tryz.call141 (AS2 n e hok hn c hc _) ?_;refine Z59 ?_;refine A2 [2,7,8] ?_;refine Z19 ?_;refine Pw ?_;refine Rb ?_;refine lr ?_;exact A9 (Ah A7) ⟨by unfold Wy;rfl,rfl⟩

theorem Fl {ks:List Int} {i:Nat} (h:i<ks.length):(ks.map A5)[i]? = some (A5 (ks.getD i 0)):=by
 rw [Ce,Aa h,D3,Aa h]
 rfl
theorem ANo {e:Expr} (h:E8 e=true) (h3:(e.op==3)=true):e.kids.length=1:=by
 have h3':e.op=3:=by simpa using h3
 have:=Ny h (by rw [h3'];rfl) (by rw [h3'];rfl)
 rw [←this,h3'];rfl
theorem ANp {e:Expr} (h:E8 e=true) (h4:(e.op==4)=true):e.kids.length=1:=by
 have h4':e.op=4:=by simpa using h4
 have:=Ny h (by rw [h4'];rfl) (by rw [h4'];rfl)
 rw [←this,h4'];rfl
theorem kc {e:Expr} (h:E8 e=true) (h5:(e.op==5)=true):e.kids.length=2:=by
 have h5':e.op=5:=by simpa using h5
 have:=Ny h (by rw [h5'];rfl) (by rw [h5'];rfl)
 rw [←this,h5']
 exact Sp _
theorem ANq {e:Expr} (h:E8 e=true) (h1:(e.op==1)=false) (h2:(e.op==2)=false) (h3:(e.op==3)=false) (h4:(e.op==4)=false) (h5:(e.op==5)=false):e.kids.length=(Dx e.text).kids.length:=by
 have:=Ny h h1 h2
 rw [←this]
 unfold Js
 rw [h3,h4,h5]
 rfl
theorem AJt {a b:Bool} (h:(a&&b)=true):a=true:=by cases a<;>simp_all
theorem AV0 (c:List Col) (hc:OkCols c):∀(n:Nat) (e:Expr),okE n e→Es E8 e=true→∀Hp:List AObj,AFun Tryz.prog 107 [Ab e,Ao c] Hp (.tup [A5 (Bs c e).1,A5 (Bs c e).2]):=by
 intro n
 induction n with
 | zero=>exact fun e h=>h.elim
 | succ n ih =>
 intro e hok hnd Hp
 have hnd0:=hnd
 rw [Jj,As] at hnd0
 refine Ag [.tmp 4,.tmp 5] [0,1] Tryz.func107 Tryz.ntmps107 (fun d=>?_)
 refine ADi ?_;refine Z33 ?_;refine A2 [1,2,17] ?_
 refine A3 (fun ht17=>?_) (fun ht17=>?_)
 ·have hk:=od (c:=c) ht17
  refine Z1 ?_;refine Z10 ?_;exact AM0
 refine Nn ?_;refine A2 [1,2,23] ?_
 refine A3 (fun ht23=>?_) (fun ht23=>?_)
 ·have hk:=fk (c:=c) ht17 ht23
  refine Z19 ?_;refine A8 Tryz.call33 (c33 c hc e.text _) ?_;refine A4 ?_;refine A2 [1,6] ?_;refine Z8 ?_;refine A2 [1,6,29] ?_
  refine A3 (fun ht29=>?_) (fun ht29=>?_)
  ·have hk2:Rp c e.text=(0,9):=if_pos (by simpa using ht29)
   refine z6 ?_;refine F9 ?_;exact AHw
  have hneg:¬(Bn e.text c<0):=by simpa using ht29
  obtain ⟨j,hj,hjl⟩:=Jl hneg
  have hk2:Rp c e.text=(c[j].kind,0):=by
   unfold Rp
   rw [if_neg hneg,hj,Int.toNat_natCast,D3,Aa hjl]
   rfl
  rw [hj]
  refine Lq ?_
  refine A4 (h:=Ac (j) (Bj c[j]) (fun _=>Aw hjl)) (hr:=?_)
  refine Z72 ?_;refine Z86 ?_;exact AHw
 refine Z4 ?_;refine lx ?_;refine A2 [1,2,7] ?_;refine Z29 ?_;refine A2 [1,2,7,8] ?_
 refine Az (α:=Nat) (fun x=>⟨237,A6 1 (Ao c) (A6 2 (.ro (Dy e)) (A6 7 (.slice true 1 (((e.kids.take x).map fun y=>(Bs c y).1).map A5)) (A6 8 (A5 (x:Nat)) (fun _=>.any)))),Hp,[],[],none⟩) (fun x=>x≤e.kids.length∧∀(j:Nat) (y:Expr),j<x→e.kids[j]? = some y→((Bs c y).2 != 0)=false) (fun x=>e.kids.length-x) (0) ⟨An _,fun j y h=>by omega⟩ (B5 (by simp)) rfl (fun x hx=>?_)
 refine Oh ?_;refine A2 [1,2,7,8,40] ?_
 refine A3 (fun ht40=>?_) (fun ht40=>?_)
 ·have hlt:x<e.kids.length:=by simpa using ht40
  have hkl:=hok.2.1
  refine Xd ?_
  refine A4 (h:=Ac (x) (Ab e.kids[x]) (fun _=>Aw hlt)) (hr:=?_)
  refine Z0 ?_;refine A8 Tryz.call107 (ih e.kids[x] (hok.2.2 _ (Av hlt)) ((F3 _ _).1 hnd0.2 _ (Av hlt)) _) ?_;refine Z59 ?_;refine A2 [1,2,7,8,9,10] ?_;refine Z8 ?_;refine A2 [1,2,7,8,9,10,54] ?_
  refine A3 (fun ht54=>?_) (fun ht54=>?_)
  ·have hkb:=oe (c:=c) ht17 ht23 hlt hx.2 ht54
   refine Z19 ?_;refine Z86 ?_;exact APm
  refine za ?_
  refine Ed jU Tryz.type3 ?_ ?_ ?_
  ·simp only [Am,Bx,B6,Bw,Tryz.t3];omega
  ·simp only [Am,Bx,B6,Bw,Tryz.t3];omega
  refine Lr ?_;refine A2 [1,2,7,8] ?_;refine Z84 ?_;refine A2 [1,2,7,8] ?_
  refine Ay (x+1) ⟨hlt,C1 hlt hx.2 ht54⟩ (by omega) (Bh ?_)
  simp only [show Tryz.t3.size=1 from rfl,fl]
  rfl
 have hxe:e.kids.take x=e.kids:=D8 (by simp at ht40;omega)
 have hka:=og (c:=c) ht17 ht23 (fun j y hj hy=>hx.2 j y (by have:=hx.1;simp at ht40;omega) hy)
 have hrf:=AJr hnd0.1 ht17 ht23 (ks:=e.kids.map fun y=>(Bs c y).1) (by simp)
 have hks:(e.kids.map fun y=>(Bs c y).1).length=e.kids.length:=by simp
 rw [hxe]
 generalize (e.kids.map fun y=>(Bs c y).1)=ks at *
 refine Z44 ?_;refine Z1 ?_;refine A2 [2,7,12] ?_
 refine W.join ⟨237,A6 11 (A5 (Hj e.op e.text ks).1) (A6 12 (B3 (Hj e.op e.text ks).2) (fun _=>.any)),Hp,[],[],none⟩ ?_ ?_
 ·refine Mi ?_;refine Z25 ?_;refine A2 [2,7,12,94] ?_
  refine A3 (fun ht94=>?_) (fun ht94=>?_)
  ·have hl:=ANo hnd0.1 ht94
   refine Z51 ?_
   refine A4 (h:=Ac (0) (A5 (ks.getD 0 0)) (fun _=>Fl (by omega))) (hr:=?_)
   refine AM4 ?_;refine Z0 ?_;refine Yq ?_
   unfold Hj
   simp only [ht17,ht23,ht40,ht94,Ey,Dl,Da,C8,Af,↓reduceIte]<;>rfl
  refine Z25 ?_;refine A2 [2,7,12,102] ?_
  refine A3 (fun ht102=>?_) (fun ht102=>?_)
  ·have hl:=ANp hnd0.1 ht102
   refine Z51 ?_
   refine A4 (h:=Ac (0) (A5 (ks.getD 0 0)) (fun _=>Fl (by omega))) (hr:=?_)
   refine A4 ?_;refine A8 Tryz.call151 (bg (ks.getD 0 0) 3 _) ?_;refine Z0 ?_;refine Yq ?_
   unfold Hj
   simp only [ht17,ht23,ht40,ht94,ht102,Ey,Dl,Da,C8,Af,↓reduceIte]<;>rfl
  refine Z25 ?_;refine Pw ?_;refine Pw ?_;refine Z0 ?_;refine A2 [2,7,12,110] ?_
  refine A3 (fun ht110=>?_) (fun ht110=>?_)
  ·have hl:=kc hnd0.1 (AJt ht110)
   refine Z51 ?_
   refine A4 (h:=Ac (0) (A5 (ks.getD 0 0)) (fun _=>Fl (by omega))) (hr:=?_)
   refine A4 ?_;refine A8 Tryz.call151 (bg (ks.getD 0 0) 3 _) ?_;refine z7 ?_
   refine Bd (h:=Ac (1) (A5 (ks.getD 1 0)) (fun _=>Fl (by omega))) (hr:=?_)
   refine Bd ?_;refine Bm Tryz.call151 (fun hB=>bg (ks.getD 1 0) 3 _) ?_;refine Z10 ?_;refine Yq ?_
   unfold Hj
   simp only [ht17,ht23,ht40,ht94,ht102,ht110,Ey,Dl,Da,C8,Af,↓reduceIte]<;>rfl
  refine Z25 ?_;refine Z7 ?_;refine Bm Tryz.call82 (fun hB=>c82 e.text _) ?_;refine Bd ?_;refine Z0 ?_;refine A2 [2,7,12,134] ?_
  refine A3 (fun ht134=>?_) (fun ht134=>?_)
  ·have hl:=kc hnd0.1 (AJt ht134)
   refine W.drawQ0 [0,1,3,7,15,31,63,127,31,287,799,2047,4095,4095,16383] 14 Ai (by kernel_rfl) ?_;refine Ak ?_
   refine Ak (h:=Ac (0) (A5 (ks.getD 0 0)) (fun _=>Fl (by omega))) (hr:=?_)
   refine Z40 ?_;refine Eh ?_
   refine Eh (h:=Ac (1) (A5 (ks.getD 1 0)) (fun _=>Fl (by omega))) (hr:=?_)
   refine Z56 ?_
   refine Eh (h:=Ac (0) (A5 (ks.getD 0 0)) (fun _=>Fl (by omega))) (hr:=?_)
   refine Eh ?_;refine V2 Tryz.call151 (fun hB=>bg (ks.getD 1 0) (ks.getD 0 0) _) ?_;refine rq ?_;refine Yq ?_
   unfold Hj
   simp only [ht17,ht23,ht40,ht94,ht102,ht110,ht134,Ey,Dl,Da,C8,Af,↓reduceIte]<;>rfl
  refine Z25 ?_;refine Rb ?_;refine A2 [2,7,12,157] ?_
  refine A3 (fun ht157=>?_) (fun ht157=>?_)
  ·have hl:=kc hnd0.1 (AJt ht157)
   refine Z51 ?_
   refine A4 (h:=Ac (0) (A5 (ks.getD 0 0)) (fun _=>Fl (by omega))) (hr:=?_)
   refine AM5 ?_;refine z7 ?_
   refine Bd (h:=Ac (1) (A5 (ks.getD 1 0)) (fun _=>Fl (by omega))) (hr:=?_)
   refine Bd ?_;refine Bm Tryz.call151 (fun hB=>bg (ks.getD 1 0) 2 _) ?_;refine Z10 ?_;refine Yq ?_
   unfold Hj
   simp only [ht17,ht23,ht40,ht94,ht102,ht110,ht134,ht157,Ey,Dl,Da,C8,Af,↓reduceIte]<;>rfl
  refine Z25 ?_;refine A2 [2,7,12,176] ?_
  refine A3 (fun ht176=>?_) (fun ht176=>?_)
  ·have hl:=kc hnd0.1 ht176
   rw [ht176,Dl] at ht110 ht134 ht157
   refine Z51 ?_
   refine A4 (h:=Ac (0) (A5 (ks.getD 0 0)) (fun _=>Fl (by omega))) (hr:=?_)
   refine AM4 ?_;refine z7 ?_
   refine Bd (h:=Ac (1) (A5 (ks.getD 1 0)) (fun _=>Fl (by omega))) (hr:=?_)
   refine Bd ?_;refine Bm Tryz.call151 (fun hB=>bg (ks.getD 1 0) 1 _) ?_;refine Z10 ?_;refine Yq ?_
   unfold Hj
   simp only [ht17,ht23,ht40,ht94,ht102,ht110,ht134,ht157,ht176,Ey,Dl,Da,C8,Af,↓reduceIte]<;>rfl
  have hl0:=ANq hnd0.1 ht17 ht23 ht94 ht102 ht176
  unfold Dx at hl0
  refine Z25 ?_;refine Rb ?_;refine A2 [2,7,12,190] ?_
  refine A3 (fun ht190=>?_) (fun ht190=>?_)
  ·have hl:e.kids.length=1:=by rw [hl0,if_pos ht190];rfl
   refine Z51 ?_
   refine A4 (h:=Ac (0) (A5 (ks.getD 0 0)) (fun _=>Fl (by omega))) (hr:=?_)
   refine AM5 ?_;refine Z0 ?_;refine Yq ?_
   unfold Hj
   simp only [ht17,ht23,ht40,ht94,ht102,ht110,ht134,ht157,ht176,ht190,Ey,Dl,Da,C8,Af,↓reduceIte]<;>rfl
  rw [if_neg (by rw [ht190];simp)] at hl0
  refine Z25 ?_;refine A2 [2,7,12,203] ?_
  refine A3 (fun ht203=>?_) (fun ht203=>?_)
  ·have hl:e.kids.length=1:=by rw [hl0,if_pos ht203];rfl
   refine Z51 ?_
   refine A4 (h:=Ac (0) (A5 (ks.getD 0 0)) (fun _=>Fl (by omega))) (hr:=?_)
   refine AM4 ?_;refine Z0 ?_;refine Yq ?_
   unfold Hj
   simp only [ht17,ht23,ht40,ht94,ht102,ht110,ht134,ht157,ht176,ht190,ht203,Ey,Dl,Da,C8,Af,↓reduceIte]<;>rfl
  rw [if_neg (by rw [ht203];simp)] at hl0
  refine Z25 ?_;refine Rb ?_;refine A2 [2,7,12,211] ?_
  refine A3 (fun ht211=>?_) (fun ht211=>?_)
  ·have hl:e.kids.length=2:=by rw [hl0,if_pos ht211];rfl
   refine Z51 ?_
   refine A4 (h:=Ac (0) (A5 (ks.getD 0 0)) (fun _=>Fl (by omega))) (hr:=?_)
   refine AM5 ?_;refine z7 ?_
   refine Bd (h:=Ac (1) (A5 (ks.getD 1 0)) (fun _=>Fl (by omega))) (hr:=?_)
   refine Bd ?_;refine Bm Tryz.call151 (fun hB=>bg (ks.getD 1 0) 1 _) ?_;refine Z10 ?_;refine Yq ?_
   unfold Hj
   simp only [ht17,ht23,ht40,ht94,ht102,ht110,ht134,ht157,ht176,ht190,ht203,ht211,Ey,Dl,Da,C8,Af,↓reduceIte]<;>rfl
  rw [if_neg (by rw [ht211];simp)] at hl0
  refine Z25 ?_;refine A2 [2,7,12,230] ?_
  refine A3 (fun ht230=>?_) (fun ht230=>?_)
  ·have hl:e.kids.length=1:=by rw [hl0,if_pos ht230];rfl
   refine Z51 ?_;refine Yq ?_
   unfold Hj
   simp only [ht17,ht23,ht40,ht94,ht102,ht110,ht134,ht157,ht176,ht190,ht203,ht211,ht230,Ey,Dl,Da,C8,Af,↓reduceIte]<;>rfl
  rw [if_neg (by rw [ht230];simp)] at hl0
  have hl:2≤e.kids.length:=by rw [hl0];split<;>simp
  have hl3:=hok.2.1
  refine Cb [0,0,2,6,15,31,0,0,128,384,960,1984,63,8191] 13 Ai (by kernel_rfl) ?_;refine Z40 ?_
  rw [Am]
  refine Ak ?_
  refine Ak (h:=Ac ((ks.length-2)) (A5 (ks.getD (ks.length-2) 0)) (fun _=>Fl (by omega))) (hr:=?_)
  refine Tr ?_
  rw [Am]
  refine Ak ?_
  refine Ak (h:=Ac ((ks.length-1)) (A5 (ks.getD (ks.length-1) 0)) (fun _=>Fl (by omega))) (hr:=?_)
  refine rq ?_;refine A2 [2,7,13,14] ?_;refine Z19 ?_;refine Z7 ?_;refine Bm Tryz.call151 (fun hB=>bg (ks.getD (ks.length-1) 0) (ks.getD (ks.length-2) 0) _) ?_;refine Z38 ?_;refine Z49 ?_
  refine Bd (h:=Ac (0) (A5 (ks.getD 0 0)) (fun _=>Fl (by omega))) (hr:=?_)
  refine Bd ?_;refine Bm Tryz.call151 (fun hB=>bg (ks.getD 0 0) 3 _) ?_;refine Bd ?_;refine Z0 ?_;refine A2 [12,13,14] ?_;refine Z1 ?_;refine A2 [11,12,13,14] ?_;refine Z1 ?_;refine A2 [11,12,14,92] ?_
  refine A3 (fun ht92=>?_) (fun ht92=>?_)
  ·refine Z31 ?_;refine Yq ?_
   unfold Hj
   simp only [ht17,ht23,ht40,ht94,ht102,ht110,ht134,ht157,ht176,ht190,ht203,ht211,ht230,ht92,Ey,Dl,Da,C8,Af,↓reduceIte]<;>rfl
  refine Hy [11,12] ?_;refine Jy ?_;refine Z91 ?_;refine B5 ?_
  unfold Hj
  simp only [ht17,ht23,ht40,ht94,ht102,ht110,ht134,ht157,ht176,ht190,ht203,ht211,ht230,ht92,Ey,Dl,Da,C8,Af,↓reduceIte]<;>rfl
 refine Z8 ?_;refine A2 [11,235] ?_
 refine A3 (fun ht235=>?_) (fun ht235=>?_)
 ·refine z6 ?_;exact AQt
 refine No ?_;refine Z78 ?_;exact AQt
theorem c78 (n:Nat) (e:Expr) (hok:okE n e) (hn:n≤1048576) (hs:sizeE e≤1048576) (c:List Col) (hc:OkCols c) (Hp:List AObj):AFun Tryz.prog 78 [Ab e,Ao c] Hp (.tup [A5 (Et e c).1,A5 (Et e c).2]):=by
 refine Ag [.tmp 4,.tmp 5] [0,1] Tryz.func78 Tryz.ntmps78 (fun d=>?_)
 refine ADi ?_;refine Z29 ?_;refine A8 Tryz.call106 (ARi n e hok hn hs _) ?_;refine P8 ?_;refine Bm Tryz.call30 (fun hB=>c30 c hc _) ?_;refine Z74 ?_;refine A2 [1,2,13] ?_
 refine A3 (fun ht13=>?_) (fun ht13=>?_)
 ·have hk:Et e c=(0,1):=by unfold Et;rw [G6,N6,if_pos ht13]
  refine Z1 ?_;exact AM0
 have hk:Et e c=Bs c e:=by unfold Et;rw [G6,N6,if_neg (by rw [ht13];simp)]
 have hr:Bk e=true:=by rw [G6];simp only [Cr,Jv] at ht13;exact ht13.1
 refine Lq ?_;refine A8 Tryz.call107 (AV0 c hc n e hok (Kx hr) _) ?_;refine Z72 ?_;exact APv

theorem oz {e:Expr} {c:List Col} {w:Int} (h:((Et e c).2 != 0)=false):((((Et e c).1 != 0)&&((Et e c).1 != w))) = !Wy e c w:=by
 unfold Wy
 have h0:(Et e c).2=0:=by simpa using h
 rw [h0]
 show (!((Et e c).1==0) && !((Et e c).1==w)) = !(true&&(((Et e c).1==w) || ((Et e c).1==0)))
 cases (Et e c).1==0<;>cases (Et e c).1==w<;>rfl
theorem AJu {c:List Col} {m:Mov} (h:(m.kind==3)=false):Ba c m=m.give:=by unfold Ba;rw [if_neg (by rw [h];simp)]
theorem xa {c:List Col} {m:Mov} {s:Str} {y:Col} (h:(m.kind==3)=true) (ht:m.take=[s]) (hg:m.give=[y]) (hf:Bn s c<0):Ba c m=[y]:=by
 unfold Ba
 rw [if_pos h,ht,hg]
 exact if_pos hf
theorem p8 {c:List Col} {m:Mov} {s:Str} {y:Col} (h:(m.kind==3)=true) (ht:m.take=[s]) (hg:m.give=[y]) (hf:¬Bn s c<0):Ba c m=[⟨y.name,(c.getD (Bn s c).toNat ⟨[],0⟩).kind⟩]:=by
 unfold Ba
 rw [if_pos h,ht,hg]
 exact if_neg hf
theorem p9 (l:List Col):∀x∈l.map Bj,x.cells.length=2:=by
 intro x hx
 obtain ⟨c,_,rfl⟩:=D5.1 hx
 rfl
theorem xb {c:Col} {y:AV} (h:y∈(Bj c).cells):y=Ae c.name∨y=A5 c.kind:=by
 have h':y∈[Ae c.name,A5 c.kind]:=h
 simpa using h'
theorem pc (l:List Col):∀x∈l.map Bj,∀y∈x.cells,y.one=true:=by
 intro x hx y hy
 obtain ⟨c,_,rfl⟩:=D5.1 hx
 rcases xb hy with rfl|rfl<;>rfl
theorem bh (l:List Col):∀x∈l.map Bj,∀y∈x.cells,y.strip=y:=by
 intro x hx y hy
 obtain ⟨c,_,rfl⟩:=D5.1 hx
 rcases xb hy with rfl|rfl<;>rfl
theorem ke {α:Type} {l:List α} (h:l.length=1):∃y,l=[y]:=by
 match l,h with
 | [y],_=>exact ⟨y,rfl⟩
theorem Y0 {c:List Col} {s:Str} (hf:¬Bn s c<0):(c.map Bj)[(Bn s c).toNat]? = some (Bj (c.getD (Bn s c).toNat ⟨[],0⟩)):=by
 obtain ⟨j,hj,hjl⟩:=Jl hf
 rw [hj,Int.toNat_natCast,Ce,Aa hjl,D3,Aa hjl]
 rfl
theorem c50 (n:Nat) (e:Expr) (hok:okE n e) (hn:n≤1048576) (hs:sizeE e≤1048576) (w:Int) (c:List Col) (hc:OkCols c) (Hp:List AObj):AFun Tryz.prog 50 [Ab e,A5 w,Ao c] Hp (A5 (O1 e c w)):=by
 refine Ag [.tmp 6] [0,1,2] Tryz.func50 Tryz.ntmps50 (fun d=>?_)
 refine Z1 ?_;refine A2 [1,2,3] ?_;refine Z1 ?_;refine A8 Tryz.call78 (c78 n e hok hn hs c hc _) ?_;refine Z59 ?_;refine A2 [1,7,8] ?_;refine Z8 ?_;refine A2 [1,7,8,16] ?_
 refine A3 (fun ht16=>?_) (fun ht16=>?_)
 ·have hm:O1 e c w=(Et e c).2:=if_pos ht16
  refine Z1 ?_;refine A2 [6] ?_;exact Z57
 refine Nn ?_;refine Yt ?_;refine A2 [24] ?_
 refine A3 (fun ht24=>?_) (fun ht24=>?_)
 ·rw [oz ht16] at ht24
  have hm:O1 e c w=10:=by unfold O1;rw [if_neg (by rw [ht16];simp),if_pos ht24]
  refine Z2 ?_;refine A2 [6] ?_;exact Z57
 rw [oz ht16] at ht24
 have hm:O1 e c w=0:=by unfold O1;rw [if_neg (by rw [ht16];simp),if_neg (by rw [ht24];simp)]
 refine Z93 ?_;exact AQ0

theorem AV1 (c:List Col) (hc:OkCols c) (m:Mov) (h:OkMov m) (h3:(m.kind==3)=false) (Hp:List AObj):AFun Tryz.prog 48 [Ao c,Fv m] Hp (Ao (Ba c m)):=by
 refine Ag [.tmp 4] [0,1] Tryz.func48 Tryz.ntmps48 (fun d=>?_)
 refine ri ?_;refine Z85 ?_;refine Z0 ?_
 refine Ed jU Tryz.type36 ?_ ?_ ?_
 ·have:=h.gives2;simp [Tryz.t36];omega
 ·have:=h.gives2;simp [Tryz.t36];omega
 refine Lr ?_;refine AHq ?_;refine A2 [0,3,5,13] ?_
 refine A3 (fun ht13=>?_) (fun ht13=>?_)
 ·rw [h3] at ht13;cases ht13
 refine Lq ?_;exact APb

theorem AV2 (c:List Col) (hc:OkCols c) (m:Mov) (h:OkMov m) (h3:(m.kind==3)=true) (s:Str) (y:Col) (ht:m.take=[s]) (hg:m.give=[y]) (Hp:List AObj):AFun Tryz.prog 48 [Ao c,Fv m] Hp (Ao (Ba c m)):=by
 have hgv:=xa (c:=c) h3 ht hg
 have hgy:=p8 (c:=c) h3 ht hg
 obtain ⟨kd,tk,gv,ah,bk⟩:=m
 simp only at ht hg h3
 subst ht hg
 refine Ag [.tmp 4] [0,1] Tryz.func48 Tryz.ntmps48 (fun d=>?_)
 refine ri ?_;refine Eb ?_;refine R.buildObj0 (n:=0) jU Tryz.sizeOf36 ?_;refine Z0 ?_
 refine R.appendObj (k:=2) (n:=1) jU Tryz.type36 (show [Bj y]≠[] by simp) ?_ ?_ (fun cc hcc=>?_)
 ·simp [Tryz.t36]
 ·simp
 have e0:Ns [Bj y]++List.replicate ((cc-[Bj y].length)*2) AV.any=Ae y.name::A5 y.kind::List.replicate ((cc-1)*2) AV.any:=rfl
 rw [e0]
 clear e0
 refine A4 ?_;refine AHq ?_;refine A2 [0,3,5,13] ?_
 refine A3 (fun ht13=>?_) (fun ht13=>?_)
 ·refine Z19 ?_
  refine A4 (h:=Ac (0) (Ae s) (fun _=>rfl)) (hr:=?_)
  refine A4 ?_;refine A8 Tryz.call33 (c33 c hc s _) ?_;refine A4 ?_;refine A2 [0,5,6] ?_;refine Z1 ?_;refine A2 [0,5,6,21] ?_
  refine A3 (fun ht21=>?_) (fun ht21=>?_)
  ·have hf:¬Bn s c<0:=by simp at ht21;omega
   obtain ⟨jj,hjj,hjc⟩:=Jl hf
   refine Z23 ?_
   refine A4 (h:=Ac ((Bn s c).toNat) (Bj (c.getD (Bn s c).toNat ⟨[],0⟩)) (fun _=>Y0 hf)) (hr:=?_)
   refine Z0 ?_;refine R.indexAddrSl (n:=1) 0 jU Tryz.sizeOf36 (by decide) ?_
   refine A4 (h:=Q.fieldAddrPtr (hc:=rfl)) (hr:=?_)
   refine Nf (y:=A5 (c.getD (Bn s c).toNat ⟨[],0⟩).kind) (ys:=[A5 (c.getD (Bn s c).toNat ⟨[],0⟩).kind]) (n:=1) (cs:=Ae y.name::A5 y.kind::List.replicate ((cc-1)*2) AV.any) (cs':=Ae y.name::A5 (c.getD (Bn s c).toNat ⟨[],0⟩).kind::List.replicate ((cc-1)*2) AV.any) (t':=36) jS ?_ (hc:=rfl) (hput:=rfl) (hfit:=by simp)
   refine A2 [5] ?_;refine Er ?_;refine Z97 ?_;exact AHj
  have hf:Bn s c<0:=by simp at ht21;omega
  refine Z4 ?_;refine AOg ?_;exact AHj
 rw [h3] at ht13;cases ht13

end Go.SX.Nb
namespace Go.SX
variable [GI:GlobInv]
open Classical
variable {P:Program} {d:Nat} {ops:Array Oper} {rest:List Oper} {sz:Nat} {fr:Nat→AV} {up own:List AObj} {dfs:List Nat} {rnd:Option Nat} {Q:St→Prop} {s:Nat} {ty:TypeId} {pos:String} {aft:Array Edge}
/-- Whether a slice is nil is known only of one that has elements. -/
theorem R.eqlNil {t e u:TypeId} {x y:Operand} {o:Bool} {k:Nat} {xs:List AV} (ht:P.underlying t=some (.slice e)) (hg:P.eqGuardType P.depth t=false)
  (hr:∀b:Bool,(b=true→xs=[])→ARun P d ops rest ⟨sz,A6 s (.v (.bool b)) fr,up,own,dfs,rnd⟩ Q)
  (hx:Bb fr x=.slice o k xs:=by exact sL0) (hy:Bb fr y=.nil:=by exact sL0) (hs:Nat.blt s sz=true:=by rfl):
  ARun P d ops (⟨some s,.binOp .eql t x y u,ty,pos,aft,none⟩::rest) ⟨sz,fr,up,own,dfs,rnd⟩ Q:=by
 refine Yb rfl (Q1:=fun s'=>∃b:Bool,(b=true→xs=[])∧s'=⟨sz,A6 s (.v (.bool b)) fr,up,own,dfs,rnd⟩) ?_ (by rintro _ ⟨b,hb,rfl⟩;exact hr b hb)
 intro G a w hrel Q'
 have h1:=hrel.eval x
 rw [show St.ev ⟨sz,fr,up,own,dfs,rnd⟩ x=.slice o k xs from hx] at h1
 have h2:=hrel.eval y
 rw [show St.ev ⟨sz,fr,up,own,dfs,rnd⟩ y=.nil from hy] at h2
 have key:∀b:Bool,(b=true→xs=[])→(execOp a.eval ⟨some s,.binOp .eql t x y u,ty,pos,aft,none⟩).run P w=.ok (.value (.bool b)) w →
   Oper.wpIn (Fr ((St.mk sz fr up own dfs rnd).rnd.map G.blk)) 0 P ⟨some s,.binOp .eql t x y u,ty,pos,aft,none⟩ a w (Post d ⟨sz,fr,up,own,dfs,rnd⟩ G w (fun s'=>∃b:Bool,(b=true→xs=[])∧s'=⟨sz,A6 s (.v (.bool b)) fr,up,own,dfs,rnd⟩)) Q':=fun b hb hv =>
  Do (by intro c h;cases h) hv ⟨G,_,hrel.put (y:=.v (.bool b)) (by simpa using hs) (.v _ _),Hf d G w,rfl,rfl,rfl,b,hb,rfl⟩
 generalize hya:a.eval y=vy at h2
 generalize hxa:a.eval x=vx at h1
 cases h2
 cases h1 with
 | slice0=>exact key true (fun _=>rfl) (by simp only [execOp,hxa,hya,eqGuard];simp [Lib.run_eql_slice_nil _ _ _ _ _ _ _ _ ht,hg])
 | sliceE=>exact key false (fun h=>by cases h) (by simp only [execOp,hxa,hya,eqGuard];simp [Lib.run_eql_slice_nil _ _ _ _ _ _ _ _ ht,hg])
 | slice=>exact key false (fun h=>by cases h) (by simp only [execOp,hxa,hya,eqGuard];simp [Lib.run_eql_slice_nil _ _ _ _ _ _ _ _ ht,hg])
/-! A guarded slice that may be appended to. -/
end Go.SX
namespace Go.SX
variable [GI:GlobInv]
open Classical
section
variable {P:Program} {d:Nat}
/-- A call that returns and may leave more objects than it found; they are the caller's. -/
def ACallO (P:Program) (g:FuncId) (args:List AV) (H:List AObj) (post:AV→List AObj→Prop):Prop:=
 ∀(d:Nat) (G:Gh) (w:World) (vs:Array Value),vs.size=args.length→(∀(i:Nat) (y:AV) (u:Value),args[i]? = some y→vs[i]? = some u→Rep G w (some (.slot (d+1) i)) y u)→HeapRel G H w→TagOK G w→GI.bd≤d →
  CallsIn Fence.wide 0 P g vs w (fun e w'=>∃(v:Value) (G':Gh) (r:AV) (H':List AObj),e=.returned v∧Rep G' w' none r v∧HeapRel G' H' w'∧TagOK G' w'∧Keep (d+1) G w G' w'∧post r H')
/-- What is asked at a body's end: the first j of its objects are handed back. -/
def FO (P:Program) (rs:List ResultVar) (n:Nat) (post:AV→List AObj→Prop) (e:Exit) (st':St):Prop:=
 (e=.normal∨e=.ret)∧st'.defs=[]∧∃(r:AV) (rv:ResultVar) (j:Nat),rs=[rv]∧ResV P st' rv r∧Low (n+j) r∧(∀x∈st'.up++st'.own.take j,ObjLow (n+j) x)∧j≤st'.own.length∧post r (st'.up++st'.own.take j)
theorem ACallO.ofBody {g:FuncId} {fn:Func} {c:Code} {args:List AV} {H:List AObj} {post:AV→List AObj→Prop} {rs:List ResultVar} {n:Nat} (hf:P.funcs[g]? = some fn) (hb:fn.body=some c) (hrs:fn.results=rs.toArray)
  (hn:fn.ntmps=n) (hargs:args.length≤n) (h:∀d,AW P (d+1) c ⟨n,argsF args,H,[],[],none⟩ (FO P rs H.length post)):ACallO P g args H post:=by
 intro d G w vs hvs hrep hH hT hTop
 refine callsIn_of_wp_marks hf hb trivial ?_
 have hst:StRel (d+1) G ⟨n,argsF args,H,[],[],none⟩ { tmps:=vs++Array.replicate (fn.ntmps-vs.size) undef,defers:=[] } w:=by
  refine ⟨?_,fun s=>?_,by simpa using hH,(by rw [H4 hTop];rfl),(fun o ho=>by simp at ho),N0,(fun o ho=>by simp at ho),hT,(fun l hl=>by cases hl),fun x hx=>?_,O7 hTop⟩
  ·simp only [M7,gk,hvs,hn];omega
  ·show Rep G w _ (args.getD s (.v undef)) _
   rw [D3,Ko]
   rcases Be s args.length with h'|h'
   ·rw [Aa h',M6 (by omega),Ep (by omega)]
    exact hrep s _ _ (Aa h') (Ep (by omega))
   rw [Ga h',Ri (by omega)]
   simp only [Option.getD_none]
   have:((Array.replicate (fn.ntmps-vs.size) undef)[s-vs.size]?).getD undef=undef:=by
    rw [Pb];split<;>rfl
   rw [this]
   exact .v _ _
  obtain ⟨i,hi⟩:=Cf hx
  have hob:=hH.obj i x hi
  show ObjLow H.length x
  rw [←hH.n]
  exact hob.low
 have hw:=h d G _ w hst
 refine wpIn_mono hw ?_
 rintro e a' w' ⟨G1,st',h1,k1,e1,e2,e3,hcase,hdefs,r,rv,j,rfl,hres,hlow,hobjs,hj,hpost⟩
 have fin:LeavesInM Fence.wide 0 P fn a'.tmps (fun e w'=>∃(v:Value) (G':Gh) (r:AV) (H':List AObj),e=.returned v∧Rep G' w' none r v∧HeapRel G' H' w'∧TagOK G' w'∧Keep (d+1) G w G' w'∧post r H') a'.defers .returning w':=by
  rw [h1.defs,hdefs,H4 hTop]
  obtain ⟨v,hv,hr⟩:=hres.run h1
  have hupl:st'.up.length=H.length:=e1
  have hgn:G1.n=st'.up.length+st'.own.length:=by rw [h1.heap.n,Ap]
  have hget:∀(i:Nat) (x:AObj),(st'.up++st'.own.take j)[i]? = some x→(st'.up++st'.own)[i]? = some x:=fun i x hx=>by
   rcases Be i st'.up.length with h'|h'
   ·rw [Dg h'] at hx ⊢;exact hx
   rw [Dm h'] at hx ⊢
   rw [He] at hx
   split at hx
   ·exact hx
   cases hx
  refine ⟨v,by simp [Gw,hrs,hv],v,{ G1 with n:=H.length+j },r,st'.up++st'.own.take j,rfl,hr.cut hlow,⟨fun i x hx=>(h1.heap.obj i x (hget i x hx)).cut (hobjs x (B2 hx)),?_,fun a b ha hb' e=>?_⟩,
   ⟨h1.tags.ex,h1.tags.obj,h1.tags.tail,h1.tags.globCut (by rw [hgn];omega)⟩,?_,hpost⟩
  ·show H.length+j=_
   rw [Ap,Bx,vg hj,hupl]
  ·exact h1.heap.inj a b (by rw [hgn];simp only at ha;omega) (by rw [hgn];simp only at hb';omega) e
  have hGn:G.n=H.length:=hH.n
  exact ⟨k1.fix,k1.slot,by rw [hGn];exact Nat.le_add_right _ _,k1.blk,k1.os,k1.tape,k1.output,k1.size,k1.old.cut (by rw [hgn];omega)⟩
 rcases hcase with rfl|rfl
 ·exact fin
 exact fin
end
section
variable {P:Program} {d:Nat} {ops:Array Oper} {rest:List Oper} {sz s:Nat} {fr:Nat→AV} {up own:List AObj} {dfs:List Nat} {rnd:Option Nat} {Q:St→Prop} {ty:TypeId} {pos:String} {aft:Array Edge}
theorem ACallO.body {g:FuncId} {fn:Func} {c:Code} {args:List AV} {H:List AObj} {post:AV→List AObj→Prop} {fr':Nat→AV} (rs:List ResultVar) (l:List Nat) {n:Nat} (hf:P.funcs[g]? = some fn) (hn:fn.ntmps=n)
  (h:∀d,AW P (d+1) c ⟨n,fr',H,[],[],none⟩ (FO P rs H.length post)) (hb:fn.body=some c:=by rfl) (hrs:fn.results=rs.toArray:=by rfl) (hargs:args.length≤n:=by exact sL1)
  (hk:P4 l (argsF args)=fr':=by exact sL0):ACallO P g args H post:=
 ACallO.ofBody hf hb hrs hn hargs (fun d=>dq l hk (h d))
/-- The end of such a body. -/
theorem K.finO {rs:List ResultVar} {n:Nat} {post:AV→List AObj→Prop} {r:AV} {rv:ResultVar} {st:St} (j:Nat) (hres:ResV P st rv r) (hp:post r (st.up++st.own.take j)) (hlow:Low (n+j) r) (hobj:∀x∈st.up++st.own.take j,ObjLow (n+j) x)
  (hd:st.defs=[]:=by rfl) (hr:rs=[rv]:=by rfl) (hj:j≤st.own.length:=by simp):FO P rs n post .ret st:=⟨.inr rfl,hd,r,rv,j,hr,hres,hlow,hobj,hj,hp⟩
/-- A call of such a function. -/
theorem R.callO {g:FuncId} {xs:List Operand} {ats:Array TypeId} {args:List AV} {post:AV→List AObj→Prop} (hcall:∀args w,(callFunc g args).run P w=.ok (.enter g args) w)
  (h:ACallO P g args (up++own) post) (hp:∀r H',post r H'→∃O,H'=up++(own++O)∧ARun P d ops rest ⟨sz,A6 s r fr,up,own++O,dfs,rnd⟩ Q)
  (ha:xs.map (Bb fr)=args:=by exact sL0) (hs:Nat.blt s sz=true:=by rfl):
  ARun P d ops (⟨some s,.call ⟨.value (.func g),xs.toArray,ats⟩,ty,pos,aft,none⟩::rest) ⟨sz,fr,up,own,dfs,rnd⟩ Q:=by
 refine Yb rfl (Q1:=fun s'=>ARun P d ops rest s' Q) ?_ (fun s' e=>e)
 intro G a w hr Q'
 have hs:s<sz:=by simpa using hs
 have hxr:=Tl hr xs
 have ha':xs.map (St.ev ⟨sz,fr,up,own,dfs,rnd⟩)=args:=ha
 rw [ha'] at hxr
 have hrun:(execOp a.eval (⟨some s,.call ⟨.value (.func g),xs.toArray,ats⟩,ty,pos,aft,none⟩:Oper)).run P w=.ok (.enter g (xs.map a.eval).toArray) w:=by
  have:=S3 (P:=P) (dst:=some s) (ty:=ty) (pos:=pos) (aft:=aft) (gd:=none) (ats:=ats) (f:=.func g) (xs:=xs) (g:=g) (va:=#[]) (vc:=#[]) (a:=a) (w:=w) hcall rfl
  simpa using this
 refine S1 (by intro c h;cases h) hrun (h d G w _ (by rw [←ha'];simp) (fun i y u hy hu=>(hxr i y u hy hu).lift) hr.heap hr.tags hr.top) ?_
 rintro e w' ⟨v,G',r,H',rfl,hrep,hH,hT,hk,hpo⟩
 obtain ⟨O,rfl,hrn⟩:=hp r H' hpo
 have h3:=hr.called (U:=up) (O:=own++O) hH hT hk rfl rfl (fun o ho=>by
  have:=hr.defsAt o ho
  rw [←Ca,Dg (Ad.1 this).1]
  exact this) hr.low
 obtain ⟨h4,k4⟩:=h3.took hrep.lift (s:=s) hs
 exact ⟨v,rfl,_,_,h4,(hk.less (Kh d)).trans k4,rfl,rfl,rfl,hrn⟩
end
end Go.SX
