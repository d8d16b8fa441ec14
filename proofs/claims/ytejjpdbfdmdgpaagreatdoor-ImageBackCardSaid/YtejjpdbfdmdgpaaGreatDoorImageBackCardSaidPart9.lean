/- On the way (part 9). -/
import Derived.Lib.ItoaLen
import Derived.Lib.SliceRun
import Derived.Test.YtejjpdbfdmdgpaaGreatDoorImageBackCardSaidPart8
set_option linter.all false
namespace Go.SX.Nb
open Go Go.SX Go.Proofs
variable [ErrAt]
set_option maxRecDepth 4000
theorem AUc (a b:Int) (a0 : -9223372036854775808≤a) (a1:a≤9223372036854775807) (b0 : -9223372036854775808≤b) (b1:b≤9223372036854775807):a.natAbs*b.natAbs<B32 ^ 5:=by
 have:a.natAbs*b.natAbs≤9223372036854775808*9223372036854775808:=Nat.mul_le_mul (by omega) (by omega)
 have h2:(9223372036854775808*9223372036854775808:Nat)<B32 ^ 5:=by decide
 omega
theorem AN5 {a:Int} (a0 : -9223372036854775808≤a) (a1:a≤9223372036854775807):a.natAbs<B32 ^ 5∧a.natAbs<B32 ^ 2:=by
 have h2:(9223372036854775809:Nat)≤B32 ^ 5:=by decide
 have h3:(9223372036854775809:Nat)≤B32 ^ 2:=by decide
 omega
section
variable {t:Str} {a b:Val}
theorem Vw (h3:(Dr t==3)=false) (h:(t==[38])=true):Id t a b=J7 a b:=by rw [b6 h3,if_pos h]
theorem AAu (h3:(Dr t==3)=false) (h:(t==[38])=false) (hk:((a.kind != 1) || (b.kind != 1))=true):Id t a b=(noV,10):=by
 rw [b6 h3,if_neg (by rw [h];simp)]
 have:(!By [a,b] [1,1])=true:=by
  simp only [By,Pc]
  simp only [Co,bne_iff_ne,ne_eq] at hk
  simp
  exact hk
 rw [if_pos this]
 rfl
theorem AAv (h3:(Dr t==3)=false) (h:(t==[38])=false) (hk:((a.kind != 1) || (b.kind != 1))=false):Id t a b=Fu (Ev t a.n b.n):=by
 rw [b6 h3,if_neg (by rw [h];simp)]
 have:(!By [a,b] [1,1])=false:=by
  simp only [Cq,bne_eq_false_iff_eq] at hk
  simp [By,hk.1,hk.2]
 rw [if_neg (by rw [this];simp)]
theorem AN6 (h:((a.kind != 2) || (b.kind != 2))=true):J7 a b=(noV,10):=by
 unfold J7
 have:(!By [a,b] [2,2])=true:=by
  simp only [By,Pc]
  simp only [Co,bne_iff_ne,ne_eq] at h
  simp
  exact h
 rw [if_pos this]
 rfl
theorem AN7 (h:((a.kind != 2) || (b.kind != 2))=false) (h2:decide ((200:Int)<(a.s.length:Int)+(b.s.length:Int))=true):J7 a b=(noV,3):=by
 unfold J7
 have:(!By [a,b] [2,2])=false:=by
  simp only [Cq,bne_eq_false_iff_eq] at h
  simp [By,h.1,h.2]
 rw [if_neg (by rw [this];simp),if_pos h2]
 rfl
theorem AN8 (h:((a.kind != 2) || (b.kind != 2))=false) (h2:decide ((200:Int)<(a.s.length:Int)+(b.s.length:Int))=false):J7 a b=(⟨2,0,a.s++b.s⟩,0):=by
 unfold J7
 have:(!By [a,b] [2,2])=false:=by
  simp only [Cq,bne_eq_false_iff_eq] at h
  simp [By,h.1,h.2]
 rw [if_neg (by rw [this];simp),if_neg (by rw [h2];simp)]
 unfold Sp
 simp only [decide_eq_false_iff_not] at h2
 rw [D9 (by rw [Ao];omega)]
end
theorem AJ8 {t:Str} {a b:Int} (h1:(t==[43])=false) (h2:(t==[45])=false) (h3:(t==[42])=false) (hb:(b==0)=true):Fu (Ev t a b)=(noV,5):=by
 unfold Ev Xg Sr
 rw [if_neg (by rw [h1];simp),if_neg (by rw [h2];simp),if_neg (by rw [h3];simp),if_pos hb,if_pos hb]
 split<;>rfl
theorem c53 (t:Str) (a b:Val) (fa:Fine a) (fb:Fine b) (hal:a.s.length≤1048576) (hbl:b.s.length≤1048576) (Hp:List AObj):AFun Tryz.prog 53 [Af t,Bi a,Bi b] Hp (Q6 (Id t a b)):=by
 have ea:=AN5 fa.lo fa.hi
 have eb:=AN5 fb.lo fb.hi
 refine Ah [.cell 6 42,.tmp 7] [0,1,2] Tryz.func53 Tryz.ntmps53 (fun d=>?_)
 refine Z1 ?_;refine Z80 ?_;refine A2 [0,4,5,6] ?_;refine Z29 ?_;refine A9 Tryz.call82 (c82 t _) ?_;refine A4 ?_;refine A2 [0,4,5,6,16] ?_
 refine A3 (fun ht16=>?_) (fun ht16=>?_)
 ·refine Oi ?_;refine A2 [0,4,5,6,21] ?_
  refine A3 (fun ht21=>?_) (fun ht21=>?_)
  ·refine Z34 ?_;refine yp ?_;exact A8 (B1 (B8 jA jS) A7) ⟨by rw [AFq ht16 ht21];try rfl,rfl⟩
  have hbc:=AJ7 fa.plain fb.plain ht16 ht21
  refine Z4 ?_;refine Cb [0,0,3,0,0,31,63,127] 5 Ai (by kernel_rfl) ?_;refine Z12 ?_;refine De Tryz.call83 (c83 a b hal _) ?_;refine Z88 ?_;refine A9 Tryz.call83 (c83 b a hbl _) ?_;refine Z0 ?_;refine A2 [0,6,8,9] ?_;refine Z29 ?_;refine A2 [6,8,9,29] ?_;refine P8 ?_;refine A2 [6,8,9,29,30] ?_
  refine A3 (fun ht30=>?_) (fun ht30=>?_)
  ·refine Z19 ?_;refine Z97 ?_;refine ADk ?_;exact A8 (B1 (B8 jA jS) A7) ⟨by rw [hbc];unfold jr;rw [if_pos ht30];try rfl,rfl⟩
  refine Z1 ?_;refine A2 [6,8,9,29,39] ?_
  refine A3 (fun ht39=>?_) (fun ht39=>?_)
  ·refine Z1 ?_;refine Z93 ?_;refine ADk ?_;exact A8 (B1 (B8 jA jS) A7) ⟨by rw [hbc];unfold jr;rw [if_neg (by rw [ht30];simp),if_pos ht39];try rfl,rfl⟩
  refine Z1 ?_;refine A2 [6,8,9,29,46] ?_
  refine A3 (fun ht46=>?_) (fun ht46=>?_)
  ·refine Z2 ?_;refine ADk ?_;exact A8 (B1 (B8 jA jS) A7) ⟨by rw [hbc];unfold jr;rw [if_neg (by rw [ht30];simp),if_neg (by rw [ht39];simp),if_pos ht46];try rfl,rfl⟩
  refine Z1 ?_;refine A2 [6,8,9,29,50] ?_
  refine A3 (fun ht50=>?_) (fun ht50=>?_)
  ·refine Z1 ?_;refine ADk ?_;exact A8 (B1 (B8 jA jS) A7) ⟨by rw [hbc];unfold jr;rw [if_neg (by rw [ht30];simp),if_neg (by rw [ht39];simp),if_neg (by rw [ht46];simp),if_pos ht50];try rfl,rfl⟩
  refine Z1 ?_;refine A2 [6,8,9,55] ?_
  refine A3 (fun ht55=>?_) (fun ht55=>?_)
  ·refine Z2 ?_;refine ADk ?_;exact A8 (B1 (B8 jA jS) A7) ⟨by rw [hbc];unfold jr;rw [if_neg (by rw [ht30];simp),if_neg (by rw [ht39];simp),if_neg (by rw [ht46];simp),if_neg (by rw [ht50];simp),if_pos ht55];try rfl,rfl⟩
  refine j6 ?_;refine AM9 ?_;exact A8 (B1 (B8 jA jS) A7) ⟨by rw [hbc];unfold jr;rw [if_neg (by rw [ht30];simp),if_neg (by rw [ht39];simp),if_neg (by rw [ht46];simp),if_neg (by rw [ht50];simp),if_neg (by rw [ht55];simp)];try rfl,rfl⟩
 refine Xd ?_;refine A2 [0,4,5,6,63] ?_
 refine A3 (fun ht63=>?_) (fun ht63=>?_)
 ·refine Z50 ?_;refine Oh ?_;refine A2 [4,5,6,71] ?_
  refine A3 (fun ht71=>?_) (fun ht71=>?_)
  ·refine Z34 ?_;refine yp ?_;exact A8 (B1 (B8 jA jS) A7) ⟨by rw [Vw ht16 ht63,AN6 ht71];try rfl,rfl⟩
  refine ma ?_;refine Z70 ?_;refine A2 [4,5,6,80] ?_
  refine A3 (fun ht80=>?_) (fun ht80=>?_)
  ·refine Z34 ?_;refine yp ?_;exact A8 (B1 (B8 jA jS) A7) ⟨by rw [Vw ht16 ht63,AN7 ht71 ht80];try rfl,rfl⟩
  refine Yt ?_
  refine A4 (h:=Q.sadd (hl:=fun _=>by omega)) (hr:=?_)
  refine ALq ?_;exact A8 (B1 (B8 jA jS) A7) ⟨by rw [Vw ht16 ht63,AN8 ht71 ht80];try rfl,rfl⟩
 refine ma ?_;refine Oh ?_;refine A2 [0,4,5,6,95] ?_
 refine A3 (fun ht95=>?_) (fun ht95=>?_)
 ·refine Z34 ?_;refine Z64 ?_;exact A8 (B1 (B8 jA jS) A7) ⟨by rw [AAu ht16 ht63 ht95];try rfl,rfl⟩
 have hba:=AAv (a:=a) (b:=b) ht16 ht63 ht95
 refine Z4 ?_;refine Hy [0,1,3,0,8,31,0,0,255,511] [] [.q 6 [] [],.s [10] none [] [],.s [11] none [] [],.s [10] none [] [],.s [11] none [] []] (fun _=>Hp) (fun _=>[.cells 42 [A5 0,A5 0,Af []]]) Ai (by kernel_rfl) rfl rfl (fun _=>rfl) ?_
 apply Y.q
 ·intro B hT hF
  refine Z12 ?_;refine De Tryz.call56 (AAh a.n fa.lo fa.hi _) ?_;refine Z12 ?_;refine De Tryz.call56 (AAh b.n fb.lo fb.hi _) ?_;exact cr
 case hTF=>decide
 refine Y.allocP Tryz.zeroValue91 ?_;refine Y.allocP Tryz.zeroValue91 ?_;refine Y.storeP Tryz.sizeOf91 ?_;refine Y.storeP Tryz.sizeOf91 ?_;refine Gx (tn:=[])  ?_;refine A2 [0,4,5,6,10,11] ?_;refine Z29 ?_;refine A2 [0,4,5,6,10,11,103] ?_;refine P8 ?_;refine A2 [0,4,5,6,10,11,103,104] ?_
 refine A3 (fun ht104=>?_) (fun ht104=>?_)
 ·refine Z1 ?_;refine A9 Tryz.call84 (c84 (decide (a.n<0)) a.n.natAbs (decide (b.n<0)) b.n.natAbs ea.1 eb.1 _) ?_;refine A9 Tryz.call54 (c54 _ _ (AFs fa.lo fa.hi fb.lo fb.hi) _) ?_;refine lq ?_;refine Z21 ?_;exact A8 (B1 (B8 jA jS) A7) ⟨by rw [hba,show Ev t a.n b.n=an a.n b.n from if_pos ht104,M4,AAp fa.lo fa.hi fb.lo fb.hi];try rfl,rfl⟩
 refine Z1 ?_;refine A2 [0,4,5,6,10,11,103,112] ?_
 refine A3 (fun ht112=>?_) (fun ht112=>?_)
 ·refine Cb [0,0,2,7,15,31,31,127,255] 7 Ai (by kernel_rfl) ?_;refine Z12 ?_;refine De Tryz.call55 (c55 (decide (b.n<0)) (dig b.n.natAbs) _) ?_;refine De Tryz.call84 (c84 (decide (a.n<0)) a.n.natAbs (!(decide (b.n<0))) b.n.natAbs ea.1 eb.1 _) ?_;refine De Tryz.call54 (c54 _ _ (AFs fa.lo fa.hi fb.lo fb.hi) _) ?_;refine Z88 ?_;refine Z27 ?_;refine Z21 ?_;exact A8 (B1 (B8 jA jS) A7) ⟨by rw [hba,show Ev t a.n b.n=Lt a.n b.n from (by unfold Ev;rw [if_neg (by rw [ht104];simp),if_pos ht112]),M4,AAq fa.lo fa.hi fb.lo fb.hi];try rfl,rfl⟩
 refine Z1 ?_;refine A2 [0,4,5,6,10,11,121] ?_
 refine A3 (fun ht121=>?_) (fun ht121=>?_)
 ·refine Z1 ?_;refine A9 Tryz.call85 (c85 (decide (a.n<0)) a.n.natAbs (decide (b.n<0)) b.n.natAbs ea.2 eb.2 _) ?_;refine A9 Tryz.call54 (c54 _ _ (AUc a.n b.n fa.lo fa.hi fb.lo fb.hi) _) ?_;refine lq ?_;refine Z21 ?_;exact A8 (B1 (B8 jA jS) A7) ⟨by rw [hba,show Ev t a.n b.n=Sq a.n b.n from (by unfold Ev;rw [if_neg (by rw [ht104];simp),if_neg (by rw [ht112];simp),if_pos ht121]),M4,AAr fa.lo fa.hi fb.lo fb.hi];try rfl,rfl⟩
 refine Z17 ?_;refine Z33 ?_;refine A2 [0,4,5,6,131] ?_
 refine A3 (fun ht131=>?_) (fun ht131=>?_)
 ·refine Z34 ?_;refine Z64 ?_;exact A8 (B1 (B8 jA jS) A7) ⟨by rw [hba,AJ8 ht104 ht112 ht121 ht131];try rfl,rfl⟩
 refine Yt ?_;refine A9 Tryz.call86 (c86 a.n b.n fa.lo fa.hi fb.lo fb.hi (by simpa using ht131) _) ?_;refine ALe ?_;refine ADd ?_;refine A2 [0,6,12,13] ?_;refine Z8 ?_;refine A2 [6,12,13,142] ?_
 refine A3 (fun ht142=>?_) (fun ht142=>?_)
 ·refine Z2 ?_;refine A9 Tryz.call54 (c54 _ _ (Tf (Xp _ _) ea.1) _) ?_;refine Z0 ?_;refine Z64 ?_;exact A8 (B1 (B8 jA jS) A7) ⟨by rw [hba,show Ev t a.n b.n=Xg a.n b.n from (by unfold Ev;rw [if_neg (by rw [ht104];simp),if_neg (by rw [ht112];simp),if_neg (by rw [ht121];simp),if_pos ht142]),M4,AAs fa.lo fa.hi fb.lo fb.hi ht131];try rfl,rfl⟩
 refine Z92 ?_;refine A9 Tryz.call54 (c54 _ _ (Tf (Tg _ _) ea.1) _) ?_;refine lq ?_;refine Dd ?_;exact A8 (B1 (B8 jA jS) A7) ⟨by rw [hba,show Ev t a.n b.n=Sr a.n b.n from (by unfold Ev;rw [if_neg (by rw [ht104];simp),if_neg (by rw [ht112];simp),if_neg (by rw [ht121];simp),if_neg (by rw [ht142];simp)]),M4,AAt fa.lo fa.hi fb.lo fb.hi ht131];try rfl,rfl⟩

set_option maxRecDepth 8000
/-! The reference's reading of a number. -/
def rdS (x:Nat×Bool) (c:UInt8):Nat×Bool:=if x.2 then x else (x.1*10+(c.toNat-48),decide (18446744073709551616≤x.1*10+(c.toNat-48)))
def rdL (d:Str):Nat×Bool:=d.foldl rdS (0,false)
def Ub (c:UInt8):Bool:=(decide (48≤c.toNat)&&decide (c.toNat≤57))
theorem js:∀(l:Str) (m:Nat),l.foldl rdS (m,true)=(m,true)
 | [],m=>rfl
 | c::r,m=>js r m
theorem wr {d:Str} {i:Nat} (h:i<d.length):rdL (d.take (i+1))=rdS (rdL (d.take i)) d[i]:=by
 unfold rdL
 rw [Ip h,gu]
 rfl
theorem AFt {l:Str} (hl:∀c∈l,Ub c=true):∀x:Nat×Bool,(x.2=false→x.1<18446744073709551616)→(l.foldl rdS x).2=false→(l.foldl rdS x).1<18446744073709551616:=by
 induction l with
 | nil=>exact fun x h h2=>h h2
 | cons c r ih =>
  intro x h h2
  refine ih (fun y hy=>hl y (Qj _ hy)) (rdS x c) (fun h3=>?_) h2
  unfold rdS at h3 ⊢
  split
  ·rename_i h4;rw [if_pos h4] at h3;rw [h4] at h3;cases h3
  rename_i h4;rw [if_neg h4] at h3;simp at h3;simpa using h3
theorem o6:∀(l:Str) (m:Nat),(∀c∈l,Ub c=true)→m<18446744073709551616→Lib.parseUintM 18446744073709551615 m l=if (l.foldl rdS (m,false)).2=true then .range else .ok (l.foldl rdS (m,false)).1
 | [],m,_,_=>by rw [Lib.parseUintM];rfl
 | c::r,m,h,hm=>by
  have hc:=h c (by simp)
  unfold Ub at hc
  simp only [As,decide_eq_true_eq] at hc
  have hr:=fun y hy=>h y (Qj _ hy)
  have e:(c::r).foldl rdS (m,false)=r.foldl rdS (m*10+(c.toNat-48),decide (18446744073709551616≤m*10+(c.toNat-48))):=rfl
  rw [Lib.parseUintM,if_pos hc,e]
  by_cases h1:1844674407370955162≤m
  ·rw [if_pos h1,decide_eq_true (by omega),js,if_pos rfl]
  rw [if_neg h1]
  by_cases h2:18446744073709551615<m*10+(c.toNat-48)
  ·rw [if_pos h2,decide_eq_true (by omega),js,if_pos rfl]
  rw [if_neg h2,decide_eq_false (by omega)]
  exact o6 r _ hr (by omega)
theorem wt (c:UInt8):Ub c=digs.contains c:=(Ng c).symm
/-- What is wrong with a text that is no number. -/
theorem AJ9 {s d:Str} (hd:d=Np s) (h:((((d.length:Nat):Int)==0) || (decide ((1:Int)<((s.length:Nat):Int))&&(((d.headD 0).toNat:Int)==48)))=true):Bv s=(0,6):=by
 have:I0 s=true:=by
  unfold I0
  rw [←hd]
  simp only [Co,As,beq_iff_eq,decide_eq_true_eq] at h
  rcases h with h|⟨h1,h2⟩
  ·have:d=[]:=Pd (by omega)
   rw [this];rfl
  have e:d.headD 0=48:=Lo.1 (by have:(48:UInt8).toNat=48:=rfl;omega)
  rw [e,decide_eq_true (by omega)]
  simp
 unfold Bv
 rw [if_pos this]
theorem AJa {s d:Str} (hd:d=Np s) {i:Nat} (hi:i<d.length) (h:(decide (((d[i].toNat:Nat):Int)<48) || decide ((57:Int)<((d[i].toNat:Nat):Int)))=true):Bv s=(0,6):=by
 have:I0 s=true:=by
  unfold I0
  rw [←hd]
  cases hb:Lib.trimS d digs==[] with
  | false=>simp
  | true =>
   exfalso
   have hb':=trimS_nil.1 (eq_of_beq hb) d[i] (Av hi)
   rw [←wt] at hb'
   unfold Ub at hb'
   simp only [As,decide_eq_true_eq] at hb'
   simp only [Co,decide_eq_true_eq] at h
   omega
 unfold Bv
 rw [if_pos this]
theorem wu {s d:Str} (hd:d=Np s) (h:((((d.length:Nat):Int)==0) || (decide ((1:Int)<((s.length:Nat):Int))&&(((d.headD 0).toNat:Int)==48)))=false) (ha:∀c∈d,Ub c=true):Bv s=if (rdL d).2=true then (0,4) else F1 (decide (((d.length:Nat):Int)<((s.length:Nat):Int))) (rdL d).1:=by
 simp only [Cq,Y5,beq_eq_false_iff_ne,ne_eq,decide_eq_false_iff_not] at h
 have hne:d≠[]:=fun e=>h.1 (by rw [e];rfl)
 have hg:I0 s=false:=by
  unfold I0
  rw [←hd]
  have h1:(d==[])=false:=by simpa using hne
  have h2:(Lib.trimS d digs==[])=true:=by
   have:=trimS_nil.2 (fun b hb=>by rw [←wt];exact ha b hb)
   simpa using this
  have h3:((d.headD 0==48)&&decide (1<s.length))=false:=by
   rw [Y5]
   rcases h.2 with h4|h4
   ·exact .inr (decide_eq_false (by omega))
   refine .inl ?_
   rw [beq_eq_false_iff_ne]
   intro e
   rw [e] at h4
   exact h4 rfl
  rw [h1,h2,h3]
  rfl
 have hl:=AFt ha (0,false) (fun _=>by decide)
 have hp:=o6 d 0 ha (by decide)
 have hU:Lib.parseUintB 64 d=if (rdL d).2=true then .range else .ok (rdL d).1:=by
  unfold Lib.parseUintB
  rw [if_neg hne]
  exact hp
 unfold Bv
 rw [hg,if_neg (by simp)]
 have p1:(2:Nat) ^ (64-1)=9223372036854775808:=rfl
 rcases Ku s with ⟨h3,h4⟩|⟨r,h3,h4⟩
 ·have e:d=s:=hd.trans h4
  subst e
  cases d with
  | nil=>exact absurd rfl hne
  | cons c r =>
   have hc:=ha c (by simp)
   unfold Ub at hc
   simp only [As,decide_eq_true_eq] at hc
   have n1:¬(c.toNat=43∨c.toNat=45):=by omega
   have n2:¬c.toNat=45:=by omega
   simp only [Lib.parseIntB,if_neg n1,hU]
   cases ho:(rdL (c::r)).2 with
   | true=>simp
   | false =>
    have hm:=hl ho
    simp only [Ag,if_false]
    rw [decide_eq_false (show ¬(((c::r).length:Nat):Int)<(((c::r).length:Nat):Int) by omega)]
    unfold F1
    simp only [n2,not_false_eq_true,true_and,false_and,if_false,Ey,D3,Dm,Ag,decide_eq_true_eq]
    by_cases hx:2 ^ (64-1)≤(rdL (c::r)).1
    ·rw [if_pos hx,if_neg (by omega)]
    rw [if_neg hx,if_pos (by omega)]
 have e:d=r:=hd.trans h4
 subst e
 subst h3
 have n1:((45:UInt8).toNat=43∨(45:UInt8).toNat=45):=.inr rfl
 have n2:(45:UInt8).toNat=45:=rfl
 simp only [Lib.parseIntB,if_pos n1,hU]
 cases ho:(rdL d).2 with
 | true=>simp
 | false =>
  have hm:=hl ho
  simp only [Ag,if_false]
  rw [decide_eq_true (show ((d.length:Nat):Int)<(((45::d:Str).length:Nat):Int) by simp;omega)]
  unfold F1
  simp only [n2,not_true_eq_false,true_and,false_and,if_false,if_true,C8,Ey,Dm,Ag,decide_eq_true_eq]
  by_cases hx:2 ^ (64-1)<(rdL d).1
  ·rw [if_pos hx,if_neg (by omega)]
  rw [if_neg hx,if_pos (by omega)]
set_option maxRecDepth 4000
theorem gd1 {s:Str} (h:(decide ((0:Int)<((s.length:Nat):Int))==true)=true):s≠[]:=by rintro rfl;simp at h
theorem gd2 {d:Str} {b:Bool} (h:(((((d.length:Nat):Int)==0)==false)&&b)=true):d≠[]:=by rintro rfl;simp at h
theorem ARv (a b:Nat) (ha:a<B32 ^ 5) (hb:b<B32 ^ 5) (Hp:List AObj):AFun Tryz.prog 84 [.agg (wF false (dig a)),.agg (wF false (dig b))] Hp (.agg (wF false (dig (a+b)))):=c84 false a false b ha hb Hp
theorem AUd (a b:Nat) (ha:a<B32 ^ 2) (hb:b<B32 ^ 2) (Hp:List AObj):AFun Tryz.prog 85 [.agg (wF false (dig a)),.agg (wF false (dig b))] Hp (.agg (wF false (dig (a*b)))):=c85 false a false b ha hb Hp
theorem AUe (Hp:List AObj):AFun Tryz.prog 56 [A5 10] Hp (.agg (wF false (dig 10))):=AAh 10 (by decide) (by decide) Hp
theorem wv {p q:Nat} (hp:p<256) (hq:q<256):Cd (wF false (dig p)) 1 [Bo (q:Nat)]=wF false (dig q):=by
 have h0:dig q 0=q:=by rw [wo];omega
 refine jq (k:=0) (by decide) h0 fun i hi=>?_
 have hb:B32 ^ 1≤B32 ^ i:=Xr (by decide) (by omega)
 have hb1:(256:Nat)≤B32 ^ 1:=by decide
 rw [Fy (m:=q) (i:=i) (by omega),Fy (m:=p) (i:=i) (by omega)]
theorem ww:wF false (dig 0)=[B4 false,Bo 0,Bo 0,Bo 0,Bo 0,Bo 0]:=by
 have:∀i,dig 0 i=0:=fun i=>by unfold dig;simp
 unfold wF
 rw [this,this,this,this,this]
 rfl
theorem w48 {c:UInt8} (h:48≤c.toNat):IntKind.u64.wrap (IntKind.u64.wrap ((c.toNat:Nat):Int)-48)=((c.toNat-48:Nat):Int):=by
 have:=c.toNat_lt
 simp only [IntKind.wrap_u64]
 omega
theorem o7 {m:Nat} (h:m<B32 ^ 3):decide (0<((dig m 2:Nat):Int))=decide (18446744073709551616≤m):=by
 rw [decide_eq_decide]
 unfold dig
 simp only [B32,Nat.reducePow] at h ⊢
 omega
structure RdAt (d:Str) (x:Nat×Nat):Prop where
 le:x.1≤d.length
 dg:∀(j:Nat) (c:UInt8),j<x.1→d[j]? = some c→Ub c=true
 one:x.2<256
theorem RdAt.low {d:Str} {x:Nat×Nat} (h:RdAt d x) (ho:(rdL (d.take x.1)).2=false):(rdL (d.take x.1)).1<18446744073709551616:=by
 refine AFt (l:=d.take x.1) (fun c hc=>?_) (0,false) (fun _=>by decide) ho
 obtain ⟨j,hj⟩:=Cf hc
 have hj1:j<x.1:=by
  have:=(Ad.1 hj).1
  rw [Bx] at this
  omega
 rw [He,if_pos hj1] at hj
 exact h.dg j c hj1 hj
theorem c58 (s:Str) (hs:s.length≤1048576) (Hp:List AObj):AFun Tryz.prog 58 [Af s] Hp (.tup [A5 (Bv s).1,A5 (Bv s).2]):=by
 refine Ah [.tmp 2,.tmp 3] [0] Tryz.func58 Tryz.ntmps58 (fun d=>?_)
 refine Z1 ?_;refine A2 [0] ?_;refine Z1 ?_;refine A2 [0,4] ?_;refine Z50 ?_;refine Bd ?_
 refine Bd (h:=Fq 0 (s.headD 0) (fun hB=>M1 (gd1 hB))) (hr:=?_)
 refine Z93 ?_;refine A2 [0,4,18] ?_
 refine A3 (fun ht18=>?_) (fun ht18=>?_)
 ·have h45:s.headD 0=45:=by
   simp only [As,decide_eq_true_eq,beq_iff_eq] at ht18
   exact Lo.1 (by have:(45:UInt8).toNat=45:=rfl;have:=ht18.2;omega)
  have h1s:1≤s.length:=by simp only [As,decide_eq_true_eq] at ht18;have:=ht18.1;omega
  obtain ⟨d,hd0⟩:∃d,d=s.drop 1:=⟨_,rfl⟩
  have hd:d=Np s:=by
   rw [hd0]
   rcases Ku s with ⟨h3,h4⟩|⟨r,h3,h4⟩
   ·exfalso
    cases s with
    | nil=>simp at h1s
    | cons c r=>simp at h3 h45;exact h3 h45
   rw [h4,h3];rfl
  have hdl:d.length≤1048576:=by rw [hd0,Fh];omega
  refine Z52 ?_
  refine A4 (h:=S4 1 (fun _=>h1s) (fun _=>Aj _)) (hr:=?_)
  refine A4 ?_;refine A2 [0,4] ?_;refine Es ?_;refine Z74 ?_
  refine R.wk 4 (Af d) (by rw [hd0];exact Le.refl _) ?_
  refine Z0 ?_;refine Z44 ?_;refine Z38 ?_
  refine Bd (h:=Fq 0 (d.headD 0) (fun hB=>M1 (gd2 hB))) (hr:=?_)
  refine Z97 ?_;refine A2 [0,4,33] ?_
  refine A3 (fun ht33=>?_) (fun ht33=>?_)
  ·exact AHb
  refine rk ?_;refine Z79 ?_;refine A2 [0,4,5] ?_;refine Z2 ?_;refine A2 [0,4,5,6] ?_;refine Ec ?_;refine APi ?_;refine Mj ?_;refine ADd ?_;refine A2 [0,4,5,6,7,8] ?_;refine Z29 ?_;refine ct ?_
  refine Az (α:=Nat×Nat) (fun x=>⟨82,A6 0 (Af s) (A6 4 (Af d) (A6 5 (.ptr (oid Hp.length 0) 0) (A6 6 (B4 (rdL (d.take x.1)).2) (A6 7 (.ptr (oid Hp.length 1) 0) (A6 8 (.ptr (oid Hp.length 2) 0) (A6 9 (A5 (x.1:Nat)) (fun _=>.any))))))),Hp,[.cells 91 (wF false (dig (rdL (d.take x.1)).1)),.cells 91 (wF false (dig 10)),.cells 91 (wF false (dig x.2))],[],none⟩) (fun x=>RdAt d x) (fun x=>d.length-x.1) ((0,0)) ⟨Ap _,fun j c hj=>by omega,by decide⟩ (B2 (by simp only [List.take_zero,show rdL []=(0,false) from rfl,ww]<;>rfl)) rfl (fun x hx=>?_)
  obtain ⟨i,p⟩:=x
  simp only at hx ⊢
  refine Z50 ?_;refine A2 [0,4,5,6,7,8,9,40] ?_
  refine A3 (fun ht40=>?_) (fun ht40=>?_)
  ·have hil:i<d.length:=by simp at ht40;omega
   refine Z42 ?_;refine Z8 ?_
   refine A4 (h:=Fq i d[i] (fun _=>Aa hil)) (hr:=?_)
   refine Z44 ?_
   refine Bd (h:=Fq i d[i] (fun _=>Aa hil)) (hr:=?_)
   refine Z93 ?_;refine A2 [0,4,5,6,7,8,9,52] ?_
   refine A3 (fun ht52=>?_) (fun ht52=>?_)
   ·refine yq ?_;refine Z13 ?_;exact AOh
   have hdc:48≤d[i].toNat∧d[i].toNat≤57:=by
    simp only [Cq,decide_eq_false_iff_not] at ht52
    omega
   have hnx:=wr hil
   refine Lq ?_
   refine A4 (h:=Fq i d[i] (fun _=>Aa hil)) (hr:=?_)
   refine A4 ?_
   refine A4 (h:=L2) (hr:=?_)
   rw [w48 hdc.1]
   refine AH4 ?_
   refine Nf jS (hput:=wv hx.one (q:=(d[i].toNat-48)) (by have:=(d[i]).toNat_lt;omega)) (hfit:=by simp) ?_
   refine ct ?_;refine Z1 ?_;refine A2 [0,4,5,6,7,8,9,61] ?_
   refine A3 (fun ht61=>?_) (fun ht61=>?_)
   ·have ho:(rdL (d.take i)).2=false:=by simpa using ht61
    have hml:=hx.low ho
    simp only at hml
    have hm2:(rdL (d.take i)).1<B32 ^ 2:=hml
    have hm5:(rdL (d.take i)).1*10<B32 ^ 5:=Cp (show (rdL (d.take i)).1*10<184467440737095516170 by omega) (by decide)
    have hm3:(rdL (d.take i)).1*10+(d[i].toNat-48)<B32 ^ 3:=Cp (show (rdL (d.take i)).1*10+(d[i].toNat-48)<184467440737095516170 by omega) (by decide)
    have hst:rdL (d.take (i+1))=((rdL (d.take i)).1*10+(d[i].toNat-48),decide (18446744073709551616≤(rdL (d.take i)).1*10+(d[i].toNat-48))):=by rw [hnx];exact if_neg (by rw [ho];simp)
    refine Cb [0,0,3,0,15,31] 4 Ai (by kernel_rfl) ?_;refine Z12 ?_;refine AQ4 ?_
    refine A9 Tryz.call84 (ARv ((rdL (d.take i)).1*10) (d[i].toNat-48) hm5 (Cp (show (d[i].toNat-48)<256 by have:=(d[i]).toNat_lt;omega) (by decide)) _) ?_
    refine Gc ?_;refine A2 [0,4,5,7,8,9] ?_;refine Z52 ?_;refine S8 (2) jU Tryz.sizeOf88 (by decide) ?_;refine Z0 ?_
    rw [o7 hm3]
    refine A4 ?_;refine ct ?_;refine Z83 ?_;refine ct ?_
    refine Ay (i+1,(d[i].toNat-48)) ⟨hil,fun j c hj hc=>?_,by have:=(d[i]).toNat_lt;show d[i].toNat-48<256;omega⟩ (by show d.length-(i+1)<d.length-i;omega) (Bh (by rw [hst]<;>rfl))
    rcases Be j i with h|h
    ·exact hx.dg j c h hc
    have:j=i:=by have hj':j<i+1:=hj;omega
    subst this
    rw [Aa hil] at hc
    injection hc with hc
    rw [←hc]
    unfold Ub
    simp only [As,decide_eq_true_eq]
    exact hdc
   have ho:(rdL (d.take i)).2=true:=by simpa using ht61
   have hst:rdL (d.take (i+1))=rdL (d.take i):=by rw [hnx];exact if_pos ho
   refine Z71 ?_;refine ct ?_
   refine Ay (i+1,(d[i].toNat-48)) ⟨hil,fun j c hj hc=>?_,by have:=(d[i]).toNat_lt;show d[i].toNat-48<256;omega⟩ (by show d.length-(i+1)<d.length-i;omega) (Bh (by rw [hst]<;>rfl))
   rcases Be j i with h|h
   ·exact hx.dg j c h hc
   have:j=i:=by have hj':j<i+1:=hj;omega
   subst this
   rw [Aa hil] at hc
   injection hc with hc
   rw [←hc]
   unfold Ub
   simp only [As,decide_eq_true_eq]
   exact hdc
  have hie:d.take i=d:=D9 (by simp at ht40;omega)
  have hall:∀c∈d,Ub c=true:=fun c hc=>by
   obtain ⟨j,hj⟩:=Cf hc
   exact hx.dg j c (by have:=(Ad.1 hj).1;simp at ht40;omega) hj
  have hgood:=wu hd ht33 hall
  have hlow:=hx.low
  simp only at hlow
  rw [hie] at hlow ⊢
  refine Z45 ?_;refine Z25 ?_;refine Z0 ?_;refine Gc ?_;refine A2 [5,6] ?_;refine Z29 ?_;refine A2 [5,77] ?_
  refine A3 (fun ht77=>?_) (fun ht77=>?_)
  ·rw [if_pos ht77] at hgood
   exact AHb
  rw [if_neg (by rw [ht77];simp)] at hgood
  refine APl ?_;refine Z70 ?_;refine Ja ?_;exact AOi
 obtain ⟨d,hd0⟩:∃d,d=s:=⟨_,rfl⟩
 have hd:d=Np s:=by
  rw [hd0]
  rcases Ku s with ⟨h3,h4⟩|⟨r,h3,h4⟩
  ·exact h4.symm
  exfalso
  rw [h3] at ht18
  simp at ht18<;>omega
 have hdl:d.length≤1048576:=by rw [hd0];exact hs
 refine Z4 ?_;refine Z74 ?_
 refine R.wk 4 (Af d) (by rw [hd0];exact Le.refl _) ?_
 refine Z0 ?_;refine Z44 ?_;refine Z38 ?_
 refine Bd (h:=Fq 0 (d.headD 0) (fun hB=>M1 (gd2 hB))) (hr:=?_)
 refine Z97 ?_;refine A2 [0,4,33] ?_
 refine A3 (fun ht33=>?_) (fun ht33=>?_)
 ·exact AHb
 refine rk ?_;refine Z79 ?_;refine A2 [0,4,5] ?_;refine Z2 ?_;refine A2 [0,4,5,6] ?_;refine Ec ?_;refine APi ?_;refine Mj ?_;refine ADd ?_;refine A2 [0,4,5,6,7,8] ?_;refine Z29 ?_;refine ct ?_
 refine Az (α:=Nat×Nat) (fun x=>⟨82,A6 0 (Af s) (A6 4 (Af d) (A6 5 (.ptr (oid Hp.length 0) 0) (A6 6 (B4 (rdL (d.take x.1)).2) (A6 7 (.ptr (oid Hp.length 1) 0) (A6 8 (.ptr (oid Hp.length 2) 0) (A6 9 (A5 (x.1:Nat)) (fun _=>.any))))))),Hp,[.cells 91 (wF false (dig (rdL (d.take x.1)).1)),.cells 91 (wF false (dig 10)),.cells 91 (wF false (dig x.2))],[],none⟩) (fun x=>RdAt d x) (fun x=>d.length-x.1) ((0,0)) ⟨Ap _,fun j c hj=>by omega,by decide⟩ (B2 (by simp only [List.take_zero,show rdL []=(0,false) from rfl,ww]<;>rfl)) rfl (fun x hx=>?_)
 obtain ⟨i,p⟩:=x
 simp only at hx ⊢
 refine Z50 ?_;refine A2 [0,4,5,6,7,8,9,40] ?_
 refine A3 (fun ht40=>?_) (fun ht40=>?_)
 ·have hil:i<d.length:=by simp at ht40;omega
  refine Z42 ?_;refine Z8 ?_
  refine A4 (h:=Fq i d[i] (fun _=>Aa hil)) (hr:=?_)
  refine Z44 ?_
  refine Bd (h:=Fq i d[i] (fun _=>Aa hil)) (hr:=?_)
  refine Z93 ?_;refine A2 [0,4,5,6,7,8,9,52] ?_
  refine A3 (fun ht52=>?_) (fun ht52=>?_)
  ·refine yq ?_;refine Z13 ?_;exact AOh
  have hdc:48≤d[i].toNat∧d[i].toNat≤57:=by
   simp only [Cq,decide_eq_false_iff_not] at ht52
   omega
  have hnx:=wr hil
  refine Lq ?_
  refine A4 (h:=Fq i d[i] (fun _=>Aa hil)) (hr:=?_)
  refine A4 ?_
  refine A4 (h:=L2) (hr:=?_)
  rw [w48 hdc.1]
  refine AH4 ?_
  refine Nf jS (hput:=wv hx.one (q:=(d[i].toNat-48)) (by have:=(d[i]).toNat_lt;omega)) (hfit:=by simp) ?_
  refine ct ?_;refine Z1 ?_;refine A2 [0,4,5,6,7,8,9,61] ?_
  refine A3 (fun ht61=>?_) (fun ht61=>?_)
  ·have ho:(rdL (d.take i)).2=false:=by simpa using ht61
   have hml:=hx.low ho
   simp only at hml
   have hm2:(rdL (d.take i)).1<B32 ^ 2:=hml
   have hm5:(rdL (d.take i)).1*10<B32 ^ 5:=Cp (show (rdL (d.take i)).1*10<184467440737095516170 by omega) (by decide)
   have hm3:(rdL (d.take i)).1*10+(d[i].toNat-48)<B32 ^ 3:=Cp (show (rdL (d.take i)).1*10+(d[i].toNat-48)<184467440737095516170 by omega) (by decide)
   have hst:rdL (d.take (i+1))=((rdL (d.take i)).1*10+(d[i].toNat-48),decide (18446744073709551616≤(rdL (d.take i)).1*10+(d[i].toNat-48))):=by rw [hnx];exact if_neg (by rw [ho];simp)
   refine Cb [0,0,3,0,15,31] 4 Ai (by kernel_rfl) ?_;refine Z12 ?_;refine AQ4 ?_
   refine A9 Tryz.call84 (ARv ((rdL (d.take i)).1*10) (d[i].toNat-48) hm5 (Cp (show (d[i].toNat-48)<256 by have:=(d[i]).toNat_lt;omega) (by decide)) _) ?_
   refine Gc ?_;refine A2 [0,4,5,7,8,9] ?_;refine Z52 ?_;refine S8 (2) jU Tryz.sizeOf88 (by decide) ?_;refine Z0 ?_
   rw [o7 hm3]
   refine A4 ?_;refine ct ?_;refine Z83 ?_;refine ct ?_
   refine Ay (i+1,(d[i].toNat-48)) ⟨hil,fun j c hj hc=>?_,by have:=(d[i]).toNat_lt;show d[i].toNat-48<256;omega⟩ (by show d.length-(i+1)<d.length-i;omega) (Bh (by rw [hst]<;>rfl))
   rcases Be j i with h|h
   ·exact hx.dg j c h hc
   have:j=i:=by have hj':j<i+1:=hj;omega
   subst this
   rw [Aa hil] at hc
   injection hc with hc
   rw [←hc]
   unfold Ub
   simp only [As,decide_eq_true_eq]
   exact hdc
  have ho:(rdL (d.take i)).2=true:=by simpa using ht61
  have hst:rdL (d.take (i+1))=rdL (d.take i):=by rw [hnx];exact if_pos ho
  refine Z71 ?_;refine ct ?_
  refine Ay (i+1,(d[i].toNat-48)) ⟨hil,fun j c hj hc=>?_,by have:=(d[i]).toNat_lt;show d[i].toNat-48<256;omega⟩ (by show d.length-(i+1)<d.length-i;omega) (Bh (by rw [hst]<;>rfl))
  rcases Be j i with h|h
  ·exact hx.dg j c h hc
  have:j=i:=by have hj':j<i+1:=hj;omega
  subst this
  rw [Aa hil] at hc
  injection hc with hc
  rw [←hc]
  unfold Ub
  simp only [As,decide_eq_true_eq]
  exact hdc
 have hie:d.take i=d:=D9 (by simp at ht40;omega)
 have hall:∀c∈d,Ub c=true:=fun c hc=>by
  obtain ⟨j,hj⟩:=Cf hc
  exact hx.dg j c (by have:=(Ad.1 hj).1;simp at ht40;omega) hj
 have hgood:=wu hd ht33 hall
 have hlow:=hx.low
 simp only at hlow
 rw [hie] at hlow ⊢
 refine Z45 ?_;refine Z25 ?_;refine Z0 ?_;refine Gc ?_;refine A2 [5,6] ?_;refine Z29 ?_;refine A2 [5,77] ?_
 refine A3 (fun ht77=>?_) (fun ht77=>?_)
 ·rw [if_pos ht77] at hgood
  exact AHb
 rw [if_neg (by rw [ht77];simp)] at hgood
 refine APl ?_;refine Z70 ?_;refine Ja ?_;exact AOi

set_option maxRecDepth 8000
/-! The reference's Eval. -/
def Rd:Str:=[115,116,114]
def Re:Str:=[108,101,110]
def Rf:Str:=[110,117,109]
def Ws:Str:=[108,101,102,116]
def Oq (n k:Int):Int:=if decide (n<0)=true then 0 else if decide (n<k)=true then n else k
def uf (t:Str) (a b:Val):Rs:=if (t==Ws)=true then (⟨2,0,a.s.take (Oq b.n a.s.length).toNat⟩,0) else (⟨2,0,a.s.drop (a.s.length-(Oq b.n a.s.length).toNat)⟩,0)
def de (t:Str) (a b:Val):Rs:=
 if (t==Rd)=true then (if (a.kind != 1)=true then (noV,10) else (⟨2,0,Lib.itoa a.n⟩,0))
 else if (a.kind != 2)=true then (noV,10)
 else if (t==Re)=true then (⟨1,a.s.length,[]⟩,0)
 else if (t==Rf)=true then (if ((Bv a.s).2 != 0)=true then (noV,(Bv a.s).2) else (⟨1,(Bv a.s).1,[]⟩,0))
 else if (b.kind != 1)=true then (noV,10) else uf t a b
def Sw (o:Int) (t:Str) (a b:Val):Rs:=
 if ((a.kind==0) || (b.kind==0))=true then (noV,0)
 else if (o==5)=true then Id t a b
 else if (o==3)=true then (if (a.kind != 1)=true then (noV,10) else ff (!decide (a.n<0)) a.n.natAbs)
 else if (o==4)=true then (if (a.kind != 3)=true then (noV,10) else (E4 (a.n==0),0))
 else de t a b
def AAw (k:Int) (o:Int) (t:Str) (a:Val) (rb:Rs):Rs:=if (k==2)=true then (if (rb.2 != 0)=true then (noV,rb.2) else Sw o t a rb.1) else Sw o t a ⟨9,0,[]⟩
def AFu (t:Str) (a:Val) (rb:Rs):Rs:=
 if (!((a.kind==0) || (a.kind==3)))=true then (noV,10)
 else if (a==E4 (t==orW))=true then (a,0)
 else if (rb.2 != 0)=true then (noV,rb.2)
 else if ((rb.1.kind != 0)&&(rb.1.kind != 3))=true then (noV,10)
 else if (rb.1==E4 (t==orW))=true then (rb.1,0)
 else if ((a.kind==0) || (rb.1.kind==0))=true then (noV,0)
 else (E4 (t==Rc),0)
def Ka (k:Int) (o:Int) (t:Str) (ra rb rc:Rs):Rs:=
 if (ra.2 != 0)=true then (noV,ra.2)
 else if ((o==5)&&((t==orW) || (t==Rc)))=true then AFu t ra.1 rb
 else if (o==6)=true then
  (if (t==C6)=true then (E4 (ra.1.kind==0),0)
  else if (t==P9)=true then (if (ra.1.kind != 0)=true then (ra.1,0) else rb)
  else if (t==ifW)=true then (if (!((ra.1.kind==0) || (ra.1.kind==3)))=true then (noV,10) else if (ra.1.n==1)=true then rb else rc)
  else AAw k o t ra.1 rb)
 else AAw k o t ra.1 rb
/-- Who ends in an error has no value. -/
def Mp (r:Rs):Prop:=r.2≠0→r.1=noV
theorem o8 (e:Int):Mp (D0 e):=fun _=>rfl
theorem b7 (v:Val):Mp (v,0):=fun h=>absurd rfl h
theorem Q9 (x:Int×Int):Mp (Fu x):=by
 unfold Fu
 split
 ·exact V4
 exact V5
theorem Wt {r:Rs} (h:Mp r):Mp (B9 r):=by
 unfold B9
 split
 ·exact V4
 exact h
theorem AAx (t:Str) (a b:Val):Mp (Id t a b):=by
 unfold Id
 split
 ·split
  ·exact V4
  exact V5
 split
 ·unfold J7
  split
  ·exact V4
  split
  ·exact V4
  exact V5
 split
 ·exact V4
 exact Q9 _
theorem jt (o:Int) (t:Str) (l:List Val):Mp (B0 o t l):=by
 unfold B0
 split
 ·exact AAx _ _ _
 split
 ·exact Q9 _
 split
 ·exact V5
 split
 ·exact V4
 split
 ·unfold H9
  split
  ·exact V5
  split
  ·exact V5
  split
  ·exact Q9 _
  exact V4
 split
 ·exact V4
 exact V5
theorem ug {c:List Col} {l:List Val} {o:Int} {t:Str} {v:Val} {ks:List Rs} (h:∀i,Mp (ks.getD i (noV,0))):Mp (J8 B0 c l o t v ks):=by
 unfold J8
 split
 ·exact V5
 split
 ·unfold Lf
  split
  ·exact V4
  exact V5
 have hlog:∀s,Mp (Gp s (ks.getD 0 (noV,0)) (ks.getD 1 (noV,0))):=fun s=>by
  unfold Gp
  split
  ·exact Wt (h 0)
  split
  ·exact Wt (h 1)
  exact V5
 split
 ·exact hlog _
 split
 ·exact hlog _
 split
 ·unfold Ea
  split
  ·split
   ·exact V4
   split
   ·exact h 1
   exact h 2
  split
  ·exact V4
  split
  ·exact V5
  split
  ·exact V5
  exact h 1
 unfold I9
 split
 ·exact V4
 split
 ·exact V5
 exact jt _ _ _
theorem b8 (c:List Col) (l:List Val):∀(n:Nat) (e:Expr),sizeE e≤n→Mp (Al c l e)
 | 0,e,h=>by rw [Kv] at h;omega
 | n+1,e,h=>by
  obtain ⟨o,t,v,k⟩:=e
  rw [Al,U6]
  refine ug fun i=>?_
  rw [D4,Ce]
  cases hk:(Expr.mk o t v k).kids[i]? with
  | none=>exact b7 _
  | some y =>
   have hlt:=(Ad.1 hk).1
   have hy:=(Ad.1 hk).2
   have:=mm (.mk o t v k) hlt
   rw [hy] at this
   exact b8 c l n y (by omega)
set_option maxRecDepth 4000
theorem AUf (t:Str) (a b:Int) (ha : -9223372036854775808≤a∧a≤9223372036854775807) (Hp:List AObj):AFun Tryz.prog 223 [Af t,A5 a,A5 b] Hp (Q6 (Fu (Ev t a b))):=by
 refine Ah [.cell 6 42,.tmp 7] [0,1,2] Tryz.func223 Tryz.ntmps223 (fun d=>?_)
 refine lx ?_;refine A2 [0,1,2,6] ?_;refine Z29 ?_;refine A2 [1,2,6,8] ?_;refine P8 ?_;refine A2 [1,2,6,8,9] ?_
 refine A3 (fun ht9=>?_) (fun ht9=>?_)
 ·refine Z1 ?_;refine A9 Tryz.call243 (AU0 _ _ _) ?_;exact AHe
 refine Z1 ?_;refine A2 [1,2,6,8,19] ?_
 refine A3 (fun ht19=>?_) (fun ht19=>?_)
 ·refine Z1 ?_;refine A9 Tryz.call224 (ARl _ _ _) ?_;exact AHe
 refine Z1 ?_;refine A2 [1,2,6,8,29] ?_
 refine A3 (fun ht29=>?_) (fun ht29=>?_)
 ·refine Z1 ?_;refine A9 Tryz.call244 (AU4 _ _ _) ?_;exact AHe
 refine Z1 ?_;refine A2 [1,2,6,39] ?_
 refine A3 (fun ht39=>?_) (fun ht39=>?_)
 ·refine Z1 ?_;refine A9 Tryz.call245 (AU5 _ _ _) ?_;exact AHe
 refine j6 ?_;refine A9 Tryz.call246 (AU6 _ _ ha _) ?_;refine AH2 ?_;refine lq ?_;refine Dd ?_;exact AQj

theorem AUg (a b:Val) (fa:Fine a) (fb:Fine b) (Hp:List AObj):AFun Tryz.prog 222 [.slice false 3 [Bi a,Bi b]] Hp (Q6 (J7 a b)):=by
 refine Ah [.cell 2 42,.tmp 3] [0] Tryz.func222 Tryz.ntmps222 (fun d=>?_)
 refine lx ?_;refine A2 [0,2] ?_;refine Tr ?_;refine ry ?_;refine A9 Tryz.call191 (AFl [a,b] [2,2] (by simp) (by simp) _) ?_;refine Z0 ?_;refine A2 [0,2,4] ?_
 refine A3 (fun ht4=>?_) (fun ht4=>?_)
 ·have hm:J7 a b=D0 10:=if_pos ht4
  refine cn ?_;refine To ?_;exact Z24
 have hla:=fa.len
 have hlb:=fb.len
 refine Cb [0,1,3,7,15,0,32,96,224,480,1023,2047,4095] 10 Ai (by kernel_rfl) ?_;refine Ak ?_
 refine Ak (h:=Ac (0) (Bi a) (fun _=>show ([Bi a,Bi b]:List AV)[0]? = some (Bi a) from rfl)) (hr:=?_)
 refine Tq ?_
 refine Ak (h:=Ac (1) (Bi b) (fun _=>show ([Bi a,Bi b]:List AV)[1]? = some (Bi b) from rfl)) (hr:=?_)
 refine z7 ?_
 refine A4 (h:=Q.add64 (h1:=fun _=>by omega) (h2:=fun _=>by omega)) (hr:=?_)
 refine Z0 ?_;refine A2 [0,2,12] ?_
 refine A3 (fun ht12=>?_) (fun ht12=>?_)
 ·have hm:J7 a b=D0 3:=by unfold J7;rw [if_neg (by rw [ht4];simp),if_pos ht12]
  refine cn ?_;refine To ?_;exact Z24
 have hm:J7 a b=(Sp (a.s++b.s),0):=by unfold J7;rw [if_neg (by rw [ht4];simp),if_neg (by rw [ht12];simp)]
 refine Z17 ?_;refine Cb [0,1,3,7,0,16,48,112,255,511,1023,2047] 8 Ai (by kernel_rfl) ?_;refine Ak ?_
 refine Ak (h:=Ac (0) (Bi a) (fun _=>show ([Bi a,Bi b]:List AV)[0]? = some (Bi a) from rfl)) (hr:=?_)
 refine Z40 ?_
 refine Ak (h:=Ac (1) (Bi b) (fun _=>show ([Bi a,Bi b]:List AV)[1]? = some (Bi b) from rfl)) (hr:=?_)
 refine Z88 ?_
 refine A4 (h:=Q.sadd (hl:=fun _=>by omega)) (hr:=?_)
 refine A9 Tryz.call206 (zm _ _) ?_;refine To ?_;exact Z46

theorem AUh (t:Str) (a b:Val) (fa:Fine a) (fb:Fine b) (Hp:List AObj):AFun Tryz.prog 190 [Af t,.slice false 3 [Bi a,Bi b]] Hp (Q6 (Id t a b)):=by
 refine Ah [.cell 4 42,.tmp 5] [0,1] Tryz.func190 Tryz.ntmps190 (fun d=>?_)
 refine lx ?_;refine A2 [0,1,4] ?_;refine Mh ?_;refine Cb [0,0,2,6,0,16,48,126,255,511,1023,1023,2047,8191] 13 Ai (by kernel_rfl) ?_;refine Z12 ?_
 refine Ak (h:=Ac (0) (Bi a) (fun _=>show ([Bi a,Bi b]:List AV)[0]? = some (Bi a) from rfl)) (hr:=?_)
 refine Z12 ?_
 refine Ak (h:=Ac (1) (Bi b) (fun _=>show ([Bi a,Bi b]:List AV)[1]? = some (Bi b) from rfl)) (hr:=?_)
 refine Ak ?_;refine De Tryz.call221 (AUa _ _ _) ?_;refine De Tryz.call220 (ATz _ _ _) ?_;refine Z12 ?_;refine rn ?_;refine A2 [0,1,4,6,7] ?_;refine Z2 ?_;refine A2 [0,1,4,6,20] ?_
 refine A3 (fun ht20=>?_) (fun ht20=>?_)
 ·refine Mh ?_;refine Cb [0,1,3,7,0,16,48,112,255] 8 Ai (by kernel_rfl) ?_;refine Ak ?_
  refine Ak (h:=Ac (0) (Bi a) (fun _=>show ([Bi a,Bi b]:List AV)[0]? = some (Bi a) from rfl)) (hr:=?_)
  refine Z40 ?_
  refine Ak (h:=Ac (1) (Bi b) (fun _=>show ([Bi a,Bi b]:List AV)[1]? = some (Bi b) from rfl)) (hr:=?_)
  refine rn ?_;refine A2 [4,6,29] ?_
  refine A3 (fun ht29=>?_) (fun ht29=>?_)
  ·have hm:Id t a b=D0 10:=by unfold Id;rw [if_pos ht20,if_pos ht29]
   refine cn ?_;refine Z41 ?_;refine Z13 ?_;exact ALj
  have hm:Id t a b=(E4 (Fc t (Ss a b)).1,0):=by unfold Id;rw [if_pos ht20,if_neg (by rw [ht29];simp)]
  refine Z92 ?_;refine A9 Tryz.call145 (zl _ _) ?_;exact yy
 refine Xd ?_;refine A2 [0,1,4,36] ?_
 refine A3 (fun ht36=>?_) (fun ht36=>?_)
 ·have hm:Id t a b=J7 a b:=by unfold Id;rw [if_neg (by rw [ht20];simp),if_pos ht36]
  refine Z2 ?_;refine A9 Tryz.call222 (AUg a b fa fb _) ?_;refine Z0 ?_;exact yy
 refine Sd ?_;refine ry ?_;refine A9 Tryz.call191 (AFl [a,b] [1,1] (by simp) (by simp) _) ?_;refine A4 ?_;refine A2 [0,1,4,44] ?_
 refine A3 (fun ht44=>?_) (fun ht44=>?_)
 ·have hm:Id t a b=D0 10:=by unfold Id;rw [if_neg (by rw [ht20];simp),if_neg (by rw [ht36];simp),if_pos ht44]
  refine cn ?_;exact yy
 have hm:Id t a b=Fu (Ev t a.n b.n):=by unfold Id;rw [if_neg (by rw [ht20];simp),if_neg (by rw [ht36];simp),if_neg (by rw [ht44];simp)]
 refine Z4 ?_;refine Cb [0,0,2,6,14,0,32,96,224,511,1023,1023,4095,8191] 12 Ai (by kernel_rfl) ?_;refine Z12 ?_
 refine Ak (h:=Ac (0) (Bi a) (fun _=>show ([Bi a,Bi b]:List AV)[0]? = some (Bi a) from rfl)) (hr:=?_)
 refine Z40 ?_
 refine Ak (h:=Ac (1) (Bi b) (fun _=>show ([Bi a,Bi b]:List AV)[1]? = some (Bi b) from rfl)) (hr:=?_)
 refine Z12 ?_;refine De Tryz.call223 (AUf _ _ _ ⟨fa.lo,fa.hi⟩ _) ?_;refine Z88 ?_;exact rj

theorem AN9 (s:Str) (n:Int):∃k:Nat,(if (0:Int)<(if (s.length:Int)<n then (s.length:Int) else n) then (if (s.length:Int)<n then (s.length:Int) else n) else 0)=(k:Int)∧k≤s.length∧k=(max 0 (min n s.length)).toNat:=by
 refine ⟨(max 0 (min n s.length)).toNat,?_,?_,rfl⟩<;>repeat' split
 all_goals omega
theorem AUi (t s:Str) (n:Int) (hs:s.length≤1048576) (Hp:List AObj):AFun Tryz.prog 195 [Af t,Af s,A5 n] Hp (Bi (L7 t s n)):=by
 refine Ah [.cell 6 42] [0,1,2] Tryz.func195 Tryz.ntmps195 (fun d=>?_)
 refine AH9 ?_;refine Z19 ?_;refine R.minI ?_;refine R.maxI ?_
 obtain ⟨k,hk,hks,hke⟩:=AN9 s n
 simp only [hk]
 refine A4 ?_;refine A2 [0,1,6,7] ?_;refine Z8 ?_;refine A2 [1,6,7,14] ?_
 refine A3 (fun ht14=>?_) (fun ht14=>?_)
 ·have hm:L7 t s n=Sp (s.take k):=by unfold L7;rw [if_pos ht14,←hke]
  refine Z1 ?_
  refine A4 (h:=L1 k (fun _=>Ap _) (fun _=>hks)) (hr:=?_)
  refine A9 Tryz.call206 (zm _ _) ?_;refine Gc ?_;refine iy ?_;exact AQk
 have hm:L7 t s n=Sp (s.drop (s.length-k)):=by unfold L7;rw [if_neg (by rw [ht14];simp),←hke]
 refine Yt ?_
 refine A4 (h:=Q.sub64 (h1:=fun _=>by omega) (h2:=fun _=>by omega)) (hr:=?_)
 refine A4 (h:=S4 (s.length-k) (fun _=>show s.length-k≤s.length by omega) (fun _=>Aj _)) (hr:=?_)
 refine A9 Tryz.call206 (zm _ _) ?_;refine ADa ?_;exact AQk

theorem AUj (t:Str) (v:Val) (h:Fine v) (Hp:List AObj):AFun Tryz.prog 194 [Af t,Bi v] Hp (Q6 (H9 t v)):=by
 have hlen:=h.len
 refine Ah [.cell 4 42,.tmp 5] [0,1] Tryz.func194 Tryz.ntmps194 (fun d=>?_)
 refine Z2 ?_;refine Z80 ?_;refine A2 [0,3,4] ?_;refine m8 ?_;refine Z94 ?_;refine A2 [0,3,4,6] ?_
 refine A3 (fun ht6=>?_) (fun ht6=>?_)
 ·have hm:H9 t v=(Sp (Lib.itoa v.n),0):=if_pos ht6
  refine Z1 ?_;refine A9 Tryz.call225 (ARa _ h.lo h.hi _) ?_;refine A9 Tryz.call206 (zm _ _) ?_;exact V3
 refine Z19 ?_;refine Z94 ?_;refine A2 [0,3,4,18] ?_
 refine A3 (fun ht18=>?_) (fun ht18=>?_)
 ·have hm:H9 t v=(⟨1,v.s.length,[]⟩,0):=by unfold H9;rw [if_neg (by rw [ht6];simp),if_pos ht18]
  refine Z19 ?_;refine A9 Tryz.call184 (AMn _ _) ?_;exact V3
 refine Z19 ?_;refine Z94 ?_;refine A2 [3,4,30] ?_
 refine A3 (fun ht30=>?_) (fun ht30=>?_)
 ·have hm:H9 t v=Fu (Bv v.s):=by unfold H9;rw [if_neg (by rw [ht6];simp),if_neg (by rw [ht18];simp),if_pos ht30]
  refine Z1 ?_;refine A9 Tryz.call183 (AR9 v.s (by omega) _) ?_;refine AH2 ?_;exact AHi
 have hm:H9 t v=D0 10:=by unfold H9;rw [if_neg (by rw [ht6];simp),if_neg (by rw [ht18];simp),if_neg (by rw [ht30];simp)]
 refine Z17 ?_;refine cn ?_;exact rj

theorem AJb {vs:List Val} (h:0<vs.length):vs.getD 0 noV=vs[0]:=by rw [D4,Aa h];rfl
/-- As many values as a node asks for. -/
structure ArgsOk (o:Int) (vs:List Val):Prop where
 two:o=5→∃a b,vs=[a,b]
 one:o=3∨o=4→vs.length=1
 call:o=6→vs.length=1∨∃a b,vs=[a,b]
 fine:∀v∈vs,Fine v
theorem AUk (e:Expr) (vs:List Val) (h:ArgsOk e.op vs) (Hp:List AObj):AFun Tryz.prog 170 [Ab e,Br vs] Hp (Q6 (B0 e.op e.text vs)):=by
 refine Ah [.cell 4 42,.tmp 5] [0,1] Tryz.func170 Tryz.ntmps170 (fun d=>?_)
 refine Z2 ?_;refine Z80 ?_;refine A2 [1,2,4] ?_;refine Z18 ?_;refine Z25 ?_;refine A2 [1,2,4,6] ?_
 refine A3 (fun ht6=>?_) (fun ht6=>?_)
 ·obtain ⟨a,b,rfl⟩:=h.two (by simpa using ht6)
  have hm:B0 e.op e.text [a,b]=Id e.text a b:=if_pos ht6
  refine Z19 ?_;refine A9 Tryz.call190 (AUh e.text a b (h.fine a (by simp)) (h.fine b (by simp)) _) ?_;exact AHi
 refine rp ?_;refine G.buildSl jU jS jZ ?_
 refine Bm Tryz.call191 (C:=((e.op==3)==true)) (fun hB=>AFl vs [1] (by have:=h.one (.inl (by simpa using hB));simp [this]) (by simp) _) ?_
 refine Z0 ?_;refine A2 [1,2,4,16] ?_
 refine A3 (fun ht16=>?_) (fun ht16=>?_)
 ·have hm0:((e.op==3)&&By vs [1])=true:=ht16
  have hop:e.op=3:=by simp only [As,beq_iff_eq] at hm0;exact hm0.1
  have hln:=h.one (.inl hop)
  have hg0:(vs.map Bi)[0]? = some (Bi (vs.getD 0 noV)):=by rw [AJb (by omega)];exact Aw (by omega)
  have hm:B0 e.op e.text vs=Fu (Lt 0 (vs.getD 0 noV).n):=by unfold B0;rw [if_neg (by rw [ht6];simp),if_pos ht16]
  refine Z2 ?_
  refine A4 (h:=Ac (0) (Bi (vs.getD 0 noV)) (fun _=>hg0)) (hr:=?_)
  refine Z0 ?_;refine A9 Tryz.call193 (AU1 _ _) ?_;refine AH2 ?_;exact AHi
 refine rp ?_;refine G.buildSl jU jS jZ ?_
 refine Bm Tryz.call191 (C:=((e.op==4)==true)) (fun hB=>AFl vs [3] (by have:=h.one (.inr (by simpa using hB));simp [this]) (by simp) _) ?_
 refine Z0 ?_;refine A2 [1,2,4,35] ?_
 refine A3 (fun ht35=>?_) (fun ht35=>?_)
 ·have hm0:((e.op==4)&&By vs [3])=true:=ht35
  have hop:e.op=4:=by simp only [As,beq_iff_eq] at hm0;exact hm0.1
  have hln:=h.one (.inr hop)
  have hg0:(vs.map Bi)[0]? = some (Bi (vs.getD 0 noV)):=by rw [AJb (by omega)];exact Aw (by omega)
  have hm:B0 e.op e.text vs=(E4 ((vs.getD 0 noV).n==0),0):=by unfold B0;rw [if_neg (by rw [ht6];simp),if_neg (by rw [ht16];simp),if_pos ht35]
  refine Z2 ?_
  refine A4 (h:=Ac (0) (Bi (vs.getD 0 noV)) (fun _=>hg0)) (hr:=?_)
  refine Z10 ?_;exact AQ5
 refine Z25 ?_;refine A2 [1,2,4,50] ?_
 refine A3 (fun ht50=>?_) (fun ht50=>?_)
 ·have hm:B0 e.op e.text vs=D0 10:=by unfold B0;rw [if_neg (by rw [ht6];simp),if_neg (by rw [ht16];simp),if_neg (by rw [ht35];simp),if_pos ht50]
  refine cn ?_;exact V3
 have hop:e.op=6:=by simpa using ht50
 have hcl:=h.call hop
 refine Z25 ?_;refine A2 [1,2,4,57] ?_
 refine A3 (fun ht57=>?_) (fun ht57=>?_)
 ·rw [Am] at ht57
  have hln:vs.length=1:=by have:=ht57;simp only [beq_iff_eq] at this;omega
  have hg0:(vs.map Bi)[0]? = some (Bi (vs.getD 0 noV)):=by rw [AJb (by omega)];exact Aw (by omega)
  have hf0:Fine (vs.getD 0 noV):=by rw [AJb (by omega)];exact h.fine _ (Av _)
  have hm:B0 e.op e.text vs=H9 e.text (vs.getD 0 noV):=by unfold B0;rw [if_neg (by rw [ht6];simp),if_neg (by rw [ht16];simp),if_neg (by rw [ht35];simp),if_neg (by rw [ht50];simp),if_pos ht57]
  refine Cb [0,1,0,4,12,31,63,63,255,511] 8 Ai (by kernel_rfl) ?_;refine Z40 ?_
  refine Ak (h:=Ac (0) (Bi (vs.getD 0 noV)) (fun _=>hg0)) (hr:=?_)
  refine Ak ?_;refine De Tryz.call194 (AUj _ _ hf0 _) ?_;refine Z88 ?_;exact V3
 rw [Am] at ht57
 obtain ⟨a,b,rfl⟩:∃a b,vs=[a,b]:=by
  rcases hcl with h1|h1
  ·exfalso
   have:=ht57
   rw [h1] at this
   simp at this
  exact h1
 refine Z2 ?_;refine ry ?_;refine A9 Tryz.call191 (AFl [a,b] [2,1] (by simp) (by simp) _) ?_;refine Z0 ?_;refine A2 [1,2,4,69] ?_
 refine A3 (fun ht69=>?_) (fun ht69=>?_)
 ·have hm:B0 e.op e.text [a,b]=D0 10:=by unfold B0;rw [if_neg (by rw [ht6];simp),if_neg (by rw [ht16];simp),if_neg (by rw [ht35];simp),if_neg (by rw [ht50];simp),if_neg (by rw [ht57];simp),if_pos ht69]
  refine cn ?_;exact V3
 have hm:B0 e.op e.text [a,b]=(L7 e.text a.s b.n,0):=by unfold B0;rw [if_neg (by rw [ht6];simp),if_neg (by rw [ht16];simp),if_neg (by rw [ht35];simp),if_neg (by rw [ht50];simp),if_neg (by rw [ht57];simp),if_neg (by rw [ht69];simp)];rfl
 refine Z17 ?_;refine Cb [0,1,0,4,12,28,0,64,192,448,1023,2047,4095] 10 Ai (by kernel_rfl) ?_;refine Z40 ?_
 refine Ak (h:=Ac (0) (Bi a) (fun _=>show ([Bi a,Bi b]:List AV)[0]? = some (Bi a) from rfl)) (hr:=?_)
 refine Z40 ?_
 refine Ak (h:=Ac (1) (Bi b) (fun _=>show ([Bi a,Bi b]:List AV)[1]? = some (Bi b) from rfl)) (hr:=?_)
 refine Z88 ?_
 refine A9 Tryz.call195 (AUi e.text a.s b.n (by have:=(h.fine a (by simp)).len;omega) _) ?_
 exact rj

theorem R4 (a b:Val):((a.kind==b.kind&&a.n==b.n)&&a.s==b.s)=(a==b):=by
 obtain ⟨k,n,s⟩:=a
 obtain ⟨k',n',s'⟩:=b
 by_cases h:(⟨k,n,s⟩:Val)=⟨k',n',s'⟩
 ·injection h with h1 h2 h3
  subst h1;subst h2;subst h3
  simp
 have:((⟨k,n,s⟩:Val)==⟨k',n',s'⟩)=false:=by simpa using h
 rw [this]
 simp only [Y5,beq_eq_false_iff_ne]
 by_cases h1:k=k'
 ·by_cases h2:n=n'
  ·right
   rintro rfl
   exact h (by rw [h1,h2])
  exact .inl (.inr h2)
 exact .inl (.inl h1)
/-- What eval answers for a tree, over any heap. -/
abbrev Lv (c:List Col) (l:List Val) (e:Expr) (r:Rs):Prop:=∀Hp,AFun Tryz.prog 105 [aw c l,Ab e] Hp (Q6 r)
theorem ARw (c:List Col) (l:List Val) (x:Expr) (r:Rs) (h:Lv c l x r) (Hp:List AObj):AFun Tryz.prog 169 [aw c l,Ab x] Hp (Q6 (B9 r)):=by
 refine Ah [.cell 4 42,.tmp 5] [0,1] Tryz.func169 Tryz.ntmps169 (fun d=>?_)
 refine Z1 ?_;refine AHm ?_;refine Z1 ?_;refine A9 Tryz.call105 (h _) ?_;refine Ys ?_;refine A2 [4,6,7] ?_;refine Z33 ?_;refine Z94 ?_;refine Oh ?_;refine A2 [4,6,7,25] ?_
 refine A3 (fun ht25=>?_) (fun ht25=>?_)
 ·have hm:B9 r=D0 10:=if_pos ht25
  refine cn ?_;exact yy
 have hm:B9 r=r:=if_neg (by rw [ht25];simp)
 refine Lq ?_;exact rj

theorem ARx (c:List Col) (l:List Val) (x k0 k1:Expr) (s:Val) (ra rb:Rs) (h0:(x.kids.map Ab)[0]? = some (Ab k0)) (h1:(x.kids.map Ab)[1]? = some (Ab k1)) (ha:Lv c l k0 ra) (hb:Lv c l k1 rb) (Hp:List AObj):AFun Tryz.prog 144 [aw c l,Ab x,Bi s] Hp (Q6 (Gp s ra rb)):=by
 refine Ah [.cell 6 42,.tmp 7] [0,1,2] Tryz.func144 Tryz.ntmps144 (fun d=>?_)
 refine Z19 ?_;refine Z80 ?_;refine A2 [3,4,5,6] ?_;refine Hy [0,0,2,6,14,31,63,127,127,0,767,2047] [9,10] [.q 9 [] [],.s [8] (some 0) [] [1],.s [] (some 1) [0] []] (fun _=>Hp) (fun B=>if B 0=true then [.cells 42 [A5 0,A5 0,Af []],(if B 1=true then .cells 42 [A5 (B9 ra).1.kind,A5 (B9 ra).1.n,Af (B9 ra).1.s] else .cells 42 [A5 0,A5 0,Af []]:AObj)] else [.cells 42 [A5 0,A5 0,Af []]]) Ai (by kernel_rfl) rfl rfl (fun _=>rfl) ?_
 apply Y.q
 ·intro B hT hF
  refine Z40 ?_
  refine Ak (h:=Ac (0) (Ab k0) (fun _=>h0)) (hr:=?_)
  refine Ak ?_;exact APv
 case hTF=>decide
 refine Z78 ?_;refine AOg ?_;refine A2 [3,4,5,6,8,9] ?_;refine Z33 ?_;refine Z7 ?_
 refine Bd (h:=Oc Tt (fun w=>Hn (B9 ra).1.kind (B9 ra).1.n s.kind s.n (B9 ra).1.s s.s w)) (hr:=?_)
 refine A4 ?_;refine A2 [3,4,5,6,8,9,26] ?_
 refine A3 (fun ht26=>?_) (fun ht26=>?_)
 ·rw [R4] at ht26
  have hm:Gp s ra rb=B9 ra:=if_pos ht26
  refine Z1 ?_;refine Z27 ?_;exact Z51
 rw [R4] at ht26
 refine Z4 ?_;refine Hy [0,0,2,6,14,31,63,127,127,0,767,2047] [9,10] [.q 9 [] [],.s [10] (some 0) [] [1],.s [] (some 1) [0] []] (fun _=>Hp) (fun B=>if B 0=true then [.cells 42 [A5 0,A5 0,Af []],.cells 42 [A5 (B9 ra).1.kind,A5 (B9 ra).1.n,Af (B9 ra).1.s],(if B 1=true then .cells 42 [A5 (B9 rb).1.kind,A5 (B9 rb).1.n,Af (B9 rb).1.s] else .cells 42 [A5 0,A5 0,Af []]:AObj)] else [.cells 42 [A5 0,A5 0,Af []],.cells 42 [A5 (B9 ra).1.kind,A5 (B9 ra).1.n,Af (B9 ra).1.s]]) Ai (by kernel_rfl) rfl rfl (fun _=>rfl) ?_
 apply Y.q
 ·intro B hT hF
  refine Z40 ?_
  refine Ak (h:=Ac (1) (Ab k1) (fun _=>h1)) (hr:=?_)
  refine Ak ?_;refine De Tryz.call169 (ARw c l k1 rb hb _) ?_;exact AH6
 case hTF=>decide
 refine Y.alloc (zs:=[A5 0,A5 0,Af []]) (n:=2) (u:=Hp.length) Tryz.zeroValue42 (fun B hT hF hB=>⟨rfl,by simp [hB],by simp [upd,hB,hF 1 (by simp)],rfl⟩) ?_;refine Y.storeOwnT (u:=Hp.length) (n:=2) (t':=42) (cs:=[A5 0,A5 0,Af []]) (cs':=[A5 (B9 rb).1.kind,A5 (B9 rb).1.n,Af (B9 rb).1.s]) Tryz.sizeOf42 (fun B hT hF hB=>⟨rfl,by simp [hT 0 (by simp),hB],by simp [upd,hT 0 (by simp),hB],rfl⟩) ?_;refine Gx (tn:=[9,10]) (O:=[.cells 42 [A5 0,A5 0,Af []],.cells 42 [A5 (B9 ra).1.kind,A5 (B9 ra).1.n,Af (B9 ra).1.s],.cells 42 [A5 (B9 rb).1.kind,A5 (B9 rb).1.n,Af (B9 rb).1.s]]) ?_;refine A4 ?_;refine A2 [5,6,8,9,10] ?_;refine Z33 ?_;refine Z7 ?_
 refine Bd (h:=Oc Tt (fun w=>Hn (B9 rb).1.kind (B9 rb).1.n s.kind s.n (B9 rb).1.s s.s w)) (hr:=?_)
 refine Z0 ?_;refine Oh ?_;refine A2 [6,8,9,10,49] ?_
 refine A3 (fun ht49=>?_) (fun ht49=>?_)
 ·rw [R4] at ht49
  have hm:Gp s ra rb=B9 rb:=by unfold Gp;rw [if_neg (by rw [ht26];simp),if_pos ht49]
  refine Z1 ?_;refine Z27 ?_;exact Z51
 rw [R4] at ht49
 have hm:Gp s ra rb=((B9 ra).1,0):=by unfold Gp;rw [if_neg (by rw [ht26];simp),if_neg (by rw [ht49];simp)]
 refine Z92 ?_;refine Z27 ?_;exact Z46

theorem AUl (c:List Col) (l:List Val) (x k0 k1 k2:Expr) (ra rb d2:Rs) (h0:(x.kids.map Ab)[0]? = some (Ab k0)) (h1:(x.text==C6)=false→(x.kids.map Ab)[1]? = some (Ab k1)) (h2:(x.text==ifW)=true→(x.kids.map Ab)[2]? = some (Ab k2)) (ha:Lv c l k0 ra) (hb:(x.text==C6)=false→Lv c l k1 rb) (hd:(x.text==ifW)=true→Lv c l k2 d2) (Hp:List AObj):AFun Tryz.prog 146 [aw c l,Ab x] Hp (Q6 (Ea x.text ra rb d2)):=by
 refine Ah [.cell 4 42,.tmp 5] [0,1] Tryz.func146 Tryz.ntmps146 (fun d=>?_)
 refine Z1 ?_;refine AHm ?_;refine Z33 ?_;refine A2 [2,3,4,12] ?_
 refine A3 (fun ht12=>?_) (fun ht12=>?_)
 ·have hni:(x.text==C6)=false:=by
   have e:x.text=ifW:=by simpa [ifW] using ht12
   rw [e];rfl
  have hc:Ea x.text ra rb d2=(if (B9 ra).2 != 0 then D0 (B9 ra).2 else if (B9 ra).1==E4 true then rb else d2):=if_pos ht12
  refine Hy [0,0,2,6,14,31,63,127,127,0,767,2047] [9,10] [.q 9 [] [],.s [6] (some 0) [] [1],.s [] (some 1) [0] []] (fun _=>Hp) (fun B=>if B 0=true then [.cells 42 [A5 0,A5 0,Af []],(if B 1=true then .cells 42 [A5 (B9 ra).1.kind,A5 (B9 ra).1.n,Af (B9 ra).1.s] else .cells 42 [A5 0,A5 0,Af []]:AObj)] else [.cells 42 [A5 0,A5 0,Af []]]) Ai (by kernel_rfl) rfl rfl (fun _=>rfl) ?_
  apply Y.q
  ·intro B hT hF
   refine Z40 ?_
   refine Ak (h:=Ac (0) (Ab k0) (fun _=>h0)) (hr:=?_)
   refine Ak ?_;exact APv
  case hTF=>decide
  refine Z78 ?_;refine AOg ?_;refine A2 [2,3,4,6,7] ?_;refine m8 ?_;refine A2 [2,3,4,6,7,22] ?_
  refine A3 (fun ht22=>?_) (fun ht22=>?_)
  ·have hm:Ea x.text ra rb d2=D0 (B9 ra).2:=by rw [hc,if_pos ht22]
   refine Z2 ?_;refine Z62 ?_;refine Z41 ?_;refine Z21 ?_;exact ALj
  refine Cb [0,0,3,7] 2 Ai (by kernel_rfl) ?_;refine Ak ?_;refine De Tryz.call145 (zl true _) ?_;refine J0 ?_
  refine A4 (h:=Oc Tt (fun w=>Hn (B9 ra).1.kind (B9 ra).1.n 3 1 (B9 ra).1.s [] w)) (hr:=?_)
  refine A4 ?_;refine A2 [2,3,4,29] ?_
  refine A3 (fun ht29=>?_) (fun ht29=>?_)
  ·rw [R4 (B9 ra).1 ⟨3,1,[]⟩] at ht29
   have ht29b:((B9 ra).1==E4 true)=true:=ht29
   have hm:Ea x.text ra rb d2=rb:=by rw [hc,if_neg (by rw [ht22];simp),if_pos ht29b]
   refine ALp ?_
   refine Ak (h:=Ac (1) (Ab k1) (fun _=>h1 hni)) (hr:=?_)
   refine Ak ?_;refine De Tryz.call105 (hb hni _) ?_;refine Z88 ?_;refine Z41 ?_;refine Z21 ?_;exact ALj
  rw [R4 (B9 ra).1 ⟨3,1,[]⟩] at ht29
  have hm:Ea x.text ra rb d2=d2:=by rw [hc,if_neg (by rw [ht22];simp),if_neg (by show ¬((B9 ra).1==⟨3,1,[]⟩)=true;rw [ht29];simp)]
  refine Z17 ?_;refine ALp ?_
  refine Ak (h:=Ac (2) (Ab k2) (fun _=>h2 ht12)) (hr:=?_)
  refine Ak ?_;refine De Tryz.call105 (hd ht12 _) ?_;refine Z88 ?_;exact yy
 have hc:Ea x.text ra rb d2=(if ra.2 != 0 then D0 ra.2 else if x.text==C6 then (E4 (ra.1.kind==0),0) else if ra.1.kind != 0 then (ra.1,0) else rb):=if_neg (by show ¬(x.text==ifW)=true;rw [show (x.text==ifW)=false from ht12];simp)
 refine Z4 ?_;refine Hy [0,0,2,6,14,31,63,127,127,0,767,2047] [9,10] [.q 9 [] [],.s [8] (some 0) [] [1],.s [] (some 1) [0] []] (fun _=>Hp) (fun B=>if B 0=true then [.cells 42 [A5 0,A5 0,Af []],(if B 1=true then .cells 42 [A5 ra.1.kind,A5 ra.1.n,Af ra.1.s] else .cells 42 [A5 0,A5 0,Af []]:AObj)] else [.cells 42 [A5 0,A5 0,Af []]]) Ai (by kernel_rfl) rfl rfl (fun _=>rfl) ?_
 apply Y.q
 ·intro B hT hF
  refine Z40 ?_
  refine Ak (h:=Ac (0) (Ab k0) (fun _=>h0)) (hr:=?_)
  refine Ak ?_;refine De Tryz.call105 (ha _) ?_;exact AH6
 case hTF=>decide
 refine AQl ?_;refine Y.storeOwnT (u:=Hp.length) (n:=1) (t':=42) (cs:=[A5 0,A5 0,Af []]) (cs':=[A5 ra.1.kind,A5 ra.1.n,Af ra.1.s]) Tryz.sizeOf42 (fun B hT hF hB=>⟨rfl,by simp [hT 0 (by simp),hB],by simp [upd,hT 0 (by simp),hB],rfl⟩) ?_;refine Gx (tn:=[9,10]) (O:=[.cells 42 [A5 0,A5 0,Af []],.cells 42 [A5 ra.1.kind,A5 ra.1.n,Af ra.1.s]]) ?_;refine A4 ?_;refine A2 [2,3,4,8,9] ?_;refine m8 ?_;refine A2 [2,3,4,8,9,58] ?_
 refine A3 (fun ht58=>?_) (fun ht58=>?_)
 ·have hm:Ea x.text ra rb d2=D0 ra.2:=by rw [hc,if_pos ht58]
  refine Z2 ?_;refine Z62 ?_;exact V3
 refine Z25 ?_;refine A2 [2,3,4,8,65] ?_
 refine A3 (fun ht65=>?_) (fun ht65=>?_)
 ·have hm:Ea x.text ra rb d2=(E4 (ra.1.kind==0),0):=by rw [hc,if_neg (by rw [ht58];simp),if_pos (show (x.text==C6)=true from ht65)]
  refine Z19 ?_;exact AQ5
 refine Z25 ?_;refine A2 [2,3,4,8,73] ?_
 refine A3 (fun ht73=>?_) (fun ht73=>?_)
 ·have hm:Ea x.text ra rb d2=(ra.1,0):=by rw [hc,if_neg (by rw [ht58];simp),if_neg (by show ¬(x.text==C6)=true;rw [show (x.text==C6)=false from ht65];simp),if_pos ht73]
  refine Z2 ?_;exact V3
 have hm:Ea x.text ra rb d2=rb:=by rw [hc,if_neg (by rw [ht58];simp),if_neg (by show ¬(x.text==C6)=true;rw [show (x.text==C6)=false from ht65];simp),if_neg (by rw [ht73];simp)]
 refine Z17 ?_;refine ALp ?_
 refine Ak (h:=Ac (1) (Ab k1) (fun _=>h1 ht65)) (hr:=?_)
 refine Ak ?_;refine De Tryz.call105 (hb ht65 _) ?_;refine Z88 ?_;exact rj

abbrev b9 (s:Sign):AV:=.agg [.slice false 1 (s.kids.map A5),A5 s.own]
theorem ANa {m:Sign} {a o:Int} (h:m=⟨[a],o⟩):AV.agg [.slice false 1 [A5 a],A5 o]=b9 m:=by rw [h];rfl
theorem AFv {m:Sign} {a b o:Int} (h:m=⟨[a,b],o⟩):AV.agg [.slice false 1 [A5 a,A5 b],A5 o]=b9 m:=by rw [h];rfl
theorem ANb {m:Sign} {a b c o:Int} (h:m=⟨[a,b,c],o⟩):AV.agg [.slice false 1 [A5 a,A5 b,A5 c],A5 o]=b9 m:=by rw [h];rfl
theorem AUm (s:Str) (Hp:List AObj):AFun Tryz.prog 217 [Af s] Hp (b9 (Di s)):=by
 refine Ah [.cell 2 187] [0] Tryz.func217 Tryz.ntmps217 (fun d=>?_)
 refine Z67 ?_;refine Z29 ?_;refine Ja ?_;refine Mi ?_;refine Z8 ?_;refine Yv ?_
 refine A3 (fun ht4=>?_) (fun ht4=>?_)
 ·refine Z4 ?_
  refine A3 (fun ht4=>?_) (fun ht4=>?_)
  ·exact Z76
  refine Z8 ?_;refine A2 [2,3,9] ?_
  refine A3 (fun ht9=>?_) (fun ht9=>?_)
  ·refine Z4 ?_
   refine A3 (fun ht9=>?_) (fun ht9=>?_)
   ·exact Z76
   refine X4 ?_
   refine A3 (fun ht18=>?_) (fun ht18=>?_)
   ·exact Z76
   exact X8
  refine cl ?_
  refine A3 (fun ht9=>?_) (fun ht9=>?_)
  ·refine Z4 ?_
   refine A3 (fun ht9=>?_) (fun ht9=>?_)
   ·exact Z76
   refine X4 ?_
   refine A3 (fun ht18=>?_) (fun ht18=>?_)
   ·exact Z76
   exact X8
  refine cl ?_
  refine A3 (fun ht9=>?_) (fun ht9=>?_)
  ·refine Z4 ?_
   refine A3 (fun ht9=>?_) (fun ht9=>?_)
   ·exact Z76
   refine X4 ?_
   refine A3 (fun ht18=>?_) (fun ht18=>?_)
   ·exact Z76
   exact X8
  refine cl ?_
  refine A3 (fun ht9=>?_) (fun ht9=>?_)
  ·refine Z4 ?_
   refine A3 (fun ht9=>?_) (fun ht9=>?_)
   ·exact Z76
   refine X4 ?_
   refine A3 (fun ht18=>?_) (fun ht18=>?_)
   ·exact Z76
   exact X8
  refine cl ?_
  refine A3 (fun ht9=>?_) (fun ht9=>?_)
  ·refine Z4 ?_
   refine A3 (fun ht9=>?_) (fun ht9=>?_)
   ·exact Z76
   refine X4 ?_
   refine A3 (fun ht18=>?_) (fun ht18=>?_)
   ·exact Z76
   exact X8
  refine Z31 ?_;refine A2 [2,3,9] ?_;refine Es ?_
  refine A3 (fun ht9=>?_) (fun ht9=>?_)
  ·exact Z76
  refine X4 ?_
  refine A3 (fun ht18=>?_) (fun ht18=>?_)
  ·exact Z76
  exact X8
 refine Z31 ?_;refine Yv ?_;refine Es ?_
 refine A3 (fun ht4=>?_) (fun ht4=>?_)
 ·exact Z76
 refine Z8 ?_;refine A2 [2,3,9] ?_
 refine A3 (fun ht9=>?_) (fun ht9=>?_)
 ·refine Z4 ?_
  refine A3 (fun ht9=>?_) (fun ht9=>?_)
  ·exact Z76
  refine X4 ?_
  refine A3 (fun ht18=>?_) (fun ht18=>?_)
  ·exact Z76
  exact X8
 refine cl ?_
 refine A3 (fun ht9=>?_) (fun ht9=>?_)
 ·refine Z4 ?_
  refine A3 (fun ht9=>?_) (fun ht9=>?_)
  ·exact Z76
  refine X4 ?_
  refine A3 (fun ht18=>?_) (fun ht18=>?_)
  ·exact Z76
  exact X8
 refine cl ?_
 refine A3 (fun ht9=>?_) (fun ht9=>?_)
 ·refine Z4 ?_
  refine A3 (fun ht9=>?_) (fun ht9=>?_)
  ·exact Z76
  refine X4 ?_
  refine A3 (fun ht18=>?_) (fun ht18=>?_)
  ·exact Z76
  exact X8
 refine cl ?_
 refine A3 (fun ht9=>?_) (fun ht9=>?_)
 ·refine Z4 ?_
  refine A3 (fun ht9=>?_) (fun ht9=>?_)
  ·exact Z76
  refine X4 ?_
  refine A3 (fun ht18=>?_) (fun ht18=>?_)
  ·exact Z76
  exact X8
 refine cl ?_
 refine A3 (fun ht9=>?_) (fun ht9=>?_)
 ·refine Z4 ?_
  refine A3 (fun ht9=>?_) (fun ht9=>?_)
  ·exact Z76
  refine X4 ?_
  refine A3 (fun ht18=>?_) (fun ht18=>?_)
  ·exact Z76
  exact X8
 refine Z31 ?_;refine A2 [2,3,9] ?_;refine Es ?_
 refine A3 (fun ht9=>?_) (fun ht9=>?_)
 ·exact Z76
 refine X4 ?_
 refine A3 (fun ht18=>?_) (fun ht18=>?_)
 ·exact Z76
 exact X8

theorem AUn (s:Str) (Hp:List AObj):AFun Tryz.prog 218 [Af s] Hp (b9 (Dy s)):=by
 refine Ah [.cell 2 187] [0] Tryz.func218 Tryz.ntmps218 (fun d=>?_)
 refine Z67 ?_;refine Z29 ?_;refine Ja ?_;refine Mi ?_;refine Z8 ?_;refine Yv ?_
 refine A3 (fun ht4=>?_) (fun ht4=>?_)
 ·refine Z4 ?_
  refine A3 (fun ht4=>?_) (fun ht4=>?_)
  ·exact R9
  refine cl ?_
  refine A3 (fun ht9=>?_) (fun ht9=>?_)
  ·exact R9
  refine Z8 ?_;refine A2 [2,3,13] ?_
  refine A3 (fun ht13=>?_) (fun ht13=>?_)
  ·refine Z4 ?_
   refine A3 (fun ht13=>?_) (fun ht13=>?_)
   ·exact R9
   refine AHf ?_
   refine A3 (fun ht18=>?_) (fun ht18=>?_)
   ·exact R9
   refine Z1 ?_;refine A2 [2,22] ?_
   refine A3 (fun ht22=>?_) (fun ht22=>?_)
   ·exact R9
   exact AHj
  refine Z31 ?_;refine A2 [2,3,13] ?_;refine Es ?_
  refine A3 (fun ht13=>?_) (fun ht13=>?_)
  ·exact R9
  refine AHf ?_
  refine A3 (fun ht18=>?_) (fun ht18=>?_)
  ·exact R9
  refine Z1 ?_;refine A2 [2,22] ?_
  refine A3 (fun ht22=>?_) (fun ht22=>?_)
  ·exact R9
  exact AHj
 refine Z31 ?_;refine Yv ?_;refine Es ?_
 refine A3 (fun ht4=>?_) (fun ht4=>?_)
 ·exact R9
 refine cl ?_
 refine A3 (fun ht9=>?_) (fun ht9=>?_)
 ·exact R9
 refine Z8 ?_;refine A2 [2,3,13] ?_
 refine A3 (fun ht13=>?_) (fun ht13=>?_)
 ·refine Z4 ?_
  refine A3 (fun ht13=>?_) (fun ht13=>?_)
  ·exact R9
  refine AHf ?_
  refine A3 (fun ht18=>?_) (fun ht18=>?_)
  ·exact R9
  refine Z1 ?_;refine A2 [2,22] ?_
  refine A3 (fun ht22=>?_) (fun ht22=>?_)
  ·exact R9
  exact AHj
 refine Z31 ?_;refine A2 [2,3,13] ?_;refine Es ?_
 refine A3 (fun ht13=>?_) (fun ht13=>?_)
 ·exact R9
 refine AHf ?_
 refine A3 (fun ht18=>?_) (fun ht18=>?_)
 ·exact R9
 refine Z1 ?_;refine A2 [2,22] ?_
 refine A3 (fun ht22=>?_) (fun ht22=>?_)
 ·exact R9
 exact AHj

theorem AUo (e:Expr) (Hp:List AObj):AFun Tryz.prog 188 [Ab e] Hp (b9 (Jt e.op e.text)):=by
 refine Ah [.cell 2 187] [0] Tryz.func188 Tryz.ntmps188 (fun d=>?_)
 refine Z2 ?_;refine Mj ?_;refine A2 [1,2] ?_;refine Z8 ?_;refine A2 [1,2,4] ?_;refine P8 ?_;refine A2 [1,2,4,5] ?_
 refine A3 (fun ht5=>?_) (fun ht5=>?_)
 ·refine Z43 ?_;exact ALh
 refine Z1 ?_;refine A2 [1,2,4,9] ?_
 refine A3 (fun ht9=>?_) (fun ht9=>?_)
 ·refine Z43 ?_;exact ALh
 refine Z1 ?_;refine A2 [1,2,13] ?_
 refine A3 (fun ht13=>?_) (fun ht13=>?_)
 ·refine Z1 ?_;refine A9 Tryz.call217 (AUm e.text _) ?_;refine Z16 ?_;exact ALh
 refine j6 ?_;refine A9 Tryz.call218 (AUn e.text _) ?_;refine Z16 ?_;exact AQm

theorem ARy (a b:Int) (Hp:List AObj):AFun Tryz.prog 219 [A5 a,A5 b] Hp (.tup [A5 (Gi a b).1,B4 (Gi a b).2]):=by
 refine Ah [.tmp 4,.tmp 5] [0,1] Tryz.func219 Tryz.ntmps219 (fun d=>?_)
 refine ln ?_;refine m8 ?_;refine A2 [0,1,6] ?_
 refine A3 (fun ht6=>?_) (fun ht6=>?_)
 ·refine Z19 ?_;exact AP6
 refine Z19 ?_;refine Z94 ?_;refine A2 [0,10] ?_
 refine A3 (fun ht10=>?_) (fun ht10=>?_)
 ·refine Z19 ?_;exact AP6
 refine j6 ?_;refine Z77 ?_;exact AQn

structure FitAt (s:Sign) (ks:List Int) (x:Nat×Int):Prop where
 le:x.1≤ks.length
 eq:Hj s.kids ks 0=Hj (s.kids.drop x.1) (ks.drop x.1) x.2
theorem FitAt.step {s:Sign} {ks:List Int} {x:Nat×Int} (h:FitAt s ks x) (hk:x.1<ks.length) (hs:x.1<s.kids.length):Hj s.kids ks 0=(if s.kids[x.1] == -2 then Hj (s.kids.drop (x.1+1)) (ks.drop (x.1+1)) x.2 else if s.kids[x.1] == -1 then (if (Gi x.2 ks[x.1]).2 then Hj (s.kids.drop (x.1+1)) (ks.drop (x.1+1)) (Gi x.2 ks[x.1]).1 else none) else if (Gi s.kids[x.1] ks[x.1]).2 then Hj (s.kids.drop (x.1+1)) (ks.drop (x.1+1)) x.2 else none):=by
 rw [h.eq,Hd hk,Hd hs,Hj]
theorem FitAt.skip {s:Sign} {ks:List Int} {x:Nat×Int} (h:FitAt s ks x) (hk:x.1<ks.length) (hs:x.1<s.kids.length) (h2:(s.kids[x.1] == -2)=true):FitAt s ks (x.1+1,x.2):=⟨hk,by rw [h.step hk hs,if_pos h2]⟩
theorem FitAt.same {s:Sign} {ks:List Int} {x:Nat×Int} (h:FitAt s ks x) (hk:x.1<ks.length) (hs:x.1<s.kids.length) (h2:(s.kids[x.1] == -2)=false) (h1:(s.kids[x.1] == -1)=true) (hm:(Gi x.2 ks[x.1]).2=true):FitAt s ks (x.1+1,(Gi x.2 ks[x.1]).1):=⟨hk,by rw [h.step hk hs,if_neg (by rw [h2];simp),if_pos h1,if_pos hm]⟩
theorem FitAt.want {s:Sign} {ks:List Int} {x:Nat×Int} (h:FitAt s ks x) (hk:x.1<ks.length) (hs:x.1<s.kids.length) (h2:(s.kids[x.1] == -2)=false) (h1:(s.kids[x.1] == -1)=false) (hm:(Gi s.kids[x.1] ks[x.1]).2=true):FitAt s ks (x.1+1,x.2):=⟨hk,by rw [h.step hk hs,if_neg (by rw [h2];simp),if_neg (by rw [h1];simp),if_pos hm]⟩
theorem FitAt.bad {s:Sign} {ks:List Int} {x:Nat×Int} (h:FitAt s ks x) (hk:x.1<ks.length) (hs:x.1<s.kids.length) (h2:(s.kids[x.1] == -2)=false) (hm:(if s.kids[x.1] == -1 then (Gi x.2 ks[x.1]).2 else (Gi s.kids[x.1] ks[x.1]).2)=false):L6 s ks=(0,10):=by
 unfold L6
 rw [h.step hk hs,if_neg (by rw [h2];simp)]
 split at hm
 ·rename_i h1
  rw [if_pos h1,if_neg (by rw [hm];simp)]
 rename_i h1
 rw [if_neg h1,if_neg (by rw [hm];simp)]
theorem FitAt.out {s:Sign} {ks:List Int} {x:Nat×Int} (h:FitAt s ks x) (hk:ks.length≤x.1):L6 s ks=if s.own == -1 then (x.2,0) else (s.own,0):=by
 unfold L6
 rw [h.eq,Uu hk]
 cases s.kids.drop x.1<;>rfl
theorem AUp (s:Sign) (ks:List Int) (hks:ks.length≤s.kids.length) (hk2:ks.length≤1048576) (Hp:List AObj):AFun Tryz.prog 189 [b9 s,.slice false 1 (ks.map A5)] Hp (.tup [A5 (L6 s ks).1,A5 (L6 s ks).2]):=by
 refine Ah [.tmp 4,.tmp 5] [0,1] Tryz.func189 Tryz.ntmps189 (fun d=>?_)
 refine ADg ?_;refine Ec ?_;refine Z20 ?_;refine A2 [1,2,6] ?_;refine Z33 ?_;refine zd ?_
 refine Az (α:=Nat×Int) (fun x=>⟨49,A6 2 (.ro [.slice false 1 (s.kids.map A5),A5 s.own]) (A6 6 (.ptr (oid Hp.length 0) 0) (A6 13 (.slice false 1 (ks.map A5)) (A6 14 (A5 (ks.length:Nat)) (A6 15 (A5 (x.1:Nat)) (fun _=>.any))))),Hp,[.cells 3 [A5 x.2]],[],none⟩) (fun x=>FitAt s ks x) (fun x=>ks.length-x.1) ((0,0)) ⟨Ap _,rfl⟩ (B2 (by simp)) rfl (fun x hx=>?_)
 refine Z2 ?_;refine A2 [2,6,13,14,15,16] ?_
 refine Ej (fun ht16=>?_) (fun ht16=>?_)
 ·have hlt:x.1<ks.length:=by simpa using ht16
  have hls:x.1<s.kids.length:=by omega
  refine Tr ?_
  refine A4 (h:=Ac (x.1) (A5 ks[x.1]) (fun _=>Aw hlt)) (hr:=?_)
  refine Z10 ?_;refine A2 [2,6,7,8,13,14,15] ?_;refine Z19 ?_
  refine A4 (h:=Ac (x.1) (A5 s.kids[x.1]) (fun _=>Aw hls)) (hr:=?_)
  refine X9 ?_;refine A2 [2,6,8,9,13,14,15] ?_;refine Z8 ?_;refine A2 [2,6,8,9,13,14,15,26] ?_
  refine A3 (fun ht26=>?_) (fun ht26=>?_)
  ·refine Hh [2,6,13,14,15] ?_;refine Z32 ?_;refine K.blE ?_;refine Es ?_;refine Z31 ?_;refine zd ?_
   first|(refine Ay (x.1+1,x.2) (hx.skip hlt hls ht26) (by show ks.length-(x.1+1)<ks.length-x.1;omega) ?_;exact Dq (own:=[.cells 3 [A5 x.2]]) (fun _=>.refl _) (by repeat (first|exact Bq|refine Bp (by first|(simp [or_imp,forall_and];done)|(simp [oid]<;>omega)) ?_)) (by intro y hy;rw [Bs.1 hy];intro z hz;rw [Bs.1 hz];simp) (by simp))|(refine Ay (x.1+1,(Gi x.2 ks[x.1]).1) (hx.same hlt hls ht26 ht28 (by simpa using ht38)) (by show ks.length-(x.1+1)<ks.length-x.1;omega) ?_;exact Dq (own:=[.cells 3 [A5 (Gi x.2 ks[x.1]).1]]) (fun _=>.refl _) (by repeat (first|exact Bq|refine Bp (by first|(simp [or_imp,forall_and];done)|(simp [oid]<;>omega)) ?_)) (by intro y hy;rw [Bs.1 hy];intro z hz;rw [Bs.1 hz];simp) (by simp))|(refine Ay (x.1+1,x.2) (hx.want hlt hls ht26 ht28 (by simpa using ht38)) (by show ks.length-(x.1+1)<ks.length-x.1;omega) ?_;exact Dq (own:=[.cells 3 [A5 x.2]]) (fun _=>.refl _) (by repeat (first|exact Bq|refine Bp (by first|(simp [or_imp,forall_and];done)|(simp [oid]<;>omega)) ?_)) (by intro y hy;rw [Bs.1 hy];intro z hz;rw [Bs.1 hz];simp) (by simp))
  refine Z92 ?_;refine A2 [2,6,8,9,10,13,14,15] ?_;refine Z8 ?_;refine A2 [2,6,8,10,13,14,15,28] ?_
  refine A3 (fun ht28=>?_) (fun ht28=>?_)
  ·refine Z52 ?_;refine A2 [2,6,8,10,13,14,15] ?_;refine Es ?_;refine Z25 ?_;refine A9 Tryz.call219 (ARy _ _ _) ?_;refine Z63 ?_;refine A2 [2,6,10,11,12,13,14,15] ?_;refine Z8 ?_;refine A2 [2,6,10,11,13,14,15,38] ?_
   refine A3 (fun ht38=>?_) (fun ht38=>?_)
   ·have hbad:=hx.bad hlt hls ht26 (by first|(rw [if_pos ht28];simpa using ht38)|(rw [if_neg (by rw [ht28];simp)];simpa using ht38))
    refine z4 ?_;exact APf
   refine Z4 ?_;refine Z23 ?_;refine Gc ?_;refine zd ?_;refine iz ?_;refine zd ?_
   first|(refine Ay (x.1+1,x.2) (hx.skip hlt hls ht26) (by show ks.length-(x.1+1)<ks.length-x.1;omega) ?_;exact Dq (own:=[.cells 3 [A5 x.2]]) (fun _=>.refl _) (by repeat (first|exact Bq|refine Bp (by first|(simp [or_imp,forall_and];done)|(simp [oid]<;>omega)) ?_)) (by intro y hy;rw [Bs.1 hy];intro z hz;rw [Bs.1 hz];simp) (by simp))|(refine Ay (x.1+1,(Gi x.2 ks[x.1]).1) (hx.same hlt hls ht26 ht28 (by simpa using ht38)) (by show ks.length-(x.1+1)<ks.length-x.1;omega) ?_;exact Dq (own:=[.cells 3 [A5 (Gi x.2 ks[x.1]).1]]) (fun _=>.refl _) (by repeat (first|exact Bq|refine Bp (by first|(simp [or_imp,forall_and];done)|(simp [oid]<;>omega)) ?_)) (by intro y hy;rw [Bs.1 hy];intro z hz;rw [Bs.1 hz];simp) (by simp))|(refine Ay (x.1+1,x.2) (hx.want hlt hls ht26 ht28 (by simpa using ht38)) (by show ks.length-(x.1+1)<ks.length-x.1;omega) ?_;exact Dq (own:=[.cells 3 [A5 x.2]]) (fun _=>.refl _) (by repeat (first|exact Bq|refine Bp (by first|(simp [or_imp,forall_and];done)|(simp [oid]<;>omega)) ?_)) (by intro y hy;rw [Bs.1 hy];intro z hz;rw [Bs.1 hz];simp) (by simp))
  refine Yt ?_;refine A9 Tryz.call219 (ARy _ _ _) ?_;refine Z63 ?_;refine A2 [2,6,10,11,12,13,14,15] ?_;refine Z8 ?_;refine A2 [2,6,10,11,13,14,15,38] ?_
  refine A3 (fun ht38=>?_) (fun ht38=>?_)
  ·have hbad:=hx.bad hlt hls ht26 (by first|(rw [if_pos ht28];simpa using ht38)|(rw [if_neg (by rw [ht28];simp)];simpa using ht38))
   refine z4 ?_;exact APf
  refine Z4 ?_;refine Z23 ?_;refine Gc ?_;refine zd ?_;refine iz ?_;refine zd ?_
  first|(refine Ay (x.1+1,x.2) (hx.skip hlt hls ht26) (by show ks.length-(x.1+1)<ks.length-x.1;omega) ?_;exact Dq (own:=[.cells 3 [A5 x.2]]) (fun _=>.refl _) (by repeat (first|exact Bq|refine Bp (by first|(simp [or_imp,forall_and];done)|(simp [oid]<;>omega)) ?_)) (by intro y hy;rw [Bs.1 hy];intro z hz;rw [Bs.1 hz];simp) (by simp))|(refine Ay (x.1+1,(Gi x.2 ks[x.1]).1) (hx.same hlt hls ht26 ht28 (by simpa using ht38)) (by show ks.length-(x.1+1)<ks.length-x.1;omega) ?_;exact Dq (own:=[.cells 3 [A5 (Gi x.2 ks[x.1]).1]]) (fun _=>.refl _) (by repeat (first|exact Bq|refine Bp (by first|(simp [or_imp,forall_and];done)|(simp [oid]<;>omega)) ?_)) (by intro y hy;rw [Bs.1 hy];intro z hz;rw [Bs.1 hz];simp) (by simp))|(refine Ay (x.1+1,x.2) (hx.want hlt hls ht26 ht28 (by simpa using ht38)) (by show ks.length-(x.1+1)<ks.length-x.1;omega) ?_;exact Dq (own:=[.cells 3 [A5 x.2]]) (fun _=>.refl _) (by repeat (first|exact Bq|refine Bp (by first|(simp [or_imp,forall_and];done)|(simp [oid]<;>omega)) ?_)) (by intro y hy;rw [Bs.1 hy];intro z hz;rw [Bs.1 hz];simp) (by simp))
 have hxe:ks.length≤x.1:=by simpa using ht16
 have hout:=hx.out hxe
 refine Z26 ?_;refine Z33 ?_;refine A2 [2,6,45] ?_
 refine A3 (fun ht45=>?_) (fun ht45=>?_)
 ·refine Z19 ?_;refine Z85 ?_;exact A8 (B1 A7 A7) ⟨by rw [hout,if_pos ht45],rfl⟩
 refine Yt ?_;refine Z77 ?_;exact A8 (B1 A7 A7) ⟨by rw [hout,if_neg (by rw [ht45];simp)],rfl⟩

theorem AFw {n k:Nat} {own:Bool} {l:List Int}:Low n (.slice own k (l.map A5)):=low_slice.2 fun y hy=>by
 obtain ⟨z,_,rfl⟩:=D6.1 hy
 simp
theorem wx {n:Nat} {e:Expr}:Low n (.ro (Dz e)):=by have:=B7 n e;rw [Ax] at this;simpa using this
theorem Jm {c:List Col} {t:Str} (h:¬(Bn t c<0)):∃(j:Nat),Bn t c=(j:Int)∧j<c.length:=by
 obtain ⟨j,y,h2,_,h3⟩:=find_mem.1 h
 exact ⟨j,h3,(Ad.1 h2).1⟩
theorem o9 {c:List Col} {e:Expr} (h:(e.op==1)=true):Bt c e=(e.val.kind,0):=by rw [U4];unfold Rp;rw [if_pos h]
theorem fh {c:List Col} {e:Expr} (h1:(e.op==1)=false) (h:(e.op==2)=true):Bt c e=Ro c e.text:=by rw [U4];unfold Rp;rw [h1,if_pos h];rfl
theorem oa {c:List Col} {e:Expr} (h1:(e.op==1)=false) (h2:(e.op==2)=false) {x:Nat} (hx:x<e.kids.length) (h0:∀(j:Nat) (y:Expr),j<x→e.kids[j]? = some y→((Bt c y).2 != 0)=false) (hb:((Bt c e.kids[x]).2 != 0)=true):Bt c e=(0,(Bt c e.kids[x]).2):=by
 rw [U4]
 unfold Rp
 rw [h1,h2]
 have:(e.kids.map (Bt c)).find? (fun q=>q.2 != 0)=some ((e.kids.map (Bt c))[x]'(by simpa using hx)):=ja (by simpa using hx) (by simpa using hb) (fun j y hj hy=>by
  rw [Ce,Ep] at hy
  obtain ⟨z,hz,rfl⟩:=hy
  exact h0 j z hj hz)
 rw [this]
 simp
theorem ob {c:List Col} {e:Expr} (h1:(e.op==1)=false) (h2:(e.op==2)=false) (h0:∀(j:Nat) (y:Expr),j<e.kids.length→e.kids[j]? = some y→((Bt c y).2 != 0)=false):Bt c e=L6 (Jt e.op e.text) (e.kids.map fun y=>(Bt c y).1):=by
 rw [U4]
 unfold Rp
 rw [h1,h2]
 have:(e.kids.map (Bt c)).find? (fun q=>q.2 != 0)=none:=V8 (fun j y hy=>by
  rw [Ce,Ep] at hy
  obtain ⟨z,hz,rfl⟩:=hy
  exact h0 j z (Ad.1 hz).1 hz)
 rw [this]
 simp only [Io]
 rfl
theorem fj (f:Expr→Int) (l:List Expr) {x:Nat} (h:x<l.length):((l.take x).map f).map A5++[A5 (f l[x])]=((l.take (x+1)).map f).map A5:=by rw [Ip h,C4,C4];rfl
theorem AUq (c:List Col) (hc:OkCols c):∀(n:Nat) (e:Expr),okE n e→Et E9 e=true→∀Hp:List AObj,AFun Tryz.prog 168 [Ab e,An c] Hp (.tup [A5 (Bt c e).1,A5 (Bt c e).2]):=by
 intro n
 induction n with
 | zero=>exact fun e h=>h.elim
 | succ n ih =>
 intro e hok hnd Hp
 have hnd0:=hnd
 rw [Jk,As] at hnd0
 refine Ah [.tmp 4,.tmp 5] [0,1] Tryz.func168 Tryz.ntmps168 (fun d=>?_)
 refine ADg ?_;refine Z8 ?_;refine A2 [1,2,13] ?_;refine P8 ?_;refine A2 [1,2,13,14] ?_
 refine A3 (fun ht14=>?_) (fun ht14=>?_)
 ·have hk:=o9 (c:=c) ht14
  refine Z1 ?_;refine Z10 ?_;refine Z75 ?_;exact AMb
 refine Z1 ?_;refine A2 [1,2,19] ?_
 refine A3 (fun ht19=>?_) (fun ht19=>?_)
 ·have hk:=fh (c:=c) ht14 ht19
  refine Z19 ?_;refine A9 Tryz.call46 (c46 c hc e.text _) ?_;refine A4 ?_;refine A2 [1,6] ?_;refine Z8 ?_;refine A2 [1,6,26] ?_
  refine A3 (fun ht26=>?_) (fun ht26=>?_)
  ·have hk2:Ro c e.text=(0,9):=if_pos (by simpa using ht26)
   refine z4 ?_;refine Z6 ?_;exact AHt
  have hneg:¬(Bn e.text c<0):=by simpa using ht26
  obtain ⟨j,hj,hjl⟩:=Jm hneg
  have hk2:Ro c e.text=(c[j].kind,0):=by
   unfold Ro
   rw [if_neg hneg,hj,Int.toNat_natCast,D4,Aa hjl]
   rfl
  rw [hj]
  refine Lq ?_
  refine A4 (h:=Ac (j) (Bj c[j]) (fun _=>Aw hjl)) (hr:=?_)
  refine Z70 ?_;refine Z75 ?_;exact AHt
 refine Z17 ?_;refine Z2 ?_;refine A2 [1,2,7] ?_;refine Z74 ?_;refine S9 7 1 ?_;refine Z70 ?_;refine A2 [1,2,7,33,34,35] ?_
 refine Az (α:=Nat) (fun x=>⟨59,A6 1 (An c) (A6 2 (.ro (Dz e)) (A6 7 (.slice true 1 (((e.kids.take x).map fun y=>(Bt c y).1).map A5)) (A6 33 (.slice false 6 (e.kids.map Ab)) (A6 34 (A5 (e.kids.length:Nat)) (A6 35 (A5 (x:Nat)) (fun _=>.any)))))),Hp,[],[],none⟩) (fun x=>x≤e.kids.length∧∀(j:Nat) (y:Expr),j<x→e.kids[j]? = some y→((Bt c y).2 != 0)=false) (fun x=>e.kids.length-x) (0) ⟨Ap _,fun j y h=>by omega⟩ (B2 (by simp)) rfl (fun x hx=>?_)
 refine Z2 ?_;refine A2 [1,2,7,33,34,35,36] ?_
 refine Ej (fun ht36=>?_) (fun ht36=>?_)
 ·have hlt:x<e.kids.length:=by simpa using ht36
  have hkl:=hok.2.1
  refine X6 ?_
  refine A4 (h:=Ac (x) (Ab e.kids[x]) (fun _=>Aw hlt)) (hr:=?_)
  refine X9 ?_;refine A2 [1,2,7,9,33,34,35] ?_;refine Z1 ?_;refine A9 Tryz.call168 (ih e.kids[x] (hok.2.2 _ (Av hlt)) ((F3 _ _).1 hnd0.2 _ (Av hlt)) _) ?_;refine Z63 ?_;refine A2 [1,2,7,10,11,33,34,35] ?_;refine Z8 ?_;refine A2 [1,2,7,10,11,33,34,35,46] ?_
  refine A3 (fun ht46=>?_) (fun ht46=>?_)
  ·have hkb:=oa (c:=c) ht14 ht19 hlt hx.2 ht46
   refine Z19 ?_;refine Z85 ?_;exact APj
  refine z9 ?_
  refine Ee jU Tryz.type3 ?_ ?_ ?_
  ·simp only [Am,Bx,B6,Bw,Tryz.t3];omega
  ·simp only [Am,Bx,B6,Bw,Tryz.t3];omega
  refine Lr ?_;refine A2 [1,2,7,33,34,35] ?_;refine iz ?_;refine A2 [1,2,7,33,34,35] ?_;refine Ay (x+1) ⟨hlt,C1 hlt hx.2 ht46⟩ (by omega) ?_
  simp only [show Tryz.t3.size=1 from rfl,fj]
  exact Dq (own:=[]) (fun _=>.refl _) (by repeat (first|exact Bq|refine Bp (by first|exact AFw|exact wx|exact Fx|(simp [or_imp,forall_and];done)) ?_)) (by simp) (by simp)
 have hxe:e.kids.take x=e.kids:=D9 (by simp at ht36;omega)
 have hxl:e.kids.length≤x:=by simp at ht36;omega
 have hka:=ob (c:=c) ht14 ht19 (fun j y hj hy=>hx.2 j y (by omega) hy)
 rw [hxe]
 refine Ts ?_;refine A9 Tryz.call188 (AUo e _) ?_;refine A4 ?_
 refine A9 Tryz.call189 (AUp (Jt e.op e.text) (e.kids.map fun y=>(Bt c y).1) (by rw [Ny hnd0.1 ht14 ht19];simp) (by simpa using hok.2.1) _) ?_
 refine Z70 ?_;refine Z77 ?_;exact A8 (B1 A7 A7) ⟨by rw [hka],rfl⟩

theorem Kx {e:Expr} (h:Bk e=true):Et E9 e=true:=by
 rw [G5] at h
 unfold Eb at h
 rw [As] at h
 exact h.2
theorem ARz (n:Nat) (e:Expr) (hok:okE n e) (hn:n≤1048576) (c:List Col) (hc:OkCols c) (Hp:List AObj):AFun Tryz.prog 141 [Ab e,An c] Hp (.tup [A5 (Eu e c).1,A5 (Eu e c).2]):=by
 refine Ah [.tmp 4,.tmp 5] [0,1] Tryz.func141 Tryz.ntmps141 (fun d=>?_)
 refine ADg ?_;refine Z29 ?_;refine A9 Tryz.call59 (c59 n e hok hn _) ?_;refine Sf ?_;refine Bm Tryz.call34 (fun hB=>c34 c hc _) ?_;refine Z93 ?_;refine A2 [1,2,13] ?_
 refine A3 (fun ht13=>?_) (fun ht13=>?_)
 ·have hk:Eu e c=(0,1):=if_pos ht13
  refine Z1 ?_;exact ALy
 have hk:Eu e c=Bt c e:=if_neg (by rw [ht13];simp)
 have hr:Bk e=true:=by simp only [Cq,Jw] at ht13;exact ht13.1
 refine Lq ?_;refine A9 Tryz.call168 (AUq c hc n e hok (Kx hr) _) ?_;refine Z70 ?_;exact APs

/-- The first fault of those that were asked. -/
structure AllAt (f:Expr→Rs) (k:List Expr) (x:Nat):Prop where
 le:x≤k.length
 ok:∀(j:Nat) (y:Expr),j<x→k[j]? = some y→((f y).2 != 0)=false
theorem AllAt.bad {f:Expr→Rs} {k:List Expr} {x:Nat} (h:AllAt f k x) (hx:x<k.length) (hb:((f k[x]).2 != 0)=true) (g:List Val→Rs):I9 g (k.map f)=D0 (f k[x]).2:=by
 unfold I9
 have:(k.map f).find? (fun q=>q.2 != 0)=some ((k.map f)[x]'(by simpa using hx)):=ja (by simpa using hx) (by simpa using hb) (fun j y hj hy=>by
  rw [Ce,Ep] at hy
  obtain ⟨z,hz,rfl⟩:=hy
  exact h.ok j z hj hz)
 rw [this]
 simp
theorem AllAt.all {f:Expr→Rs} {k:List Expr} {x:Nat} (h:AllAt f k x) (hx:k.length≤x) (g:List Val→Rs):I9 g (k.map f)=if (k.take x).any (fun y=>(f y).1.kind==0) then (noV,0) else g ((k.take x).map fun y=>(f y).1):=by
 unfold I9
 have:(k.map f).find? (fun q=>q.2 != 0)=none:=V8 (fun j y hy=>by
  rw [Ce,Ep] at hy
  obtain ⟨z,hz,rfl⟩:=hy
  exact h.ok j z (by have:=(Ad.1 hz).1;omega) hz)
 rw [this,D9 hx]
 simp only [List.any_map,Io]
 rfl
theorem AllAt.next {f:Expr→Rs} {k:List Expr} {x:Nat} (h:AllAt f k x) (hx:x<k.length) (hb:((f k[x]).2 != 0)=false):AllAt f k (x+1):=⟨hx,C1 hx h.ok hb⟩
theorem AFx (f:Expr→Bool) (k:List Expr) {x:Nat} (h:x<k.length):(k.take (x+1)).any f=((k.take x).any f || f k[x]):=by rw [Ip h,List.any_append];simp
theorem AAy (f:Expr→Val) (l:List Expr) {x:Nat} (h:x<l.length):((l.take x).map f).map Bi++[Bi (f l[x])]=((l.take (x+1)).map f).map Bi:=by rw [Ip h,C4,C4];rfl
theorem od {n k:Nat} {own:Bool} {l:List Val}:Low n (.slice own k (l.map Bi)):=low_slice.2 fun y hy=>by
 obtain ⟨z,_,rfl⟩:=D6.1 hy
 simp [or_imp,forall_and]
theorem AUr (c:List Col) (l:List Val) (e:Expr) (hk:e.kids.length≤1048576) (hev:∀y∈e.kids,Lv c l y (Al c l y)) (hargs:((∀y∈e.kids,(Al c l y).2=0)→ArgsOk e.op (e.kids.map fun y=>(Al c l y).1))) (Hp:List AObj):AFun Tryz.prog 147 [aw c l,Ab e] Hp (Q6 (I9 (B0 e.op e.text) (e.kids.map (Al c l)))):=by
 refine Ah [.cell 4 42,.tmp 5] [0,1] Tryz.func147 Tryz.ntmps147 (fun d=>?_)
 refine Z1 ?_;refine AHm ?_;refine Z2 ?_;refine A2 [2,3,4,6] ?_;refine Ec ?_;refine S9 6 3 ?_;refine A4 ?_;refine A2 [2,3,4,6,7] ?_;refine Z50 ?_;refine A2 [2,3,4,6,7,13,14,15] ?_
 refine Az (α:=Nat) (fun x=>⟨49,A6 2 (.ro [An c,Br l]) (A6 3 (.ro (Dz e)) (A6 4 (.ptr (oid Hp.length 0) 0) (A6 6 (.slice true 3 (((e.kids.take x).map fun y=>(Al c l y).1).map Bi)) (A6 7 (B4 ((e.kids.take x).any fun y=>(Al c l y).1.kind==0)) (A6 13 (.slice false 6 (e.kids.map Ab)) (A6 14 (A5 (e.kids.length:Nat)) (A6 15 (A5 (x:Nat)) (fun _=>.any)))))))),Hp,[.cells 42 [A5 0,A5 0,Af []]],[],none⟩) (fun x=>AllAt (Al c l) e.kids x) (fun x=>e.kids.length-x) (0) ⟨Ap _,fun j y h=>by omega⟩ (B2 (by simp)) rfl (fun x hx=>?_)
 refine Z2 ?_;refine A2 [2,3,4,6,7,13,14,15,16] ?_
 refine Ej (fun ht16=>?_) (fun ht16=>?_)
 ·have hlt:x<e.kids.length:=by simpa using ht16
  refine X6 ?_
  refine A4 (h:=Ac (x) (Ab e.kids[x]) (fun _=>Aw hlt)) (hr:=?_)
  refine X9 ?_;refine A2 [2,3,4,6,7,9,13,14,15] ?_;refine Z1 ?_;refine A9 Tryz.call105 (hev _ (Av hlt) _) ?_;refine Ys ?_;refine A2 [2,3,4,6,7,10,11,13,14,15] ?_;refine Z8 ?_;refine A2 [2,3,4,6,7,10,11,13,14,15,26] ?_
  refine A3 (fun ht26=>?_) (fun ht26=>?_)
  ·have hm:=hx.bad hlt ht26 (B0 e.op e.text)
   refine Z2 ?_;refine Z62 ?_;refine Z41 ?_;refine Z13 ?_;refine Z73 ?_;exact ze
  refine Lq ?_;refine Z94 ?_;refine A2 [2,3,4,6,7,10,13,14,15] ?_;refine Z91 ?_;refine Z54 ?_
  refine Ee jU Tryz.type42 ?_ ?_ ?_
  ·simp only [Am,Bx,B6,Bw,Tryz.t42];omega
  ·simp only [Am,Bx,B6,Bw,Tryz.t42];omega
  refine Lr ?_;refine A2 [2,3,4,6,7,13,14,15] ?_;refine iz ?_;refine A2 [2,3,4,6,7,13,14,15] ?_;refine Ay (x+1) (hx.next hlt ht26) (by omega) ?_
  simp only [show Tryz.t42.size=3 from rfl,AFx _ _ hlt]
  have hvs:((e.kids.take x).map fun y=>(Al c l y).1).map Bi++[.agg [.v (.int .i64 (Al c l e.kids[x]).1.kind),.v (.int .i64 (Al c l e.kids[x]).1.n),.v (sv (Al c l e.kids[x]).1.s)]]=((e.kids.take (x+1)).map fun y=>(Al c l y).1).map Bi:=AAy _ _ hlt
  simp only [hvs]
  exact Dq (own:=[.cells 42 [A5 0,A5 0,Af []]]) (fun _=>.refl _) (by repeat (first|exact Bq|refine Bp (by first|exact Fx|exact od|exact wx|(simp [or_imp,forall_and,oid]<;>omega)) ?_)) (by intro y hy;rw [Bs.1 hy];intro z hz;simp only [Bu,I3,or_false] at hz;rcases hz with rfl|rfl|rfl<;>simp) (by simp)
 have hxe:e.kids.length≤x:=by simpa using ht16
 have ha:=hx.all hxe (B0 e.op e.text)
 have htk:e.kids.take x=e.kids:=D9 hxe
 have h00:∀y∈e.kids,(Al c l y).2=0:=fun y hy=>by
  obtain ⟨j,hj⟩:=Cf hy
  have:=hx.ok j y (by have:=(Ad.1 hj).1;omega) hj
  simpa using this
 have hao:=hargs h00
 rw [←htk] at hao
 refine Z26 ?_;refine Z29 ?_;refine A2 [3,4,6,42] ?_
 refine A3 (fun ht42=>?_) (fun ht42=>?_)
 ·have hm:I9 (B0 e.op e.text) (e.kids.map (Al c l))=(noV,0):=by rw [ha,if_pos ht42]
  refine AM8 ?_;exact yy
 have hm:I9 (B0 e.op e.text) (e.kids.map (Al c l))=B0 e.op e.text ((e.kids.take x).map fun y=>(Al c l y).1):=by rw [ha,if_neg (by rw [ht42];simp)]
 refine Lq ?_;refine A9 Tryz.call170 (AUk e _ hao _) ?_;refine Z0 ?_;exact rj

set_option maxRecDepth 8000
theorem AFy {x:Expr} {c:List Col} (h:(Eu x c).2=0):Bk x=true∧H5 c=true∧Eu x c=Bt c x:=by
 unfold Eu at h ⊢
 split at h
 ·cases h
 rename_i h1
 rw [if_neg h1]
 simp only [Co,Jc,not_or,gj] at h1
 exact ⟨h1.1,by rw [←N6];exact h1.2,rfl⟩
set_option maxRecDepth 4000
theorem oe {a b:List Expr} (hl:a.length=b.length) (h:∀(j:Nat) (y z:Expr),j<a.length→a[j]? = some y→b[j]? = some z→eqE y z=true):eqL a b=true:=by
 rw [U0]
 refine dc hl fun j y hj hy=>?_
 have hjb:j<b.length:=by omega
 have:=h j y b[j] hj hy (Aa hjb)
 rw [Aa hjb,(jk _ _).1 this]
theorem ANc {a b:List Expr} (h:eqL a b=true) {j:Nat} (hj:j<a.length) (hb:j<b.length):eqE a[j] b[j]=true:=by
 have e:=(U0 _ _).1 h
 subst e
 exact AEr _
theorem AFz {a b:List Expr} {j:Nat} (hj:j<a.length) (hb:j<b.length) (h:eqE a[j] b[j]=false):eqL a b=false:=by
 rw [Ic]
 intro h2
 rw [ANc h2 hj hb] at h
 cases h
theorem wy {a b:List Expr} (h:a.length≠b.length):eqL a b=false:=by
 rw [Ic]
 exact fun h2=>h (AI8 h2)
theorem AL3 {a b:List Expr} {x:Nat} (hx:x<a.length) (hb:x<b.length) (h:∀(j:Nat) (y z:Expr),j<x→a[j]? = some y→b[j]? = some z→eqE y z=true) (he:eqE a[x] b[x]=true):∀(j:Nat) (y z:Expr),j<x+1→a[j]? = some y→b[j]? = some z→eqE y z=true:=by
 intro j y z hj h1 h2
 rcases Be j x with h3|h3
 ·exact h j y z h3 h1 h2
 have:j=x:=by omega
 subst this
 rw [Aa hx] at h1
 rw [Aa hb] at h2
 injection h1 with h1
 injection h2 with h2
 rw [←h1,←h2]
 exact he
def og (x y:Expr):Bool:=((x.op==y.op)&&(x.text==y.text))&&((x.val.kind==y.val.kind&&x.val.n==y.val.n)&&x.val.s==y.val.s)
theorem ju (x y:Expr):eqE x y=(og x y&&eqL x.kids y.kids):=AEq x y
theorem c77:∀(n:Nat) (x:Expr),okE n x→∀(y:Expr) (Hp:List AObj),AFun Tryz.prog 77 [Ab x,Ab y] Hp (B4 (eqE x y)):=by
 intro n
 induction n with
 | zero=>exact fun x h=>h.elim
 | succ n ih =>
 intro x hok y Hp
 refine Ah [.tmp 4] [0,1] Tryz.func77 Tryz.ntmps77 (fun d=>?_)
 refine yw ?_;refine Z50 ?_;refine Z44 ?_;refine Xb ?_;refine Z7 ?_
 refine Bd (h:=Q.neqAgg Tt (fun w=>Hn x.val.kind x.val.n y.val.kind y.val.n x.val.s y.val.s w)) (hr:=?_)
 refine rt ?_;refine Oh ?_;refine A2 [2,3,33] ?_
 refine A3 (fun ht33=>?_) (fun ht33=>?_)
 ·have hf:eqE x y=false:=by
   rw [ju]
   simp only [Co,bne_iff_ne,ne_eq,Am,Jc] at ht33
   by_cases hh:og x y=true
   ·rw [hh,Dm]
    refine wy ?_
    unfold og at hh
    simp only [As,beq_iff_eq] at hh
    obtain ⟨⟨h1,h2⟩,⟨h3,h4⟩,h5⟩:=hh
    rcases ht33 with ((h|h)|h)|h
    ·exact absurd h1 h
    ·simp [h2] at h
    ·simp [h3,h4,h5] at h
    intro e;exact h (by rw [e])
   rw [Uq] at hh
   rw [hh,Ey]
  refine Z89 ?_;refine Z13 ?_;exact AMc
 have hh:og x y=true∧x.kids.length=y.kids.length:=by
  simp only [Cq,bne_eq_false_iff_eq,Am,Jw] at ht33
  obtain ⟨⟨⟨h1,h2⟩,h3⟩,h4⟩:=ht33
  unfold og
  refine ⟨?_,by omega⟩
  simp only [beq_iff_eq,As] at h1 h2 h3 ⊢
  exact ⟨⟨h1,h2⟩,h3⟩
 obtain ⟨hh,hlen⟩:=hh
 have hkl:=hok.2.1
 refine Sd ?_;refine A2 [2,3,5] ?_
 refine Az (α:=Nat) (fun i=>⟨53,A6 2 (.ro (Dz x)) (A6 3 (.ro (Dz y)) (A6 5 (A5 (i:Nat)) (fun _=>.any))),Hp,[],[],none⟩) (fun i=>i≤x.kids.length∧∀(j:Nat) (a b:Expr),j<i→x.kids[j]? = some a→y.kids[j]? = some b→eqE a b=true) (fun i=>x.kids.length-i) (0) ⟨Ap _,fun j a b h=>by omega⟩ (F6 _) rfl (fun i hi=>?_)
 refine Oi ?_;refine A2 [2,3,5,38] ?_
 refine A3 (fun ht38=>?_) (fun ht38=>?_)
 ·have hlt:i<x.kids.length:=by simpa using ht38
  have hly:i<y.kids.length:=by omega
  refine Z42 ?_;refine Cb [0,1,0,7,15,0,32,0,224,480,1023,2047] 10 Ai (by kernel_rfl) ?_;refine Z40 ?_
  refine Ak (h:=Ac (i) (Ab x.kids[i]) (fun _=>Aw hlt)) (hr:=?_)
  refine Tq ?_
  refine Ak (h:=Ac (i) (Ab y.kids[i]) (fun _=>Aw hly)) (hr:=?_)
  refine Sc ?_;refine A9 Tryz.call77 (ih x.kids[i] (hok.2.2 _ (Av hlt)) y.kids[i] _) ?_;refine A4 ?_;refine A2 [2,3,5,52] ?_
  refine A3 (fun ht52=>?_) (fun ht52=>?_)
  ·have hf:eqE x y=false:=by rw [ju,AFz hlt hly (by simpa using ht52),Bool.and_false]
   refine Z89 ?_;exact APu
  have he:eqE x.kids[i] y.kids[i]=true:=by simpa using ht52
  refine Z71 ?_;refine A2 [2,3,5] ?_;exact Ay (i+1) ⟨hlt,AL3 hlt hly hi.2 he⟩ (by omega) (Bh rfl)
 have hxe:x.kids.length≤i:=by simpa using ht38
 refine Xc ?_;refine Z39 ?_;exact A8 (Ae A7) ⟨by rw [ju,hh,oe hlen (fun j a b hj=>hi.2 j a b (by omega))];rfl,rfl⟩

theorem AUs (n:Nat) (a b:List Expr) (ha:a.length≤1048576) (hok:∀y∈a,okE n y) (ih:∀(x:Expr),okE n x→∀(y:Expr) (Hp:List AObj),AFun Tryz.prog 136 [Ab x,Ab y] Hp (B4 (eqE x y))) (Hp:List AObj):AFun Tryz.prog 166 [.slice false 6 (a.map Ab),.slice false 6 (b.map Ab),.fn (.func 136) [] []] Hp (B4 (eqL a b)):=by
 refine Ah [.tmp 6] [0,1,2] Tryz.func166 Tryz.ntmps166 (fun d=>?_)
 refine Z2 ?_;refine cu ?_;refine Oi ?_;refine A2 [0,1,2,14] ?_
 refine A3 (fun ht14=>?_) (fun ht14=>?_)
 ·have hf:eqL a b=false:=wy (by have:=ht14;simp at this;omega)
  refine Z2 ?_;refine iy ?_;exact AMc
 have hlen:a.length=b.length:=by have:=ht14;simp at this;omega
 refine Nn ?_;refine A2 [1,2,15,16,17] ?_
 refine Az (α:=Nat) (fun i=>⟨32,A6 1 (.slice false 6 (b.map Ab)) (A6 2 (.fn (.func 136) [] []) (A6 15 (.slice false 6 (a.map Ab)) (A6 16 (A5 (a.length:Nat)) (A6 17 (A5 (i:Nat)) (fun _=>.any))))),Hp,[],[],none⟩) (fun i=>i≤a.length∧∀(j:Nat) (y z:Expr),j<i→a[j]? = some y→b[j]? = some z→eqE y z=true) (fun i=>a.length-i) (0) ⟨Ap _,fun j y z h=>by omega⟩ (B2 (by simp)) rfl (fun i hi=>?_)
 refine Z2 ?_;refine A2 [1,2,15,16,17,18] ?_
 refine Ej (fun ht18=>?_) (fun ht18=>?_)
 ·have hlt:i<a.length:=by simpa using ht18
  have hlb:i<b.length:=by omega
  refine Tr ?_
  refine A4 (h:=Ac (i) (Ab a[i]) (fun _=>Aw hlt)) (hr:=?_)
  refine rl ?_;refine A2 [1,2,7,8,15,16,17] ?_;refine Z1 ?_
  refine A4 (h:=Ac (i) (Ab b[i]) (fun _=>Aw hlb)) (hr:=?_)
  refine X9 ?_;refine A2 [1,2,8,9,15,16,17] ?_;refine Z19 ?_;refine R.callV Tryz.call136 (ih a[i] (hok _ (Av hlt)) b[i] _) ?_;refine A4 ?_;refine A2 [1,2,15,16,17,30] ?_
  refine A3 (fun ht30=>?_) (fun ht30=>?_)
  ·have hf:eqL a b=false:=AFz hlt hlb (by simpa using ht30)
   refine Z2 ?_;refine A2 [6] ?_;exact APu
  have he:eqE a[i] b[i]=true:=by simpa using ht30
  refine Nm ?_;refine A2 [1,2,15,16,17] ?_;refine Ay (i+1) ⟨hlt,AL3 hlt hlb hi.2 he⟩ (by omega) ?_
  exact Dq (own:=[]) (fun _=>.refl _) (by repeat (first|exact Bq|refine Bp (by first|exact Fx|(simp;done)) ?_)) (by simp) (by simp)
 have hxe:a.length≤i:=by simpa using ht18
 refine Ts ?_;refine r8 ?_;exact A8 (Ae A7) ⟨by rw [oe hlen (fun j y z hj=>hi.2 j y z (by omega))],rfl⟩

theorem AS0:∀(n:Nat) (x:Expr),okE n x→∀(y:Expr) (Hp:List AObj),AFun Tryz.prog 136 [Ab x,Ab y] Hp (B4 (eqE x y)):=by
 intro n
 induction n with
 | zero=>exact fun x h=>h.elim
 | succ n ih =>
 intro x hok y Hp
 refine Ah [.tmp 4] [0,1] Tryz.func136 Tryz.ntmps136 (fun d=>?_)
 refine yw ?_;refine Z25 ?_;refine Z44 ?_;refine Xb ?_;refine Z7 ?_
 refine Bd (h:=Oc Tt (fun w=>Hn x.val.kind x.val.n y.val.kind y.val.n x.val.s y.val.s w)) (hr:=?_)
 refine rt ?_;refine Bm Tryz.call166 (fun hB=>AUs n x.kids y.kids hok.2.1 hok.2.2 ih _) ?_;refine Z0 ?_;refine Z39 ?_;exact A8 (Ae A7) ⟨by rw [AEq],rfl⟩

theorem jv (o:Int) (t:Str) (v:Val) (k:List Expr):Ab (.mk o t v k)=.agg [A5 o,.v (sv t),A5 v.kind,A5 v.n,.v (sv v.s),.slice false 6 (k.map Ab)]:=by rw [Ax];rfl
set_option maxRecDepth 8000
/-! Who decides decides: the law's sources, columns and truths. -/
/-! Rows. -/
theorem row_iff {c:List Col} {l:List Val}:F9 c l=true↔H5 c=true∧l.length=c.length∧∀(i:Nat) (v:Val) (y:Col),l[i]? = some v→c[i]? = some y→Cg v=true∧(v.kind=0∨v.kind=y.kind):=by
 unfold F9
 rw [As,As,N6,beq_iff_eq,B5,and_assoc]
 refine and_congr_right fun _=>and_congr_right fun hl=>⟨fun h i v y hv hy=>?_,fun h p hp=>?_⟩
 ·have:=h (v,y) (B3 (i:=i) (by rw [Rx];exact ⟨hv,hy⟩))
  simpa using this
 obtain ⟨i,hi⟩:=Cf hp
 rw [Rx] at hi
 have:=h i p.1 p.2 hi.1 hi.2
 simpa using this
theorem AJc {x:Expr} {c:List Col} {l:List Val} (h1:Bk x=true) (h2:F9 c l=true):En x c l=Al c l x:=by
 unfold En wj
 rw [h1,h2]
 rfl
/-! Rows that differ in what is not named. -/
/-! Who has a kind comes to it. -/
/-- What a tree of this kind may come to. -/
structure KOk (k:Int) (r:Rs):Prop where
 kind:r.2=0→r.1.kind=k∨r.1.kind=0
 err:r.2≠0→r.2=4∨r.2=5∨r.2=6∨r.2=3
theorem KOk.null (k:Int):KOk k (noV,0):=⟨fun _=>.inr rfl,fun h=>absurd rfl h⟩
theorem KOk.val {k:Int} {v:Val} (h:v.kind=k):KOk k (v,0):=⟨fun _=>.inl h,fun h=>absurd rfl h⟩
theorem KOk.wrong {k e:Int} (h:e=4∨e=5∨e=6∨e=3):KOk k (D0 e):=⟨fun h0=>by rw [show e=0 from h0] at h;omega,fun _=>h⟩
theorem KOk.whole {x:Int×Int} (h:x.2≠0→x.2=4∨x.2=5∨x.2=6∨x.2=3):KOk 1 (Fu x):=by
 unfold Fu
 split
 ·rename_i h1;exact .wrong (h (by simpa using h1))
 exact .val rfl
theorem KOk.mono {k k':Int} {r:Rs} (h:KOk k r) (hk:k=k'∨k=0):KOk k' r:=⟨fun h0=>by have:=h.kind h0;omega,h.err⟩
theorem Wu {α:Type} {g:α→Int} {r:α→Rs} {l:List α} (h:∀y∈l,KOk (g y) (r y)) {k:Int} {f:List Val→Rs} (hs:∀vs:List Val,vs.map (·.kind)=l.map g→(∀v∈vs,v.kind≠0)→KOk k (f vs)):KOk k (I9 f (l.map r)):=by
 unfold I9
 split
 ·rename_i q hq
  have h1:=gq hq
  obtain ⟨y,hy,rfl⟩:=D6.1 (List.mem_of_find?_eq_some hq)
  exact .wrong ((h y hy).err (by simpa using h1))
 rename_i hq
 have h0:∀y∈l,(r y).2=0:=fun y hy=>by
  have:=Na.1 hq (r y) (gx hy)
  simpa using this
 split
 ·exact .null k
 rename_i hn
 have hnn:∀y∈l,(r y).1.kind≠0:=fun y hy e=>hn (by rw [Jx];exact ⟨r y,gx hy,by simpa using e⟩)
 refine hs _ ?_ ?_
 ·rw [Io,Io]
  refine Qi fun y hy=>?_
  have:=(h y hy).kind (h0 y hy)
  have:=hnn y hy
  show (r y).1.kind=g y
  omega
 intro v hv
 rw [Io] at hv
 obtain ⟨y,hy,rfl⟩:=D6.1 hv
 exact hnn y hy
theorem Uc {a b:Int} (h:(Gi a b).2=true):((a=0∧(Gi a b).1=b)∨(a≠0∧(b=0∨b=a)∧(Gi a b).1=a)):=by
 unfold Gi at h ⊢
 split
 ·rename_i e;exact .inl ⟨by simpa using e,rfl⟩
 rename_i e
 rw [if_neg e] at h
 split
 ·rename_i e2
  exact .inr ⟨by simpa using e,by simp only [Co,beq_iff_eq] at e2;omega,rfl⟩
 rename_i e2
 rw [if_neg e2] at h
 cases h
theorem ANd {s:Sign} {ks:List Int} (h:(L6 s ks).2=0):∃c,Hj s.kids ks 0=some c∧(L6 s ks).1=if s.own == -1 then c else s.own:=by
 unfold L6 at h ⊢
 cases hk:Hj s.kids ks 0 with
 | none=>rw [hk] at h;cases h
 | some c=>exact ⟨c,rfl,by simp only;split<;>rfl⟩
/-- One kid, of a kind. -/
theorem AAz {w k0 c:Int} (h1:(w == -2)=false) (h2:(w == -1)=false) (h3:w≠0) (h:Hj [w] [k0] 0=some c):k0=0∨k0=w:=by
 rw [Hj,h1,h2] at h
 simp only [Ag,if_false] at h
 split at h
 ·rename_i hm;have:=Uc hm;omega
 cases h
theorem AB0 {w w' k0 k1 c:Int} (h1:(w == -2)=false) (h2:(w == -1)=false) (h3:w≠0) (h1':(w' == -2)=false) (h2':(w' == -1)=false) (h3':w'≠0) (h:Hj [w,w'] [k0,k1] 0=some c):(k0=0∨k0=w)∧(k1=0∨k1=w'):=by
 rw [Hj,h1,h2] at h
 simp only [Ag,if_false] at h
 split at h
 ·rename_i hm
  rw [Hj,h1',h2'] at h
  simp only [Ag,if_false] at h
  split at h
  ·rename_i hm';have:=Uc hm;have:=Uc hm';omega
  cases h
 cases h
/-- Two kids of one kind, whichever. -/
theorem jx {k0 k1 c c0:Int} (h:Hj [-1, -1] [k0,k1] c0=some c) (h0:c0=0):(k0=0∨k0=c)∧(k1=0∨k1=c)∧(k0≠0→k1≠0→k0=k1):=by
 subst h0
 rw [Hj] at h
 simp only [show ((-1:Int) == -2)=false from rfl,show ((-1:Int) == -1)=true from rfl,Ag,if_false,if_true] at h
 split at h
 ·rename_i hm
  rw [Hj] at h
  simp only [show ((-1:Int) == -2)=false from rfl,show ((-1:Int) == -1)=true from rfl,Ag,if_false,if_true] at h
  split at h
  ·rename_i hm'
   rw [Hj] at h
   injection h with h
   have a:=Uc hm
   have b:=Uc hm'
   omega
  cases h
 cases h
theorem R5 {c:List Col} {o:Int} {t:Str} {v:Val} {k:List Expr} (h:(Bt c (.mk o t v k)).2=0) (h1:(o==1)=false) (h2:(o==2)=false):
  (∀y∈k,(Bt c y).2=0)∧∃m,Hj (Jt o t).kids (k.map fun y=>(Bt c y).1) 0=some m∧(Bt c (.mk o t v k)).1=if (Jt o t).own == -1 then m else (Jt o t).own:=by
 rw [Bt] at h ⊢
 have hk:=AEz h h1 h2
 rw [Vo] at hk h ⊢
 have hk':∀y∈k,(Bt c y).2=0:=fun y hy=>hk _ (gx hy)
 refine ⟨hk',?_⟩
 have e:Rp c o t v (k.map (Bt c))=L6 (Jt o t) (k.map fun y=>(Bt c y).1):=by
  unfold Rp
  rw [h1,h2]
  have:(k.map (Bt c)).find? (fun q=>q.2 != 0)=none:=Na.2 fun q hq=>by simpa using hk q hq
  simp only [Ag,if_false,this,Io]
  rfl
 rw [e] at h ⊢
 exact ANd h
theorem AB1 (t:Str) (a b:Int):(Ev t a b).2≠0→(Ev t a b).2=4∨(Ev t a b).2=5∨(Ev t a b).2=6∨(Ev t a b).2=3:=by
 unfold Ev an Lt Sq Xg Sr
 simp only
 repeat' split
 all_goals simp
theorem AJd (a b:Int):(Lt a b).2≠0→(Lt a b).2=4∨(Lt a b).2=5∨(Lt a b).2=6∨(Lt a b).2=3:=by
 unfold Lt
 repeat' split
 all_goals simp
theorem AJe (s:Str):(Bv s).2≠0→(Bv s).2=4∨(Bv s).2=5∨(Bv s).2=6∨(Bv s).2=3:=by
 unfold Bv
 repeat' split
 all_goals simp
theorem ANe {a b:Val} (ha:a.kind=2) (hb:b.kind=2):KOk 2 (J7 a b):=by
 unfold J7
 rw [show By [a,b] [2,2]=true by simp [By,ha,hb]]
 simp only [C8,Ag,if_false]
 split
 ·exact .wrong (by omega)
 exact .val rfl
/-- A mark of two values of the kinds that its sign asks for. -/
theorem AS1 {t:Str} {a b:Val} (ht:t∈[[61],[33,61],[60],[60,61],[62],[62,61],[43],[45],[38],[42],[47],[37]]) {m:Int} (hf:Hj (Di t).kids [a.kind,b.kind] 0=some m) (ha:a.kind≠0) (hb:b.kind≠0):
  KOk (if (Di t).own == -1 then m else (Di t).own) (Id t a b):=by
 have hcmp:∀t:Str,(Fc t (Ss a b)).2=true→Di t=⟨[-1, -1],3⟩→Hj (Di t).kids [a.kind,b.kind] 0=some m→KOk (if (Di t).own == -1 then m else (Di t).own) (Id t a b):=fun t h1 h2 hf=>by
  rw [h2] at hf ⊢
  have:=jx hf rfl
  have e:a.kind=b.kind:=this.2.2 ha hb
  unfold Id
  rw [h1,if_pos rfl,e]
  simp only [bne_self_eq_false,Ag,if_false]
  exact .val rfl
 have har:∀t:Str,(Fc t (Ss a b)).2=false→(t==[38])=false→Di t=⟨[1,1],1⟩→Hj (Di t).kids [a.kind,b.kind] 0=some m→KOk (if (Di t).own == -1 then m else (Di t).own) (Id t a b):=fun t h1 h2 h3 hf=>by
  rw [h3] at hf ⊢
  have:=AB0 rfl rfl (by decide) rfl rfl (by decide) hf
  unfold Id
  rw [h1,h2,show By [a,b] [1,1]=true by simp [By];omega]
  exact KOk.whole (AB1 _ _ _)
 simp only [Bu,I3,or_false] at ht
 rcases ht with rfl|rfl|rfl|rfl|rfl|rfl|rfl|rfl|rfl|rfl|rfl|rfl
 ·exact zf
 ·exact zf
 ·exact zf
 ·exact zf
 ·exact zf
 ·exact zf
 ·exact ADu
 ·exact ADu
 ·have h3:Di [38]=⟨[2,2],2⟩:=rfl
  rw [h3] at hf ⊢
  have:=AB0 rfl rfl (by decide) rfl rfl (by decide) hf
  exact ANe (by omega) (by omega)
 ·exact ADu
 ·exact ADu
 exact ADu
theorem jy {r:Rs} (h:KOk 3 r):B9 r=r:=by
 unfold B9
 split
 ·rename_i e
  simp only [As,beq_iff_eq,bne_iff_ne] at e
  have:=h.kind e.1.1
  omega
 rfl
theorem wz {s:Val} {a b:Rs} (ha:KOk 3 a) (hb:KOk 3 b):KOk 3 (Gp s a b):=by
 unfold Gp
 rw [jy ha,jy hb]
 split
 ·exact ha
 rename_i h1
 split
 ·exact hb
 simp only [Co,bne_iff_ne,not_or,Decidable.not_not] at h1
 exact ⟨fun _=>ha.kind h1.1,fun h=>absurd rfl h⟩
theorem Kb {t:Str} {n:Nat} (h:Cc t=(n:Int)):(t=[108,101,110]∧n=1)∨(t=[115,116,114]∧n=1)∨(t=[110,117,109]∧n=1)∨(t=C6∧n=1)∨(t=P9∧n=2)∨(t=[108,101,102,116]∧n=2)∨(t=[114,105,103,104,116]∧n=2)∨(t=ifW∧n=3):=by
 by_cases hm:t∈arityList.map (·.1)
 ·have ha:∀s∈arityList.map (·.1),(s=[108,101,110]∧Cc s=1)∨(s=[115,116,114]∧Cc s=1)∨(s=[110,117,109]∧Cc s=1)∨(s=C6∧Cc s=1)∨(s=P9∧Cc s=2)∨(s=[108,101,102,116]∧Cc s=2)∨(s=[114,105,103,104,116]∧Cc s=2)∨(s=ifW∧Cc s=3):=by
   have:((arityList.map (·.1)).all fun s=>decide ((s=[108,101,110]∧Cc s=1)∨(s=[115,116,114]∧Cc s=1)∨(s=[110,117,109]∧Cc s=1)∨(s=C6∧Cc s=1)∨(s=P9∧Cc s=2)∨(s=[108,101,102,116]∧Cc s=2)∨(s=[114,105,103,104,116]∧Cc s=2)∨(s=ifW∧Cc s=3)))=true:=by kernel_rfl
   exact fun s hs=>of_decide_eq_true (B5.1 this s hs)
  have:=ha t hm
  rw [h] at this
  rcases this with ⟨e,h2⟩|⟨e,h2⟩|⟨e,h2⟩|⟨e,h2⟩|⟨e,h2⟩|⟨e,h2⟩|⟨e,h2⟩|⟨e,h2⟩
  ·exact .inl ⟨e,by omega⟩
  ·exact .inr (.inl ⟨e,by omega⟩)
  ·exact .inr (.inr (.inl ⟨e,by omega⟩))
  ·exact .inr (.inr (.inr (.inl ⟨e,by omega⟩)))
  ·exact .inr (.inr (.inr (.inr (.inl ⟨e,by omega⟩))))
  ·exact .inr (.inr (.inr (.inr (.inr (.inl ⟨e,by omega⟩)))))
  ·exact .inr (.inr (.inr (.inr (.inr (.inr (.inl ⟨e,by omega⟩))))))
  exact .inr (.inr (.inr (.inr (.inr (.inr (.inr ⟨e,by omega⟩))))))
 have h1:Cc t = -1:=by
  unfold Cc
  rw [Na.2 fun p hp=>by
   simp only [beq_iff_eq]
   rintro rfl
   exact hm (D6.2 ⟨p,hp,rfl⟩)]
 omega
theorem Xy {k:List Expr} (h:k.length=1):∃a,k=[a]:=by match k,h with|[a],_=>exact ⟨a,rfl⟩
theorem R6 {k:List Expr} (h:k.length=2):∃a b,k=[a,b]:=by match k,h with|[a,b],_=>exact ⟨a,b,rfl⟩
theorem AB2 {k:List Expr} (h:k.length=3):∃a b c,k=[a,b,c]:=by match k,h with|[a,b,c],_=>exact ⟨a,b,c,rfl⟩
theorem O0 {vs:List Val} {k:Int} (h:vs.map (·.kind)=[k]):∃v,vs=[v]∧v.kind=k:=by
 match vs,h with
 | [v],h=>exact ⟨v,rfl,by simpa using h⟩
theorem Vx {vs:List Val} {k k':Int} (h:vs.map (·.kind)=[k,k']):∃v v',vs=[v,v']∧v.kind=k∧v'.kind=k':=by
 match vs,h with
 | [v,v'],h=>exact ⟨v,v',rfl,by simpa using h⟩
theorem x5 {c:List Col} {l:List Val} (hl:F9 c l=true):∀(n:Nat) (e:Expr),sizeE e≤n→Et E9 e=true→(Bt c e).2=0→KOk (Bt c e).1 (Al c l e)
 | 0,e,hn,_,_=>by have:=Kv e;omega
 | n+1,e,hn,hnd,hk=>by
  have hnd0:=hnd
  rw [Jk,As] at hnd0
  have ih:∀y∈e.kids,(Bt c y).2=0→KOk (Bt c y).1 (Al c l y):=fun y hy h0=>x5 hl n y (AA9 hn hy) ((F3 _ _).1 hnd0.2 y hy) h0
  obtain ⟨r1,r2,r3⟩:=row_iff.1 hl
  have hNC:=Oo hnd0.1
  cases hNC with
  | val v hp h0 =>
   have:Bt c (Rb v)=(v.kind,0):=by rw [Rb,Bt];rfl
   rw [this]
   exact .val rfl
  | name t ht =>
   have e1:Bt c (Dt t)=Ro c t:=by rw [Dt,Bt];rfl
   have e2:Al c l (Dt t)=Lf c l t:=by rw [Al,Dt,G6];rfl
   rw [e1] at hk ⊢
   rw [e2]
   unfold Ro at hk ⊢
   unfold Lf
   split at hk
   ·cases hk
   rename_i hf
   rw [if_neg hf,if_neg hf]
   obtain ⟨j,z,hj,hz,hfj⟩:=find_mem.1 hf
   have hjl:j<l.length:=by rw [r2];exact (Ad.1 hj).1
   have:=r3 j l[j] z (Aa hjl) hj
   rw [hfj,Int.toNat_natCast,D4,D4,hj,Aa hjl]
   exact ⟨fun _=>by show l[j].kind=z.kind∨l[j].kind=0;omega,fun h=>absurd rfl h⟩
  | neg a =>
   rw [Mw] at hk ⊢
   obtain ⟨hky,m,hf,ho⟩:=R5 hk rfl rfl
   rw [ho,Al,G6,M2]
   have hs:Jt 3 []=⟨[1],1⟩:=rfl
   rw [hs] at hf ⊢
   have hm:=AAz rfl rfl (by decide) hf
   show KOk 1 (I9 (B0 3 []) ([a].map (G6 B0 c l)))
   refine Wu (g:=fun y=>(Bt c y).1) (fun y hy=>ih y hy (hky y hy)) (fun vs hvs hnz=>?_)
   obtain ⟨v,rfl,hv⟩:=O0 hvs
   have hv0:=hnz v (by simp)
   have hv1:v.kind=1:=by omega
   unfold B0
   rw [show By [v] [1]=true by simp [By,hv1]]
   exact KOk.whole (AJd _ _)
  | no a =>
   rw [Mw] at hk ⊢
   obtain ⟨hky,m,hf,ho⟩:=R5 hk rfl rfl
   rw [ho,Al,G6,M2]
   have hs:Jt 4 []=⟨[3],3⟩:=rfl
   rw [hs] at hf ⊢
   have hm:=AAz rfl rfl (by decide) hf
   show KOk 3 (I9 (B0 4 []) ([a].map (G6 B0 c l)))
   refine Wu (g:=fun y=>(Bt c y).1) (fun y hy=>ih y hy (hky y hy)) (fun vs hvs hnz=>?_)
   obtain ⟨v,rfl,hv⟩:=O0 hvs
   have hv0:=hnz v (by simp)
   have hv1:v.kind=3:=by omega
   unfold B0
   rw [show By [v] [3]=true by simp [By,hv1]]
   exact KOk.val rfl
  | bin t a b ht =>
   rw [Mv] at hk ⊢
   obtain ⟨hky,m,hf,ho⟩:=R5 hk rfl rfl
   have ha:=ih a (by simp [Mv,Expr.kids]) (hky a (by simp))
   have hb:=ih b (by simp [Mv,Expr.kids]) (hky b (by simp))
   rw [ho,Al,G6,M2]
   rw [show Jt 5 t=Di t from rfl] at hf ⊢
   have hmem:t∈levels.flatten:=by
    rcases nk t with h|h
    ·exact h
    omega
   by_cases h1:(t==orW)=true
   ·have e:t=orW:=by simpa using h1
    subst e
    rw [show Di orW=⟨[3,3],3⟩ from rfl] at hf ⊢
    have hm:((Bt c a).1=0∨(Bt c a).1=3)∧((Bt c b).1=0∨(Bt c b).1=3):=AB0 rfl rfl (by decide) rfl rfl (by decide) hf
    exact wz (ha.mono (by omega)) (hb.mono (by omega))
   by_cases h2:(t==Rc)=true
   ·have e:t=Rc:=by simpa using h2
    subst e
    rw [show Di Rc=⟨[3,3],3⟩ from rfl] at hf ⊢
    have hm:((Bt c a).1=0∨(Bt c a).1=3)∧((Bt c b).1=0∨(Bt c b).1=3):=AB0 rfl rfl (by decide) rfl rfl (by decide) hf
    exact wz (ha.mono (by omega)) (hb.mono (by omega))
   have e:J8 B0 c l 5 t noV ([a,b].map (G6 B0 c l))=I9 (B0 5 t) ([a,b].map (G6 B0 c l)):=by
    unfold J8
    rw [show (t==orW)=false by simpa using h1,show (t==Rc)=false by simpa using h2]
    rfl
   rw [e]
   have hm12:t∈[[61],[33,61],[60],[60,61],[62],[62,61],[43],[45],[38],[42],[47],[37]]:=by
    have h1':t≠orW:=by simpa using h1
    have h2':t≠Rc:=by simpa using h2
    simp only [levels,List.flatten_cons,List.flatten_nil,Fe,F5,Ht,Bu,I3,or_false] at hmem ⊢
    rcases hmem with h|h|h
    ·exact absurd h h1'
    ·exact absurd h h2'
    exact h
   refine Wu (g:=fun y=>(Bt c y).1) (fun y hy=>ih y hy (hky y hy)) (fun vs hvs hnz=>?_)
   obtain ⟨v,v',rfl,hv,hv'⟩:=Vx hvs
   have hf':Hj (Di t).kids [v.kind,v'.kind] 0=some m:=by rw [hv,hv'];exact hf
   exact AS1 hm12 hf' (hnz v (by simp)) (hnz v' (by simp))
  | call t k ht =>
   obtain ⟨hky,m,hf,ho⟩:=R5 hk rfl rfl
   rw [ho,Al,G6,M2]
   rw [show Jt 6 t=Dy t from rfl] at hf ⊢
   rcases Kb ht with ⟨rfl,hn1⟩|⟨rfl,hn1⟩|⟨rfl,hn1⟩|⟨rfl,hn1⟩|⟨rfl,hn1⟩|⟨rfl,hn1⟩|⟨rfl,hn1⟩|⟨rfl,hn1⟩
   ·obtain ⟨a,rfl⟩:=Xy hn1
    have hs:Dy [108,101,110]=⟨[2],1⟩:=rfl
    rw [hs] at hf ⊢
    have hm:=AAz rfl rfl (by decide) hf
    show KOk 1 (I9 (B0 6 [108,101,110]) ([a].map (G6 B0 c l)))
    refine Wu (g:=fun y=>(Bt c y).1) (fun y hy=>ih y hy (hky y hy)) (fun vs hvs hnz=>?_)
    obtain ⟨v,rfl,hv⟩:=O0 hvs
    have hv0:=hnz v (by simp)
    have hv1:v.kind=2:=by omega
    show KOk 1 (H9 [108,101,110] v)
    unfold H9
    rw [hv1]
    exact KOk.val rfl
   ·obtain ⟨a,rfl⟩:=Xy hn1
    have hs:Dy [115,116,114]=⟨[1],2⟩:=rfl
    rw [hs] at hf ⊢
    have hm:=AAz rfl rfl (by decide) hf
    show KOk 2 (I9 (B0 6 [115,116,114]) ([a].map (G6 B0 c l)))
    refine Wu (g:=fun y=>(Bt c y).1) (fun y hy=>ih y hy (hky y hy)) (fun vs hvs hnz=>?_)
    obtain ⟨v,rfl,hv⟩:=O0 hvs
    have hv0:=hnz v (by simp)
    have hv1:v.kind=1:=by omega
    show KOk 2 (H9 [115,116,114] v)
    unfold H9
    rw [hv1]
    exact KOk.val rfl
   ·obtain ⟨a,rfl⟩:=Xy hn1
    have hs:Dy [110,117,109]=⟨[2],1⟩:=rfl
    rw [hs] at hf ⊢
    have hm:=AAz rfl rfl (by decide) hf
    show KOk 1 (I9 (B0 6 [110,117,109]) ([a].map (G6 B0 c l)))
    refine Wu (g:=fun y=>(Bt c y).1) (fun y hy=>ih y hy (hky y hy)) (fun vs hvs hnz=>?_)
    obtain ⟨v,rfl,hv⟩:=O0 hvs
    have hv0:=hnz v (by simp)
    have hv1:v.kind=2:=by omega
    show KOk 1 (H9 [110,117,109] v)
    unfold H9
    rw [hv1]
    exact KOk.whole (AJe _)
   ·obtain ⟨a,rfl⟩:=Xy hn1
    have ha:=ih a (by simp [Expr.kids]) (hky a (by simp))
    have hs:Dy C6=⟨[-2],3⟩:=rfl
    rw [hs]
    show KOk 3 (Ea C6 (Al c l a) (noV,0) (noV,0))
    unfold Ea
    rw [show (C6==ifW)=false from rfl,show (C6==C6)=true from rfl]
    simp only [Ag,if_false,if_true]
    split
    ·rename_i h;exact .wrong (ha.err (by simpa using h))
    exact .val rfl
   ·obtain ⟨a,b,rfl⟩:=R6 hn1
    have ha:=ih a (by simp [Expr.kids]) (hky a (by simp))
    have hb:=ih b (by simp [Expr.kids]) (hky b (by simp))
    have hs:Dy P9=⟨[-1, -1], -1⟩:=rfl
    rw [hs] at hf ⊢
    have hm:((Bt c a).1=0∨(Bt c a).1=m)∧((Bt c b).1=0∨(Bt c b).1=m)∧((Bt c a).1≠0→(Bt c b).1≠0→(Bt c a).1=(Bt c b).1):=jx hf rfl
    show KOk m (Ea P9 (Al c l a) (Al c l b) (noV,0))
    unfold Ea
    rw [show (P9==ifW)=false from rfl,show (P9==C6)=false from rfl]
    simp only [Ag,if_false]
    split
    ·rename_i h;exact .wrong (ha.err (by simpa using h))
    rename_i h
    split
    ·rename_i h2
     have:=ha.kind (by simpa using h)
     have h2:(Al c l a).1.kind≠0:=by simpa using h2
     exact .val (by omega)
    exact hb.mono (by omega)
   ·obtain ⟨a,b,rfl⟩:=R6 hn1
    have hs:Dy [108,101,102,116]=⟨[2,1],2⟩:=rfl
    rw [hs] at hf ⊢
    have hm:=AB0 rfl rfl (by decide) rfl rfl (by decide) hf
    show KOk 2 (I9 (B0 6 [108,101,102,116]) ([a,b].map (G6 B0 c l)))
    refine Wu (g:=fun y=>(Bt c y).1) (fun y hy=>ih y hy (hky y hy)) (fun vs hvs hnz=>?_)
    obtain ⟨v,v',rfl,hv,hv'⟩:=Vx hvs
    have hv0:=hnz v (by simp)
    have hv0':=hnz v' (by simp)
    have hv1:v.kind=2:=by omega
    have hv1':v'.kind=1:=by omega
    unfold B0
    rw [show By [v,v'] [2,1]=true by simp [By,hv1,hv1']]
    exact KOk.val rfl
   ·obtain ⟨a,b,rfl⟩:=R6 hn1
    have hs:Dy [114,105,103,104,116]=⟨[2,1],2⟩:=rfl
    rw [hs] at hf ⊢
    have hm:=AB0 rfl rfl (by decide) rfl rfl (by decide) hf
    show KOk 2 (I9 (B0 6 [114,105,103,104,116]) ([a,b].map (G6 B0 c l)))
    refine Wu (g:=fun y=>(Bt c y).1) (fun y hy=>ih y hy (hky y hy)) (fun vs hvs hnz=>?_)
    obtain ⟨v,v',rfl,hv,hv'⟩:=Vx hvs
    have hv0:=hnz v (by simp)
    have hv0':=hnz v' (by simp)
    have hv1:v.kind=2:=by omega
    have hv1':v'.kind=1:=by omega
    unfold B0
    rw [show By [v,v'] [2,1]=true by simp [By,hv1,hv1']]
    exact KOk.val rfl
   obtain ⟨a,b,d,rfl⟩:=AB2 hn1
   have ha:=ih a (by simp [Expr.kids]) (hky a (by simp))
   have hb:=ih b (by simp [Expr.kids]) (hky b (by simp))
   have hd:=ih d (by simp [Expr.kids]) (hky d (by simp))
   have hs:Dy ifW=⟨[3, -1, -1], -1⟩:=rfl
   rw [hs] at hf ⊢
   have hf':Hj [3] [(Bt c a).1] 0=some 0∧Hj [-1, -1] [(Bt c b).1,(Bt c d).1] 0=some m:=by
    simp only [C5,Ef] at hf
    rw [Hj] at hf
    simp only [show ((3:Int) == -2)=false from rfl,show ((3:Int) == -1)=false from rfl,Ag,if_false] at hf
    split at hf
    ·rename_i hm
     refine ⟨?_,hf⟩
     rw [Hj]
     simp only [show ((3:Int) == -2)=false from rfl,show ((3:Int) == -1)=false from rfl,Ag,if_false,hm,if_true]
     rw [Hj]
    cases hf
   have hm1:=AAz rfl rfl (by decide) hf'.1
   have hm:=jx hf'.2 rfl
   show KOk m (Ea ifW (Al c l a) (Al c l b) (Al c l d))
   unfold Ea
   rw [show (ifW==ifW)=true from rfl,if_pos rfl,jy (ha.mono (by omega))]
   split
   ·rename_i h;exact .wrong (ha.err (by simpa using h))
   split
   ·exact hb.mono (by omega)
   exact hd.mono (by omega)
set_option maxRecDepth 4000
theorem Vy {e:Expr} (h:E9 e=true):(e.op=5→e.kids.length=2)∧(e.op=3∨e.op=4→e.kids.length=1)∧(e.op=6→Cc e.text=(e.kids.length:Int))∧(e.op=1∨e.op=2∨e.op=3∨e.op=4∨e.op=5∨e.op=6):=by
 cases Oo h with
 | val v hp h0=>simp [Rb,Expr.op]
 | name t ht=>simp [Dt,Expr.op]
 | neg a=>simp [Mw,Expr.op,Expr.kids]
 | no a=>simp [Mw,Expr.op,Expr.kids]
 | bin t a b ht=>simp [Mv,Expr.op,Expr.kids]
 | call t k ht=>simpa [Expr.op,Expr.kids,Expr.text] using ht
theorem Ik {k:List Expr} {i:Nat} (h:i<k.length):(k.map Ab)[i]? = some (Ab (k.getD i At))∧k.getD i At∈k∧∀(f:Expr→Rs) (d:Rs),(k.map f).getD i d=f (k.getD i At):=by
 have e:k.getD i At=k[i]:=by rw [D4,Aa h];rfl
 rw [e]
 refine ⟨by simp [h],Av h,fun f d=>?_⟩
 rw [D4,Ce,Aa h]
 rfl
theorem jz {c:List Col} {l:List Val} {e:Expr} (h1:(e.op==1)=false) (h2:(e.op==2)=false) (h3:((e.op==5)&&(e.text==orW))=false) (h4:((e.op==5)&&(e.text==Rc))=false) (h5:((e.op==6)&&(((e.text==ifW) || (e.text==P9)) || (e.text==C6)))=false):Al c l e=I9 (B0 e.op e.text) (e.kids.map (Al c l)):=by
 rw [Al,U6]
 unfold J8
 rw [h1,h2,h3,h4,h5]
 rfl
theorem AJf {c:List Col} {l:List Val} (hf:∀v∈l,Fine v) {e:Expr} (hnd:Et E9 e=true) (hrg:Et L5 e=true) (hv:Et Nz e=true) (h5:((e.op==6)&&(((e.text==ifW) || (e.text==P9)) || (e.text==C6)))=false):ArgsOk e.op (e.kids.map fun y=>(Al c l y).1):=by
 rw [Jk,As] at hnd hrg hv
 obtain ⟨k5,k34,k6,_⟩:=Vy hnd.1
 refine ⟨fun h=>?_,fun h=>by rw [Am];exact k34 h,fun h=>?_,fun v hv'=>?_⟩
 ·obtain ⟨a,b,e⟩:=R6 (k5 h)
  rw [e]
  exact ⟨_,_,rfl⟩
 ·rw [Am]
  rw [h] at h5
  simp only [beq_self_eq_true,Dm,Cq,beq_eq_false_iff_ne] at h5
  rcases Kb (k6 h) with ⟨_,h⟩|⟨_,h⟩|⟨_,h⟩|⟨e,_⟩|⟨e,_⟩|⟨_,h⟩|⟨_,h⟩|⟨e,_⟩
  ·exact .inl h
  ·exact .inl h
  ·exact .inl h
  ·exact absurd e h5.2
  ·exact absurd e h5.1.2
  ·obtain ⟨a,b,e⟩:=R6 h
   rw [e]
   exact .inr ⟨_,_,rfl⟩
  ·obtain ⟨a,b,e⟩:=R6 h
   rw [e]
   exact .inr ⟨_,_,rfl⟩
  exact absurd e h5.1.1
 obtain ⟨y,hy,rfl⟩:=D6.1 hv'
 exact R0 hf y ((F3 _ _).1 hv.2 y hy) ((F3 _ _).1 hrg.2 y hy)
theorem Wv (a b d:Rs):Ea C6 a b d=Ea C6 a (noV,0) (noV,0):=by
 unfold Ea
 rw [show (C6==ifW)=false from rfl,show (C6==C6)=true from rfl]
 rfl
theorem uh {t:Str} (h:(t==ifW)=false) (a b d d':Rs):Ea t a b d=Ea t a b d':=by
 unfold Ea
 rw [h]
 rfl
theorem oh {t:Str} (h:(t==C6)=true) (a b b' d d':Rs):Ea t a b d=Ea t a b' d':=by
 have e:t=C6:=by simpa using h
 subst e
 rw [Wv,Wv a b' d']
theorem AB3 {t:Str} {k:List Expr} {f:Expr→Rs} {a:Rs} (h1:(t==C6)=false→1<k.length) (h2:(t==ifW)=true→2<k.length):Ea t a ((k.map f).getD 1 (noV,0)) ((k.map f).getD 2 (noV,0))=Ea t a (f (k.getD 1 At)) (f (k.getD 2 At)):=by
 cases hn:t==C6 with
 | true=>exact oh hn _ _ _ _ _
 | false =>
  rw [(Ik (h1 hn)).2.2]
  cases hi:t==ifW with
  | true=>rw [(Ik (h2 hi)).2.2]
  | false=>exact uh hi _ _ _ _
theorem AUt (c:List Col) (l:List Val) (hc:OkCols c) (hl:l.length=c.length) (hf:∀v∈l,Fine v):∀(n:Nat) (e:Expr),okE n e→Et E9 e=true→Et L5 e=true→Et Nz e=true→Lv c l e (Al c l e):=by
 intro n
 induction n with
 | zero=>exact fun e h=>h.elim
 | succ n ih =>
 intro e hok hnd hrg hvo Hp
 have hnd0:=hnd
 have hrg0:=hrg
 have hvo0:=hvo
 rw [Jk,As] at hnd0 hrg0 hvo0
 have hev:∀y∈e.kids,Lv c l y (Al c l y):=fun y hy=>ih y (hok.2.2 y hy) ((F3 _ _).1 hnd0.2 y hy) ((F3 _ _).1 hrg0.2 y hy) ((F3 _ _).1 hvo0.2 y hy)
 obtain ⟨k5,k34,k6,_⟩:=Vy hnd0.1
 have hev0:Al c l e=J8 B0 c l e.op e.text e.val (e.kids.map (Al c l)):=U6 _ _ _ _
 refine Ah [.cell 4 42,.tmp 5] [0,1] Tryz.func105 Tryz.ntmps105 (fun d=>?_)
 refine Z1 ?_;refine AHm ?_;refine Z18 ?_;refine Z25 ?_;refine A2 [2,3,4,7] ?_
 refine A3 (fun ht7=>?_) (fun ht7=>?_)
 ·have hm:Al c l e=(e.val,0):=by rw [hev0];unfold J8;rw [if_pos ht7]
  refine Z1 ?_;exact V3
 refine Z25 ?_;refine A2 [2,3,4,13] ?_
 refine A3 (fun ht13=>?_) (fun ht13=>?_)
 ·have hm0:Al c l e=Lf c l e.text:=by rw [hev0];unfold J8;rw [if_neg (by rw [ht7];simp),if_pos ht13]
  refine Z25 ?_;refine A9 Tryz.call46 (c46 c hc e.text _) ?_;refine A4 ?_;refine A2 [2,4,6] ?_;refine Z8 ?_;refine A2 [2,4,6,23] ?_
  refine A3 (fun ht23=>?_) (fun ht23=>?_)
  ·have hm:Al c l e=D0 9:=by rw [hm0];exact if_pos (by simpa using ht23)
   refine cn ?_;refine Z41 ?_;refine Z13 ?_;exact AOv
  have hneg:¬(Bn e.text c<0):=by simpa using ht23
  obtain ⟨j,hj,hjc⟩:=Jm hneg
  have hjl:j<l.length:=by omega
  have hm:Al c l e=(l[j],0):=by
   rw [hm0]
   unfold Lf
   rw [if_neg hneg,hj,Int.toNat_natCast,D4,Aa hjl]
   rfl
  rw [hj]
  refine No ?_
  refine A4 (h:=Ac (j) (Bi l[j]) (fun _=>Aw hjl)) (hr:=?_)
  refine A4 ?_;exact V3
 refine lz ?_;refine A2 [2,3,4,32] ?_
 refine A3 (fun ht32=>?_) (fun ht32=>?_)
 ·have h32:((e.op==5)&&(e.text==orW))=true:=ht32
  have hop:e.op=5:=by simp only [As,beq_iff_eq] at h32;exact h32.1
  have hkl:=k5 hop
  have hm:Al c l e=Gp (E4 true) (Al c l (e.kids.getD 0 At)) (Al c l (e.kids.getD 1 At)):=by rw [hev0];unfold J8;rw [if_neg (by rw [ht7];simp),if_neg (by rw [ht13];simp),if_pos h32,(Ik (by omega)).2.2,(Ik (by omega)).2.2]
  refine AQ6 ?_;refine De Tryz.call145 (zl _ _) ?_;refine De Tryz.call144 (ARx c l e (e.kids.getD 0 At) (e.kids.getD 1 At) (E4 true) _ _ (Ik (by omega)).1 (Ik (by omega)).1 (hev _ (Ik (by omega)).2.1) (hev _ (Ik (by omega)).2.1) _) ?_;refine Z88 ?_;exact V3
 have h32:((e.op==5)&&(e.text==orW))=false:=ht32
 refine lz ?_;refine A2 [2,3,4,47] ?_
 refine A3 (fun ht47=>?_) (fun ht47=>?_)
 ·have h47:((e.op==5)&&(e.text==Rc))=true:=ht47
  have hop:e.op=5:=by simp only [As,beq_iff_eq] at h47;exact h47.1
  have hkl:=k5 hop
  have hm:Al c l e=Gp (E4 false) (Al c l (e.kids.getD 0 At)) (Al c l (e.kids.getD 1 At)):=by rw [hev0];unfold J8;rw [if_neg (by rw [ht7];simp),if_neg (by rw [ht13];simp),if_neg (by rw [h32];simp),if_pos h47,(Ik (by omega)).2.2,(Ik (by omega)).2.2]
  refine AQ6 ?_;refine De Tryz.call145 (zl _ _) ?_;refine De Tryz.call144 (ARx c l e (e.kids.getD 0 At) (e.kids.getD 1 At) (E4 false) _ _ (Ik (by omega)).1 (Ik (by omega)).1 (hev _ (Ik (by omega)).2.1) (hev _ (Ik (by omega)).2.1) _) ?_;refine Z88 ?_;exact V3
 have h47:((e.op==5)&&(e.text==Rc))=false:=ht47
 refine Z25 ?_;refine Pw ?_;refine Pw ?_;refine Z7 ?_;refine Z94 ?_;refine A2 [2,3,4,62] ?_
 refine A3 (fun ht62=>?_) (fun ht62=>?_)
 ·have h62:((e.op==6)&&(((e.text==ifW) || (e.text==P9)) || (e.text==C6)))=true:=ht62
  obtain ⟨hkl,hl1,hl2⟩:0<e.kids.length∧((e.text==C6)=false→1<e.kids.length)∧((e.text==ifW)=true→2<e.kids.length):=by
   have h:=h62
   simp only [As,Co,beq_iff_eq] at h
   have ha:=k6 h.1
   rcases h.2 with (h1|h1)|h1
   ·rw [h1] at ha ⊢
    have:e.kids.length=3:=by
     have:Cc ifW=3:=by kernel_rfl
     omega
    exact ⟨by omega,fun _=>by omega,fun _=>by omega⟩
   ·rw [h1] at ha ⊢
    have:e.kids.length=2:=by
     have:Cc P9=2:=by kernel_rfl
     omega
    exact ⟨by omega,fun _=>by omega,fun h=>absurd h (by decide)⟩
   rw [h1] at ha ⊢
   have:e.kids.length=1:=by
    have:Cc C6=1:=by kernel_rfl
    omega
   exact ⟨by omega,fun h=>absurd h (by decide),fun h=>absurd h (by decide)⟩
  have hm:Al c l e=Ea e.text (Al c l (e.kids.getD 0 At)) (Al c l (e.kids.getD 1 At)) (Al c l (e.kids.getD 2 At)):=by
   rw [hev0]
   unfold J8
   rw [if_neg (by rw [ht7];simp),if_neg (by rw [ht13];simp),if_neg (by rw [h32];simp),if_neg (by rw [h47];simp),if_pos h62,(Ik hkl).2.2]
   exact AB3 hl1 hl2
  refine Z1 ?_;refine A9 Tryz.call146 (AUl c l e (e.kids.getD 0 At) (e.kids.getD 1 At) (e.kids.getD 2 At) _ _ _ (Ik (by omega)).1 (fun h=>(Ik (hl1 h)).1) (fun h=>(Ik (hl2 h)).1) (hev _ (Ik (by omega)).2.1) (fun h=>hev _ (Ik (hl1 h)).2.1) (fun h=>hev _ (Ik (hl2 h)).2.1) _) ?_;exact AHi
 have h62:((e.op==6)&&(((e.text==ifW) || (e.text==P9)) || (e.text==C6)))=false:=ht62
 have hm:=jz (c:=c) (l:=l) ht7 ht13 h32 h47 h62
 refine j6 ?_;refine A9 Tryz.call147 (AUr c l e hok.2.1 hev (fun _=>AJf hf hnd hrg hvo h62) _) ?_;refine Z0 ?_;exact rj

abbrev xo (own:Bool) (t:Str) (ks:List Expr):AObj:=.cells 62 [A5 6,Af t,A5 0,A5 0,Af [],.slice own 6 (ks.map Ab)]
theorem ANf {n:Nat} {own:Bool} {t:Str} {ks:List Expr}:ObjLow n (xo own t ks):=by
 show ∀z∈[A5 6,Af t,A5 0,A5 0,Af [],AV.slice own 6 (ks.map Ab)],Low n z
 intro z hz
 simp only [Bu,I3,or_false] at hz
 rcases hz with rfl|rfl|rfl|rfl|rfl|rfl
 all_goals first|exact Fx|simp
theorem AJg:Ew (.agg #[.int .i64 0,.string ⟨#[]⟩,.int .i64 0,.int .i64 0,.string ⟨#[]⟩,.slice none 0 0])=.agg [A5 0,Af [],A5 0,A5 0,Af [],.nil]:=rfl
attribute [go_sem] AJg
theorem gA {Hp:List AObj} {o ox:Nat} {z A B:AObj} (ho:Hp[o]? = some z) (hne:ox≠o):((Hp.set o A).set ox B)[o]? = some A:=by rw [List.getElem?_set_ne hne];exact getset ho
theorem gB {Hp:List AObj} {o ox:Nat} {z A B:AObj} (hox:Hp[ox]? = some z):((Hp.set o A).set ox B)[ox]? = some B:=by
 have:=(List.getElem?_eq_some_iff.1 hox).1
 simp [this]
theorem AG0 {Hp:List AObj} {o ox:Nat} {A A' B:AObj} (hne:ox≠o):((Hp.set o A).set ox B).set o A'=(Hp.set o A').set ox B:=by rw [List.set_comm _ _ hne,List.set_set]
theorem Sx (ks:List Expr) (x:Expr):ks.map Ab++[.agg [.v (.int .i64 x.op),.v (sv x.text),.v (.int .i64 x.val.kind),.v (.int .i64 x.val.n),.v (sv x.val.s),.slice false 6 (x.kids.map Ab)]]=(ks++[x]).map Ab:=by rw [List.map_append,List.map_cons,List.map_nil,Ax x]
theorem AUu (l:List Tok) (S:PS) (t:Str) (Dv:Fam) (o ox:Nat) (Hp:List AObj) (hne:ox≠o) (ho:Hp[o]? = some (pr l S)) (hox:Hp[ox]? = some (xo true t [])) (hi:S.i<l.length) (hl:TokEnd l) (hll:l.length≤1048576) (hf:Ft l S.nest Dv.ei) (hcf:PC 213 l Dv.ei S.nest):ACall Tryz.prog 300 [.ptr ox 0,.ro [.ptr o 0]] Hp (fun r H'=>r=Ab (.mk 6 t noV (Ju l Dv.ei S).1)∧H'=(Hp.set o (pr l (Ju l Dv.ei S).2)).set ox (xo true t (Ju l Dv.ei S).1)):=by
 have hoxl:=(List.getElem?_eq_some_iff.1 hox).1
 have hol:=(List.getElem?_eq_some_iff.1 ho).1
 refine ACall.body [.cell 2 62] [0,1] Tryz.func300 Tryz.ntmps300 (fun d=>?_)
 refine Z37 ?_;refine cu ?_
 refine W.drawT [0,1,0,4,3,0,63,127,255,127,639] [1,3] [.q 1 [] [0],.s [4] (some 0) [] [],.q 1 [] [1],.s [6] (some 1) [] [],.q 2 [] []] (fun B=>(Hp.set o (if B 1=true then pr l (Dv.ei S).2 else pr l S)).set ox (if B 0=true then xo false t [] else xo true t [])) (fun _=>[Ni]) Ai (by kernel_rfl) (by simp only [Bool.false_eq_true,if_false];rw [Jh ho,Jh hox]) rfl (fun B=>by simp) ?_
 apply Y.q
 ·intro B hT hF
  exact Yo
 case hTF=>decide
 refine Y.loadUpT (o:=ox) (t':=62) (cs:=[A5 6,Af t,A5 0,A5 0,Af [],.slice true 6 ([].map Ab)]) (cs':=[A5 6,Af t,A5 0,A5 0,Af [],.slice false 6 ([].map Ab)]) Tryz.isAgg52 (fun B hB=>⟨by simp only [hB];exact gB hox,by simp [upd,List.set_set]<;>rfl,rfl⟩) ?_
 apply Y.q
 ·intro B hT hF
  exact Yo
 case hTF=>decide
 refine Y.callUp (r:=Ab (Dv.ei S).1) (o:=o) (x0:=pr l S) (x:=pr l (Dv.ei S).2) Tryz.call213 (fun B hT hF hB=>⟨by simp only [hB];exact gA ho hne,?_,rfl,Du,?_⟩) ?_
 ·simp only [upd,hB,Nat.reduceEqDiff,if_false,if_true,Bool.false_eq_true]
  exact (AG0 hne).symm
 ·simp only [hB]
  exact hcf o _ S (Ar (gA ho hne)) hi rfl
 apply Y.q
 ·intro B hT hF
  exact AHc
 case hTF=>decide
 refine Y.appendPut (tn:=[1,3]) (U:=(Hp.set o (pr l (Dv.ei S).2)).set ox (xo false t [])) (O:=[Ni]) (o:=ox) (t':=62) (cs:=[A5 6,Af t,A5 0,A5 0,Af [],.slice false 6 ([].map Ab)]) (by kernel_rfl) jU Tryz.type62 Tryz.sizeOf62 Tryz.sizeOf52 jU (Ar (gB hox)) ?_ ?_ ?_ (hfsz:=Tryz.sizeOf52)
 ·simp [Tryz.t62]
 ·simp [Tryz.t62]
 refine R.go ?_
 refine R.storeUpT jS (gB hox) ?_ ?_
 ·first|(rw [Sx];exact Fx)|(have:=Fx (n:=((Hp.set o (pr l (Dv.ei S).2)).set ox (xo false t [])).length) (k:=6) (o:=true) (l:=[(Dv.ei S).1]);simp only [List.map_cons,List.map_nil,Ax] at this;exact this)
 refine cu ?_;refine W.seq ?_
 refine AW.loopC (α:=List Expr×PS) (fun r=>⟨34,A6 0 (.ptr ox 0) (A6 1 (.ro [.ptr o 0]) (A6 2 (.ptr (oid Hp.length 0) 0) (fun _=>.any))),(Hp.set o (pr l r.2)).set ox (xo true t r.1),[Ni],[],none⟩) (fun r=>ArgsAt l Dv.ei S r) (fun r=>l.length-r.2.i) (([(Dv.ei S).1],(Dv.ei S).2)) (.start (hf S hi rfl)) (StLe.of_eq (by simp [List.set_set,xo,Ax])) rfl (fun r hx=>?_)
 refine Z50 ?_
 refine R.go (h:=Q.loadUp (gA ho hne)) (hr:=?_)
 refine Sf ?_;refine G.call Tryz.call258 (fun hB=>nh l r.2 aa o _ (Ar (gA ho hne)) hx.fact.lt hl (by decide)) ?_;refine R.go ?_;refine R.fin [0,1,2,21] ?_
 refine W.cond (fun ht21=>?_) (fun ht21=>?_)
 ·have hon:=hx.on hl ht21 hf
  have hle:=hon.2.1.le
  have hlt0:=hx.fact.lt
  refine ADl ?_;refine Z2 ?_;refine R.callUp Tryz.call259 (gA ho hne) (by simp) Du (AF1 l r.2 o _ (Ar (gA ho hne)) hx.fact.lt hll) ?_;refine cu ?_
  refine W.drawT0 [0,1,0,4,3,0,63,127,255,127,639] [1,3] [.q 1 [] [0],.s [25] (some 0) [] [],.q 1 [] [1],.s [27] (some 1) [] [],.q 2 [] []] (fun B=>(Hp.set o (if B 1=true then pr l (Dv.ei (Au r.2)).2 else pr l (Au r.2))).set ox (if B 0=true then xo false t r.1 else xo true t r.1)) (fun _=>[Ni]) Ai (by kernel_rfl) (by simp only [Bool.false_eq_true,if_false];exact (AG0 hne).symm) rfl (fun B=>by simp) ?_
  apply Y.q
  ·intro B hT hF
   exact Yo
  case hTF=>decide
  refine Y.loadUpT (o:=ox) (t':=62) (cs:=[A5 6,Af t,A5 0,A5 0,Af [],.slice true 6 (r.1.map Ab)]) (cs':=[A5 6,Af t,A5 0,A5 0,Af [],.slice false 6 (r.1.map Ab)]) Tryz.isAgg52 (fun B hB=>⟨by simp only [hB];exact gB hox,by simp [upd,List.set_set]<;>rfl,rfl⟩) ?_
  apply Y.q
  ·intro B hT hF
   exact Yo
  case hTF=>decide
  refine Y.callUp (r:=Ab (Dv.ei (Au r.2)).1) (o:=o) (x0:=pr l (Au r.2)) (x:=pr l (Dv.ei (Au r.2)).2) Tryz.call213 (fun B hT hF hB=>⟨by simp only [hB];exact gA ho hne,?_,rfl,Du,?_⟩) ?_
  ·simp only [upd,hB,Nat.reduceEqDiff,if_false,if_true,Bool.false_eq_true]
   exact (AG0 hne).symm
  ·simp only [hB]
   exact hcf o _ (Au r.2) (Ar (gA ho hne)) hon.1 hx.fact.nest
  apply Y.q
  ·intro B hT hF
   exact AHc
  case hTF=>decide
  refine Y.appendPut (tn:=[1,3]) (U:=(Hp.set o (pr l (Dv.ei (Au r.2)).2)).set ox (xo false t r.1)) (O:=[Ni]) (o:=ox) (t':=62) (cs:=[A5 6,Af t,A5 0,A5 0,Af [],.slice false 6 (r.1.map Ab)]) (by kernel_rfl) jU Tryz.type62 Tryz.sizeOf62 Tryz.sizeOf52 jU (Ar (gB hox)) ?_ ?_ ?_ (hfsz:=Tryz.sizeOf52)
  ·have:=hx.fact.len;have:=hx.fact.lt;simp only [List.length_map,Tryz.t62];omega
  ·have:=hx.fact.len;have:=hx.fact.lt;simp only [List.length_map,Tryz.t62];omega
  refine R.go ?_
  refine R.storeUpT jS (gB hox) ?_ ?_
  ·first|(rw [Sx];exact Fx)|(have:=Fx (n:=((Hp.set o (pr l (Dv.ei S).2)).set ox (xo false t [])).length) (k:=6) (o:=true) (l:=[(Dv.ei S).1]);simp only [List.map_cons,List.map_nil,Ax] at this;exact this)
  refine cu ?_;refine K.blN ?_
  refine K.lpN (r.1++[(Dv.ei (Au r.2)).1],(Dv.ei (Au r.2)).2) hon.2.2 (by show l.length-(Dv.ei (Au r.2)).2.i<l.length-r.2.i;have:r.2.i+1≤(Dv.ei (Au r.2)).2.i:=hle;omega) (StCut.of_eq ?_)
  simp only [show Tryz.t62.size=6 from rfl,Sx,List.set_set]
 have hout:=hx.out (by rw [ht21];simp)
 refine z3 ?_
 refine R.go (h:=Q.loadUpN (gB hox)) (hr:=?_)
 refine Z16 ?_;exact K.fin (V.one (V.cellN jA jS)) ⟨by rw [hout,jv];rfl,by rw [hout]⟩ (hlow:=by have:=B7 Hp.length (.mk 6 t noV r.1);rw [jv] at this;simpa using this)

/-- within, with the function that gathers a call's kids. -/
theorem AS2 (l:List Tok) (S:PS) (a:Int) (t:Str) (Dv:Fam) (o:Nat) (Hp:List AObj) (A0 A1:AObj) (l0:ObjLow 0 A0) (ho:Hp[o]? = some (pr l S)) (hi:S.i<l.length) (hl:TokEnd l) (hll:l.length≤1048576) (hnl:S.nest≤30) (hd:DeepC l Dv S.nest):
  ACall Tryz.prog 277 [.ptr o 0,A5 a,.fn (.func 300) [] [.ptr (oid Hp.length 2) 0,.ro [.ptr o 0]]] (Hp++[A0,A1,xo true t []]) (fun r H'=>r=Ab (if S.nest=30 then At else .mk 6 t noV (Wp l a Dv.ei S).1)∧H'=Hp.set o (pr l (Wp l a Dv.ei S).2)++[A0,A1,xo true t (Wp l a Dv.ei S).1]):=by
 have hlt:=(Ad.1 ho).1
 have ho':(Hp++[A0,A1,xo true t []])[o]? = some (pr l S):=Ar ho
 by_cases h30:S.nest=30
 ·refine (AIj l S a 300 [] [.ptr (oid Hp.length 2) 0,.ro [.ptr o 0]] At (E5 S) o (Hp++[A0,A1,xo true t []]) ((Hp++[A0,A1,xo true t []]).set o (pr l (E5 S))) ho' (by omega) Tryz.call300 (by simp) (getset ho') rfl (fun h=>h) (fun h=>absurd h30 h)).mono fun r H' h=>?_
  have e:Wp l a Dv.ei S=([],Fb 18 a S):=if_pos (by rw [h30];rfl)
  rw [e,if_pos h30]
  obtain ⟨h1,h2⟩:=h.1 h30
  exact ⟨h1,by rw [h2,Lk _ _ hlt]⟩
 have hq:=af (S:=E5 S) hl hi (hd.ei h30).1
 refine (AIj l S a 300 [] [.ptr (oid Hp.length 2) 0,.ro [.ptr o 0]] (.mk 6 t noV (Ju l Dv.ei (E5 S)).1) (Ju l Dv.ei (E5 S)).2 o (Hp++[A0,A1,xo true t []]) (Hp.set o (pr l (Ju l Dv.ei (E5 S)).2)++[A0,A1,xo true t (Ju l Dv.ei (E5 S)).1]) ho' (by omega) Tryz.call300 (by simp) (Ar (getset ho)) hq.nest (fun h y hy=>?_) (fun _ own=>?_)).mono fun r H' h=>?_
 ·rw [Lk _ _ hlt] at h
  rcases Eo.1 hy with hy|hy
  ·rcases My hy with h1|h1
   ·obtain ⟨i,hi',rfl⟩:=Qh h1
    by_cases hio:i=o
    ·subst hio
     have:Hp[i]=pr l S:=by rw [Aa hi'] at ho;injection ho
     rw [this];exact Du
    refine h _ (Xk _ ?_)
    rw [v0]
    exact ⟨i,by rw [Ed (Ne.symm hio),Aa hi']⟩
   rw [h1];exact Du
  simp only [Bu,I3,or_false] at hy
  rcases hy with rfl|rfl|rfl
  ·exact h _ (T8 _ (by simp))
  ·exact h _ (T8 _ (by simp))
  exact ANf
 ·have hoid:oid Hp.length 2≠o:=by unfold oid;omega
  have e1:(Hp++[A0,A1,xo true t []]).set o (pr l (E5 S))++own=(Hp.set o (pr l (E5 S))++[A0,A1,xo true t []])++own:=by rw [Lk _ _ hlt]
  rw [e1]
  have g1:((Hp.set o (pr l (E5 S))++[A0,A1,xo true t []])++own)[o]? = some (pr l (E5 S)):=Ar (Ar (getset ho))
  have g2:((Hp.set o (pr l (E5 S))++[A0,A1,xo true t []])++own)[oid Hp.length 2]? = some (xo true t []):=Ar (by
   have:=C0 (U:=Hp.set o (pr l (E5 S))) (O:=[A0,A1,xo true t []]) (n:=2)
   rw [Dx] at this
   exact this)
  refine (AUu l (E5 S) t Dv o (oid Hp.length 2) _ hoid g1 g2 hi hl hll (hd.ei h30).1 (hd.ei h30).2).mono fun r H' h=>⟨h.1,h.2.trans ?_⟩
  rw [C9,Lk _ _ (by simpa using hlt),E0]
  have:=Hm (U:=Hp.set o (pr l (Ju l Dv.ei (E5 S)).2)) (O:=[A0,A1,xo true t []]++own) (n:=2) (x:=xo true t (Ju l Dv.ei (E5 S)).1)
  rw [Dx] at this
  rw [this]
  simp
 have e:Wp l a Dv.ei S=((Ju l Dv.ei (E5 S)).1,eu (Ju l Dv.ei (E5 S)).2):=if_neg (by
  show ¬(((S.nest:Int)==30)=true)
  simp
  omega)
 rw [e,if_neg h30]
 obtain ⟨h1,h2⟩:=h.2 h30
 exact ⟨h1,by rw [h2,Lk _ _ (by simpa using hlt),E0]⟩
theorem AUv (l:List Tok) (S:PS) (Dv:Fam) (t:Tok) (o:Nat) (Hp:List AObj) (ho:Hp[o]? = some (pr l S)) (hi:(Au S).i<l.length) (hl:TokEnd l) (hll:l.length≤1048576) (hnl:S.nest≤30) (hd:DeepC l Dv S.nest):ACall Tryz.prog 298 [.ptr o 0,Mm t] Hp (fun r H'=>r=Ab (Jv l Dv t S).1∧H'=Hp.set o (pr l (Jv l Dv t S).2)):=by
 have hi0:S.i<l.length:=by have:S.i+1<l.length:=hi;omega
 have hol:=(Ad.1 ho).1
 have hkf:KFact l (Au S) (El l Dv S):=ag hl _ hi (fun h=>(hd.ei h).1)
 refine Ah [.cell 4 62] [0,1] Tryz.func298 Tryz.ntmps298 (fun d=>?_)
 refine Z1 ?_;refine Mj ?_;refine Yv ?_;refine Z1 ?_;refine A9 Tryz.call113 (AMl t.text _) ?_;refine A4 ?_;refine cp ?_;refine Z8 ?_;refine A2 [2,3,4,5,12] ?_
 refine A3 (fun ht12=>?_) (fun ht12=>?_)
 ·have hlt0:Cc t.text<0:=by simpa using ht12
  have e:Jv l Dv t S=(At,Fb 9 t.at_ S):=if_pos hlt0
  refine Z19 ?_;refine E2 Tryz.call215 ho (by simp) Du (AA5 l S 9 t.at_ o _ (Ar ho)) ?_;refine Gc ?_;refine A2 [4] ?_;refine Z13 ?_;exact AQo
 have hge:¬Cc t.text<0:=by simpa using ht12
 refine Z92 ?_;refine E2 Tryz.call259 ho (by simp) Du (AF1 l S o _ (Ar ho) hi0 hll) ?_;refine Z20 ?_;refine A2 [2,3,4,5,6] ?_;refine APw ?_;refine Z20 ?_;refine A2 [2,3,4,5,6,7] ?_;refine Ec ?_;refine Sa 2 5 6 ?_;refine Z10 ?_;refine K1 ?_
 refine K2 (up':=(Hp.set o (pr l (Au S))).set o (pr l (El l Dv S).2)) (own':=[Ni,.cells 103 [A5 (Aq l S.i).kind,Af (Aq l S.i).text,A5 (Aq l S.i).at_],xo true t.text (El l Dv S).1]) Tryz.call277 (by have:=AS2 l (Au S) (Aq l S.i).at_ t.text Dv o (Hp.set o (pr l (Au S))) Ni (.cells 103 [A5 (Aq l S.i).kind,Af (Aq l S.i).text,A5 (Aq l S.i).at_]) we (getset ho) hi hl hll hnl hd;rw [Dx] at this;exact this) (by simp) (fun h=>AIl h Du) ?_
 refine A2 [2,3,4,5,7] ?_;refine Z2 ?_;refine E2 Tryz.call299 (getset (getset ho)) (by simp) Du (ARd l (El l Dv S).2 H0 o _ (Ar (getset (getset ho))) hkf.lt hll) ?_;refine A2 [2,3,4,5,7] ?_;refine Z50 ?_
 refine A4 (h:=Cm (getset (getset (getset ho)))) (hr:=?_)
 refine Z44 ?_;refine Oh ?_;refine A2 [2,3,4,7,41] ?_
 refine A3 (fun ht41=>?_) (fun ht41=>?_)
 ·have e:Jv l Dv t S=(At,Fb 8 t.at_ (H7 l H0 (El l Dv S).2)):=by
   unfold Jv
   rw [if_neg hge,if_pos (by have:=ht41;simp only [Am] at this;exact this)]
  refine Z19 ?_;refine E2 Tryz.call215 (getset (getset (getset ho))) (by simp) Du (AA5 l (H7 l H0 (El l Dv S).2) 8 t.at_ o _ (Ar (getset (getset (getset ho))))) ?_;refine Gc ?_;refine A2 [4] ?_;refine Z13 ?_;exact A8 (Ae (B8 jA jS)) ⟨by rw [e,Ax],by rw [e,E0,E0,E0]⟩ (hlow:=low_agg _)
 have e:Jv l Dv t S=(.mk 6 t.text noV (El l Dv S).1,(H7 l H0 (El l Dv S).2)):=by
  unfold Jv
  rw [if_neg hge,if_neg (by have:=ht41;simp only [Am] at this;rw [Ic] at this;exact this)]
 refine Z92 ?_;refine Gc ?_;refine Z39 ?_;exact A8 (Ae (B8 jA jS)) ⟨by rw [e,jv];rfl,by rw [e,E0,E0]⟩ (hlow:=by have:=B7 Hp.length (.mk 6 t.text noV (El l Dv S).1);rw [jv] at this;simpa using this)

theorem AB4 {l:List Tok} (hl:TokEnd l) (hll:l.length≤1048576) (n:Nat) (Dv:Fam) (hn:n≤30) (hd:DeepC l Dv n):ni l Dv n:=fun o Hp S t ho hi hS _ _=>by
 subst hS
 exact AUv l S Dv t o Hp ho hi hl hll hn hd
def Ud (l:List Val):Bool:=decide ((50:Int)<(l.length:Int)) || l.any fun v=>decide ((400:Int)<(v.s.length:Int))
theorem c21 (l:List Val) (Hp:List AObj):AFun Tryz.prog 21 [Br l] Hp (B4 (Ud l)):=by
 refine Ah [.tmp 2] [0] Tryz.func21 Tryz.ntmps21 (fun d=>?_)
 refine j4 ?_;refine A2 [0,6] ?_
 refine A3 (fun ht6=>?_) (fun ht6=>?_)
 ·rw [Am] at ht6
  have hm:Ud l=true:=by unfold Ud;rw [ht6];rfl
  exact ADb
 rw [Am] at ht6
 have hl50:l.length≤50:=by simp at ht6;omega
 refine yt ?_
 refine Az (α:=Nat) (fun x=>⟨20,A6 0 (Br l) (A6 3 (A5 (x:Nat)) (fun _=>.any)),Hp,[],[],none⟩) (fun x=>x≤l.length∧∀(j:Nat) (v:Val),j<x→l[j]? = some v→decide ((400:Int)<(v.s.length:Int))=false) (fun x=>l.length-x) (0) ⟨Ap _,fun j v h=>by omega⟩ (B2 (by simp)) rfl (fun x hx=>?_)
 refine AHh ?_
 refine A3 (fun ht10=>?_) (fun ht10=>?_)
 ·have hlt:x<l.length:=by simpa using ht10
  refine Se ?_
  refine A4 (h:=Ac (x) (Bi l[x]) (fun _=>Aw hlt)) (hr:=?_)
  refine Z70 ?_;refine A2 [0,3,19] ?_
  refine A3 (fun ht19=>?_) (fun ht19=>?_)
  ·have hm:Ud l=true:=by unfold Ud;rw [Co];exact .inr (Jx.2 ⟨l[x],Av hlt,ht19⟩)
   exact AHa
  refine Z17 ?_;refine Z52 ?_
  refine A4 (h:=Q.add64 (h1:=fun _=>by omega) (h2:=fun _=>by omega)) (hr:=?_)
  refine A4 ?_;refine Oj ?_;exact AOn
 have hxe:l.length≤x:=by simpa using ht10
 have hm:Ud l=false:=by
  unfold Ud
  rw [ht6,C7,M8]
  intro v hv
  obtain ⟨j,hj⟩:=Cf hv
  have:=hx.2 j v (by have:=(Ad.1 hj).1;omega) hj
  rw [this]
  simp
 exact ADf

structure RowAt (c:List Col) (l:List Val) (x:Nat):Prop where
 le:x≤l.length
 ok:∀(i:Nat) (v:Val) (y:Col),i<x→l[i]? = some v→c[i]? = some y→Cg v=true∧(v.kind=0∨v.kind=y.kind)
theorem RowAt.next {c:List Col} {l:List Val} {x:Nat} (h:RowAt c l x) (hl:x<l.length) (hc:x<c.length) (hb:((!(Cg l[x])) || ((l[x].kind != 0)&&(l[x].kind != c[x].kind)))=false):RowAt c l (x+1):=⟨hl,fun i v y hi hv hy=>by
 rcases Be i x with h'|h'
 ·exact h.ok i v y h' hv hy
 have e:i=x:=by omega
 subst e
 rw [Aa hl] at hv
 rw [Aa hc] at hy
 injection hv with hv
 injection hy with hy
 subst hv
 subst hy
 simp only [Cq,Jw,Y5,bne_eq_false_iff_eq] at hb
 exact ⟨hb.1,hb.2⟩⟩
theorem RowAt.bad {c:List Col} {l:List Val} {x:Nat} (hl:x<l.length) (hc:x<c.length) (hb:((!(Cg l[x])) || ((l[x].kind != 0)&&(l[x].kind != c[x].kind)))=true):F9 c l=false:=by
 cases h:F9 c l with
 | false=>rfl
 | true =>
  obtain ⟨h1,h2⟩:=(row_iff.1 h).2.2 x l[x] c[x] (Aa hl) (Aa hc)
  rw [h1] at hb
  simp only [C8,C7,As,bne_iff_ne] at hb
  omega
theorem c14 (c:List Col) (hc:OkCols c) (l:List Val) (hll:l.length≤1048576) (Hp:List AObj):AFun Tryz.prog 14 [An c,Br l] Hp (B4 (F9 c l)):=by
 refine Ah [.tmp 4] [0,1] Tryz.func14 Tryz.ntmps14 (fun d=>?_)
 refine Z61 ?_;refine Z29 ?_;refine A9 Tryz.call34 (c34 c hc _) ?_;refine Z44 ?_;refine Oh ?_;refine A2 [0,1,16] ?_
 refine A3 (fun ht16=>?_) (fun ht16=>?_)
 ·have hm:F9 c l=false:=by
   simp only [Am,Co,Jc,bne_iff_ne,ne_eq] at ht16
   unfold F9
   rcases ht16 with h|h
   ·rw [h];rfl
   rw [show (l.length==c.length)=false by simpa using (show l.length≠c.length by omega)];simp
  exact rh
 have hcl:Tz c=true∧l.length=c.length:=by
  simp only [Am,Cq,Jw,bne_eq_false_iff_eq] at ht16
  exact ⟨ht16.1,by omega⟩
 refine Nn ?_;refine A2 [0,17,18,19] ?_
 refine Az (α:=Nat) (fun x=>⟨43,A6 0 (An c) (A6 17 (Br l) (A6 18 (A5 (l.length:Nat)) (A6 19 (A5 (x:Nat)) (fun _=>.any)))),Hp,[],[],none⟩) (fun x=>RowAt c l x) (fun x=>l.length-x) (0) ⟨Ap _,fun i v y h=>by omega⟩ (B2 (by simp)) rfl (fun x hx=>?_)
 refine Z2 ?_;refine A2 [0,17,18,19,20] ?_
 refine Ej (fun ht20=>?_) (fun ht20=>?_)
 ·have hlt:x<l.length:=by simpa using ht20
  have hlc:x<c.length:=by omega
  refine Tr ?_
  refine A4 (h:=Ac (x) (Bi l[x]) (fun _=>Aw hlt)) (hr:=?_)
  refine rl ?_;refine A2 [0,5,6,17,18,19] ?_;refine Cb [0,1,3,7,15,31,63,127,255,511,255,255,3327,7423,15615,32767,65535,131071] 15 Ai (by kernel_rfl) ?_;refine Ak ?_;refine De Tryz.call35 (c35 _ _) ?_;refine Z12 ?_;refine Z56 ?_;refine Z56 ?_;refine Z56 ?_;refine Z56 ?_
  refine Ei (h:=Ac (x) (Bj c[x]) (fun _=>Aw hlc)) (hr:=?_)
  refine Z56 ?_;refine J0 ?_;refine Z97 ?_;refine A2 [0,17,18,19,41] ?_
  refine A3 (fun ht41=>?_) (fun ht41=>?_)
  ·have hm:=RowAt.bad hlt hlc ht41
   refine Z89 ?_;exact AHd
  refine Nm ?_;refine A2 [0,17,18,19] ?_;refine Ay (x+1) (hx.next hlt hlc ht41) (by omega) ?_
  exact Dq (own:=[]) (fun _=>.refl _) (by repeat (first|exact Bq|refine Bp (by first|exact od|exact low_cols|(simp [or_imp,forall_and];done)) ?_)) (by simp) (by simp)
 have hxe:l.length≤x:=by simpa using ht20
 have hm:F9 c l=true:=row_iff.2 ⟨by rw [←N6];exact hcl.1,hcl.2,fun i v y hv hy=>hx.ok i v y (by have:=(Ad.1 hv).1;omega) hv hy⟩
 refine Ts ?_;exact yo

theorem AG1 {e:Expr} (h:E9 e=true):Nz e=true:=by
 unfold Nz
 cases Oo h with
 | val v hp h0=>simpa [Rb,Expr.op,Expr.val] using hp
 | name t ht=>rfl
 | neg a=>rfl
 | no a=>rfl
 | bin t a b ht=>rfl
 | call t k ht=>rfl
mutual
theorem k7:∀e:Expr,Et E9 e=true→Et Nz e=true
 | .mk o t v k,h=>by
  rw [Et,As] at h ⊢
  exact ⟨AG1 h.1,oi k h.2⟩
theorem oi:∀k:List Expr,Jj E9 k=true→Jj Nz k=true
  | [],_=>rfl
  | e::r,h=>by
    rw [Jj,As] at h ⊢
    exact ⟨k7 e h.1,oi r h.2⟩
 end
theorem AG2 {c:List Col} {l:List Val} (h:F9 c l=true) (hr:∀v∈l, -9223372036854775808≤v.n∧v.n≤9223372036854775807):∀v∈l,Fine v:=fun v hv=>by
 obtain ⟨i,hi⟩:=Cf hv
 obtain ⟨_,h2,h3⟩:=row_iff.1 h
 have hil:=(Ad.1 hi).1
 exact ⟨(h3 i v _ hi (Aa (show i<c.length by omega))).1,(hr v hv).1,(hr v hv).2⟩
theorem c73 (n:Nat) (x:Expr) (hok:okE n x) (hn:n≤1048576) (hrg:Et L5 x=true) (c:List Col) (hc:OkCols c) (l:List Val) (hll:l.length≤1048576) (hlr:∀v∈l, -9223372036854775808≤v.n∧v.n≤9223372036854775807) (Hp:List AObj):AFun Tryz.prog 73 [Ab x,An c,Br l] Hp (Q6 (En x c l)):=by
 refine Ah [.cell 6 42,.tmp 7] [0,1,2] Tryz.func73 Tryz.ntmps73 (fun d=>?_)
 refine Z2 ?_;refine Z80 ?_;refine A2 [1,2,3,6] ?_;refine Z29 ?_;refine A9 Tryz.call59 (c59 n x hok hn _) ?_;refine Z44 ?_;refine Bm Tryz.call14 (fun hB=>c14 c hc l hll _) ?_;refine Z93 ?_;refine A2 [1,2,3,6,16] ?_
 refine A3 (fun ht16=>?_) (fun ht16=>?_)
 ·have hm:En x c l=D0 1:=if_pos ht16
  refine cn ?_;refine Z27 ?_;exact Z51
 have hm:En x c l=Al c l x:=if_neg (by rw [ht16];simp)
 have hrr:Bk x=true∧F9 c l=true:=by simpa using ht16
 obtain ⟨hr,hrow⟩:=hrr
 refine Lq ?_;refine j7 ?_;refine A4 ?_;refine A9 Tryz.call105 (AUt c l hc (row_iff.1 hrow).2.1 (AG2 hrow hlr) n x hok (Kx hr) hrg (k7 x (Kx hr)) _) ?_;refine lq ?_;exact Z46

theorem AB5 {x:Expr} {c:List Col} {l:List Val} (hk:(Eu x c).2=0) (hrow:F9 c l=true):KOk (Eu x c).1 (En x c l):=by
 obtain ⟨h1,h2,h3⟩:=AFy hk
 rw [h3] at hk ⊢
 rw [AJc h1 hrow]
 exact x5 hrow (sizeE x) x (Aj _) (Kx h1) hk
set_option maxRecDepth 8000
/-! Trees that are trimmed. -/
theorem ba {v:Val} (hp:Cg v=true) (h:v.kind=0):v=noV:=by
 obtain ⟨k,n,s⟩:=v
 simp only at h
 subst h
 simp [Cg] at hp
 rw [hp.1,hp.2];rfl
theorem bb {v:Val} (hp:Cg v=true) (h:v.kind=3):v=E4 true∨v=E4 false:=by
 obtain ⟨k,n,s⟩:=v
 simp only at h
 subst h
 simp [Cg] at hp
 obtain ⟨⟨rfl,h0⟩,h1⟩:=hp
 have:n=0∨n=1:=by omega
 rcases this with rfl|rfl
 ·exact .inr rfl
 exact .inl rfl
theorem R7 {k:List Expr} {i:Nat} (h:i<k.length):k.getD i At∈k:=by
 rw [D4,Aa h]
 exact Av h
theorem ol (S:List Val→Rs) (ra:Rs):I9 S [ra]=if (ra.2 != 0)=true then (noV,ra.2) else if (ra.1.kind==0)=true then (noV,0) else S [ra.1]:=by
 unfold I9
 cases h:ra.2 != 0 with
 | true=>simp [h,D0]
 | false=>simp [h]
theorem AG3 (S:List Val→Rs) (ra rb:Rs):I9 S [ra,rb]=if (ra.2 != 0)=true then (noV,ra.2) else if (rb.2 != 0)=true then (noV,rb.2) else if ((ra.1.kind==0) || (rb.1.kind==0))=true then (noV,0) else S [ra.1,rb.1]:=by
 unfold I9
 cases h:ra.2 != 0 with
 | true=>simp [h,D0]
 | false =>
  cases h2:rb.2 != 0 with
  | true=>simp [h,h2,D0]
  | false=>simp [h,h2]
theorem Vz {r:Rs} (h:(r.2 != 0)=true):B9 r=r:=by
 unfold B9
 have:(r.2==0)=false:=by simpa using h
 rw [this]
 simp
theorem W0 {v:Val} (h:((v.kind==0) || (v.kind==3))=false):B9 (v,0)=(noV,10):=by
 simp only [Cq,beq_eq_false_iff_ne,ne_eq] at h
 unfold B9
 rw [if_pos (by simp [h.1,h.2])]
 rfl
theorem bc {v:Val} (h:((v.kind==0) || (v.kind==3))=true):B9 (v,0)=(v,0):=by
 unfold B9
 rw [if_neg]
 simp only [Co,beq_iff_eq] at h
 simp
 intro h0
 rcases h with h|h
 ·exact absurd h h0
 exact h
theorem k8 {r:Rs} (h:(r.2 != 0)=false):r=(r.1,0):=by
 obtain ⟨v,e⟩:=r
 have:e=0:=by simpa using h
 rw [this]
theorem AG4 {r:Rs} (h:Mp r) (h2:(r.2 != 0)=true):r=(noV,r.2):=by
 obtain ⟨v,e⟩:=r
 have:=h (by simpa using h2)
 simp only at this ⊢
 rw [this]
theorem AB6 {t:Str} (ht:t=orW∨t=Rc) {a:Val} {rb:Rs} (fa:Fine a) (fb:Fine rb.1) (eb:Mp rb):Gp (E4 (t==orW)) (a,0) rb=AFu t a rb:=by
 unfold AFu Gp
 cases h3:(a.kind==0) || (a.kind==3) with
 | false=>rw [W0 h3];rfl
 | true =>
  rw [bc h3]
  simp only [C8,Ag,if_false,show ((0:Int) != 0)=false from rfl,C7]
  cases h4:a==E4 (t==orW) with
  | true=>simp
  | false =>
   simp only [Ag,if_false]
   cases h5:rb.2 != 0 with
   | true =>
    rw [Vz h5,h5]
    simp only [Db,if_true]
    exact AG4 eb h5
   | false =>
    simp only [Ag,if_false]
    rw [k8 h5]
    generalize rb.1=b at fb
    try simp only
    cases h6:(b.kind==0) || (b.kind==3) with
    | false =>
     rw [W0 h6]
     have:((b.kind != 0)&&(b.kind != 3))=true:=by
      simp only [Cq,beq_eq_false_iff_ne,ne_eq] at h6
      simp [h6.1,h6.2]
     rw [if_pos this]
     rfl
    | true =>
     rw [bc h6]
     have:((b.kind != 0)&&(b.kind != 3))=false:=by
      simp only [Co,beq_iff_eq] at h6
      rcases h6 with h|h<;>simp [h]
     rw [this]
     simp only [Ag,if_false,show ((0:Int) != 0)=false from rfl,C7]
     cases h7:b==E4 (t==orW) with
     | true=>simp
     | false =>
      simp only [C7,Ag,if_false]
      by_cases ha0:a.kind=0
      ·have e:a=noV:=ba fa.plain ha0
       rw [e]
       rfl
      rw [if_pos (by simpa using ha0)]
      by_cases hb0:b.kind=0
      ·rw [if_pos (by simp [hb0]),ba fb.plain hb0]
      rw [if_neg (by simp [ha0,hb0])]
      have hb3:b.kind=3:=by simpa [hb0] using h6
      rcases bb fb.plain hb3 with rfl|rfl
      ·rcases ht with rfl|rfl
       ·cases h7
       rfl
      rcases ht with rfl|rfl
      ·rfl
      cases h7
theorem ANg {ra rb rc:Rs} (fa:Fine ra.1) (h:(ra.2 != 0)=false):Ea ifW ra rb rc=if (!((ra.1.kind==0) || (ra.1.kind==3)))=true then (noV,10) else if (ra.1.n==1)=true then rb else rc:=by
 have e:=k8 h
 generalize ra.1=a at fa e ⊢
 subst e
 unfold Ea
 rw [if_pos (show (ifW==ifW)=true from rfl)]
 cases h3:(a.kind==0) || (a.kind==3) with
 | false=>rw [W0 h3];rfl
 | true =>
  rw [bc h3,if_neg (by simp)]
  simp only [C8,Ag,if_false]
  have e2:(a==E4 true)=(a.n==1):=by
   simp only [Co,beq_iff_eq] at h3
   rcases h3 with h3|h3
   ·rw [ba fa.plain h3];rfl
   rcases bb fa.plain h3 with rfl|rfl<;>rfl
  rw [e2]
theorem AG5 {n:Int} (h0 : -9223372036854775808≤n) (h1:n≤9223372036854775807):Sp (Lib.itoa n)=⟨2,0,Lib.itoa n⟩:=by
 have:=Lib.itoa_length_le n (by omega) (by omega)
 unfold Sp
 rw [D9 (by omega)]
theorem AG6 (n:Int) (k:Nat):(max 0 (min n k))=Oq n k:=by
 unfold Oq
 by_cases h:n<0
 ·rw [if_pos (by simpa using h)];omega
 rw [if_neg (by simpa using h)]
 by_cases h2:n<k
 ·rw [if_pos (by simpa using h2)];omega
 rw [if_neg (by simpa using h2)];omega
theorem AB7 {t:Str} (a b:Val) (hl:a.s.length≤200):L7 t a.s b.n=(uf t a b).1∧(uf t a b).2=0:=by
 unfold L7 uf
 rw [AG6]
 show (if (t==Ws)=true then _ else _)=_∧_
 cases t==Ws with
 | true =>
  simp only [if_true,and_true]
  unfold Sp
  rw [D9 (by rw [Bx];omega)]
 | false =>
  simp only [Ag,if_false,and_true]
  unfold Sp
  rw [D9 (by rw [Fh];omega)]
section
variable {a b:Val}
theorem AJh (fa:Fine a):B0 3 [] [a]=(if (a.kind != 1)=true then (noV,10) else ff (!decide (a.n<0)) a.n.natAbs):=by
 show (if (((3:Int)==5))=true then _ else if (((3:Int)==3)&&By [a] [1])=true then Fu (Lt 0 a.n) else _)=_
 rw [if_neg (by decide)]
 have e:By [a] [1]=(a.kind==1):=by simp [By]
 rw [e]
 cases h:a.kind==1 with
 | true =>
  have h':(a.kind != 1)=false:=by rw [bne,h];rfl
  rw [if_pos (by rfl),h',M4,M3,nz,Q8,wl (by decide) (by decide) fa.lo fa.hi]
  simp
 | false =>
  have h':(a.kind != 1)=true:=by rw [bne,h];rfl
  rw [if_neg (by simp),h']
  rfl
theorem AJi:B0 4 [] [a]=(if (a.kind != 3)=true then (noV,10) else (E4 (a.n==0),0)):=by
 show (if (((4:Int)==5))=true then _ else if (((4:Int)==3)&&By [a] [1])=true then _ else if (((4:Int)==4)&&By [a] [3])=true then (E4 (a.n==0),0) else _)=_
 rw [if_neg (by decide),if_neg (by simp)]
 have e:By [a] [3]=(a.kind==3):=by simp [By]
 rw [e]
 cases h:a.kind==3 with
 | true =>
  have h':(a.kind != 3)=false:=by rw [bne,h];rfl
  rw [if_pos (by rfl),h']
  rfl
 | false =>
  have h':(a.kind != 3)=true:=by rw [bne,h];rfl
  rw [if_neg (by simp),h']
  rfl
theorem AJj:B0 6 Re [a]=de Re a ⟨9,0,[]⟩:=by
 show H9 Re a=_
 unfold H9 de
 simp only [show (Re==[115,116,114])=false from rfl,show (Re==[108,101,110])=true from rfl,show (Re==[110,117,109])=false from rfl,show (Re==Rd)=false from rfl,show (Re==Re)=true from rfl,Ey,Dm,Ag,if_false,if_true]
 cases h:a.kind==2 with
 | true=>rw [show (a.kind != 2)=false by rw [bne,h];rfl];rfl
 | false=>rw [show (a.kind != 2)=true by rw [bne,h];rfl];rfl
theorem AJk:B0 6 Rf [a]=de Rf a ⟨9,0,[]⟩:=by
 show H9 Rf a=_
 unfold H9 de
 simp only [show (Rf==[115,116,114])=false from rfl,show (Rf==[108,101,110])=false from rfl,show (Rf==[110,117,109])=true from rfl,show (Rf==Rd)=false from rfl,show (Rf==Re)=false from rfl,show (Rf==Rf)=true from rfl,Ey,Dm,Ag,if_false,if_true]
 cases h:a.kind==2 with
 | true=>rw [show (a.kind != 2)=false by rw [bne,h];rfl];rfl
 | false=>rw [show (a.kind != 2)=true by rw [bne,h];rfl];rfl
theorem AJl (fa:Fine a):B0 6 Rd [a]=de Rd a ⟨9,0,[]⟩:=by
 show H9 Rd a=_
 unfold H9 de
 simp only [show (Rd==[115,116,114])=true from rfl,show (Rd==[108,101,110])=false from rfl,show (Rd==[110,117,109])=false from rfl,show (Rd==Rd)=true from rfl,Ey,Dm,Ag,if_false,if_true]
 cases h:a.kind==1 with
 | true=>rw [show (a.kind != 1)=false by rw [bne,h];rfl,AG5 fa.lo fa.hi];rfl
 | false=>rw [show (a.kind != 1)=true by rw [bne,h];rfl];rfl
theorem fk (fa:Fine a) {t:Str} (ht:t=Ws∨t=[114,105,103,104,116]):B0 6 t [a,b]=de t a b:=by
 show (if (!By [a,b] [2,1])=true then D0 10 else (L7 t a.s b.n,0))=_
 have e1:(t==Rd)=false:=by rcases ht with rfl|rfl<;>rfl
 have e2:(t==Re)=false:=by rcases ht with rfl|rfl<;>rfl
 have e3:(t==Rf)=false:=by rcases ht with rfl|rfl<;>rfl
 unfold de
 rw [e1,e2,e3]
 simp only [Ag,if_false]
 have e:By [a,b] [2,1]=((a.kind==2)&&(b.kind==1)):=by simp [By]
 rw [e]
 have hp:=AB7 (t:=t) a b fa.len
 cases h:a.kind==2 with
 | false=>rw [show (a.kind != 2)=true by rw [bne,h];rfl];rfl
 | true =>
  rw [show (a.kind != 2)=false by rw [bne,h];rfl]
  cases h2:b.kind==1 with
  | false=>rw [show (b.kind != 1)=true by rw [bne,h2];rfl];rfl
  | true =>
   rw [show (b.kind != 1)=false by rw [bne,h2];rfl]
   show (L7 t a.s b.n,(0:Int))=uf t a b
   rw [hp.1,←hp.2]
end
theorem oo {a:Val}:((a.kind==0) || ((⟨9,0,[]⟩:Val).kind==0))=(a.kind==0):=by simp
/-- The reference's way is the tree's value. -/
theorem ANh {c:List Col} {l:List Val} {e:Expr} (hn:E9 e=true) (hf:∀y∈e.kids,Fine (Al c l y).1∧Mp (Al c l y)) (h1:(e.op==1)=false) (h2:(e.op==2)=false):Al c l e=Ka (e.kids.length:Int) e.op e.text (Al c l (e.kids.getD 0 At)) (Al c l (e.kids.getD 1 At)) (Al c l (e.kids.getD 2 At)):=by
 cases Oo hn with
 | val v hp h0=>cases h1
 | name t ht=>cases h2
 | neg x =>
  obtain ⟨fa,_⟩:=hf x (by simp [Mw,Expr.kids])
  show I9 (B0 3 []) [Al c l x]=Ka 1 3 [] (Al c l x) _ _
  rw [ol]
  generalize Al c l x=ra at fa ⊢
  unfold Ka
  cases h:ra.2 != 0 with
  | true=>rfl
  | false =>
   show _=Sw 3 [] ra.1 ⟨9,0,[]⟩
   unfold Sw
   rw [oo,AJh fa]
   rfl
 | no x =>
  obtain ⟨fa,_⟩:=hf x (by simp [Mw,Expr.kids])
  show I9 (B0 4 []) [Al c l x]=Ka 1 4 [] (Al c l x) _ _
  rw [ol]
  generalize Al c l x=ra at fa ⊢
  unfold Ka
  cases h:ra.2 != 0 with
  | true=>rfl
  | false =>
   show _=Sw 4 [] ra.1 ⟨9,0,[]⟩
   unfold Sw
   rw [oo,AJi]
   rfl
 | bin t x y ht =>
  obtain ⟨fa,ea⟩:=hf x (by simp [Mv,Expr.kids])
  obtain ⟨fb,eb⟩:=hf y (by simp [Mv,Expr.kids])
  show J8 B0 c l 5 t noV [Al c l x,Al c l y]=Ka 2 5 t (Al c l x) (Al c l y) _
  generalize Al c l x=ra at fa ea ⊢
  generalize Al c l y=rb at fb eb ⊢
  have hlog:(t=orW∨t=Rc)→Gp (E4 (t==orW)) ra rb=if (ra.2 != 0)=true then (noV,ra.2) else AFu t ra.1 rb:=fun h=>by
   cases h5:ra.2 != 0 with
   | true =>
    unfold Gp
    rw [Vz h5,h5]
    simp only [Db,if_true]
    exact AG4 ea h5
   | false =>
    rw [if_neg (by simp)]
    have e:=k8 h5
    rw [e]
    exact AB6 h fa fb eb
  unfold Ka J8
  simp only [show ((5:Int)==1)=false from rfl,show ((5:Int)==2)=false from rfl,show ((5:Int)==5)=true from rfl,show ((5:Int)==6)=false from rfl,Dm,Ey,Ag,if_false]
  cases ho:t==orW with
  | true =>
   have et:t=orW:=eq_of_beq ho
   have:=hlog (.inl et)
   rw [ho] at this
   simp only [Db,if_true]
   exact this
  | false =>
   cases hw:t==Rc with
   | true =>
    have et:t=Rc:=eq_of_beq hw
    have:=hlog (.inr et)
    rw [ho] at this
    simp only [C7,Ag,if_false,if_true]
    exact this
   | false =>
    simp only [C7,Ag,if_false]
    show I9 (B0 5 t) [ra,rb]=_
    rw [AG3]
    cases h5:ra.2 != 0 with
    | true=>rfl
    | false =>
     show _=(if (rb.2 != 0)=true then (noV,rb.2) else Sw 5 t ra.1 rb.1)
     rfl
 | call t k ha =>
  rcases Kb ha with ⟨e,hk⟩|⟨e,hk⟩|⟨e,hk⟩|⟨e,hk⟩|⟨e,hk⟩|⟨e,hk⟩|⟨e,hk⟩|⟨e,hk⟩<;>subst e
  ·match k,hk with
   | [x],_ =>
    obtain ⟨fa,_⟩:=hf x (by simp [Expr.kids])
    show I9 (B0 6 Re) [Al c l x]=Ka 1 6 Re (Al c l x) _ _
    rw [ol,AJj]
    cases h:(Al c l x).2 != 0 with
    | true=>unfold Ka;rw [h];rfl
    | false =>
     unfold Ka
     rw [h]
     show _=Sw 6 Re (Al c l x).1 ⟨9,0,[]⟩
     unfold Sw
     rw [oo]
     rfl
  ·match k,hk with
   | [x],_ =>
    obtain ⟨fa,_⟩:=hf x (by simp [Expr.kids])
    show I9 (B0 6 Rd) [Al c l x]=Ka 1 6 Rd (Al c l x) _ _
    rw [ol,AJl fa]
    cases h:(Al c l x).2 != 0 with
    | true=>unfold Ka;rw [h];rfl
    | false =>
     unfold Ka
     rw [h]
     show _=Sw 6 Rd (Al c l x).1 ⟨9,0,[]⟩
     unfold Sw
     rw [oo]
     rfl
  ·match k,hk with
   | [x],_ =>
    obtain ⟨fa,_⟩:=hf x (by simp [Expr.kids])
    show I9 (B0 6 Rf) [Al c l x]=Ka 1 6 Rf (Al c l x) _ _
    rw [ol,AJk]
    cases h:(Al c l x).2 != 0 with
    | true=>unfold Ka;rw [h];rfl
    | false =>
     unfold Ka
     rw [h]
     show _=Sw 6 Rf (Al c l x).1 ⟨9,0,[]⟩
     unfold Sw
     rw [oo]
     rfl
  ·match k,hk with
   | [x],_ =>
    obtain ⟨fa,ea⟩:=hf x (by simp [Expr.kids])
    show Ea C6 (Al c l x) (noV,0) (noV,0)=Ka 1 6 C6 (Al c l x) _ _
    unfold Ea Ka
    cases h:(Al c l x).2 != 0 with
    | true=>rfl
    | false=>rfl
  ·match k,hk with
   | [x,y],_ =>
    obtain ⟨fa,ea⟩:=hf x (by simp [Expr.kids])
    show Ea P9 (Al c l x) (Al c l y) (noV,0)=Ka 2 6 P9 (Al c l x) (Al c l y) _
    unfold Ea Ka
    cases h:(Al c l x).2 != 0 with
    | true=>rfl
    | false=>rfl
  ·match k,hk with
   | [x,y],_ =>
    obtain ⟨fa,_⟩:=hf x (by simp [Expr.kids])
    show I9 (B0 6 Ws) [Al c l x,Al c l y]=Ka 2 6 Ws (Al c l x) (Al c l y) _
    rw [AG3,fk fa (.inl rfl)]
    unfold Ka
    cases h:(Al c l x).2 != 0 with
    | true=>rfl
    | false=>rfl
  ·match k,hk with
   | [x,y],_ =>
    obtain ⟨fa,_⟩:=hf x (by simp [Expr.kids])
    show I9 (B0 6 [114,105,103,104,116]) [Al c l x,Al c l y]=Ka 2 6 [114,105,103,104,116] (Al c l x) (Al c l y) _
    rw [AG3,fk fa (.inr rfl)]
    unfold Ka
    cases h:(Al c l x).2 != 0 with
    | true=>rfl
    | false=>rfl
  match k,hk with
  | [x,y,z],_ =>
   obtain ⟨fa,ea⟩:=hf x (by simp [Expr.kids])
   show Ea ifW (Al c l x) (Al c l y) (Al c l z)=Ka 3 6 ifW (Al c l x) (Al c l y) (Al c l z)
   unfold Ka
   cases h:(Al c l x).2 != 0 with
   | true =>
    unfold Ea
    rw [Vz h,h]
    rfl
   | false =>
    rw [ANg fa h]
    rfl
set_option maxRecDepth 4000
theorem AB8 {a:Int} (h:AMo a):Ld a=(a.natAbs:Int):=R2 h.1 h.2
theorem AJm {u:Int} (h:0≤u) (h2:u<18446744073709551616):IntKind.u64.wrap (IntKind.u64.wrap (IntKind.u64.wrap (u.tdiv 4294967296)*4294967296)+u.tmod 4294967296)=u:=by
 simp only [IntKind.wrap_u64]
 rw [Y6 h,Y7 h]
 omega
/-- How far the digits have come. -/
def DGR (n:Nat) (x:Nat×Str):Prop:=(x.1=n∧x.2=[])∨(x.2≠[]∧(if x.1=0 then [] else Lib.decDigits x.1)++x.2=Lib.decDigits n)
theorem DGR.step {n:Nat} {x:Nat×Str} (h:DGR n x) (hc:0<x.1∨x.2=[]):DGR n (x.1 / 10,UInt8.ofNat (48+x.1 % 10)::x.2):=by
 obtain ⟨u,s⟩:=x
 refine .inr ⟨by simp,?_⟩
 simp only at *
 have key:(if u / 10=0 then [] else Lib.decDigits (u / 10))++[UInt8.ofNat (48+u % 10)]=Lib.decDigits u:=by
  rw [Lib.decDigits.eq_1 u]
  by_cases h10:u<10
  ·rw [dif_pos h10,if_pos (by omega),Qq h10];rfl
  rw [dif_neg h10,if_neg (by omega)]
 rw [show UInt8.ofNat (48+u % 10)::s=[UInt8.ofNat (48+u % 10)]++s from rfl,←C9,key]
 rcases h with ⟨h1,h2⟩|⟨h1,h2⟩
 ·simp only at h1 h2
  rw [h1,h2,Ht]
 simp only at h1 h2
 rw [←h2,if_neg (by rcases hc with hc|hc;omega;exact absurd hc h1)]
theorem DGR.done {n:Nat} {x:Nat×Str} (h:DGR n x) (h1:¬0<x.1) (h2:x.2≠[]):x.2=Lib.decDigits n:=by
 rcases h with ⟨_,h⟩|⟨_,h⟩
 ·exact absurd h h2
 rw [if_pos (by omega)] at h
 simpa using h
theorem DGR.len {n:Nat} {x:Nat×Str} (h:DGR n x) (hn:n≤9223372036854775808):x.2.length≤21:=by
 have h2:(Lib.decDigits n).length≤21:=by
  have:=Lib.itoa_length_le (-(n:Int)) (by omega) (by omega)
  unfold Lib.itoa at this
  split at this
  ·have e:(-(n:Int)).natAbs=n:=by omega
   rw [e] at this
   simp at this
   omega
  have:n=0:=by omega
  rw [this]
  rw [Lib.decDigits_one (by omega)]
  simp
 rcases h with ⟨_,h⟩|⟨_,h⟩
 ·rw [h];simp
 have:=congrArg List.length h
 rw [Ao] at this
 omega
theorem DGR.le {n:Nat} {x:Nat×Str} (h:x.1≤n):x.1 / 10≤n:=by omega
theorem AS3 (u:Nat):IntKind.u8.wrap (48+IntKind.u8.wrap ((u:Int).tmod 10))=((UInt8.ofNat (48+u % 10)).toNat:Int):=by
 rw [Y7 (by omega)]
 simp [IntKind.wrap,IntKind.bits,IntKind.signed,UInt8.toNat_ofNat']
theorem ANi {u n:Nat} (h:u≤n) (hn:n≤9223372036854775808):IntKind.u64.wrap ((u:Int).tdiv 10)=((u / 10:Nat):Int):=by
 rw [Y6 (by omega),IntKind.wrap_u64]
 omega
theorem fl (a:Int):Lib.itoa a=if decide (a<0) then 45::Lib.decDigits a.natAbs else Lib.decDigits a.natAbs:=by
 unfold Lib.itoa
 by_cases h:a<0
 ·simp [h]
 have:a.toNat=a.natAbs:=by omega
 simp [h,this]
theorem c57 (a:Int) (ha:AMo a) (Hp:List AObj):AFun Tryz.prog 57 [A5 a] Hp (Af (Lib.itoa a)):=by
 have hs:=AB8 ha
 have hn:a.natAbs≤9223372036854775808:=by have:=ha.1;have:=ha.2;omega
 have hh:=AJm (u:=Ld a) (by rw [hs];omega) (by rw [hs];omega)
 refine Ah [.tmp 2] [0] Tryz.func57 Tryz.ntmps57 (fun d=>?_)
 refine Z49 ?_;refine Z2 ?_;refine A9 Tryz.call56 (c56 a _) ?_;refine Z20 ?_;refine A2 [3] ?_;refine Z2 ?_;refine ADr ?_;refine Z10 ?_;refine AHr ?_;refine A4 ?_
 refine A4 (h:=Gb) (hr:=?_)
 rw [hh,hs]
 refine A4 ?_;refine A2 [3,4] ?_;refine Z2 ?_;refine A2 [3,4,5] ?_;refine Mh ?_
 refine Az (α:=Nat×Str) (fun x=>⟨37,A6 3 (.ptr (oid Hp.length 0) 0) (A6 4 (Bo (x.1:Nat)) (A6 5 (Af x.2) (fun _=>.any))),Hp,[.cells 91 (ax a)],[],none⟩) (fun x=>x.1≤a.natAbs∧DGR a.natAbs x) (fun x=>2*x.1+(if x.2=[] then 1 else 0)) ((a.natAbs,[])) ⟨Aj _,.inl ⟨rfl,rfl⟩⟩ (B2 (by simp)) rfl (fun x hx=>?_)
 refine Z33 ?_;refine Z97 ?_;refine A2 [3,4,5,21] ?_
 refine A3 (fun ht21=>?_) (fun ht21=>?_)
 ·have hc:0<x.1∨x.2=[]:=by
   have h:=ht21
   simp only [Co,decide_eq_true_eq,beq_iff_eq] at h
   rcases h with h|h
   ·exact .inl (by omega)
   exact .inr h
  have hl21:=hx.2.len hn
  refine ADl ?_;refine Z19 ?_
  refine A4 (h:=Gb) (hr:=?_)
  refine ry ?_
  rw [AS3]
  refine R.bytesStr [UInt8.ofNat (48+x.1 % 10)] jU jU jU ?_;refine A4 ?_
  refine A4 (h:=Q.sadd (hl:=fun _=>by simp only [B6,Bw];omega)) (hr:=?_)
  refine A4 ?_;refine A2 [3,4,5] ?_;refine Z31 ?_
  rw [ANi hx.1 hn]
  refine A4 ?_;refine A2 [3,4,5] ?_;refine L3 ?_
  refine Ay (x.1 / 10,UInt8.ofNat (48+x.1 % 10)::x.2) ⟨DGR.le hx.1,hx.2.step hc⟩ (by rw [if_neg (by simp)];rcases hc with h|h;omega;rw [if_pos h];omega) (Bh rfl)
 have hl21:=hx.2.len hn
 have hD:x.2=Lib.decDigits a.natAbs:=by
  have h:=ht21
  simp only [Cq,decide_eq_false_iff_not,beq_eq_false_iff_ne] at h
  exact hx.2.done (by omega) h.2
 refine Z45 ?_;refine Z8 ?_;refine A2 [5,33] ?_
 refine A3 (fun ht33=>?_) (fun ht33=>?_)
 ·have hm:=fl a
  rw [if_pos ht33] at hm
  refine Z52 ?_
  refine A4 (h:=Q.sadd (hl:=fun _=>by simp only [B6,Bw];omega)) (hr:=?_)
  refine A4 ?_;refine A2 [5] ?_;refine Es ?_;refine j5 ?_;exact AQp
 have hm:=fl a
 rw [if_neg (by rw [ht33];simp)] at hm
 refine Lq ?_;refine Z3 ?_;exact AQp

set_option maxRecDepth 8000
/-! The document's kinds of trees are infer's. -/
def Fm (k w:Int):Bool:=(k==0) || (k==w)
def Hl (o:Int) (t:Str) (ks:List Int):Int×Bool:=
 if o==3 then (1,Fm (ks.getD 0 0) 1) else if o==4 then (3,Fm (ks.getD 0 0) 3)
 else if (o==5)&&((t==[111,114]) || (t==[97,110,100])) then (3,Fm (ks.getD 0 0) 3&&Fm (ks.getD 1 0) 3)
 else if (o==5)&&(Dr t==3) then (3,(ks.getD 0 0==0) || Fm (ks.getD 1 0) (ks.getD 0 0))
 else if (o==5)&&(t==[38]) then (2,Fm (ks.getD 0 0) 2&&Fm (ks.getD 1 0) 2)
 else if o==5 then (1,Fm (ks.getD 0 0) 1&&Fm (ks.getD 1 0) 1)
 else if (t==[108,101,110]) || (t==[110,117,109]) then (1,Fm (ks.getD 0 0) 2)
 else if t==[115,116,114] then (2,Fm (ks.getD 0 0) 1)
 else if (t==[108,101,102,116]) || (t==[114,105,103,104,116]) then (2,Fm (ks.getD 0 0) 2&&Fm (ks.getD 1 0) 1)
 else if t==[105,115,110,117,108,108] then (3,true)
 else (if ks.getD (ks.length-2) 0==0 then ks.getD (ks.length-1) 0 else ks.getD (ks.length-2) 0,
  ((ks.getD (ks.length-2) 0==0) || Fm (ks.getD (ks.length-1) 0) (ks.getD (ks.length-2) 0))&&((t==[110,118,108]) || Fm (ks.getD 0 0) 3))
def W3 (o:Int) (t:Str) (ks:List Int):Int×Int:=if (Hl o t ks).2 then ((Hl o t ks).1,0) else (0,10)
theorem R8 (w k:Int) (hw:(w==0)=false):(Gi w k).2=Fm k w:=by
 unfold Gi Fm
 rw [hw]
 simp only [Ag,if_false]
 by_cases h:(k==0)=true
 ·simp [h]
 have h':(k==0)=false:=by simpa using h
 rw [h']
 by_cases h2:w=k
 ·subst h2;simp
 have:¬k=w:=fun e=>h2 e.symm
 simp [h2,this]
theorem AJn (t:Str):(Dr t==3)=((((((t==[61]) || (t==[33,61])) || (t==[60])) || (t==[60,61])) || (t==[62])) || (t==[62,61])):=by
 by_cases h:t∈[[61],[33,61],[60],[60,61],[62],[62,61]]
 ·simp only [Bu,Fi,or_false] at h
  rcases h with rfl|rfl|rfl|rfl|rfl|rfl<;>rfl
 have e:((((((t==[61]) || (t==[33,61])) || (t==[60])) || (t==[60,61])) || (t==[62])) || (t==[62,61]))=false:=by
  simp only [Bu,Fi,or_false,not_or] at h
  simp [h]
 rw [e]
 unfold Dr
 split
 ·rename_i i hi
  rw [Jy] at hi
  obtain ⟨hl,hc,_⟩:=hi
  by_cases h3:i=3
  ·subst h3
   exact (h (by simp [levels] at hc;simpa using hc)).elim
  have:¬((i:Int)=3):=by omega
  simp [this]
 rfl
theorem x6 {s:Sign} {a w:Int} (hk:s.kids=[w]) (hw:(w==0)=false) (h1:(w == -1)=false) (h2:(w == -2)=false) (ho:(s.own == -1)=false):L6 s [a]=if Fm a w then (s.own,0) else (0,10):=by
 unfold L6
 rw [hk]
 simp only [Hj,h1,h2,Ag,if_false,R8 w a hw]
 cases Fm a w<;>simp [ho]
theorem x7 {s:Sign} {a b v w:Int} (hk:s.kids=[v,w]) (hv:(v==0)=false) (hv1:(v == -1)=false) (hv2:(v == -2)=false) (hw:(w==0)=false) (h1:(w == -1)=false) (h2:(w == -2)=false) (ho:(s.own == -1)=false):L6 s [a,b]=if Fm a v&&Fm b w then (s.own,0) else (0,10):=by
 unfold L6
 rw [hk]
 simp only [Hj,hv1,hv2,h1,h2,Ag,if_false,R8 w b hw,R8 v a hv]
 cases Fm a v<;>cases Fm b w<;>simp [ho]
theorem AL4 {s:Sign} {a b:Int} (hk:s.kids=[-1, -1]):L6 s [a,b]=if (a==0) || Fm b a then (if s.own == -1 then (if a==0 then b else a,0) else (s.own,0)) else (0,10):=by
 unfold L6 Fm
 rw [hk]
 simp only [Hj,Gi]
 by_cases ha:a=0
 ·subst ha;simp
 by_cases hb:b=0
 ·subst hb;simp [ha]
 by_cases he:a=b
 ·subst he;simp [ha]
 have:¬b=a:=fun e=>he e.symm
 simp [ha,hb,he,this]
theorem ANj {s:Sign} {x a b:Int} (hk:s.kids=[3, -1, -1]):L6 s [x,a,b]=if ((a==0) || Fm b a)&&Fm x 3 then (if s.own == -1 then (if a==0 then b else a,0) else (s.own,0)) else (0,10):=by
 unfold L6 Fm
 rw [hk]
 simp only [Hj,R8 3 x rfl,Fm]
 simp only [Gi]
 by_cases hx:((x==0) || (x==3))=true
 ·by_cases ha:a=0
  ·subst ha;simp [hx]
  by_cases hb:b=0
  ·subst hb;simp [ha,hx]
  by_cases he:a=b
  ·subst he;simp [ha,hx]
  have:¬b=a:=fun e=>he e.symm
  simp [ha,hb,he,this,hx]
 simp [hx]
theorem AS4 {s:Sign} {x:Int} (hk:s.kids=[-2]) (ho:(s.own == -1)=false):L6 s [x]=(s.own,0):=by
 unfold L6
 rw [hk]
 simp [Hj,ho]
theorem ot {ks:List Int} (h:ks.length=1):∃a,ks=[a]:=by
 match ks,h with
 | [a],_=>exact ⟨a,rfl⟩
theorem AG7 {ks:List Int} (h:ks.length=2):∃a b,ks=[a,b]:=by
 match ks,h with
 | [a,b],_=>exact ⟨a,b,rfl⟩
theorem AS5 {ks:List Int} (h:ks.length=3):∃a b c,ks=[a,b,c]:=by
 match ks,h with
 | [a,b,c],_=>exact ⟨a,b,c,rfl⟩
theorem ui (t:Str) (a b:Int):W3 5 t [a,b]=L6 (Di t) [a,b]:=by
 unfold W3 Hl Di
 simp only [AJn,show ((5:Int)==3)=false from rfl,show ((5:Int)==4)=false from rfl,show ((5:Int)==5)=true from rfl,Dm,Ag,if_false]
 by_cases h1:((t==[111,114]) || (t==[97,110,100]))=true
 ·simp only [h1,if_true]
  rw [x7 (v:=3) (w:=3) rfl rfl rfl rfl rfl rfl rfl rfl]
  rfl
 simp only [h1,if_false,Ag]
 by_cases h2:((((((t==[61]) || (t==[33,61])) || (t==[60])) || (t==[60,61])) || (t==[62])) || (t==[62,61]))=true
 ·simp only [h2,if_true]
  rw [AL4 rfl]
  rfl
 simp only [h2,if_false,Ag]
 by_cases h3:(t==[38])=true
 ·simp only [h3,if_true]
  rw [x7 (v:=2) (w:=2) rfl rfl rfl rfl rfl rfl rfl rfl]
  rfl
 simp only [h3,if_false,Ag,if_true]
 rw [x7 (v:=1) (w:=1) rfl rfl rfl rfl rfl rfl rfl rfl]
 rfl
theorem uj {t:Str} {ks:List Int} (h:(Dy t).kids.length=ks.length):W3 6 t ks=L6 (Dy t) ks:=by
 unfold W3 Hl
 simp only [show ((6:Int)==3)=false from rfl,show ((6:Int)==4)=false from rfl,show ((6:Int)==5)=false from rfl,Ey,Ag,if_false]
 unfold Dy at h ⊢
 by_cases h1:((t==[108,101,110]) || (t==[110,117,109]))=true
 ·simp only [h1,if_true] at h ⊢
  obtain ⟨a,rfl⟩:=ot h.symm
  rw [x6 (w:=2) rfl rfl rfl rfl rfl]
  rfl
 simp only [h1,if_false,Ag] at h ⊢
 by_cases h2:(t==[115,116,114])=true
 ·simp only [h2,if_true] at h ⊢
  obtain ⟨a,rfl⟩:=ot h.symm
  rw [x6 (w:=1) rfl rfl rfl rfl rfl]
  rfl
 simp only [h2,if_false,Ag] at h ⊢
 by_cases h3:((t==[108,101,102,116]) || (t==[114,105,103,104,116]))=true
 ·simp only [h3,if_true] at h ⊢
  obtain ⟨a,b,rfl⟩:=AG7 h.symm
  rw [x7 (v:=2) (w:=1) rfl rfl rfl rfl rfl rfl rfl rfl]
  rfl
 simp only [h3,if_false,Ag] at h ⊢
 by_cases h4:(t==[105,115,110,117,108,108])=true
 ·simp only [h4,if_true] at h ⊢
  obtain ⟨a,rfl⟩:=ot h.symm
  rw [AS4 rfl rfl]
 simp only [h4,if_false,Ag] at h ⊢
 by_cases h5:(t==[110,118,108])=true
 ·simp only [h5,if_true] at h ⊢
  obtain ⟨a,b,rfl⟩:=AG7 h.symm
  rw [AL4 rfl]
  simp
 simp only [h5,if_false,Ag] at h ⊢
 obtain ⟨a,b,c,rfl⟩:=AS5 h.symm
 rw [ANj rfl]
 simp
theorem AJo {e:Expr} (h:E9 e=true) (h1:(e.op==1)=false) (h2:(e.op==2)=false) {ks:List Int} (hl:ks.length=e.kids.length):W3 e.op e.text ks=L6 (Jt e.op e.text) ks:=by
 have hs:=Ny h h1 h2
 unfold Jt at hs ⊢
 unfold E9 at h
 rw [h1,h2] at h
 simp only [Ag,if_false] at h
 by_cases h3:e.op=3
 ·rw [h3] at hs ⊢
  simp only [beq_self_eq_true,if_true] at hs ⊢
  obtain ⟨a,rfl⟩:=ot (by rw [hl,←hs];rfl)
  rw [x6 (w:=1) rfl rfl rfl rfl rfl]
  rfl
 by_cases h4:e.op=4
 ·rw [h4] at hs ⊢
  obtain ⟨a,rfl⟩:=ot (by rw [hl,←hs];rfl)
  rw [show (if ((4:Int)==3)=true then (⟨[1],1⟩:Sign) else if ((4:Int)==4)=true then ⟨[3],3⟩ else if ((4:Int)==5)=true then Di e.text else Dy e.text)=⟨[3],3⟩ from rfl,x6 (w:=3) rfl rfl rfl rfl rfl]
  rfl
 by_cases h5:e.op=5
 ·rw [h5] at hs ⊢
  rw [show (if ((5:Int)==3)=true then (⟨[1],1⟩:Sign) else if ((5:Int)==4)=true then ⟨[3],3⟩ else if ((5:Int)==5)=true then Di e.text else Dy e.text)=Di e.text from rfl] at hs ⊢
  obtain ⟨a,b,rfl⟩:=AG7 (by rw [hl,←hs,So])
  exact ui _ _ _
 have h6:e.op=6:=by
  simp [h3,h4,h5] at h
  exact h.1
 rw [h6] at hs ⊢
 rw [show (if ((6:Int)==3)=true then (⟨[1],1⟩:Sign) else if ((6:Int)==4)=true then ⟨[3],3⟩ else if ((6:Int)==5)=true then Di e.text else Dy e.text)=Dy e.text from rfl] at hs ⊢
 exact uj (by rw [hs,hl])
/-! Moves: what mig.Right, sound.* and the document's layers 18, 19 answer. -/
structure Mov where
 kind:Int
 take:List Str
 give:List Col
 ahead:List Expr
 back:List Expr
abbrev L8 (l:List Expr):AV:=.slice false 6 (l.map Ab)
abbrev Nj (m:Mov):List AV:=[A5 m.kind,Gg m.take,An m.give,L8 m.ahead,L8 m.back]
abbrev Fv (m:Mov):AV:=.agg (Nj m)
abbrev E6 (l:List Mov):AV:=.slice false 5 (l.map Fv)
/-- Trees that may be walked. -/
structure OkEs (l:List Expr):Prop where
 len:l.length≤1048576
 ok:∀e∈l,okE 61 e
 size:∀e∈l,sizeE e≤1048576
 rng:∀e∈l,Et L5 e=true
structure OkMov (m:Mov):Prop where
 takes:m.take.length≤1048576
 names:∀s∈m.take,s.length≤1048576
 gives:OkCols m.give
 gives2:m.give.length≤1000000
 ahead:OkEs m.ahead
 back:OkEs m.back
structure OkMovs (l:List Mov):Prop where
 len:l.length≤1048576
 each:∀m∈l,OkMov m
def G7 (m:Mov):Bool:=
 if ((m.ahead.length:Int) != (m.give.length:Int)) || ((m.back.length:Int) != (m.take.length:Int)) then false
 else if m.kind==1 then ((m.take.length:Int)==0)&&((m.give.length:Int)==1)
 else if m.kind==2 then ((m.take.length:Int)==1)&&((m.give.length:Int)==0)
 else if (m.kind==3) || (m.kind==6) then ((m.take.length:Int)==1)&&((m.give.length:Int)==1)
 else if m.kind==4 then ((m.take.length:Int)==1)&&decide ((1:Int)<(m.give.length:Int))
 else if m.kind==5 then decide ((1:Int)<(m.take.length:Int))&&((m.give.length:Int)==1)
 else false
def Kc (m:Mov) (c:Col):Bool:=Dg c.name&&(((Ci c.kind==[])==(m.kind==3)) && !((m.kind==3)&&(c.kind != 0)))
def Mq (m:Mov):Bool:=
 if m.kind==3 then eqE (m.ahead.getD 0 At) (Dt (m.take.getD 0 []))&&eqE (m.back.getD 0 At) (Dt (m.give.getD 0 ⟨[],0⟩).name)
 else if m.kind==6 then m.take.getD 0 []==(m.give.getD 0 ⟨[],0⟩).name else true
def Fo (m:Mov):Bool:=(((((G7 m&&m.give.all (Kc m))&&m.take.all Dg)&&m.ahead.all Bk)&&m.back.all Bk)&&Mq m)
def Pa (l:List Mov):Bool:=decide ((l.length:Int)≤8)&&l.all Fo
/-! Columns behind moves. -/
def Ww (e:Expr) (c:List Col) (w:Int):Bool:=((Eu e c).2==0)&&(((Eu e c).1==w) || ((Eu e c).1==0))
def Ba (c:List Col) (m:Mov):List Col:=
 if m.kind==3 then (if Bn (m.take.getD 0 []) c<0 then m.give else match m.give with
  | []=>[]
  | y::r=>⟨y.name,(c.getD (Bn (m.take.getD 0 []) c).toNat ⟨[],0⟩).kind⟩::r)
 else m.give
def O1 (e:Expr) (c:List Col) (w:Int):Int:=if (Eu e c).2 != 0 then (Eu e c).2 else if !Ww e c w then 10 else 0
def Cs (over:List Col):List Expr→List Col→Int
 | x::r,w::ws=>if O1 x over w.kind != 0 then O1 x over w.kind else Cs over r ws
 | _,_=>0
def Gd (c:List Col) (m:Mov):List Col:=m.take.map fun s=>c.getD (Bn s c).toNat ⟨[],0⟩
def Bc (c:List Col) (m:Mov):List Col×Int:=
 if (D5 c m.take (Ba c m)).2 != 0 then ([],(D5 c m.take (Ba c m)).2)
 else if Cs c m.ahead (Ba c m) != 0 then ([],Cs c m.ahead (Ba c m))
 else if Cs (D5 c m.take (Ba c m)).1 m.back (Gd c m) != 0 then ([],Cs (D5 c m.take (Ba c m)).1 m.back (Gd c m))
 else ((D5 c m.take (Ba c m)).1,0)
/-- The columns ahead of each move and behind the last one, till one is wrong; the error. -/
def Dw (c:List Col):List Mov→List (List Col)×Int
 | []=>([c],0)
 | m::r=>if (Bc c m).2 != 0 then ([c],(Bc c m).2) else (c::(Dw (Bc c m).1 r).1,(Dw (Bc c m).1 r).2)
def Mr (c:List Col) (l:List Mov):Bool:=D8 c&&Pa l
/-- ref19.Steps. -/
def Gq (c:List Col) (l:List Mov):List (List Col)×Int:=if Mr c l then Dw c l else ([],1)
/-- sound.Steps. -/
def Ct (c:List Col) (l:List Mov):List (List Col)×Int:=if (Gq c l).2 != 0 then ([],(Gq c l).2) else Gq c l
theorem M5 {m:Mov} (h:Fo m=true):G7 m=true:=by
 unfold Fo at h
 simp only [As] at h
 exact h.1.1.1.1.1
theorem Ge {m:Mov} (h:G7 m=true):m.ahead.length=m.give.length∧m.back.length=m.take.length:=by
 unfold G7 at h
 split at h
 ·cases h
 rename_i h1
 simp only [Co,bne_iff_ne,ne_eq,not_or,Classical.not_not] at h1
 omega
theorem Qa {m:Mov} (h:G7 m=true) (h3:((m.kind==3) || (m.kind==6))=true):m.take.length=1∧m.give.length=1:=by
 unfold G7 at h
 split at h
 ·cases h
 have h1:(m.kind==1)=false:=by simp at h3 ⊢;omega
 have h2:(m.kind==2)=false:=by simp at h3 ⊢;omega
 simp only [h1,h2,h3,if_true,if_false,Ag,As,beq_iff_eq] at h
 omega
theorem J9 (c:List Col) (m:Mov):(Ba c m).length=m.give.length:=by
 unfold Ba
 split
 ·split
  ·rfl
  split<;>simp_all
 rfl
set_option maxRecDepth 4000
theorem Dj {n k:Nat} {o:Bool} {l:List Col}:Low n (.slice o k (l.map Bj)):=by simp [or_imp,forall_and]
theorem AJp {α β:Type} {f:α→β} {l:List α} {k:Nat} {y:α} (h:l[k]? = some y):(l.map f)[k]? = some (f y):=by rw [Ce,h];rfl
theorem AUw (c:List Col) (hc:OkCols c) (take:List Str) (ht:take.length≤1048576) (give:List Col) (hg:OkCols give) (hg2:give.length≤1000000) (Hp:List AObj):AFun Tryz.prog 101 [An c,Gg take,An give] Hp (.tup [An (D5 c take give).1,A5 (D5 c take give).2]):=by
 refine Ah [.tmp 6,.tmp 7] [0,1,2,9] Tryz.func101 Tryz.ntmps101 (fun d=>?_)
 refine Z1 ?_;refine A2 [0,1,2,9] ?_;refine Z29 ?_;refine A9 Tryz.call68 (c68 c hc _) ?_;refine A4 ?_;refine A2 [0,1,2,9,12] ?_
 refine A3 (fun ht12=>?_) (fun ht12=>?_)
 ·have hr:D8 c=false:=by rw [Nw] at ht12;simpa using ht12
  refine Yr ?_;exact AOy
 have hr:D8 c=true:=by rw [Nw] at ht12;simpa using ht12
 refine Xd ?_;refine A9 Tryz.call138 (ATd c hc take ht _) ?_;refine A4 ?_;refine A2 [0,1,2,9,16] ?_
 refine A3 (fun ht16=>?_) (fun ht16=>?_)
 ·have hk:Gz c take=false:=by simpa using ht16
  refine Yr ?_;refine Z13 ?_;exact A8 (B1 A7 A7) ⟨by rw [tr hr hk];try rfl,rfl⟩
 have hk:Gz c take=true:=by simpa using ht16
 refine Z4 ?_;refine Z37 ?_;refine A2 [0,1,2,8,9] ?_;refine Z74 ?_;refine Yn 0 2 ?_
 refine Pu (fun hlow=>?_)
 refine Z0 ?_;refine A9 Tryz.call139 (ATf c take _) ?_;refine A2 [2,8,9,19] ?_;refine Mi ?_
 refine Sb (m:=1) Tryz.call167 (fun FR as' bd' hFR has hbd=>?_)
 have hFRl:∀s,Low (Hp.length+3) (FR s):=by
  intro s
  rw [hFR]
  refine Uw ?_
  revert s
  repeat (first|exact Bq|refine Bp (by simp [oid,or_imp,forall_and]<;>try omega) ?_)
 have hOl:∀{k:Nat},∀x∈[AObj.cells 22 [.slice true 2 ((Ch (c.take k) take).map Bj)],AObj.defs,AObj.loop LoopState.ready none FR 41 #[20] as' bd' (oid Hp.length 1)],ObjLow (Hp.length+3) x:=by
  intro k x hx
  simp only [Bu,Fi,or_false] at hx
  rcases hx with rfl|rfl|rfl
  ·intro y hy
   rw [Bs.1 hy]
   exact Dj
  ·trivial
  exact ADo
 refine ⟨_,ATg (oid Hp.length 2) c take hc.len ht (fun k=>Hp++[AObj.cells 22 [.slice true 2 ((Ch (c.take k) take).map Bj)],AObj.defs,AObj.loop LoopState.ready none FR 41 #[20] as' bd' (oid Hp.length 1)]) (fun k=>by simp) (by simp [oid]) (fun k x hx=>?_) (fun k y hk hcn=>by simp only [er hk hcn]) (fun k y X hk hcn=>?_),?_⟩
 ·have:=Om (fun x hx=>Vg (by omega) (hlow x hx)) hOl x hx
  simpa using this
 ·generalize hV:Hp++[AObj.cells 22 [.slice true 2 ((Ch (c.take k) take).map Bj)],AObj.defs,AObj.loop LoopState.ready none FR 41 #[20] as' bd' (oid Hp.length 1)]++X=V
  have hL:V[oid Hp.length 2]? = some (AObj.loop LoopState.ready none FR 41 #[20] as' bd' (oid Hp.length 1)):=by rw [←hV,C9,C0];rfl
  have hA0:V[oid Hp.length 0]? = some (AObj.cells 22 [.slice true 2 ((Ch (c.take k) take).map Bj)]):=by rw [←hV,C9,C0];rfl
  refine S3 (pd:=none) (fr:=FR) (sz:=41) (ps:=#[20]) (df:=oid Hp.length 1) (asg:=as') (bd:=bd') hL rfl (by decide) (fun d=>?_)
  subst hFR has hbd
  refine Hh [8,20] ?_;refine Ix ?_;refine Z20 ?_;refine A2 [8,9] ?_
  refine ⟨rfl,none,hL,?_⟩
  generalize hbz:(AObj.loop LoopState.busy _ _ _ _ _ _ _)=bz
  have hA:(V.set (oid Hp.length 2) bz)[oid Hp.length 0]? = some (AObj.cells 22 [.slice true 2 ((Ch (c.take k) take).map Bj)]):=by rw [Ed (Cv (by decide))];exact hA0
  refine Mi ?_;refine Ix ?_;refine R.loadUpT jA hA ?_;refine Z54 ?_
  refine Ee jU Tryz.type36 ?_ ?_ ?_
  ·have h1:=Ih (c.take k) take;have h2:=hc.len;simp only [Bx] at h1;simp [Tryz.t36];omega
  ·have h1:=Ih (c.take k) take;have h2:=hc.len;simp only [Bx] at h1;simp [Tryz.t36];omega
  refine J1 jS (getset hA) ?_ ?_
  ·exact AA0
  refine Yq ?_
  subst hbz
  refine AHq ?_
  refine ⟨rfl,?_⟩
  subst hV
  simp only [C9,Hm,Fe,F5,List.set_cons_succ,List.set_cons_zero]
  rw [w5 hk hcn,C4]
  rfl
 rintro r H' rfl
 simp only [Ta]
 refine ⟨Hp,_,_,_,rfl,rfl,fun h=>h,?_,rfl,by simp,?_⟩
 ·intro o ho
  have:o=oid Hp.length 1:=by simpa using ho
  subst this
  rw [C0]
  rfl
 refine Z11 ?_;refine Ec ?_;refine R.loadOwnT jA ?_;refine A4 ?_
 refine Ee jU Tryz.type36 ?_ ?_ ?_
 ·have h1:=Ih c take;have h2:=Nx hr;simp [Tryz.t36];omega
 ·have h1:=Ih c take;have h2:=Nx hr;simp [Tryz.t36];omega
 refine ip jS ?_;refine A2 [8] ?_;refine X6 ?_
 have e10:(Ch c take).map Bj++give.map Bj=(Ch c take++give).map Bj:=(C4 ..).symm
 rw [e10]
 generalize hout:Ch c take++give=out
 have ho:OkCols out:=u4 hc hr hg hg2 hout
 refine A4 ?_;refine A9 Tryz.call140 (ATe out ho _) ?_;refine Z0 ?_;refine A2 [8,28] ?_
 refine A3 (fun ht28=>?_) (fun ht28=>?_)
 ·have hn:J2 out=false:=by simpa using ht28
  refine Yr ?_;refine Z21 ?_;exact A8 (B1 A7 A7) ⟨by rw [tt hr hk hout hn];try rfl,rfl⟩
 have hn:J2 out=true:=by simpa using ht28
 refine Z2 ?_;refine A9 Tryz.call34 (c34 out ho _) ?_;refine Z0 ?_;refine A2 [8,32] ?_
 refine A3 (fun ht32=>?_) (fun ht32=>?_)
 ·have hq:H5 out=false:=by rw [N6] at ht32;simpa using ht32
  refine Yr ?_;refine Z21 ?_;exact A8 (B1 A7 A7) ⟨by rw [tw hr hk hout hn hq];try rfl,rfl⟩
 have hq:H5 out=true:=by rw [N6] at ht32;simpa using ht32
 refine Z25 ?_;refine A2 [8,36] ?_
 refine A3 (fun ht36=>?_) (fun ht36=>?_)
 ·have h12:12<out.length:=by simp at ht36;omega
  refine Yr ?_;refine Z21 ?_;exact A8 (B1 A7 A7) ⟨by rw [tx hr hk hout hn hq h12];try rfl,rfl⟩
 have h12:¬12<out.length:=by simp at ht36;omega
 refine Z17 ?_;refine rf ?_;refine Dd ?_;exact A8 (B1 A7 A7) ⟨by rw [tz hr hk hout hn hq h12];try rfl,rfl⟩

theorem c6u (c:List Col) (Hp:List AObj):AFun Tryz.prog 19 [An c] Hp (B4 (J6 c)):=by
 refine Ah [.tmp 2] [0] Tryz.func19 Tryz.ntmps19 (fun d=>?_)
 refine j4 ?_;refine A2 [0,6] ?_
 refine A3 (fun ht6=>?_) (fun ht6=>?_)
 ·rw [Am] at ht6
  have hm:J6 c=true:=by unfold J6;rw [ht6];rfl
  exact ADb
 rw [Am] at ht6
 have hl50:c.length≤50:=by simp at ht6;omega
 refine yt ?_
 refine Az (α:=Nat) (fun x=>⟨20,A6 0 (An c) (A6 3 (A5 (x:Nat)) (fun _=>.any)),Hp,[],[],none⟩) (fun x=>x≤c.length∧∀(j:Nat) (v:Col),j<x→c[j]? = some v→decide ((100:Int)<(v.name.length:Int))=false) (fun x=>c.length-x) (0) ⟨Ap _,fun j v h=>by omega⟩ (B2 (by simp)) rfl (fun x hx=>?_)
 refine AHh ?_
 refine A3 (fun ht10=>?_) (fun ht10=>?_)
 ·have hlt:x<c.length:=by simpa using ht10
  refine Se ?_
  refine A4 (h:=Ac (x) (Bj c[x]) (fun _=>Aw hlt)) (hr:=?_)
  refine Z70 ?_;refine A2 [0,3,19] ?_
  refine A3 (fun ht19=>?_) (fun ht19=>?_)
  ·have hm:J6 c=true:=by unfold J6;rw [Co];exact .inr (Jx.2 ⟨c[x],Av hlt,ht19⟩)
   exact AHa
  refine Z17 ?_;refine Z52 ?_
  refine A4 (h:=Q.add64 (h1:=fun _=>by omega) (h2:=fun _=>by omega)) (hr:=?_)
  refine A4 ?_;refine Oj ?_;exact AOn
 have hxe:c.length≤x:=by simpa using ht10
 have hm:J6 c=false:=by
  unfold J6
  rw [ht6,C7,M8]
  intro v hv
  obtain ⟨j,hj⟩:=Cf hv
  have:=hx.2 j v (by have:=(Ad.1 hj).1;omega) hj
  rw [this]
  simp
 exact ADf

/-- law18.Wide. -/
def Ms (m:Mov):Bool:=(((((J6 m.give || decide ((20:Int)<(m.take.length:Int))) || decide ((20:Int)<(m.ahead.length:Int))) || decide ((20:Int)<(m.back.length:Int))) || m.take.any fun s=>decide ((100:Int)<(s.length:Int))) || m.ahead.any Zz) || m.back.any Zz
def Jn (l:List Mov):Bool:=decide ((12:Int)<(l.length:Int)) || l.any Ms
theorem Il {α:Type} {p:α→Bool} {l:List α} {x:Nat} (h:l.length≤x) (hp:∀(j:Nat) (v:α),j<x→l[j]? = some v→p v=false):l.any p=false:=by
 rw [M8]
 intro v hv
 obtain ⟨j,hj⟩:=Cf hv
 rw [hp j v (by have:=(Ad.1 hj).1;omega) hj]
 simp
theorem Lw {n:Nat} {m:Mov}:∀y∈Nj m,Low n y:=by
 intro y hy
 simp only [Nj,Bu,Fi,or_false] at hy
 rcases hy with rfl|rfl|rfl|rfl|rfl<;>simp [or_imp,forall_and,B7]
theorem ou {n:Nat} {m:Mov}:Low n (Fv m):=Go.SX.low_agg.2 Lw
theorem Fg {n k:Nat} {o:Bool} {l:List Mov}:Low n (.slice o k (l.map Fv)):=low_slice.2 fun y hy=>by
 obtain ⟨m,_,rfl⟩:=D6.1 hy
 exact ou
theorem Iv {α:Type} {p:α→Bool} (l:List α):(l.any fun s => !(p s)) = !(l.all p):=by
 induction l with
 | nil=>rfl
 | cons a r ih=>rw [List.any_cons,List.all_cons,ih];cases p a<;>simp
theorem c20 (l:List Mov) (Hp:List AObj):AFun Tryz.prog 20 [E6 l] Hp (B4 (Jn l)):=by
 refine Ah [.tmp 2] [0] Tryz.func20 Tryz.ntmps20 (fun d=>?_)
 refine j4 ?_;refine A2 [0,10] ?_
 refine A3 (fun ht10=>?_) (fun ht10=>?_)
 ·rw [Am] at ht10
  have hm:Jn l=true:=by unfold Jn;rw [ht10];rfl
  exact ADb
 rw [Am] at ht10
 have hl12:l.length≤12:=by simp at ht10;omega
 refine yt ?_
 refine Az (α:=Nat) (fun x=>⟨82,A6 0 (E6 l) (A6 3 (A5 (x:Nat)) (fun _=>.any)),Hp,[],[],none⟩) (fun x=>x≤l.length∧∀(j:Nat) (v:Mov),j<x→l[j]? = some v→Ms v=false) (fun x=>l.length-x) (0) ⟨Ap _,fun j v h=>by omega⟩ (B2 (by simp)) rfl (fun x hx=>?_)
 refine Z50 ?_;refine A2 [0,3,14] ?_
 refine A3 (fun ht14=>?_) (fun ht14=>?_)
 ·have hlt:x<l.length:=by simpa using ht14
  have hbad:Ms l[x]=true→Jn l=true:=fun h=>by unfold Jn;rw [Co];exact .inr (Jx.2 ⟨l[x],Av hlt,h⟩)
  refine Se ?_
  refine A4 (h:=Ac (x) (Fv l[x]) (fun _=>Aw hlt)) (hr:=?_)
  refine X9 ?_;refine A2 [0,3,4] ?_;refine Z8 ?_;refine A9 Tryz.call19 (c6u l[x].give _) ?_;refine A4 ?_;refine Pw ?_;refine rt ?_;refine Z44 ?_;refine Z97 ?_;refine A2 [0,3,4,41] ?_
  refine A3 (fun ht41=>?_) (fun ht41=>?_)
  ·simp only [Am] at ht41
   have hm:Jn l=true:=hbad (by unfold Ms;rw [ht41];rfl)
   refine Z28 ?_;refine F8 ?_;exact rd
  simp only [Am] at ht41
  have hk:l[x].take.length≤20∧l[x].ahead.length≤20∧l[x].back.length≤20:=by simp only [Cq,decide_eq_false_iff_not] at ht41;omega
  refine Sd ?_;refine A2 [0,3,4,5] ?_
  refine Az (α:=Nat) (fun a=>⟨82,A6 0 (E6 l) (A6 3 (A5 (x:Nat)) (A6 4 (.ptr (oid Hp.length 0) 0) (A6 5 (A5 (a:Nat)) (fun _=>.any)))),Hp,[.cells 54 (Nj l[x])],[],none⟩) (fun a=>a≤l[x].take.length∧∀(j:Nat) v,j<a→l[x].take[j]? = some v→(fun s:Str=>decide ((100:Int)<(s.length:Int))) v=false) (fun a=>l[x].take.length-a) (0) ⟨Ap _,fun j v h=>by omega⟩ (B2 (by simp)) rfl (fun a ha=>?_)
  refine Oi ?_;refine A2 [0,3,4,5,46] ?_
  refine A3 (fun ht46=>?_) (fun ht46=>?_)
  ·have ha1:a<l[x].take.length:=by simpa using ht46
   refine Xa ?_
   refine A4 (h:=Ac (a) (Af l[x].take[a]) (fun _=>Aw ha1)) (hr:=?_)
   refine Z10 ?_;refine A2 [0,3,4,5,55] ?_
   refine A3 (fun ht55=>?_) (fun ht55=>?_)
   ·have hm:Jn l=true:=hbad (by unfold Ms;rw [ht41,Jx.2 ⟨_,Av ha1,ht55⟩];rfl)
    refine cm ?_;exact rd
   refine Z71 ?_;refine A2 [0,3,4,5] ?_;exact Ay (a+1) ⟨ha1,C1 ha1 ha.2 ht55⟩ (by omega) (Bh rfl)
  have hae:l[x].take.length≤a:=by simpa using ht46
  have e1:=Il hae ha.2
  refine Z45 ?_;refine Z29 ?_;refine A2 [0,3,4,6] ?_
  refine Az (α:=Nat) (fun b=>⟨82,A6 0 (E6 l) (A6 3 (A5 (x:Nat)) (A6 4 (.ptr (oid Hp.length 0) 0) (A6 6 (A5 (b:Nat)) (fun _=>.any)))),Hp,[.cells 54 (Nj l[x])],[],none⟩) (fun b=>b≤l[x].ahead.length∧∀(j:Nat) v,j<b→l[x].ahead[j]? = some v→Zz v=false) (fun b=>l[x].ahead.length-b) (0) ⟨Ap _,fun j v h=>by omega⟩ (B2 (by simp)) rfl (fun b hb=>?_)
  refine Oi ?_;refine A2 [0,3,4,6,60] ?_
  refine A3 (fun ht60=>?_) (fun ht60=>?_)
  ·have hb1:b<l[x].ahead.length:=by simpa using ht60
   refine Xa ?_
   refine A4 (h:=Ac (b) (Ab l[x].ahead[b]) (fun _=>Aw hb1)) (hr:=?_)
   refine A4 ?_;refine A9 Tryz.call39 (c39 l[x].ahead[b] _) ?_;refine A2 [0,3,4,6,68] ?_
   refine A3 (fun ht68=>?_) (fun ht68=>?_)
   ·have hm:Jn l=true:=hbad (by unfold Ms;rw [Jx.2 ⟨_,Av hb1,ht68⟩];simp)
    refine cm ?_;exact rd
   refine Z71 ?_;refine A2 [0,3,4,6] ?_;exact Ay (b+1) ⟨hb1,C1 hb1 hb.2 ht68⟩ (by omega) (Bh rfl)
  have hbe:l[x].ahead.length≤b:=by simpa using ht60
  have e2:=Il hbe hb.2
  refine Xc ?_;refine A2 [0,3,4,7] ?_
  refine Az (α:=Nat) (fun e=>⟨82,A6 0 (E6 l) (A6 3 (A5 (x:Nat)) (A6 4 (.ptr (oid Hp.length 0) 0) (A6 7 (A5 (e:Nat)) (fun _=>.any)))),Hp,[.cells 54 (Nj l[x])],[],none⟩) (fun e=>e≤l[x].back.length∧∀(j:Nat) v,j<e→l[x].back[j]? = some v→Zz v=false) (fun e=>l[x].back.length-e) (0) ⟨Ap _,fun j v h=>by omega⟩ (B2 (by simp)) rfl (fun e he=>?_)
  refine Oi ?_;refine A2 [0,3,4,7,73] ?_
  refine A3 (fun ht73=>?_) (fun ht73=>?_)
  ·have he1:e<l[x].back.length:=by simpa using ht73
   refine Xa ?_
   refine A4 (h:=Ac (e) (Ab l[x].back[e]) (fun _=>Aw he1)) (hr:=?_)
   refine A4 ?_;refine A9 Tryz.call39 (c39 l[x].back[e] _) ?_;refine A2 [0,3,4,7,81] ?_
   refine A3 (fun ht81=>?_) (fun ht81=>?_)
   ·have hm:Jn l=true:=hbad (by unfold Ms;rw [Jx.2 ⟨_,Av he1,ht81⟩];simp)
    refine Z28 ?_;refine Z6 ?_;refine Mg ?_;exact rd
   refine Z71 ?_;refine A2 [0,3,4,7] ?_;exact Ay (e+1) ⟨he1,C1 he1 he.2 ht81⟩ (by omega) (Bh rfl)
  have hee:l[x].back.length≤e:=by simpa using ht73
  have e3:=Il hee he.2
  have e4:Ms l[x]=false:=by unfold Ms;rw [ht41,e1,e2,e3];rfl
  refine rm ?_;refine Z83 ?_;refine Oj ?_;refine Ay (x+1) ⟨hlt,C1 hlt hx.2 e4⟩ (by omega) ?_
  exact Dq (own:=[]) (fun _=>.refl _) (by repeat (first|exact Bq|refine Bp (by first|(simp [or_imp,forall_and];done)|exact Fg|(simp [oid]<;>omega)) ?_)) (by simp) (by simp)
 have hxe:l.length≤x:=by simpa using ht14
 have hm:Jn l=false:=by unfold Jn;rw [ht10,Il hxe hx.2];rfl
 exact ADf

theorem c76 (l:List Expr) (h:OkEs l) (Hp:List AObj):AFun Tryz.prog 76 [L8 l] Hp (B4 (l.all Eb)):=by
 refine Ah [.tmp 2] [0] Tryz.func76 Tryz.ntmps76 (fun d=>?_)
 refine rr ?_;refine Oj ?_
 refine Az (α:=Nat) (fun x=>⟨16,A6 0 (L8 l) (A6 3 (A5 (x:Nat)) (fun _=>.any)),Hp,[],[],none⟩) (fun x=>x≤l.length∧∀(j:Nat) (v:Expr),j<x→l[j]? = some v→(!Eb v)=false) (fun x=>l.length-x) (0) ⟨Ap _,fun j v h=>by omega⟩ (B2 (by simp)) rfl (fun x hx=>?_)
 refine Z50 ?_;refine A2 [0,3,7] ?_
 refine A3 (fun ht7=>?_) (fun ht7=>?_)
 ·have hlt:x<l.length:=by simpa using ht7
  have hlen:=h.len
  refine Se ?_
  refine A4 (h:=Ac (x) (Ab l[x]) (fun _=>Aw hlt)) (hr:=?_)
  refine A4 ?_;refine A9 Tryz.call106 (ARf 61 l[x] (h.ok _ (Av hlt)) (by decide) (h.size _ (Av hlt)) _) ?_;refine A4 ?_;refine A2 [0,3,15] ?_
  refine A3 (fun ht15=>?_) (fun ht15=>?_)
  ·have hm:l.all Eb=false:=by rw [Rv];exact ⟨_,Av hlt,by simpa using ht15⟩
   exact AHa
  refine re ?_;exact Ay (x+1) ⟨hlt,C1 hlt hx.2 ht15⟩ (by omega) (Bh rfl)
 have hxe:l.length≤x:=by simpa using ht7
 have hm:l.all Eb=true:=by have:=Il hxe hx.2;rw [Iv] at this;simpa using this
 exact ADf

theorem be (k w:Int) (Hp:List AObj):AFun Tryz.prog 151 [A5 k,A5 w] Hp (B4 (Fm k w)):=by
 refine Ah [.tmp 4] [0,1] Tryz.func151 Tryz.ntmps151 (fun d=>?_)
 refine Z61 ?_;refine Z19 ?_;refine Z94 ?_;exact AH3

theorem AUx (n:Nat) (e:Expr) (hok:okE n e) (hn:n≤1048576) (c:List Col) (hc:OkCols c) (w:Int) (Hp:List AObj):AFun Tryz.prog 142 [Ab e,An c,A5 w] Hp (B4 (Ww e c w)):=by
 refine Ah [.tmp 6] [0,1,2] Tryz.func142 Tryz.ntmps142 (fun d=>?_)
 refine Z1 ?_;refine A2 [1,2,3] ?_;refine Z1 ?_;refine A9 Tryz.call141 (ARz n e hok hn c hc _) ?_;refine Z63 ?_;refine A2 [2,7,8] ?_;refine Z19 ?_;refine Pw ?_;refine Z94 ?_;refine r8 ?_;exact A8 (Ae A7) ⟨by unfold Ww;rfl,rfl⟩

theorem Fl {ks:List Int} {i:Nat} (h:i<ks.length):(ks.map A5)[i]? = some (A5 (ks.getD i 0)):=by
 rw [Ce,Aa h,D4,Aa h]
 rfl
theorem ANk {e:Expr} (h:E9 e=true) (h3:(e.op==3)=true):e.kids.length=1:=by
 have h3':e.op=3:=by simpa using h3
 have:=Ny h (by rw [h3'];rfl) (by rw [h3'];rfl)
 rw [←this,h3'];rfl
theorem ANl {e:Expr} (h:E9 e=true) (h4:(e.op==4)=true):e.kids.length=1:=by
 have h4':e.op=4:=by simpa using h4
 have:=Ny h (by rw [h4'];rfl) (by rw [h4'];rfl)
 rw [←this,h4'];rfl
theorem k9 {e:Expr} (h:E9 e=true) (h5:(e.op==5)=true):e.kids.length=2:=by
 have h5':e.op=5:=by simpa using h5
 have:=Ny h (by rw [h5'];rfl) (by rw [h5'];rfl)
 rw [←this,h5']
 exact So _
theorem ANm {e:Expr} (h:E9 e=true) (h1:(e.op==1)=false) (h2:(e.op==2)=false) (h3:(e.op==3)=false) (h4:(e.op==4)=false) (h5:(e.op==5)=false):e.kids.length=(Dy e.text).kids.length:=by
 have:=Ny h h1 h2
 rw [←this]
 unfold Jt
 rw [h3,h4,h5]
 rfl
theorem AJq {a b:Bool} (h:(a&&b)=true):a=true:=by cases a<;>simp_all
theorem AUy (c:List Col) (hc:OkCols c):∀(n:Nat) (e:Expr),okE n e→Et E9 e=true→∀Hp:List AObj,AFun Tryz.prog 107 [Ab e,An c] Hp (.tup [A5 (Bt c e).1,A5 (Bt c e).2]):=by
 intro n
 induction n with
 | zero=>exact fun e h=>h.elim
 | succ n ih =>
 intro e hok hnd Hp
 have hnd0:=hnd
 rw [Jk,As] at hnd0
 refine Ah [.tmp 4,.tmp 5] [0,1] Tryz.func107 Tryz.ntmps107 (fun d=>?_)
 refine ADg ?_;refine Z33 ?_;refine A2 [1,2,17] ?_
 refine A3 (fun ht17=>?_) (fun ht17=>?_)
 ·have hk:=o9 (c:=c) ht17
  refine Z1 ?_;refine Z10 ?_;exact ALy
 refine Nn ?_;refine A2 [1,2,23] ?_
 refine A3 (fun ht23=>?_) (fun ht23=>?_)
 ·have hk:=fh (c:=c) ht17 ht23
  refine Z19 ?_;refine A9 Tryz.call33 (c33 c hc e.text _) ?_;refine A4 ?_;refine A2 [1,6] ?_;refine Z8 ?_;refine A2 [1,6,29] ?_
  refine A3 (fun ht29=>?_) (fun ht29=>?_)
  ·have hk2:Ro c e.text=(0,9):=if_pos (by simpa using ht29)
   refine z4 ?_;refine F8 ?_;exact AHt
  have hneg:¬(Bn e.text c<0):=by simpa using ht29
  obtain ⟨j,hj,hjl⟩:=Jm hneg
  have hk2:Ro c e.text=(c[j].kind,0):=by
   unfold Ro
   rw [if_neg hneg,hj,Int.toNat_natCast,D4,Aa hjl]
   rfl
  rw [hj]
  refine Lq ?_
  refine A4 (h:=Ac (j) (Bj c[j]) (fun _=>Aw hjl)) (hr:=?_)
  refine Z70 ?_;refine Z85 ?_;exact AHt
 refine Z4 ?_;refine lr ?_;refine A2 [1,2,7] ?_;refine Z29 ?_;refine A2 [1,2,7,8] ?_
 refine Az (α:=Nat) (fun x=>⟨237,A6 1 (An c) (A6 2 (.ro (Dz e)) (A6 7 (.slice true 1 (((e.kids.take x).map fun y=>(Bt c y).1).map A5)) (A6 8 (A5 (x:Nat)) (fun _=>.any)))),Hp,[],[],none⟩) (fun x=>x≤e.kids.length∧∀(j:Nat) (y:Expr),j<x→e.kids[j]? = some y→((Bt c y).2 != 0)=false) (fun x=>e.kids.length-x) (0) ⟨Ap _,fun j y h=>by omega⟩ (B2 (by simp)) rfl (fun x hx=>?_)
 refine Oi ?_;refine A2 [1,2,7,8,40] ?_
 refine A3 (fun ht40=>?_) (fun ht40=>?_)
 ·have hlt:x<e.kids.length:=by simpa using ht40
  have hkl:=hok.2.1
  refine Xa ?_
  refine A4 (h:=Ac (x) (Ab e.kids[x]) (fun _=>Aw hlt)) (hr:=?_)
  refine Z0 ?_;refine A9 Tryz.call107 (ih e.kids[x] (hok.2.2 _ (Av hlt)) ((F3 _ _).1 hnd0.2 _ (Av hlt)) _) ?_;refine Z63 ?_;refine A2 [1,2,7,8,9,10] ?_;refine Z8 ?_;refine A2 [1,2,7,8,9,10,54] ?_
  refine A3 (fun ht54=>?_) (fun ht54=>?_)
  ·have hkb:=oa (c:=c) ht17 ht23 hlt hx.2 ht54
   refine Z19 ?_;refine Z85 ?_;exact APj
  refine z9 ?_
  refine Ee jU Tryz.type3 ?_ ?_ ?_
  ·simp only [Am,Bx,B6,Bw,Tryz.t3];omega
  ·simp only [Am,Bx,B6,Bw,Tryz.t3];omega
  refine Lr ?_;refine A2 [1,2,7,8] ?_;refine Z83 ?_;refine A2 [1,2,7,8] ?_
  refine Ay (x+1) ⟨hlt,C1 hlt hx.2 ht54⟩ (by omega) (Bh ?_)
  simp only [show Tryz.t3.size=1 from rfl,fj]
  rfl
 have hxe:e.kids.take x=e.kids:=D9 (by simp at ht40;omega)
 have hka:=ob (c:=c) ht17 ht23 (fun j y hj hy=>hx.2 j y (by have:=hx.1;simp at ht40;omega) hy)
 have hrf:=AJo hnd0.1 ht17 ht23 (ks:=e.kids.map fun y=>(Bt c y).1) (by simp)
 have hks:(e.kids.map fun y=>(Bt c y).1).length=e.kids.length:=by simp
 rw [hxe]
 generalize (e.kids.map fun y=>(Bt c y).1)=ks at *
 refine Z45 ?_;refine Z1 ?_;refine A2 [2,7,12] ?_
 refine W.join ⟨237,A6 11 (A5 (Hl e.op e.text ks).1) (A6 12 (B4 (Hl e.op e.text ks).2) (fun _=>.any)),Hp,[],[],none⟩ ?_ ?_
 ·refine Mi ?_;refine Z25 ?_;refine A2 [2,7,12,94] ?_
  refine A3 (fun ht94=>?_) (fun ht94=>?_)
  ·have hl:=ANk hnd0.1 ht94
   refine Z52 ?_
   refine A4 (h:=Ac (0) (A5 (ks.getD 0 0)) (fun _=>Fl (by omega))) (hr:=?_)
   refine AM1 ?_;refine Z0 ?_;refine Yp ?_
   unfold Hl
   simp only [ht17,ht23,ht40,ht94,Ey,Dm,Db,C7,Ag,↓reduceIte]<;>rfl
  refine Z25 ?_;refine A2 [2,7,12,102] ?_
  refine A3 (fun ht102=>?_) (fun ht102=>?_)
  ·have hl:=ANl hnd0.1 ht102
   refine Z52 ?_
   refine A4 (h:=Ac (0) (A5 (ks.getD 0 0)) (fun _=>Fl (by omega))) (hr:=?_)
   refine A4 ?_;refine A9 Tryz.call151 (be (ks.getD 0 0) 3 _) ?_;refine Z0 ?_;refine Yp ?_
   unfold Hl
   simp only [ht17,ht23,ht40,ht94,ht102,Ey,Dm,Db,C7,Ag,↓reduceIte]<;>rfl
  refine Z25 ?_;refine Pw ?_;refine Pw ?_;refine Z0 ?_;refine A2 [2,7,12,110] ?_
  refine A3 (fun ht110=>?_) (fun ht110=>?_)
  ·have hl:=k9 hnd0.1 (AJq ht110)
   refine Z52 ?_
   refine A4 (h:=Ac (0) (A5 (ks.getD 0 0)) (fun _=>Fl (by omega))) (hr:=?_)
   refine A4 ?_;refine A9 Tryz.call151 (be (ks.getD 0 0) 3 _) ?_;refine z6 ?_
   refine Bd (h:=Ac (1) (A5 (ks.getD 1 0)) (fun _=>Fl (by omega))) (hr:=?_)
   refine Bd ?_;refine Bm Tryz.call151 (fun hB=>be (ks.getD 1 0) 3 _) ?_;refine Z10 ?_;refine Yp ?_
   unfold Hl
   simp only [ht17,ht23,ht40,ht94,ht102,ht110,Ey,Dm,Db,C7,Ag,↓reduceIte]<;>rfl
  refine Z25 ?_;refine Z7 ?_;refine Bm Tryz.call82 (fun hB=>c82 e.text _) ?_;refine Bd ?_;refine Z0 ?_;refine A2 [2,7,12,134] ?_
  refine A3 (fun ht134=>?_) (fun ht134=>?_)
  ·have hl:=k9 hnd0.1 (AJq ht134)
   refine W.drawQ0 [0,1,3,7,15,31,63,127,31,287,799,2047,4095,4095,16383] 14 Ai (by kernel_rfl) ?_;refine Ak ?_
   refine Ak (h:=Ac (0) (A5 (ks.getD 0 0)) (fun _=>Fl (by omega))) (hr:=?_)
   refine Z40 ?_;refine Ei ?_
   refine Ei (h:=Ac (1) (A5 (ks.getD 1 0)) (fun _=>Fl (by omega))) (hr:=?_)
   refine Z56 ?_
   refine Ei (h:=Ac (0) (A5 (ks.getD 0 0)) (fun _=>Fl (by omega))) (hr:=?_)
   refine Ei ?_;refine V1 Tryz.call151 (fun hB=>be (ks.getD 1 0) (ks.getD 0 0) _) ?_;refine rn ?_;refine Yp ?_
   unfold Hl
   simp only [ht17,ht23,ht40,ht94,ht102,ht110,ht134,Ey,Dm,Db,C7,Ag,↓reduceIte]<;>rfl
  refine lz ?_;refine A2 [2,7,12,157] ?_
  refine A3 (fun ht157=>?_) (fun ht157=>?_)
  ·have hl:=k9 hnd0.1 (AJq ht157)
   refine Z52 ?_
   refine A4 (h:=Ac (0) (A5 (ks.getD 0 0)) (fun _=>Fl (by omega))) (hr:=?_)
   refine AM2 ?_;refine z6 ?_
   refine Bd (h:=Ac (1) (A5 (ks.getD 1 0)) (fun _=>Fl (by omega))) (hr:=?_)
   refine Bd ?_;refine Bm Tryz.call151 (fun hB=>be (ks.getD 1 0) 2 _) ?_;refine Z10 ?_;refine Yp ?_
   unfold Hl
   simp only [ht17,ht23,ht40,ht94,ht102,ht110,ht134,ht157,Ey,Dm,Db,C7,Ag,↓reduceIte]<;>rfl
  refine Z25 ?_;refine A2 [2,7,12,176] ?_
  refine A3 (fun ht176=>?_) (fun ht176=>?_)
  ·have hl:=k9 hnd0.1 ht176
   rw [ht176,Dm] at ht110 ht134 ht157
   refine Z52 ?_
   refine A4 (h:=Ac (0) (A5 (ks.getD 0 0)) (fun _=>Fl (by omega))) (hr:=?_)
   refine AM1 ?_;refine z6 ?_
   refine Bd (h:=Ac (1) (A5 (ks.getD 1 0)) (fun _=>Fl (by omega))) (hr:=?_)
   refine Bd ?_;refine Bm Tryz.call151 (fun hB=>be (ks.getD 1 0) 1 _) ?_;refine Z10 ?_;refine Yp ?_
   unfold Hl
   simp only [ht17,ht23,ht40,ht94,ht102,ht110,ht134,ht157,ht176,Ey,Dm,Db,C7,Ag,↓reduceIte]<;>rfl
  have hl0:=ANm hnd0.1 ht17 ht23 ht94 ht102 ht176
  unfold Dy at hl0
  refine lz ?_;refine A2 [2,7,12,190] ?_
  refine A3 (fun ht190=>?_) (fun ht190=>?_)
  ·have hl:e.kids.length=1:=by rw [hl0,if_pos ht190];rfl
   refine Z52 ?_
   refine A4 (h:=Ac (0) (A5 (ks.getD 0 0)) (fun _=>Fl (by omega))) (hr:=?_)
   refine AM2 ?_;refine Z0 ?_;refine Yp ?_
   unfold Hl
   simp only [ht17,ht23,ht40,ht94,ht102,ht110,ht134,ht157,ht176,ht190,Ey,Dm,Db,C7,Ag,↓reduceIte]<;>rfl
  rw [if_neg (by rw [ht190];simp)] at hl0
  refine Z25 ?_;refine A2 [2,7,12,203] ?_
  refine A3 (fun ht203=>?_) (fun ht203=>?_)
  ·have hl:e.kids.length=1:=by rw [hl0,if_pos ht203];rfl
   refine Z52 ?_
   refine A4 (h:=Ac (0) (A5 (ks.getD 0 0)) (fun _=>Fl (by omega))) (hr:=?_)
   refine AM1 ?_;refine Z0 ?_;refine Yp ?_
   unfold Hl
   simp only [ht17,ht23,ht40,ht94,ht102,ht110,ht134,ht157,ht176,ht190,ht203,Ey,Dm,Db,C7,Ag,↓reduceIte]<;>rfl
  rw [if_neg (by rw [ht203];simp)] at hl0
  refine lz ?_;refine A2 [2,7,12,211] ?_
  refine A3 (fun ht211=>?_) (fun ht211=>?_)
  ·have hl:e.kids.length=2:=by rw [hl0,if_pos ht211];rfl
   refine Z52 ?_
   refine A4 (h:=Ac (0) (A5 (ks.getD 0 0)) (fun _=>Fl (by omega))) (hr:=?_)
   refine AM2 ?_;refine z6 ?_
   refine Bd (h:=Ac (1) (A5 (ks.getD 1 0)) (fun _=>Fl (by omega))) (hr:=?_)
   refine Bd ?_;refine Bm Tryz.call151 (fun hB=>be (ks.getD 1 0) 1 _) ?_;refine Z10 ?_;refine Yp ?_
   unfold Hl
   simp only [ht17,ht23,ht40,ht94,ht102,ht110,ht134,ht157,ht176,ht190,ht203,ht211,Ey,Dm,Db,C7,Ag,↓reduceIte]<;>rfl
  rw [if_neg (by rw [ht211];simp)] at hl0
  refine Z25 ?_;refine A2 [2,7,12,230] ?_
  refine A3 (fun ht230=>?_) (fun ht230=>?_)
  ·have hl:e.kids.length=1:=by rw [hl0,if_pos ht230];rfl
   refine Z52 ?_;refine Yp ?_
   unfold Hl
   simp only [ht17,ht23,ht40,ht94,ht102,ht110,ht134,ht157,ht176,ht190,ht203,ht211,ht230,Ey,Dm,Db,C7,Ag,↓reduceIte]<;>rfl
  rw [if_neg (by rw [ht230];simp)] at hl0
  have hl:2≤e.kids.length:=by rw [hl0];split<;>simp
  have hl3:=hok.2.1
  refine Cb [0,0,2,6,15,31,0,0,128,384,960,1984,63,8191] 13 Ai (by kernel_rfl) ?_;refine Z40 ?_
  rw [Am]
  refine Ak ?_
  refine Ak (h:=Ac ((ks.length-2)) (A5 (ks.getD (ks.length-2) 0)) (fun _=>Fl (by omega))) (hr:=?_)
  refine Tq ?_
  rw [Am]
  refine Ak ?_
  refine Ak (h:=Ac ((ks.length-1)) (A5 (ks.getD (ks.length-1) 0)) (fun _=>Fl (by omega))) (hr:=?_)
  refine rn ?_;refine A2 [2,7,13,14] ?_;refine Z19 ?_;refine Z7 ?_;refine Bm Tryz.call151 (fun hB=>be (ks.getD (ks.length-1) 0) (ks.getD (ks.length-2) 0) _) ?_;refine Z44 ?_;refine Z38 ?_
  refine Bd (h:=Ac (0) (A5 (ks.getD 0 0)) (fun _=>Fl (by omega))) (hr:=?_)
  refine Bd ?_;refine Bm Tryz.call151 (fun hB=>be (ks.getD 0 0) 3 _) ?_;refine Bd ?_;refine Z0 ?_;refine A2 [12,13,14] ?_;refine Z1 ?_;refine A2 [11,12,13,14] ?_;refine Z1 ?_;refine A2 [11,12,14,92] ?_
  refine A3 (fun ht92=>?_) (fun ht92=>?_)
  ·refine Z31 ?_;refine Yp ?_
   unfold Hl
   simp only [ht17,ht23,ht40,ht94,ht102,ht110,ht134,ht157,ht176,ht190,ht203,ht211,ht230,ht92,Ey,Dm,Db,C7,Ag,↓reduceIte]<;>rfl
  refine Hh [11,12] ?_;refine Je ?_;refine Z90 ?_;refine B2 ?_
  unfold Hl
  simp only [ht17,ht23,ht40,ht94,ht102,ht110,ht134,ht157,ht176,ht190,ht203,ht211,ht230,ht92,Ey,Dm,Db,C7,Ag,↓reduceIte]<;>rfl
 refine Z8 ?_;refine A2 [11,235] ?_
 refine A3 (fun ht235=>?_) (fun ht235=>?_)
 ·refine z4 ?_;exact AQq
 refine No ?_;refine Z77 ?_;exact AQq
theorem c78 (n:Nat) (e:Expr) (hok:okE n e) (hn:n≤1048576) (hs:sizeE e≤1048576) (c:List Col) (hc:OkCols c) (Hp:List AObj):AFun Tryz.prog 78 [Ab e,An c] Hp (.tup [A5 (Eu e c).1,A5 (Eu e c).2]):=by
 refine Ah [.tmp 4,.tmp 5] [0,1] Tryz.func78 Tryz.ntmps78 (fun d=>?_)
 refine ADg ?_;refine Z29 ?_;refine A9 Tryz.call106 (ARf n e hok hn hs _) ?_;refine Sf ?_;refine Bm Tryz.call30 (fun hB=>c30 c hc _) ?_;refine Z93 ?_;refine A2 [1,2,13] ?_
 refine A3 (fun ht13=>?_) (fun ht13=>?_)
 ·have hk:Eu e c=(0,1):=by unfold Eu;rw [G5,N6,if_pos ht13]
  refine Z1 ?_;exact ALy
 have hk:Eu e c=Bt c e:=by unfold Eu;rw [G5,N6,if_neg (by rw [ht13];simp)]
 have hr:Bk e=true:=by rw [G5];simp only [Cq,Jw] at ht13;exact ht13.1
 refine Lq ?_;refine A9 Tryz.call107 (AUy c hc n e hok (Kx hr) _) ?_;refine Z70 ?_;exact APs

theorem ov {e:Expr} {c:List Col} {w:Int} (h:((Eu e c).2 != 0)=false):((((Eu e c).1 != 0)&&((Eu e c).1 != w))) = !Ww e c w:=by
 unfold Ww
 have h0:(Eu e c).2=0:=by simpa using h
 rw [h0]
 show (!((Eu e c).1==0) && !((Eu e c).1==w)) = !(true&&(((Eu e c).1==w) || ((Eu e c).1==0)))
 cases (Eu e c).1==0<;>cases (Eu e c).1==w<;>rfl
theorem AJr {c:List Col} {m:Mov} (h:(m.kind==3)=false):Ba c m=m.give:=by unfold Ba;rw [if_neg (by rw [h];simp)]
theorem x8 {c:List Col} {m:Mov} {s:Str} {y:Col} (h:(m.kind==3)=true) (ht:m.take=[s]) (hg:m.give=[y]) (hf:Bn s c<0):Ba c m=[y]:=by
 unfold Ba
 rw [if_pos h,ht,hg]
 exact if_pos hf
theorem ow {c:List Col} {m:Mov} {s:Str} {y:Col} (h:(m.kind==3)=true) (ht:m.take=[s]) (hg:m.give=[y]) (hf:¬Bn s c<0):Ba c m=[⟨y.name,(c.getD (Bn s c).toNat ⟨[],0⟩).kind⟩]:=by
 unfold Ba
 rw [if_pos h,ht,hg]
 exact if_neg hf
theorem oy (l:List Col):∀x∈l.map Bj,x.cells.length=2:=by
 intro x hx
 obtain ⟨c,_,rfl⟩:=D6.1 hx
 rfl
theorem x9 {c:Col} {y:AV} (h:y∈(Bj c).cells):y=Af c.name∨y=A5 c.kind:=by
 have h':y∈[Af c.name,A5 c.kind]:=h
 simpa using h'
theorem oz (l:List Col):∀x∈l.map Bj,∀y∈x.cells,y.one=true:=by
 intro x hx y hy
 obtain ⟨c,_,rfl⟩:=D6.1 hx
 rcases x9 hy with rfl|rfl<;>rfl
theorem bf (l:List Col):∀x∈l.map Bj,∀y∈x.cells,y.strip=y:=by
 intro x hx y hy
 obtain ⟨c,_,rfl⟩:=D6.1 hx
 rcases x9 hy with rfl|rfl<;>rfl
theorem ka {α:Type} {l:List α} (h:l.length=1):∃y,l=[y]:=by
 match l,h with
 | [y],_=>exact ⟨y,rfl⟩
theorem Xz {c:List Col} {s:Str} (hf:¬Bn s c<0):(c.map Bj)[(Bn s c).toNat]? = some (Bj (c.getD (Bn s c).toNat ⟨[],0⟩)):=by
 obtain ⟨j,hj,hjl⟩:=Jm hf
 rw [hj,Int.toNat_natCast,Ce,Aa hjl,D4,Aa hjl]
 rfl
theorem c50 (n:Nat) (e:Expr) (hok:okE n e) (hn:n≤1048576) (hs:sizeE e≤1048576) (w:Int) (c:List Col) (hc:OkCols c) (Hp:List AObj):AFun Tryz.prog 50 [Ab e,A5 w,An c] Hp (A5 (O1 e c w)):=by
 refine Ah [.tmp 6] [0,1,2] Tryz.func50 Tryz.ntmps50 (fun d=>?_)
 refine Z1 ?_;refine A2 [1,2,3] ?_;refine Z1 ?_;refine A9 Tryz.call78 (c78 n e hok hn hs c hc _) ?_;refine Z63 ?_;refine A2 [1,7,8] ?_;refine Z8 ?_;refine A2 [1,7,8,16] ?_
 refine A3 (fun ht16=>?_) (fun ht16=>?_)
 ·have hm:O1 e c w=(Eu e c).2:=if_pos ht16
  refine Z1 ?_;refine A2 [6] ?_;exact Z57
 refine Nn ?_;refine Oh ?_;refine A2 [24] ?_
 refine A3 (fun ht24=>?_) (fun ht24=>?_)
 ·rw [ov ht16] at ht24
  have hm:O1 e c w=10:=by unfold O1;rw [if_neg (by rw [ht16];simp),if_pos ht24]
  refine Z2 ?_;refine A2 [6] ?_;exact Z57
 rw [ov ht16] at ht24
 have hm:O1 e c w=0:=by unfold O1;rw [if_neg (by rw [ht16];simp),if_neg (by rw [ht24];simp)]
 refine Z92 ?_;exact APx

theorem AUz (c:List Col) (hc:OkCols c) (m:Mov) (h:OkMov m) (h3:(m.kind==3)=false) (Hp:List AObj):AFun Tryz.prog 48 [An c,Fv m] Hp (An (Ba c m)):=by
 refine Ah [.tmp 4] [0,1] Tryz.func48 Tryz.ntmps48 (fun d=>?_)
 refine rg ?_;refine Z84 ?_;refine Z0 ?_
 refine Ee jU Tryz.type36 ?_ ?_ ?_
 ·have:=h.gives2;simp [Tryz.t36];omega
 ·have:=h.gives2;simp [Tryz.t36];omega
 refine Lr ?_;refine AHn ?_;refine A2 [0,3,5,13] ?_
 refine A3 (fun ht13=>?_) (fun ht13=>?_)
 ·rw [h3] at ht13;cases ht13
 refine Lq ?_;exact AP8

theorem AV0 (c:List Col) (hc:OkCols c) (m:Mov) (h:OkMov m) (h3:(m.kind==3)=true) (s:Str) (y:Col) (ht:m.take=[s]) (hg:m.give=[y]) (Hp:List AObj):AFun Tryz.prog 48 [An c,Fv m] Hp (An (Ba c m)):=by
 have hgv:=x8 (c:=c) h3 ht hg
 have hgy:=ow (c:=c) h3 ht hg
 obtain ⟨kd,tk,gv,ah,bk⟩:=m
 simp only at ht hg h3
 subst ht hg
 refine Ah [.tmp 4] [0,1] Tryz.func48 Tryz.ntmps48 (fun d=>?_)
 refine rg ?_;refine Ec ?_;refine R.buildObj0 (n:=0) jU Tryz.sizeOf36 ?_;refine Z0 ?_
 refine R.appendObj (k:=2) (n:=1) jU Tryz.type36 (show [Bj y]≠[] by simp) ?_ ?_ (fun cc hcc=>?_)
 ·simp [Tryz.t36]
 ·simp
 have e0:Ns [Bj y]++List.replicate ((cc-[Bj y].length)*2) AV.any=Af y.name::A5 y.kind::List.replicate ((cc-1)*2) AV.any:=rfl
 rw [e0]
 clear e0
 refine A4 ?_;refine AHn ?_;refine A2 [0,3,5,13] ?_
 refine A3 (fun ht13=>?_) (fun ht13=>?_)
 ·refine Z19 ?_
  refine A4 (h:=Ac (0) (Af s) (fun _=>rfl)) (hr:=?_)
  refine A4 ?_;refine A9 Tryz.call33 (c33 c hc s _) ?_;refine A4 ?_;refine A2 [0,5,6] ?_;refine Z1 ?_;refine A2 [0,5,6,21] ?_
  refine A3 (fun ht21=>?_) (fun ht21=>?_)
  ·have hf:¬Bn s c<0:=by simp at ht21;omega
   obtain ⟨jj,hjj,hjc⟩:=Jm hf
   refine Z23 ?_
   refine A4 (h:=Ac ((Bn s c).toNat) (Bj (c.getD (Bn s c).toNat ⟨[],0⟩)) (fun _=>Xz hf)) (hr:=?_)
   refine Z0 ?_;refine R.indexAddrSl (n:=1) 0 jU Tryz.sizeOf36 (by decide) ?_
   refine A4 (h:=Q.fieldAddrPtr (hc:=rfl)) (hr:=?_)
   refine Nf (y:=A5 (c.getD (Bn s c).toNat ⟨[],0⟩).kind) (ys:=[A5 (c.getD (Bn s c).toNat ⟨[],0⟩).kind]) (n:=1) (cs:=Af y.name::A5 y.kind::List.replicate ((cc-1)*2) AV.any) (cs':=Af y.name::A5 (c.getD (Bn s c).toNat ⟨[],0⟩).kind::List.replicate ((cc-1)*2) AV.any) (t':=36) jS ?_ (hc:=rfl) (hput:=rfl) (hfit:=by simp)
   refine A2 [5] ?_;refine Es ?_;refine Z98 ?_;exact AHg
  have hf:Bn s c<0:=by simp at ht21;omega
  refine Z4 ?_;refine AOd ?_;exact AHg
 rw [h3] at ht13;cases ht13

end Go.SX.Nb
namespace Go.SX
variable [GI:GlobInv]
open Classical
variable {P:Program} {d:Nat} {ops:Array Oper} {rest:List Oper} {sz:Nat} {fr:Nat→AV} {up own:List AObj} {dfs:List Nat} {rnd:Option Nat} {Q:St→Prop} {s:Nat} {ty:TypeId} {pos:String} {aft:Array Edge}
/-- Whether a slice is nil is known only of one that has elements. -/
theorem R.eqlNil {t e u:TypeId} {x y:Operand} {o:Bool} {k:Nat} {xs:List AV} (ht:P.underlying t=some (.slice e)) (hg:P.eqGuardType P.depth t=false)
  (hr:∀b:Bool,(b=true→xs=[])→ARun P d ops rest ⟨sz,A6 s (.v (.bool b)) fr,up,own,dfs,rnd⟩ Q)
  (hx:Bb fr x=.slice o k xs:=by exact sL0) (hy:Bb fr y=.nil:=by exact sL0) (hs:Nat.blt s sz=true:=by rfl):
  ARun P d ops (⟨some s,.binOp .eql t x y u,ty,pos,aft,none⟩::rest) ⟨sz,fr,up,own,dfs,rnd⟩ Q:=by
 refine Ya rfl (Q1:=fun s'=>∃b:Bool,(b=true→xs=[])∧s'=⟨sz,A6 s (.v (.bool b)) fr,up,own,dfs,rnd⟩) ?_ (by rintro _ ⟨b,hb,rfl⟩;exact hr b hb)
 intro G a w hrel Q'
 have h1:=hrel.eval x
 rw [show St.ev ⟨sz,fr,up,own,dfs,rnd⟩ x=.slice o k xs from hx] at h1
 have h2:=hrel.eval y
 rw [show St.ev ⟨sz,fr,up,own,dfs,rnd⟩ y=.nil from hy] at h2
 have key:∀b:Bool,(b=true→xs=[])→(execOp a.eval ⟨some s,.binOp .eql t x y u,ty,pos,aft,none⟩).run P w=.ok (.value (.bool b)) w →
   Oper.wpIn (Fr ((St.mk sz fr up own dfs rnd).rnd.map G.blk)) 0 P ⟨some s,.binOp .eql t x y u,ty,pos,aft,none⟩ a w (Post d ⟨sz,fr,up,own,dfs,rnd⟩ G w (fun s'=>∃b:Bool,(b=true→xs=[])∧s'=⟨sz,A6 s (.v (.bool b)) fr,up,own,dfs,rnd⟩)) Q':=fun b hb hv =>
  Dp (by intro c h;cases h) hv ⟨G,_,hrel.put (y:=.v (.bool b)) (by simpa using hs) (.v _ _),Hf d G w,rfl,rfl,rfl,b,hb,rfl⟩
 generalize hya:a.eval y=vy at h2
 generalize hxa:a.eval x=vx at h1
 cases h2
 cases h1 with
 | slice0=>exact key true (fun _=>rfl) (by simp only [execOp,hxa,hya,eqGuard];simp [Lib.run_eql_slice_nil _ _ _ _ _ _ _ _ ht,hg])
 | sliceE=>exact key false (fun h=>by cases h) (by simp only [execOp,hxa,hya,eqGuard];simp [Lib.run_eql_slice_nil _ _ _ _ _ _ _ _ ht,hg])
 | slice=>exact key false (fun h=>by cases h) (by simp only [execOp,hxa,hya,eqGuard];simp [Lib.run_eql_slice_nil _ _ _ _ _ _ _ _ ht,hg])
/-! A guarded slice that may be appended to. -/
end Go.SX
namespace Go.SX
variable [GI:GlobInv]
open Classical
section
variable {P:Program} {d:Nat}
/-- A call that returns and may leave more objects than it found; they are the caller's. -/
def ACallO (P:Program) (g:FuncId) (args:List AV) (H:List AObj) (post:AV→List AObj→Prop):Prop:=
 ∀(d:Nat) (G:Gh) (w:World) (vs:Array Value),vs.size=args.length→(∀(i:Nat) (y:AV) (u:Value),args[i]? = some y→vs[i]? = some u→Rep G w (some (.slot (d+1) i)) y u)→HeapRel G H w→TagOK G w→GI.bd≤d →
  CallsIn Fence.wide 0 P g vs w (fun e w'=>∃(v:Value) (G':Gh) (r:AV) (H':List AObj),e=.returned v∧Rep G' w' none r v∧HeapRel G' H' w'∧TagOK G' w'∧Keep (d+1) G w G' w'∧post r H')
/-- What is asked at a body's end: the first j of its objects are handed back. -/
def FO (P:Program) (rs:List ResultVar) (n:Nat) (post:AV→List AObj→Prop) (e:Exit) (st':St):Prop:=
 (e=.normal∨e=.ret)∧st'.defs=[]∧∃(r:AV) (rv:ResultVar) (j:Nat),rs=[rv]∧ResV P st' rv r∧Low (n+j) r∧(∀x∈st'.up++st'.own.take j,ObjLow (n+j) x)∧j≤st'.own.length∧post r (st'.up++st'.own.take j)
theorem ACallO.ofBody {g:FuncId} {fn:Func} {c:Code} {args:List AV} {H:List AObj} {post:AV→List AObj→Prop} {rs:List ResultVar} {n:Nat} (hf:P.funcs[g]? = some fn) (hb:fn.body=some c) (hrs:fn.results=rs.toArray)
  (hn:fn.ntmps=n) (hargs:args.length≤n) (h:∀d,AW P (d+1) c ⟨n,argsF args,H,[],[],none⟩ (FO P rs H.length post)):ACallO P g args H post:=by
 intro d G w vs hvs hrep hH hT hTop
 refine callsIn_of_wp_marks hf hb trivial ?_
 have hst:StRel (d+1) G ⟨n,argsF args,H,[],[],none⟩ { tmps:=vs++Array.replicate (fn.ntmps-vs.size) undef,defers:=[] } w:=by
  refine ⟨?_,fun s=>?_,by simpa using hH,(by rw [H4 hTop];rfl),(fun o ho=>by simp at ho),N0,(fun o ho=>by simp at ho),hT,(fun l hl=>by cases hl),fun x hx=>?_,O7 hTop⟩
  ·simp only [M7,gi,hvs,hn];omega
  ·show Rep G w _ (args.getD s (.v undef)) _
   rw [D4,Ko]
   rcases Be s args.length with h'|h'
   ·rw [Aa h',M6 (by omega),Er (by omega)]
    exact hrep s _ _ (Aa h') (Er (by omega))
   rw [G9 h',Rh (by omega)]
   simp only [Option.getD_none]
   have:((Array.replicate (fn.ntmps-vs.size) undef)[s-vs.size]?).getD undef=undef:=by
    rw [Pb];split<;>rfl
   rw [this]
   exact .v _ _
  obtain ⟨i,hi⟩:=Cf hx
  have hob:=hH.obj i x hi
  show ObjLow H.length x
  rw [←hH.n]
  exact hob.low
 have hw:=h d G _ w hst
 refine wpIn_mono hw ?_
 rintro e a' w' ⟨G1,st',h1,k1,e1,e2,e3,hcase,hdefs,r,rv,j,rfl,hres,hlow,hobjs,hj,hpost⟩
 have fin:LeavesInM Fence.wide 0 P fn a'.tmps (fun e w'=>∃(v:Value) (G':Gh) (r:AV) (H':List AObj),e=.returned v∧Rep G' w' none r v∧HeapRel G' H' w'∧TagOK G' w'∧Keep (d+1) G w G' w'∧post r H') a'.defers .returning w':=by
  rw [h1.defs,hdefs,H4 hTop]
  obtain ⟨v,hv,hr⟩:=hres.run h1
  have hupl:st'.up.length=H.length:=e1
  have hgn:G1.n=st'.up.length+st'.own.length:=by rw [h1.heap.n,Ao]
  have hget:∀(i:Nat) (x:AObj),(st'.up++st'.own.take j)[i]? = some x→(st'.up++st'.own)[i]? = some x:=fun i x hx=>by
   rcases Be i st'.up.length with h'|h'
   ·rw [Dh h'] at hx ⊢;exact hx
   rw [Dn h'] at hx ⊢
   rw [He] at hx
   split at hx
   ·exact hx
   cases hx
  refine ⟨v,by simp [Gw,hrs,hv],v,{ G1 with n:=H.length+j },r,st'.up++st'.own.take j,rfl,hr.cut hlow,⟨fun i x hx=>(h1.heap.obj i x (hget i x hx)).cut (hobjs x (B3 hx)),?_,fun a b ha hb' e=>?_⟩,
   ⟨h1.tags.ex,h1.tags.obj,h1.tags.tail,h1.tags.globCut (by rw [hgn];omega)⟩,?_,hpost⟩
  ·show H.length+j=_
   rw [Ao,Bx,ve hj,hupl]
  ·exact h1.heap.inj a b (by rw [hgn];simp only at ha;omega) (by rw [hgn];simp only at hb';omega) e
  have hGn:G.n=H.length:=hH.n
  exact ⟨k1.fix,k1.slot,by rw [hGn];exact Nat.le_add_right _ _,k1.blk,k1.os,k1.tape,k1.output,k1.size,k1.old.cut (by rw [hgn];omega)⟩
 rcases hcase with rfl|rfl
 ·exact fin
 exact fin
end
section
variable {P:Program} {d:Nat} {ops:Array Oper} {rest:List Oper} {sz s:Nat} {fr:Nat→AV} {up own:List AObj} {dfs:List Nat} {rnd:Option Nat} {Q:St→Prop} {ty:TypeId} {pos:String} {aft:Array Edge}
theorem ACallO.body {g:FuncId} {fn:Func} {c:Code} {args:List AV} {H:List AObj} {post:AV→List AObj→Prop} {fr':Nat→AV} (rs:List ResultVar) (l:List Nat) {n:Nat} (hf:P.funcs[g]? = some fn) (hn:fn.ntmps=n)
  (h:∀d,AW P (d+1) c ⟨n,fr',H,[],[],none⟩ (FO P rs H.length post)) (hb:fn.body=some c:=by rfl) (hrs:fn.results=rs.toArray:=by rfl) (hargs:args.length≤n:=by exact sL1)
  (hk:P4 l (argsF args)=fr':=by exact sL0):ACallO P g args H post:=
 ACallO.ofBody hf hb hrs hn hargs (fun d=>dn l hk (h d))
/-- The end of such a body. -/
theorem K.finO {rs:List ResultVar} {n:Nat} {post:AV→List AObj→Prop} {r:AV} {rv:ResultVar} {st:St} (j:Nat) (hres:ResV P st rv r) (hp:post r (st.up++st.own.take j)) (hlow:Low (n+j) r) (hobj:∀x∈st.up++st.own.take j,ObjLow (n+j) x)
  (hd:st.defs=[]:=by rfl) (hr:rs=[rv]:=by rfl) (hj:j≤st.own.length:=by simp):FO P rs n post .ret st:=⟨.inr rfl,hd,r,rv,j,hr,hres,hlow,hobj,hj,hp⟩
/-- A call of such a function. -/
theorem R.callO {g:FuncId} {xs:List Operand} {ats:Array TypeId} {args:List AV} {post:AV→List AObj→Prop} (hcall:∀args w,(callFunc g args).run P w=.ok (.enter g args) w)
  (h:ACallO P g args (up++own) post) (hp:∀r H',post r H'→∃O,H'=up++(own++O)∧ARun P d ops rest ⟨sz,A6 s r fr,up,own++O,dfs,rnd⟩ Q)
  (ha:xs.map (Bb fr)=args:=by exact sL0) (hs:Nat.blt s sz=true:=by rfl):
  ARun P d ops (⟨some s,.call ⟨.value (.func g),xs.toArray,ats⟩,ty,pos,aft,none⟩::rest) ⟨sz,fr,up,own,dfs,rnd⟩ Q:=by
 refine Ya rfl (Q1:=fun s'=>ARun P d ops rest s' Q) ?_ (fun s' e=>e)
 intro G a w hr Q'
 have hs:s<sz:=by simpa using hs
 have hxr:=Tk hr xs
 have ha':xs.map (St.ev ⟨sz,fr,up,own,dfs,rnd⟩)=args:=ha
 rw [ha'] at hxr
 have hrun:(execOp a.eval (⟨some s,.call ⟨.value (.func g),xs.toArray,ats⟩,ty,pos,aft,none⟩:Oper)).run P w=.ok (.enter g (xs.map a.eval).toArray) w:=by
  have:=S1 (P:=P) (dst:=some s) (ty:=ty) (pos:=pos) (aft:=aft) (gd:=none) (ats:=ats) (f:=.func g) (xs:=xs) (g:=g) (va:=#[]) (vc:=#[]) (a:=a) (w:=w) hcall rfl
  simpa using this
 refine Rz (by intro c h;cases h) hrun (h d G w _ (by rw [←ha'];simp) (fun i y u hy hu=>(hxr i y u hy hu).lift) hr.heap hr.tags hr.top) ?_
 rintro e w' ⟨v,G',r,H',rfl,hrep,hH,hT,hk,hpo⟩
 obtain ⟨O,rfl,hrn⟩:=hp r H' hpo
 have h3:=hr.called (U:=up) (O:=own++O) hH hT hk rfl rfl (fun o ho=>by
  have:=hr.defsAt o ho
  rw [←C9,Dh (Ad.1 this).1]
  exact this) hr.low
 obtain ⟨h4,k4⟩:=h3.took hrep.lift (s:=s) hs
 exact ⟨v,rfl,_,_,h4,(hk.less (Kh d)).trans k4,rfl,rfl,rfl,hrn⟩
end
end Go.SX
