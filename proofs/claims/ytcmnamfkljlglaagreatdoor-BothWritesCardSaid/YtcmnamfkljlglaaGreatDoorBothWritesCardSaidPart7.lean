/- On the way (part 7). -/
import Derived.Lib.ItoaLen
import Derived.Lib.SliceRun
import Derived.Test.YtcmnamfkljlglaaGreatDoorBothWritesCardSaidPart6
set_option linter.all false
namespace Go.SX.Nb
open Go Go.SX Go.Proofs
variable [ErrAt]
set_option maxRecDepth 4000
theorem AI7 (a b:Int) (a0 : -9223372036854775808≤a) (a1:a≤9223372036854775807) (b0 : -9223372036854775808≤b) (b1:b≤9223372036854775807):a.natAbs*b.natAbs<B32 ^ 5:=by
 have:a.natAbs*b.natAbs≤9223372036854775808*9223372036854775808:=Nat.mul_le_mul (by omega) (by omega)
 have h2:(9223372036854775808*9223372036854775808:Nat)<B32 ^ 5:=by decide
 omega
theorem ABx {a:Int} (a0 : -9223372036854775808≤a) (a1:a≤9223372036854775807):a.natAbs<B32 ^ 5∧a.natAbs<B32 ^ 2:=by
 have h2:(9223372036854775809:Nat)≤B32 ^ 5:=by decide
 have h3:(9223372036854775809:Nat)≤B32 ^ 2:=by decide
 omega
section
variable {t:Str} {a b:Val}
theorem Vi (h3:(D4 t==3)=false) (h:(t==[38])=true):Gc t a b=H3 a b:=by rw [Vh h3,if_pos h]
theorem nk (h3:(D4 t==3)=false) (h:(t==[38])=false) (hk:((a.kind != 1) || (b.kind != 1))=true):Gc t a b=(noV,10):=by
 rw [Vh h3,if_neg (by rw [h];simp)]
 have:(!Bm [a,b] [1,1])=true:=by
  simp only [Bm,Qg]
  simp only [Cu,bne_iff_ne,ne_eq] at hk
  simp
  exact hk
 rw [if_pos this]
 rfl
theorem nl (h3:(D4 t==3)=false) (h:(t==[38])=false) (hk:((a.kind != 1) || (b.kind != 1))=false):Gc t a b=Eg (E1 t a.n b.n):=by
 rw [Vh h3,if_neg (by rw [h];simp)]
 have:(!Bm [a,b] [1,1])=false:=by
  simp only [Cm,bne_eq_false_iff_eq] at hk
  simp [Bm,hk.1,hk.2]
 rw [if_neg (by rw [this];simp)]
theorem ABy (h:((a.kind != 2) || (b.kind != 2))=true):H3 a b=(noV,10):=by
 unfold H3
 have:(!Bm [a,b] [2,2])=true:=by
  simp only [Bm,Qg]
  simp only [Cu,bne_iff_ne,ne_eq] at h
  simp
  exact h
 rw [if_pos this]
 rfl
theorem ABz (h:((a.kind != 2) || (b.kind != 2))=false) (h2:decide ((200:Int)<(a.s.length:Int)+(b.s.length:Int))=true):H3 a b=(noV,3):=by
 unfold H3
 have:(!Bm [a,b] [2,2])=false:=by
  simp only [Cm,bne_eq_false_iff_eq] at h
  simp [Bm,h.1,h.2]
 rw [if_neg (by rw [this];simp),if_pos h2]
 rfl
theorem AC0 (h:((a.kind != 2) || (b.kind != 2))=false) (h2:decide ((200:Int)<(a.s.length:Int)+(b.s.length:Int))=false):H3 a b=(⟨2,0,a.s++b.s⟩,0):=by
 unfold H3
 have:(!Bm [a,b] [2,2])=false:=by
  simp only [Cm,bne_eq_false_iff_eq] at h
  simp [Bm,h.1,h.2]
 rw [if_neg (by rw [this];simp),if_neg (by rw [h2];simp)]
 unfold P2
 simp only [decide_eq_false_iff_not] at h2
 rw [D5 (by rw [Aw];omega)]
end
theorem y8 {t:Str} {a b:Int} (h1:(t==[43])=false) (h2:(t==[45])=false) (h3:(t==[42])=false) (hb:(b==0)=true):Eg (E1 t a b)=(noV,5):=by
 unfold E1 So P4
 rw [if_neg (by rw [h1];simp),if_neg (by rw [h2];simp),if_neg (by rw [h3];simp),if_pos hb,if_pos hb]
 split<;>rfl
theorem c60 (t:Str) (a b:Val) (fa:Fine a) (fb:Fine b) (hal:a.s.length≤1048576) (hbl:b.s.length≤1048576) (Hp:List AObj):AFun Tryz.prog 60 [Ax t,Ba a,Ba b] Hp (My (Gc t a b)):=by
 have ea:=ABx fa.lo fa.hi
 have eb:=ABx fb.lo fb.hi
 refine Ae [.cell 6 44,.tmp 7] [0,1,2] Tryz.func60 Tryz.ntmps60 (fun d=>?_)
 refine Z1 ?_;refine Z55 ?_;refine A0 [0,4,5,6] ?_;refine Z32 ?_;refine A6 Tryz.call85 (c85 t _) ?_;refine A2 ?_;refine A0 [0,4,5,6,16] ?_
 refine A1 (fun ht16=>?_) (fun ht16=>?_)
 ·refine M2 ?_;refine A0 [0,4,5,6,21] ?_
  refine A1 (fun ht21=>?_) (fun ht21=>?_)
  ·refine qt ?_;refine C4 ?_;exact A7 (Aj (Ch jA jS) A3) ⟨by rw [tg ht16 ht21];try rfl,rfl⟩
  have hbc:=y7 fa.plain fb.plain ht16 ht21
  refine Z3 ?_;refine Hm [0,0,3,0,0,31,63,127] 5 An (by kernel_rfl) ?_;refine Z17 ?_;refine Cy Tryz.call86 (c86 a b hal _) ?_;refine Z85 ?_;refine A6 Tryz.call86 (c86 b a hbl _) ?_;refine Z0 ?_;refine A0 [0,6,8,9] ?_;refine Z32 ?_;refine A0 [6,8,9,29] ?_;refine Z95 ?_;refine A0 [6,8,9,29,30] ?_
  refine A1 (fun ht30=>?_) (fun ht30=>?_)
  ·refine Z18 ?_;refine Kl ?_;refine qu ?_;exact A7 (Aj (Ch jA jS) A3) ⟨by rw [hbc];unfold Ze;rw [if_pos ht30];try rfl,rfl⟩
  refine Z1 ?_;refine A0 [6,8,9,29,39] ?_
  refine A1 (fun ht39=>?_) (fun ht39=>?_)
  ·refine Z1 ?_;refine Z50 ?_;refine qu ?_;exact A7 (Aj (Ch jA jS) A3) ⟨by rw [hbc];unfold Ze;rw [if_neg (by rw [ht30];simp),if_pos ht39];try rfl,rfl⟩
  refine Z1 ?_;refine A0 [6,8,9,29,46] ?_
  refine A1 (fun ht46=>?_) (fun ht46=>?_)
  ·refine Z2 ?_;refine qu ?_;exact A7 (Aj (Ch jA jS) A3) ⟨by rw [hbc];unfold Ze;rw [if_neg (by rw [ht30];simp),if_neg (by rw [ht39];simp),if_pos ht46];try rfl,rfl⟩
  refine Z1 ?_;refine A0 [6,8,9,29,50] ?_
  refine A1 (fun ht50=>?_) (fun ht50=>?_)
  ·refine Z1 ?_;refine qu ?_;exact A7 (Aj (Ch jA jS) A3) ⟨by rw [hbc];unfold Ze;rw [if_neg (by rw [ht30];simp),if_neg (by rw [ht39];simp),if_neg (by rw [ht46];simp),if_pos ht50];try rfl,rfl⟩
  refine Z1 ?_;refine A0 [6,8,9,55] ?_
  refine A1 (fun ht55=>?_) (fun ht55=>?_)
  ·refine Z2 ?_;refine qu ?_;exact A7 (Aj (Ch jA jS) A3) ⟨by rw [hbc];unfold Ze;rw [if_neg (by rw [ht30];simp),if_neg (by rw [ht39];simp),if_neg (by rw [ht46];simp),if_neg (by rw [ht50];simp),if_pos ht55];try rfl,rfl⟩
  refine Yo ?_;refine m5 ?_;exact A7 (Aj (Ch jA jS) A3) ⟨by rw [hbc];unfold Ze;rw [if_neg (by rw [ht30];simp),if_neg (by rw [ht39];simp),if_neg (by rw [ht46];simp),if_neg (by rw [ht50];simp),if_neg (by rw [ht55];simp)];try rfl,rfl⟩
 refine Mt ?_;refine A0 [0,4,5,6,63] ?_
 refine A1 (fun ht63=>?_) (fun ht63=>?_)
 ·refine Z8 ?_;refine fu ?_;refine A0 [4,5,6,71] ?_
  refine A1 (fun ht71=>?_) (fun ht71=>?_)
  ·refine qt ?_;refine C4 ?_;exact A7 (Aj (Ch jA jS) A3) ⟨by rw [Vi ht16 ht63,ABy ht71];try rfl,rfl⟩
  refine Z3 ?_;refine Z76 ?_;refine Z93 ?_;refine A0 [4,5,6,80] ?_
  refine A1 (fun ht80=>?_) (fun ht80=>?_)
  ·refine qt ?_;refine C4 ?_;exact A7 (Aj (Ch jA jS) A3) ⟨by rw [Vi ht16 ht63,ABz ht71 ht80];try rfl,rfl⟩
  refine Yl ?_
  refine A2 (h:=Q.sadd (hl:=fun _=>by omega)) (hr:=?_)
  refine U7 ?_;exact A7 (Aj (Ch jA jS) A3) ⟨by rw [Vi ht16 ht63,AC0 ht71 ht80];try rfl,rfl⟩
 refine Mt ?_;refine fu ?_;refine A0 [0,4,5,6,95] ?_
 refine A1 (fun ht95=>?_) (fun ht95=>?_)
 ·refine qt ?_;exact A7 (Aj (Ch jA jS) A3) ⟨by rw [nk ht16 ht63 ht95];try rfl,rfl⟩
 have hba:=nl (a:=a) (b:=b) ht16 ht63 ht95
 refine Z3 ?_;refine Mp [0,1,3,0,8,31,0,0,255,511] [] [.q 6 [] [],.s [10] none [] [],.s [11] none [] [],.s [10] none [] [],.s [11] none [] []] (fun _=>Hp) (fun _=>[.cells 44 [A5 0,A5 0,Ax []]]) An (by kernel_rfl) rfl rfl (fun _=>rfl) ?_
 apply Y.q
 ·intro B hT hF
  refine Z17 ?_;refine Cy Tryz.call63 (n5 a.n fa.lo fa.hi _) ?_;refine Z17 ?_;refine Cy Tryz.call63 (n5 b.n fb.lo fb.hi _) ?_;exact D.end rfl rfl
 case hTF=>decide
 refine Y.allocP Tryz.zeroValue100 ?_;refine Y.allocP Tryz.zeroValue100 ?_;refine Y.storeP Tryz.sizeOf100 ?_;refine Y.storeP Tryz.sizeOf100 ?_;refine Oo (tn:=[])  ?_;refine A0 [0,4,5,6,10,11] ?_;refine Z32 ?_;refine A0 [0,4,5,6,10,11,103] ?_;refine Z95 ?_;refine A0 [0,4,5,6,10,11,103,104] ?_
 refine A1 (fun ht104=>?_) (fun ht104=>?_)
 ·refine Z1 ?_;refine A6 Tryz.call87 (c87 (decide (a.n<0)) a.n.natAbs (decide (b.n<0)) b.n.natAbs ea.1 eb.1 _) ?_;refine A6 Tryz.call61 (c61 _ _ (tj fa.lo fa.hi fb.lo fb.hi) _) ?_;refine Sk ?_;refine Z91 ?_;exact A7 (Aj (Ch jA jS) A3) ⟨by rw [hba,show E1 t a.n b.n=V7 a.n b.n from if_pos ht104,Iu,nf fa.lo fa.hi fb.lo fb.hi];try rfl,rfl⟩
 refine Z1 ?_;refine A0 [0,4,5,6,10,11,103,112] ?_
 refine A1 (fun ht112=>?_) (fun ht112=>?_)
 ·refine Hm [0,0,2,7,15,31,31,127,255] 7 An (by kernel_rfl) ?_;refine Z17 ?_;refine Cy Tryz.call62 (c62 (decide (b.n<0)) (dig b.n.natAbs) _) ?_;refine Cy Tryz.call87 (c87 (decide (a.n<0)) a.n.natAbs (!(decide (b.n<0))) b.n.natAbs ea.1 eb.1 _) ?_;refine Cy Tryz.call61 (c61 _ _ (tj fa.lo fa.hi fb.lo fb.hi) _) ?_;refine Z85 ?_;refine Z7 ?_;refine Z91 ?_;exact A7 (Aj (Ch jA jS) A3) ⟨by rw [hba,show E1 t a.n b.n=In a.n b.n from (by unfold E1;rw [if_neg (by rw [ht104];simp),if_pos ht112]),Iu,ng fa.lo fa.hi fb.lo fb.hi];try rfl,rfl⟩
 refine Z1 ?_;refine A0 [0,4,5,6,10,11,121] ?_
 refine A1 (fun ht121=>?_) (fun ht121=>?_)
 ·refine Z1 ?_;refine A6 Tryz.call88 (c88 (decide (a.n<0)) a.n.natAbs (decide (b.n<0)) b.n.natAbs ea.2 eb.2 _) ?_;refine A6 Tryz.call61 (c61 _ _ (AI7 a.n b.n fa.lo fa.hi fb.lo fb.hi) _) ?_;refine Sk ?_;refine Z91 ?_;exact A7 (Aj (Ch jA jS) A3) ⟨by rw [hba,show E1 t a.n b.n=P3 a.n b.n from (by unfold E1;rw [if_neg (by rw [ht104];simp),if_neg (by rw [ht112];simp),if_pos ht121]),Iu,nh fa.lo fa.hi fb.lo fb.hi];try rfl,rfl⟩
 refine Z19 ?_;refine Z27 ?_;refine A0 [0,4,5,6,131] ?_
 refine A1 (fun ht131=>?_) (fun ht131=>?_)
 ·refine qt ?_;exact A7 (Aj (Ch jA jS) A3) ⟨by rw [hba,y8 ht104 ht112 ht121 ht131];try rfl,rfl⟩
 refine Yl ?_;refine A6 Tryz.call89 (c89 a.n b.n fa.lo fa.hi fb.lo fb.hi (by simpa using ht131) _) ?_;refine Z97 ?_;refine ql ?_;refine A0 [0,6,12,13] ?_;refine Z8 ?_;refine A0 [6,12,13,142] ?_
 refine A1 (fun ht142=>?_) (fun ht142=>?_)
 ·refine Z2 ?_;refine A6 Tryz.call61 (c61 _ _ (Ph (T0 _ _) ea.1) _) ?_;refine g7 ?_;exact A7 (Aj (Ch jA jS) A3) ⟨by rw [hba,show E1 t a.n b.n=So a.n b.n from (by unfold E1;rw [if_neg (by rw [ht104];simp),if_neg (by rw [ht112];simp),if_neg (by rw [ht121];simp),if_pos ht142]),Iu,ni fa.lo fa.hi fb.lo fb.hi ht131];try rfl,rfl⟩
 refine Ja ?_;refine A6 Tryz.call61 (c61 _ _ (Ph (Pi _ _) ea.1) _) ?_;refine Sk ?_;refine Z9 ?_;exact A7 (Aj (Ch jA jS) A3) ⟨by rw [hba,show E1 t a.n b.n=P4 a.n b.n from (by unfold E1;rw [if_neg (by rw [ht104];simp),if_neg (by rw [ht112];simp),if_neg (by rw [ht121];simp),if_neg (by rw [ht142];simp)]),Iu,nj fa.lo fa.hi fb.lo fb.hi ht131];try rfl,rfl⟩

set_option maxRecDepth 8000
/-! The reference's reading of a number. -/
def rdS (x:Nat×Bool) (c:UInt8):Nat×Bool:=if x.2 then x else (x.1*10+(c.toNat-48),decide (18446744073709551616≤x.1*10+(c.toNat-48)))
def rdL (d:Str):Nat×Bool:=d.foldl rdS (0,false)
def Q6 (c:UInt8):Bool:=(decide (48≤c.toNat)&&decide (c.toNat≤57))
theorem Zf:∀(l:Str) (m:Nat),l.foldl rdS (m,true)=(m,true)
 | [],m=>rfl
 | c::r,m=>Zf r m
theorem km {d:Str} {i:Nat} (h:i<d.length):rdL (d.take (i+1))=rdS (rdL (d.take i)) d[i]:=by
 unfold rdL
 rw [Gp h,List.foldl_append]
 rfl
theorem tm {l:Str} (hl:∀c∈l,Q6 c=true):∀x:Nat×Bool,(x.2=false→x.1<18446744073709551616)→(l.foldl rdS x).2=false→(l.foldl rdS x).1<18446744073709551616:=by
 induction l with
 | nil=>exact fun x h h2=>h h2
 | cons c r ih =>
  intro x h h2
  refine ih (fun y hy=>hl y (Pe _ hy)) (rdS x c) (fun h3=>?_) h2
  unfold rdS at h3 ⊢
  split
  ·rename_i h4;rw [if_pos h4] at h3;rw [h4] at h3;cases h3
  rename_i h4;rw [if_neg h4] at h3;simp at h3;simpa using h3
theorem cw:∀(l:Str) (m:Nat),(∀c∈l,Q6 c=true)→m<18446744073709551616→Lib.parseUintM 18446744073709551615 m l=if (l.foldl rdS (m,false)).2=true then .range else .ok (l.foldl rdS (m,false)).1
 | [],m,_,_=>by rw [Lib.parseUintM];rfl
 | c::r,m,h,hm=>by
  have hc:=h c (by simp)
  unfold Q6 at hc
  simp only [Ap,decide_eq_true_eq] at hc
  have hr:=fun y hy=>h y (Pe _ hy)
  have e:(c::r).foldl rdS (m,false)=r.foldl rdS (m*10+(c.toNat-48),decide (18446744073709551616≤m*10+(c.toNat-48))):=rfl
  rw [Lib.parseUintM,if_pos hc,e]
  by_cases h1:1844674407370955162≤m
  ·rw [if_pos h1,decide_eq_true (by omega),Zf,if_pos rfl]
  rw [if_neg h1]
  by_cases h2:18446744073709551615<m*10+(c.toNat-48)
  ·rw [if_pos h2,decide_eq_true (by omega),Zf,if_pos rfl]
  rw [if_neg h2,decide_eq_false (by omega)]
  exact cw r _ hr (by omega)
theorem kn (c:UInt8):Q6 c=digs.contains c:=(Kb c).symm
/-- What is wrong with a text that is no number. -/
theorem y9 {s d:Str} (hd:d=Lx s) (h:((((d.length:Nat):Int)==0) || (decide ((1:Int)<((s.length:Nat):Int))&&(((d.headD 0).toNat:Int)==48)))=true):Bx s=(0,6):=by
 have:Gz s=true:=by
  unfold Gz
  rw [←hd]
  simp only [Cu,Ap,beq_iff_eq,decide_eq_true_eq] at h
  rcases h with h|⟨h1,h2⟩
  ·have:d=[]:=M8 (by omega)
   rw [this];rfl
  have e:d.headD 0=48:=Ng.1 (by have:(48:UInt8).toNat=48:=rfl;omega)
  rw [e,decide_eq_true (by omega)]
  simp
 unfold Bx
 rw [if_pos this]
theorem yb {s d:Str} (hd:d=Lx s) {i:Nat} (hi:i<d.length) (h:(decide (((d[i].toNat:Nat):Int)<48) || decide ((57:Int)<((d[i].toNat:Nat):Int)))=true):Bx s=(0,6):=by
 have:Gz s=true:=by
  unfold Gz
  rw [←hd]
  cases hb:Lib.trimS d digs==[] with
  | false=>simp
  | true =>
   exfalso
   have hb':=trimS_nil.1 (eq_of_beq hb) d[i] (Az hi)
   rw [←kn] at hb'
   unfold Q6 at hb'
   simp only [Ap,decide_eq_true_eq] at hb'
   simp only [Cu,decide_eq_true_eq] at h
   omega
 unfold Bx
 rw [if_pos this]
theorem ko {s d:Str} (hd:d=Lx s) (h:((((d.length:Nat):Int)==0) || (decide ((1:Int)<((s.length:Nat):Int))&&(((d.headD 0).toNat:Int)==48)))=false) (ha:∀c∈d,Q6 c=true):Bx s=if (rdL d).2=true then (0,4) else E5 (decide (((d.length:Nat):Int)<((s.length:Nat):Int))) (rdL d).1:=by
 simp only [Cm,Tn,beq_eq_false_iff_ne,ne_eq,decide_eq_false_iff_not] at h
 have hne:d≠[]:=fun e=>h.1 (by rw [e];rfl)
 have hg:Gz s=false:=by
  unfold Gz
  rw [←hd]
  have h1:(d==[])=false:=by simpa using hne
  have h2:(Lib.trimS d digs==[])=true:=by
   have:=trimS_nil.2 (fun b hb=>by rw [←kn];exact ha b hb)
   simpa using this
  have h3:((d.headD 0==48)&&decide (1<s.length))=false:=by
   rw [Tn]
   rcases h.2 with h4|h4
   ·exact .inr (decide_eq_false (by omega))
   refine .inl ?_
   rw [beq_eq_false_iff_ne]
   intro e
   rw [e] at h4
   exact h4 rfl
  rw [h1,h2,h3]
  rfl
 have hl:=tm ha (0,false) (fun _=>by decide)
 have hp:=cw d 0 ha (by decide)
 have hU:Lib.parseUintB 64 d=if (rdL d).2=true then .range else .ok (rdL d).1:=by
  unfold Lib.parseUintB
  rw [if_neg hne]
  exact hp
 unfold Bx
 rw [hg,if_neg (by simp)]
 have p1:(2:Nat) ^ (64-1)=9223372036854775808:=rfl
 rcases K2 s with ⟨h3,h4⟩|⟨r,h3,h4⟩
 ·have e:d=s:=hd.trans h4
  subst e
  cases d with
  | nil=>exact absurd rfl hne
  | cons c r =>
   have hc:=ha c (by simp)
   unfold Q6 at hc
   simp only [Ap,decide_eq_true_eq] at hc
   have n1:¬(c.toNat=43∨c.toNat=45):=by omega
   have n2:¬c.toNat=45:=by omega
   simp only [Lib.parseIntB,if_neg n1,hU]
   cases ho:(rdL (c::r)).2 with
   | true=>simp
   | false =>
    have hm:=hl ho
    simp only [A8,if_false]
    rw [decide_eq_false (show ¬(((c::r).length:Nat):Int)<(((c::r).length:Nat):Int) by omega)]
    unfold E5
    simp only [n2,not_false_eq_true,true_and,false_and,if_false,Bl,At,B5,A8,decide_eq_true_eq]
    by_cases hx:2 ^ (64-1)≤(rdL (c::r)).1
    ·rw [if_pos hx,if_neg (by omega)]
    rw [if_neg hx,if_pos (by omega)]
 have e:d=r:=hd.trans h4
 subst e
 subst h3
 have n1:((45:UInt8).toNat=43∨(45:UInt8).toNat=45):=.inr rfl
 have n2:(45:UInt8).toNat=45:=rfl
 simp only [Lib.parseIntB,if_pos n1,hU]
 cases ho:(rdL d).2 with
 | true=>simp
 | false =>
  have hm:=hl ho
  simp only [A8,if_false]
  rw [decide_eq_true (show ((d.length:Nat):Int)<(((45::d:Str).length:Nat):Int) by simp;omega)]
  unfold E5
  simp only [n2,not_true_eq_false,true_and,false_and,if_false,if_true,Aq,Bl,B5,A8,decide_eq_true_eq]
  by_cases hx:2 ^ (64-1)<(rdL d).1
  ·rw [if_pos hx,if_neg (by omega)]
  rw [if_neg hx,if_pos (by omega)]
set_option maxRecDepth 4000
theorem gd1 {s:Str} (h:(decide ((0:Int)<((s.length:Nat):Int))==true)=true):s≠[]:=by rintro rfl;simp at h
theorem gd2 {d:Str} {b:Bool} (h:(((((d.length:Nat):Int)==0)==false)&&b)=true):d≠[]:=by rintro rfl;simp at h
theorem AGb (a b:Nat) (ha:a<B32 ^ 5) (hb:b<B32 ^ 5) (Hp:List AObj):AFun Tryz.prog 87 [.agg (wF false (dig a)),.agg (wF false (dig b))] Hp (.agg (wF false (dig (a+b)))):=c87 false a false b ha hb Hp
theorem AI8 (a b:Nat) (ha:a<B32 ^ 2) (hb:b<B32 ^ 2) (Hp:List AObj):AFun Tryz.prog 88 [.agg (wF false (dig a)),.agg (wF false (dig b))] Hp (.agg (wF false (dig (a*b)))):=c88 false a false b ha hb Hp
theorem AI9 (Hp:List AObj):AFun Tryz.prog 63 [A5 10] Hp (.agg (wF false (dig 10))):=n5 10 (by decide) (by decide) Hp
theorem kp {p q:Nat} (hp:p<256) (hq:q<256):C3 (wF false (dig p)) 1 [Bf (q:Nat)]=wF false (dig q):=by
 have h0:dig q 0=q:=by rw [kg];omega
 refine Zd (k:=0) (by decide) h0 fun i hi=>?_
 have hb:B32 ^ 1≤B32 ^ i:=T6 (by decide) (by omega)
 have hb1:(256:Nat)≤B32 ^ 1:=by decide
 rw [Eh (m:=q) (i:=i) (by omega),Eh (m:=p) (i:=i) (by omega)]
theorem kq:wF false (dig 0)=[Ar false,Bf 0,Bf 0,Bf 0,Bf 0,Bf 0]:=by
 have:∀i,dig 0 i=0:=fun i=>by unfold dig;simp
 unfold wF
 rw [this,this,this,this,this]
 rfl
theorem w48 {c:UInt8} (h:48≤c.toNat):IntKind.u64.wrap (IntKind.u64.wrap ((c.toNat:Nat):Int)-48)=((c.toNat-48:Nat):Int):=by
 have:=c.toNat_lt
 simp only [IntKind.wrap_u64]
 omega
theorem cx {m:Nat} (h:m<B32 ^ 3):decide (0<((dig m 2:Nat):Int))=decide (18446744073709551616≤m):=by
 rw [decide_eq_decide]
 unfold dig
 simp only [B32,Nat.reducePow] at h ⊢
 omega
structure RdAt (d:Str) (x:Nat×Nat):Prop where
 le:x.1≤d.length
 dg:∀(j:Nat) (c:UInt8),j<x.1→d[j]? = some c→Q6 c=true
 one:x.2<256
theorem RdAt.low {d:Str} {x:Nat×Nat} (h:RdAt d x) (ho:(rdL (d.take x.1)).2=false):(rdL (d.take x.1)).1<18446744073709551616:=by
 refine tm (l:=d.take x.1) (fun c hc=>?_) (0,false) (fun _=>by decide) ho
 obtain ⟨j,hj⟩:=Ca hc
 have hj1:j<x.1:=by
  have:=(Ac.1 hj).1
  rw [Bt] at this
  omega
 rw [Fo,if_pos hj1] at hj
 exact h.dg j c hj1 hj
theorem c65 (s:Str) (hs:s.length≤1048576) (Hp:List AObj):AFun Tryz.prog 65 [Ax s] Hp (.tup [A5 (Bx s).1,A5 (Bx s).2]):=by
 refine Ae [.tmp 2,.tmp 3] [0] Tryz.func65 Tryz.ntmps65 (fun d=>?_)
 refine Z1 ?_;refine A0 [0] ?_;refine Z1 ?_;refine A0 [0,4] ?_;refine Z76 ?_;refine B8 ?_
 refine B8 (h:=Ft 0 (s.headD 0) (fun hB=>Kp (gd1 hB))) (hr:=?_)
 refine Z50 ?_;refine A0 [0,4,18] ?_
 refine A1 (fun ht18=>?_) (fun ht18=>?_)
 ·have h45:s.headD 0=45:=by
   simp only [Ap,decide_eq_true_eq,beq_iff_eq] at ht18
   exact Ng.1 (by have:(45:UInt8).toNat=45:=rfl;have:=ht18.2;omega)
  have h1s:1≤s.length:=by simp only [Ap,decide_eq_true_eq] at ht18;have:=ht18.1;omega
  obtain ⟨d,hd0⟩:∃d,d=s.drop 1:=⟨_,rfl⟩
  have hd:d=Lx s:=by
   rw [hd0]
   rcases K2 s with ⟨h3,h4⟩|⟨r,h3,h4⟩
   ·exfalso
    cases s with
    | nil=>simp at h1s
    | cons c r=>simp at h3 h45;exact h3 h45
   rw [h4,h3];rfl
  have hdl:d.length≤1048576:=by rw [hd0,Xx];omega
  refine Z51 ?_
  refine A2 (h:=K8 1 (fun _=>h1s) (fun _=>Ao _)) (hr:=?_)
  refine A2 ?_;refine A0 [0,4] ?_;refine Dk ?_;refine Z52 ?_
  refine R.wk 4 (Ax d) (by rw [hd0];exact Le.refl _) ?_
  refine Z0 ?_;refine Z53 ?_;refine B8 ?_
  refine B8 (h:=Ft 0 (d.headD 0) (fun hB=>Kp (gd2 hB))) (hr:=?_)
  refine Kl ?_;refine A0 [0,4,33] ?_
  refine A1 (fun ht33=>?_) (fun ht33=>?_)
  ·exact wd
  refine Z3 ?_;refine Dv ?_;refine Z82 ?_;refine A0 [0,4,5] ?_;refine Z2 ?_;refine A0 [0,4,5,6] ?_;refine Dv ?_;refine ADz ?_;refine O0 ?_;refine ql ?_;refine A0 [0,4,5,6,7,8] ?_;refine Z32 ?_;refine Wi ?_
  refine Be (α:=Nat×Nat) (fun x=>⟨82,A4 0 (Ax s) (A4 4 (Ax d) (A4 5 (.ptr (oid Hp.length 0) 0) (A4 6 (Ar (rdL (d.take x.1)).2) (A4 7 (.ptr (oid Hp.length 1) 0) (A4 8 (.ptr (oid Hp.length 2) 0) (A4 9 (A5 (x.1:Nat)) (fun _=>.any))))))),Hp,[.cells 100 (wF false (dig (rdL (d.take x.1)).1)),.cells 100 (wF false (dig 10)),.cells 100 (wF false (dig x.2))],[],none⟩) (fun x=>RdAt d x) (fun x=>d.length-x.1) ((0,0)) ⟨Ah _,fun j c hj=>by omega,by decide⟩ (B0 (by simp only [List.take_zero,show rdL []=(0,false) from rfl,kq]<;>rfl)) rfl (fun x hx=>?_)
  obtain ⟨i,p⟩:=x
  simp only at hx ⊢
  refine Z76 ?_;refine A0 [0,4,5,6,7,8,9,40] ?_
  refine A1 (fun ht40=>?_) (fun ht40=>?_)
  ·have hil:i<d.length:=by simp at ht40;omega
   refine Z44 ?_;refine Z8 ?_
   refine A2 (h:=Ft i d[i] (fun _=>Aa hil)) (hr:=?_)
   refine Z29 ?_
   refine B8 (h:=Ft i d[i] (fun _=>Aa hil)) (hr:=?_)
   refine Z50 ?_;refine A0 [0,4,5,6,7,8,9,52] ?_
   refine A1 (fun ht52=>?_) (fun ht52=>?_)
   ·refine m6 ?_;refine C4 ?_;exact AD6
   have hdc:48≤d[i].toNat∧d[i].toNat≤57:=by
    simp only [Cm,decide_eq_false_iff_not] at ht52
    omega
   have hnx:=km hil
   refine Z84 ?_
   refine A2 (h:=Ft i d[i] (fun _=>Aa hil)) (hr:=?_)
   refine A2 ?_
   refine A2 (h:=Ie) (hr:=?_)
   rw [w48 hdc.1]
   refine vm ?_
   refine J9 jS (hput:=kp hx.one (q:=(d[i].toNat-48)) (by have:=(d[i]).toNat_lt;omega)) (hfit:=by simp) ?_
   refine Wi ?_;refine Z1 ?_;refine A0 [0,4,5,6,7,8,9,61] ?_
   refine A1 (fun ht61=>?_) (fun ht61=>?_)
   ·have ho:(rdL (d.take i)).2=false:=by simpa using ht61
    have hml:=hx.low ho
    simp only at hml
    have hm2:(rdL (d.take i)).1<B32 ^ 2:=hml
    have hm5:(rdL (d.take i)).1*10<B32 ^ 5:=Cg (show (rdL (d.take i)).1*10<184467440737095516170 by omega) (by decide)
    have hm3:(rdL (d.take i)).1*10+(d[i].toNat-48)<B32 ^ 3:=Cg (show (rdL (d.take i)).1*10+(d[i].toNat-48)<184467440737095516170 by omega) (by decide)
    have hst:rdL (d.take (i+1))=((rdL (d.take i)).1*10+(d[i].toNat-48),decide (18446744073709551616≤(rdL (d.take i)).1*10+(d[i].toNat-48))):=by rw [hnx];exact if_neg (by rw [ho];simp)
    refine Hm [0,0,3,0,15,31] 4 An (by kernel_rfl) ?_;refine Z17 ?_;refine AEp ?_
    refine A6 Tryz.call87 (AGb ((rdL (d.take i)).1*10) (d[i].toNat-48) hm5 (Cg (show (d[i].toNat-48)<256 by have:=(d[i]).toNat_lt;omega) (by decide)) _) ?_
    refine F9 ?_;refine A0 [0,4,5,7,8,9] ?_;refine Z51 ?_;refine Mq (2) jU Tryz.sizeOf77 (by decide) ?_;refine Z0 ?_
    rw [cx hm3]
    refine A2 ?_;refine Wi ?_;refine Z88 ?_;refine Wi ?_
    refine As (i+1,(d[i].toNat-48)) ⟨hil,fun j c hj hc=>?_,by have:=(d[i]).toNat_lt;show d[i].toNat-48<256;omega⟩ (by show d.length-(i+1)<d.length-i;omega) (Bk (by rw [hst]<;>rfl))
    rcases Bh j i with h|h
    ·exact hx.dg j c h hc
    have:j=i:=by have hj':j<i+1:=hj;omega
    subst this
    rw [Aa hil] at hc
    injection hc with hc
    rw [←hc]
    unfold Q6
    simp only [Ap,decide_eq_true_eq]
    exact hdc
   have ho:(rdL (d.take i)).2=true:=by simpa using ht61
   have hst:rdL (d.take (i+1))=rdL (d.take i):=by rw [hnx];exact if_pos ho
   refine Z79 ?_;refine Wi ?_
   refine As (i+1,(d[i].toNat-48)) ⟨hil,fun j c hj hc=>?_,by have:=(d[i]).toNat_lt;show d[i].toNat-48<256;omega⟩ (by show d.length-(i+1)<d.length-i;omega) (Bk (by rw [hst]<;>rfl))
   rcases Bh j i with h|h
   ·exact hx.dg j c h hc
   have:j=i:=by have hj':j<i+1:=hj;omega
   subst this
   rw [Aa hil] at hc
   injection hc with hc
   rw [←hc]
   unfold Q6
   simp only [Ap,decide_eq_true_eq]
   exact hdc
  have hie:d.take i=d:=D5 (by simp at ht40;omega)
  have hall:∀c∈d,Q6 c=true:=fun c hc=>by
   obtain ⟨j,hj⟩:=Ca hc
   exact hx.dg j c (by have:=(Ac.1 hj).1;simp at ht40;omega) hj
  have hgood:=ko hd ht33 hall
  have hlow:=hx.low
  simp only at hlow
  rw [hie] at hlow ⊢
  refine Z47 ?_;refine Z39 ?_;refine Z0 ?_;refine F9 ?_;refine A0 [5,6] ?_;refine Z32 ?_;refine A0 [5,77] ?_
  refine A1 (fun ht77=>?_) (fun ht77=>?_)
  ·rw [if_pos ht77] at hgood
   exact wd
  rw [if_neg (by rw [ht77];simp)] at hgood
  refine AE3 ?_;refine Z93 ?_;exact AD7
 obtain ⟨d,hd0⟩:∃d,d=s:=⟨_,rfl⟩
 have hd:d=Lx s:=by
  rw [hd0]
  rcases K2 s with ⟨h3,h4⟩|⟨r,h3,h4⟩
  ·exact h4.symm
  exfalso
  rw [h3] at ht18
  simp at ht18<;>omega
 have hdl:d.length≤1048576:=by rw [hd0];exact hs
 refine Z3 ?_;refine Z52 ?_
 refine R.wk 4 (Ax d) (by rw [hd0];exact Le.refl _) ?_
 refine Z0 ?_;refine Z53 ?_;refine B8 ?_
 refine B8 (h:=Ft 0 (d.headD 0) (fun hB=>Kp (gd2 hB))) (hr:=?_)
 refine Kl ?_;refine A0 [0,4,33] ?_
 refine A1 (fun ht33=>?_) (fun ht33=>?_)
 ·exact wd
 refine Z3 ?_;refine Dv ?_;refine Z82 ?_;refine A0 [0,4,5] ?_;refine Z2 ?_;refine A0 [0,4,5,6] ?_;refine Dv ?_;refine ADz ?_;refine O0 ?_;refine ql ?_;refine A0 [0,4,5,6,7,8] ?_;refine Z32 ?_;refine Wi ?_
 refine Be (α:=Nat×Nat) (fun x=>⟨82,A4 0 (Ax s) (A4 4 (Ax d) (A4 5 (.ptr (oid Hp.length 0) 0) (A4 6 (Ar (rdL (d.take x.1)).2) (A4 7 (.ptr (oid Hp.length 1) 0) (A4 8 (.ptr (oid Hp.length 2) 0) (A4 9 (A5 (x.1:Nat)) (fun _=>.any))))))),Hp,[.cells 100 (wF false (dig (rdL (d.take x.1)).1)),.cells 100 (wF false (dig 10)),.cells 100 (wF false (dig x.2))],[],none⟩) (fun x=>RdAt d x) (fun x=>d.length-x.1) ((0,0)) ⟨Ah _,fun j c hj=>by omega,by decide⟩ (B0 (by simp only [List.take_zero,show rdL []=(0,false) from rfl,kq]<;>rfl)) rfl (fun x hx=>?_)
 obtain ⟨i,p⟩:=x
 simp only at hx ⊢
 refine Z76 ?_;refine A0 [0,4,5,6,7,8,9,40] ?_
 refine A1 (fun ht40=>?_) (fun ht40=>?_)
 ·have hil:i<d.length:=by simp at ht40;omega
  refine Z44 ?_;refine Z8 ?_
  refine A2 (h:=Ft i d[i] (fun _=>Aa hil)) (hr:=?_)
  refine Z29 ?_
  refine B8 (h:=Ft i d[i] (fun _=>Aa hil)) (hr:=?_)
  refine Z50 ?_;refine A0 [0,4,5,6,7,8,9,52] ?_
  refine A1 (fun ht52=>?_) (fun ht52=>?_)
  ·refine m6 ?_;refine C4 ?_;exact AD6
  have hdc:48≤d[i].toNat∧d[i].toNat≤57:=by
   simp only [Cm,decide_eq_false_iff_not] at ht52
   omega
  have hnx:=km hil
  refine Z84 ?_
  refine A2 (h:=Ft i d[i] (fun _=>Aa hil)) (hr:=?_)
  refine A2 ?_
  refine A2 (h:=Ie) (hr:=?_)
  rw [w48 hdc.1]
  refine vm ?_
  refine J9 jS (hput:=kp hx.one (q:=(d[i].toNat-48)) (by have:=(d[i]).toNat_lt;omega)) (hfit:=by simp) ?_
  refine Wi ?_;refine Z1 ?_;refine A0 [0,4,5,6,7,8,9,61] ?_
  refine A1 (fun ht61=>?_) (fun ht61=>?_)
  ·have ho:(rdL (d.take i)).2=false:=by simpa using ht61
   have hml:=hx.low ho
   simp only at hml
   have hm2:(rdL (d.take i)).1<B32 ^ 2:=hml
   have hm5:(rdL (d.take i)).1*10<B32 ^ 5:=Cg (show (rdL (d.take i)).1*10<184467440737095516170 by omega) (by decide)
   have hm3:(rdL (d.take i)).1*10+(d[i].toNat-48)<B32 ^ 3:=Cg (show (rdL (d.take i)).1*10+(d[i].toNat-48)<184467440737095516170 by omega) (by decide)
   have hst:rdL (d.take (i+1))=((rdL (d.take i)).1*10+(d[i].toNat-48),decide (18446744073709551616≤(rdL (d.take i)).1*10+(d[i].toNat-48))):=by rw [hnx];exact if_neg (by rw [ho];simp)
   refine Hm [0,0,3,0,15,31] 4 An (by kernel_rfl) ?_;refine Z17 ?_;refine AEp ?_
   refine A6 Tryz.call87 (AGb ((rdL (d.take i)).1*10) (d[i].toNat-48) hm5 (Cg (show (d[i].toNat-48)<256 by have:=(d[i]).toNat_lt;omega) (by decide)) _) ?_
   refine F9 ?_;refine A0 [0,4,5,7,8,9] ?_;refine Z51 ?_;refine Mq (2) jU Tryz.sizeOf77 (by decide) ?_;refine Z0 ?_
   rw [cx hm3]
   refine A2 ?_;refine Wi ?_;refine Z88 ?_;refine Wi ?_
   refine As (i+1,(d[i].toNat-48)) ⟨hil,fun j c hj hc=>?_,by have:=(d[i]).toNat_lt;show d[i].toNat-48<256;omega⟩ (by show d.length-(i+1)<d.length-i;omega) (Bk (by rw [hst]<;>rfl))
   rcases Bh j i with h|h
   ·exact hx.dg j c h hc
   have:j=i:=by have hj':j<i+1:=hj;omega
   subst this
   rw [Aa hil] at hc
   injection hc with hc
   rw [←hc]
   unfold Q6
   simp only [Ap,decide_eq_true_eq]
   exact hdc
  have ho:(rdL (d.take i)).2=true:=by simpa using ht61
  have hst:rdL (d.take (i+1))=rdL (d.take i):=by rw [hnx];exact if_pos ho
  refine Z79 ?_;refine Wi ?_
  refine As (i+1,(d[i].toNat-48)) ⟨hil,fun j c hj hc=>?_,by have:=(d[i]).toNat_lt;show d[i].toNat-48<256;omega⟩ (by show d.length-(i+1)<d.length-i;omega) (Bk (by rw [hst]<;>rfl))
  rcases Bh j i with h|h
  ·exact hx.dg j c h hc
  have:j=i:=by have hj':j<i+1:=hj;omega
  subst this
  rw [Aa hil] at hc
  injection hc with hc
  rw [←hc]
  unfold Q6
  simp only [Ap,decide_eq_true_eq]
  exact hdc
 have hie:d.take i=d:=D5 (by simp at ht40;omega)
 have hall:∀c∈d,Q6 c=true:=fun c hc=>by
  obtain ⟨j,hj⟩:=Ca hc
  exact hx.dg j c (by have:=(Ac.1 hj).1;simp at ht40;omega) hj
 have hgood:=ko hd ht33 hall
 have hlow:=hx.low
 simp only at hlow
 rw [hie] at hlow ⊢
 refine Z47 ?_;refine Z39 ?_;refine Z0 ?_;refine F9 ?_;refine A0 [5,6] ?_;refine Z32 ?_;refine A0 [5,77] ?_
 refine A1 (fun ht77=>?_) (fun ht77=>?_)
 ·rw [if_pos ht77] at hgood
  exact wd
 rw [if_neg (by rw [ht77];simp)] at hgood
 refine AE3 ?_;refine Z93 ?_;exact AD7

set_option maxRecDepth 8000
/-! The reference's Eval. -/
def O2:Str:=[115,116,114]
def O3:Str:=[108,101,110]
def O4:Str:=[110,117,109]
def G5:Str:=[108,101,102,116]
def G6 (n k:Int):Int:=if decide (n<0)=true then 0 else if decide (n<k)=true then n else k
def Kd (t:Str) (a b:Val):Rs:=if (t==G5)=true then (⟨2,0,a.s.take (G6 b.n a.s.length).toNat⟩,0) else (⟨2,0,a.s.drop (a.s.length-(G6 b.n a.s.length).toNat)⟩,0)
def Wq (t:Str) (a b:Val):Rs:=
 if (t==O2)=true then (if (a.kind != 1)=true then (noV,10) else (⟨2,0,Lib.itoa a.n⟩,0))
 else if (a.kind != 2)=true then (noV,10)
 else if (t==O3)=true then (⟨1,a.s.length,[]⟩,0)
 else if (t==O4)=true then (if ((Bx a.s).2 != 0)=true then (noV,(Bx a.s).2) else (⟨1,(Bx a.s).1,[]⟩,0))
 else if (b.kind != 1)=true then (noV,10) else Kd t a b
def Q7 (o:Int) (t:Str) (a b:Val):Rs:=
 if ((a.kind==0) || (b.kind==0))=true then (noV,0)
 else if (o==5)=true then Gc t a b
 else if (o==3)=true then (if (a.kind != 1)=true then (noV,10) else nb (!decide (a.n<0)) a.n.natAbs)
 else if (o==4)=true then (if (a.kind != 3)=true then (noV,10) else (Dl (a.n==0),0))
 else Wq t a b
def AC1 (k:Int) (o:Int) (t:Str) (a:Val) (rb:Rs):Rs:=if (k==2)=true then (if (rb.2 != 0)=true then (noV,rb.2) else Q7 o t a rb.1) else Q7 o t a ⟨9,0,[]⟩
def tq (t:Str) (a:Val) (rb:Rs):Rs:=
 if (!((a.kind==0) || (a.kind==3)))=true then (noV,10)
 else if (a==Dl (t==orW))=true then (a,0)
 else if (rb.2 != 0)=true then (noV,rb.2)
 else if ((rb.1.kind != 0)&&(rb.1.kind != 3))=true then (noV,10)
 else if (rb.1==Dl (t==orW))=true then (rb.1,0)
 else if ((a.kind==0) || (rb.1.kind==0))=true then (noV,0)
 else (Dl (t==O1),0)
def Hr (k:Int) (o:Int) (t:Str) (ra rb rc:Rs):Rs:=
 if (ra.2 != 0)=true then (noV,ra.2)
 else if ((o==5)&&((t==orW) || (t==O1)))=true then tq t ra.1 rb
 else if (o==6)=true then
  (if (t==Bu)=true then (Dl (ra.1.kind==0),0)
  else if (t==M4)=true then (if (ra.1.kind != 0)=true then (ra.1,0) else rb)
  else if (t==ifW)=true then (if (!((ra.1.kind==0) || (ra.1.kind==3)))=true then (noV,10) else if (ra.1.n==1)=true then rb else rc)
  else AC1 k o t ra.1 rb)
 else AC1 k o t ra.1 rb
/-- Who ends in an error has no value. -/
def Jh (r:Rs):Prop:=r.2≠0→r.1=noV
theorem cy (e:Int):Jh (Ck e):=fun _=>rfl
theorem Vj (v:Val):Jh (v,0):=fun h=>absurd rfl h
theorem N1 (x:Int×Int):Jh (Eg x):=by
 unfold Eg
 split
 ·exact Qy
 exact Qz
theorem S6 {r:Rs} (h:Jh r):Jh (B1 r):=by
 unfold B1
 split
 ·exact Qy
 exact h
theorem np (t:Str) (a b:Val):Jh (Gc t a b):=by
 unfold Gc
 split
 ·split
  ·exact Qy
  exact Qz
 split
 ·unfold H3
  split
  ·exact Qy
  split
  ·exact Qy
  exact Qz
 split
 ·exact Qy
 exact N1 _
theorem Zg (o:Int) (t:Str) (l:List Val):Jh (Au o t l):=by
 unfold Au
 split
 ·exact np _ _ _
 split
 ·exact N1 _
 split
 ·exact Qz
 split
 ·exact Qy
 split
 ·unfold Fk
  split
  ·exact Qz
  split
  ·exact Qz
  split
  ·exact N1 _
  exact Qy
 split
 ·exact Qy
 exact Qz
theorem iw {c:List Col} {l:List Val} {o:Int} {t:Str} {v:Val} {ks:List Rs} (h:∀i,Jh (ks.getD i (noV,0))):Jh (He Au c l o t v ks):=by
 unfold He
 split
 ·exact Qz
 split
 ·unfold Od
  split
  ·exact Qy
  exact Qz
 have hlog:∀s,Jh (F5 s (ks.getD 0 (noV,0)) (ks.getD 1 (noV,0))):=fun s=>by
  unfold F5
  split
  ·exact S6 (h 0)
  split
  ·exact S6 (h 1)
  exact Qz
 split
 ·exact hlog _
 split
 ·exact hlog _
 split
 ·unfold Dp
  split
  ·split
   ·exact Qy
   split
   ·exact h 1
   exact h 2
  split
  ·exact Qy
  split
  ·exact Qz
  split
  ·exact Qz
  exact h 1
 unfold Ga
 split
 ·exact Qy
 split
 ·exact Qz
 exact Zg _ _ _
theorem Vk (c:List Col) (l:List Val):∀(n:Nat) (e:Expr),sizeE e≤n→Jh (Ab c l e)
 | 0,e,h=>by rw [I8] at h;omega
 | n+1,e,h=>by
  obtain ⟨o,t,v,k⟩:=e
  rw [Ab,Q0]
  refine iw fun i=>?_
  rw [Dd,Cs]
  cases hk:(Expr.mk o t v k).kids[i]? with
  | none=>exact Vj _
  | some y =>
   have hlt:=(Ac.1 hk).1
   have hy:=(Ac.1 hk).2
   have:=bp (.mk o t v k) hlt
   rw [hy] at this
   exact Vk c l n y (by omega)
set_option maxRecDepth 4000
theorem AIa (t:Str) (a b:Int) (ha : -9223372036854775808≤a∧a≤9223372036854775807) (Hp:List AObj):AFun Tryz.prog 181 [Ax t,A5 a,A5 b] Hp (My (Eg (E1 t a b))):=by
 refine Ae [.cell 6 44,.tmp 7] [0,1,2] Tryz.func181 Tryz.ntmps181 (fun d=>?_)
 refine fx ?_;refine A0 [0,1,2,6] ?_;refine Z32 ?_;refine A0 [1,2,6,8] ?_;refine Z95 ?_;refine A0 [1,2,6,8,9] ?_
 refine A1 (fun ht9=>?_) (fun ht9=>?_)
 ·refine Z1 ?_;refine A6 Tryz.call195 (AHv _ _ _) ?_;exact we
 refine Z1 ?_;refine A0 [1,2,6,8,19] ?_
 refine A1 (fun ht19=>?_) (fun ht19=>?_)
 ·refine Z1 ?_;refine A6 Tryz.call183 (AG1 _ _ _) ?_;exact we
 refine Z1 ?_;refine A0 [1,2,6,8,29] ?_
 refine A1 (fun ht29=>?_) (fun ht29=>?_)
 ·refine Z1 ?_;refine A6 Tryz.call196 (AHz _ _ _) ?_;exact we
 refine Z1 ?_;refine A0 [1,2,6,39] ?_
 refine A1 (fun ht39=>?_) (fun ht39=>?_)
 ·refine Z1 ?_;refine A6 Tryz.call197 (AI0 _ _ _) ?_;exact we
 refine Yo ?_;refine A6 Tryz.call198 (AI1 _ _ ha _) ?_;refine vg ?_;refine Sk ?_;refine Z9 ?_;exact AF1

theorem AIb (a b:Val) (fa:Fine a) (fb:Fine b) (Hp:List AObj):AFun Tryz.prog 180 [.slice false 3 [Ba a,Ba b]] Hp (My (H3 a b)):=by
 refine Ae [.cell 2 44,.tmp 3] [0] Tryz.func180 Tryz.ntmps180 (fun d=>?_)
 refine fx ?_;refine A0 [0,2] ?_;refine Uh ?_;refine Qr jU jS jZ ?_;refine A6 Tryz.call160 (t8 [a,b] [2,2] (by simp) (by simp) _) ?_;refine Z0 ?_;refine A0 [0,2,4] ?_
 refine A1 (fun ht4=>?_) (fun ht4=>?_)
 ·have hm:H3 a b=Ck 10:=if_pos ht4
  refine g8 ?_;refine Z54 ?_;exact Z25
 have hla:=fa.len
 have hlb:=fb.len
 refine Df [0,1,3,7,15,0,32,96,224,480,1023,2047,4095] 10 An (by kernel_rfl) ?_;refine Ag ?_
 refine Ag (h:=A9 (0) (Ba a) (fun _=>show ([Ba a,Ba b]:List AV)[0]? = some (Ba a) from rfl)) (hr:=?_)
 refine Qx ?_
 refine Ag (h:=A9 (1) (Ba b) (fun _=>show ([Ba a,Ba b]:List AV)[1]? = some (Ba b) from rfl)) (hr:=?_)
 refine Z45 ?_;refine Fx ?_
 refine A2 (h:=Q.add64 (h1:=fun _=>by omega) (h2:=fun _=>by omega)) (hr:=?_)
 refine Z0 ?_;refine A0 [0,2,12] ?_
 refine A1 (fun ht12=>?_) (fun ht12=>?_)
 ·have hm:H3 a b=Ck 3:=by unfold H3;rw [if_neg (by rw [ht4];simp),if_pos ht12]
  refine g8 ?_;refine Z54 ?_;exact Z25
 have hm:H3 a b=(P2 (a.s++b.s),0):=by unfold H3;rw [if_neg (by rw [ht4];simp),if_neg (by rw [ht12];simp)]
 refine Z19 ?_;refine Df [0,1,3,7,0,16,48,112,255,511,1023,2047] 8 An (by kernel_rfl) ?_;refine Ag ?_
 refine Ag (h:=A9 (0) (Ba a) (fun _=>show ([Ba a,Ba b]:List AV)[0]? = some (Ba a) from rfl)) (hr:=?_)
 refine Z45 ?_
 refine Ag (h:=A9 (1) (Ba b) (fun _=>show ([Ba a,Ba b]:List AV)[1]? = some (Ba b) from rfl)) (hr:=?_)
 refine Z85 ?_
 refine A2 (h:=Q.sadd (hl:=fun _=>by omega)) (hr:=?_)
 refine A6 Tryz.call184 (x8 _ _) ?_;refine Z7 ?_;refine Z54 ?_;exact bj

theorem AIc (t:Str) (a b:Val) (fa:Fine a) (fb:Fine b) (Hp:List AObj):AFun Tryz.prog 159 [Ax t,.slice false 3 [Ba a,Ba b]] Hp (My (Gc t a b)):=by
 refine Ae [.cell 4 44,.tmp 5] [0,1] Tryz.func159 Tryz.ntmps159 (fun d=>?_)
 refine fx ?_;refine A0 [0,1,4] ?_;refine K9 ?_;refine Df [0,0,2,6,0,16,48,126,255,511,1023,1023,2047,8191] 13 An (by kernel_rfl) ?_;refine Z17 ?_
 refine Ag (h:=A9 (0) (Ba a) (fun _=>show ([Ba a,Ba b]:List AV)[0]? = some (Ba a) from rfl)) (hr:=?_)
 refine Z17 ?_
 refine Ag (h:=A9 (1) (Ba b) (fun _=>show ([Ba a,Ba b]:List AV)[1]? = some (Ba b) from rfl)) (hr:=?_)
 refine Ag ?_;refine Cy Tryz.call179 (AI5 _ _ _) ?_;refine Cy Tryz.call178 (AHu _ _ _) ?_;refine Z17 ?_;refine g6 ?_;refine A0 [0,1,4,6,7] ?_;refine Z2 ?_;refine A0 [0,1,4,6,20] ?_
 refine A1 (fun ht20=>?_) (fun ht20=>?_)
 ·refine K9 ?_;refine Df [0,1,3,7,0,16,48,112,255] 8 An (by kernel_rfl) ?_;refine Ag ?_
  refine Ag (h:=A9 (0) (Ba a) (fun _=>show ([Ba a,Ba b]:List AV)[0]? = some (Ba a) from rfl)) (hr:=?_)
  refine Z45 ?_
  refine Ag (h:=A9 (1) (Ba b) (fun _=>show ([Ba a,Ba b]:List AV)[1]? = some (Ba b) from rfl)) (hr:=?_)
  refine g6 ?_;refine A0 [4,6,29] ?_
  refine A1 (fun ht29=>?_) (fun ht29=>?_)
  ·have hm:Gc t a b=Ck 10:=by unfold Gc;rw [if_pos ht20,if_pos ht29]
   refine g8 ?_;refine Z43 ?_;exact AAs
  have hm:Gc t a b=(Dl (Ea t (P5 a b)).1,0):=by unfold Gc;rw [if_pos ht20,if_neg (by rw [ht29];simp)]
  refine Ja ?_;refine A6 Tryz.call129 (rm _ _) ?_;refine Z7 ?_;exact Z83
 refine Mt ?_;refine A0 [0,1,4,36] ?_
 refine A1 (fun ht36=>?_) (fun ht36=>?_)
 ·have hm:Gc t a b=H3 a b:=by unfold Gc;rw [if_neg (by rw [ht20];simp),if_pos ht36]
  refine Z2 ?_;refine A6 Tryz.call180 (AIb a b fa fb _) ?_;refine Sk ?_;exact Z83
 refine Pq ?_;refine Qr jU jS jZ ?_;refine A6 Tryz.call160 (t8 [a,b] [1,1] (by simp) (by simp) _) ?_;refine A2 ?_;refine A0 [0,1,4,44] ?_
 refine A1 (fun ht44=>?_) (fun ht44=>?_)
 ·have hm:Gc t a b=Ck 10:=by unfold Gc;rw [if_neg (by rw [ht20];simp),if_neg (by rw [ht36];simp),if_pos ht44]
  refine g8 ?_;exact Z83
 have hm:Gc t a b=Eg (E1 t a.n b.n):=by unfold Gc;rw [if_neg (by rw [ht20];simp),if_neg (by rw [ht36];simp),if_neg (by rw [ht44];simp)]
 refine Z3 ?_;refine Df [0,0,2,6,14,0,32,96,224,511,1023,1023,4095,8191] 12 An (by kernel_rfl) ?_;refine Z17 ?_
 refine Ag (h:=A9 (0) (Ba a) (fun _=>show ([Ba a,Ba b]:List AV)[0]? = some (Ba a) from rfl)) (hr:=?_)
 refine Z45 ?_
 refine Ag (h:=A9 (1) (Ba b) (fun _=>show ([Ba a,Ba b]:List AV)[1]? = some (Ba b) from rfl)) (hr:=?_)
 refine Z17 ?_;refine Cy Tryz.call181 (AIa _ _ _ ⟨fa.lo,fa.hi⟩ _) ?_;refine Z85 ?_;refine Z7 ?_;exact Z74

theorem AC2 (s:Str) (n:Int):∃k:Nat,(if (0:Int)<(if (s.length:Int)<n then (s.length:Int) else n) then (if (s.length:Int)<n then (s.length:Int) else n) else 0)=(k:Int)∧k≤s.length∧k=(max 0 (min n s.length)).toNat:=by
 refine ⟨(max 0 (min n s.length)).toNat,?_,?_,rfl⟩<;>repeat' split
 all_goals omega
theorem AId (t s:Str) (n:Int) (hs:s.length≤1048576) (Hp:List AObj):AFun Tryz.prog 164 [Ax t,Ax s,A5 n] Hp (Ba (Ig t s n)):=by
 refine Ae [.cell 6 44] [0,1,2] Tryz.func164 Tryz.ntmps164 (fun d=>?_)
 refine Z98 ?_;refine A0 [0,1,2,6] ?_;refine Z18 ?_;refine R.minI ?_;refine R.maxI ?_
 obtain ⟨k,hk,hks,hke⟩:=AC2 s n
 simp only [hk]
 refine A2 ?_;refine A0 [0,1,6,7] ?_;refine Z8 ?_;refine A0 [1,6,7,14] ?_
 refine A1 (fun ht14=>?_) (fun ht14=>?_)
 ·have hm:Ig t s n=P2 (s.take k):=by unfold Ig;rw [if_pos ht14,←hke]
  refine Z1 ?_
  refine A2 (h:=K7 k (fun _=>Ah _) (fun _=>hks)) (hr:=?_)
  refine A6 Tryz.call184 (x8 _ _) ?_;refine F9 ?_;refine Z75 ?_;refine C4 ?_;exact AF2
 have hm:Ig t s n=P2 (s.drop (s.length-k)):=by unfold Ig;rw [if_neg (by rw [ht14];simp),←hke]
 refine Yl ?_
 refine A2 (h:=J8 (h1:=fun _=>by omega) (h2:=fun _=>by omega)) (hr:=?_)
 refine A2 (h:=K8 (s.length-k) (fun _=>show s.length-k≤s.length by omega) (fun _=>Ao _)) (hr:=?_)
 refine A6 Tryz.call184 (x8 _ _) ?_;refine F9 ?_;refine Z75 ?_;exact AF2

theorem AIe (t:Str) (v:Val) (h:Fine v) (Hp:List AObj):AFun Tryz.prog 163 [Ax t,Ba v] Hp (My (Fk t v)):=by
 have hlen:=h.len
 refine Ae [.cell 4 44,.tmp 5] [0,1] Tryz.func163 Tryz.ntmps163 (fun d=>?_)
 refine Z2 ?_;refine Z55 ?_;refine A0 [0,3,4] ?_;refine Z20 ?_;refine bh ?_;refine A0 [0,3,4,6] ?_
 refine A1 (fun ht6=>?_) (fun ht6=>?_)
 ·have hm:Fk t v=(P2 (Lib.itoa v.n),0):=if_pos ht6
  refine Z1 ?_;refine A6 Tryz.call185 (AHa _ h.lo h.hi _) ?_;refine A6 Tryz.call184 (x8 _ _) ?_;exact Qt
 refine bh ?_;refine A0 [0,3,4,18] ?_
 refine A1 (fun ht18=>?_) (fun ht18=>?_)
 ·have hm:Fk t v=(⟨1,v.s.length,[]⟩,0):=by unfold Fk;rw [if_neg (by rw [ht6];simp),if_pos ht18]
  refine Z18 ?_;refine A6 Tryz.call182 (AFk _ _) ?_;exact Qt
 refine bh ?_;refine A0 [3,4,30] ?_
 refine A1 (fun ht30=>?_) (fun ht30=>?_)
 ·have hm:Fk t v=Eg (Bx v.s):=by unfold Fk;rw [if_neg (by rw [ht6];simp),if_neg (by rw [ht18];simp),if_pos ht30]
  refine Z1 ?_;refine A6 Tryz.call186 (AH9 v.s (by omega) _) ?_;refine vg ?_;exact wj
 have hm:Fk t v=Ck 10:=by unfold Fk;rw [if_neg (by rw [ht6];simp),if_neg (by rw [ht18];simp),if_neg (by rw [ht30];simp)]
 refine Z19 ?_;refine g8 ?_;exact Z74

theorem yd {vs:List Val} (h:0<vs.length):vs.getD 0 noV=vs[0]:=by rw [Dd,Aa h];rfl
/-- As many values as a node asks for. -/
structure ArgsOk (o:Int) (vs:List Val):Prop where
 two:o=5→∃a b,vs=[a,b]
 one:o=3∨o=4→vs.length=1
 call:o=6→vs.length=1∨∃a b,vs=[a,b]
 fine:∀v∈vs,Fine v
theorem AIf (e:Expr) (vs:List Val) (h:ArgsOk e.op vs) (Hp:List AObj):AFun Tryz.prog 149 [Al e,B6 vs] Hp (My (Au e.op e.text vs)):=by
 refine Ae [.cell 4 44,.tmp 5] [0,1] Tryz.func149 Tryz.ntmps149 (fun d=>?_)
 refine Z2 ?_;refine Z55 ?_;refine A0 [1,2,4] ?_;refine Z20 ?_;refine Z39 ?_;refine A0 [1,2,4,6] ?_
 refine A1 (fun ht6=>?_) (fun ht6=>?_)
 ·obtain ⟨a,b,rfl⟩:=h.two (by simpa using ht6)
  have hm:Au e.op e.text [a,b]=Gc e.text a b:=if_pos ht6
  refine Z18 ?_;refine A6 Tryz.call159 (AIc e.text a b (h.fine a (by simp)) (h.fine b (by simp)) _) ?_;exact wj
 refine md ?_;refine G.buildSl jU jS jZ ?_
 refine Bj Tryz.call160 (C:=((e.op==3)==true)) (fun hB=>t8 vs [1] (by have:=h.one (.inl (by simpa using hB));simp [this]) (by simp) _) ?_
 refine Z0 ?_;refine A0 [1,2,4,16] ?_
 refine A1 (fun ht16=>?_) (fun ht16=>?_)
 ·have hm0:((e.op==3)&&Bm vs [1])=true:=ht16
  have hop:e.op=3:=by simp only [Ap,beq_iff_eq] at hm0;exact hm0.1
  have hln:=h.one (.inl hop)
  have hg0:(vs.map Ba)[0]? = some (Ba (vs.getD 0 noV)):=by rw [yd (by omega)];exact Ak (by omega)
  have hm:Au e.op e.text vs=Eg (In 0 (vs.getD 0 noV).n):=by unfold Au;rw [if_neg (by rw [ht6];simp),if_pos ht16]
  refine Z2 ?_
  refine A2 (h:=A9 (0) (Ba (vs.getD 0 noV)) (fun _=>hg0)) (hr:=?_)
  refine Z0 ?_;refine A6 Tryz.call162 (AHw _ _) ?_;refine vg ?_;exact wj
 refine md ?_;refine G.buildSl jU jS jZ ?_
 refine Bj Tryz.call160 (C:=((e.op==4)==true)) (fun hB=>t8 vs [3] (by have:=h.one (.inr (by simpa using hB));simp [this]) (by simp) _) ?_
 refine Z0 ?_;refine A0 [1,2,4,35] ?_
 refine A1 (fun ht35=>?_) (fun ht35=>?_)
 ·have hm0:((e.op==4)&&Bm vs [3])=true:=ht35
  have hop:e.op=4:=by simp only [Ap,beq_iff_eq] at hm0;exact hm0.1
  have hln:=h.one (.inr hop)
  have hg0:(vs.map Ba)[0]? = some (Ba (vs.getD 0 noV)):=by rw [yd (by omega)];exact Ak (by omega)
  have hm:Au e.op e.text vs=(Dl ((vs.getD 0 noV).n==0),0):=by unfold Au;rw [if_neg (by rw [ht6];simp),if_neg (by rw [ht16];simp),if_pos ht35]
  refine Z2 ?_
  refine A2 (h:=A9 (0) (Ba (vs.getD 0 noV)) (fun _=>hg0)) (hr:=?_)
  refine Z13 ?_;exact AEs
 refine Z39 ?_;refine A0 [1,2,4,50] ?_
 refine A1 (fun ht50=>?_) (fun ht50=>?_)
 ·have hm:Au e.op e.text vs=Ck 10:=by unfold Au;rw [if_neg (by rw [ht6];simp),if_neg (by rw [ht16];simp),if_neg (by rw [ht35];simp),if_pos ht50]
  refine vl ?_;exact Qt
 have hop:e.op=6:=by simpa using ht50
 have hcl:=h.call hop
 refine Z39 ?_;refine A0 [1,2,4,57] ?_
 refine A1 (fun ht57=>?_) (fun ht57=>?_)
 ·rw [Am] at ht57
  have hln:vs.length=1:=by have:=ht57;simp only [beq_iff_eq] at this;omega
  have hg0:(vs.map Ba)[0]? = some (Ba (vs.getD 0 noV)):=by rw [yd (by omega)];exact Ak (by omega)
  have hf0:Fine (vs.getD 0 noV):=by rw [yd (by omega)];exact h.fine _ (Az _)
  have hm:Au e.op e.text vs=Fk e.text (vs.getD 0 noV):=by unfold Au;rw [if_neg (by rw [ht6];simp),if_neg (by rw [ht16];simp),if_neg (by rw [ht35];simp),if_neg (by rw [ht50];simp),if_pos ht57]
  refine Df [0,1,0,4,12,31,63,63,255,511] 8 An (by kernel_rfl) ?_;refine Z45 ?_
  refine Ag (h:=A9 (0) (Ba (vs.getD 0 noV)) (fun _=>hg0)) (hr:=?_)
  refine Ag ?_;refine Cy Tryz.call163 (AIe _ _ hf0 _) ?_;refine Z85 ?_;exact Qt
 rw [Am] at ht57
 obtain ⟨a,b,rfl⟩:∃a b,vs=[a,b]:=by
  rcases hcl with h1|h1
  ·exfalso
   have:=ht57
   rw [h1] at this
   simp at this
  exact h1
 refine Z2 ?_;refine Qr jU jS jZ ?_;refine A6 Tryz.call160 (t8 [a,b] [2,1] (by simp) (by simp) _) ?_;refine Z0 ?_;refine A0 [1,2,4,69] ?_
 refine A1 (fun ht69=>?_) (fun ht69=>?_)
 ·have hm:Au e.op e.text [a,b]=Ck 10:=by unfold Au;rw [if_neg (by rw [ht6];simp),if_neg (by rw [ht16];simp),if_neg (by rw [ht35];simp),if_neg (by rw [ht50];simp),if_neg (by rw [ht57];simp),if_pos ht69]
  refine vl ?_;exact Qt
 have hm:Au e.op e.text [a,b]=(Ig e.text a.s b.n,0):=by unfold Au;rw [if_neg (by rw [ht6];simp),if_neg (by rw [ht16];simp),if_neg (by rw [ht35];simp),if_neg (by rw [ht50];simp),if_neg (by rw [ht57];simp),if_neg (by rw [ht69];simp)];rfl
 refine Z19 ?_;refine Df [0,1,0,4,12,28,0,64,192,448,1023,2047,4095] 10 An (by kernel_rfl) ?_;refine Z45 ?_
 refine Ag (h:=A9 (0) (Ba a) (fun _=>show ([Ba a,Ba b]:List AV)[0]? = some (Ba a) from rfl)) (hr:=?_)
 refine Z45 ?_
 refine Ag (h:=A9 (1) (Ba b) (fun _=>show ([Ba a,Ba b]:List AV)[1]? = some (Ba b) from rfl)) (hr:=?_)
 refine Z85 ?_
 refine A6 Tryz.call164 (AId e.text a.s b.n (by have:=(h.fine a (by simp)).len;omega) _) ?_
 refine Z7 ?_;exact Z74

theorem Nu (a b:Val):((a.kind==b.kind&&a.n==b.n)&&a.s==b.s)=(a==b):=by
 obtain ⟨k,n,s⟩:=a
 obtain ⟨k',n',s'⟩:=b
 by_cases h:(⟨k,n,s⟩:Val)=⟨k',n',s'⟩
 ·injection h with h1 h2 h3
  subst h1;subst h2;subst h3
  simp
 have:((⟨k,n,s⟩:Val)==⟨k',n',s'⟩)=false:=by simpa using h
 rw [this]
 simp only [Tn,beq_eq_false_iff_ne]
 by_cases h1:k=k'
 ·by_cases h2:n=n'
  ·right
   rintro rfl
   exact h (by rw [h1,h2])
  exact .inl (.inr h2)
 exact .inl (.inl h1)
/-- What eval answers for a tree, over any heap. -/
abbrev Ip (c:List Col) (l:List Val) (e:Expr) (r:Rs):Prop:=∀Hp,AFun Tryz.prog 105 [Vd c l,Al e] Hp (My r)
theorem AGc (c:List Col) (l:List Val) (x:Expr) (r:Rs) (h:Ip c l x r) (Hp:List AObj):AFun Tryz.prog 148 [Vd c l,Al x] Hp (My (B1 r)):=by
 refine Ae [.cell 4 44,.tmp 5] [0,1] Tryz.func148 Tryz.ntmps148 (fun d=>?_)
 refine Z1 ?_;refine wp ?_;refine Z1 ?_;refine A6 Tryz.call105 (h _) ?_;refine Pt ?_;refine A0 [4,6,7] ?_;refine Z27 ?_;refine Z10 ?_;refine Qv ?_;refine Z50 ?_;refine A0 [4,6,7,25] ?_
 refine A1 (fun ht25=>?_) (fun ht25=>?_)
 ·have hm:B1 r=Ck 10:=if_pos ht25
  refine g8 ?_;exact Z83
 have hm:B1 r=r:=if_neg (by rw [ht25];simp)
 refine Z84 ?_;refine Z7 ?_;exact Z74

theorem AGd (c:List Col) (l:List Val) (x k0 k1:Expr) (s:Val) (ra rb:Rs) (h0:(x.kids.map Al)[0]? = some (Al k0)) (h1:(x.kids.map Al)[1]? = some (Al k1)) (ha:Ip c l k0 ra) (hb:Ip c l k1 rb) (Hp:List AObj):AFun Tryz.prog 128 [Vd c l,Al x,Ba s] Hp (My (F5 s ra rb)):=by
 refine Ae [.cell 6 44,.tmp 7] [0,1,2] Tryz.func128 Tryz.ntmps128 (fun d=>?_)
 refine Z18 ?_;refine Z55 ?_;refine A0 [3,4,5,6] ?_;refine Mp [0,0,2,6,14,31,63,127,127,0,767,2047] [9,10] [.q 9 [] [],.s [8] (some 0) [] [1],.s [] (some 1) [0] []] (fun _=>Hp) (fun B=>if B 0=true then [.cells 44 [A5 0,A5 0,Ax []],(if B 1=true then .cells 44 [A5 (B1 ra).1.kind,A5 (B1 ra).1.n,Ax (B1 ra).1.s] else .cells 44 [A5 0,A5 0,Ax []]:AObj)] else [.cells 44 [A5 0,A5 0,Ax []]]) An (by kernel_rfl) rfl rfl (fun _=>rfl) ?_
 apply Y.q
 ·intro B hT hF
  refine Z45 ?_
  refine Ag (h:=A9 (0) (Al k0) (fun _=>h0)) (hr:=?_)
  refine Ag ?_;exact AEd
 case hTF=>decide
 refine Z81 ?_;refine AD5 ?_;refine A0 [3,4,5,6,8,9] ?_;refine Z27 ?_;refine Z10 ?_
 refine B8 (h:=Ok Sn (fun w=>Gs (B1 ra).1.kind (B1 ra).1.n s.kind s.n (B1 ra).1.s s.s w)) (hr:=?_)
 refine A2 ?_;refine A0 [3,4,5,6,8,9,26] ?_
 refine A1 (fun ht26=>?_) (fun ht26=>?_)
 ·rw [Nu] at ht26
  have hm:F5 s ra rb=B1 ra:=if_pos ht26
  refine Z1 ?_;exact AAu
 rw [Nu] at ht26
 refine Z3 ?_;refine Mp [0,0,2,6,14,31,63,127,127,0,767,2047] [9,10] [.q 9 [] [],.s [10] (some 0) [] [1],.s [] (some 1) [0] []] (fun _=>Hp) (fun B=>if B 0=true then [.cells 44 [A5 0,A5 0,Ax []],.cells 44 [A5 (B1 ra).1.kind,A5 (B1 ra).1.n,Ax (B1 ra).1.s],(if B 1=true then .cells 44 [A5 (B1 rb).1.kind,A5 (B1 rb).1.n,Ax (B1 rb).1.s] else .cells 44 [A5 0,A5 0,Ax []]:AObj)] else [.cells 44 [A5 0,A5 0,Ax []],.cells 44 [A5 (B1 ra).1.kind,A5 (B1 ra).1.n,Ax (B1 ra).1.s]]) An (by kernel_rfl) rfl rfl (fun _=>rfl) ?_
 apply Y.q
 ·intro B hT hF
  refine Z45 ?_
  refine Ag (h:=A9 (1) (Al k1) (fun _=>h1)) (hr:=?_)
  refine Ag ?_;refine Cy Tryz.call148 (AGc c l k1 rb hb _) ?_;exact AB4
 case hTF=>decide
 refine Y.alloc (zs:=[A5 0,A5 0,Ax []]) (n:=2) (u:=Hp.length) Tryz.zeroValue44 (fun B hT hF hB=>⟨rfl,by simp [hB],by simp [upd,hB,hF 1 (by simp)],rfl⟩) ?_;refine Y.storeOwnT (u:=Hp.length) (n:=2) (t':=44) (cs:=[A5 0,A5 0,Ax []]) (cs':=[A5 (B1 rb).1.kind,A5 (B1 rb).1.n,Ax (B1 rb).1.s]) Tryz.sizeOf44 (fun B hT hF hB=>⟨rfl,by simp [hT 0 (by simp),hB],by simp [upd,hT 0 (by simp),hB],rfl⟩) ?_;refine Oo (tn:=[9,10]) (O:=[.cells 44 [A5 0,A5 0,Ax []],.cells 44 [A5 (B1 ra).1.kind,A5 (B1 ra).1.n,Ax (B1 ra).1.s],.cells 44 [A5 (B1 rb).1.kind,A5 (B1 rb).1.n,Ax (B1 rb).1.s]]) ?_;refine A2 ?_;refine A0 [5,6,8,9,10] ?_;refine Z27 ?_;refine Z10 ?_
 refine B8 (h:=Ok Sn (fun w=>Gs (B1 rb).1.kind (B1 rb).1.n s.kind s.n (B1 rb).1.s s.s w)) (hr:=?_)
 refine fu ?_;refine A0 [6,8,9,10,49] ?_
 refine A1 (fun ht49=>?_) (fun ht49=>?_)
 ·rw [Nu] at ht49
  have hm:F5 s ra rb=B1 rb:=by unfold F5;rw [if_neg (by rw [ht26];simp),if_pos ht49]
  refine Z1 ?_;exact AAu
 rw [Nu] at ht49
 have hm:F5 s ra rb=((B1 ra).1,0):=by unfold F5;rw [if_neg (by rw [ht26];simp),if_neg (by rw [ht49];simp)]
 refine Ja ?_;refine Z7 ?_;exact ADj

theorem AIg (c:List Col) (l:List Val) (x k0 k1 k2:Expr) (ra rb d2:Rs) (h0:(x.kids.map Al)[0]? = some (Al k0)) (h1:(x.text==Bu)=false→(x.kids.map Al)[1]? = some (Al k1)) (h2:(x.text==ifW)=true→(x.kids.map Al)[2]? = some (Al k2)) (ha:Ip c l k0 ra) (hb:(x.text==Bu)=false→Ip c l k1 rb) (hd:(x.text==ifW)=true→Ip c l k2 d2) (Hp:List AObj):AFun Tryz.prog 130 [Vd c l,Al x] Hp (My (Dp x.text ra rb d2)):=by
 refine Ae [.cell 4 44,.tmp 5] [0,1] Tryz.func130 Tryz.ntmps130 (fun d=>?_)
 refine Z1 ?_;refine wp ?_;refine Z27 ?_;refine A0 [2,3,4,12] ?_
 refine A1 (fun ht12=>?_) (fun ht12=>?_)
 ·have hni:(x.text==Bu)=false:=by
   have e:x.text=ifW:=by simpa [ifW] using ht12
   rw [e];rfl
  have hc:Dp x.text ra rb d2=(if (B1 ra).2 != 0 then Ck (B1 ra).2 else if (B1 ra).1==Dl true then rb else d2):=if_pos ht12
  refine Mp [0,0,2,6,14,31,63,127,127,0,767,2047] [9,10] [.q 9 [] [],.s [6] (some 0) [] [1],.s [] (some 1) [0] []] (fun _=>Hp) (fun B=>if B 0=true then [.cells 44 [A5 0,A5 0,Ax []],(if B 1=true then .cells 44 [A5 (B1 ra).1.kind,A5 (B1 ra).1.n,Ax (B1 ra).1.s] else .cells 44 [A5 0,A5 0,Ax []]:AObj)] else [.cells 44 [A5 0,A5 0,Ax []]]) An (by kernel_rfl) rfl rfl (fun _=>rfl) ?_
  apply Y.q
  ·intro B hT hF
   refine Z45 ?_
   refine Ag (h:=A9 (0) (Al k0) (fun _=>h0)) (hr:=?_)
   refine Ag ?_;exact AEd
  case hTF=>decide
  refine Z81 ?_;refine AD5 ?_;refine A0 [2,3,4,6,7] ?_;refine Z20 ?_;refine Z18 ?_;refine A0 [2,3,4,6,7,22] ?_
  refine A1 (fun ht22=>?_) (fun ht22=>?_)
  ·have hm:Dp x.text ra rb d2=Ck (B1 ra).2:=by rw [hc,if_pos ht22]
   refine Z2 ?_;refine Z62 ?_;refine Z7 ?_;refine U9 ?_;exact AAs
  refine Df [0,0,3,7] 2 An (by kernel_rfl) ?_;refine Ag ?_;refine Cy Tryz.call129 (rm true _) ?_;refine Fx ?_
  refine A2 (h:=Ok Sn (fun w=>Gs (B1 ra).1.kind (B1 ra).1.n 3 1 (B1 ra).1.s [] w)) (hr:=?_)
  refine A2 ?_;refine A0 [2,3,4,29] ?_
  refine A1 (fun ht29=>?_) (fun ht29=>?_)
  ·rw [Nu (B1 ra).1 ⟨3,1,[]⟩] at ht29
   have ht29b:((B1 ra).1==Dl true)=true:=ht29
   have hm:Dp x.text ra rb d2=rb:=by rw [hc,if_neg (by rw [ht22];simp),if_pos ht29b]
   refine AAx ?_
   refine Ag (h:=A9 (1) (Al k1) (fun _=>h1 hni)) (hr:=?_)
   refine Ag ?_;refine Cy Tryz.call105 (hb hni _) ?_;refine Z85 ?_;refine Z7 ?_;refine U9 ?_;exact AAs
  rw [Nu (B1 ra).1 ⟨3,1,[]⟩] at ht29
  have hm:Dp x.text ra rb d2=d2:=by rw [hc,if_neg (by rw [ht22];simp),if_neg (by show ¬((B1 ra).1==⟨3,1,[]⟩)=true;rw [ht29];simp)]
  refine Z19 ?_;refine AAx ?_
  refine Ag (h:=A9 (2) (Al k2) (fun _=>h2 ht12)) (hr:=?_)
  refine Ag ?_;refine Cy Tryz.call105 (hd ht12 _) ?_;refine Z85 ?_;refine Z7 ?_;exact Z83
 have hc:Dp x.text ra rb d2=(if ra.2 != 0 then Ck ra.2 else if x.text==Bu then (Dl (ra.1.kind==0),0) else if ra.1.kind != 0 then (ra.1,0) else rb):=if_neg (by show ¬(x.text==ifW)=true;rw [show (x.text==ifW)=false from ht12];simp)
 refine Z3 ?_;refine Mp [0,0,2,6,14,31,63,127,127,0,767,2047] [9,10] [.q 9 [] [],.s [8] (some 0) [] [1],.s [] (some 1) [0] []] (fun _=>Hp) (fun B=>if B 0=true then [.cells 44 [A5 0,A5 0,Ax []],(if B 1=true then .cells 44 [A5 ra.1.kind,A5 ra.1.n,Ax ra.1.s] else .cells 44 [A5 0,A5 0,Ax []]:AObj)] else [.cells 44 [A5 0,A5 0,Ax []]]) An (by kernel_rfl) rfl rfl (fun _=>rfl) ?_
 apply Y.q
 ·intro B hT hF
  refine Z45 ?_
  refine Ag (h:=A9 (0) (Al k0) (fun _=>h0)) (hr:=?_)
  refine Ag ?_;refine Cy Tryz.call105 (ha _) ?_;exact AB4
 case hTF=>decide
 refine AF3 ?_;refine Y.storeOwnT (u:=Hp.length) (n:=1) (t':=44) (cs:=[A5 0,A5 0,Ax []]) (cs':=[A5 ra.1.kind,A5 ra.1.n,Ax ra.1.s]) Tryz.sizeOf44 (fun B hT hF hB=>⟨rfl,by simp [hT 0 (by simp),hB],by simp [upd,hT 0 (by simp),hB],rfl⟩) ?_;refine Oo (tn:=[9,10]) (O:=[.cells 44 [A5 0,A5 0,Ax []],.cells 44 [A5 ra.1.kind,A5 ra.1.n,Ax ra.1.s]]) ?_;refine A2 ?_;refine A0 [2,3,4,8,9] ?_;refine Z20 ?_;refine Z18 ?_;refine A0 [2,3,4,8,9,58] ?_
 refine A1 (fun ht58=>?_) (fun ht58=>?_)
 ·have hm:Dp x.text ra rb d2=Ck ra.2:=by rw [hc,if_pos ht58]
  refine Z2 ?_;refine Z62 ?_;exact Qt
 refine Z39 ?_;refine A0 [2,3,4,8,65] ?_
 refine A1 (fun ht65=>?_) (fun ht65=>?_)
 ·have hm:Dp x.text ra rb d2=(Dl (ra.1.kind==0),0):=by rw [hc,if_neg (by rw [ht58];simp),if_pos (show (x.text==Bu)=true from ht65)]
  refine Z18 ?_;exact AEs
 refine Z39 ?_;refine A0 [2,3,4,8,73] ?_
 refine A1 (fun ht73=>?_) (fun ht73=>?_)
 ·have hm:Dp x.text ra rb d2=(ra.1,0):=by rw [hc,if_neg (by rw [ht58];simp),if_neg (by show ¬(x.text==Bu)=true;rw [show (x.text==Bu)=false from ht65];simp),if_pos ht73]
  refine Z2 ?_;exact Qt
 have hm:Dp x.text ra rb d2=rb:=by rw [hc,if_neg (by rw [ht58];simp),if_neg (by show ¬(x.text==Bu)=true;rw [show (x.text==Bu)=false from ht65];simp),if_neg (by rw [ht73];simp)]
 refine Z19 ?_;refine AAx ?_
 refine Ag (h:=A9 (1) (Al k1) (fun _=>h1 ht65)) (hr:=?_)
 refine Ag ?_;refine Cy Tryz.call105 (hb ht65 _) ?_;refine Z85 ?_;refine Z7 ?_;exact Z74

abbrev Vl (s:Sign):AV:=.agg [.slice false 1 (s.kids.map A5),A5 s.own]
theorem AC3 {m:Sign} {a o:Int} (h:m=⟨[a],o⟩):AV.agg [.slice false 1 [A5 a],A5 o]=Vl m:=by rw [h];rfl
theorem tr {m:Sign} {a b o:Int} (h:m=⟨[a,b],o⟩):AV.agg [.slice false 1 [A5 a,A5 b],A5 o]=Vl m:=by rw [h];rfl
theorem AC4 {m:Sign} {a b c o:Int} (h:m=⟨[a,b,c],o⟩):AV.agg [.slice false 1 [A5 a,A5 b,A5 c],A5 o]=Vl m:=by rw [h];rfl
theorem AIh (s:Str) (Hp:List AObj):AFun Tryz.prog 170 [Ax s] Hp (Vl (Cz s)):=by
 refine Ae [.cell 2 166] [0] Tryz.func170 Tryz.ntmps170 (fun d=>?_)
 refine b7 ?_;refine Z32 ?_;refine A0 [2,3] ?_;refine Ii ?_;refine Z8 ?_;refine Wh ?_
 refine A1 (fun ht4=>?_) (fun ht4=>?_)
 ·refine Z3 ?_
  refine A1 (fun ht4=>?_) (fun ht4=>?_)
  ·exact Z78
  refine Z8 ?_;refine A0 [2,3,9] ?_
  refine A1 (fun ht9=>?_) (fun ht9=>?_)
  ·refine Z3 ?_
   refine A1 (fun ht9=>?_) (fun ht9=>?_)
   ·exact Z78
   refine Sf ?_
   refine A1 (fun ht18=>?_) (fun ht18=>?_)
   ·exact Z78
   exact Sj
  refine We ?_
  refine A1 (fun ht9=>?_) (fun ht9=>?_)
  ·refine Z3 ?_
   refine A1 (fun ht9=>?_) (fun ht9=>?_)
   ·exact Z78
   refine Sf ?_
   refine A1 (fun ht18=>?_) (fun ht18=>?_)
   ·exact Z78
   exact Sj
  refine We ?_
  refine A1 (fun ht9=>?_) (fun ht9=>?_)
  ·refine Z3 ?_
   refine A1 (fun ht9=>?_) (fun ht9=>?_)
   ·exact Z78
   refine Sf ?_
   refine A1 (fun ht18=>?_) (fun ht18=>?_)
   ·exact Z78
   exact Sj
  refine We ?_
  refine A1 (fun ht9=>?_) (fun ht9=>?_)
  ·refine Z3 ?_
   refine A1 (fun ht9=>?_) (fun ht9=>?_)
   ·exact Z78
   refine Sf ?_
   refine A1 (fun ht18=>?_) (fun ht18=>?_)
   ·exact Z78
   exact Sj
  refine We ?_
  refine A1 (fun ht9=>?_) (fun ht9=>?_)
  ·refine Z3 ?_
   refine A1 (fun ht9=>?_) (fun ht9=>?_)
   ·exact Z78
   refine Sf ?_
   refine A1 (fun ht18=>?_) (fun ht18=>?_)
   ·exact Z78
   exact Sj
  refine Z31 ?_;refine A0 [2,3,9] ?_;refine Dk ?_
  refine A1 (fun ht9=>?_) (fun ht9=>?_)
  ·exact Z78
  refine Sf ?_
  refine A1 (fun ht18=>?_) (fun ht18=>?_)
  ·exact Z78
  exact Sj
 refine Z31 ?_;refine Wh ?_;refine Dk ?_
 refine A1 (fun ht4=>?_) (fun ht4=>?_)
 ·exact Z78
 refine Z8 ?_;refine A0 [2,3,9] ?_
 refine A1 (fun ht9=>?_) (fun ht9=>?_)
 ·refine Z3 ?_
  refine A1 (fun ht9=>?_) (fun ht9=>?_)
  ·exact Z78
  refine Sf ?_
  refine A1 (fun ht18=>?_) (fun ht18=>?_)
  ·exact Z78
  exact Sj
 refine We ?_
 refine A1 (fun ht9=>?_) (fun ht9=>?_)
 ·refine Z3 ?_
  refine A1 (fun ht9=>?_) (fun ht9=>?_)
  ·exact Z78
  refine Sf ?_
  refine A1 (fun ht18=>?_) (fun ht18=>?_)
  ·exact Z78
  exact Sj
 refine We ?_
 refine A1 (fun ht9=>?_) (fun ht9=>?_)
 ·refine Z3 ?_
  refine A1 (fun ht9=>?_) (fun ht9=>?_)
  ·exact Z78
  refine Sf ?_
  refine A1 (fun ht18=>?_) (fun ht18=>?_)
  ·exact Z78
  exact Sj
 refine We ?_
 refine A1 (fun ht9=>?_) (fun ht9=>?_)
 ·refine Z3 ?_
  refine A1 (fun ht9=>?_) (fun ht9=>?_)
  ·exact Z78
  refine Sf ?_
  refine A1 (fun ht18=>?_) (fun ht18=>?_)
  ·exact Z78
  exact Sj
 refine We ?_
 refine A1 (fun ht9=>?_) (fun ht9=>?_)
 ·refine Z3 ?_
  refine A1 (fun ht9=>?_) (fun ht9=>?_)
  ·exact Z78
  refine Sf ?_
  refine A1 (fun ht18=>?_) (fun ht18=>?_)
  ·exact Z78
  exact Sj
 refine Z31 ?_;refine A0 [2,3,9] ?_;refine Dk ?_
 refine A1 (fun ht9=>?_) (fun ht9=>?_)
 ·exact Z78
 refine Sf ?_
 refine A1 (fun ht18=>?_) (fun ht18=>?_)
 ·exact Z78
 exact Sj

theorem AIi (s:Str) (Hp:List AObj):AFun Tryz.prog 171 [Ax s] Hp (Vl (Dc s)):=by
 refine Ae [.cell 2 166] [0] Tryz.func171 Tryz.ntmps171 (fun d=>?_)
 refine b7 ?_;refine Z32 ?_;refine A0 [2,3] ?_;refine Ii ?_;refine Z8 ?_;refine Wh ?_
 refine A1 (fun ht4=>?_) (fun ht4=>?_)
 ·refine Z3 ?_
  refine A1 (fun ht4=>?_) (fun ht4=>?_)
  ·exact Nz
  refine We ?_
  refine A1 (fun ht9=>?_) (fun ht9=>?_)
  ·exact Nz
  refine Z8 ?_;refine A0 [2,3,13] ?_
  refine A1 (fun ht13=>?_) (fun ht13=>?_)
  ·refine Z3 ?_
   refine A1 (fun ht13=>?_) (fun ht13=>?_)
   ·exact Nz
   refine wh ?_
   refine A1 (fun ht18=>?_) (fun ht18=>?_)
   ·exact Nz
   refine Z1 ?_;refine A0 [2,22] ?_
   refine A1 (fun ht22=>?_) (fun ht22=>?_)
   ·exact Nz
   exact wl
  refine Z31 ?_;refine A0 [2,3,13] ?_;refine Dk ?_
  refine A1 (fun ht13=>?_) (fun ht13=>?_)
  ·exact Nz
  refine wh ?_
  refine A1 (fun ht18=>?_) (fun ht18=>?_)
  ·exact Nz
  refine Z1 ?_;refine A0 [2,22] ?_
  refine A1 (fun ht22=>?_) (fun ht22=>?_)
  ·exact Nz
  exact wl
 refine Z31 ?_;refine Wh ?_;refine Dk ?_
 refine A1 (fun ht4=>?_) (fun ht4=>?_)
 ·exact Nz
 refine We ?_
 refine A1 (fun ht9=>?_) (fun ht9=>?_)
 ·exact Nz
 refine Z8 ?_;refine A0 [2,3,13] ?_
 refine A1 (fun ht13=>?_) (fun ht13=>?_)
 ·refine Z3 ?_
  refine A1 (fun ht13=>?_) (fun ht13=>?_)
  ·exact Nz
  refine wh ?_
  refine A1 (fun ht18=>?_) (fun ht18=>?_)
  ·exact Nz
  refine Z1 ?_;refine A0 [2,22] ?_
  refine A1 (fun ht22=>?_) (fun ht22=>?_)
  ·exact Nz
  exact wl
 refine Z31 ?_;refine A0 [2,3,13] ?_;refine Dk ?_
 refine A1 (fun ht13=>?_) (fun ht13=>?_)
 ·exact Nz
 refine wh ?_
 refine A1 (fun ht18=>?_) (fun ht18=>?_)
 ·exact Nz
 refine Z1 ?_;refine A0 [2,22] ?_
 refine A1 (fun ht22=>?_) (fun ht22=>?_)
 ·exact Nz
 exact wl

theorem AIj (e:Expr) (Hp:List AObj):AFun Tryz.prog 152 [Al e] Hp (Vl (Hi e.op e.text)):=by
 refine Ae [.cell 2 166] [0] Tryz.func152 Tryz.ntmps152 (fun d=>?_)
 refine Z2 ?_;refine O0 ?_;refine A0 [1,2] ?_;refine Z8 ?_;refine A0 [1,2,4] ?_;refine Z95 ?_;refine A0 [1,2,4,5] ?_
 refine A1 (fun ht5=>?_) (fun ht5=>?_)
 ·refine Z42 ?_;exact AAr
 refine Z1 ?_;refine A0 [1,2,4,9] ?_
 refine A1 (fun ht9=>?_) (fun ht9=>?_)
 ·refine Z42 ?_;exact AAr
 refine Z1 ?_;refine A0 [1,2,13] ?_
 refine A1 (fun ht13=>?_) (fun ht13=>?_)
 ·refine Z1 ?_;refine A6 Tryz.call170 (AIh e.text _) ?_;refine Z22 ?_;exact AAr
 refine Yo ?_;refine A6 Tryz.call171 (AIi e.text _) ?_;refine Z22 ?_;exact AF4

theorem AGe (a b:Int) (Hp:List AObj):AFun Tryz.prog 172 [A5 a,A5 b] Hp (.tup [A5 (Ex a b).1,Ar (Ex a b).2]):=by
 refine Ae [.tmp 4,.tmp 5] [0,1] Tryz.func172 Tryz.ntmps172 (fun d=>?_)
 refine b8 ?_;refine Z20 ?_;refine Z18 ?_;refine A0 [0,1,6] ?_
 refine A1 (fun ht6=>?_) (fun ht6=>?_)
 ·refine Z18 ?_;exact ADn
 refine bh ?_;refine A0 [0,10] ?_
 refine A1 (fun ht10=>?_) (fun ht10=>?_)
 ·refine Z18 ?_;exact ADn
 refine Yo ?_;refine Z12 ?_;exact AF5

structure FitAt (s:Sign) (ks:List Int) (x:Nat×Int):Prop where
 le:x.1≤ks.length
 eq:Fu s.kids ks 0=Fu (s.kids.drop x.1) (ks.drop x.1) x.2
theorem FitAt.step {s:Sign} {ks:List Int} {x:Nat×Int} (h:FitAt s ks x) (hk:x.1<ks.length) (hs:x.1<s.kids.length):Fu s.kids ks 0=(if s.kids[x.1] == -2 then Fu (s.kids.drop (x.1+1)) (ks.drop (x.1+1)) x.2 else if s.kids[x.1] == -1 then (if (Ex x.2 ks[x.1]).2 then Fu (s.kids.drop (x.1+1)) (ks.drop (x.1+1)) (Ex x.2 ks[x.1]).1 else none) else if (Ex s.kids[x.1] ks[x.1]).2 then Fu (s.kids.drop (x.1+1)) (ks.drop (x.1+1)) x.2 else none):=by
 rw [h.eq,Gx hk,Gx hs,Fu]
theorem FitAt.skip {s:Sign} {ks:List Int} {x:Nat×Int} (h:FitAt s ks x) (hk:x.1<ks.length) (hs:x.1<s.kids.length) (h2:(s.kids[x.1] == -2)=true):FitAt s ks (x.1+1,x.2):=⟨hk,by rw [h.step hk hs,if_pos h2]⟩
theorem FitAt.same {s:Sign} {ks:List Int} {x:Nat×Int} (h:FitAt s ks x) (hk:x.1<ks.length) (hs:x.1<s.kids.length) (h2:(s.kids[x.1] == -2)=false) (h1:(s.kids[x.1] == -1)=true) (hm:(Ex x.2 ks[x.1]).2=true):FitAt s ks (x.1+1,(Ex x.2 ks[x.1]).1):=⟨hk,by rw [h.step hk hs,if_neg (by rw [h2];simp),if_pos h1,if_pos hm]⟩
theorem FitAt.want {s:Sign} {ks:List Int} {x:Nat×Int} (h:FitAt s ks x) (hk:x.1<ks.length) (hs:x.1<s.kids.length) (h2:(s.kids[x.1] == -2)=false) (h1:(s.kids[x.1] == -1)=false) (hm:(Ex s.kids[x.1] ks[x.1]).2=true):FitAt s ks (x.1+1,x.2):=⟨hk,by rw [h.step hk hs,if_neg (by rw [h2];simp),if_neg (by rw [h1];simp),if_pos hm]⟩
theorem FitAt.bad {s:Sign} {ks:List Int} {x:Nat×Int} (h:FitAt s ks x) (hk:x.1<ks.length) (hs:x.1<s.kids.length) (h2:(s.kids[x.1] == -2)=false) (hm:(if s.kids[x.1] == -1 then (Ex x.2 ks[x.1]).2 else (Ex s.kids[x.1] ks[x.1]).2)=false):If s ks=(0,10):=by
 unfold If
 rw [h.step hk hs,if_neg (by rw [h2];simp)]
 split at hm
 ·rename_i h1
  rw [if_pos h1,if_neg (by rw [hm];simp)]
 rename_i h1
 rw [if_neg h1,if_neg (by rw [hm];simp)]
theorem FitAt.out {s:Sign} {ks:List Int} {x:Nat×Int} (h:FitAt s ks x) (hk:ks.length≤x.1):If s ks=if s.own == -1 then (x.2,0) else (s.own,0):=by
 unfold If
 rw [h.eq,Qi hk]
 cases s.kids.drop x.1<;>rfl
theorem AIk (s:Sign) (ks:List Int) (hks:ks.length≤s.kids.length) (hk2:ks.length≤1048576) (Hp:List AObj):AFun Tryz.prog 153 [Vl s,.slice false 1 (ks.map A5)] Hp (.tup [A5 (If s ks).1,A5 (If s ks).2]):=by
 refine Ae [.tmp 4,.tmp 5] [0,1] Tryz.func153 Tryz.ntmps153 (fun d=>?_)
 refine qr ?_;refine Dv ?_;refine Z34 ?_;refine A0 [1,2,6] ?_;refine Z27 ?_;refine mf ?_
 refine Be (α:=Nat×Int) (fun x=>⟨49,A4 2 (.ro [.slice false 1 (s.kids.map A5),A5 s.own]) (A4 6 (.ptr (oid Hp.length 0) 0) (A4 13 (.slice false 1 (ks.map A5)) (A4 14 (A5 (ks.length:Nat)) (A4 15 (A5 (x.1:Nat)) (fun _=>.any))))),Hp,[.cells 3 [A5 x.2]],[],none⟩) (fun x=>FitAt s ks x) (fun x=>ks.length-x.1) ((0,0)) ⟨Ah _,rfl⟩ (B0 (by simp)) rfl (fun x hx=>?_)
 refine Z2 ?_;refine A0 [2,6,13,14,15,16] ?_
 refine Dn (fun ht16=>?_) (fun ht16=>?_)
 ·have hlt:x.1<ks.length:=by simpa using ht16
  have hls:x.1<s.kids.length:=by omega
  refine Uh ?_
  refine A2 (h:=A9 (x.1) (A5 ks[x.1]) (fun _=>Ak hlt)) (hr:=?_)
  refine Z13 ?_;refine A0 [2,6,7,8,13,14,15] ?_;refine Z18 ?_
  refine A2 (h:=A9 (x.1) (A5 s.kids[x.1]) (fun _=>Ak hls)) (hr:=?_)
  refine Pr ?_;refine A0 [2,6,8,9,13,14,15] ?_;refine Z8 ?_;refine A0 [2,6,8,9,13,14,15,26] ?_
  refine A1 (fun ht26=>?_) (fun ht26=>?_)
  ·refine Mr [2,6,13,14,15] ?_;refine Z38 ?_;refine K.blE ?_;refine Dk ?_;refine Z31 ?_;refine mf ?_
   first|(refine As (x.1+1,x.2) (hx.skip hlt hls ht26) (by show ks.length-(x.1+1)<ks.length-x.1;omega) ?_;exact Cv (own:=[.cells 3 [A5 x.2]]) (fun _=>.refl _) (by repeat (first|exact Bd|refine Bc (by first|(simp [or_imp,forall_and];done)|(simp [oid]<;>omega)) ?_)) (by intro y hy;rw [Bz.1 hy];intro z hz;rw [Bz.1 hz];simp) (by simp))|(refine As (x.1+1,(Ex x.2 ks[x.1]).1) (hx.same hlt hls ht26 ht28 (by simpa using ht38)) (by show ks.length-(x.1+1)<ks.length-x.1;omega) ?_;exact Cv (own:=[.cells 3 [A5 (Ex x.2 ks[x.1]).1]]) (fun _=>.refl _) (by repeat (first|exact Bd|refine Bc (by first|(simp [or_imp,forall_and];done)|(simp [oid]<;>omega)) ?_)) (by intro y hy;rw [Bz.1 hy];intro z hz;rw [Bz.1 hz];simp) (by simp))|(refine As (x.1+1,x.2) (hx.want hlt hls ht26 ht28 (by simpa using ht38)) (by show ks.length-(x.1+1)<ks.length-x.1;omega) ?_;exact Cv (own:=[.cells 3 [A5 x.2]]) (fun _=>.refl _) (by repeat (first|exact Bd|refine Bc (by first|(simp [or_imp,forall_and];done)|(simp [oid]<;>omega)) ?_)) (by intro y hy;rw [Bz.1 hy];intro z hz;rw [Bz.1 hz];simp) (by simp))
  refine Ja ?_;refine A0 [2,6,8,9,10,13,14,15] ?_;refine Z8 ?_;refine A0 [2,6,8,10,13,14,15,28] ?_
  refine A1 (fun ht28=>?_) (fun ht28=>?_)
  ·refine Z51 ?_;refine A0 [2,6,8,10,13,14,15] ?_;refine Dk ?_;refine Z39 ?_;refine A6 Tryz.call172 (AGe _ _ _) ?_;refine Z67 ?_;refine A0 [2,6,10,11,12,13,14,15] ?_;refine Z8 ?_;refine A0 [2,6,10,11,13,14,15,38] ?_
   refine A1 (fun ht38=>?_) (fun ht38=>?_)
   ·have hbad:=hx.bad hlt hls ht26 (by first|(rw [if_pos ht28];simpa using ht38)|(rw [if_neg (by rw [ht28];simp)];simpa using ht38))
    refine M1 ?_;exact ADx
   refine Z3 ?_;refine Z28 ?_;refine F9 ?_;refine mf ?_;refine Uf ?_;refine mf ?_
   first|(refine As (x.1+1,x.2) (hx.skip hlt hls ht26) (by show ks.length-(x.1+1)<ks.length-x.1;omega) ?_;exact Cv (own:=[.cells 3 [A5 x.2]]) (fun _=>.refl _) (by repeat (first|exact Bd|refine Bc (by first|(simp [or_imp,forall_and];done)|(simp [oid]<;>omega)) ?_)) (by intro y hy;rw [Bz.1 hy];intro z hz;rw [Bz.1 hz];simp) (by simp))|(refine As (x.1+1,(Ex x.2 ks[x.1]).1) (hx.same hlt hls ht26 ht28 (by simpa using ht38)) (by show ks.length-(x.1+1)<ks.length-x.1;omega) ?_;exact Cv (own:=[.cells 3 [A5 (Ex x.2 ks[x.1]).1]]) (fun _=>.refl _) (by repeat (first|exact Bd|refine Bc (by first|(simp [or_imp,forall_and];done)|(simp [oid]<;>omega)) ?_)) (by intro y hy;rw [Bz.1 hy];intro z hz;rw [Bz.1 hz];simp) (by simp))|(refine As (x.1+1,x.2) (hx.want hlt hls ht26 ht28 (by simpa using ht38)) (by show ks.length-(x.1+1)<ks.length-x.1;omega) ?_;exact Cv (own:=[.cells 3 [A5 x.2]]) (fun _=>.refl _) (by repeat (first|exact Bd|refine Bc (by first|(simp [or_imp,forall_and];done)|(simp [oid]<;>omega)) ?_)) (by intro y hy;rw [Bz.1 hy];intro z hz;rw [Bz.1 hz];simp) (by simp))
  refine Yl ?_;refine A6 Tryz.call172 (AGe _ _ _) ?_;refine Z67 ?_;refine A0 [2,6,10,11,12,13,14,15] ?_;refine Z8 ?_;refine A0 [2,6,10,11,13,14,15,38] ?_
  refine A1 (fun ht38=>?_) (fun ht38=>?_)
  ·have hbad:=hx.bad hlt hls ht26 (by first|(rw [if_pos ht28];simpa using ht38)|(rw [if_neg (by rw [ht28];simp)];simpa using ht38))
   refine M1 ?_;exact ADx
  refine Z3 ?_;refine Z28 ?_;refine F9 ?_;refine mf ?_;refine Uf ?_;refine mf ?_
  first|(refine As (x.1+1,x.2) (hx.skip hlt hls ht26) (by show ks.length-(x.1+1)<ks.length-x.1;omega) ?_;exact Cv (own:=[.cells 3 [A5 x.2]]) (fun _=>.refl _) (by repeat (first|exact Bd|refine Bc (by first|(simp [or_imp,forall_and];done)|(simp [oid]<;>omega)) ?_)) (by intro y hy;rw [Bz.1 hy];intro z hz;rw [Bz.1 hz];simp) (by simp))|(refine As (x.1+1,(Ex x.2 ks[x.1]).1) (hx.same hlt hls ht26 ht28 (by simpa using ht38)) (by show ks.length-(x.1+1)<ks.length-x.1;omega) ?_;exact Cv (own:=[.cells 3 [A5 (Ex x.2 ks[x.1]).1]]) (fun _=>.refl _) (by repeat (first|exact Bd|refine Bc (by first|(simp [or_imp,forall_and];done)|(simp [oid]<;>omega)) ?_)) (by intro y hy;rw [Bz.1 hy];intro z hz;rw [Bz.1 hz];simp) (by simp))|(refine As (x.1+1,x.2) (hx.want hlt hls ht26 ht28 (by simpa using ht38)) (by show ks.length-(x.1+1)<ks.length-x.1;omega) ?_;exact Cv (own:=[.cells 3 [A5 x.2]]) (fun _=>.refl _) (by repeat (first|exact Bd|refine Bc (by first|(simp [or_imp,forall_and];done)|(simp [oid]<;>omega)) ?_)) (by intro y hy;rw [Bz.1 hy];intro z hz;rw [Bz.1 hz];simp) (by simp))
 have hxe:ks.length≤x.1:=by simpa using ht16
 have hout:=hx.out hxe
 refine Z30 ?_;refine Z27 ?_;refine A0 [2,6,45] ?_
 refine A1 (fun ht45=>?_) (fun ht45=>?_)
 ·refine Z18 ?_;refine Z43 ?_;exact A7 (Aj A3 A3) ⟨by rw [hout,if_pos ht45],rfl⟩
 refine Yl ?_;refine Z12 ?_;exact A7 (Aj A3 A3) ⟨by rw [hout,if_neg (by rw [ht45];simp)],rfl⟩

theorem tt {n k:Nat} {own:Bool} {l:List Int}:Low n (.slice own k (l.map A5)):=low_slice.2 fun y hy=>by
 obtain ⟨z,_,rfl⟩:=Db.1 hy
 simp
theorem kr {n:Nat} {e:Expr}:Low n (.ro (Hh e)):=by have:=Dg n e;rw [I7] at this;simpa using this
theorem Hf {c:List Col} {t:Str} (h:¬(Bg t c<0)):∃(j:Nat),Bg t c=(j:Int)∧j<c.length:=by
 obtain ⟨j,y,h2,_,h3⟩:=find_mem.1 h
 exact ⟨j,h3,(Ac.1 h2).1⟩
theorem cz {c:List Col} {e:Expr} (h:(e.op==1)=true):Bi c e=(e.val.kind,0):=by rw [Pz];unfold Oc;rw [if_pos h]
theorem Xe {c:List Col} {e:Expr} (h1:(e.op==1)=false) (h:(e.op==2)=true):Bi c e=Ob c e.text:=by rw [Pz];unfold Oc;rw [h1,if_pos h];rfl
theorem d5 {c:List Col} {e:Expr} (h1:(e.op==1)=false) (h2:(e.op==2)=false) {x:Nat} (hx:x<e.kids.length) (h0:∀(j:Nat) (y:Expr),j<x→e.kids[j]? = some y→((Bi c y).2 != 0)=false) (hb:((Bi c e.kids[x]).2 != 0)=true):Bi c e=(0,(Bi c e.kids[x]).2):=by
 rw [Pz]
 unfold Oc
 rw [h1,h2]
 have:(e.kids.map (Bi c)).find? (fun q=>q.2 != 0)=some ((e.kids.map (Bi c))[x]'(by simpa using hx)):=Yr (by simpa using hx) (by simpa using hb) (fun j y hj hy=>by
  rw [Cs,Ek] at hy
  obtain ⟨z,hz,rfl⟩:=hy
  exact h0 j z hj hz)
 rw [this]
 simp
theorem d6 {c:List Col} {e:Expr} (h1:(e.op==1)=false) (h2:(e.op==2)=false) (h0:∀(j:Nat) (y:Expr),j<e.kids.length→e.kids[j]? = some y→((Bi c y).2 != 0)=false):Bi c e=If (Hi e.op e.text) (e.kids.map fun y=>(Bi c y).1):=by
 rw [Pz]
 unfold Oc
 rw [h1,h2]
 have:(e.kids.map (Bi c)).find? (fun q=>q.2 != 0)=none:=R3 (fun j y hy=>by
  rw [Cs,Ek] at hy
  obtain ⟨z,hz,rfl⟩:=hy
  exact h0 j z (Ac.1 hz).1 hz)
 rw [this]
 simp only [Gn]
 rfl
theorem Xf (f:Expr→Int) (l:List Expr) {x:Nat} (h:x<l.length):((l.take x).map f).map A5++[A5 (f l[x])]=((l.take (x+1)).map f).map A5:=by rw [Gp h,Cf,Cf];rfl
theorem AIl (c:List Col) (hc:OkCols c):∀(n:Nat) (e:Expr),okE n e→E4 Do e=true→∀Hp:List AObj,AFun Tryz.prog 142 [Al e,Ad c] Hp (.tup [A5 (Bi c e).1,A5 (Bi c e).2]):=by
 intro n
 induction n with
 | zero=>exact fun e h=>h.elim
 | succ n ih =>
 intro e hok hnd Hp
 have hnd0:=hnd
 rw [Hb,Ap] at hnd0
 refine Ae [.tmp 4,.tmp 5] [0,1] Tryz.func142 Tryz.ntmps142 (fun d=>?_)
 refine qr ?_;refine Z8 ?_;refine A0 [1,2,13] ?_;refine Z95 ?_;refine A0 [1,2,13,14] ?_
 refine A1 (fun ht14=>?_) (fun ht14=>?_)
 ·have hk:=cz (c:=c) ht14
  refine Z1 ?_;refine Z13 ?_;refine U9 ?_;exact ww
 refine Z1 ?_;refine A0 [1,2,19] ?_
 refine A1 (fun ht19=>?_) (fun ht19=>?_)
 ·have hk:=Xe (c:=c) ht14 ht19
  refine Z18 ?_;refine A6 Tryz.call71 (c71 c hc e.text _) ?_;refine A2 ?_;refine A0 [1,6] ?_;refine Z8 ?_;refine A0 [1,6,26] ?_
  refine A1 (fun ht26=>?_) (fun ht26=>?_)
  ·have hk2:Ob c e.text=(0,9):=if_pos (by simpa using ht26)
   refine M1 ?_;refine Z6 ?_;exact wx
  have hneg:¬(Bg e.text c<0):=by simpa using ht26
  obtain ⟨j,hj,hjl⟩:=Hf hneg
  have hk2:Ob c e.text=(c[j].kind,0):=by
   unfold Ob
   rw [if_neg hneg,hj,Int.toNat_natCast,Dd,Aa hjl]
   rfl
  rw [hj]
  refine Z84 ?_
  refine A2 (h:=A9 (j) (Cb c[j]) (fun _=>Ak hjl)) (hr:=?_)
  refine Z93 ?_;refine U9 ?_;exact wx
 refine Z19 ?_;refine Z2 ?_;refine A0 [1,2,7] ?_;refine Z52 ?_;refine Oq 7 1 ?_;refine Z93 ?_;refine A0 [1,2,7,33,34,35] ?_
 refine Be (α:=Nat) (fun x=>⟨59,A4 1 (Ad c) (A4 2 (.ro (Hh e)) (A4 7 (.slice true 1 (((e.kids.take x).map fun y=>(Bi c y).1).map A5)) (A4 33 (.slice false 6 (e.kids.map Al)) (A4 34 (A5 (e.kids.length:Nat)) (A4 35 (A5 (x:Nat)) (fun _=>.any)))))),Hp,[],[],none⟩) (fun x=>x≤e.kids.length∧∀(j:Nat) (y:Expr),j<x→e.kids[j]? = some y→((Bi c y).2 != 0)=false) (fun x=>e.kids.length-x) (0) ⟨Ah _,fun j y h=>by omega⟩ (B0 (by simp)) rfl (fun x hx=>?_)
 refine Z2 ?_;refine A0 [1,2,7,33,34,35,36] ?_
 refine Dn (fun ht36=>?_) (fun ht36=>?_)
 ·have hlt:x<e.kids.length:=by simpa using ht36
  have hkl:=hok.2.1
  refine Po ?_
  refine A2 (h:=A9 (x) (Al e.kids[x]) (fun _=>Ak hlt)) (hr:=?_)
  refine Pr ?_;refine A0 [1,2,7,9,33,34,35] ?_;refine Z1 ?_;refine A6 Tryz.call142 (ih e.kids[x] (hok.2.2 _ (Az hlt)) ((E7 _ _).1 hnd0.2 _ (Az hlt)) _) ?_;refine Z67 ?_;refine A0 [1,2,7,10,11,33,34,35] ?_;refine Z8 ?_;refine A0 [1,2,7,10,11,33,34,35,46] ?_
  refine A1 (fun ht46=>?_) (fun ht46=>?_)
  ·have hkb:=d5 (c:=c) ht14 ht19 hlt hx.2 ht46
   refine Z18 ?_;refine Z43 ?_;exact AE1
  refine mb ?_
  refine Du jU Tryz.type3 ?_ ?_ ?_
  ·simp only [Am,Bt,Bo,By,Tryz.t3];omega
  ·simp only [Am,Bt,Bo,By,Tryz.t3];omega
  refine Ge ?_;refine A0 [1,2,7,33,34,35] ?_;refine Uf ?_;refine A0 [1,2,7,33,34,35] ?_;refine As (x+1) ⟨hlt,Bs hlt hx.2 ht46⟩ (by omega) ?_
  simp only [show Tryz.t3.size=1 from rfl,Xf]
  exact Cv (own:=[]) (fun _=>.refl _) (by repeat (first|exact Bd|refine Bc (by first|exact tt|exact kr|exact Np|(simp [or_imp,forall_and];done)) ?_)) (by simp) (by simp)
 have hxe:e.kids.take x=e.kids:=D5 (by simp at ht36;omega)
 have hxl:e.kids.length≤x:=by simp at ht36;omega
 have hka:=d6 (c:=c) ht14 ht19 (fun j y hj hy=>hx.2 j y (by omega) hy)
 rw [hxe]
 refine Z30 ?_;refine Z2 ?_;refine A6 Tryz.call152 (AIj e _) ?_;refine A2 ?_
 refine A6 Tryz.call153 (AIk (Hi e.op e.text) (e.kids.map fun y=>(Bi c y).1) (by rw [Ku hnd0.1 ht14 ht19];simp) (by simpa using hok.2.1) _) ?_
 refine Z93 ?_;refine Z12 ?_;exact A7 (Aj A3 A3) ⟨by rw [hka],rfl⟩

theorem Ia {e:Expr} (h:Bb e=true):E4 Do e=true:=by
 rw [Em] at h
 unfold Dr at h
 rw [Ap] at h
 exact h.2
theorem AGf (n:Nat) (e:Expr) (hok:okE n e) (hn:n≤1048576) (c:List Col) (hc:OkCols c) (Hp:List AObj):AFun Tryz.prog 121 [Al e,Ad c] Hp (.tup [A5 (E0 e c).1,A5 (E0 e c).2]):=by
 refine Ae [.tmp 4,.tmp 5] [0,1] Tryz.func121 Tryz.ntmps121 (fun d=>?_)
 refine qr ?_;refine Z32 ?_;refine A6 Tryz.call76 (c76 n e hok hn _) ?_;refine gb ?_;refine Bj Tryz.call50 (fun hB=>c50 c hc _) ?_;refine Z50 ?_;refine A0 [1,2,13] ?_
 refine A1 (fun ht13=>?_) (fun ht13=>?_)
 ·have hk:E0 e c=(0,1):=if_pos ht13
  exact AE6
 have hk:E0 e c=Bi c e:=if_neg (by rw [ht13];simp)
 have hr:Bb e=true:=by simp only [Cm,Cx] at ht13;exact ht13.1
 refine Z84 ?_;refine A6 Tryz.call142 (AIl c hc n e hok (Ia hr) _) ?_;refine Z93 ?_;exact AEa

/-- The first fault of those that were asked. -/
structure AllAt (f:Expr→Rs) (k:List Expr) (x:Nat):Prop where
 le:x≤k.length
 ok:∀(j:Nat) (y:Expr),j<x→k[j]? = some y→((f y).2 != 0)=false
theorem AllAt.bad {f:Expr→Rs} {k:List Expr} {x:Nat} (h:AllAt f k x) (hx:x<k.length) (hb:((f k[x]).2 != 0)=true) (g:List Val→Rs):Ga g (k.map f)=Ck (f k[x]).2:=by
 unfold Ga
 have:(k.map f).find? (fun q=>q.2 != 0)=some ((k.map f)[x]'(by simpa using hx)):=Yr (by simpa using hx) (by simpa using hb) (fun j y hj hy=>by
  rw [Cs,Ek] at hy
  obtain ⟨z,hz,rfl⟩:=hy
  exact h.ok j z hj hz)
 rw [this]
 simp
theorem AllAt.all {f:Expr→Rs} {k:List Expr} {x:Nat} (h:AllAt f k x) (hx:k.length≤x) (g:List Val→Rs):Ga g (k.map f)=if (k.take x).any (fun y=>(f y).1.kind==0) then (noV,0) else g ((k.take x).map fun y=>(f y).1):=by
 unfold Ga
 have:(k.map f).find? (fun q=>q.2 != 0)=none:=R3 (fun j y hy=>by
  rw [Cs,Ek] at hy
  obtain ⟨z,hz,rfl⟩:=hy
  exact h.ok j z (by have:=(Ac.1 hz).1;omega) hz)
 rw [this,D5 hx]
 simp only [List.any_map,Gn]
 rfl
theorem AllAt.next {f:Expr→Rs} {k:List Expr} {x:Nat} (h:AllAt f k x) (hx:x<k.length) (hb:((f k[x]).2 != 0)=false):AllAt f k (x+1):=⟨hx,Bs hx h.ok hb⟩
theorem tw (f:Expr→Bool) (k:List Expr) {x:Nat} (h:x<k.length):(k.take (x+1)).any f=((k.take x).any f || f k[x]):=by rw [Gp h,List.any_append];simp
theorem nq (f:Expr→Val) (l:List Expr) {x:Nat} (h:x<l.length):((l.take x).map f).map Ba++[Ba (f l[x])]=((l.take (x+1)).map f).map Ba:=by rw [Gp h,Cf,Cf];rfl
theorem d7 {n k:Nat} {own:Bool} {l:List Val}:Low n (.slice own k (l.map Ba)):=low_slice.2 fun y hy=>by
 obtain ⟨z,_,rfl⟩:=Db.1 hy
 simp [or_imp,forall_and]
theorem AIm (c:List Col) (l:List Val) (e:Expr) (hk:e.kids.length≤1048576) (hev:∀y∈e.kids,Ip c l y (Ab c l y)) (hargs:((∀y∈e.kids,(Ab c l y).2=0)→ArgsOk e.op (e.kids.map fun y=>(Ab c l y).1))) (Hp:List AObj):AFun Tryz.prog 131 [Vd c l,Al e] Hp (My (Ga (Au e.op e.text) (e.kids.map (Ab c l)))):=by
 refine Ae [.cell 4 44,.tmp 5] [0,1] Tryz.func131 Tryz.ntmps131 (fun d=>?_)
 refine Z1 ?_;refine wp ?_;refine Z2 ?_;refine A0 [2,3,4,6] ?_;refine Dv ?_;refine Oq 6 3 ?_;refine A2 ?_;refine A0 [2,3,4,6,7] ?_;refine Z76 ?_;refine A0 [2,3,4,6,7,13,14,15] ?_
 refine Be (α:=Nat) (fun x=>⟨49,A4 2 (.ro [Ad c,B6 l]) (A4 3 (.ro (Hh e)) (A4 4 (.ptr (oid Hp.length 0) 0) (A4 6 (.slice true 3 (((e.kids.take x).map fun y=>(Ab c l y).1).map Ba)) (A4 7 (Ar ((e.kids.take x).any fun y=>(Ab c l y).1.kind==0)) (A4 13 (.slice false 6 (e.kids.map Al)) (A4 14 (A5 (e.kids.length:Nat)) (A4 15 (A5 (x:Nat)) (fun _=>.any)))))))),Hp,[.cells 44 [A5 0,A5 0,Ax []]],[],none⟩) (fun x=>AllAt (Ab c l) e.kids x) (fun x=>e.kids.length-x) (0) ⟨Ah _,fun j y h=>by omega⟩ (B0 (by simp)) rfl (fun x hx=>?_)
 refine Z2 ?_;refine A0 [2,3,4,6,7,13,14,15,16] ?_
 refine Dn (fun ht16=>?_) (fun ht16=>?_)
 ·have hlt:x<e.kids.length:=by simpa using ht16
  refine Po ?_
  refine A2 (h:=A9 (x) (Al e.kids[x]) (fun _=>Ak hlt)) (hr:=?_)
  refine Pr ?_;refine A0 [2,3,4,6,7,9,13,14,15] ?_;refine Z1 ?_;refine A6 Tryz.call105 (hev _ (Az hlt) _) ?_;refine Pt ?_;refine A0 [2,3,4,6,7,10,11,13,14,15] ?_;refine Z8 ?_;refine A0 [2,3,4,6,7,10,11,13,14,15,26] ?_
  refine A1 (fun ht26=>?_) (fun ht26=>?_)
  ·have hm:=hx.bad hlt ht26 (Au e.op e.text)
   refine Z2 ?_;refine Z62 ?_;refine Z7 ?_;refine Z43 ?_;refine Z41 ?_;exact bj
  refine Z84 ?_;refine Z10 ?_;refine Z92 ?_;refine A0 [2,3,4,6,7,10,13,14,15] ?_;refine Z89 ?_;refine Z60 ?_
  refine Du jU Tryz.type44 ?_ ?_ ?_
  ·simp only [Am,Bt,Bo,By,Tryz.t44];omega
  ·simp only [Am,Bt,Bo,By,Tryz.t44];omega
  refine Ge ?_;refine A0 [2,3,4,6,7,13,14,15] ?_;refine Uf ?_;refine A0 [2,3,4,6,7,13,14,15] ?_;refine As (x+1) (hx.next hlt ht26) (by omega) ?_
  simp only [show Tryz.t44.size=3 from rfl,tw _ _ hlt]
  have hvs:((e.kids.take x).map fun y=>(Ab c l y).1).map Ba++[.agg [.v (.int .i64 (Ab c l e.kids[x]).1.kind),.v (.int .i64 (Ab c l e.kids[x]).1.n),.v (sv (Ab c l e.kids[x]).1.s)]]=((e.kids.take (x+1)).map fun y=>(Ab c l y).1).map Ba:=nq _ _ hlt
  simp only [hvs]
  exact Cv (own:=[.cells 44 [A5 0,A5 0,Ax []]]) (fun _=>.refl _) (by repeat (first|exact Bd|refine Bc (by first|exact Np|exact d7|exact kr|(simp [or_imp,forall_and,oid]<;>omega)) ?_)) (by intro y hy;rw [Bz.1 hy];intro z hz;simp only [C2,Js,or_false] at hz;rcases hz with rfl|rfl|rfl<;>simp) (by simp)
 have hxe:e.kids.length≤x:=by simpa using ht16
 have ha:=hx.all hxe (Au e.op e.text)
 have htk:e.kids.take x=e.kids:=D5 hxe
 have h00:∀y∈e.kids,(Ab c l y).2=0:=fun y hy=>by
  obtain ⟨j,hj⟩:=Ca hy
  have:=hx.ok j y (by have:=(Ac.1 hj).1;omega) hj
  simpa using this
 have hao:=hargs h00
 rw [←htk] at hao
 refine Z30 ?_;refine Z32 ?_;refine A0 [3,4,6,42] ?_
 refine A1 (fun ht42=>?_) (fun ht42=>?_)
 ·have hm:Ga (Au e.op e.text) (e.kids.map (Ab c l))=(noV,0):=by rw [ha,if_pos ht42]
  refine Dv ?_;refine A6 Tryz.call66 (c66 _) ?_;refine Z7 ?_;exact Z83
 have hm:Ga (Au e.op e.text) (e.kids.map (Ab c l))=Au e.op e.text ((e.kids.take x).map fun y=>(Ab c l y).1):=by rw [ha,if_neg (by rw [ht42];simp)]
 refine Z84 ?_;refine A6 Tryz.call149 (AIf e _ hao _) ?_;refine Sk ?_;exact Z74

set_option maxRecDepth 8000
theorem tx {x:Expr} {c:List Col} (h:(E0 x c).2=0):Bb x=true∧Fi c=true∧E0 x c=Bi c x:=by
 unfold E0 at h ⊢
 split at h
 ·cases h
 rename_i h1
 rw [if_neg h1]
 simp only [Cu,Cr,not_or,Xt] at h1
 exact ⟨h1.1,by rw [←K3];exact h1.2,rfl⟩
set_option maxRecDepth 4000
theorem d8 {a b:List Expr} (hl:a.length=b.length) (h:∀(j:Nat) (y z:Expr),j<a.length→a[j]? = some y→b[j]? = some z→eqE y z=true):eqL a b=true:=by
 rw [Py]
 refine Wp hl fun j y hj hy=>?_
 have hjb:j<b.length:=by omega
 have:=h j y b[j] hj hy (Aa hjb)
 rw [Aa hjb,(Yw _ _).1 this]
theorem AC5 {a b:List Expr} (h:eqL a b=true) {j:Nat} (hj:j<a.length) (hb:j<b.length):eqE a[j] b[j]=true:=by
 have e:=(Py _ _).1 h
 subst e
 exact s0 _
theorem tz {a b:List Expr} {j:Nat} (hj:j<a.length) (hb:j<b.length) (h:eqE a[j] b[j]=false):eqL a b=false:=by
 rw [Gw]
 intro h2
 rw [AC5 h2 hj hb] at h
 cases h
theorem kt {a b:List Expr} (h:a.length≠b.length):eqL a b=false:=by
 rw [Gw]
 exact fun h2=>h (xf h2)
theorem AAj {a b:List Expr} {x:Nat} (hx:x<a.length) (hb:x<b.length) (h:∀(j:Nat) (y z:Expr),j<x→a[j]? = some y→b[j]? = some z→eqE y z=true) (he:eqE a[x] b[x]=true):∀(j:Nat) (y z:Expr),j<x+1→a[j]? = some y→b[j]? = some z→eqE y z=true:=by
 intro j y z hj h1 h2
 rcases Bh j x with h3|h3
 ·exact h j y z h3 h1 h2
 have:j=x:=by omega
 subst this
 rw [Aa hx] at h1
 rw [Aa hb] at h2
 injection h1 with h1
 injection h2 with h2
 rw [←h1,←h2]
 exact he
def d9 (x y:Expr):Bool:=((x.op==y.op)&&(x.text==y.text))&&((x.val.kind==y.val.kind&&x.val.n==y.val.n)&&x.val.s==y.val.s)
theorem Zh (x y:Expr):eqE x y=(d9 x y&&eqL x.kids y.kids):=rz x y
theorem c80:∀(n:Nat) (x:Expr),okE n x→∀(y:Expr) (Hp:List AObj),AFun Tryz.prog 80 [Al x,Al y] Hp (Ar (eqE x y)):=by
 intro n
 induction n with
 | zero=>exact fun x h=>h.elim
 | succ n ih =>
 intro x hok y Hp
 refine Ae [.tmp 4] [0,1] Tryz.func80 Tryz.ntmps80 (fun d=>?_)
 refine fq ?_;refine Z76 ?_;refine Z53 ?_;refine Uc ?_
 refine B8 (h:=Q.neqAgg Sn (fun w=>Gs x.val.kind x.val.n y.val.kind y.val.n x.val.s y.val.s w)) (hr:=?_)
 refine Z53 ?_;refine Z10 ?_;refine Z50 ?_;refine A0 [2,3,33] ?_
 refine A1 (fun ht33=>?_) (fun ht33=>?_)
 ·have hf:eqE x y=false:=by
   rw [Zh]
   simp only [Cu,bne_iff_ne,ne_eq,Am,Cr] at ht33
   by_cases hh:d9 x y=true
   ·rw [hh,B5]
    refine kt ?_
    unfold d9 at hh
    simp only [Ap,beq_iff_eq] at hh
    obtain ⟨⟨h1,h2⟩,⟨h3,h4⟩,h5⟩:=hh
    rcases ht33 with ((h|h)|h)|h
    ·exact absurd h1 h
    ·simp [h2] at h
    ·simp [h3,h4,h5] at h
    intro e;exact h (by rw [e])
   rw [eg] at hh
   rw [hh,Bl]
  refine Z71 ?_;exact AEe
 have hh:d9 x y=true∧x.kids.length=y.kids.length:=by
  simp only [Cm,bne_eq_false_iff_eq,Am,Cx] at ht33
  obtain ⟨⟨⟨h1,h2⟩,h3⟩,h4⟩:=ht33
  unfold d9
  refine ⟨?_,by omega⟩
  simp only [beq_iff_eq,Ap] at h1 h2 h3 ⊢
  exact ⟨⟨h1,h2⟩,h3⟩
 obtain ⟨hh,hlen⟩:=hh
 have hkl:=hok.2.1
 refine Pq ?_;refine A0 [2,3,5] ?_
 refine Be (α:=Nat) (fun i=>⟨53,A4 2 (.ro (Hh x)) (A4 3 (.ro (Hh y)) (A4 5 (A5 (i:Nat)) (fun _=>.any))),Hp,[],[],none⟩) (fun i=>i≤x.kids.length∧∀(j:Nat) (a b:Expr),j<i→x.kids[j]? = some a→y.kids[j]? = some b→eqE a b=true) (fun i=>x.kids.length-i) (0) ⟨Ah _,fun j a b h=>by omega⟩ (Fs _) rfl (fun i hi=>?_)
 refine M2 ?_;refine A0 [2,3,5,38] ?_
 refine A1 (fun ht38=>?_) (fun ht38=>?_)
 ·have hlt:i<x.kids.length:=by simpa using ht38
  have hly:i<y.kids.length:=by omega
  refine Z44 ?_;refine Df [0,1,0,7,15,0,32,0,224,480,1023,2047] 10 An (by kernel_rfl) ?_;refine Z45 ?_
  refine Ag (h:=A9 (i) (Al x.kids[i]) (fun _=>Ak hlt)) (hr:=?_)
  refine Qx ?_
  refine Ag (h:=A9 (i) (Al y.kids[i]) (fun _=>Ak hly)) (hr:=?_)
  refine Qu ?_;refine A6 Tryz.call80 (ih x.kids[i] (hok.2.2 _ (Az hlt)) y.kids[i] _) ?_;refine A2 ?_;refine A0 [2,3,5,52] ?_
  refine A1 (fun ht52=>?_) (fun ht52=>?_)
  ·have hf:eqE x y=false:=by rw [Zh,tz hlt hly (by simpa using ht52),Bool.and_false]
   refine Z71 ?_;exact AEf
  have he:eqE x.kids[i] y.kids[i]=true:=by simpa using ht52
  refine Z79 ?_;refine A0 [2,3,5] ?_;exact As (i+1) ⟨hlt,AAj hlt hly hi.2 he⟩ (by omega) (Bk rfl)
 have hxe:x.kids.length≤i:=by simpa using ht38
 refine Z47 ?_;refine Z71 ?_;exact A7 (Ai A3) ⟨by rw [Zh,hh,d8 hlen (fun j a b hj=>hi.2 j a b (by omega))];rfl,rfl⟩

theorem AIn (n:Nat) (a b:List Expr) (ha:a.length≤1048576) (hok:∀y∈a,okE n y) (ih:∀(x:Expr),okE n x→∀(y:Expr) (Hp:List AObj),AFun Tryz.prog 116 [Al x,Al y] Hp (Ar (eqE x y))) (Hp:List AObj):AFun Tryz.prog 140 [.slice false 6 (a.map Al),.slice false 6 (b.map Al),.fn (.func 116) [] []] Hp (Ar (eqL a b)):=by
 refine Ae [.tmp 6] [0,1,2] Tryz.func140 Tryz.ntmps140 (fun d=>?_)
 refine Z2 ?_;refine A0 [0,1,2] ?_;refine M2 ?_;refine A0 [0,1,2,14] ?_
 refine A1 (fun ht14=>?_) (fun ht14=>?_)
 ·have hf:eqL a b=false:=kt (by have:=ht14;simp at this;omega)
  refine Sl ?_;exact AEe
 have hlen:a.length=b.length:=by have:=ht14;simp at this;omega
 refine Z66 ?_;refine A0 [1,2,15,16,17] ?_
 refine Be (α:=Nat) (fun i=>⟨32,A4 1 (.slice false 6 (b.map Al)) (A4 2 (.fn (.func 116) [] []) (A4 15 (.slice false 6 (a.map Al)) (A4 16 (A5 (a.length:Nat)) (A4 17 (A5 (i:Nat)) (fun _=>.any))))),Hp,[],[],none⟩) (fun i=>i≤a.length∧∀(j:Nat) (y z:Expr),j<i→a[j]? = some y→b[j]? = some z→eqE y z=true) (fun i=>a.length-i) (0) ⟨Ah _,fun j y z h=>by omega⟩ (B0 (by simp)) rfl (fun i hi=>?_)
 refine Z2 ?_;refine A0 [1,2,15,16,17,18] ?_
 refine Dn (fun ht18=>?_) (fun ht18=>?_)
 ·have hlt:i<a.length:=by simpa using ht18
  have hlb:i<b.length:=by omega
  refine Uh ?_
  refine A2 (h:=A9 (i) (Al a[i]) (fun _=>Ak hlt)) (hr:=?_)
  refine fy ?_;refine A0 [1,2,7,8,15,16,17] ?_;refine Z1 ?_
  refine A2 (h:=A9 (i) (Al b[i]) (fun _=>Ak hlb)) (hr:=?_)
  refine Pr ?_;refine A0 [1,2,8,9,15,16,17] ?_;refine Z18 ?_;refine R.callV Tryz.call116 (ih a[i] (hok _ (Az hlt)) b[i] _) ?_;refine A2 ?_;refine A0 [1,2,15,16,17,30] ?_
  refine A1 (fun ht30=>?_) (fun ht30=>?_)
  ·have hf:eqL a b=false:=tz hlt hlb (by simpa using ht30)
   refine Sl ?_;exact AEf
  have he:eqE a[i] b[i]=true:=by simpa using ht30
  refine Ka ?_;refine A0 [1,2,15,16,17] ?_;refine As (i+1) ⟨hlt,AAj hlt hlb hi.2 he⟩ (by omega) ?_
  exact Cv (own:=[]) (fun _=>.refl _) (by repeat (first|exact Bd|refine Bc (by first|exact Np|(simp;done)) ?_)) (by simp) (by simp)
 have hxe:a.length≤i:=by simpa using ht18
 refine Z30 ?_;refine Sl ?_;exact A7 (Ai A3) ⟨by rw [d8 hlen (fun j y z hj=>hi.2 j y z (by omega))],rfl⟩

theorem AGg:∀(n:Nat) (x:Expr),okE n x→∀(y:Expr) (Hp:List AObj),AFun Tryz.prog 116 [Al x,Al y] Hp (Ar (eqE x y)):=by
 intro n
 induction n with
 | zero=>exact fun x h=>h.elim
 | succ n ih =>
 intro x hok y Hp
 refine Ae [.tmp 4] [0,1] Tryz.func116 Tryz.ntmps116 (fun d=>?_)
 refine fq ?_;refine Z39 ?_;refine Z53 ?_;refine Uc ?_
 refine B8 (h:=Ok Sn (fun w=>Gs x.val.kind x.val.n y.val.kind y.val.n x.val.s y.val.s w)) (hr:=?_)
 refine Z53 ?_;refine Bj Tryz.call140 (fun hB=>AIn n x.kids y.kids hok.2.1 hok.2.2 ih _) ?_;refine Ua ?_;exact A7 (Ai A3) ⟨by rw [rz],rfl⟩

set_option maxRecDepth 8000
/-! Who decides decides: the law's sources, columns and truths. -/
/-! Rows. -/
theorem row_iff {c:List Col} {l:List Val}:E8 c l=true↔Fi c=true∧l.length=c.length∧∀(i:Nat) (v:Val) (y:Col),l[i]? = some v→c[i]? = some y→C8 v=true∧(v.kind=0∨v.kind=y.kind):=by
 unfold E8
 rw [Ap,Ap,K3,beq_iff_eq,B9,and_assoc]
 refine and_congr_right fun _=>and_congr_right fun hl=>⟨fun h i v y hv hy=>?_,fun h p hp=>?_⟩
 ·have:=h (v,y) (Ay (i:=i) (by rw [Oi];exact ⟨hv,hy⟩))
  simpa using this
 obtain ⟨i,hi⟩:=Ca hp
 rw [Oi] at hi
 have:=h i p.1 p.2 hi.1 hi.2
 simpa using this
theorem ye {x:Expr} {c:List Col} {l:List Val} (h1:Bb x=true) (h2:E8 c l=true):Dy x c l=Ab c l x:=by
 unfold Dy ka
 rw [h1,h2]
 rfl
/-! Rows that differ in what is not named. -/
/-! Who has a kind comes to it. -/
/-- What a tree of this kind may come to. -/
structure KOk (k:Int) (r:Rs):Prop where
 kind:r.2=0→r.1.kind=k∨r.1.kind=0
 err:r.2≠0→r.2=4∨r.2=5∨r.2=6∨r.2=3
theorem KOk.null (k:Int):KOk k (noV,0):=⟨fun _=>.inr rfl,fun h=>absurd rfl h⟩
theorem KOk.val {k:Int} {v:Val} (h:v.kind=k):KOk k (v,0):=⟨fun _=>.inl h,fun h=>absurd rfl h⟩
theorem KOk.wrong {k e:Int} (h:e=4∨e=5∨e=6∨e=3):KOk k (Ck e):=⟨fun h0=>by rw [show e=0 from h0] at h;omega,fun _=>h⟩
theorem KOk.whole {x:Int×Int} (h:x.2≠0→x.2=4∨x.2=5∨x.2=6∨x.2=3):KOk 1 (Eg x):=by
 unfold Eg
 split
 ·rename_i h1;exact .wrong (h (by simpa using h1))
 exact .val rfl
theorem KOk.mono {k k':Int} {r:Rs} (h:KOk k r) (hk:k=k'∨k=0):KOk k' r:=⟨fun h0=>by have:=h.kind h0;omega,h.err⟩
theorem S7 {α:Type} {g:α→Int} {r:α→Rs} {l:List α} (h:∀y∈l,KOk (g y) (r y)) {k:Int} {f:List Val→Rs} (hs:∀vs:List Val,vs.map (·.kind)=l.map g→(∀v∈vs,v.kind≠0)→KOk k (f vs)):KOk k (Ga f (l.map r)):=by
 unfold Ga
 split
 ·rename_i q hq
  have h1:=List.find?_some hq
  obtain ⟨y,hy,rfl⟩:=Db.1 (List.mem_of_find?_eq_some hq)
  exact .wrong ((h y hy).err (by simpa using h1))
 rename_i hq
 have h0:∀y∈l,(r y).2=0:=fun y hy=>by
  have:=Og.1 hq (r y) (Y0 hy)
  simpa using this
 split
 ·exact .null k
 rename_i hn
 have hnn:∀y∈l,(r y).1.kind≠0:=fun y hy e=>hn (by rw [Ix];exact ⟨r y,Y0 hy,by simpa using e⟩)
 refine hs _ ?_ ?_
 ·rw [Gn,Gn]
  refine Pd fun y hy=>?_
  have:=(h y hy).kind (h0 y hy)
  have:=hnn y hy
  show (r y).1.kind=g y
  omega
 intro v hv
 rw [Gn] at hv
 obtain ⟨y,hy,rfl⟩:=Db.1 hv
 exact hnn y hy
theorem Q8 {a b:Int} (h:(Ex a b).2=true):((a=0∧(Ex a b).1=b)∨(a≠0∧(b=0∨b=a)∧(Ex a b).1=a)):=by
 unfold Ex at h ⊢
 split
 ·rename_i e;exact .inl ⟨by simpa using e,rfl⟩
 rename_i e
 rw [if_neg e] at h
 split
 ·rename_i e2
  exact .inr ⟨by simpa using e,by simp only [Cu,beq_iff_eq] at e2;omega,rfl⟩
 rename_i e2
 rw [if_neg e2] at h
 cases h
theorem AC6 {s:Sign} {ks:List Int} (h:(If s ks).2=0):∃c,Fu s.kids ks 0=some c∧(If s ks).1=if s.own == -1 then c else s.own:=by
 unfold If at h ⊢
 cases hk:Fu s.kids ks 0 with
 | none=>rw [hk] at h;cases h
 | some c=>exact ⟨c,rfl,by simp only;split<;>rfl⟩
/-- One kid, of a kind. -/
theorem nr {w k0 c:Int} (h1:(w == -2)=false) (h2:(w == -1)=false) (h3:w≠0) (h:Fu [w] [k0] 0=some c):k0=0∨k0=w:=by
 rw [Fu,h1,h2] at h
 simp only [A8,if_false] at h
 split at h
 ·rename_i hm;have:=Q8 hm;omega
 cases h
theorem nt {w w' k0 k1 c:Int} (h1:(w == -2)=false) (h2:(w == -1)=false) (h3:w≠0) (h1':(w' == -2)=false) (h2':(w' == -1)=false) (h3':w'≠0) (h:Fu [w,w'] [k0,k1] 0=some c):(k0=0∨k0=w)∧(k1=0∨k1=w'):=by
 rw [Fu,h1,h2] at h
 simp only [A8,if_false] at h
 split at h
 ·rename_i hm
  rw [Fu,h1',h2'] at h
  simp only [A8,if_false] at h
  split at h
  ·rename_i hm';have:=Q8 hm;have:=Q8 hm';omega
  cases h
 cases h
/-- Two kids of one kind, whichever. -/
theorem Zi {k0 k1 c c0:Int} (h:Fu [-1, -1] [k0,k1] c0=some c) (h0:c0=0):(k0=0∨k0=c)∧(k1=0∨k1=c)∧(k0≠0→k1≠0→k0=k1):=by
 subst h0
 rw [Fu] at h
 simp only [show ((-1:Int) == -2)=false from rfl,show ((-1:Int) == -1)=true from rfl,A8,if_false,if_true] at h
 split at h
 ·rename_i hm
  rw [Fu] at h
  simp only [show ((-1:Int) == -2)=false from rfl,show ((-1:Int) == -1)=true from rfl,A8,if_false,if_true] at h
  split at h
  ·rename_i hm'
   rw [Fu] at h
   injection h with h
   have a:=Q8 hm
   have b:=Q8 hm'
   omega
  cases h
 cases h
theorem Nv {c:List Col} {o:Int} {t:Str} {v:Val} {k:List Expr} (h:(Bi c (.mk o t v k)).2=0) (h1:(o==1)=false) (h2:(o==2)=false):
  (∀y∈k,(Bi c y).2=0)∧∃m,Fu (Hi o t).kids (k.map fun y=>(Bi c y).1) 0=some m∧(Bi c (.mk o t v k)).1=if (Hi o t).own == -1 then m else (Hi o t).own:=by
 rw [Bi] at h ⊢
 have hk:=sg h h1 h2
 rw [Rf] at hk h ⊢
 have hk':∀y∈k,(Bi c y).2=0:=fun y hy=>hk _ (Y0 hy)
 refine ⟨hk',?_⟩
 have e:Oc c o t v (k.map (Bi c))=If (Hi o t) (k.map fun y=>(Bi c y).1):=by
  unfold Oc
  rw [h1,h2]
  have:(k.map (Bi c)).find? (fun q=>q.2 != 0)=none:=Og.2 fun q hq=>by simpa using hk q hq
  simp only [A8,if_false,this,Gn]
  rfl
 rw [e] at h ⊢
 exact AC6 h
theorem nu (t:Str) (a b:Int):(E1 t a b).2≠0→(E1 t a b).2=4∨(E1 t a b).2=5∨(E1 t a b).2=6∨(E1 t a b).2=3:=by
 unfold E1 V7 In P3 So P4
 simp only
 repeat' split
 all_goals simp
theorem yf (a b:Int):(In a b).2≠0→(In a b).2=4∨(In a b).2=5∨(In a b).2=6∨(In a b).2=3:=by
 unfold In
 repeat' split
 all_goals simp
theorem yg (s:Str):(Bx s).2≠0→(Bx s).2=4∨(Bx s).2=5∨(Bx s).2=6∨(Bx s).2=3:=by
 unfold Bx
 repeat' split
 all_goals simp
theorem AC7 {a b:Val} (ha:a.kind=2) (hb:b.kind=2):KOk 2 (H3 a b):=by
 unfold H3
 rw [show Bm [a,b] [2,2]=true by simp [Bm,ha,hb]]
 simp only [Aq,A8,if_false]
 split
 ·exact .wrong (by omega)
 exact .val rfl
/-- A mark of two values of the kinds that its sign asks for. -/
theorem AGh {t:Str} {a b:Val} (ht:t∈[[61],[33,61],[60],[60,61],[62],[62,61],[43],[45],[38],[42],[47],[37]]) {m:Int} (hf:Fu (Cz t).kids [a.kind,b.kind] 0=some m) (ha:a.kind≠0) (hb:b.kind≠0):
  KOk (if (Cz t).own == -1 then m else (Cz t).own) (Gc t a b):=by
 have hcmp:∀t:Str,(Ea t (P5 a b)).2=true→Cz t=⟨[-1, -1],3⟩→Fu (Cz t).kids [a.kind,b.kind] 0=some m→KOk (if (Cz t).own == -1 then m else (Cz t).own) (Gc t a b):=fun t h1 h2 hf=>by
  rw [h2] at hf ⊢
  have:=Zi hf rfl
  have e:a.kind=b.kind:=this.2.2 ha hb
  unfold Gc
  rw [h1,if_pos rfl,e]
  simp only [bne_self_eq_false,A8,if_false]
  exact .val rfl
 have har:∀t:Str,(Ea t (P5 a b)).2=false→(t==[38])=false→Cz t=⟨[1,1],1⟩→Fu (Cz t).kids [a.kind,b.kind] 0=some m→KOk (if (Cz t).own == -1 then m else (Cz t).own) (Gc t a b):=fun t h1 h2 h3 hf=>by
  rw [h3] at hf ⊢
  have:=nt rfl rfl (by decide) rfl rfl (by decide) hf
  unfold Gc
  rw [h1,h2,show Bm [a,b] [1,1]=true by simp [Bm];omega]
  exact KOk.whole (nu _ _ _)
 simp only [C2,Js,or_false] at ht
 rcases ht with rfl|rfl|rfl|rfl|rfl|rfl|rfl|rfl|rfl|rfl|rfl|rfl
 ·exact mg
 ·exact mg
 ·exact mg
 ·exact mg
 ·exact mg
 ·exact mg
 ·exact r0
 ·exact r0
 ·have h3:Cz [38]=⟨[2,2],2⟩:=rfl
  rw [h3] at hf ⊢
  have:=nt rfl rfl (by decide) rfl rfl (by decide) hf
  exact AC7 (by omega) (by omega)
 ·exact r0
 ·exact r0
 exact r0
theorem Zj {r:Rs} (h:KOk 3 r):B1 r=r:=by
 unfold B1
 split
 ·rename_i e
  simp only [Ap,beq_iff_eq,bne_iff_ne] at e
  have:=h.kind e.1.1
  omega
 rfl
theorem ku {s:Val} {a b:Rs} (ha:KOk 3 a) (hb:KOk 3 b):KOk 3 (F5 s a b):=by
 unfold F5
 rw [Zj ha,Zj hb]
 split
 ·exact ha
 rename_i h1
 split
 ·exact hb
 simp only [Cu,bne_iff_ne,not_or,Decidable.not_not] at h1
 exact ⟨fun _=>ha.kind h1.1,fun h=>absurd rfl h⟩
theorem Hs {t:Str} {n:Nat} (h:C5 t=(n:Int)):(t=[108,101,110]∧n=1)∨(t=[115,116,114]∧n=1)∨(t=[110,117,109]∧n=1)∨(t=Bu∧n=1)∨(t=M4∧n=2)∨(t=[108,101,102,116]∧n=2)∨(t=[114,105,103,104,116]∧n=2)∨(t=ifW∧n=3):=by
 by_cases hm:t∈arityList.map (·.1)
 ·have ha:∀s∈arityList.map (·.1),(s=[108,101,110]∧C5 s=1)∨(s=[115,116,114]∧C5 s=1)∨(s=[110,117,109]∧C5 s=1)∨(s=Bu∧C5 s=1)∨(s=M4∧C5 s=2)∨(s=[108,101,102,116]∧C5 s=2)∨(s=[114,105,103,104,116]∧C5 s=2)∨(s=ifW∧C5 s=3):=by
   have:((arityList.map (·.1)).all fun s=>decide ((s=[108,101,110]∧C5 s=1)∨(s=[115,116,114]∧C5 s=1)∨(s=[110,117,109]∧C5 s=1)∨(s=Bu∧C5 s=1)∨(s=M4∧C5 s=2)∨(s=[108,101,102,116]∧C5 s=2)∨(s=[114,105,103,104,116]∧C5 s=2)∨(s=ifW∧C5 s=3)))=true:=by kernel_rfl
   exact fun s hs=>of_decide_eq_true (B9.1 this s hs)
  have:=ha t hm
  rw [h] at this
  rcases this with ⟨e,h2⟩|⟨e,h2⟩|⟨e,h2⟩|⟨e,h2⟩|⟨e,h2⟩|⟨e,h2⟩|⟨e,h2⟩|⟨e,h2⟩
  ·exact .inl ⟨e,by omega⟩
  ·exact .inr (.inl ⟨e,by omega⟩)
  ·exact .inr (.inr (.inl ⟨e,by omega⟩))
  ·exact .inr (.inr (.inr (.inl ⟨e,by omega⟩)))
  ·exact .inr (.inr (.inr (.inr (.inl ⟨e,by omega⟩))))
  ·exact .inr (.inr (.inr (.inr (.inr (.inl ⟨e,by omega⟩)))))
  ·exact .inr (.inr (.inr (.inr (.inr (.inr (.inl ⟨e,by omega⟩))))))
  exact .inr (.inr (.inr (.inr (.inr (.inr (.inr ⟨e,by omega⟩))))))
 have h1:C5 t = -1:=by
  unfold C5
  rw [Og.2 fun p hp=>by
   simp only [beq_iff_eq]
   rintro rfl
   exact hm (Db.2 ⟨p,hp,rfl⟩)]
 omega
theorem Ta {k:List Expr} (h:k.length=1):∃a,k=[a]:=by match k,h with|[a],_=>exact ⟨a,rfl⟩
theorem Nw {k:List Expr} (h:k.length=2):∃a b,k=[a,b]:=by match k,h with|[a,b],_=>exact ⟨a,b,rfl⟩
theorem nv {k:List Expr} (h:k.length=3):∃a b c,k=[a,b,c]:=by match k,h with|[a,b,c],_=>exact ⟨a,b,c,rfl⟩
theorem Kw {vs:List Val} {k:Int} (h:vs.map (·.kind)=[k]):∃v,vs=[v]∧v.kind=k:=by
 match vs,h with
 | [v],h=>exact ⟨v,rfl,by simpa using h⟩
theorem Rk {vs:List Val} {k k':Int} (h:vs.map (·.kind)=[k,k']):∃v v',vs=[v,v']∧v.kind=k∧v'.kind=k':=by
 match vs,h with
 | [v,v'],h=>exact ⟨v,v',rfl,by simpa using h⟩
theorem kv {c:List Col} {l:List Val} (hl:E8 c l=true):∀(n:Nat) (e:Expr),sizeE e≤n→E4 Do e=true→(Bi c e).2=0→KOk (Bi c e).1 (Ab c l e)
 | 0,e,hn,_,_=>by have:=I8 e;omega
 | n+1,e,hn,hnd,hk=>by
  have hnd0:=hnd
  rw [Hb,Ap] at hnd0
  have ih:∀y∈e.kids,(Bi c y).2=0→KOk (Bi c y).1 (Ab c l y):=fun y hy h0=>kv hl n y (mu hn hy) ((E7 _ _).1 hnd0.2 y hy) h0
  obtain ⟨r1,r2,r3⟩:=row_iff.1 hl
  have hNC:=Lm hnd0.1
  cases hNC with
  | val v hp h0 =>
   have:Bi c (iq v)=(v.kind,0):=by rw [iq,Bi];rfl
   rw [this]
   exact .val rfl
  | name t ht =>
   have e1:Bi c (Dt t)=Ob c t:=by rw [Dt,Bi];rfl
   have e2:Ab c l (Dt t)=Od c l t:=by rw [Ab,Dt,Gb];rfl
   rw [e1] at hk ⊢
   rw [e2]
   unfold Ob at hk ⊢
   unfold Od
   split at hk
   ·cases hk
   rename_i hf
   rw [if_neg hf,if_neg hf]
   obtain ⟨j,z,hj,hz,hfj⟩:=find_mem.1 hf
   have hjl:j<l.length:=by rw [r2];exact (Ac.1 hj).1
   have:=r3 j l[j] z (Aa hjl) hj
   rw [hfj,Int.toNat_natCast,Dd,Dd,hj,Aa hjl]
   exact ⟨fun _=>by show l[j].kind=z.kind∨l[j].kind=0;omega,fun h=>absurd rfl h⟩
  | neg a =>
   rw [Wm] at hk ⊢
   obtain ⟨hky,m,hf,ho⟩:=Nv hk rfl rfl
   rw [ho,Ab,Gb,Is]
   have hs:Hi 3 []=⟨[1],1⟩:=rfl
   rw [hs] at hf ⊢
   have hm:=nr rfl rfl (by decide) hf
   show KOk 1 (Ga (Au 3 []) ([a].map (Gb Au c l)))
   refine S7 (g:=fun y=>(Bi c y).1) (fun y hy=>ih y hy (hky y hy)) (fun vs hvs hnz=>?_)
   obtain ⟨v,rfl,hv⟩:=Kw hvs
   have hv0:=hnz v (by simp)
   have hv1:v.kind=1:=by omega
   unfold Au
   rw [show Bm [v] [1]=true by simp [Bm,hv1]]
   exact KOk.whole (yf _ _)
  | no a =>
   rw [Wm] at hk ⊢
   obtain ⟨hky,m,hf,ho⟩:=Nv hk rfl rfl
   rw [ho,Ab,Gb,Is]
   have hs:Hi 4 []=⟨[3],3⟩:=rfl
   rw [hs] at hf ⊢
   have hm:=nr rfl rfl (by decide) hf
   show KOk 3 (Ga (Au 4 []) ([a].map (Gb Au c l)))
   refine S7 (g:=fun y=>(Bi c y).1) (fun y hy=>ih y hy (hky y hy)) (fun vs hvs hnz=>?_)
   obtain ⟨v,rfl,hv⟩:=Kw hvs
   have hv0:=hnz v (by simp)
   have hv1:v.kind=3:=by omega
   unfold Au
   rw [show Bm [v] [3]=true by simp [Bm,hv1]]
   exact KOk.val rfl
  | bin t a b ht =>
   rw [Za] at hk ⊢
   obtain ⟨hky,m,hf,ho⟩:=Nv hk rfl rfl
   have ha:=ih a (by simp [Za,Expr.kids]) (hky a (by simp))
   have hb:=ih b (by simp [Za,Expr.kids]) (hky b (by simp))
   rw [ho,Ab,Gb,Is]
   rw [show Hi 5 t=Cz t from rfl] at hf ⊢
   have hmem:t∈levels.flatten:=by
    rcases cg t with h|h
    ·exact h
    omega
   by_cases h1:(t==orW)=true
   ·have e:t=orW:=by simpa using h1
    subst e
    rw [show Cz orW=⟨[3,3],3⟩ from rfl] at hf ⊢
    have hm:((Bi c a).1=0∨(Bi c a).1=3)∧((Bi c b).1=0∨(Bi c b).1=3):=nt rfl rfl (by decide) rfl rfl (by decide) hf
    exact ku (ha.mono (by omega)) (hb.mono (by omega))
   by_cases h2:(t==O1)=true
   ·have e:t=O1:=by simpa using h2
    subst e
    rw [show Cz O1=⟨[3,3],3⟩ from rfl] at hf ⊢
    have hm:((Bi c a).1=0∨(Bi c a).1=3)∧((Bi c b).1=0∨(Bi c b).1=3):=nt rfl rfl (by decide) rfl rfl (by decide) hf
    exact ku (ha.mono (by omega)) (hb.mono (by omega))
   have e:He Au c l 5 t noV ([a,b].map (Gb Au c l))=Ga (Au 5 t) ([a,b].map (Gb Au c l)):=by
    unfold He
    rw [show (t==orW)=false by simpa using h1,show (t==O1)=false by simpa using h2]
    rfl
   rw [e]
   have hm12:t∈[[61],[33,61],[60],[60,61],[62],[62,61],[43],[45],[38],[42],[47],[37]]:=by
    have h1':t≠orW:=by simpa using h1
    have h2':t≠O1:=by simpa using h2
    simp only [levels,List.flatten_cons,List.flatten_nil,Fa,Ez,Iy,C2,Js,or_false] at hmem ⊢
    rcases hmem with h|h|h
    ·exact absurd h h1'
    ·exact absurd h h2'
    exact h
   refine S7 (g:=fun y=>(Bi c y).1) (fun y hy=>ih y hy (hky y hy)) (fun vs hvs hnz=>?_)
   obtain ⟨v,v',rfl,hv,hv'⟩:=Rk hvs
   have hf':Fu (Cz t).kids [v.kind,v'.kind] 0=some m:=by rw [hv,hv'];exact hf
   exact AGh hm12 hf' (hnz v (by simp)) (hnz v' (by simp))
  | call t k ht =>
   obtain ⟨hky,m,hf,ho⟩:=Nv hk rfl rfl
   rw [ho,Ab,Gb,Is]
   rw [show Hi 6 t=Dc t from rfl] at hf ⊢
   rcases Hs ht with ⟨rfl,hn1⟩|⟨rfl,hn1⟩|⟨rfl,hn1⟩|⟨rfl,hn1⟩|⟨rfl,hn1⟩|⟨rfl,hn1⟩|⟨rfl,hn1⟩|⟨rfl,hn1⟩
   ·obtain ⟨a,rfl⟩:=Ta hn1
    have hs:Dc [108,101,110]=⟨[2],1⟩:=rfl
    rw [hs] at hf ⊢
    have hm:=nr rfl rfl (by decide) hf
    show KOk 1 (Ga (Au 6 [108,101,110]) ([a].map (Gb Au c l)))
    refine S7 (g:=fun y=>(Bi c y).1) (fun y hy=>ih y hy (hky y hy)) (fun vs hvs hnz=>?_)
    obtain ⟨v,rfl,hv⟩:=Kw hvs
    have hv0:=hnz v (by simp)
    have hv1:v.kind=2:=by omega
    show KOk 1 (Fk [108,101,110] v)
    unfold Fk
    rw [hv1]
    exact KOk.val rfl
   ·obtain ⟨a,rfl⟩:=Ta hn1
    have hs:Dc [115,116,114]=⟨[1],2⟩:=rfl
    rw [hs] at hf ⊢
    have hm:=nr rfl rfl (by decide) hf
    show KOk 2 (Ga (Au 6 [115,116,114]) ([a].map (Gb Au c l)))
    refine S7 (g:=fun y=>(Bi c y).1) (fun y hy=>ih y hy (hky y hy)) (fun vs hvs hnz=>?_)
    obtain ⟨v,rfl,hv⟩:=Kw hvs
    have hv0:=hnz v (by simp)
    have hv1:v.kind=1:=by omega
    show KOk 2 (Fk [115,116,114] v)
    unfold Fk
    rw [hv1]
    exact KOk.val rfl
   ·obtain ⟨a,rfl⟩:=Ta hn1
    have hs:Dc [110,117,109]=⟨[2],1⟩:=rfl
    rw [hs] at hf ⊢
    have hm:=nr rfl rfl (by decide) hf
    show KOk 1 (Ga (Au 6 [110,117,109]) ([a].map (Gb Au c l)))
    refine S7 (g:=fun y=>(Bi c y).1) (fun y hy=>ih y hy (hky y hy)) (fun vs hvs hnz=>?_)
    obtain ⟨v,rfl,hv⟩:=Kw hvs
    have hv0:=hnz v (by simp)
    have hv1:v.kind=2:=by omega
    show KOk 1 (Fk [110,117,109] v)
    unfold Fk
    rw [hv1]
    exact KOk.whole (yg _)
   ·obtain ⟨a,rfl⟩:=Ta hn1
    have ha:=ih a (by simp [Expr.kids]) (hky a (by simp))
    have hs:Dc Bu=⟨[-2],3⟩:=rfl
    rw [hs]
    show KOk 3 (Dp Bu (Ab c l a) (noV,0) (noV,0))
    unfold Dp
    rw [show (Bu==ifW)=false from rfl,show (Bu==Bu)=true from rfl]
    simp only [A8,if_false,if_true]
    split
    ·rename_i h;exact .wrong (ha.err (by simpa using h))
    exact .val rfl
   ·obtain ⟨a,b,rfl⟩:=Nw hn1
    have ha:=ih a (by simp [Expr.kids]) (hky a (by simp))
    have hb:=ih b (by simp [Expr.kids]) (hky b (by simp))
    have hs:Dc M4=⟨[-1, -1], -1⟩:=rfl
    rw [hs] at hf ⊢
    have hm:((Bi c a).1=0∨(Bi c a).1=m)∧((Bi c b).1=0∨(Bi c b).1=m)∧((Bi c a).1≠0→(Bi c b).1≠0→(Bi c a).1=(Bi c b).1):=Zi hf rfl
    show KOk m (Dp M4 (Ab c l a) (Ab c l b) (noV,0))
    unfold Dp
    rw [show (M4==ifW)=false from rfl,show (M4==Bu)=false from rfl]
    simp only [A8,if_false]
    split
    ·rename_i h;exact .wrong (ha.err (by simpa using h))
    rename_i h
    split
    ·rename_i h2
     have:=ha.kind (by simpa using h)
     have h2:(Ab c l a).1.kind≠0:=by simpa using h2
     exact .val (by omega)
    exact hb.mono (by omega)
   ·obtain ⟨a,b,rfl⟩:=Nw hn1
    have hs:Dc [108,101,102,116]=⟨[2,1],2⟩:=rfl
    rw [hs] at hf ⊢
    have hm:=nt rfl rfl (by decide) rfl rfl (by decide) hf
    show KOk 2 (Ga (Au 6 [108,101,102,116]) ([a,b].map (Gb Au c l)))
    refine S7 (g:=fun y=>(Bi c y).1) (fun y hy=>ih y hy (hky y hy)) (fun vs hvs hnz=>?_)
    obtain ⟨v,v',rfl,hv,hv'⟩:=Rk hvs
    have hv0:=hnz v (by simp)
    have hv0':=hnz v' (by simp)
    have hv1:v.kind=2:=by omega
    have hv1':v'.kind=1:=by omega
    unfold Au
    rw [show Bm [v,v'] [2,1]=true by simp [Bm,hv1,hv1']]
    exact KOk.val rfl
   ·obtain ⟨a,b,rfl⟩:=Nw hn1
    have hs:Dc [114,105,103,104,116]=⟨[2,1],2⟩:=rfl
    rw [hs] at hf ⊢
    have hm:=nt rfl rfl (by decide) rfl rfl (by decide) hf
    show KOk 2 (Ga (Au 6 [114,105,103,104,116]) ([a,b].map (Gb Au c l)))
    refine S7 (g:=fun y=>(Bi c y).1) (fun y hy=>ih y hy (hky y hy)) (fun vs hvs hnz=>?_)
    obtain ⟨v,v',rfl,hv,hv'⟩:=Rk hvs
    have hv0:=hnz v (by simp)
    have hv0':=hnz v' (by simp)
    have hv1:v.kind=2:=by omega
    have hv1':v'.kind=1:=by omega
    unfold Au
    rw [show Bm [v,v'] [2,1]=true by simp [Bm,hv1,hv1']]
    exact KOk.val rfl
   obtain ⟨a,b,d,rfl⟩:=nv hn1
   have ha:=ih a (by simp [Expr.kids]) (hky a (by simp))
   have hb:=ih b (by simp [Expr.kids]) (hky b (by simp))
   have hd:=ih d (by simp [Expr.kids]) (hky d (by simp))
   have hs:Dc ifW=⟨[3, -1, -1], -1⟩:=rfl
   rw [hs] at hf ⊢
   have hf':Fu [3] [(Bi c a).1] 0=some 0∧Fu [-1, -1] [(Bi c b).1,(Bi c d).1] 0=some m:=by
    simp only [Cw,Fc] at hf
    rw [Fu] at hf
    simp only [show ((3:Int) == -2)=false from rfl,show ((3:Int) == -1)=false from rfl,A8,if_false] at hf
    split at hf
    ·rename_i hm
     refine ⟨?_,hf⟩
     rw [Fu]
     simp only [show ((3:Int) == -2)=false from rfl,show ((3:Int) == -1)=false from rfl,A8,if_false,hm,if_true]
     rw [Fu]
    cases hf
   have hm1:=nr rfl rfl (by decide) hf'.1
   have hm:=Zi hf'.2 rfl
   show KOk m (Dp ifW (Ab c l a) (Ab c l b) (Ab c l d))
   unfold Dp
   rw [show (ifW==ifW)=true from rfl,if_pos rfl,Zj (ha.mono (by omega))]
   split
   ·rename_i h;exact .wrong (ha.err (by simpa using h))
   split
   ·exact hb.mono (by omega)
   exact hd.mono (by omega)
set_option maxRecDepth 4000
theorem Rl {e:Expr} (h:Do e=true):(e.op=5→e.kids.length=2)∧(e.op=3∨e.op=4→e.kids.length=1)∧(e.op=6→C5 e.text=(e.kids.length:Int))∧(e.op=1∨e.op=2∨e.op=3∨e.op=4∨e.op=5∨e.op=6):=by
 cases Lm h with
 | val v hp h0=>simp [iq,Expr.op]
 | name t ht=>simp [Dt,Expr.op]
 | neg a=>simp [Wm,Expr.op,Expr.kids]
 | no a=>simp [Wm,Expr.op,Expr.kids]
 | bin t a b ht=>simp [Za,Expr.op,Expr.kids]
 | call t k ht=>simpa [Expr.op,Expr.kids,Expr.text] using ht
theorem Gl {k:List Expr} {i:Nat} (h:i<k.length):(k.map Al)[i]? = some (Al (k.getD i Af))∧k.getD i Af∈k∧∀(f:Expr→Rs) (d:Rs),(k.map f).getD i d=f (k.getD i Af):=by
 have e:k.getD i Af=k[i]:=by rw [Dd,Aa h];rfl
 rw [e]
 refine ⟨by simp [h],Az h,fun f d=>?_⟩
 rw [Dd,Cs,Aa h]
 rfl
theorem Zk {c:List Col} {l:List Val} {e:Expr} (h1:(e.op==1)=false) (h2:(e.op==2)=false) (h3:((e.op==5)&&(e.text==orW))=false) (h4:((e.op==5)&&(e.text==O1))=false) (h5:((e.op==6)&&(((e.text==ifW) || (e.text==M4)) || (e.text==Bu)))=false):Ab c l e=Ga (Au e.op e.text) (e.kids.map (Ab c l)):=by
 rw [Ab,Q0]
 unfold He
 rw [h1,h2,h3,h4,h5]
 rfl
theorem yh {c:List Col} {l:List Val} (hf:∀v∈l,Fine v) {e:Expr} (hnd:E4 Do e=true) (hrg:E4 Jf e=true) (hv:E4 Kv e=true) (h5:((e.op==6)&&(((e.text==ifW) || (e.text==M4)) || (e.text==Bu)))=false):ArgsOk e.op (e.kids.map fun y=>(Ab c l y).1):=by
 rw [Hb,Ap] at hnd hrg hv
 obtain ⟨k5,k34,k6,_⟩:=Rl hnd.1
 refine ⟨fun h=>?_,fun h=>by rw [Am];exact k34 h,fun h=>?_,fun v hv'=>?_⟩
 ·obtain ⟨a,b,e⟩:=Nw (k5 h)
  rw [e]
  exact ⟨_,_,rfl⟩
 ·rw [Am]
  rw [h] at h5
  simp only [beq_self_eq_true,B5,Cm,beq_eq_false_iff_ne] at h5
  rcases Hs (k6 h) with ⟨_,h⟩|⟨_,h⟩|⟨_,h⟩|⟨e,_⟩|⟨e,_⟩|⟨_,h⟩|⟨_,h⟩|⟨e,_⟩
  ·exact .inl h
  ·exact .inl h
  ·exact .inl h
  ·exact absurd e h5.2
  ·exact absurd e h5.1.2
  ·obtain ⟨a,b,e⟩:=Nw h
   rw [e]
   exact .inr ⟨_,_,rfl⟩
  ·obtain ⟨a,b,e⟩:=Nw h
   rw [e]
   exact .inr ⟨_,_,rfl⟩
  exact absurd e h5.1.1
 obtain ⟨y,hy,rfl⟩:=Db.1 hv'
 exact Nq hf y ((E7 _ _).1 hv.2 y hy) ((E7 _ _).1 hrg.2 y hy)
theorem S8 (a b d:Rs):Dp Bu a b d=Dp Bu a (noV,0) (noV,0):=by
 unfold Dp
 rw [show (Bu==ifW)=false from rfl,show (Bu==Bu)=true from rfl]
 rfl
theorem ix {t:Str} (h:(t==ifW)=false) (a b d d':Rs):Dp t a b d=Dp t a b d':=by
 unfold Dp
 rw [h]
 rfl
theorem dc {t:Str} (h:(t==Bu)=true) (a b b' d d':Rs):Dp t a b d=Dp t a b' d':=by
 have e:t=Bu:=by simpa using h
 subst e
 rw [S8,S8 a b' d']
theorem nw {t:Str} {k:List Expr} {f:Expr→Rs} {a:Rs} (h1:(t==Bu)=false→1<k.length) (h2:(t==ifW)=true→2<k.length):Dp t a ((k.map f).getD 1 (noV,0)) ((k.map f).getD 2 (noV,0))=Dp t a (f (k.getD 1 Af)) (f (k.getD 2 Af)):=by
 cases hn:t==Bu with
 | true=>exact dc hn _ _ _ _ _
 | false =>
  rw [(Gl (h1 hn)).2.2]
  cases hi:t==ifW with
  | true=>rw [(Gl (h2 hi)).2.2]
  | false=>exact ix hi _ _ _ _
theorem AIo (c:List Col) (l:List Val) (hc:OkCols c) (hl:l.length=c.length) (hf:∀v∈l,Fine v):∀(n:Nat) (e:Expr),okE n e→E4 Do e=true→E4 Jf e=true→E4 Kv e=true→Ip c l e (Ab c l e):=by
 intro n
 induction n with
 | zero=>exact fun e h=>h.elim
 | succ n ih =>
 intro e hok hnd hrg hvo Hp
 have hnd0:=hnd
 have hrg0:=hrg
 have hvo0:=hvo
 rw [Hb,Ap] at hnd0 hrg0 hvo0
 have hev:∀y∈e.kids,Ip c l y (Ab c l y):=fun y hy=>ih y (hok.2.2 y hy) ((E7 _ _).1 hnd0.2 y hy) ((E7 _ _).1 hrg0.2 y hy) ((E7 _ _).1 hvo0.2 y hy)
 obtain ⟨k5,k34,k6,_⟩:=Rl hnd0.1
 have hev0:Ab c l e=He Au c l e.op e.text e.val (e.kids.map (Ab c l)):=Q0 _ _ _ _
 refine Ae [.cell 4 44,.tmp 5] [0,1] Tryz.func105 Tryz.ntmps105 (fun d=>?_)
 refine Z1 ?_;refine wp ?_;refine Z20 ?_;refine Z39 ?_;refine A0 [2,3,4,7] ?_
 refine A1 (fun ht7=>?_) (fun ht7=>?_)
 ·have hm:Ab c l e=(e.val,0):=by rw [hev0];unfold He;rw [if_pos ht7]
  refine Z1 ?_;exact Qt
 refine Z39 ?_;refine A0 [2,3,4,13] ?_
 refine A1 (fun ht13=>?_) (fun ht13=>?_)
 ·have hm0:Ab c l e=Od c l e.text:=by rw [hev0];unfold He;rw [if_neg (by rw [ht7];simp),if_pos ht13]
  refine Z39 ?_;refine A6 Tryz.call71 (c71 c hc e.text _) ?_;refine A2 ?_;refine A0 [2,4,6] ?_;refine Z8 ?_;refine A0 [2,4,6,23] ?_
  refine A1 (fun ht23=>?_) (fun ht23=>?_)
  ·have hm:Ab c l e=Ck 9:=by rw [hm0];exact if_pos (by simpa using ht23)
   refine g8 ?_;refine Z43 ?_;exact Z25
  have hneg:¬(Bg e.text c<0):=by simpa using ht23
  obtain ⟨j,hj,hjc⟩:=Hf hneg
  have hjl:j<l.length:=by omega
  have hm:Ab c l e=(l[j],0):=by
   rw [hm0]
   unfold Od
   rw [if_neg hneg,hj,Int.toNat_natCast,Dd,Aa hjl]
   rfl
  rw [hj]
  refine Z77 ?_
  refine A2 (h:=A9 (j) (Ba l[j]) (fun _=>Ak hjl)) (hr:=?_)
  refine A2 ?_;exact Qt
 refine Yn ?_;refine Z92 ?_;refine A0 [2,3,4,32] ?_
 refine A1 (fun ht32=>?_) (fun ht32=>?_)
 ·have h32:((e.op==5)&&(e.text==orW))=true:=ht32
  have hop:e.op=5:=by simp only [Ap,beq_iff_eq] at h32;exact h32.1
  have hkl:=k5 hop
  have hm:Ab c l e=F5 (Dl true) (Ab c l (e.kids.getD 0 Af)) (Ab c l (e.kids.getD 1 Af)):=by rw [hev0];unfold He;rw [if_neg (by rw [ht7];simp),if_neg (by rw [ht13];simp),if_pos h32,(Gl (by omega)).2.2,(Gl (by omega)).2.2]
  refine AEt ?_;refine Cy Tryz.call129 (rm _ _) ?_;refine Cy Tryz.call128 (AGd c l e (e.kids.getD 0 Af) (e.kids.getD 1 Af) (Dl true) _ _ (Gl (by omega)).1 (Gl (by omega)).1 (hev _ (Gl (by omega)).2.1) (hev _ (Gl (by omega)).2.1) _) ?_;refine Z85 ?_;exact Qt
 have h32:((e.op==5)&&(e.text==orW))=false:=ht32
 refine Yn ?_;refine Z92 ?_;refine A0 [2,3,4,47] ?_
 refine A1 (fun ht47=>?_) (fun ht47=>?_)
 ·have h47:((e.op==5)&&(e.text==O1))=true:=ht47
  have hop:e.op=5:=by simp only [Ap,beq_iff_eq] at h47;exact h47.1
  have hkl:=k5 hop
  have hm:Ab c l e=F5 (Dl false) (Ab c l (e.kids.getD 0 Af)) (Ab c l (e.kids.getD 1 Af)):=by rw [hev0];unfold He;rw [if_neg (by rw [ht7];simp),if_neg (by rw [ht13];simp),if_neg (by rw [h32];simp),if_pos h47,(Gl (by omega)).2.2,(Gl (by omega)).2.2]
  refine AEt ?_;refine Cy Tryz.call129 (rm _ _) ?_;refine Cy Tryz.call128 (AGd c l e (e.kids.getD 0 Af) (e.kids.getD 1 Af) (Dl false) _ _ (Gl (by omega)).1 (Gl (by omega)).1 (hev _ (Gl (by omega)).2.1) (hev _ (Gl (by omega)).2.1) _) ?_;refine Z85 ?_;exact Qt
 have h47:((e.op==5)&&(e.text==O1))=false:=ht47
 refine Z1 ?_;refine Z53 ?_;refine Ot ?_;refine Ot ?_;refine Z92 ?_;refine A0 [2,3,4,62] ?_
 refine A1 (fun ht62=>?_) (fun ht62=>?_)
 ·have h62:((e.op==6)&&(((e.text==ifW) || (e.text==M4)) || (e.text==Bu)))=true:=ht62
  obtain ⟨hkl,hl1,hl2⟩:0<e.kids.length∧((e.text==Bu)=false→1<e.kids.length)∧((e.text==ifW)=true→2<e.kids.length):=by
   have h:=h62
   simp only [Ap,Cu,beq_iff_eq] at h
   have ha:=k6 h.1
   rcases h.2 with (h1|h1)|h1
   ·rw [h1] at ha ⊢
    have:e.kids.length=3:=by
     have:C5 ifW=3:=by kernel_rfl
     omega
    exact ⟨by omega,fun _=>by omega,fun _=>by omega⟩
   ·rw [h1] at ha ⊢
    have:e.kids.length=2:=by
     have:C5 M4=2:=by kernel_rfl
     omega
    exact ⟨by omega,fun _=>by omega,fun h=>absurd h (by decide)⟩
   rw [h1] at ha ⊢
   have:e.kids.length=1:=by
    have:C5 Bu=1:=by kernel_rfl
    omega
   exact ⟨by omega,fun h=>absurd h (by decide),fun h=>absurd h (by decide)⟩
  have hm:Ab c l e=Dp e.text (Ab c l (e.kids.getD 0 Af)) (Ab c l (e.kids.getD 1 Af)) (Ab c l (e.kids.getD 2 Af)):=by
   rw [hev0]
   unfold He
   rw [if_neg (by rw [ht7];simp),if_neg (by rw [ht13];simp),if_neg (by rw [h32];simp),if_neg (by rw [h47];simp),if_pos h62,(Gl hkl).2.2]
   exact nw hl1 hl2
  refine Z1 ?_;refine A6 Tryz.call130 (AIg c l e (e.kids.getD 0 Af) (e.kids.getD 1 Af) (e.kids.getD 2 Af) _ _ _ (Gl (by omega)).1 (fun h=>(Gl (hl1 h)).1) (fun h=>(Gl (hl2 h)).1) (hev _ (Gl (by omega)).2.1) (fun h=>hev _ (Gl (hl1 h)).2.1) (fun h=>hev _ (Gl (hl2 h)).2.1) _) ?_;exact wj
 have h62:((e.op==6)&&(((e.text==ifW) || (e.text==M4)) || (e.text==Bu)))=false:=ht62
 have hm:=Zk (c:=c) (l:=l) ht7 ht13 h32 h47 h62
 refine Yo ?_;refine A6 Tryz.call131 (AIm c l e hok.2.1 hev (fun _=>yh hf hnd hrg hvo h62) _) ?_;refine Sk ?_;exact Z74

theorem yi:Dz (.agg #[.int .i64 0,.string ⟨#[]⟩,.int .i64 0,.int .i64 0,.string ⟨#[]⟩,.slice none 0 0])=.agg [A5 0,Ax [],A5 0,A5 0,Ax [],.nil]:=rfl
attribute [go_sem] yi
def S9 (l:List Val):Bool:=decide ((50:Int)<(l.length:Int)) || l.any fun v=>decide ((400:Int)<(v.s.length:Int))
theorem c8 (l:List Val) (Hp:List AObj):AFun Tryz.prog 8 [B6 l] Hp (Ar (S9 l)):=by
 refine Ae [.tmp 2] [0] Tryz.func8 Tryz.ntmps8 (fun d=>?_)
 refine ga ?_;refine A0 [0,6] ?_
 refine A1 (fun ht6=>?_) (fun ht6=>?_)
 ·rw [Am] at ht6
  have hm:S9 l=true:=by unfold S9;rw [ht6];rfl
  exact qn
 rw [Am] at ht6
 have hl50:l.length≤50:=by simp at ht6;omega
 refine qm ?_
 refine Be (α:=Nat) (fun x=>⟨20,A4 0 (B6 l) (A4 3 (A5 (x:Nat)) (fun _=>.any)),Hp,[],[],none⟩) (fun x=>x≤l.length∧∀(j:Nat) (v:Val),j<x→l[j]? = some v→decide ((400:Int)<(v.s.length:Int))=false) (fun x=>l.length-x) (0) ⟨Ah _,fun j v h=>by omega⟩ (B0 (by simp)) rfl (fun x hx=>?_)
 refine Z76 ?_;refine A0 [0,3,10] ?_
 refine A1 (fun ht10=>?_) (fun ht10=>?_)
 ·have hlt:x<l.length:=by simpa using ht10
  refine Qw ?_
  refine A2 (h:=A9 (x) (Ba l[x]) (fun _=>Ak hlt)) (hr:=?_)
  refine Z93 ?_;refine A0 [0,3,19] ?_
  refine A1 (fun ht19=>?_) (fun ht19=>?_)
  ·have hm:S9 l=true:=by unfold S9;rw [Cu];exact .inr (Ix.2 ⟨l[x],Az hlt,ht19⟩)
   exact wc
  refine Z19 ?_;refine Z51 ?_
  refine A2 (h:=Q.add64 (h1:=fun _=>by omega) (h2:=fun _=>by omega)) (hr:=?_)
  refine A2 ?_;refine M3 ?_;exact ADb
 have hxe:l.length≤x:=by simpa using ht10
 have hm:S9 l=false:=by
  unfold S9
  rw [ht6,Av,Iw]
  intro v hv
  obtain ⟨j,hj⟩:=Ca hv
  have:=hx.2 j v (by have:=(Ac.1 hj).1;omega) hj
  rw [this]
  simp
 exact qq

structure RowAt (c:List Col) (l:List Val) (x:Nat):Prop where
 le:x≤l.length
 ok:∀(i:Nat) (v:Val) (y:Col),i<x→l[i]? = some v→c[i]? = some y→C8 v=true∧(v.kind=0∨v.kind=y.kind)
theorem RowAt.next {c:List Col} {l:List Val} {x:Nat} (h:RowAt c l x) (hl:x<l.length) (hc:x<c.length) (hb:((!(C8 l[x])) || ((l[x].kind != 0)&&(l[x].kind != c[x].kind)))=false):RowAt c l (x+1):=⟨hl,fun i v y hi hv hy=>by
 rcases Bh i x with h'|h'
 ·exact h.ok i v y h' hv hy
 have e:i=x:=by omega
 subst e
 rw [Aa hl] at hv
 rw [Aa hc] at hy
 injection hv with hv
 injection hy with hy
 subst hv
 subst hy
 simp only [Cm,Cx,Tn,bne_eq_false_iff_eq] at hb
 exact ⟨hb.1,hb.2⟩⟩
theorem RowAt.bad {c:List Col} {l:List Val} {x:Nat} (hl:x<l.length) (hc:x<c.length) (hb:((!(C8 l[x])) || ((l[x].kind != 0)&&(l[x].kind != c[x].kind)))=true):E8 c l=false:=by
 cases h:E8 c l with
 | false=>rfl
 | true =>
  obtain ⟨h1,h2⟩:=(row_iff.1 h).2.2 x l[x] c[x] (Aa hl) (Aa hc)
  rw [h1] at hb
  simp only [Aq,Av,Ap,bne_iff_ne] at hb
  omega
theorem c34 (c:List Col) (hc:OkCols c) (l:List Val) (hll:l.length≤1048576) (Hp:List AObj):AFun Tryz.prog 34 [Ad c,B6 l] Hp (Ar (E8 c l)):=by
 refine Ae [.tmp 4] [0,1] Tryz.func34 Tryz.ntmps34 (fun d=>?_)
 refine Z58 ?_;refine Z32 ?_;refine A6 Tryz.call50 (c50 c hc _) ?_;refine Z53 ?_;refine Z50 ?_;refine A0 [0,1,16] ?_
 refine A1 (fun ht16=>?_) (fun ht16=>?_)
 ·have hm:E8 c l=false:=by
   simp only [Am,Cu,Cr,bne_iff_ne,ne_eq] at ht16
   unfold E8
   rcases ht16 with h|h
   ·rw [h];rfl
   rw [show (l.length==c.length)=false by simpa using (show l.length≠c.length by omega)];simp
  exact fw
 have hcl:Px c=true∧l.length=c.length:=by
  simp only [Am,Cm,Cx,bne_eq_false_iff_eq] at ht16
  exact ⟨ht16.1,by omega⟩
 refine Z66 ?_;refine A0 [0,17,18,19] ?_
 refine Be (α:=Nat) (fun x=>⟨43,A4 0 (Ad c) (A4 17 (B6 l) (A4 18 (A5 (l.length:Nat)) (A4 19 (A5 (x:Nat)) (fun _=>.any)))),Hp,[],[],none⟩) (fun x=>RowAt c l x) (fun x=>l.length-x) (0) ⟨Ah _,fun i v y h=>by omega⟩ (B0 (by simp)) rfl (fun x hx=>?_)
 refine Z2 ?_;refine A0 [0,17,18,19,20] ?_
 refine Dn (fun ht20=>?_) (fun ht20=>?_)
 ·have hlt:x<l.length:=by simpa using ht20
  have hlc:x<c.length:=by omega
  refine Uh ?_
  refine A2 (h:=A9 (x) (Ba l[x]) (fun _=>Ak hlt)) (hr:=?_)
  refine fy ?_;refine A0 [0,5,6,17,18,19] ?_;refine Df [0,1,3,7,15,31,63,127,255,511,255,255,3327,7423,15615,32767,65535,131071] 15 An (by kernel_rfl) ?_;refine Ag ?_;refine Cy Tryz.call51 (c51 _ _) ?_;refine Z17 ?_;refine Z63 ?_;refine Z63 ?_;refine Z63 ?_;refine Z63 ?_
  refine F4 (h:=A9 (x) (Cb c[x]) (fun _=>Ak hlc)) (hr:=?_)
  refine Z63 ?_;refine Fx ?_;refine Kl ?_;refine A0 [0,17,18,19,41] ?_
  refine A1 (fun ht41=>?_) (fun ht41=>?_)
  ·have hm:=RowAt.bad hlt hlc ht41
   refine Z71 ?_;exact U8
  refine Ka ?_;refine A0 [0,17,18,19] ?_;refine As (x+1) (hx.next hlt hlc ht41) (by omega) ?_
  exact Cv (own:=[]) (fun _=>.refl _) (by repeat (first|exact Bd|refine Bc (by first|exact d7|exact low_cols|(simp [or_imp,forall_and];done)) ?_)) (by simp) (by simp)
 have hxe:l.length≤x:=by simpa using ht20
 have hm:E8 c l=true:=row_iff.2 ⟨by rw [←K3];exact hcl.1,hcl.2,fun i v y hv hy=>hx.ok i v y (by have:=(Ac.1 hv).1;omega) hv hy⟩
 refine Z30 ?_;exact qe

theorem u1 {e:Expr} (h:Do e=true):Kv e=true:=by
 unfold Kv
 cases Lm h with
 | val v hp h0=>simpa [iq,Expr.op,Expr.val] using hp
 | name t ht=>rfl
 | neg a=>rfl
 | no a=>rfl
 | bin t a b ht=>rfl
 | call t k ht=>rfl
mutual
theorem Zl:∀e:Expr,E4 Do e=true→E4 Kv e=true
 | .mk o t v k,h=>by
  rw [E4,Ap] at h ⊢
  exact ⟨u1 h.1,de k h.2⟩
theorem de:∀k:List Expr,Ha Do k=true→Ha Kv k=true
  | [],_=>rfl
  | e::r,h=>by
    rw [Ha,Ap] at h ⊢
    exact ⟨Zl e h.1,de r h.2⟩
 end
theorem u3 {c:List Col} {l:List Val} (h:E8 c l=true) (hr:∀v∈l, -9223372036854775808≤v.n∧v.n≤9223372036854775807):∀v∈l,Fine v:=fun v hv=>by
 obtain ⟨i,hi⟩:=Ca hv
 obtain ⟨_,h2,h3⟩:=row_iff.1 h
 have hil:=(Ac.1 hi).1
 exact ⟨(h3 i v _ hi (Aa (show i<c.length by omega))).1,(hr v hv).1,(hr v hv).2⟩
theorem c78 (n:Nat) (x:Expr) (hok:okE n x) (hn:n≤1048576) (hrg:E4 Jf x=true) (c:List Col) (hc:OkCols c) (l:List Val) (hll:l.length≤1048576) (hlr:∀v∈l, -9223372036854775808≤v.n∧v.n≤9223372036854775807) (Hp:List AObj):AFun Tryz.prog 78 [Al x,Ad c,B6 l] Hp (My (Dy x c l)):=by
 refine Ae [.cell 6 44,.tmp 7] [0,1,2] Tryz.func78 Tryz.ntmps78 (fun d=>?_)
 refine Z2 ?_;refine Z55 ?_;refine A0 [1,2,3,6] ?_;refine Z32 ?_;refine A6 Tryz.call76 (c76 n x hok hn _) ?_;refine Z29 ?_;refine Bj Tryz.call34 (fun hB=>c34 c hc l hll _) ?_;refine Z50 ?_;refine A0 [1,2,3,6,16] ?_
 refine A1 (fun ht16=>?_) (fun ht16=>?_)
 ·have hm:Dy x c l=Ck 1:=if_pos ht16
  refine vl ?_;exact AAu
 have hm:Dy x c l=Ab c l x:=if_neg (by rw [ht16];simp)
 have hrr:Bb x=true∧E8 c l=true:=by simpa using ht16
 obtain ⟨hr,hrow⟩:=hrr
 refine Z84 ?_;refine Mm (places:=#[(0,1),(1,1)]) jU (fun w=>by simp) jZ ?_;refine A2 ?_;refine A6 Tryz.call105 (AIo c l hc (row_iff.1 hrow).2.1 (u3 hrow hlr) n x hok (Ia hr) hrg (Zl x (Ia hr)) _) ?_;refine Sk ?_;exact ADj

theorem nx {x:Expr} {c:List Col} {l:List Val} (hk:(E0 x c).2=0) (hrow:E8 c l=true):KOk (E0 x c).1 (Dy x c l):=by
 obtain ⟨h1,h2,h3⟩:=tx hk
 rw [h3] at hk ⊢
 rw [ye h1 hrow]
 exact kv hrow (sizeE x) x (Ao _) (Ia h1) hk
set_option maxRecDepth 8000
/-! Trees that are trimmed. -/
theorem Vm {v:Val} (hp:C8 v=true) (h:v.kind=0):v=noV:=by
 obtain ⟨k,n,s⟩:=v
 simp only at h
 subst h
 simp [C8] at hp
 rw [hp.1,hp.2];rfl
theorem Vn {v:Val} (hp:C8 v=true) (h:v.kind=3):v=Dl true∨v=Dl false:=by
 obtain ⟨k,n,s⟩:=v
 simp only at h
 subst h
 simp [C8] at hp
 obtain ⟨⟨rfl,h0⟩,h1⟩:=hp
 have:n=0∨n=1:=by omega
 rcases this with rfl|rfl
 ·exact .inr rfl
 exact .inl rfl
theorem Ln {k:List Expr} {i:Nat} (h:i<k.length):k.getD i Af∈k:=by
 rw [Dd,Aa h]
 exact Az h
theorem dh (S:List Val→Rs) (ra:Rs):Ga S [ra]=if (ra.2 != 0)=true then (noV,ra.2) else if (ra.1.kind==0)=true then (noV,0) else S [ra.1]:=by
 unfold Ga
 cases h:ra.2 != 0 with
 | true=>simp [h,Ck]
 | false=>simp [h]
theorem u4 (S:List Val→Rs) (ra rb:Rs):Ga S [ra,rb]=if (ra.2 != 0)=true then (noV,ra.2) else if (rb.2 != 0)=true then (noV,rb.2) else if ((ra.1.kind==0) || (rb.1.kind==0))=true then (noV,0) else S [ra.1,rb.1]:=by
 unfold Ga
 cases h:ra.2 != 0 with
 | true=>simp [h,Ck]
 | false =>
  cases h2:rb.2 != 0 with
  | true=>simp [h,h2,Ck]
  | false=>simp [h,h2]
theorem Rm {r:Rs} (h:(r.2 != 0)=true):B1 r=r:=by
 unfold B1
 have:(r.2==0)=false:=by simpa using h
 rw [this]
 simp
theorem Rn {v:Val} (h:((v.kind==0) || (v.kind==3))=false):B1 (v,0)=(noV,10):=by
 simp only [Cm,beq_eq_false_iff_ne,ne_eq] at h
 unfold B1
 rw [if_pos (by simp [h.1,h.2])]
 rfl
theorem Vo {v:Val} (h:((v.kind==0) || (v.kind==3))=true):B1 (v,0)=(v,0):=by
 unfold B1
 rw [if_neg]
 simp only [Cu,beq_iff_eq] at h
 simp
 intro h0
 rcases h with h|h
 ·exact absurd h h0
 exact h
theorem Zm {r:Rs} (h:(r.2 != 0)=false):r=(r.1,0):=by
 obtain ⟨v,e⟩:=r
 have:e=0:=by simpa using h
 rw [this]
theorem u5 {r:Rs} (h:Jh r) (h2:(r.2 != 0)=true):r=(noV,r.2):=by
 obtain ⟨v,e⟩:=r
 have:=h (by simpa using h2)
 simp only at this ⊢
 rw [this]
theorem ny {t:Str} (ht:t=orW∨t=O1) {a:Val} {rb:Rs} (fa:Fine a) (fb:Fine rb.1) (eb:Jh rb):F5 (Dl (t==orW)) (a,0) rb=tq t a rb:=by
 unfold tq F5
 cases h3:(a.kind==0) || (a.kind==3) with
 | false=>rw [Rn h3];rfl
 | true =>
  rw [Vo h3]
  simp only [Aq,A8,if_false,show ((0:Int) != 0)=false from rfl,Av]
  cases h4:a==Dl (t==orW) with
  | true=>simp
  | false =>
   simp only [A8,if_false]
   cases h5:rb.2 != 0 with
   | true =>
    rw [Rm h5,h5]
    simp only [B3,if_true]
    exact u5 eb h5
   | false =>
    simp only [A8,if_false]
    rw [Zm h5]
    generalize rb.1=b at fb
    try simp only
    cases h6:(b.kind==0) || (b.kind==3) with
    | false =>
     rw [Rn h6]
     have:((b.kind != 0)&&(b.kind != 3))=true:=by
      simp only [Cm,beq_eq_false_iff_ne,ne_eq] at h6
      simp [h6.1,h6.2]
     rw [if_pos this]
     rfl
    | true =>
     rw [Vo h6]
     have:((b.kind != 0)&&(b.kind != 3))=false:=by
      simp only [Cu,beq_iff_eq] at h6
      rcases h6 with h|h<;>simp [h]
     rw [this]
     simp only [A8,if_false,show ((0:Int) != 0)=false from rfl,Av]
     cases h7:b==Dl (t==orW) with
     | true=>simp
     | false =>
      simp only [Av,A8,if_false]
      by_cases ha0:a.kind=0
      ·have e:a=noV:=Vm fa.plain ha0
       rw [e]
       rfl
      rw [if_pos (by simpa using ha0)]
      by_cases hb0:b.kind=0
      ·rw [if_pos (by simp [hb0]),Vm fb.plain hb0]
      rw [if_neg (by simp [ha0,hb0])]
      have hb3:b.kind=3:=by simpa [hb0] using h6
      rcases Vn fb.plain hb3 with rfl|rfl
      ·rcases ht with rfl|rfl
       ·cases h7
       rfl
      rcases ht with rfl|rfl
      ·rfl
      cases h7
theorem AC8 {ra rb rc:Rs} (fa:Fine ra.1) (h:(ra.2 != 0)=false):Dp ifW ra rb rc=if (!((ra.1.kind==0) || (ra.1.kind==3)))=true then (noV,10) else if (ra.1.n==1)=true then rb else rc:=by
 have e:=Zm h
 generalize ra.1=a at fa e ⊢
 subst e
 unfold Dp
 rw [if_pos (show (ifW==ifW)=true from rfl)]
 cases h3:(a.kind==0) || (a.kind==3) with
 | false=>rw [Rn h3];rfl
 | true =>
  rw [Vo h3,if_neg (by simp)]
  simp only [Aq,A8,if_false]
  have e2:(a==Dl true)=(a.n==1):=by
   simp only [Cu,beq_iff_eq] at h3
   rcases h3 with h3|h3
   ·rw [Vm fa.plain h3];rfl
   rcases Vn fa.plain h3 with rfl|rfl<;>rfl
  rw [e2]
theorem u6 {n:Int} (h0 : -9223372036854775808≤n) (h1:n≤9223372036854775807):P2 (Lib.itoa n)=⟨2,0,Lib.itoa n⟩:=by
 have:=Lib.itoa_length_le n (by omega) (by omega)
 unfold P2
 rw [D5 (by omega)]
theorem u7 (n:Int) (k:Nat):(max 0 (min n k))=G6 n k:=by
 unfold G6
 by_cases h:n<0
 ·rw [if_pos (by simpa using h)];omega
 rw [if_neg (by simpa using h)]
 by_cases h2:n<k
 ·rw [if_pos (by simpa using h2)];omega
 rw [if_neg (by simpa using h2)];omega
theorem nz {t:Str} (a b:Val) (hl:a.s.length≤200):Ig t a.s b.n=(Kd t a b).1∧(Kd t a b).2=0:=by
 unfold Ig Kd
 rw [u7]
 show (if (t==G5)=true then _ else _)=_∧_
 cases t==G5 with
 | true =>
  simp only [if_true,and_true]
  unfold P2
  rw [D5 (by rw [Bt];omega)]
 | false =>
  simp only [A8,if_false,and_true]
  unfold P2
  rw [D5 (by rw [Xx];omega)]
section
variable {a b:Val}
theorem yj (fa:Fine a):Au 3 [] [a]=(if (a.kind != 1)=true then (noV,10) else nb (!decide (a.n<0)) a.n.natAbs):=by
 show (if (((3:Int)==5))=true then _ else if (((3:Int)==3)&&Bm [a] [1])=true then Eg (In 0 a.n) else _)=_
 rw [if_neg (by decide)]
 have e:Bm [a] [1]=(a.kind==1):=by simp [Bm]
 rw [e]
 cases h:a.kind==1 with
 | true =>
  have h':(a.kind != 1)=false:=by rw [bne,h];rfl
  rw [if_pos (by rfl),h',Iu,It,ct,N0,kb (by decide) (by decide) fa.lo fa.hi]
  simp
 | false =>
  have h':(a.kind != 1)=true:=by rw [bne,h];rfl
  rw [if_neg (by simp),h']
  rfl
theorem yk:Au 4 [] [a]=(if (a.kind != 3)=true then (noV,10) else (Dl (a.n==0),0)):=by
 show (if (((4:Int)==5))=true then _ else if (((4:Int)==3)&&Bm [a] [1])=true then _ else if (((4:Int)==4)&&Bm [a] [3])=true then (Dl (a.n==0),0) else _)=_
 rw [if_neg (by decide),if_neg (by simp)]
 have e:Bm [a] [3]=(a.kind==3):=by simp [Bm]
 rw [e]
 cases h:a.kind==3 with
 | true =>
  have h':(a.kind != 3)=false:=by rw [bne,h];rfl
  rw [if_pos (by rfl),h']
  rfl
 | false =>
  have h':(a.kind != 3)=true:=by rw [bne,h];rfl
  rw [if_neg (by simp),h']
  rfl
theorem yl:Au 6 O3 [a]=Wq O3 a ⟨9,0,[]⟩:=by
 show Fk O3 a=_
 unfold Fk Wq
 simp only [show (O3==[115,116,114])=false from rfl,show (O3==[108,101,110])=true from rfl,show (O3==[110,117,109])=false from rfl,show (O3==O2)=false from rfl,show (O3==O3)=true from rfl,Bl,B5,A8,if_false,if_true]
 cases h:a.kind==2 with
 | true=>rw [show (a.kind != 2)=false by rw [bne,h];rfl];rfl
 | false=>rw [show (a.kind != 2)=true by rw [bne,h];rfl];rfl
theorem ym:Au 6 O4 [a]=Wq O4 a ⟨9,0,[]⟩:=by
 show Fk O4 a=_
 unfold Fk Wq
 simp only [show (O4==[115,116,114])=false from rfl,show (O4==[108,101,110])=false from rfl,show (O4==[110,117,109])=true from rfl,show (O4==O2)=false from rfl,show (O4==O3)=false from rfl,show (O4==O4)=true from rfl,Bl,B5,A8,if_false,if_true]
 cases h:a.kind==2 with
 | true=>rw [show (a.kind != 2)=false by rw [bne,h];rfl];rfl
 | false=>rw [show (a.kind != 2)=true by rw [bne,h];rfl];rfl
theorem yn (fa:Fine a):Au 6 O2 [a]=Wq O2 a ⟨9,0,[]⟩:=by
 show Fk O2 a=_
 unfold Fk Wq
 simp only [show (O2==[115,116,114])=true from rfl,show (O2==[108,101,110])=false from rfl,show (O2==[110,117,109])=false from rfl,show (O2==O2)=true from rfl,Bl,B5,A8,if_false,if_true]
 cases h:a.kind==1 with
 | true=>rw [show (a.kind != 1)=false by rw [bne,h];rfl,u6 fa.lo fa.hi];rfl
 | false=>rw [show (a.kind != 1)=true by rw [bne,h];rfl];rfl
theorem Xg (fa:Fine a) {t:Str} (ht:t=G5∨t=[114,105,103,104,116]):Au 6 t [a,b]=Wq t a b:=by
 show (if (!Bm [a,b] [2,1])=true then Ck 10 else (Ig t a.s b.n,0))=_
 have e1:(t==O2)=false:=by rcases ht with rfl|rfl<;>rfl
 have e2:(t==O3)=false:=by rcases ht with rfl|rfl<;>rfl
 have e3:(t==O4)=false:=by rcases ht with rfl|rfl<;>rfl
 unfold Wq
 rw [e1,e2,e3]
 simp only [A8,if_false]
 have e:Bm [a,b] [2,1]=((a.kind==2)&&(b.kind==1)):=by simp [Bm]
 rw [e]
 have hp:=nz (t:=t) a b fa.len
 cases h:a.kind==2 with
 | false=>rw [show (a.kind != 2)=true by rw [bne,h];rfl];rfl
 | true =>
  rw [show (a.kind != 2)=false by rw [bne,h];rfl]
  cases h2:b.kind==1 with
  | false=>rw [show (b.kind != 1)=true by rw [bne,h2];rfl];rfl
  | true =>
   rw [show (b.kind != 1)=false by rw [bne,h2];rfl]
   show (Ig t a.s b.n,(0:Int))=Kd t a b
   rw [hp.1,←hp.2]
end
theorem di {a:Val}:((a.kind==0) || ((⟨9,0,[]⟩:Val).kind==0))=(a.kind==0):=by simp
/-- The reference's way is the tree's value. -/
theorem AC9 {c:List Col} {l:List Val} {e:Expr} (hn:Do e=true) (hf:∀y∈e.kids,Fine (Ab c l y).1∧Jh (Ab c l y)) (h1:(e.op==1)=false) (h2:(e.op==2)=false):Ab c l e=Hr (e.kids.length:Int) e.op e.text (Ab c l (e.kids.getD 0 Af)) (Ab c l (e.kids.getD 1 Af)) (Ab c l (e.kids.getD 2 Af)):=by
 cases Lm hn with
 | val v hp h0=>cases h1
 | name t ht=>cases h2
 | neg x =>
  obtain ⟨fa,_⟩:=hf x (by simp [Wm,Expr.kids])
  show Ga (Au 3 []) [Ab c l x]=Hr 1 3 [] (Ab c l x) _ _
  rw [dh]
  generalize Ab c l x=ra at fa ⊢
  unfold Hr
  cases h:ra.2 != 0 with
  | true=>rfl
  | false =>
   show _=Q7 3 [] ra.1 ⟨9,0,[]⟩
   unfold Q7
   rw [di,yj fa]
   rfl
 | no x =>
  obtain ⟨fa,_⟩:=hf x (by simp [Wm,Expr.kids])
  show Ga (Au 4 []) [Ab c l x]=Hr 1 4 [] (Ab c l x) _ _
  rw [dh]
  generalize Ab c l x=ra at fa ⊢
  unfold Hr
  cases h:ra.2 != 0 with
  | true=>rfl
  | false =>
   show _=Q7 4 [] ra.1 ⟨9,0,[]⟩
   unfold Q7
   rw [di,yk]
   rfl
 | bin t x y ht =>
  obtain ⟨fa,ea⟩:=hf x (by simp [Za,Expr.kids])
  obtain ⟨fb,eb⟩:=hf y (by simp [Za,Expr.kids])
  show He Au c l 5 t noV [Ab c l x,Ab c l y]=Hr 2 5 t (Ab c l x) (Ab c l y) _
  generalize Ab c l x=ra at fa ea ⊢
  generalize Ab c l y=rb at fb eb ⊢
  have hlog:(t=orW∨t=O1)→F5 (Dl (t==orW)) ra rb=if (ra.2 != 0)=true then (noV,ra.2) else tq t ra.1 rb:=fun h=>by
   cases h5:ra.2 != 0 with
   | true =>
    unfold F5
    rw [Rm h5,h5]
    simp only [B3,if_true]
    exact u5 ea h5
   | false =>
    rw [if_neg (by simp)]
    have e:=Zm h5
    rw [e]
    exact ny h fa fb eb
  unfold Hr He
  simp only [show ((5:Int)==1)=false from rfl,show ((5:Int)==2)=false from rfl,show ((5:Int)==5)=true from rfl,show ((5:Int)==6)=false from rfl,B5,Bl,A8,if_false]
  cases ho:t==orW with
  | true =>
   have et:t=orW:=eq_of_beq ho
   have:=hlog (.inl et)
   rw [ho] at this
   simp only [B3,if_true]
   exact this
  | false =>
   cases hw:t==O1 with
   | true =>
    have et:t=O1:=eq_of_beq hw
    have:=hlog (.inr et)
    rw [ho] at this
    simp only [Av,A8,if_false,if_true]
    exact this
   | false =>
    simp only [Av,A8,if_false]
    show Ga (Au 5 t) [ra,rb]=_
    rw [u4]
    cases h5:ra.2 != 0 with
    | true=>rfl
    | false =>
     show _=(if (rb.2 != 0)=true then (noV,rb.2) else Q7 5 t ra.1 rb.1)
     rfl
 | call t k ha =>
  rcases Hs ha with ⟨e,hk⟩|⟨e,hk⟩|⟨e,hk⟩|⟨e,hk⟩|⟨e,hk⟩|⟨e,hk⟩|⟨e,hk⟩|⟨e,hk⟩<;>subst e
  ·match k,hk with
   | [x],_ =>
    obtain ⟨fa,_⟩:=hf x (by simp [Expr.kids])
    show Ga (Au 6 O3) [Ab c l x]=Hr 1 6 O3 (Ab c l x) _ _
    rw [dh,yl]
    cases h:(Ab c l x).2 != 0 with
    | true=>unfold Hr;rw [h];rfl
    | false =>
     unfold Hr
     rw [h]
     show _=Q7 6 O3 (Ab c l x).1 ⟨9,0,[]⟩
     unfold Q7
     rw [di]
     rfl
  ·match k,hk with
   | [x],_ =>
    obtain ⟨fa,_⟩:=hf x (by simp [Expr.kids])
    show Ga (Au 6 O2) [Ab c l x]=Hr 1 6 O2 (Ab c l x) _ _
    rw [dh,yn fa]
    cases h:(Ab c l x).2 != 0 with
    | true=>unfold Hr;rw [h];rfl
    | false =>
     unfold Hr
     rw [h]
     show _=Q7 6 O2 (Ab c l x).1 ⟨9,0,[]⟩
     unfold Q7
     rw [di]
     rfl
  ·match k,hk with
   | [x],_ =>
    obtain ⟨fa,_⟩:=hf x (by simp [Expr.kids])
    show Ga (Au 6 O4) [Ab c l x]=Hr 1 6 O4 (Ab c l x) _ _
    rw [dh,ym]
    cases h:(Ab c l x).2 != 0 with
    | true=>unfold Hr;rw [h];rfl
    | false =>
     unfold Hr
     rw [h]
     show _=Q7 6 O4 (Ab c l x).1 ⟨9,0,[]⟩
     unfold Q7
     rw [di]
     rfl
  ·match k,hk with
   | [x],_ =>
    obtain ⟨fa,ea⟩:=hf x (by simp [Expr.kids])
    show Dp Bu (Ab c l x) (noV,0) (noV,0)=Hr 1 6 Bu (Ab c l x) _ _
    unfold Dp Hr
    cases h:(Ab c l x).2 != 0 with
    | true=>rfl
    | false=>rfl
  ·match k,hk with
   | [x,y],_ =>
    obtain ⟨fa,ea⟩:=hf x (by simp [Expr.kids])
    show Dp M4 (Ab c l x) (Ab c l y) (noV,0)=Hr 2 6 M4 (Ab c l x) (Ab c l y) _
    unfold Dp Hr
    cases h:(Ab c l x).2 != 0 with
    | true=>rfl
    | false=>rfl
  ·match k,hk with
   | [x,y],_ =>
    obtain ⟨fa,_⟩:=hf x (by simp [Expr.kids])
    show Ga (Au 6 G5) [Ab c l x,Ab c l y]=Hr 2 6 G5 (Ab c l x) (Ab c l y) _
    rw [u4,Xg fa (.inl rfl)]
    unfold Hr
    cases h:(Ab c l x).2 != 0 with
    | true=>rfl
    | false=>rfl
  ·match k,hk with
   | [x,y],_ =>
    obtain ⟨fa,_⟩:=hf x (by simp [Expr.kids])
    show Ga (Au 6 [114,105,103,104,116]) [Ab c l x,Ab c l y]=Hr 2 6 [114,105,103,104,116] (Ab c l x) (Ab c l y) _
    rw [u4,Xg fa (.inr rfl)]
    unfold Hr
    cases h:(Ab c l x).2 != 0 with
    | true=>rfl
    | false=>rfl
  match k,hk with
  | [x,y,z],_ =>
   obtain ⟨fa,ea⟩:=hf x (by simp [Expr.kids])
   show Dp ifW (Ab c l x) (Ab c l y) (Ab c l z)=Hr 3 6 ifW (Ab c l x) (Ab c l y) (Ab c l z)
   unfold Hr
   cases h:(Ab c l x).2 != 0 with
   | true =>
    unfold Dp
    rw [Rm h,h]
    rfl
   | false =>
    rw [AC8 fa h]
    rfl
set_option maxRecDepth 4000
theorem o0 {a:Int} (h:AFl a):Ij a=(a.natAbs:Int):=Ns h.1 h.2
theorem yo {u:Int} (h:0≤u) (h2:u<18446744073709551616):IntKind.u64.wrap (IntKind.u64.wrap (IntKind.u64.wrap (u.tdiv 4294967296)*4294967296)+u.tmod 4294967296)=u:=by
 simp only [IntKind.wrap_u64]
 rw [To h,Tp h]
 omega
/-- How far the digits have come. -/
def DGR (n:Nat) (x:Nat×Str):Prop:=(x.1=n∧x.2=[])∨(x.2≠[]∧(if x.1=0 then [] else Lib.decDigits x.1)++x.2=Lib.decDigits n)
theorem DGR.step {n:Nat} {x:Nat×Str} (h:DGR n x) (hc:0<x.1∨x.2=[]):DGR n (x.1 / 10,UInt8.ofNat (48+x.1 % 10)::x.2):=by
 obtain ⟨u,s⟩:=x
 refine .inr ⟨by simp,?_⟩
 simp only at *
 have key:(if u / 10=0 then [] else Lib.decDigits (u / 10))++[UInt8.ofNat (48+u % 10)]=Lib.decDigits u:=by
  rw [Lib.decDigits.eq_1 u]
  by_cases h10:u<10
  ·rw [dif_pos h10,if_pos (by omega),Nd h10];rfl
  rw [dif_neg h10,if_neg (by omega)]
 rw [show UInt8.ofNat (48+u % 10)::s=[UInt8.ofNat (48+u % 10)]++s from rfl,←C9,key]
 rcases h with ⟨h1,h2⟩|⟨h1,h2⟩
 ·simp only at h1 h2
  rw [h1,h2,Iy]
 simp only at h1 h2
 rw [←h2,if_neg (by rcases hc with hc|hc;omega;exact absurd hc h1)]
theorem DGR.done {n:Nat} {x:Nat×Str} (h:DGR n x) (h1:¬0<x.1) (h2:x.2≠[]):x.2=Lib.decDigits n:=by
 rcases h with ⟨_,h⟩|⟨_,h⟩
 ·exact absurd h h2
 rw [if_pos (by omega)] at h
 simpa using h
theorem DGR.len {n:Nat} {x:Nat×Str} (h:DGR n x) (hn:n≤9223372036854775808):x.2.length≤21:=by
 have h2:(Lib.decDigits n).length≤21:=by
  have:=Lib.itoa_length_le (-(n:Int)) (by omega) (by omega)
  unfold Lib.itoa at this
  split at this
  ·have e:(-(n:Int)).natAbs=n:=by omega
   rw [e] at this
   simp at this
   omega
  have:n=0:=by omega
  rw [this]
  rw [Lib.decDigits_one (by omega)]
  simp
 rcases h with ⟨_,h⟩|⟨_,h⟩
 ·rw [h];simp
 have:=congrArg List.length h
 rw [Aw] at this
 omega
theorem DGR.le {n:Nat} {x:Nat×Str} (h:x.1≤n):x.1 / 10≤n:=by omega
theorem AGi (u:Nat):IntKind.u8.wrap (48+IntKind.u8.wrap ((u:Int).tmod 10))=((UInt8.ofNat (48+u % 10)).toNat:Int):=by
 rw [Tp (by omega)]
 simp [IntKind.wrap,IntKind.bits,IntKind.signed,UInt8.toNat_ofNat']
theorem ACa {u n:Nat} (h:u≤n) (hn:n≤9223372036854775808):IntKind.u64.wrap ((u:Int).tdiv 10)=((u / 10:Nat):Int):=by
 rw [To (by omega),IntKind.wrap_u64]
 omega
theorem Xh (a:Int):Lib.itoa a=if decide (a<0) then 45::Lib.decDigits a.natAbs else Lib.decDigits a.natAbs:=by
 unfold Lib.itoa
 by_cases h:a<0
 ·simp [h]
 have:a.toNat=a.natAbs:=by omega
 simp [h,this]
theorem c64 (a:Int) (ha:AFl a) (Hp:List AObj):AFun Tryz.prog 64 [A5 a] Hp (Ax (Lib.itoa a)):=by
 have hs:=o0 ha
 have hn:a.natAbs≤9223372036854775808:=by have:=ha.1;have:=ha.2;omega
 have hh:=yo (u:=Ij a) (by rw [hs];omega) (by rw [hs];omega)
 refine Ae [.tmp 2] [0] Tryz.func64 Tryz.ntmps64 (fun d=>?_)
 refine Z49 ?_;refine Z2 ?_;refine A6 Tryz.call63 (c63 a _) ?_;refine Z34 ?_;refine A0 [3] ?_;refine Z2 ?_;refine Mq (1) jU Tryz.sizeOf77 (by decide) ?_;refine Z13 ?_;refine wu ?_;refine A2 ?_
 refine A2 (h:=Er) (hr:=?_)
 rw [hh,hs]
 refine A2 ?_;refine A0 [3,4] ?_;refine Z2 ?_;refine A0 [3,4,5] ?_;refine K9 ?_
 refine Be (α:=Nat×Str) (fun x=>⟨37,A4 3 (.ptr (oid Hp.length 0) 0) (A4 4 (Bf (x.1:Nat)) (A4 5 (Ax x.2) (fun _=>.any))),Hp,[.cells 100 (Ve a)],[],none⟩) (fun x=>x.1≤a.natAbs∧DGR a.natAbs x) (fun x=>2*x.1+(if x.2=[] then 1 else 0)) ((a.natAbs,[])) ⟨Ao _,.inl ⟨rfl,rfl⟩⟩ (B0 (by simp)) rfl (fun x hx=>?_)
 refine Z27 ?_;refine Kl ?_;refine A0 [3,4,5,21] ?_
 refine A1 (fun ht21=>?_) (fun ht21=>?_)
 ·have hc:0<x.1∨x.2=[]:=by
   have h:=ht21
   simp only [Cu,decide_eq_true_eq,beq_iff_eq] at h
   rcases h with h|h
   ·exact .inl (by omega)
   exact .inr h
  have hl21:=hx.2.len hn
  refine Z3 ?_;refine Ii ?_;refine Z18 ?_
  refine A2 (h:=Er) (hr:=?_)
  refine Qr jU jS jZ ?_
  rw [AGi]
  refine R.bytesStr [UInt8.ofNat (48+x.1 % 10)] jU jU jU ?_;refine A2 ?_
  refine A2 (h:=Q.sadd (hl:=fun _=>by simp only [Bo,By];omega)) (hr:=?_)
  refine A2 ?_;refine A0 [3,4,5] ?_;refine Z31 ?_
  rw [ACa hx.1 hn]
  refine A2 ?_;refine A0 [3,4,5] ?_;refine K.blN ?_
  refine As (x.1 / 10,UInt8.ofNat (48+x.1 % 10)::x.2) ⟨DGR.le hx.1,hx.2.step hc⟩ (by rw [if_neg (by simp)];rcases hc with h|h;omega;rw [if_pos h];omega) (Bk rfl)
 have hl21:=hx.2.len hn
 have hD:x.2=Lib.decDigits a.natAbs:=by
  have h:=ht21
  simp only [Cm,decide_eq_false_iff_not,beq_eq_false_iff_ne] at h
  exact hx.2.done (by omega) h.2
 refine Z47 ?_;refine Z8 ?_;refine A0 [5,33] ?_
 refine A1 (fun ht33=>?_) (fun ht33=>?_)
 ·have hm:=Xh a
  rw [if_pos ht33] at hm
  refine Z51 ?_
  refine A2 (h:=Q.sadd (hl:=fun _=>by simp only [Bo,By];omega)) (hr:=?_)
  refine A2 ?_;refine A0 [5] ?_;refine Dk ?_;refine Z1 ?_;exact AE0
 have hm:=Xh a
 rw [if_neg (by rw [ht33];simp)] at hm
 refine Z84 ?_;exact AE0

theorem Ji {ks:List Expr} {i:Nat} (h:i<ks.length):(ks.map Al)[i]? = some (Al (ks.getD i Af)):=by
 rw [Cs,Aa h,Dd,Aa h]
 rfl
theorem yp (v:Val) (k n:Int) (s:Str):(v.kind==k&&v.n==n&&v.s==s)=(v==⟨k,n,s⟩):=by
 obtain ⟨a,b,c⟩:=v
 rw [K5]
 simp [Val.mk.injEq,and_assoc]
theorem Tb (v s:Val):(v.kind==s.kind&&v.n==s.n&&v.s==s.s)=(v==s):=yp v s.kind s.n s.s
theorem yq {x:Expr} (k6:x.op=6→C5 x.text=(x.kids.length:Int)) (h:(x.op==6)=true) (ht:(x.text==M4)=true):1<x.kids.length:=by
 have e:=eq_of_beq ht
 rcases Hs (k6 (eq_of_beq h)) with ⟨q,_⟩|⟨q,_⟩|⟨q,_⟩|⟨q,_⟩|⟨_,q⟩|⟨q,_⟩|⟨q,_⟩|⟨q,_⟩
 all_goals first|omega|(rw [e] at q;exact absurd q (by decide))
theorem ACb {x:Expr} (k6:x.op=6→C5 x.text=(x.kids.length:Int)) (h:(x.op==6)=true) (ht:(x.text==ifW)=true):2<x.kids.length:=by
 have e:=eq_of_beq ht
 rcases Hs (k6 (eq_of_beq h)) with ⟨q,_⟩|⟨q,_⟩|⟨q,_⟩|⟨q,_⟩|⟨q,_⟩|⟨q,_⟩|⟨q,_⟩|⟨_,q⟩
 all_goals first|omega|(rw [e] at q;exact absurd q (by decide))
theorem Tc {n:Int} {k:Nat} (h:decide (n<0)=true):G6 n k=((0:Nat):Int):=if_pos h
theorem Td {n:Int} {k:Nat} (h:decide (n<0)=false) (h2:decide (n<(k:Int))=true):G6 n k=n:=by unfold G6;rw [if_neg (by rw [h];simp),if_pos h2]
theorem Te {n:Int} {k:Nat} (h:decide (n<0)=false) (h2:decide (n<(k:Int))=false):G6 n k=k:=by unfold G6;rw [if_neg (by rw [h];simp),if_neg (by rw [h2];simp)]
theorem u9 {l:List Val} {i:Nat} (h:i<l.length):(l.map Ba)[i]? = some (Ba (l.getD i noV)):=by
 rw [Cs,Aa h,Dd,Aa h]
 rfl
set_option maxHeartbeats 8000000 in
theorem c41 (c:List Col) (l:List Val) (hc:OkCols c) (hl:l.length=c.length) (hf:∀v∈l,Fine v):∀(n:Nat) (x:Expr),okE n x→E4 Do x=true→E4 Jf x=true→∀Hp:List AObj,AFun Tryz.prog 41 [Al x,Ad c,B6 l] Hp (My (Ab c l x)):=by
 intro n
 induction n with
 | zero=>exact fun x h=>h.elim
 | succ n ih =>
 intro x hok hnode hrng Hp
 have hn0:=hnode
 have hr0:=hrng
 rw [Hb,Ap] at hn0 hr0
 have hev:∀y∈x.kids,∀Hp:List AObj,AFun Tryz.prog 41 [Al y,Ad c,B6 l] Hp (My (Ab c l y)):=fun y hy=>ih y (hok.2.2 y hy) ((E7 _ _).1 hn0.2 y hy) ((E7 _ _).1 hr0.2 y hy)
 have hfe:∀y∈x.kids,Fine (Ab c l y).1∧Jh (Ab c l y):=fun y hy=>⟨Nq hf y (Zl y ((E7 _ _).1 hn0.2 y hy)) ((E7 _ _).1 hr0.2 y hy),Vk c l _ y (Ao _)⟩
 obtain ⟨k5,k34,k6,kall⟩:=Rl hn0.1
 have hev0:Ab c l x=He Au c l x.op x.text x.val (x.kids.map (Ab c l)):=Q0 _ _ _ _
 refine Ae [.cell 6 44,.tmp 7] [0,1,2] Tryz.func41 Tryz.ntmps41 (fun d=>?_)
 refine Z2 ?_;refine Z55 ?_;refine A0 [1,2,3,6] ?_;refine Z48 ?_;refine Z34 ?_;refine A0 [1,2,3,6,8] ?_;refine Z20 ?_;refine Z39 ?_;refine A0 [1,2,3,6,8,23] ?_
 refine A1 (fun ht23=>?_) (fun ht23=>?_)
 ·have hm:Ab c l x=(x.val,0):=by rw [hev0];unfold He;rw [if_pos ht23]
  refine Z1 ?_;refine Z7 ?_;refine Z9 ?_;exact Z25
 refine Z39 ?_;refine A0 [1,2,3,6,8,29] ?_
 refine A1 (fun ht29=>?_) (fun ht29=>?_)
 ·have hm0:Ab c l x=Od c l x.text:=by rw [hev0];unfold He;rw [if_neg (by rw [ht23];simp),if_pos ht29]
  refine Z18 ?_;refine A6 Tryz.call42 (c42 c hc x.text _) ?_;refine A2 ?_;refine A0 [2,6,8,9] ?_;refine Z8 ?_;refine A0 [2,6,8,9,38] ?_
  refine A1 (fun ht38=>?_) (fun ht38=>?_)
  ·have hm:Ab c l x=(noV,9):=by rw [hm0];exact if_pos (by simpa using ht38)
   refine Z72 ?_;exact Z25
  have hnn:¬Bg x.text c<0:=by simpa using ht38
  obtain ⟨j,hj,hjc⟩:=Hf hnn
  have hm:Ab c l x=(l.getD j noV,0):=by
   rw [hm0]
   unfold Od
   rw [if_neg hnn,hj]
   rfl
  rw [hj]
  refine Z84 ?_
  refine A2 (h:=A9 (j) (Ba (l.getD j noV)) (fun _=>u9 (by omega))) (hr:=?_)
  refine A2 ?_;refine Z7 ?_;refine Z9 ?_;exact Z25
 have href:=AC9 hn0.1 hfe ht23 ht29
 clear hev0
 simp only [Hr,tq,AC1,Q7,Wq,ifW,M4,Bu,orW,O1,O2,O3,O4,G5] at href
 have hk0:0<x.kids.length:=by
  simp only [beq_eq_false_iff_ne,ne_eq] at ht23 ht29
  rcases kall with h|h|h|h|h|h
  ·exact absurd h ht23
  ·exact absurd h ht29
  ·have:=k34 (.inl h);omega
  ·have:=k34 (.inr h);omega
  ·have:=k5 h;omega
  have:=k6 h
  rcases Hs this with ⟨_,e⟩|⟨_,e⟩|⟨_,e⟩|⟨_,e⟩|⟨_,e⟩|⟨_,e⟩|⟨_,e⟩|⟨_,e⟩<;>omega
 have fa:=(hfe _ (Ln hk0)).1
 refine Yo ?_
 refine A2 (h:=A9 (0) (Al (x.kids.getD 0 Af)) (fun _=>Ji hk0)) (hr:=?_)
 refine Z13 ?_;refine A6 Tryz.call41 (hev (x.kids.getD 0 Af) (Ln hk0) _) ?_;refine Pt ?_;refine A0 [1,2,3,6,8,10,11] ?_;refine Z8 ?_;refine A0 [1,2,3,6,8,10,11,55] ?_
 refine A1 (fun ht55=>?_) (fun ht55=>?_)
 ·refine bf ?_
  simp only [*,↓reduceIte,A8,Aq,At] at href
  exact Ci
 refine Z84 ?_;refine Z29 ?_;refine Z92 ?_;refine A0 [1,2,3,6,8,10,12] ?_;refine Z8 ?_;refine Z53 ?_;refine Z10 ?_;refine Kl ?_;refine A0 [1,2,3,6,8,10,12,78] ?_
 refine A1 (fun ht78=>?_) (fun ht78=>?_)
 ·have hk2l:x.kids.length=2:=k5 (by simp only [Ap,beq_iff_eq] at ht78;exact ht78.1)
  refine Z18 ?_;refine A6 Tryz.call59 (c59 _ _) ?_;refine Z34 ?_;refine A0 [1,2,3,6,8,10,12,13] ?_;refine Z8 ?_;refine A0 [1,2,3,6,8,10,13,84] ?_
  refine A1 (fun ht84=>?_) (fun ht84=>?_)
  ·refine Ms ?_
   simp only [*,↓reduceIte,A8,Aq,At] at href
   exact Ci
  refine Mt ?_
  refine A2 (h:=Ok Sn (fun w=>Gs (Ab c l (x.kids.getD 0 Af)).1.kind (Ab c l (x.kids.getD 0 Af)).1.n (Dl (x.text==[111,114])).kind (Dl (x.text==[111,114])).n (Ab c l (x.kids.getD 0 Af)).1.s (Dl (x.text==[111,114])).s w)) (hr:=?_)
  refine A0 [1,2,3,6,8,10,13,88] ?_
  refine A1 (fun ht88=>?_) (fun ht88=>?_)
  ·rw [Tb] at ht88
   refine Ms ?_
   simp only [*,↓reduceIte,A8,Aq,At] at href
   exact Ci
  rw [Tb] at ht88
  refine Z84 ?_
  refine A2 (h:=A9 (1) (Al (x.kids.getD 1 Af)) (fun _=>Ji (by omega))) (hr:=?_)
  refine Z13 ?_;refine A6 Tryz.call41 (hev (x.kids.getD 1 Af) (Ln (by omega)) _) ?_;refine Pt ?_;refine A0 [3,6,8,10,13,14,15] ?_;refine Z8 ?_;refine A0 [3,6,8,10,13,14,15,101] ?_
  refine A1 (fun ht101=>?_) (fun ht101=>?_)
  ·refine bf ?_;refine C4 ?_
   simp only [*,↓reduceIte,A8,Aq,At] at href
   exact Ci
  refine Mt ?_;refine fu ?_;refine A0 [3,6,8,10,13,14,111] ?_
  refine A1 (fun ht111=>?_) (fun ht111=>?_)
  ·refine Ms ?_
   simp only [*,↓reduceIte,A8,Aq,At] at href
   exact Ci
  refine Mt ?_
  refine A2 (h:=Ok Sn (fun w=>Gs (Ab c l (x.kids.getD 1 Af)).1.kind (Ab c l (x.kids.getD 1 Af)).1.n (Dl (x.text==[111,114])).kind (Dl (x.text==[111,114])).n (Ab c l (x.kids.getD 1 Af)).1.s (Dl (x.text==[111,114])).s w)) (hr:=?_)
  refine A0 [3,6,8,10,14,115] ?_
  refine A1 (fun ht115=>?_) (fun ht115=>?_)
  ·rw [Tb] at ht115
   refine Ms ?_
   simp only [*,↓reduceIte,A8,Aq,At] at href
   exact Ci
  rw [Tb] at ht115
  refine Mt ?_;refine fu ?_;refine A0 [3,6,8,124] ?_
  refine A1 (fun ht124=>?_) (fun ht124=>?_)
  ·refine Ms ?_
   simp only [*,↓reduceIte,A8,Aq,At] at href
   exact Ci
  refine Z77 ?_;refine m5 ?_
  simp only [*,↓reduceIte,A8,Aq,At] at href
  exact Ci
 have h78:(x.op==5)=true→((x.text==[111,114]) || (x.text==[97,110,100]))=false:=fun h=>by rw [h] at ht78;exact ht78
 refine Z66 ?_;refine A0 [1,2,3,6,8,10,12,132] ?_
 refine A1 (fun ht132=>?_) (fun ht132=>?_)
 ·refine Z1 ?_;refine A0 [1,2,3,6,8,10,12,134] ?_;refine Z95 ?_;refine A0 [1,2,3,6,8,10,12,134,135] ?_
  refine A1 (fun ht135=>?_) (fun ht135=>?_)
  ·refine Z18 ?_;refine AEb ?_
   simp only [*,↓reduceIte,A8,Aq,At] at href
   exact Ci
  refine Z1 ?_;refine A0 [1,2,3,6,8,10,12,134,141] ?_
  refine A1 (fun ht141=>?_) (fun ht141=>?_)
  ·have hk1:1<x.kids.length:=yq k6 ht132 ht141
   refine Z27 ?_;refine A0 [1,2,3,6,10,145] ?_
   refine A1 (fun ht145=>?_) (fun ht145=>?_)
   ·refine Z72 ?_;refine Z6 ?_
    simp only [*,↓reduceIte,A8,Aq,At] at href
    exact Ci
   refine Z84 ?_
   refine A2 (h:=A9 (1) (Al (x.kids.getD 1 Af)) (fun _=>Ji hk1)) (hr:=?_)
   refine vi ?_;refine Sk ?_;refine Z91 ?_
   simp only [*,↓reduceIte,A8,Aq,At] at href
   exact Ci
  refine Z1 ?_;refine A0 [1,2,3,6,8,10,12,156] ?_
  refine A1 (fun ht156=>?_) (fun ht156=>?_)
  ·have hk2:2<x.kids.length:=ACb k6 ht132 ht156
   have hk1:1<x.kids.length:=by omega
   refine Z8 ?_;refine A0 [1,2,3,6,8,10,159] ?_
   refine A1 (fun ht159=>?_) (fun ht159=>?_)
   ·refine Z72 ?_;refine Z6 ?_
    simp only [*,↓reduceIte,A8,Aq,At] at href
    exact Ci
   refine Z66 ?_;refine A0 [1,2,3,6,163] ?_
   refine A1 (fun ht163=>?_) (fun ht163=>?_)
   ·refine Z1 ?_
    refine A2 (h:=A9 (1) (Al (x.kids.getD 1 Af)) (fun _=>Ji hk1)) (hr:=?_)
    refine vi ?_;refine g7 ?_;refine Z6 ?_
    simp only [*,↓reduceIte,A8,Aq,At] at href
    exact Ci
   refine Z84 ?_
   refine A2 (h:=A9 (2) (Al (x.kids.getD 2 Af)) (fun _=>Ji hk2)) (hr:=?_)
   refine Z13 ?_;refine A6 Tryz.call41 (hev (x.kids.getD 2 Af) (Ln hk2) _) ?_;refine Sk ?_;refine Z91 ?_
   simp only [*,↓reduceIte,A8,Aq,At] at href
   exact Ci
  refine Z19 ?_;refine Z48 ?_;refine Z34 ?_;refine A0 [1,2,3,6,8,10,16] ?_;refine Z76 ?_;refine A0 [1,2,3,6,8,10,16,186] ?_
  refine A1 (fun ht186=>?_) (fun ht186=>?_)
  ·rw [Am] at ht186
   have hk1:1<x.kids.length:=by simp only [beq_iff_eq] at ht186;omega
   refine Z1 ?_
   refine A2 (h:=A9 (1) (Al (x.kids.getD 1 Af)) (fun _=>Ji hk1)) (hr:=?_)
   refine vi ?_;refine Pt ?_;refine A0 [3,6,8,10,16,17,18] ?_;refine Z8 ?_;refine A0 [3,6,8,10,16,17,18,198] ?_
   refine A1 (fun ht198=>?_) (fun ht198=>?_)
   ·refine bf ?_;refine C4 ?_
    simp only [*,↓reduceIte,A8,Aq,At] at href
    exact Ci
   have fb:=(hfe _ (Ln hk1)).1
   refine Z3 ?_;refine Z51 ?_;refine F9 ?_;refine A0 [3,6,8,10,16] ?_;refine Dk ?_;refine Z8 ?_;refine vo ?_
   refine A1 (fun ht209=>?_) (fun ht209=>?_)
   ·refine Z72 ?_
    simp only [*,↓reduceIte,A8,Aq,At] at href
    exact Ci
   refine vq ?_
   refine A1 (fun ht213=>?_) (fun ht213=>?_)
   ·exact AF6
   refine vr ?_
   refine A1 (fun ht223=>?_) (fun ht223=>?_)
   ·refine w6 ?_
    refine A1 (fun ht226=>?_) (fun ht226=>?_)
    ·refine Ms ?_
     simp only [*,↓reduceIte,A8,Aq,At] at href
     exact Ci
    refine Z84 ?_;refine vk ?_;refine g7 ?_
    simp only [*,↓reduceIte,A8,Aq,At] at href
    exact Ci
   refine vt ?_
   refine A1 (fun ht237=>?_) (fun ht237=>?_)
   ·refine w7 ?_
    refine A1 (fun ht240=>?_) (fun ht240=>?_)
    ·refine Ms ?_
     simp only [*,↓reduceIte,A8,Aq,At] at href
     exact Ci
    refine Z77 ?_;refine m5 ?_
    simp only [*,↓reduceIte,A8,Aq,At] at href
    exact Ci
   refine vu ?_
   refine A1 (fun ht248=>?_) (fun ht248=>?_)
   ·refine w8 ?_
    refine A1 (fun ht251=>?_) (fun ht251=>?_)
    ·refine Ms ?_
     simp only [*,↓reduceIte,A8,Aq,At] at href
     exact Ci
    refine Z84 ?_;refine vf ?_
    simp only [*,↓reduceIte,A8,Aq,At] at href
    exact Ci
   refine vw ?_
   refine A1 (fun ht259=>?_) (fun ht259=>?_)
   ·refine Z72 ?_
    simp only [*,↓reduceIte,A8,Aq,At] at href
    exact Ci
   refine vp ?_;refine vn ?_
   refine A1 (fun ht263=>?_) (fun ht263=>?_)
   ·refine Z18 ?_;refine be ?_
    simp only [*,↓reduceIte,A8,Aq,At] at href
    exact Ci
   refine w4 ?_
   refine A1 (fun ht269=>?_) (fun ht269=>?_)
   ·refine Z1 ?_
    refine A6 Tryz.call65 (c65 (Ab c l (x.kids.getD 0 Af)).1.s (by have:=fa.len;omega) _) ?_
    refine Z67 ?_;refine w9 ?_
    refine A1 (fun ht278=>?_) (fun ht278=>?_)
    ·refine bf ?_;refine Z6 ?_
     simp only [*,↓reduceIte,A8,Aq,At] at href
     exact Ci
    refine Ja ?_;refine be ?_
    simp only [*,↓reduceIte,A8,Aq,At] at href
    exact Ci
   refine Z19 ?_;refine vz ?_
   refine A1 (fun ht285=>?_) (fun ht285=>?_)
   ·refine Z72 ?_
    simp only [*,↓reduceIte,A8,Aq,At] at href
    exact Ci
   refine Yl ?_;refine A0 [3,6,10,16,21] ?_;refine Z76 ?_;refine A0 [3,6,10,16,21,293] ?_
   refine A1 (fun ht293=>?_) (fun ht293=>?_)
   ·obtain ⟨m1,hm1⟩:∃m1:Int,m1=(Ab c l (x.kids.getD 1 Af)).1.n:=⟨_,rfl⟩
    refine Z28 ?_;refine A0 [3,6,10,16,21] ?_;refine Dk ?_;refine Z27 ?_;refine A0 [3,6,10,21,298] ?_
    refine A1 (fun ht298=>?_) (fun ht298=>?_)
    ·obtain ⟨n0,hI0⟩:∃n0:Nat,n0=0:=⟨_,rfl⟩
     have hcl:G6 (Ab c l (x.kids.getD 1 Af)).1.n (((Ab c l (x.kids.getD 0 Af)).1.s.length:Nat):Int)=((n0:Nat):Int):=by rw [hI0];exact Tc ht298
     have hI:((n0:Nat):Int)=0:=by omega
     have hn0l:n0≤(Ab c l (x.kids.getD 0 Af)).1.s.length:=by omega
     refine Z51 ?_;refine w5 ?_;refine Z52 ?_
     refine R.wk 21 (A5 (n0:Nat)) (by first|(rw [hI,hm1];exact Le.refl _)|(rw [hI];exact Le.refl _)) ?_
     refine az ?_
     refine A1 (fun ht301=>?_) (fun ht301=>?_)
     ·refine Z18 ?_
      refine A2 (h:=K7 n0 (fun _=>Ah _) (fun _=>hn0l)) (hr:=?_)
      refine U7 ?_
      simp only [ht23,ht29,ht55,ht78,ht132,ht135,ht141,ht156,ht186,ht198,ht209,ht213,ht223,ht237,ht248,ht259,ht263,ht269,ht285,ht293,ht298,ht301,↓reduceIte,A8,Aq,At,Kd,G5,Bl,hcl,Int.toNat_natCast] at href
      exact Ci
     refine bc ?_
     refine A2 (h:=J8 (h1:=fun _=>by omega) (h2:=fun _=>by have:=fa.len;omega)) (hr:=?_)
     rw [show (((Ab c l (x.kids.getD 0 Af)).1.s.length:Int)-(n0:Int))=(((Ab c l (x.kids.getD 0 Af)).1.s.length-n0:Nat):Int) by omega]
     refine A2 (h:=K8 ((Ab c l (x.kids.getD 0 Af)).1.s.length-n0) (fun _=>show (Ab c l (x.kids.getD 0 Af)).1.s.length-n0≤(Ab c l (x.kids.getD 0 Af)).1.s.length by omega) (fun _=>Ao _)) (hr:=?_)
     refine bg ?_
     simp only [ht23,ht29,ht55,ht78,ht132,ht135,ht141,ht156,ht186,ht198,ht209,ht213,ht223,ht237,ht248,ht259,ht263,ht269,ht285,ht293,ht298,ht301,↓reduceIte,A8,Aq,At,Kd,G5,Bl,hcl,Int.toNat_natCast] at href
     exact Ci
    obtain ⟨n0,hI⟩:∃n0:Nat,(n0:Int)=m1:=⟨m1.toNat,by have:=of_decide_eq_false ht298;omega⟩
    have hcl:G6 (Ab c l (x.kids.getD 1 Af)).1.n (((Ab c l (x.kids.getD 0 Af)).1.s.length:Nat):Int)=((n0:Nat):Int):=by rw [hI,hm1];first|exact Td ht298 ht293|exact Te ht298 ht293
    have hn0l:n0≤(Ab c l (x.kids.getD 0 Af)).1.s.length:=by first|(have:=of_decide_eq_true ht293;omega)|(have:=of_decide_eq_false ht293;omega)
    refine Z3 ?_;refine Z52 ?_
    refine R.wk 21 (A5 (n0:Nat)) (by first|(rw [hI,hm1];exact Le.refl _)|(rw [hI];exact Le.refl _)) ?_
    refine az ?_
    refine A1 (fun ht301=>?_) (fun ht301=>?_)
    ·refine Z18 ?_
     refine A2 (h:=K7 n0 (fun _=>Ah _) (fun _=>hn0l)) (hr:=?_)
     refine U7 ?_
     simp only [ht23,ht29,ht55,ht78,ht132,ht135,ht141,ht156,ht186,ht198,ht209,ht213,ht223,ht237,ht248,ht259,ht263,ht269,ht285,ht293,ht298,ht301,↓reduceIte,A8,Aq,At,Kd,G5,Bl,hcl,Int.toNat_natCast] at href
     exact Ci
    refine bc ?_
    refine A2 (h:=J8 (h1:=fun _=>by omega) (h2:=fun _=>by have:=fa.len;omega)) (hr:=?_)
    rw [show (((Ab c l (x.kids.getD 0 Af)).1.s.length:Int)-(n0:Int))=(((Ab c l (x.kids.getD 0 Af)).1.s.length-n0:Nat):Int) by omega]
    refine A2 (h:=K8 ((Ab c l (x.kids.getD 0 Af)).1.s.length-n0) (fun _=>show (Ab c l (x.kids.getD 0 Af)).1.s.length-n0≤(Ab c l (x.kids.getD 0 Af)).1.s.length by omega) (fun _=>Ao _)) (hr:=?_)
    refine bg ?_
    simp only [ht23,ht29,ht55,ht78,ht132,ht135,ht141,ht156,ht186,ht198,ht209,ht213,ht223,ht237,ht248,ht259,ht263,ht269,ht285,ht293,ht298,ht301,↓reduceIte,A8,Aq,At,Kd,G5,Bl,hcl,Int.toNat_natCast] at href
    exact Ci
   obtain ⟨m1,hm1⟩:∃m1:Int,m1=(((Ab c l (x.kids.getD 0 Af)).1.s.length:Nat):Int):=⟨_,rfl⟩
   refine Z66 ?_;refine A0 [3,6,10,21,298] ?_
   refine A1 (fun ht298=>?_) (fun ht298=>?_)
   ·obtain ⟨n0,hI0⟩:∃n0:Nat,n0=0:=⟨_,rfl⟩
    have hcl:G6 (Ab c l (x.kids.getD 1 Af)).1.n (((Ab c l (x.kids.getD 0 Af)).1.s.length:Nat):Int)=((n0:Nat):Int):=by rw [hI0];exact Tc ht298
    have hI:((n0:Nat):Int)=0:=by omega
    have hn0l:n0≤(Ab c l (x.kids.getD 0 Af)).1.s.length:=by omega
    refine Z51 ?_;refine w5 ?_;refine Z52 ?_
    refine R.wk 21 (A5 (n0:Nat)) (by first|(rw [hI,hm1];exact Le.refl _)|(rw [hI];exact Le.refl _)) ?_
    refine az ?_
    refine A1 (fun ht301=>?_) (fun ht301=>?_)
    ·refine Z18 ?_
     refine A2 (h:=K7 n0 (fun _=>Ah _) (fun _=>hn0l)) (hr:=?_)
     refine U7 ?_
     simp only [ht23,ht29,ht55,ht78,ht132,ht135,ht141,ht156,ht186,ht198,ht209,ht213,ht223,ht237,ht248,ht259,ht263,ht269,ht285,ht293,ht298,ht301,↓reduceIte,A8,Aq,At,Kd,G5,Bl,hcl,Int.toNat_natCast] at href
     exact Ci
    refine bc ?_
    refine A2 (h:=J8 (h1:=fun _=>by omega) (h2:=fun _=>by have:=fa.len;omega)) (hr:=?_)
    rw [show (((Ab c l (x.kids.getD 0 Af)).1.s.length:Int)-(n0:Int))=(((Ab c l (x.kids.getD 0 Af)).1.s.length-n0:Nat):Int) by omega]
    refine A2 (h:=K8 ((Ab c l (x.kids.getD 0 Af)).1.s.length-n0) (fun _=>show (Ab c l (x.kids.getD 0 Af)).1.s.length-n0≤(Ab c l (x.kids.getD 0 Af)).1.s.length by omega) (fun _=>Ao _)) (hr:=?_)
    refine bg ?_
    simp only [ht23,ht29,ht55,ht78,ht132,ht135,ht141,ht156,ht186,ht198,ht209,ht213,ht223,ht237,ht248,ht259,ht263,ht269,ht285,ht293,ht298,ht301,↓reduceIte,A8,Aq,At,Kd,G5,Bl,hcl,Int.toNat_natCast] at href
    exact Ci
   obtain ⟨n0,hI⟩:∃n0:Nat,(n0:Int)=m1:=⟨m1.toNat,by have:=of_decide_eq_false ht298;omega⟩
   have hcl:G6 (Ab c l (x.kids.getD 1 Af)).1.n (((Ab c l (x.kids.getD 0 Af)).1.s.length:Nat):Int)=((n0:Nat):Int):=by rw [hI,hm1];first|exact Td ht298 ht293|exact Te ht298 ht293
   have hn0l:n0≤(Ab c l (x.kids.getD 0 Af)).1.s.length:=by first|(have:=of_decide_eq_true ht293;omega)|(have:=of_decide_eq_false ht293;omega)
   refine Z3 ?_;refine Z52 ?_
   refine R.wk 21 (A5 (n0:Nat)) (by first|(rw [hI,hm1];exact Le.refl _)|(rw [hI];exact Le.refl _)) ?_
   refine az ?_
   refine A1 (fun ht301=>?_) (fun ht301=>?_)
   ·refine Z18 ?_
    refine A2 (h:=K7 n0 (fun _=>Ah _) (fun _=>hn0l)) (hr:=?_)
    refine U7 ?_
    simp only [ht23,ht29,ht55,ht78,ht132,ht135,ht141,ht156,ht186,ht198,ht209,ht213,ht223,ht237,ht248,ht259,ht263,ht269,ht285,ht293,ht298,ht301,↓reduceIte,A8,Aq,At,Kd,G5,Bl,hcl,Int.toNat_natCast] at href
    exact Ci
   refine bc ?_
   refine A2 (h:=J8 (h1:=fun _=>by omega) (h2:=fun _=>by have:=fa.len;omega)) (hr:=?_)
   rw [show (((Ab c l (x.kids.getD 0 Af)).1.s.length:Int)-(n0:Int))=(((Ab c l (x.kids.getD 0 Af)).1.s.length-n0:Nat):Int) by omega]
   refine A2 (h:=K8 ((Ab c l (x.kids.getD 0 Af)).1.s.length-n0) (fun _=>show (Ab c l (x.kids.getD 0 Af)).1.s.length-n0≤(Ab c l (x.kids.getD 0 Af)).1.s.length by omega) (fun _=>Ao _)) (hr:=?_)
   refine bg ?_
   simp only [ht23,ht29,ht55,ht78,ht132,ht135,ht141,ht156,ht186,ht198,ht209,ht213,ht223,ht237,ht248,ht259,ht263,ht269,ht285,ht293,ht298,ht301,↓reduceIte,A8,Aq,At,Kd,G5,Bl,hcl,Int.toNat_natCast] at href
   exact Ci
  rw [Am] at ht186
  refine Mt ?_;refine vo ?_
  refine A1 (fun ht209=>?_) (fun ht209=>?_)
  ·refine Z72 ?_
   simp only [*,↓reduceIte,A8,Aq,At] at href
   exact Ci
  refine vq ?_
  refine A1 (fun ht213=>?_) (fun ht213=>?_)
  ·exact AF6
  refine vr ?_
  refine A1 (fun ht223=>?_) (fun ht223=>?_)
  ·refine w6 ?_
   refine A1 (fun ht226=>?_) (fun ht226=>?_)
   ·refine Ms ?_
    simp only [*,↓reduceIte,A8,Aq,At] at href
    exact Ci
   refine Z84 ?_;refine vk ?_;refine g7 ?_
   simp only [*,↓reduceIte,A8,Aq,At] at href
   exact Ci
  refine vt ?_
  refine A1 (fun ht237=>?_) (fun ht237=>?_)
  ·refine w7 ?_
   refine A1 (fun ht240=>?_) (fun ht240=>?_)
   ·refine Ms ?_
    simp only [*,↓reduceIte,A8,Aq,At] at href
    exact Ci
   refine Z77 ?_;refine m5 ?_
   simp only [*,↓reduceIte,A8,Aq,At] at href
   exact Ci
  refine vu ?_
  refine A1 (fun ht248=>?_) (fun ht248=>?_)
  ·refine w8 ?_
   refine A1 (fun ht251=>?_) (fun ht251=>?_)
   ·refine Ms ?_
    simp only [*,↓reduceIte,A8,Aq,At] at href
    exact Ci
   refine Z84 ?_;refine vf ?_
   simp only [*,↓reduceIte,A8,Aq,At] at href
   exact Ci
  refine vw ?_
  refine A1 (fun ht259=>?_) (fun ht259=>?_)
  ·refine Z72 ?_
   simp only [*,↓reduceIte,A8,Aq,At] at href
   exact Ci
  refine vp ?_;refine vn ?_
  refine A1 (fun ht263=>?_) (fun ht263=>?_)
  ·refine Z18 ?_;refine be ?_
   simp only [*,↓reduceIte,A8,Aq,At] at href
   exact Ci
  refine w4 ?_
  refine A1 (fun ht269=>?_) (fun ht269=>?_)
  ·refine Z1 ?_
   refine A6 Tryz.call65 (c65 (Ab c l (x.kids.getD 0 Af)).1.s (by have:=fa.len;omega) _) ?_
   refine Z67 ?_;refine w9 ?_
   refine A1 (fun ht278=>?_) (fun ht278=>?_)
   ·refine bf ?_;refine Z6 ?_
    simp only [*,↓reduceIte,A8,Aq,At] at href
    exact Ci
   refine Ja ?_;refine be ?_
   simp only [*,↓reduceIte,A8,Aq,At] at href
   exact Ci
  refine Z19 ?_;refine vz ?_
  refine A1 (fun ht285=>?_) (fun ht285=>?_)
  ·refine Z72 ?_
   simp only [*,↓reduceIte,A8,Aq,At] at href
   exact Ci
  exact absurd ht285 (by decide)
 refine Z3 ?_;refine Z48 ?_;refine Z34 ?_;refine A0 [1,2,3,6,8,10,16] ?_;refine Z76 ?_;refine A0 [1,2,3,6,8,10,16,186] ?_
 refine A1 (fun ht186=>?_) (fun ht186=>?_)
 ·rw [Am] at ht186
  have hk1:1<x.kids.length:=by simp only [beq_iff_eq] at ht186;omega
  refine Z1 ?_
  refine A2 (h:=A9 (1) (Al (x.kids.getD 1 Af)) (fun _=>Ji hk1)) (hr:=?_)
  refine vi ?_;refine Pt ?_;refine A0 [3,6,8,10,16,17,18] ?_;refine Z8 ?_;refine A0 [3,6,8,10,16,17,18,198] ?_
  refine A1 (fun ht198=>?_) (fun ht198=>?_)
  ·refine bf ?_;refine C4 ?_
   simp only [*,↓reduceIte,A8,Aq,At] at href
   exact Ci
  have fb:=(hfe _ (Ln hk1)).1
  refine Z3 ?_;refine Z51 ?_;refine F9 ?_;refine A0 [3,6,8,10,16] ?_;refine Dk ?_;refine Z8 ?_;refine vo ?_
  refine A1 (fun ht209=>?_) (fun ht209=>?_)
  ·refine Z72 ?_
   simp only [*,↓reduceIte,A8,Aq,At] at href
   exact Ci
  refine vq ?_
  refine A1 (fun ht213=>?_) (fun ht213=>?_)
  ·have h79:=h78 ht213
   refine Z39 ?_
   refine A6 Tryz.call60 (c60 x.text (Ab c l (x.kids.getD 0 Af)).1 (Ab c l (x.kids.getD 1 Af)).1 fa fb (by have:=fa.len;omega) (by have:=fb.len;omega) _) ?_
   refine g7 ?_
   simp only [*,↓reduceIte,A8,Aq,At,h79,B5] at href
   exact Ci
  refine vr ?_
  refine A1 (fun ht223=>?_) (fun ht223=>?_)
  ·refine w6 ?_
   refine A1 (fun ht226=>?_) (fun ht226=>?_)
   ·refine Ms ?_
    simp only [*,↓reduceIte,A8,Aq,At] at href
    exact Ci
   refine Z84 ?_;refine vk ?_;refine g7 ?_
   simp only [*,↓reduceIte,A8,Aq,At] at href
   exact Ci
  refine vt ?_
  refine A1 (fun ht237=>?_) (fun ht237=>?_)
  ·refine w7 ?_
   refine A1 (fun ht240=>?_) (fun ht240=>?_)
   ·refine Ms ?_
    simp only [*,↓reduceIte,A8,Aq,At] at href
    exact Ci
   refine Z77 ?_;refine m5 ?_
   simp only [*,↓reduceIte,A8,Aq,At] at href
   exact Ci
  refine vu ?_
  refine A1 (fun ht248=>?_) (fun ht248=>?_)
  ·refine w8 ?_
   refine A1 (fun ht251=>?_) (fun ht251=>?_)
   ·refine Ms ?_
    simp only [*,↓reduceIte,A8,Aq,At] at href
    exact Ci
   refine Z84 ?_;refine vf ?_
   simp only [*,↓reduceIte,A8,Aq,At] at href
   exact Ci
  refine vw ?_
  refine A1 (fun ht259=>?_) (fun ht259=>?_)
  ·refine Z72 ?_
   simp only [*,↓reduceIte,A8,Aq,At] at href
   exact Ci
  refine vp ?_;refine vn ?_
  refine A1 (fun ht263=>?_) (fun ht263=>?_)
  ·refine Z18 ?_;refine be ?_
   simp only [*,↓reduceIte,A8,Aq,At] at href
   exact Ci
  refine w4 ?_
  refine A1 (fun ht269=>?_) (fun ht269=>?_)
  ·refine Z1 ?_
   refine A6 Tryz.call65 (c65 (Ab c l (x.kids.getD 0 Af)).1.s (by have:=fa.len;omega) _) ?_
   refine Z67 ?_;refine w9 ?_
   refine A1 (fun ht278=>?_) (fun ht278=>?_)
   ·refine bf ?_;refine Z6 ?_
    simp only [*,↓reduceIte,A8,Aq,At] at href
    exact Ci
   refine Ja ?_;refine be ?_
   simp only [*,↓reduceIte,A8,Aq,At] at href
   exact Ci
  refine Z19 ?_;refine vz ?_
  refine A1 (fun ht285=>?_) (fun ht285=>?_)
  ·refine Z72 ?_
   simp only [*,↓reduceIte,A8,Aq,At] at href
   exact Ci
  refine Yl ?_;refine A0 [3,6,10,16,21] ?_;refine Z76 ?_;refine A0 [3,6,10,16,21,293] ?_
  refine A1 (fun ht293=>?_) (fun ht293=>?_)
  ·obtain ⟨m1,hm1⟩:∃m1:Int,m1=(Ab c l (x.kids.getD 1 Af)).1.n:=⟨_,rfl⟩
   refine Z28 ?_;refine A0 [3,6,10,16,21] ?_;refine Dk ?_;refine Z27 ?_;refine A0 [3,6,10,21,298] ?_
   refine A1 (fun ht298=>?_) (fun ht298=>?_)
   ·obtain ⟨n0,hI0⟩:∃n0:Nat,n0=0:=⟨_,rfl⟩
    have hcl:G6 (Ab c l (x.kids.getD 1 Af)).1.n (((Ab c l (x.kids.getD 0 Af)).1.s.length:Nat):Int)=((n0:Nat):Int):=by rw [hI0];exact Tc ht298
    have hI:((n0:Nat):Int)=0:=by omega
    have hn0l:n0≤(Ab c l (x.kids.getD 0 Af)).1.s.length:=by omega
    refine Z51 ?_;refine w5 ?_;refine Z52 ?_
    refine R.wk 21 (A5 (n0:Nat)) (by first|(rw [hI,hm1];exact Le.refl _)|(rw [hI];exact Le.refl _)) ?_
    refine az ?_
    refine A1 (fun ht301=>?_) (fun ht301=>?_)
    ·refine Z18 ?_
     refine A2 (h:=K7 n0 (fun _=>Ah _) (fun _=>hn0l)) (hr:=?_)
     refine U7 ?_
     simp only [ht23,ht29,ht55,ht78,ht132,ht186,ht198,ht209,ht213,ht223,ht237,ht248,ht259,ht263,ht269,ht285,ht293,ht298,ht301,↓reduceIte,A8,Aq,At,Kd,G5,Bl,hcl,Int.toNat_natCast] at href
     exact Ci
    refine bc ?_
    refine A2 (h:=J8 (h1:=fun _=>by omega) (h2:=fun _=>by have:=fa.len;omega)) (hr:=?_)
    rw [show (((Ab c l (x.kids.getD 0 Af)).1.s.length:Int)-(n0:Int))=(((Ab c l (x.kids.getD 0 Af)).1.s.length-n0:Nat):Int) by omega]
    refine A2 (h:=K8 ((Ab c l (x.kids.getD 0 Af)).1.s.length-n0) (fun _=>show (Ab c l (x.kids.getD 0 Af)).1.s.length-n0≤(Ab c l (x.kids.getD 0 Af)).1.s.length by omega) (fun _=>Ao _)) (hr:=?_)
    refine bg ?_
    simp only [ht23,ht29,ht55,ht78,ht132,ht186,ht198,ht209,ht213,ht223,ht237,ht248,ht259,ht263,ht269,ht285,ht293,ht298,ht301,↓reduceIte,A8,Aq,At,Kd,G5,Bl,hcl,Int.toNat_natCast] at href
    exact Ci
   obtain ⟨n0,hI⟩:∃n0:Nat,(n0:Int)=m1:=⟨m1.toNat,by have:=of_decide_eq_false ht298;omega⟩
   have hcl:G6 (Ab c l (x.kids.getD 1 Af)).1.n (((Ab c l (x.kids.getD 0 Af)).1.s.length:Nat):Int)=((n0:Nat):Int):=by rw [hI,hm1];first|exact Td ht298 ht293|exact Te ht298 ht293
   have hn0l:n0≤(Ab c l (x.kids.getD 0 Af)).1.s.length:=by first|(have:=of_decide_eq_true ht293;omega)|(have:=of_decide_eq_false ht293;omega)
   refine Z3 ?_;refine Z52 ?_
   refine R.wk 21 (A5 (n0:Nat)) (by first|(rw [hI,hm1];exact Le.refl _)|(rw [hI];exact Le.refl _)) ?_
   refine az ?_
   refine A1 (fun ht301=>?_) (fun ht301=>?_)
   ·refine Z18 ?_
    refine A2 (h:=K7 n0 (fun _=>Ah _) (fun _=>hn0l)) (hr:=?_)
    refine U7 ?_
    simp only [ht23,ht29,ht55,ht78,ht132,ht186,ht198,ht209,ht213,ht223,ht237,ht248,ht259,ht263,ht269,ht285,ht293,ht298,ht301,↓reduceIte,A8,Aq,At,Kd,G5,Bl,hcl,Int.toNat_natCast] at href
    exact Ci
   refine bc ?_
   refine A2 (h:=J8 (h1:=fun _=>by omega) (h2:=fun _=>by have:=fa.len;omega)) (hr:=?_)
   rw [show (((Ab c l (x.kids.getD 0 Af)).1.s.length:Int)-(n0:Int))=(((Ab c l (x.kids.getD 0 Af)).1.s.length-n0:Nat):Int) by omega]
   refine A2 (h:=K8 ((Ab c l (x.kids.getD 0 Af)).1.s.length-n0) (fun _=>show (Ab c l (x.kids.getD 0 Af)).1.s.length-n0≤(Ab c l (x.kids.getD 0 Af)).1.s.length by omega) (fun _=>Ao _)) (hr:=?_)
   refine bg ?_
   simp only [ht23,ht29,ht55,ht78,ht132,ht186,ht198,ht209,ht213,ht223,ht237,ht248,ht259,ht263,ht269,ht285,ht293,ht298,ht301,↓reduceIte,A8,Aq,At,Kd,G5,Bl,hcl,Int.toNat_natCast] at href
   exact Ci
  obtain ⟨m1,hm1⟩:∃m1:Int,m1=(((Ab c l (x.kids.getD 0 Af)).1.s.length:Nat):Int):=⟨_,rfl⟩
  refine Z66 ?_;refine A0 [3,6,10,21,298] ?_
  refine A1 (fun ht298=>?_) (fun ht298=>?_)
  ·obtain ⟨n0,hI0⟩:∃n0:Nat,n0=0:=⟨_,rfl⟩
   have hcl:G6 (Ab c l (x.kids.getD 1 Af)).1.n (((Ab c l (x.kids.getD 0 Af)).1.s.length:Nat):Int)=((n0:Nat):Int):=by rw [hI0];exact Tc ht298
   have hI:((n0:Nat):Int)=0:=by omega
   have hn0l:n0≤(Ab c l (x.kids.getD 0 Af)).1.s.length:=by omega
   refine Z51 ?_;refine w5 ?_;refine Z52 ?_
   refine R.wk 21 (A5 (n0:Nat)) (by first|(rw [hI,hm1];exact Le.refl _)|(rw [hI];exact Le.refl _)) ?_
   refine az ?_
   refine A1 (fun ht301=>?_) (fun ht301=>?_)
   ·refine Z18 ?_
    refine A2 (h:=K7 n0 (fun _=>Ah _) (fun _=>hn0l)) (hr:=?_)
    refine U7 ?_
    simp only [ht23,ht29,ht55,ht78,ht132,ht186,ht198,ht209,ht213,ht223,ht237,ht248,ht259,ht263,ht269,ht285,ht293,ht298,ht301,↓reduceIte,A8,Aq,At,Kd,G5,Bl,hcl,Int.toNat_natCast] at href
    exact Ci
   refine bc ?_
   refine A2 (h:=J8 (h1:=fun _=>by omega) (h2:=fun _=>by have:=fa.len;omega)) (hr:=?_)
   rw [show (((Ab c l (x.kids.getD 0 Af)).1.s.length:Int)-(n0:Int))=(((Ab c l (x.kids.getD 0 Af)).1.s.length-n0:Nat):Int) by omega]
   refine A2 (h:=K8 ((Ab c l (x.kids.getD 0 Af)).1.s.length-n0) (fun _=>show (Ab c l (x.kids.getD 0 Af)).1.s.length-n0≤(Ab c l (x.kids.getD 0 Af)).1.s.length by omega) (fun _=>Ao _)) (hr:=?_)
   refine bg ?_
   simp only [ht23,ht29,ht55,ht78,ht132,ht186,ht198,ht209,ht213,ht223,ht237,ht248,ht259,ht263,ht269,ht285,ht293,ht298,ht301,↓reduceIte,A8,Aq,At,Kd,G5,Bl,hcl,Int.toNat_natCast] at href
   exact Ci
  obtain ⟨n0,hI⟩:∃n0:Nat,(n0:Int)=m1:=⟨m1.toNat,by have:=of_decide_eq_false ht298;omega⟩
  have hcl:G6 (Ab c l (x.kids.getD 1 Af)).1.n (((Ab c l (x.kids.getD 0 Af)).1.s.length:Nat):Int)=((n0:Nat):Int):=by rw [hI,hm1];first|exact Td ht298 ht293|exact Te ht298 ht293
  have hn0l:n0≤(Ab c l (x.kids.getD 0 Af)).1.s.length:=by first|(have:=of_decide_eq_true ht293;omega)|(have:=of_decide_eq_false ht293;omega)
  refine Z3 ?_;refine Z52 ?_
  refine R.wk 21 (A5 (n0:Nat)) (by first|(rw [hI,hm1];exact Le.refl _)|(rw [hI];exact Le.refl _)) ?_
  refine az ?_
  refine A1 (fun ht301=>?_) (fun ht301=>?_)
  ·refine Z18 ?_
   refine A2 (h:=K7 n0 (fun _=>Ah _) (fun _=>hn0l)) (hr:=?_)
   refine U7 ?_
   simp only [ht23,ht29,ht55,ht78,ht132,ht186,ht198,ht209,ht213,ht223,ht237,ht248,ht259,ht263,ht269,ht285,ht293,ht298,ht301,↓reduceIte,A8,Aq,At,Kd,G5,Bl,hcl,Int.toNat_natCast] at href
   exact Ci
  refine bc ?_
  refine A2 (h:=J8 (h1:=fun _=>by omega) (h2:=fun _=>by have:=fa.len;omega)) (hr:=?_)
  rw [show (((Ab c l (x.kids.getD 0 Af)).1.s.length:Int)-(n0:Int))=(((Ab c l (x.kids.getD 0 Af)).1.s.length-n0:Nat):Int) by omega]
  refine A2 (h:=K8 ((Ab c l (x.kids.getD 0 Af)).1.s.length-n0) (fun _=>show (Ab c l (x.kids.getD 0 Af)).1.s.length-n0≤(Ab c l (x.kids.getD 0 Af)).1.s.length by omega) (fun _=>Ao _)) (hr:=?_)
  refine bg ?_
  simp only [ht23,ht29,ht55,ht78,ht132,ht186,ht198,ht209,ht213,ht223,ht237,ht248,ht259,ht263,ht269,ht285,ht293,ht298,ht301,↓reduceIte,A8,Aq,At,Kd,G5,Bl,hcl,Int.toNat_natCast] at href
  exact Ci
 rw [Am] at ht186
 refine Mt ?_;refine vo ?_
 refine A1 (fun ht209=>?_) (fun ht209=>?_)
 ·refine Z72 ?_
  simp only [*,↓reduceIte,A8,Aq,At] at href
  exact Ci
 refine vq ?_
 refine A1 (fun ht213=>?_) (fun ht213=>?_)
 ·exact absurd (k5 (eq_of_beq ht213)) (by simp at ht186;omega)
 refine vr ?_
 refine A1 (fun ht223=>?_) (fun ht223=>?_)
 ·refine w6 ?_
  refine A1 (fun ht226=>?_) (fun ht226=>?_)
  ·refine Ms ?_
   simp only [*,↓reduceIte,A8,Aq,At] at href
   exact Ci
  refine Z84 ?_;refine vk ?_;refine g7 ?_
  simp only [*,↓reduceIte,A8,Aq,At] at href
  exact Ci
 refine vt ?_
 refine A1 (fun ht237=>?_) (fun ht237=>?_)
 ·refine w7 ?_
  refine A1 (fun ht240=>?_) (fun ht240=>?_)
  ·refine Ms ?_
   simp only [*,↓reduceIte,A8,Aq,At] at href
   exact Ci
  refine Z77 ?_;refine m5 ?_
  simp only [*,↓reduceIte,A8,Aq,At] at href
  exact Ci
 refine vu ?_
 refine A1 (fun ht248=>?_) (fun ht248=>?_)
 ·refine w8 ?_
  refine A1 (fun ht251=>?_) (fun ht251=>?_)
  ·refine Ms ?_
   simp only [*,↓reduceIte,A8,Aq,At] at href
   exact Ci
  refine Z84 ?_;refine vf ?_
  simp only [*,↓reduceIte,A8,Aq,At] at href
  exact Ci
 refine vw ?_
 refine A1 (fun ht259=>?_) (fun ht259=>?_)
 ·refine Z72 ?_
  simp only [*,↓reduceIte,A8,Aq,At] at href
  exact Ci
 refine vp ?_;refine vn ?_
 refine A1 (fun ht263=>?_) (fun ht263=>?_)
 ·refine Z18 ?_;refine be ?_
  simp only [*,↓reduceIte,A8,Aq,At] at href
  exact Ci
 refine w4 ?_
 refine A1 (fun ht269=>?_) (fun ht269=>?_)
 ·refine Z1 ?_
  refine A6 Tryz.call65 (c65 (Ab c l (x.kids.getD 0 Af)).1.s (by have:=fa.len;omega) _) ?_
  refine Z67 ?_;refine w9 ?_
  refine A1 (fun ht278=>?_) (fun ht278=>?_)
  ·refine bf ?_;refine Z6 ?_
   simp only [*,↓reduceIte,A8,Aq,At] at href
   exact Ci
  refine Ja ?_;refine be ?_
  simp only [*,↓reduceIte,A8,Aq,At] at href
  exact Ci
 refine Z19 ?_;refine vz ?_
 refine A1 (fun ht285=>?_) (fun ht285=>?_)
 ·refine Z72 ?_
  simp only [*,↓reduceIte,A8,Aq,At] at href
  exact Ci
 exact absurd ht285 (by decide)

set_option maxRecDepth 8000
/-! The document's kinds of trees are infer's. -/
def Ee (k w:Int):Bool:=(k==0) || (k==w)
def Ds (o:Int) (t:Str) (ks:List Int):Int×Bool:=
 if o==3 then (1,Ee (ks.getD 0 0) 1) else if o==4 then (3,Ee (ks.getD 0 0) 3)
 else if (o==5)&&((t==[111,114]) || (t==[97,110,100])) then (3,Ee (ks.getD 0 0) 3&&Ee (ks.getD 1 0) 3)
 else if (o==5)&&(D4 t==3) then (3,(ks.getD 0 0==0) || Ee (ks.getD 1 0) (ks.getD 0 0))
 else if (o==5)&&(t==[38]) then (2,Ee (ks.getD 0 0) 2&&Ee (ks.getD 1 0) 2)
 else if o==5 then (1,Ee (ks.getD 0 0) 1&&Ee (ks.getD 1 0) 1)
 else if (t==[108,101,110]) || (t==[110,117,109]) then (1,Ee (ks.getD 0 0) 2)
 else if t==[115,116,114] then (2,Ee (ks.getD 0 0) 1)
 else if (t==[108,101,102,116]) || (t==[114,105,103,104,116]) then (2,Ee (ks.getD 0 0) 2&&Ee (ks.getD 1 0) 1)
 else if t==[105,115,110,117,108,108] then (3,true)
 else (if ks.getD (ks.length-2) 0==0 then ks.getD (ks.length-1) 0 else ks.getD (ks.length-2) 0,
  ((ks.getD (ks.length-2) 0==0) || Ee (ks.getD (ks.length-1) 0) (ks.getD (ks.length-2) 0))&&((t==[110,118,108]) || Ee (ks.getD 0 0) 3))
def Dq (o:Int) (t:Str) (ks:List Int):Int×Int:=if (Ds o t ks).2 then ((Ds o t ks).1,0) else (0,10)
theorem Nx (w k:Int) (hw:(w==0)=false):(Ex w k).2=Ee k w:=by
 unfold Ex Ee
 rw [hw]
 simp only [A8,if_false]
 by_cases h:(k==0)=true
 ·simp [h]
 have h':(k==0)=false:=by simpa using h
 rw [h']
 by_cases h2:w=k
 ·subst h2;simp
 have:¬k=w:=fun e=>h2 e.symm
 simp [h2,this]
theorem yr (t:Str):(D4 t==3)=((((((t==[61]) || (t==[33,61])) || (t==[60])) || (t==[60,61])) || (t==[62])) || (t==[62,61])):=by
 by_cases h:t∈[[61],[33,61],[60],[60,61],[62],[62,61]]
 ·simp only [C2,Fd,or_false] at h
  rcases h with rfl|rfl|rfl|rfl|rfl|rfl<;>rfl
 have e:((((((t==[61]) || (t==[33,61])) || (t==[60])) || (t==[60,61])) || (t==[62])) || (t==[62,61]))=false:=by
  simp only [C2,Fd,or_false,not_or] at h
  simp [h]
 rw [e]
 unfold D4
 split
 ·rename_i i hi
  rw [Hj] at hi
  obtain ⟨hl,hc,_⟩:=hi
  by_cases h3:i=3
  ·subst h3
   exact (h (by simp [levels] at hc;simpa using hc)).elim
  have:¬((i:Int)=3):=by omega
  simp [this]
 rfl
theorem kw {s:Sign} {a w:Int} (hk:s.kids=[w]) (hw:(w==0)=false) (h1:(w == -1)=false) (h2:(w == -2)=false) (ho:(s.own == -1)=false):If s [a]=if Ee a w then (s.own,0) else (0,10):=by
 unfold If
 rw [hk]
 simp only [Fu,h1,h2,A8,if_false,Nx w a hw]
 cases Ee a w<;>simp [ho]
theorem kx {s:Sign} {a b v w:Int} (hk:s.kids=[v,w]) (hv:(v==0)=false) (hv1:(v == -1)=false) (hv2:(v == -2)=false) (hw:(w==0)=false) (h1:(w == -1)=false) (h2:(w == -2)=false) (ho:(s.own == -1)=false):If s [a,b]=if Ee a v&&Ee b w then (s.own,0) else (0,10):=by
 unfold If
 rw [hk]
 simp only [Fu,hv1,hv2,h1,h2,A8,if_false,Nx w b hw,Nx v a hv]
 cases Ee a v<;>cases Ee b w<;>simp [ho]
theorem AAk {s:Sign} {a b:Int} (hk:s.kids=[-1, -1]):If s [a,b]=if (a==0) || Ee b a then (if s.own == -1 then (if a==0 then b else a,0) else (s.own,0)) else (0,10):=by
 unfold If Ee
 rw [hk]
 simp only [Fu,Ex]
 by_cases ha:a=0
 ·subst ha;simp
 by_cases hb:b=0
 ·subst hb;simp [ha]
 by_cases he:a=b
 ·subst he;simp [ha]
 have:¬b=a:=fun e=>he e.symm
 simp [ha,hb,he,this]
theorem ACc {s:Sign} {x a b:Int} (hk:s.kids=[3, -1, -1]):If s [x,a,b]=if ((a==0) || Ee b a)&&Ee x 3 then (if s.own == -1 then (if a==0 then b else a,0) else (s.own,0)) else (0,10):=by
 unfold If Ee
 rw [hk]
 simp only [Fu,Nx 3 x rfl,Ee]
 simp only [Ex]
 by_cases hx:((x==0) || (x==3))=true
 ·by_cases ha:a=0
  ·subst ha;simp [hx]
  by_cases hb:b=0
  ·subst hb;simp [ha,hx]
  by_cases he:a=b
  ·subst he;simp [ha,hx]
  have:¬b=a:=fun e=>he e.symm
  simp [ha,hb,he,this,hx]
 simp [hx]
theorem AGj {s:Sign} {x:Int} (hk:s.kids=[-2]) (ho:(s.own == -1)=false):If s [x]=(s.own,0):=by
 unfold If
 rw [hk]
 simp [Fu,ho]
theorem dj {ks:List Int} (h:ks.length=1):∃a,ks=[a]:=by
 match ks,h with
 | [a],_=>exact ⟨a,rfl⟩
theorem ua {ks:List Int} (h:ks.length=2):∃a b,ks=[a,b]:=by
 match ks,h with
 | [a,b],_=>exact ⟨a,b,rfl⟩
theorem AGk {ks:List Int} (h:ks.length=3):∃a b c,ks=[a,b,c]:=by
 match ks,h with
 | [a,b,c],_=>exact ⟨a,b,c,rfl⟩
theorem iy (t:Str) (a b:Int):Dq 5 t [a,b]=If (Cz t) [a,b]:=by
 unfold Dq Ds Cz
 simp only [yr,show ((5:Int)==3)=false from rfl,show ((5:Int)==4)=false from rfl,show ((5:Int)==5)=true from rfl,B5,A8,if_false]
 by_cases h1:((t==[111,114]) || (t==[97,110,100]))=true
 ·simp only [h1,if_true]
  rw [kx (v:=3) (w:=3) rfl rfl rfl rfl rfl rfl rfl rfl]
  rfl
 simp only [h1,if_false,A8]
 by_cases h2:((((((t==[61]) || (t==[33,61])) || (t==[60])) || (t==[60,61])) || (t==[62])) || (t==[62,61]))=true
 ·simp only [h2,if_true]
  rw [AAk rfl]
  rfl
 simp only [h2,if_false,A8]
 by_cases h3:(t==[38])=true
 ·simp only [h3,if_true]
  rw [kx (v:=2) (w:=2) rfl rfl rfl rfl rfl rfl rfl rfl]
  rfl
 simp only [h3,if_false,A8,if_true]
 rw [kx (v:=1) (w:=1) rfl rfl rfl rfl rfl rfl rfl rfl]
 rfl
theorem iz {t:Str} {ks:List Int} (h:(Dc t).kids.length=ks.length):Dq 6 t ks=If (Dc t) ks:=by
 unfold Dq Ds
 simp only [show ((6:Int)==3)=false from rfl,show ((6:Int)==4)=false from rfl,show ((6:Int)==5)=false from rfl,Bl,A8,if_false]
 unfold Dc at h ⊢
 by_cases h1:((t==[108,101,110]) || (t==[110,117,109]))=true
 ·simp only [h1,if_true] at h ⊢
  obtain ⟨a,rfl⟩:=dj h.symm
  rw [kw (w:=2) rfl rfl rfl rfl rfl]
  rfl
 simp only [h1,if_false,A8] at h ⊢
 by_cases h2:(t==[115,116,114])=true
 ·simp only [h2,if_true] at h ⊢
  obtain ⟨a,rfl⟩:=dj h.symm
  rw [kw (w:=1) rfl rfl rfl rfl rfl]
  rfl
 simp only [h2,if_false,A8] at h ⊢
 by_cases h3:((t==[108,101,102,116]) || (t==[114,105,103,104,116]))=true
 ·simp only [h3,if_true] at h ⊢
  obtain ⟨a,b,rfl⟩:=ua h.symm
  rw [kx (v:=2) (w:=1) rfl rfl rfl rfl rfl rfl rfl rfl]
  rfl
 simp only [h3,if_false,A8] at h ⊢
 by_cases h4:(t==[105,115,110,117,108,108])=true
 ·simp only [h4,if_true] at h ⊢
  obtain ⟨a,rfl⟩:=dj h.symm
  rw [AGj rfl rfl]
 simp only [h4,if_false,A8] at h ⊢
 by_cases h5:(t==[110,118,108])=true
 ·simp only [h5,if_true] at h ⊢
  obtain ⟨a,b,rfl⟩:=ua h.symm
  rw [AAk rfl]
  simp
 simp only [h5,if_false,A8] at h ⊢
 obtain ⟨a,b,c,rfl⟩:=AGk h.symm
 rw [ACc rfl]
 simp
theorem yt {e:Expr} (h:Do e=true) (h1:(e.op==1)=false) (h2:(e.op==2)=false) {ks:List Int} (hl:ks.length=e.kids.length):Dq e.op e.text ks=If (Hi e.op e.text) ks:=by
 have hs:=Ku h h1 h2
 unfold Hi at hs ⊢
 unfold Do at h
 rw [h1,h2] at h
 simp only [A8,if_false] at h
 by_cases h3:e.op=3
 ·rw [h3] at hs ⊢
  simp only [beq_self_eq_true,if_true] at hs ⊢
  obtain ⟨a,rfl⟩:=dj (by rw [hl,←hs];rfl)
  rw [kw (w:=1) rfl rfl rfl rfl rfl]
  rfl
 by_cases h4:e.op=4
 ·rw [h4] at hs ⊢
  obtain ⟨a,rfl⟩:=dj (by rw [hl,←hs];rfl)
  rw [show (if ((4:Int)==3)=true then (⟨[1],1⟩:Sign) else if ((4:Int)==4)=true then ⟨[3],3⟩ else if ((4:Int)==5)=true then Cz e.text else Dc e.text)=⟨[3],3⟩ from rfl,kw (w:=3) rfl rfl rfl rfl rfl]
  rfl
 by_cases h5:e.op=5
 ·rw [h5] at hs ⊢
  rw [show (if ((5:Int)==3)=true then (⟨[1],1⟩:Sign) else if ((5:Int)==4)=true then ⟨[3],3⟩ else if ((5:Int)==5)=true then Cz e.text else Dc e.text)=Cz e.text from rfl] at hs ⊢
  obtain ⟨a,b,rfl⟩:=ua (by rw [hl,←hs,P1])
  exact iy _ _ _
 have h6:e.op=6:=by
  simp [h3,h4,h5] at h
  exact h.1
 rw [h6] at hs ⊢
 rw [show (if ((6:Int)==3)=true then (⟨[1],1⟩:Sign) else if ((6:Int)==4)=true then ⟨[3],3⟩ else if ((6:Int)==5)=true then Cz e.text else Dc e.text)=Dc e.text from rfl] at hs ⊢
 exact iz (by rw [hs,hl])
/-! Moves: what mig.Right, sound.* and the document's layers 18, 19 answer. -/
structure Mov where
 kind:Int
 take:List Str
 give:List Col
 ahead:List Expr
 back:List Expr
abbrev Ih (l:List Expr):AV:=.slice false 6 (l.map Al)
abbrev Ke (m:Mov):List AV:=[A5 m.kind,Ew m.take,Ad m.give,Ih m.ahead,Ih m.back]
abbrev Fv (m:Mov):AV:=.agg (Ke m)
abbrev D6 (l:List Mov):AV:=.slice false 5 (l.map Fv)
/-- Trees that may be walked. -/
structure OkEs (l:List Expr):Prop where
 len:l.length≤1048576
 ok:∀e∈l,okE 61 e
 size:∀e∈l,sizeE e≤1048576
 rng:∀e∈l,E4 Jf e=true
structure OkMov (m:Mov):Prop where
 takes:m.take.length≤1048576
 names:∀s∈m.take,s.length≤1048576
 gives:OkCols m.give
 gives2:m.give.length≤1000000
 ahead:OkEs m.ahead
 back:OkEs m.back
structure OkMovs (l:List Mov):Prop where
 len:l.length≤1048576
 each:∀m∈l,OkMov m
def En (m:Mov):Bool:=
 if ((m.ahead.length:Int) != (m.give.length:Int)) || ((m.back.length:Int) != (m.take.length:Int)) then false
 else if m.kind==1 then ((m.take.length:Int)==0)&&((m.give.length:Int)==1)
 else if m.kind==2 then ((m.take.length:Int)==1)&&((m.give.length:Int)==0)
 else if (m.kind==3) || (m.kind==6) then ((m.take.length:Int)==1)&&((m.give.length:Int)==1)
 else if m.kind==4 then ((m.take.length:Int)==1)&&decide ((1:Int)<(m.give.length:Int))
 else if m.kind==5 then decide ((1:Int)<(m.take.length:Int))&&((m.give.length:Int)==1)
 else false
def Ht (m:Mov) (c:Col):Bool:=D9 c.name&&(((E3 c.kind==[])==(m.kind==3)) && !((m.kind==3)&&(c.kind != 0)))
def Jj (m:Mov):Bool:=
 if m.kind==3 then eqE (m.ahead.getD 0 Af) (Dt (m.take.getD 0 []))&&eqE (m.back.getD 0 Af) (Dt (m.give.getD 0 ⟨[],0⟩).name)
 else if m.kind==6 then m.take.getD 0 []==(m.give.getD 0 ⟨[],0⟩).name else true
def Ef (m:Mov):Bool:=(((((En m&&m.give.all (Ht m))&&m.take.all D9)&&m.ahead.all Bb)&&m.back.all Bb)&&Jj m)
def M5 (l:List Mov):Bool:=decide ((l.length:Int)≤8)&&l.all Ef
/-! Columns behind moves. -/
def Sa (e:Expr) (c:List Col) (w:Int):Bool:=((E0 e c).2==0)&&(((E0 e c).1==w) || ((E0 e c).1==0))
def B2 (c:List Col) (m:Mov):List Col:=
 if m.kind==3 then (if Bg (m.take.getD 0 []) c<0 then m.give else match m.give with
  | []=>[]
  | y::r=>⟨y.name,(c.getD (Bg (m.take.getD 0 []) c).toNat ⟨[],0⟩).kind⟩::r)
 else m.give
def Kx (e:Expr) (c:List Col) (w:Int):Int:=if (E0 e c).2 != 0 then (E0 e c).2 else if !Sa e c w then 10 else 0
def Cc (over:List Col):List Expr→List Col→Int
 | x::r,w::ws=>if Kx x over w.kind != 0 then Kx x over w.kind else Cc over r ws
 | _,_=>0
def Es (c:List Col) (m:Mov):List Col:=m.take.map fun s=>c.getD (Bg s c).toNat ⟨[],0⟩
def B4 (c:List Col) (m:Mov):List Col×Int:=
 if (Co c m.take (B2 c m)).2 != 0 then ([],(Co c m.take (B2 c m)).2)
 else if Cc c m.ahead (B2 c m) != 0 then ([],Cc c m.ahead (B2 c m))
 else if Cc (Co c m.take (B2 c m)).1 m.back (Es c m) != 0 then ([],Cc (Co c m.take (B2 c m)).1 m.back (Es c m))
 else ((Co c m.take (B2 c m)).1,0)
/-- The columns ahead of each move and behind the last one, till one is wrong; the error. -/
def Da (c:List Col):List Mov→List (List Col)×Int
 | []=>([c],0)
 | m::r=>if (B4 c m).2 != 0 then ([c],(B4 c m).2) else (c::(Da (B4 c m).1 r).1,(Da (B4 c m).1 r).2)
def Jk (c:List Col) (l:List Mov):Bool:=Ct c&&M5 l
/-- ref19.Steps. -/
def F6 (c:List Col) (l:List Mov):List (List Col)×Int:=if Jk c l then Da c l else ([],1)
/-- sound.Steps. -/
def Cd (c:List Col) (l:List Mov):List (List Col)×Int:=if (F6 c l).2 != 0 then ([],(F6 c l).2) else F6 c l
theorem Iv {m:Mov} (h:Ef m=true):En m=true:=by
 unfold Ef at h
 simp only [Ap] at h
 exact h.1.1.1.1.1
theorem Et {m:Mov} (h:En m=true):m.ahead.length=m.give.length∧m.back.length=m.take.length:=by
 unfold En at h
 split at h
 ·cases h
 rename_i h1
 simp only [Cu,bne_iff_ne,ne_eq,not_or,Classical.not_not] at h1
 omega
theorem N2 {m:Mov} (h:En m=true) (h3:((m.kind==3) || (m.kind==6))=true):m.take.length=1∧m.give.length=1:=by
 unfold En at h
 split at h
 ·cases h
 have h1:(m.kind==1)=false:=by simp at h3 ⊢;omega
 have h2:(m.kind==2)=false:=by simp at h3 ⊢;omega
 simp only [h1,h2,h3,if_true,if_false,A8,Ap,beq_iff_eq] at h
 omega
theorem H4 (c:List Col) (m:Mov):(B2 c m).length=m.give.length:=by
 unfold B2
 split
 ·split
  ·rfl
  split<;>simp_all
 rfl
set_option maxRecDepth 4000
theorem D7 {n k:Nat} {o:Bool} {l:List Col}:Low n (.slice o k (l.map Cb)):=by simp [or_imp,forall_and]
theorem yu {α β:Type} {f:α→β} {l:List α} {k:Nat} {y:α} (h:l[k]? = some y):(l.map f)[k]? = some (f y):=by rw [Cs,h];rfl
theorem c98 (c:List Col) (hc:OkCols c) (take:List Str) (ht:take.length≤1048576) (give:List Col) (hg:OkCols give) (hg2:give.length≤1000000) (Hp:List AObj):AFun Tryz.prog 98 [Ad c,Ew take,Ad give] Hp (.tup [Ad (Co c take give).1,A5 (Co c take give).2]):=by
 refine Ae [.tmp 6,.tmp 7] [0,1,2,9] Tryz.func98 Tryz.ntmps98 (fun d=>?_)
 refine Z1 ?_;refine A0 [0,1,2,9] ?_;refine Z32 ?_;refine A6 Tryz.call72 (c72 c hc _) ?_;refine A2 ?_;refine A0 [0,1,2,9,12] ?_
 refine A1 (fun ht12=>?_) (fun ht12=>?_)
 ·have hr:Ct c=false:=by rw [Ks] at ht12;simpa using ht12
  refine Ud ?_;exact ADi
 have hr:Ct c=true:=by rw [Ks] at ht12;simpa using ht12
 refine Mt ?_;refine A6 Tryz.call118 (AHg c hc take ht _) ?_;refine A2 ?_;refine A0 [0,1,2,9,16] ?_
 refine A1 (fun ht16=>?_) (fun ht16=>?_)
 ·have hk:Fg c take=false:=by simpa using ht16
  refine Ud ?_;refine Z26 ?_;exact A7 (Aj A3 A3) ⟨by rw [ic hr hk];try rfl,rfl⟩
 have hk:Fg c take=true:=by simpa using ht16
 refine Z3 ?_;refine Z98 ?_;refine A0 [0,1,2,8,9] ?_;refine Z52 ?_;refine R.nilOwn 0 2 ?_
 refine Qs (fun hlow=>?_)
 refine Z0 ?_;refine A6 Tryz.call119 (AHi c take _) ?_;refine A0 [2,8,9,19] ?_;refine Ii ?_
 refine W.rangeV (m:=1) Tryz.call141 (fun FR as' bd' hFR has hbd=>?_)
 have hFRl:∀s,Low (Hp.length+3) (FR s):=by
  intro s
  rw [hFR]
  refine Y8 ?_
  revert s
  repeat (first|exact Bd|refine Bc (by simp [oid,or_imp,forall_and]<;>try omega) ?_)
 have hOl:∀{k:Nat},∀x∈[AObj.cells 22 [.slice true 2 ((C1 (c.take k) take).map Cb)],AObj.defs,AObj.loop LoopState.ready none FR 41 #[20] as' bd' (oid Hp.length 1)],ObjLow (Hp.length+3) x:=by
  intro k x hx
  simp only [C2,Fd,or_false] at hx
  rcases hx with rfl|rfl|rfl
  ·intro y hy
   rw [Bz.1 hy]
   exact D7
  ·trivial
  exact ⟨hFRl,by simp [oid]⟩
 refine ⟨_,AHj (oid Hp.length 2) c take hc.len ht (fun k=>Hp++[AObj.cells 22 [.slice true 2 ((C1 (c.take k) take).map Cb)],AObj.defs,AObj.loop LoopState.ready none FR 41 #[20] as' bd' (oid Hp.length 1)]) (fun k=>by simp) (by simp [oid]) (fun k x hx=>?_) (fun k y hk hcn=>by simp only [X8 hk hcn]) (fun k y X hk hcn=>?_),?_⟩
 ·have:=Lk (fun x hx=>Ox (by omega) (hlow x hx)) hOl x hx
  simpa using this
 ·generalize hV:Hp++[AObj.cells 22 [.slice true 2 ((C1 (c.take k) take).map Cb)],AObj.defs,AObj.loop LoopState.ready none FR 41 #[20] as' bd' (oid Hp.length 1)]++X=V
  have hL:V[oid Hp.length 2]? = some (AObj.loop LoopState.ready none FR 41 #[20] as' bd' (oid Hp.length 1)):=by rw [←hV,C9,Dh];rfl
  have hA0:V[oid Hp.length 0]? = some (AObj.cells 22 [.slice true 2 ((C1 (c.take k) take).map Cb)]):=by rw [←hV,C9,Dh];rfl
  refine Ye (pd:=none) (fr:=FR) (sz:=41) (ps:=#[20]) (df:=oid Hp.length 1) (asg:=as') (bd:=bd') hL rfl (by decide) (fun d=>?_)
  subst hFR has hbd
  refine Mr [8,20] ?_;refine Mf ?_;refine Z34 ?_;refine A0 [8,9] ?_
  refine ⟨rfl,none,hL,?_⟩
  generalize hbz:(AObj.loop LoopState.busy _ _ _ _ _ _ _)=bz
  have hA:(V.set (oid Hp.length 2) bz)[oid Hp.length 0]? = some (AObj.cells 22 [.slice true 2 ((C1 (c.take k) take).map Cb)]):=by rw [Fb (D8 (by decide))];exact hA0
  refine Ii ?_;refine Mf ?_;refine R.loadUpT jA hA ?_;refine Z60 ?_
  refine Du jU Tryz.type46 ?_ ?_ ?_
  ·have h1:=Gi (c.take k) take;have h2:=hc.len;simp only [Bt] at h1;simp [Tryz.t46];omega
  ·have h1:=Gi (c.take k) take;have h2:=hc.len;simp only [Bt] at h1;simp [Tryz.t46];omega
  refine R.storeUpT jS (U6 hA) ?_ ?_
  ·exact mr
  refine A0 [] ?_;refine K.blN ?_
  subst hbz
  refine ABc ?_
  refine ⟨rfl,?_⟩
  subst hV
  simp only [C9,K1,Fa,Ez,List.set_cons_succ,List.set_cons_zero]
  rw [jv hk hcn,Cf]
  rfl
 rintro r H' rfl
 simp only [v0]
 refine ⟨Hp,_,_,_,rfl,rfl,fun h=>h,?_,rfl,by simp,?_⟩
 ·intro o ho
  have:o=oid Hp.length 1:=by simpa using ho
  subst this
  rw [Dh]
  rfl
 refine Z11 ?_;refine Dv ?_;refine R.loadOwnT jA ?_;refine A2 ?_
 refine Du jU Tryz.type46 ?_ ?_ ?_
 ·have h1:=Gi c take;have h2:=Kt hr;simp [Tryz.t46];omega
 ·have h1:=Gi c take;have h2:=Kt hr;simp [Tryz.t46];omega
 refine R.storeOwnT jS ?_;refine A0 [8] ?_;refine Po ?_
 have e10:(C1 c take).map Cb++give.map Cb=(C1 c take++give).map Cb:=(Cf ..).symm
 rw [e10]
 generalize hout:C1 c take++give=out
 have ho:OkCols out:=ik hc hr hg hg2 hout
 refine A2 ?_;refine A6 Tryz.call120 (AHh out ho _) ?_;refine Z0 ?_;refine A0 [8,28] ?_
 refine A1 (fun ht28=>?_) (fun ht28=>?_)
 ·have hn:H0 out=false:=by simpa using ht28
  refine Ud ?_;refine Z91 ?_;exact A7 (Aj A3 A3) ⟨by rw [ie hr hk hout hn];try rfl,rfl⟩
 have hn:H0 out=true:=by simpa using ht28
 refine Z2 ?_;refine A6 Tryz.call50 (c50 out ho _) ?_;refine Z0 ?_;refine A0 [8,32] ?_
 refine A1 (fun ht32=>?_) (fun ht32=>?_)
 ·have hq:Fi out=false:=by rw [K3] at ht32;simpa using ht32
  refine Ud ?_;refine Z91 ?_;exact A7 (Aj A3 A3) ⟨by rw [ig hr hk hout hn hq];try rfl,rfl⟩
 have hq:Fi out=true:=by rw [K3] at ht32;simpa using ht32
 refine Z39 ?_;refine A0 [8,36] ?_
 refine A1 (fun ht36=>?_) (fun ht36=>?_)
 ·have h12:12<out.length:=by simp at ht36;omega
  refine Ud ?_;refine Z91 ?_;exact A7 (Aj A3 A3) ⟨by rw [ii hr hk hout hn hq h12];try rfl,rfl⟩
 have h12:¬12<out.length:=by simp at ht36;omega
 refine Z19 ?_;refine Z18 ?_;refine Z9 ?_;exact A7 (Aj A3 A3) ⟨by rw [ij hr hk hout hn hq h12];try rfl,rfl⟩

theorem c6u (c:List Col) (Hp:List AObj):AFun Tryz.prog 6 [Ad c] Hp (Ar (Kq c)):=by
 refine Ae [.tmp 2] [0] Tryz.func6 Tryz.ntmps6 (fun d=>?_)
 refine ga ?_;refine A0 [0,6] ?_
 refine A1 (fun ht6=>?_) (fun ht6=>?_)
 ·rw [Am] at ht6
  have hm:Kq c=true:=by unfold Kq;rw [ht6];rfl
  exact qn
 rw [Am] at ht6
 have hl50:c.length≤50:=by simp at ht6;omega
 refine qm ?_
 refine Be (α:=Nat) (fun x=>⟨20,A4 0 (Ad c) (A4 3 (A5 (x:Nat)) (fun _=>.any)),Hp,[],[],none⟩) (fun x=>x≤c.length∧∀(j:Nat) (v:Col),j<x→c[j]? = some v→decide ((100:Int)<(v.name.length:Int))=false) (fun x=>c.length-x) (0) ⟨Ah _,fun j v h=>by omega⟩ (B0 (by simp)) rfl (fun x hx=>?_)
 refine Z76 ?_;refine A0 [0,3,10] ?_
 refine A1 (fun ht10=>?_) (fun ht10=>?_)
 ·have hlt:x<c.length:=by simpa using ht10
  refine Qw ?_
  refine A2 (h:=A9 (x) (Cb c[x]) (fun _=>Ak hlt)) (hr:=?_)
  refine Z93 ?_;refine A0 [0,3,19] ?_
  refine A1 (fun ht19=>?_) (fun ht19=>?_)
  ·have hm:Kq c=true:=by unfold Kq;rw [Cu];exact .inr (Ix.2 ⟨c[x],Az hlt,ht19⟩)
   exact wc
  refine Z19 ?_;refine Z51 ?_
  refine A2 (h:=Q.add64 (h1:=fun _=>by omega) (h2:=fun _=>by omega)) (hr:=?_)
  refine A2 ?_;refine M3 ?_;exact ADb
 have hxe:c.length≤x:=by simpa using ht10
 have hm:Kq c=false:=by
  unfold Kq
  rw [ht6,Av,Iw]
  intro v hv
  obtain ⟨j,hj⟩:=Ca hv
  have:=hx.2 j v (by have:=(Ac.1 hj).1;omega) hj
  rw [this]
  simp
 exact qq

/-- law18.Wide. -/
def Jl (m:Mov):Bool:=(((((Kq m.give || decide ((20:Int)<(m.take.length:Int))) || decide ((20:Int)<(m.ahead.length:Int))) || decide ((20:Int)<(m.back.length:Int))) || m.take.any fun s=>decide ((100:Int)<(s.length:Int))) || m.ahead.any V2) || m.back.any V2
def Hu (l:List Mov):Bool:=decide ((12:Int)<(l.length:Int)) || l.any Jl
theorem Gm {α:Type} {p:α→Bool} {l:List α} {x:Nat} (h:l.length≤x) (hp:∀(j:Nat) (v:α),j<x→l[j]? = some v→p v=false):l.any p=false:=by
 rw [Iw]
 intro v hv
 obtain ⟨j,hj⟩:=Ca hv
 rw [hp j v (by have:=(Ac.1 hj).1;omega) hj]
 simp
theorem Iq {n:Nat} {m:Mov}:∀y∈Ke m,Low n y:=by
 intro y hy
 simp only [Ke,C2,Fd,or_false] at hy
 rcases hy with rfl|rfl|rfl|rfl|rfl<;>simp [or_imp,forall_and,Dg]
theorem ub {n:Nat} {m:Mov}:Low n (Fv m):=Go.SX.low_agg.2 Iq
theorem F7 {n k:Nat} {o:Bool} {l:List Mov}:Low n (.slice o k (l.map Fv)):=low_slice.2 fun y hy=>by
 obtain ⟨m,_,rfl⟩:=Db.1 hy
 exact ub
theorem Gv {α:Type} {p:α→Bool} (l:List α):(l.any fun s => !(p s)) = !(l.all p):=by
 induction l with
 | nil=>rfl
 | cons a r ih=>rw [List.any_cons,List.all_cons,ih];cases p a<;>simp
theorem c7 (l:List Mov) (Hp:List AObj):AFun Tryz.prog 7 [D6 l] Hp (Ar (Hu l)):=by
 refine Ae [.tmp 2] [0] Tryz.func7 Tryz.ntmps7 (fun d=>?_)
 refine ga ?_;refine A0 [0,10] ?_
 refine A1 (fun ht10=>?_) (fun ht10=>?_)
 ·rw [Am] at ht10
  have hm:Hu l=true:=by unfold Hu;rw [ht10];rfl
  exact qn
 rw [Am] at ht10
 have hl12:l.length≤12:=by simp at ht10;omega
 refine qm ?_
 refine Be (α:=Nat) (fun x=>⟨82,A4 0 (D6 l) (A4 3 (A5 (x:Nat)) (fun _=>.any)),Hp,[],[],none⟩) (fun x=>x≤l.length∧∀(j:Nat) (v:Mov),j<x→l[j]? = some v→Jl v=false) (fun x=>l.length-x) (0) ⟨Ah _,fun j v h=>by omega⟩ (B0 (by simp)) rfl (fun x hx=>?_)
 refine Z76 ?_;refine A0 [0,3,14] ?_
 refine A1 (fun ht14=>?_) (fun ht14=>?_)
 ·have hlt:x<l.length:=by simpa using ht14
  have hbad:Jl l[x]=true→Hu l=true:=fun h=>by unfold Hu;rw [Cu];exact .inr (Ix.2 ⟨l[x],Az hlt,h⟩)
  refine Qw ?_
  refine A2 (h:=A9 (x) (Fv l[x]) (fun _=>Ak hlt)) (hr:=?_)
  refine Pr ?_;refine A0 [0,3,4] ?_;refine Z8 ?_;refine A6 Tryz.call6 (c6u l[x].give _) ?_;refine A2 ?_;refine Ot ?_;refine Z53 ?_;refine Z53 ?_;refine A2 ?_;refine A0 [0,3,4,41] ?_
  refine A1 (fun ht41=>?_) (fun ht41=>?_)
  ·simp only [Am] at ht41
   have hm:Hu l=true:=hbad (by unfold Jl;rw [ht41];rfl)
   refine Z33 ?_;refine C4 ?_;exact U8
  simp only [Am] at ht41
  have hk:l[x].take.length≤20∧l[x].ahead.length≤20∧l[x].back.length≤20:=by simp only [Cm,decide_eq_false_iff_not] at ht41;omega
  refine Pq ?_;refine A0 [0,3,4,5] ?_
  refine Be (α:=Nat) (fun a=>⟨82,A4 0 (D6 l) (A4 3 (A5 (x:Nat)) (A4 4 (.ptr (oid Hp.length 0) 0) (A4 5 (A5 (a:Nat)) (fun _=>.any)))),Hp,[.cells 50 (Ke l[x])],[],none⟩) (fun a=>a≤l[x].take.length∧∀(j:Nat) v,j<a→l[x].take[j]? = some v→(fun s:Str=>decide ((100:Int)<(s.length:Int))) v=false) (fun a=>l[x].take.length-a) (0) ⟨Ah _,fun j v h=>by omega⟩ (B0 (by simp)) rfl (fun a ha=>?_)
  refine M2 ?_;refine A0 [0,3,4,5,46] ?_
  refine A1 (fun ht46=>?_) (fun ht46=>?_)
  ·have ha1:a<l[x].take.length:=by simpa using ht46
   refine Ue ?_
   refine A2 (h:=A9 (a) (Ax l[x].take[a]) (fun _=>Ak ha1)) (hr:=?_)
   refine Z13 ?_;refine A0 [0,3,4,5,55] ?_
   refine A1 (fun ht55=>?_) (fun ht55=>?_)
   ·have hm:Hu l=true:=hbad (by unfold Jl;rw [ht41,Ix.2 ⟨_,Az ha1,ht55⟩];rfl)
    refine Ym ?_;exact U8
   refine Z79 ?_;refine A0 [0,3,4,5] ?_;exact As (a+1) ⟨ha1,Bs ha1 ha.2 ht55⟩ (by omega) (Bk rfl)
  have hae:l[x].take.length≤a:=by simpa using ht46
  have e1:=Gm hae ha.2
  refine Z47 ?_;refine Z32 ?_;refine A0 [0,3,4,6] ?_
  refine Be (α:=Nat) (fun b=>⟨82,A4 0 (D6 l) (A4 3 (A5 (x:Nat)) (A4 4 (.ptr (oid Hp.length 0) 0) (A4 6 (A5 (b:Nat)) (fun _=>.any)))),Hp,[.cells 50 (Ke l[x])],[],none⟩) (fun b=>b≤l[x].ahead.length∧∀(j:Nat) v,j<b→l[x].ahead[j]? = some v→V2 v=false) (fun b=>l[x].ahead.length-b) (0) ⟨Ah _,fun j v h=>by omega⟩ (B0 (by simp)) rfl (fun b hb=>?_)
  refine M2 ?_;refine A0 [0,3,4,6,60] ?_
  refine A1 (fun ht60=>?_) (fun ht60=>?_)
  ·have hb1:b<l[x].ahead.length:=by simpa using ht60
   refine Ue ?_
   refine A2 (h:=A9 (b) (Al l[x].ahead[b]) (fun _=>Ak hb1)) (hr:=?_)
   refine A2 ?_;refine A6 Tryz.call18 (c18 l[x].ahead[b] _) ?_;refine A0 [0,3,4,6,68] ?_
   refine A1 (fun ht68=>?_) (fun ht68=>?_)
   ·have hm:Hu l=true:=hbad (by unfold Jl;rw [Ix.2 ⟨_,Az hb1,ht68⟩];simp)
    refine Ym ?_;exact U8
   refine Z79 ?_;refine A0 [0,3,4,6] ?_;exact As (b+1) ⟨hb1,Bs hb1 hb.2 ht68⟩ (by omega) (Bk rfl)
  have hbe:l[x].ahead.length≤b:=by simpa using ht60
  have e2:=Gm hbe hb.2
  refine Z47 ?_;refine Z2 ?_;refine A0 [0,3,4,7] ?_
  refine Be (α:=Nat) (fun e=>⟨82,A4 0 (D6 l) (A4 3 (A5 (x:Nat)) (A4 4 (.ptr (oid Hp.length 0) 0) (A4 7 (A5 (e:Nat)) (fun _=>.any)))),Hp,[.cells 50 (Ke l[x])],[],none⟩) (fun e=>e≤l[x].back.length∧∀(j:Nat) v,j<e→l[x].back[j]? = some v→V2 v=false) (fun e=>l[x].back.length-e) (0) ⟨Ah _,fun j v h=>by omega⟩ (B0 (by simp)) rfl (fun e he=>?_)
  refine M2 ?_;refine A0 [0,3,4,7,73] ?_
  refine A1 (fun ht73=>?_) (fun ht73=>?_)
  ·have he1:e<l[x].back.length:=by simpa using ht73
   refine Ue ?_
   refine A2 (h:=A9 (e) (Al l[x].back[e]) (fun _=>Ak he1)) (hr:=?_)
   refine A2 ?_;refine A6 Tryz.call18 (c18 l[x].back[e] _) ?_;refine A0 [0,3,4,7,81] ?_
   refine A1 (fun ht81=>?_) (fun ht81=>?_)
   ·have hm:Hu l=true:=hbad (by unfold Jl;rw [Ix.2 ⟨_,Az he1,ht81⟩];simp)
    refine Z33 ?_;refine Z35 ?_;exact U8
   refine Z79 ?_;refine A0 [0,3,4,7] ?_;exact As (e+1) ⟨he1,Bs he1 he.2 ht81⟩ (by omega) (Bk rfl)
  have hee:l[x].back.length≤e:=by simpa using ht73
  have e3:=Gm hee he.2
  have e4:Jl l[x]=false:=by unfold Jl;rw [ht41,e1,e2,e3];rfl
  refine Z38 ?_;refine K.lpE ?_;refine Z88 ?_;refine M3 ?_;refine As (x+1) ⟨hlt,Bs hlt hx.2 e4⟩ (by omega) ?_
  exact Cv (own:=[]) (fun _=>.refl _) (by repeat (first|exact Bd|refine Bc (by first|(simp [or_imp,forall_and];done)|exact F7|(simp [oid]<;>omega)) ?_)) (by simp) (by simp)
 have hxe:l.length≤x:=by simpa using ht14
 have hm:Hu l=false:=by unfold Hu;rw [ht10,Gm hxe hx.2];rfl
 exact qq

theorem c79 (l:List Expr) (h:OkEs l) (Hp:List AObj):AFun Tryz.prog 79 [Ih l] Hp (Ar (l.all Dr)):=by
 refine Ae [.tmp 2] [0] Tryz.func79 Tryz.ntmps79 (fun d=>?_)
 refine Z49 ?_;refine Z32 ?_;refine M3 ?_
 refine Be (α:=Nat) (fun x=>⟨16,A4 0 (Ih l) (A4 3 (A5 (x:Nat)) (fun _=>.any)),Hp,[],[],none⟩) (fun x=>x≤l.length∧∀(j:Nat) (v:Expr),j<x→l[j]? = some v→(!Dr v)=false) (fun x=>l.length-x) (0) ⟨Ah _,fun j v h=>by omega⟩ (B0 (by simp)) rfl (fun x hx=>?_)
 refine Z76 ?_;refine A0 [0,3,7] ?_
 refine A1 (fun ht7=>?_) (fun ht7=>?_)
 ·have hlt:x<l.length:=by simpa using ht7
  have hlen:=h.len
  refine Qw ?_
  refine A2 (h:=A9 (x) (Al l[x]) (fun _=>Ak hlt)) (hr:=?_)
  refine A2 ?_;refine A6 Tryz.call106 (AFv 61 l[x] (h.ok _ (Az hlt)) (by decide) (h.size _ (Az hlt)) _) ?_;refine A2 ?_;refine A0 [0,3,15] ?_
  refine A1 (fun ht15=>?_) (fun ht15=>?_)
  ·have hm:l.all Dr=false:=by rw [Of];exact ⟨_,Az hlt,by simpa using ht15⟩
   exact wc
  refine Z79 ?_;refine M3 ?_;exact As (x+1) ⟨hlt,Bs hlt hx.2 ht15⟩ (by omega) (Bk rfl)
 have hxe:l.length≤x:=by simpa using ht7
 have hm:l.all Dr=true:=by have:=Gm hxe hx.2;rw [Gv] at this;simpa using this
 exact qq

theorem Vp (k w:Int) (Hp:List AObj):AFun Tryz.prog 135 [A5 k,A5 w] Hp (Ar (Ee k w)):=by
 refine Ae [.tmp 4] [0,1] Tryz.func135 Tryz.ntmps135 (fun d=>?_)
 refine Z58 ?_;refine bh ?_;exact AB9

theorem AIp (n:Nat) (e:Expr) (hok:okE n e) (hn:n≤1048576) (c:List Col) (hc:OkCols c) (w:Int) (Hp:List AObj):AFun Tryz.prog 122 [Al e,Ad c,A5 w] Hp (Ar (Sa e c w)):=by
 refine Ae [.tmp 6] [0,1,2] Tryz.func122 Tryz.ntmps122 (fun d=>?_)
 refine Z1 ?_;refine A0 [1,2,3] ?_;refine Z1 ?_;refine A6 Tryz.call121 (AGf n e hok hn c hc _) ?_;refine Z67 ?_;refine A0 [2,7,8] ?_;refine Sg ?_;refine Ot ?_;refine Z92 ?_;refine Z75 ?_;exact A7 (Ai A3) ⟨by unfold Sa;rfl,rfl⟩

theorem Ed {ks:List Int} {i:Nat} (h:i<ks.length):(ks.map A5)[i]? = some (A5 (ks.getD i 0)):=by
 rw [Cs,Aa h,Dd,Aa h]
 rfl
theorem ACd {e:Expr} (h:Do e=true) (h3:(e.op==3)=true):e.kids.length=1:=by
 have h3':e.op=3:=by simpa using h3
 have:=Ku h (by rw [h3'];rfl) (by rw [h3'];rfl)
 rw [←this,h3'];rfl
theorem ACe {e:Expr} (h:Do e=true) (h4:(e.op==4)=true):e.kids.length=1:=by
 have h4':e.op=4:=by simpa using h4
 have:=Ku h (by rw [h4'];rfl) (by rw [h4'];rfl)
 rw [←this,h4'];rfl
theorem Zn {e:Expr} (h:Do e=true) (h5:(e.op==5)=true):e.kids.length=2:=by
 have h5':e.op=5:=by simpa using h5
 have:=Ku h (by rw [h5'];rfl) (by rw [h5'];rfl)
 rw [←this,h5']
 exact P1 _
theorem ACf {e:Expr} (h:Do e=true) (h1:(e.op==1)=false) (h2:(e.op==2)=false) (h3:(e.op==3)=false) (h4:(e.op==4)=false) (h5:(e.op==5)=false):e.kids.length=(Dc e.text).kids.length:=by
 have:=Ku h h1 h2
 rw [←this]
 unfold Hi
 rw [h3,h4,h5]
 rfl
theorem yw {a b:Bool} (h:(a&&b)=true):a=true:=by cases a<;>simp_all
theorem AIq (c:List Col) (hc:OkCols c):∀(n:Nat) (e:Expr),okE n e→E4 Do e=true→∀Hp:List AObj,AFun Tryz.prog 107 [Al e,Ad c] Hp (.tup [A5 (Bi c e).1,A5 (Bi c e).2]):=by
 intro n
 induction n with
 | zero=>exact fun e h=>h.elim
 | succ n ih =>
 intro e hok hnd Hp
 have hnd0:=hnd
 rw [Hb,Ap] at hnd0
 refine Ae [.tmp 4,.tmp 5] [0,1] Tryz.func107 Tryz.ntmps107 (fun d=>?_)
 refine qr ?_;refine Z27 ?_;refine A0 [1,2,17] ?_
 refine A1 (fun ht17=>?_) (fun ht17=>?_)
 ·have hk:=cz (c:=c) ht17
  refine Z1 ?_;refine Z13 ?_;refine Z43 ?_;exact ww
 refine Z66 ?_;refine A0 [1,2,23] ?_
 refine A1 (fun ht23=>?_) (fun ht23=>?_)
 ·have hk:=Xe (c:=c) ht17 ht23
  refine Z18 ?_;refine A6 Tryz.call42 (c42 c hc e.text _) ?_;refine A2 ?_;refine A0 [1,6] ?_;refine Z8 ?_;refine A0 [1,6,29] ?_
  refine A1 (fun ht29=>?_) (fun ht29=>?_)
  ·have hk2:Ob c e.text=(0,9):=if_pos (by simpa using ht29)
   refine M1 ?_;refine C4 ?_;exact wx
  have hneg:¬(Bg e.text c<0):=by simpa using ht29
  obtain ⟨j,hj,hjl⟩:=Hf hneg
  have hk2:Ob c e.text=(c[j].kind,0):=by
   unfold Ob
   rw [if_neg hneg,hj,Int.toNat_natCast,Dd,Aa hjl]
   rfl
  rw [hj]
  refine Z84 ?_
  refine A2 (h:=A9 (j) (Cb c[j]) (fun _=>Ak hjl)) (hr:=?_)
  refine Z93 ?_;refine Z43 ?_;exact wx
 refine Z3 ?_;refine b9 ?_;refine A0 [1,2,7] ?_;refine Z32 ?_;refine A0 [1,2,7,8] ?_
 refine Be (α:=Nat) (fun x=>⟨237,A4 1 (Ad c) (A4 2 (.ro (Hh e)) (A4 7 (.slice true 1 (((e.kids.take x).map fun y=>(Bi c y).1).map A5)) (A4 8 (A5 (x:Nat)) (fun _=>.any)))),Hp,[],[],none⟩) (fun x=>x≤e.kids.length∧∀(j:Nat) (y:Expr),j<x→e.kids[j]? = some y→((Bi c y).2 != 0)=false) (fun x=>e.kids.length-x) (0) ⟨Ah _,fun j y h=>by omega⟩ (B0 (by simp)) rfl (fun x hx=>?_)
 refine M2 ?_;refine A0 [1,2,7,8,40] ?_
 refine A1 (fun ht40=>?_) (fun ht40=>?_)
 ·have hlt:x<e.kids.length:=by simpa using ht40
  have hkl:=hok.2.1
  refine Ue ?_
  refine A2 (h:=A9 (x) (Al e.kids[x]) (fun _=>Ak hlt)) (hr:=?_)
  refine Z0 ?_;refine A6 Tryz.call107 (ih e.kids[x] (hok.2.2 _ (Az hlt)) ((E7 _ _).1 hnd0.2 _ (Az hlt)) _) ?_;refine Z67 ?_;refine A0 [1,2,7,8,9,10] ?_;refine Z8 ?_;refine A0 [1,2,7,8,9,10,54] ?_
  refine A1 (fun ht54=>?_) (fun ht54=>?_)
  ·have hkb:=d5 (c:=c) ht17 ht23 hlt hx.2 ht54
   refine Z18 ?_;refine Z43 ?_;exact AE1
  refine mb ?_
  refine Du jU Tryz.type3 ?_ ?_ ?_
  ·simp only [Am,Bt,Bo,By,Tryz.t3];omega
  ·simp only [Am,Bt,Bo,By,Tryz.t3];omega
  refine Ge ?_;refine A0 [1,2,7,8] ?_;refine Z88 ?_;refine A0 [1,2,7,8] ?_
  refine As (x+1) ⟨hlt,Bs hlt hx.2 ht54⟩ (by omega) (Bk ?_)
  simp only [show Tryz.t3.size=1 from rfl,Xf]
  rfl
 have hxe:e.kids.take x=e.kids:=D5 (by simp at ht40;omega)
 have hka:=d6 (c:=c) ht17 ht23 (fun j y hj hy=>hx.2 j y (by have:=hx.1;simp at ht40;omega) hy)
 have hrf:=yt hnd0.1 ht17 ht23 (ks:=e.kids.map fun y=>(Bi c y).1) (by simp)
 have hks:(e.kids.map fun y=>(Bi c y).1).length=e.kids.length:=by simp
 rw [hxe]
 generalize (e.kids.map fun y=>(Bi c y).1)=ks at *
 refine Z47 ?_;refine Z1 ?_;refine A0 [2,7,12] ?_;refine Z20 ?_;refine Z39 ?_;refine A0 [2,7,12,94] ?_
 refine A1 (fun ht94=>?_) (fun ht94=>?_)
 ·have hl:=ACd hnd0.1 ht94
  refine Z51 ?_
  refine A2 (h:=A9 (0) (A5 (ks.getD 0 0)) (fun _=>Ed (by omega))) (hr:=?_)
  refine AB2 ?_;refine Z0 ?_;refine Ub ?_
  refine A1 (fun ht235=>?_) (fun ht235=>?_)
  ·refine M1 ?_
   have hq:=ht235
   try simp only [Cr,Cx] at hq
   try simp only [ht92,B3,Av,B5] at hq
   first|exact absurd ht235 (by decide)|exact A7 (Aj A3 A3) ⟨by rw [hka,←hrf];unfold Dq Ds;simp only [ht17,ht23,ht40,ht94,ht235,hq,Bl,B5,B3,Av,if_true,if_false,A8,↓reduceIte]<;>rfl,rfl⟩
  refine Ps ?_
  have hq:=ht235
  try simp only [Cr,Cx] at hq
  try simp only [ht92,B3,Av,B5] at hq
  first|exact absurd ht235 (by decide)|exact A7 (Aj A3 A3) ⟨by rw [hka,←hrf];unfold Dq Ds;simp only [ht17,ht23,ht40,ht94,ht235,hq,Bl,B5,B3,Av,if_true,if_false,A8,↓reduceIte]<;>rfl,rfl⟩
 refine Z39 ?_;refine A0 [2,7,12,102] ?_
 refine A1 (fun ht102=>?_) (fun ht102=>?_)
 ·have hl:=ACe hnd0.1 ht102
  refine Z51 ?_
  refine A2 (h:=A9 (0) (A5 (ks.getD 0 0)) (fun _=>Ed (by omega))) (hr:=?_)
  refine A2 ?_;refine A6 Tryz.call135 (Vp (ks.getD 0 0) 3 _) ?_;refine Z0 ?_;refine Ub ?_
  refine A1 (fun ht235=>?_) (fun ht235=>?_)
  ·refine M1 ?_
   have hq:=ht235
   try simp only [Cr,Cx] at hq
   try simp only [ht92,B3,Av,B5] at hq
   first|exact absurd ht235 (by decide)|exact A7 (Aj A3 A3) ⟨by rw [hka,←hrf];unfold Dq Ds;simp only [ht17,ht23,ht40,ht94,ht102,ht235,hq,Bl,B5,B3,Av,if_true,if_false,A8,↓reduceIte]<;>rfl,rfl⟩
  refine Ps ?_
  have hq:=ht235
  try simp only [Cr,Cx] at hq
  try simp only [ht92,B3,Av,B5] at hq
  first|exact absurd ht235 (by decide)|exact A7 (Aj A3 A3) ⟨by rw [hka,←hrf];unfold Dq Ds;simp only [ht17,ht23,ht40,ht94,ht102,ht235,hq,Bl,B5,B3,Av,if_true,if_false,A8,↓reduceIte]<;>rfl,rfl⟩
 refine Z1 ?_;refine Z53 ?_;refine Ot ?_;refine Z0 ?_;refine A0 [2,7,12,110] ?_
 refine A1 (fun ht110=>?_) (fun ht110=>?_)
 ·have hl:=Zn hnd0.1 (yw ht110)
  refine Z51 ?_
  refine A2 (h:=A9 (0) (A5 (ks.getD 0 0)) (fun _=>Ed (by omega))) (hr:=?_)
  refine A2 ?_;refine A6 Tryz.call135 (Vp (ks.getD 0 0) 3 _) ?_;refine ma ?_
  refine B8 (h:=A9 (1) (A5 (ks.getD 1 0)) (fun _=>Ed (by omega))) (hr:=?_)
  refine B8 ?_;refine Bj Tryz.call135 (fun hB=>Vp (ks.getD 1 0) 3 _) ?_;refine Z13 ?_;refine Ub ?_
  refine A1 (fun ht235=>?_) (fun ht235=>?_)
  ·refine M1 ?_
   have hq:=ht235
   try simp only [Cr,Cx] at hq
   try simp only [ht92,B3,Av,B5] at hq
   first|exact absurd ht235 (by decide)|exact A7 (Aj A3 A3) ⟨by rw [hka,←hrf];unfold Dq Ds;simp only [ht17,ht23,ht40,ht94,ht102,ht110,ht235,hq,Bl,B5,B3,Av,if_true,if_false,A8,↓reduceIte]<;>rfl,rfl⟩
  refine Ps ?_
  have hq:=ht235
  try simp only [Cr,Cx] at hq
  try simp only [ht92,B3,Av,B5] at hq
  first|exact absurd ht235 (by decide)|exact A7 (Aj A3 A3) ⟨by rw [hka,←hrf];unfold Dq Ds;simp only [ht17,ht23,ht40,ht94,ht102,ht110,ht235,hq,Bl,B5,B3,Av,if_true,if_false,A8,↓reduceIte]<;>rfl,rfl⟩
 refine Yn ?_;refine Bj Tryz.call85 (fun hB=>c85 e.text _) ?_;refine Z92 ?_;refine A0 [2,7,12,134] ?_
 refine A1 (fun ht134=>?_) (fun ht134=>?_)
 ·have hl:=Zn hnd0.1 (yw ht134)
  refine W.drawQ0 [0,1,3,7,15,31,63,127,31,287,799,2047,4095,4095,16383] 14 An (by kernel_rfl) ?_;refine Ag ?_
  refine Ag (h:=A9 (0) (A5 (ks.getD 0 0)) (fun _=>Ed (by omega))) (hr:=?_)
  refine Z45 ?_;refine F4 ?_
  refine F4 (h:=A9 (1) (A5 (ks.getD 1 0)) (fun _=>Ed (by omega))) (hr:=?_)
  refine Z63 ?_
  refine F4 (h:=A9 (0) (A5 (ks.getD 0 0)) (fun _=>Ed (by omega))) (hr:=?_)
  refine F4 ?_;refine H.call Tryz.call135 (fun hB=>Vp (ks.getD 1 0) (ks.getD 0 0) _) ?_;refine g6 ?_;refine Ub ?_
  refine A1 (fun ht235=>?_) (fun ht235=>?_)
  ·refine M1 ?_
   have hq:=ht235
   try simp only [Cr,Cx] at hq
   try simp only [ht92,B3,Av,B5] at hq
   first|exact absurd ht235 (by decide)|exact A7 (Aj A3 A3) ⟨by rw [hka,←hrf];unfold Dq Ds;simp only [ht17,ht23,ht40,ht94,ht102,ht110,ht134,ht235,hq,Bl,B5,B3,Av,if_true,if_false,A8,↓reduceIte]<;>rfl,rfl⟩
  refine Ps ?_
  have hq:=ht235
  try simp only [Cr,Cx] at hq
  try simp only [ht92,B3,Av,B5] at hq
  first|exact absurd ht235 (by decide)|exact A7 (Aj A3 A3) ⟨by rw [hka,←hrf];unfold Dq Ds;simp only [ht17,ht23,ht40,ht94,ht102,ht110,ht134,ht235,hq,Bl,B5,B3,Av,if_true,if_false,A8,↓reduceIte]<;>rfl,rfl⟩
 refine Yn ?_;refine Z92 ?_;refine A0 [2,7,12,157] ?_
 refine A1 (fun ht157=>?_) (fun ht157=>?_)
 ·have hl:=Zn hnd0.1 (yw ht157)
  refine Z51 ?_
  refine A2 (h:=A9 (0) (A5 (ks.getD 0 0)) (fun _=>Ed (by omega))) (hr:=?_)
  refine AB3 ?_;refine ma ?_
  refine B8 (h:=A9 (1) (A5 (ks.getD 1 0)) (fun _=>Ed (by omega))) (hr:=?_)
  refine B8 ?_;refine Bj Tryz.call135 (fun hB=>Vp (ks.getD 1 0) 2 _) ?_;refine Z13 ?_;refine Ub ?_
  refine A1 (fun ht235=>?_) (fun ht235=>?_)
  ·refine M1 ?_
   have hq:=ht235
   try simp only [Cr,Cx] at hq
   try simp only [ht92,B3,Av,B5] at hq
   first|exact absurd ht235 (by decide)|exact A7 (Aj A3 A3) ⟨by rw [hka,←hrf];unfold Dq Ds;simp only [ht17,ht23,ht40,ht94,ht102,ht110,ht134,ht157,ht235,hq,Bl,B5,B3,Av,if_true,if_false,A8,↓reduceIte]<;>rfl,rfl⟩
  refine Ps ?_
  have hq:=ht235
  try simp only [Cr,Cx] at hq
  try simp only [ht92,B3,Av,B5] at hq
  first|exact absurd ht235 (by decide)|exact A7 (Aj A3 A3) ⟨by rw [hka,←hrf];unfold Dq Ds;simp only [ht17,ht23,ht40,ht94,ht102,ht110,ht134,ht157,ht235,hq,Bl,B5,B3,Av,if_true,if_false,A8,↓reduceIte]<;>rfl,rfl⟩
 refine Z39 ?_;refine A0 [2,7,12,176] ?_
 refine A1 (fun ht176=>?_) (fun ht176=>?_)
 ·have hl:=Zn hnd0.1 ht176
  rw [ht176,B5] at ht110 ht134 ht157
  refine Z51 ?_
  refine A2 (h:=A9 (0) (A5 (ks.getD 0 0)) (fun _=>Ed (by omega))) (hr:=?_)
  refine AB2 ?_;refine ma ?_
  refine B8 (h:=A9 (1) (A5 (ks.getD 1 0)) (fun _=>Ed (by omega))) (hr:=?_)
  refine B8 ?_;refine Bj Tryz.call135 (fun hB=>Vp (ks.getD 1 0) 1 _) ?_;refine Z13 ?_;refine Ub ?_
  refine A1 (fun ht235=>?_) (fun ht235=>?_)
  ·refine M1 ?_
   have hq:=ht235
   try simp only [Cr,Cx] at hq
   try simp only [ht92,B3,Av,B5] at hq
   first|exact absurd ht235 (by decide)|exact A7 (Aj A3 A3) ⟨by rw [hka,←hrf];unfold Dq Ds;simp only [ht17,ht23,ht40,ht94,ht102,ht110,ht134,ht157,ht176,ht235,hq,Bl,B5,B3,Av,if_true,if_false,A8,↓reduceIte]<;>rfl,rfl⟩
  refine Ps ?_
  have hq:=ht235
  try simp only [Cr,Cx] at hq
  try simp only [ht92,B3,Av,B5] at hq
  first|exact absurd ht235 (by decide)|exact A7 (Aj A3 A3) ⟨by rw [hka,←hrf];unfold Dq Ds;simp only [ht17,ht23,ht40,ht94,ht102,ht110,ht134,ht157,ht176,ht235,hq,Bl,B5,B3,Av,if_true,if_false,A8,↓reduceIte]<;>rfl,rfl⟩
 have hl0:=ACf hnd0.1 ht17 ht23 ht94 ht102 ht176
 unfold Dc at hl0
 refine Yn ?_;refine Z92 ?_;refine A0 [2,7,12,190] ?_
 refine A1 (fun ht190=>?_) (fun ht190=>?_)
 ·have hl:e.kids.length=1:=by rw [hl0,if_pos ht190];rfl
  refine Z51 ?_
  refine A2 (h:=A9 (0) (A5 (ks.getD 0 0)) (fun _=>Ed (by omega))) (hr:=?_)
  refine AB3 ?_;refine Z0 ?_;refine Ub ?_
  refine A1 (fun ht235=>?_) (fun ht235=>?_)
  ·refine M1 ?_
   have hq:=ht235
   try simp only [Cr,Cx] at hq
   try simp only [ht92,B3,Av,B5] at hq
   first|exact absurd ht235 (by decide)|exact A7 (Aj A3 A3) ⟨by rw [hka,←hrf];unfold Dq Ds;simp only [ht17,ht23,ht40,ht94,ht102,ht110,ht134,ht157,ht176,ht190,ht235,hq,Bl,B5,B3,Av,if_true,if_false,A8,↓reduceIte]<;>rfl,rfl⟩
  refine Ps ?_
  have hq:=ht235
  try simp only [Cr,Cx] at hq
  try simp only [ht92,B3,Av,B5] at hq
  first|exact absurd ht235 (by decide)|exact A7 (Aj A3 A3) ⟨by rw [hka,←hrf];unfold Dq Ds;simp only [ht17,ht23,ht40,ht94,ht102,ht110,ht134,ht157,ht176,ht190,ht235,hq,Bl,B5,B3,Av,if_true,if_false,A8,↓reduceIte]<;>rfl,rfl⟩
 rw [if_neg (by rw [ht190];simp)] at hl0
 refine Z39 ?_;refine A0 [2,7,12,203] ?_
 refine A1 (fun ht203=>?_) (fun ht203=>?_)
 ·have hl:e.kids.length=1:=by rw [hl0,if_pos ht203];rfl
  refine Z51 ?_
  refine A2 (h:=A9 (0) (A5 (ks.getD 0 0)) (fun _=>Ed (by omega))) (hr:=?_)
  refine AB2 ?_;refine Z0 ?_;refine Ub ?_
  refine A1 (fun ht235=>?_) (fun ht235=>?_)
  ·refine M1 ?_
   have hq:=ht235
   try simp only [Cr,Cx] at hq
   try simp only [ht92,B3,Av,B5] at hq
   first|exact absurd ht235 (by decide)|exact A7 (Aj A3 A3) ⟨by rw [hka,←hrf];unfold Dq Ds;simp only [ht17,ht23,ht40,ht94,ht102,ht110,ht134,ht157,ht176,ht190,ht203,ht235,hq,Bl,B5,B3,Av,if_true,if_false,A8,↓reduceIte]<;>rfl,rfl⟩
  refine Ps ?_
  have hq:=ht235
  try simp only [Cr,Cx] at hq
  try simp only [ht92,B3,Av,B5] at hq
  first|exact absurd ht235 (by decide)|exact A7 (Aj A3 A3) ⟨by rw [hka,←hrf];unfold Dq Ds;simp only [ht17,ht23,ht40,ht94,ht102,ht110,ht134,ht157,ht176,ht190,ht203,ht235,hq,Bl,B5,B3,Av,if_true,if_false,A8,↓reduceIte]<;>rfl,rfl⟩
 rw [if_neg (by rw [ht203];simp)] at hl0
 refine Yn ?_;refine Z92 ?_;refine A0 [2,7,12,211] ?_
 refine A1 (fun ht211=>?_) (fun ht211=>?_)
 ·have hl:e.kids.length=2:=by rw [hl0,if_pos ht211];rfl
  refine Z51 ?_
  refine A2 (h:=A9 (0) (A5 (ks.getD 0 0)) (fun _=>Ed (by omega))) (hr:=?_)
  refine AB3 ?_;refine ma ?_
  refine B8 (h:=A9 (1) (A5 (ks.getD 1 0)) (fun _=>Ed (by omega))) (hr:=?_)
  refine B8 ?_;refine Bj Tryz.call135 (fun hB=>Vp (ks.getD 1 0) 1 _) ?_;refine Z13 ?_;refine Ub ?_
  refine A1 (fun ht235=>?_) (fun ht235=>?_)
  ·refine M1 ?_
   have hq:=ht235
   try simp only [Cr,Cx] at hq
   try simp only [ht92,B3,Av,B5] at hq
   first|exact absurd ht235 (by decide)|exact A7 (Aj A3 A3) ⟨by rw [hka,←hrf];unfold Dq Ds;simp only [ht17,ht23,ht40,ht94,ht102,ht110,ht134,ht157,ht176,ht190,ht203,ht211,ht235,hq,Bl,B5,B3,Av,if_true,if_false,A8,↓reduceIte]<;>rfl,rfl⟩
  refine Ps ?_
  have hq:=ht235
  try simp only [Cr,Cx] at hq
  try simp only [ht92,B3,Av,B5] at hq
  first|exact absurd ht235 (by decide)|exact A7 (Aj A3 A3) ⟨by rw [hka,←hrf];unfold Dq Ds;simp only [ht17,ht23,ht40,ht94,ht102,ht110,ht134,ht157,ht176,ht190,ht203,ht211,ht235,hq,Bl,B5,B3,Av,if_true,if_false,A8,↓reduceIte]<;>rfl,rfl⟩
 rw [if_neg (by rw [ht211];simp)] at hl0
 refine Z39 ?_;refine A0 [2,7,12,230] ?_
 refine A1 (fun ht230=>?_) (fun ht230=>?_)
 ·have hl:e.kids.length=1:=by rw [hl0,if_pos ht230];rfl
  refine Z51 ?_;refine Ub ?_
  refine A1 (fun ht235=>?_) (fun ht235=>?_)
  ·refine M1 ?_
   have hq:=ht235
   try simp only [Cr,Cx] at hq
   try simp only [ht92,B3,Av,B5] at hq
   first|exact absurd ht235 (by decide)|exact A7 (Aj A3 A3) ⟨by rw [hka,←hrf];unfold Dq Ds;simp only [ht17,ht23,ht40,ht94,ht102,ht110,ht134,ht157,ht176,ht190,ht203,ht211,ht230,ht235,hq,Bl,B5,B3,Av,if_true,if_false,A8,↓reduceIte]<;>rfl,rfl⟩
  refine Ps ?_
  have hq:=ht235
  try simp only [Cr,Cx] at hq
  try simp only [ht92,B3,Av,B5] at hq
  first|exact absurd ht235 (by decide)|exact A7 (Aj A3 A3) ⟨by rw [hka,←hrf];unfold Dq Ds;simp only [ht17,ht23,ht40,ht94,ht102,ht110,ht134,ht157,ht176,ht190,ht203,ht211,ht230,ht235,hq,Bl,B5,B3,Av,if_true,if_false,A8,↓reduceIte]<;>rfl,rfl⟩
 rw [if_neg (by rw [ht230];simp)] at hl0
 have hl:2≤e.kids.length:=by rw [hl0];split<;>simp
 have hl3:=hok.2.1
 refine Df [0,0,2,6,15,31,0,0,128,384,960,1984,63,8191] 13 An (by kernel_rfl) ?_;refine Z45 ?_
 rw [Am]
 refine Ag ?_
 refine Ag (h:=A9 ((ks.length-2)) (A5 (ks.getD (ks.length-2) 0)) (fun _=>Ed (by omega))) (hr:=?_)
 refine Qx ?_
 rw [Am]
 refine Ag ?_
 refine Ag (h:=A9 ((ks.length-1)) (A5 (ks.getD (ks.length-1) 0)) (fun _=>Ed (by omega))) (hr:=?_)
 refine g6 ?_;refine A0 [2,7,13,14] ?_;refine Sg ?_;refine Bj Tryz.call135 (fun hB=>Vp (ks.getD (ks.length-1) 0) (ks.getD (ks.length-2) 0) _) ?_;refine Z53 ?_;refine B8 ?_
 refine B8 (h:=A9 (0) (A5 (ks.getD 0 0)) (fun _=>Ed (by omega))) (hr:=?_)
 refine B8 ?_;refine Bj Tryz.call135 (fun hB=>Vp (ks.getD 0 0) 3 _) ?_;refine Z92 ?_;refine A0 [12,13,14] ?_;refine Z1 ?_;refine A0 [11,12,13,14] ?_;refine Z1 ?_;refine A0 [11,12,14,92] ?_
 refine A1 (fun ht92=>?_) (fun ht92=>?_)
 ·refine Z31 ?_;refine Ub ?_
  refine A1 (fun ht235=>?_) (fun ht235=>?_)
  ·refine M1 ?_
   have hq:=ht235
   try simp only [Cr,Cx] at hq
   try simp only [ht92,B3,Av,B5] at hq
   first|exact absurd ht235 (by decide)|exact A7 (Aj A3 A3) ⟨by rw [hka,←hrf];unfold Dq Ds;simp only [ht17,ht23,ht40,ht94,ht102,ht110,ht134,ht157,ht176,ht190,ht203,ht211,ht230,ht92,ht235,hq,Bl,B5,B3,Av,if_true,if_false,A8,↓reduceIte]<;>rfl,rfl⟩
  refine Ps ?_
  have hq:=ht235
  try simp only [Cr,Cx] at hq
  try simp only [ht92,B3,Av,B5] at hq
  first|exact absurd ht235 (by decide)|exact A7 (Aj A3 A3) ⟨by rw [hka,←hrf];unfold Dq Ds;simp only [ht17,ht23,ht40,ht94,ht102,ht110,ht134,ht157,ht176,ht190,ht203,ht211,ht230,ht92,ht235,hq,Bl,B5,B3,Av,if_true,if_false,A8,↓reduceIte]<;>rfl,rfl⟩
 refine Z19 ?_;refine ACy ?_
 refine A1 (fun ht235=>?_) (fun ht235=>?_)
 ·refine M1 ?_
  have hq:=ht235
  try simp only [Cr,Cx] at hq
  try simp only [ht92,B3,Av,B5] at hq
  first|exact absurd ht235 (by decide)|exact A7 (Aj A3 A3) ⟨by rw [hka,←hrf];unfold Dq Ds;simp only [ht17,ht23,ht40,ht94,ht102,ht110,ht134,ht157,ht176,ht190,ht203,ht211,ht230,ht92,ht235,hq,Bl,B5,B3,Av,if_true,if_false,A8,↓reduceIte]<;>rfl,rfl⟩
 refine Ps ?_
 have hq:=ht235
 try simp only [Cr,Cx] at hq
 try simp only [ht92,B3,Av,B5] at hq
 first|exact absurd ht235 (by decide)|exact A7 (Aj A3 A3) ⟨by rw [hka,←hrf];unfold Dq Ds;simp only [ht17,ht23,ht40,ht94,ht102,ht110,ht134,ht157,ht176,ht190,ht203,ht211,ht230,ht92,ht235,hq,Bl,B5,B3,Av,if_true,if_false,A8,↓reduceIte]<;>rfl,rfl⟩

theorem c81 (n:Nat) (e:Expr) (hok:okE n e) (hn:n≤1048576) (hs:sizeE e≤1048576) (c:List Col) (hc:OkCols c) (Hp:List AObj):AFun Tryz.prog 81 [Al e,Ad c] Hp (.tup [A5 (E0 e c).1,A5 (E0 e c).2]):=by
 refine Ae [.tmp 4,.tmp 5] [0,1] Tryz.func81 Tryz.ntmps81 (fun d=>?_)
 refine qr ?_;refine Z32 ?_;refine A6 Tryz.call106 (AFv n e hok hn hs _) ?_;refine gb ?_;refine Bj Tryz.call39 (fun hB=>c39 c hc _) ?_;refine Z50 ?_;refine A0 [1,2,13] ?_
 refine A1 (fun ht13=>?_) (fun ht13=>?_)
 ·have hk:E0 e c=(0,1):=by unfold E0;rw [Em,K3,if_pos ht13]
  exact AE6
 have hk:E0 e c=Bi c e:=by unfold E0;rw [Em,K3,if_neg (by rw [ht13];simp)]
 have hr:Bb e=true:=by rw [Em];simp only [Cm,Cx] at ht13;exact ht13.1
 refine Z84 ?_;refine A6 Tryz.call107 (AIq c hc n e hok (Ia hr) _) ?_;refine Z93 ?_;exact AEa

theorem dk {e:Expr} {c:List Col} {w:Int} (h:((E0 e c).2 != 0)=false):((((E0 e c).1 != 0)&&((E0 e c).1 != w))) = !Sa e c w:=by
 unfold Sa
 have h0:(E0 e c).2=0:=by simpa using h
 rw [h0]
 show (!((E0 e c).1==0) && !((E0 e c).1==w)) = !(true&&(((E0 e c).1==w) || ((E0 e c).1==0)))
 cases (E0 e c).1==0<;>cases (E0 e c).1==w<;>rfl
theorem yx {c:List Col} {m:Mov} (h:(m.kind==3)=false):B2 c m=m.give:=by unfold B2;rw [if_neg (by rw [h];simp)]
theorem ky {c:List Col} {m:Mov} {s:Str} {y:Col} (h:(m.kind==3)=true) (ht:m.take=[s]) (hg:m.give=[y]) (hf:Bg s c<0):B2 c m=[y]:=by
 unfold B2
 rw [if_pos h,ht,hg]
 exact if_pos hf
theorem dl {c:List Col} {m:Mov} {s:Str} {y:Col} (h:(m.kind==3)=true) (ht:m.take=[s]) (hg:m.give=[y]) (hf:¬Bg s c<0):B2 c m=[⟨y.name,(c.getD (Bg s c).toNat ⟨[],0⟩).kind⟩]:=by
 unfold B2
 rw [if_pos h,ht,hg]
 exact if_neg hf
theorem dm (l:List Col):∀x∈l.map Cb,x.cells.length=2:=by
 intro x hx
 obtain ⟨c,_,rfl⟩:=Db.1 hx
 rfl
theorem kz {c:Col} {y:AV} (h:y∈(Cb c).cells):y=Ax c.name∨y=A5 c.kind:=by
 have h':y∈[Ax c.name,A5 c.kind]:=h
 simpa using h'
theorem dn (l:List Col):∀x∈l.map Cb,∀y∈x.cells,y.one=true:=by
 intro x hx y hy
 obtain ⟨c,_,rfl⟩:=Db.1 hx
 rcases kz hy with rfl|rfl<;>rfl
theorem Vq (l:List Col):∀x∈l.map Cb,∀y∈x.cells,y.strip=y:=by
 intro x hx y hy
 obtain ⟨c,_,rfl⟩:=Db.1 hx
 rcases kz hy with rfl|rfl<;>rfl
theorem Zo {α:Type} {l:List α} (h:l.length=1):∃y,l=[y]:=by
 match l,h with
 | [y],_=>exact ⟨y,rfl⟩
theorem Tf {c:List Col} {s:Str} (hf:¬Bg s c<0):(c.map Cb)[(Bg s c).toNat]? = some (Cb (c.getD (Bg s c).toNat ⟨[],0⟩)):=by
 obtain ⟨j,hj,hjl⟩:=Hf hf
 rw [hj,Int.toNat_natCast,Cs,Aa hjl,Dd,Aa hjl]
 rfl
theorem c57 (n:Nat) (e:Expr) (hok:okE n e) (hn:n≤1048576) (hs:sizeE e≤1048576) (w:Int) (c:List Col) (hc:OkCols c) (Hp:List AObj):AFun Tryz.prog 57 [Al e,A5 w,Ad c] Hp (A5 (Kx e c w)):=by
 refine Ae [.tmp 6] [0,1,2] Tryz.func57 Tryz.ntmps57 (fun d=>?_)
 refine Z1 ?_;refine A0 [1,2,3] ?_;refine Z1 ?_;refine A6 Tryz.call81 (c81 n e hok hn hs c hc _) ?_;refine Z67 ?_;refine A0 [1,7,8] ?_;refine Z8 ?_;refine A0 [1,7,8,16] ?_
 refine A1 (fun ht16=>?_) (fun ht16=>?_)
 ·have hm:Kx e c w=(E0 e c).2:=if_pos ht16
  refine Z1 ?_;refine Z75 ?_;exact Z23
 refine Z66 ?_;refine Z10 ?_;refine Z50 ?_;refine A0 [24] ?_
 refine A1 (fun ht24=>?_) (fun ht24=>?_)
 ·rw [dk ht16] at ht24
  have hm:Kx e c w=10:=by unfold Kx;rw [if_neg (by rw [ht16];simp),if_pos ht24]
  refine Sl ?_;exact Z23
 rw [dk ht16] at ht24
 have hm:Kx e c w=0:=by unfold Kx;rw [if_neg (by rw [ht16];simp),if_neg (by rw [ht24];simp)]
 refine Ja ?_;refine Z75 ?_;exact bi

theorem AIr (c:List Col) (hc:OkCols c) (m:Mov) (h:OkMov m) (h3:(m.kind==3)=false) (Hp:List AObj):AFun Tryz.prog 55 [Ad c,Fv m] Hp (Ad (B2 c m)):=by
 refine Ae [.tmp 4] [0,1] Tryz.func55 Tryz.ntmps55 (fun d=>?_)
 refine m7 ?_;refine Z86 ?_;refine Z0 ?_
 refine Du jU Tryz.type46 ?_ ?_ ?_
 ·have:=h.gives2;simp [Tryz.t46];omega
 ·have:=h.gives2;simp [Tryz.t46];omega
 refine Ge ?_;refine wq ?_;refine A0 [0,3,5,13] ?_
 refine A1 (fun ht13=>?_) (fun ht13=>?_)
 ·rw [h3] at ht13;cases ht13
 refine Z84 ?_;exact ADt

theorem AIs (c:List Col) (hc:OkCols c) (m:Mov) (h:OkMov m) (h3:(m.kind==3)=true) (s:Str) (y:Col) (ht:m.take=[s]) (hg:m.give=[y]) (Hp:List AObj):AFun Tryz.prog 55 [Ad c,Fv m] Hp (Ad (B2 c m)):=by
 have hgv:=ky (c:=c) h3 ht hg
 have hgy:=dl (c:=c) h3 ht hg
 obtain ⟨kd,tk,gv,ah,bk⟩:=m
 simp only at ht hg h3
 subst ht hg
 refine Ae [.tmp 4] [0,1] Tryz.func55 Tryz.ntmps55 (fun d=>?_)
 refine m7 ?_;refine Dv ?_;refine R.buildObj0 (n:=0) jU Tryz.sizeOf46 ?_;refine Z0 ?_
 refine R.appendObj (k:=2) (n:=1) jU Tryz.type46 (show [Cb y]≠[] by simp) ?_ ?_ (fun cc hcc=>?_)
 ·simp [Tryz.t46]
 ·simp
 have e0:Jc [Cb y]++List.replicate ((cc-[Cb y].length)*2) AV.any=Ax y.name::A5 y.kind::List.replicate ((cc-1)*2) AV.any:=rfl
 rw [e0]
 clear e0
 refine A2 ?_;refine wq ?_;refine A0 [0,3,5,13] ?_
 refine A1 (fun ht13=>?_) (fun ht13=>?_)
 ·refine Z18 ?_
  refine A2 (h:=A9 (0) (Ax s) (fun _=>rfl)) (hr:=?_)
  refine A2 ?_;refine A6 Tryz.call42 (c42 c hc s _) ?_;refine A2 ?_;refine A0 [0,5,6] ?_;refine Z1 ?_;refine A0 [0,5,6,21] ?_
  refine A1 (fun ht21=>?_) (fun ht21=>?_)
  ·have hf:¬Bg s c<0:=by simp at ht21;omega
   obtain ⟨jj,hjj,hjc⟩:=Hf hf
   refine Z28 ?_
   refine A2 (h:=A9 ((Bg s c).toNat) (Cb (c.getD (Bg s c).toNat ⟨[],0⟩)) (fun _=>Tf hf)) (hr:=?_)
   refine Z0 ?_;refine R.indexAddrSl (n:=1) 0 jU Tryz.sizeOf46 (by decide) ?_
   refine A2 (h:=Q.fieldAddrPtr (hc:=rfl)) (hr:=?_)
   refine J9 (y:=A5 (c.getD (Bg s c).toNat ⟨[],0⟩).kind) (ys:=[A5 (c.getD (Bg s c).toNat ⟨[],0⟩).kind]) (n:=1) (cs:=Ax y.name::A5 y.kind::List.replicate ((cc-1)*2) AV.any) (cs':=Ax y.name::A5 (c.getD (Bg s c).toNat ⟨[],0⟩).kind::List.replicate ((cc-1)*2) AV.any) (t':=46) jS ?_ (hc:=rfl) (hput:=rfl) (hfit:=by simp)
   refine A0 [5] ?_;refine Dk ?_;refine Z96 ?_;exact wi
  have hf:Bg s c<0:=by simp at ht21;omega
  refine Z3 ?_;refine AD1 ?_;exact wi
 rw [h3] at ht13;cases ht13

end Go.SX.Nb
namespace Go.SX
variable [GI:GlobInv]
open Classical
variable {P:Program} {d:Nat} {ops:Array Oper} {rest:List Oper} {sz:Nat} {fr:Nat→AV} {up own:List AObj} {dfs:List Nat} {rnd:Option Nat} {Q:St→Prop} {s:Nat} {ty:TypeId} {pos:String} {aft:Array Edge}
/-- Whether a slice is nil is known only of one that has elements. -/
theorem R.eqlNil {t e u:TypeId} {x y:Operand} {o:Bool} {k:Nat} {xs:List AV} (ht:P.underlying t=some (.slice e)) (hg:P.eqGuardType P.depth t=false)
  (hr:∀b:Bool,(b=true→xs=[])→ARun P d ops rest ⟨sz,A4 s (.v (.bool b)) fr,up,own,dfs,rnd⟩ Q)
  (hx:Bw fr x=.slice o k xs:=by exact sL0) (hy:Bw fr y=.nil:=by exact sL0) (hs:Nat.blt s sz=true:=by rfl):
  ARun P d ops (⟨some s,.binOp .eql t x y u,ty,pos,aft,none⟩::rest) ⟨sz,fr,up,own,dfs,rnd⟩ Q:=by
 refine jl rfl (Q1:=fun s'=>∃b:Bool,(b=true→xs=[])∧s'=⟨sz,A4 s (.v (.bool b)) fr,up,own,dfs,rnd⟩) ?_ (by rintro _ ⟨b,hb,rfl⟩;exact hr b hb)
 intro G a w hrel Q'
 have h1:=hrel.eval x
 rw [show St.ev ⟨sz,fr,up,own,dfs,rnd⟩ x=.slice o k xs from hx] at h1
 have h2:=hrel.eval y
 rw [show St.ev ⟨sz,fr,up,own,dfs,rnd⟩ y=.nil from hy] at h2
 have key:∀b:Bool,(b=true→xs=[])→(execOp a.eval ⟨some s,.binOp .eql t x y u,ty,pos,aft,none⟩).run P w=.ok (.value (.bool b)) w →
   Oper.wpIn (Fr ((St.mk sz fr up own dfs rnd).rnd.map G.blk)) 0 P ⟨some s,.binOp .eql t x y u,ty,pos,aft,none⟩ a w (Post d ⟨sz,fr,up,own,dfs,rnd⟩ G w (fun s'=>∃b:Bool,(b=true→xs=[])∧s'=⟨sz,A4 s (.v (.bool b)) fr,up,own,dfs,rnd⟩)) Q':=fun b hb hv =>
  D3 (by intro c h;cases h) hv ⟨G,_,hrel.put (y:=.v (.bool b)) (by simpa using hs) (.v _ _),Fp d G w,rfl,rfl,rfl,b,hb,rfl⟩
 generalize hya:a.eval y=vy at h2
 generalize hxa:a.eval x=vx at h1
 cases h2
 cases h1 with
 | slice0=>exact key true (fun _=>rfl) (by simp only [execOp,hxa,hya,eqGuard];simp [Lib.run_eql_slice_nil _ _ _ _ _ _ _ _ ht,hg])
 | sliceE=>exact key false (fun h=>by cases h) (by simp only [execOp,hxa,hya,eqGuard];simp [Lib.run_eql_slice_nil _ _ _ _ _ _ _ _ ht,hg])
 | slice=>exact key false (fun h=>by cases h) (by simp only [execOp,hxa,hya,eqGuard];simp [Lib.run_eql_slice_nil _ _ _ _ _ _ _ _ ht,hg])
/-! A guarded slice that may be appended to. -/
end Go.SX
namespace Go.SX
variable [GI:GlobInv]
open Classical
section
variable {P:Program} {d:Nat}
/-- A call that returns and may leave more objects than it found; they are the caller's. -/
def ACallO (P:Program) (g:FuncId) (args:List AV) (H:List AObj) (post:AV→List AObj→Prop):Prop:=
 ∀(d:Nat) (G:Gh) (w:World) (vs:Array Value),vs.size=args.length→(∀(i:Nat) (y:AV) (u:Value),args[i]? = some y→vs[i]? = some u→Rep G w (some (.slot (d+1) i)) y u)→HeapRel G H w→TagOK G w→GI.bd≤d →
  CallsIn Fence.wide 0 P g vs w (fun e w'=>∃(v:Value) (G':Gh) (r:AV) (H':List AObj),e=.returned v∧Rep G' w' none r v∧HeapRel G' H' w'∧TagOK G' w'∧Keep (d+1) G w G' w'∧post r H')
/-- What is asked at a body's end: the first j of its objects are handed back. -/
def FO (P:Program) (rs:List ResultVar) (n:Nat) (post:AV→List AObj→Prop) (e:Exit) (st':St):Prop:=
 (e=.normal∨e=.ret)∧st'.defs=[]∧∃(r:AV) (rv:ResultVar) (j:Nat),rs=[rv]∧ResV P st' rv r∧Low (n+j) r∧(∀x∈st'.up++st'.own.take j,ObjLow (n+j) x)∧j≤st'.own.length∧post r (st'.up++st'.own.take j)
theorem ACallO.ofBody {g:FuncId} {fn:Func} {c:Code} {args:List AV} {H:List AObj} {post:AV→List AObj→Prop} {rs:List ResultVar} {n:Nat} (hf:P.funcs[g]? = some fn) (hb:fn.body=some c) (hrs:fn.results=rs.toArray)
  (hn:fn.ntmps=n) (hargs:args.length≤n) (h:∀d,AW P (d+1) c ⟨n,argsF args,H,[],[],none⟩ (FO P rs H.length post)):ACallO P g args H post:=by
 intro d G w vs hvs hrep hH hT hTop
 refine callsIn_of_wp_marks hf hb trivial ?_
 have hst:StRel (d+1) G ⟨n,argsF args,H,[],[],none⟩ { tmps:=vs++Array.replicate (fn.ntmps-vs.size) undef,defers:=[] } w:=by
  refine ⟨?_,fun s=>?_,by simpa using hH,(by rw [Iz hTop];rfl),(fun o ho=>by simp at ho),Pg,(fun o ho=>by simp at ho),hT,(fun l hl=>by cases hl),fun x hx=>?_,T5 hTop⟩
  ·simp only [Oe,p7,hvs,hn];omega
  ·show Rep G w _ (args.getD s (.v undef)) _
   rw [Dd,Kg]
   rcases Bh s args.length with h'|h'
   ·rw [Aa h',M6 (by omega),Ev (by omega)]
    exact hrep s _ _ (Aa h') (Ev (by omega))
   rw [Ic h',Rv (by omega)]
   simp only [Option.getD_none]
   have:((Array.replicate (fn.ntmps-vs.size) undef)[s-vs.size]?).getD undef=undef:=by
    rw [Qf];split<;>rfl
   rw [this]
   exact .v _ _
  obtain ⟨i,hi⟩:=Ca hx
  have hob:=hH.obj i x hi
  show ObjLow H.length x
  rw [←hH.n]
  exact hob.low
 have hw:=h d G _ w hst
 refine wpIn_mono hw ?_
 rintro e a' w' ⟨G1,st',h1,k1,e1,e2,e3,hcase,hdefs,r,rv,j,rfl,hres,hlow,hobjs,hj,hpost⟩
 have fin:LeavesInM Fence.wide 0 P fn a'.tmps (fun e w'=>∃(v:Value) (G':Gh) (r:AV) (H':List AObj),e=.returned v∧Rep G' w' none r v∧HeapRel G' H' w'∧TagOK G' w'∧Keep (d+1) G w G' w'∧post r H') a'.defers .returning w':=by
  rw [h1.defs,hdefs,Iz hTop]
  obtain ⟨v,hv,hr⟩:=hres.run h1
  have hupl:st'.up.length=H.length:=e1
  have hgn:G1.n=st'.up.length+st'.own.length:=by rw [h1.heap.n,Aw]
  have hget:∀(i:Nat) (x:AObj),(st'.up++st'.own.take j)[i]? = some x→(st'.up++st'.own)[i]? = some x:=fun i x hx=>by
   rcases Bh i st'.up.length with h'|h'
   ·rw [De h'] at hx ⊢;exact hx
   rw [Dj h'] at hx ⊢
   rw [Fo] at hx
   split at hx
   ·exact hx
   cases hx
  refine ⟨v,by simp [Fe,hrs,hv],v,{ G1 with n:=H.length+j },r,st'.up++st'.own.take j,rfl,hr.cut hlow,⟨fun i x hx=>(h1.heap.obj i x (hget i x hx)).cut (hobjs x (Ay hx)),?_,fun a b ha hb' e=>?_⟩,
   ⟨h1.tags.ex,h1.tags.obj,h1.tags.tail,h1.tags.globCut (by rw [hgn];omega)⟩,?_,hpost⟩
  ·show H.length+j=_
   rw [Aw,Bt,Nat.min_eq_left hj,hupl]
  ·exact h1.heap.inj a b (by rw [hgn];simp only at ha;omega) (by rw [hgn];simp only at hb';omega) e
  have hGn:G.n=H.length:=hH.n
  exact ⟨k1.fix,k1.slot,by rw [hGn];exact Nat.le_add_right _ _,k1.blk,k1.os,k1.tape,k1.output,k1.size,k1.old.cut (by rw [hgn];omega)⟩
 rcases hcase with rfl|rfl
 ·exact fin
 exact fin
end
section
variable {P:Program} {d:Nat} {ops:Array Oper} {rest:List Oper} {sz s:Nat} {fr:Nat→AV} {up own:List AObj} {dfs:List Nat} {rnd:Option Nat} {Q:St→Prop} {ty:TypeId} {pos:String} {aft:Array Edge}
theorem ACallO.body {g:FuncId} {fn:Func} {c:Code} {args:List AV} {H:List AObj} {post:AV→List AObj→Prop} {fr':Nat→AV} (rs:List ResultVar) (l:List Nat) {n:Nat} (hf:P.funcs[g]? = some fn) (hn:fn.ntmps=n)
  (h:∀d,AW P (d+1) c ⟨n,fr',H,[],[],none⟩ (FO P rs H.length post)) (hb:fn.body=some c:=by rfl) (hrs:fn.results=rs.toArray:=by rfl) (hargs:args.length≤n:=by exact sL2)
  (hk:Lv l (argsF args)=fr':=by exact sL0):ACallO P g args H post:=
 ACallO.ofBody hf hb hrs hn hargs (fun d=>AW.keep l hk (h d))
/-- The end of such a body. -/
theorem K.finO {rs:List ResultVar} {n:Nat} {post:AV→List AObj→Prop} {r:AV} {rv:ResultVar} {st:St} (j:Nat) (hres:ResV P st rv r) (hp:post r (st.up++st.own.take j)) (hlow:Low (n+j) r) (hobj:∀x∈st.up++st.own.take j,ObjLow (n+j) x)
  (hd:st.defs=[]:=by rfl) (hr:rs=[rv]:=by rfl) (hj:j≤st.own.length:=by simp):FO P rs n post .ret st:=⟨.inr rfl,hd,r,rv,j,hr,hres,hlow,hobj,hj,hp⟩
/-- A call of such a function. -/
theorem R.callO {g:FuncId} {xs:List Operand} {ats:Array TypeId} {args:List AV} {post:AV→List AObj→Prop} (hcall:∀args w,(callFunc g args).run P w=.ok (.enter g args) w)
  (h:ACallO P g args (up++own) post) (hp:∀r H',post r H'→∃O,H'=up++(own++O)∧ARun P d ops rest ⟨sz,A4 s r fr,up,own++O,dfs,rnd⟩ Q)
  (ha:xs.map (Bw fr)=args:=by exact sL0) (hs:Nat.blt s sz=true:=by rfl):
  ARun P d ops (⟨some s,.call ⟨.value (.func g),xs.toArray,ats⟩,ty,pos,aft,none⟩::rest) ⟨sz,fr,up,own,dfs,rnd⟩ Q:=by
 refine jl rfl (Q1:=fun s'=>ARun P d ops rest s' Q) ?_ (fun s' e=>e)
 intro G a w hr Q'
 have hs:s<sz:=by simpa using hs
 have hxr:=Ni hr xs
 have ha':xs.map (St.ev ⟨sz,fr,up,own,dfs,rnd⟩)=args:=ha
 rw [ha'] at hxr
 have hrun:(execOp a.eval (⟨some s,.call ⟨.value (.func g),xs.toArray,ats⟩,ty,pos,aft,none⟩:Oper)).run P w=.ok (.enter g (xs.map a.eval).toArray) w:=by
  have:=Lg (P:=P) (dst:=some s) (ty:=ty) (pos:=pos) (aft:=aft) (gd:=none) (ats:=ats) (f:=.func g) (xs:=xs) (g:=g) (va:=#[]) (vc:=#[]) (a:=a) (w:=w) hcall rfl
  simpa using this
 refine Lf (by intro c h;cases h) hrun (h d G w _ (by rw [←ha'];simp) (fun i y u hy hu=>(hxr i y u hy hu).lift) hr.heap hr.tags hr.top) ?_
 rintro e w' ⟨v,G',r,H',rfl,hrep,hH,hT,hk,hpo⟩
 obtain ⟨O,rfl,hrn⟩:=hp r H' hpo
 have h3:=hr.called (U:=up) (O:=own++O) hH hT hk rfl rfl (fun o ho=>by
  have:=hr.defsAt o ho
  rw [←C9,De (Ac.1 this).1]
  exact this) hr.low
 obtain ⟨h4,k4⟩:=h3.took hrep.lift (s:=s) hs
 exact ⟨v,rfl,_,_,h4,(hk.less (Jv d)).trans k4,rfl,rfl,rfl,hrn⟩
end
end Go.SX
