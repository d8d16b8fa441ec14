/- On the way (part 12). -/
import Derived.Test.YtlafnblklafbkaaGreatDoorMigParsesCardSaidPart11
set_option linter.all false
namespace Go.SX.Nb
open Go Go.SX Go.Proofs
variable [ErrAt]
set_option maxRecDepth 4000
theorem AAd (c:UInt8):Cr c=((Cw c || By c) || (((c.toNat:Nat):Int)==95)):=by
 unfold Cr
 have:(((c.toNat:Nat):Int)==95)=(c==95):=by
  rw [N3,beq_iff_eq,beq_iff_eq]
  exact ⟨fun h=>F5.1 (by show c.toNat=95;omega),fun h=>by rw [h];rfl⟩
 rw [this]
theorem AAe (c:UInt8):((((c.toNat:Nat):Int)==61)=(c==61))∧((((c.toNat:Nat):Int)==60)=(c==60))∧((((c.toNat:Nat):Int)==62)=(c==62))∧((((c.toNat:Nat):Int)==33)=(c==33)):=by
 have:=Q0 (p:=fun c=>((((c.toNat:Nat):Int)==61)==(c==61))&&(((((c.toNat:Nat):Int)==60)==(c==60))&&(((((c.toNat:Nat):Int)==62)==(c==62))&&((((c.toNat:Nat):Int)==33)==(c==33))))) (by kernel_rfl) c
 simpa only [Ah,beq_iff_eq] using this
theorem sh (c:UInt8):(((((c.toNat:Nat):Int)==32) || (((c.toNat:Nat):Int)==9)) || (((c.toNat:Nat):Int)==10))=blanks.contains c:=by
 have:=Q0 (p:=fun c=>(((((c.toNat:Nat):Int)==32) || (((c.toNat:Nat):Int)==9)) || (((c.toNat:Nat):Int)==10))==blanks.contains c) (by kernel_rfl) c
 simpa using this
abbrev pA (s:Str) (p:Nat):UInt8:=s.getD p 0
theorem Ue {s:Str} {p:Nat} (h:p<s.length):s.drop p=pA s p::s.drop (p+1):=by rw [Jg h,pA,getD_eq h]
/-- What the reference ARg at a place. -/
def rwA (s:Str) (p:Nat):Int×Str×Nat×Int:=ml (s.drop p)
theorem ARa {s:Str} {p:Nat} (hp:p<s.length) (h:Cw (pA s p)=true):rwA s p=(if D8 ((s.drop p).takeWhile Cr) then 2 else 1,(s.drop p).takeWhile Cr,E0 Cr (s.drop p),if D8 ((s.drop p).takeWhile Cr) then 0 else if 16<E0 Cr (s.drop p) then 3 else 0):=by
 unfold rwA;rw [Ue hp];exact xr h
theorem ARb {s:Str} {p:Nat} (hp:p<s.length) (h:Cw (pA s p)=false) (h2:By (pA s p)=true):rwA s p=(3,(s.drop p).takeWhile By,E0 By (s.drop p),if (B6 ((s.drop p).takeWhile By)).2==6 then 7 else (B6 ((s.drop p).takeWhile By)).2):=by
 unfold rwA;rw [Ue hp];exact xt h h2
theorem ARc {s:Str} {p z:Nat} {b:Str} (hp:p<s.length) (h:Cw (pA s p)=false) (h2:By (pA s p)=false) (h3:pA s p=39) (hz:p+1≤z) (hq:C6 (s.drop (p+1))=(b,z-(p+1))):rwA s p=(4,b,z+1-p,if s.length≤z then 7 else if 200<b.length then 3 else 0):=by
 unfold rwA;rw [Ue hp,xu h h2 h3,hq]
 have e1:(s.drop (p+1)).length≤z-(p+1)↔s.length≤z:=by rw [Dh];omega
 have e2:z-(p+1)+2=z+1-p:=by omega
 simp only [e1,e2]
theorem ARd {s:Str} {p:Nat} (hp:p<s.length) (h:Cw (pA s p)=false) (h2:By (pA s p)=false) (h3:pA s p≠39):rwA s p=(5,(s.drop p).take (I3 (s.drop p)),I3 (s.drop p),if I3 (s.drop p)=2∨singles.contains (pA s p)=true then 0 else 7):=by
 unfold rwA;rw [Ue hp];exact xv h h2 h3
theorem AAf {s:Str} {p:Nat} (hp:p<s.length):I3 (s.drop p)=if ((decide (((p:Nat):Int)+1<((s.length:Nat):Int))&&((((s.getD (p+1) 0).toNat:Nat):Int)==61))&&(((((s.getD p 0).toNat:Nat):Int)==60 || (((s.getD p 0).toNat:Nat):Int)==62) || (((s.getD p 0).toNat:Nat):Int)==33))=true then 2 else 1:=by
 rw [(AAe (s.getD (p+1) 0)).1,(AAe (s.getD p 0)).2.1,(AAe (s.getD p 0)).2.2.1,(AAe (s.getD p 0)).2.2.2]
 rcases Aw (p+1) s.length with h|h
 ·rw [Ue hp,Ue h]
  unfold I3
  rw [decide_eq_true (show ((p:Nat):Int)+1<((s.length:Nat):Int) by omega)]
  simp only [D0,Ah,Cz,beq_iff_eq,or_assoc]
 rw [Ue hp,M7.2 h,decide_eq_false (show ¬((p:Nat):Int)+1<((s.length:Nat):Int) by omega)]
 rfl
theorem ALa {s:Str} {p:Nat} (hp:p<s.length):p+I3 (s.drop p)≤s.length:=by
 rw [AAf hp]
 split
 ·rename_i h
  simp only [Ah,decide_eq_true_eq] at h
  omega
 omega
theorem AI3 {p n:Nat}:((((p+n:Nat):Int)-(p:Int))==2)=decide (n=2):=by
 rw [N3,beq_iff_eq,decide_eq_true_iff]
 omega
/-- The word at a place is the one that the lexer ARg there. -/
theorem AO1 {s:Str} {k p:Nat} (hl4:¬4000<s.length) (h:Qk s k p) (hp:p<s.length) (he:(rwA s p).2.2.2≠0):C4 s=([],(rwA s p).2.2.2,p):=by
 have hne:s.drop p≠[]:=fun e=>by have:=M7.1 e;omega
 have hs:=Xg hne
 have e:(wAt s p).2.2.2=(rwA s p).2.2.2:=hs.1.symm
 rw [gc hl4 (L0 h hp) (by rw [e];exact he) h.2.2,e]
theorem ARe {s:Str} {k p:Nat} (h:Qk s k p) (hp:p<s.length) (he:(rwA s p).2.2.2=0):I5 s (k+1)=I5 s k++[⟨(rwA s p).1,(rwA s p).2.1,p⟩]∧Kn false s (k+1) (p+(rwA s p).2.2.1)∧1≤(rwA s p).2.2.1:=by
 have hne:s.drop p≠[]:=fun e=>by have:=M7.1 e;omega
 have hs:=Xg hne
 have hw:(wAt s p).2.2.2=0:=hs.1.symm.trans he
 have e:wAt s p=((rwA s p).1,(rwA s p).2.1,((rwA s p).2.2.1:Int),0):=hs.2 hw
 refine ⟨?_,xp h hp hw (by rw [e]),?_⟩
 ·rw [ba (L0 h hp),e]
 obtain ⟨n,hn,h1,_⟩:=Ut (s:=s.drop p) (by rw [Dh];omega) hw
 have:(Bi (s.drop p)).2.2.1=((rwA s p).2.2.1:Int):=by have:=congrArg (·.2.2.1) e;exact this
 omega
theorem ADr {s:Str} {p n:Nat}:(s.take (p+n)).drop p=(s.drop p).take n:=by rw [sw,Pj]
theorem ALb {n:Nat} {t:TypeId} {a b:Int}:∀x∈[AObj.cells t [A7 a,A7 b]],ObjLow n x:=by
 intro x hx
 rw [C1.1 hx]
 show ∀y∈[A7 a,A7 b],Low n y
 simp
theorem si {l:Str} {j:Nat} (h:j<l.length) (c:UInt8):(l.take (j+1)).contains c=((l.take j).contains c || (((l[j].toNat:Nat):Int)==((c.toNat:Nat):Int))):=by
 rw [Ld h,N3]
 simp only [sr,Di,C1,Cz,beq_iff_eq]
 constructor
 ·rintro (h|h)
  ·exact .inl h
  exact .inr (by rw [h])
 rintro (h|h)
 ·exact .inl h
 exact .inr (F5.1 (by omega))
theorem c24 (s:Str) (hs:s.length≤1048576) (Hp:List AObj):AFun Tryz.prog 24 [Ac s] Hp (.tup [Us (C4 s).1,.agg [A7 (C4 s).2.1,A7 (C4 s).2.2]]):=by
 refine B0 [.tmp 2,.cell 3 26] [0] Tryz.func24 Tryz.ntmps24 (fun d=>?_)
 refine AEn ?_;refine Qm ?_;refine Z50 ?_;refine A2 [0,3,16] ?_
 refine A6 (fun ht16=>?_) (fun ht16=>?_)
 ·have hlm:C4 s=([],3,0):=by unfold C4;rw [if_pos (by simp at ht16;omega)]
  refine APh ?_;refine A3 ?_;refine R.nilTmp 2 3 false ?_;refine Ho ?_;refine Z60 ?_;exact Ab (Es Ag (B5 jA jS)) ⟨by rw [hlm]<;>rfl,rfl⟩
 have hl4:¬4000<s.length:=by simp at ht16;omega
 refine Y8 ?_;refine AB3 ?_;refine la ?_;refine Z2 ?_;refine o4 ?_;refine Hw ?_
 refine Bo (α:=Nat×Nat) (fun x=>⟨248,A9 0 (Ac s) (A9 3 (.ptr (oid Hp.length 0) 0) (A9 4 (.slice true 3 ((I5 s x.1).map En)) (A9 5 (A7 (x.2:Nat)) (fun _=>.any)))),Hp,[.cells 26 [A7 0,A7 0]],[],none⟩) (fun x=>Kn false s x.1 x.2) (fun x=>s.length-x.2) ((0,0)) (xm s) (Ar (by simp [I5])) rfl (fun x hx=>?_)
 refine Z42 ?_;refine A2 [0,3,4,5,22] ?_
 refine A6 (fun ht22=>?_) (fun ht22=>?_)
 ·have hxl:x.2<s.length:=by simpa using ht22
  refine Z4 ?_;refine Z84 ?_
  refine A3 (h:=F8 (x.2) (s.getD (x.2) 0) (fun _=>Gw hxl)) (hr:=?_)
  refine A3 ?_;refine A2 [0,3,4,5,6] ?_;refine Z50 ?_;refine Z6 ?_;refine Z30 ?_;refine A3 ?_;refine A2 [0,3,4,5,6,35] ?_
  refine A6 (fun ht35=>?_) (fun ht35=>?_)
  ·have hbl:=sd hx hxl (by rw [sh] at ht35;rw [←getD_eq hxl];exact ht35)
   refine Z16 ?_;refine o4 ?_;refine Z23 ?_;refine K.blE ?_
   first|exact Be (x.1,x.2+1) hbl (by show s.length-(x.2+1)<s.length-x.2;omega) (Bp rfl)|exact Be (x.1,z) hoff (by show s.length-z<s.length-x.2;omega) (Bp rfl)
  have hnb:blanks.contains s[x.2]=false:=by rw [sh] at ht35;rw [←getD_eq hxl];exact ht35
  refine Z4 ?_;refine Z9 ?_;refine A2 [0,3,4,5,6,39] ?_
  refine A6 (fun ht39=>?_) (fun ht39=>?_)
  ·refine Eh [0,3,4,5] ?_
   have h35:s[x.2]=35:=by rw [←getD_eq hxl];rw [beq_iff_eq] at ht39;exact F5.1 (by show (s.getD x.2 0).toNat=35;omega)
   refine Hw ?_
   refine Bo (α:=Nat) (fun z=>⟨248,A9 0 (Ac s) (A9 3 (.ptr (oid Hp.length 0) 0) (A9 4 (.slice true 3 ((I5 s x.1).map En)) (A9 5 (A7 (z:Nat)) (fun _=>.any)))),Hp,[.cells 26 [A7 0,A7 0]],[],none⟩) (fun z=>Kn true s x.1 z∧x.2≤z∧(z=x.2→s.getD z 0≠10)) (fun z=>s.length-z) (x.2) ⟨xn hx hxl h35,Ae _,fun _=>by rw [getD_eq hxl,h35];decide⟩ (Gk _) rfl (fun z hz=>?_)
   refine Tt ?_;refine Z6 ?_
   refine Bk (h:=F8 (z) (s.getD (z) 0) ?hb) (hr:=?_)
   case hb=>exact fun hB=>Gw (by simp at hB;omega)
   refine Z55 ?_;refine A2 [0,3,4,5,49] ?_
   refine A6 (fun ht49=>?_) (fun ht49=>?_)
   ·have hzl:z<s.length:=by simp only [Ah,decide_eq_true_eq] at ht49;omega
    have hz10:s[z]≠10:=by intro e;simp only [Ah,bne_iff_ne,ne_eq] at ht49;exact ht49.2 (by rw [getD_eq hzl,e];rfl)
    refine ec ?_;refine Z15 ?_;refine o4 ?_;refine Hh ?_;exact Be (z+1) ⟨AI0 hz.1 hzl hz10,by have:=hz.2.1;omega,fun h=>by have:=hz.2.1;omega⟩ (by omega) (Bp rfl)
   refine Eh [0,3,4,5] ?_
   have hoff:Kn false s x.1 z:=ADn hz.1 (by
    rcases Aw z s.length with h|h
    ·refine .inr ⟨h,?_⟩
     have:=ht49
     rw [decide_eq_true (by omega),D0,bne_eq_false_iff_eq,getD_eq h] at this
     exact F5.1 (by show s[z].toNat=10;omega)
    exact .inl h)
   have hzx:x.2<z:=by
    rcases Aw x.2 z with h|h
    ·exact h
    exfalso
    have he:z=x.2:=by omega
    have:=ht49
    subst he
    rw [decide_eq_true (by omega),D0,bne_eq_false_iff_eq,getD_eq hxl,h35] at this
    exact absurd this (by decide)
   refine Z41 ?_;refine Z23 ?_;refine K.blE ?_
   first|exact Be (x.1,x.2+1) hbl (by show s.length-(x.2+1)<s.length-x.2;omega) (Bp rfl)|exact Be (x.1,z) hoff (by show s.length-z<s.length-x.2;omega) (Bp rfl)
  have h35:s[x.2]≠35:=by intro e;rw [beq_eq_false_iff_ne] at ht39;refine ht39 ?_;rw [getD_eq hxl,e];rfl
  have hlx:=jn hx (.inr ⟨hxl,hnb,h35⟩)
  refine nw ?_;refine A2 [0,3,4,5,6,7] ?_;refine Z82 ?_;refine Z11 ?_;refine A2 [0,3,4,5,6,7,8] ?_;refine Z2 ?_;refine AEv ?_
  refine Ih ⟨248,A9 0 (Ac s) (A9 3 (.ptr (oid Hp.length 0) 0) (A9 4 (.slice true 3 ((I5 s x.1).map En)) (A9 5 (A7 (x.2:Nat)) (A9 7 (A7 ((x.2+(rwA s x.2).2.2.1:Nat):Int)) (A9 8 (.ptr (oid Hp.length 1) 0) (A9 9 (A7 (rwA s x.2).2.2.2) (fun _=>.any))))))),Hp,[.cells 26 [A7 0,A7 0],.cells 59 [A7 (rwA s x.2).1,Ac (rwA s x.2).2.1,A7 (x.2:Nat)]],[],none⟩ ?_ ?_
  ·refine Z2 ?_;refine Ap Tryz.call51 (c51 (pA s x.2) _) ?_;refine A2 [0,3,4,5,6,7,8,9,56] ?_
   refine A6 (fun ht56=>?_) (fun ht56=>?_)
   ·refine Eh [0,3,4,5,7,8,9] ?_
    have hr0:=ARa hxl ht56
    refine Hw ?_
    refine Bo (α:=Nat) (fun z=>⟨248,A9 0 (Ac s) (A9 3 (.ptr (oid Hp.length 0) 0) (A9 4 (.slice true 3 ((I5 s x.1).map En)) (A9 5 (A7 (x.2:Nat)) (A9 7 (A7 (z:Nat)) (A9 8 (.ptr (oid Hp.length 1) 0) (A9 9 (A7 0) (fun _=>.any))))))),Hp,[.cells 26 [A7 0,A7 0],.cells 59 [A7 0,Ac [],A7 (x.2:Nat)]],[],none⟩) (fun z=>x.2≤z∧z≤x.2+E0 Cr (s.drop x.2)) (fun z=>s.length-z) (x.2) ⟨Ae _,Pk _ _⟩ (Gk _) rfl (fun z hz=>?_)
    refine Tt ?_;refine Z6 ?_
    refine Bk (h:=F8 (z) (s.getD (z) 0) ?hb) (hr:=?_)
    case hb=>exact fun hB=>Gw (by simp at hB;omega)
    refine D9 Tryz.call51 (fun hB=>c51 (s.getD z 0) _) ?_;refine Z6 ?_;refine Bk ?_
    refine Bk (h:=F8 (z) (s.getD (z) 0) ?hb) (hr:=?_)
    case hb=>exact fun hB=>Gw (by simp at hB;omega)
    refine D9 Tryz.call52 (fun hB=>c52 (s.getD z 0) _) ?_;refine l9 ?_
    refine Bk (h:=F8 (z) (s.getD (z) 0) ?hb) (hr:=?_)
    case hb=>exact fun hB=>Gw (by simp at hB;omega)
    refine Z77 ?_;refine A2 [0,3,4,5,7,8,9,78] ?_
    refine A6 (fun ht78=>?_) (fun ht78=>?_)
    ·have hzl:z<s.length:=by simp only [Ah,decide_eq_true_eq] at ht78;omega
     have hzq:Cr (s.getD z 0)=true:=by rw [←AAd,Ah] at ht78;exact ht78.2
     refine ec ?_;refine Z15 ?_;refine ABb ?_;exact AOb
    have hze:z=x.2+E0 Cr (s.drop x.2):=se hz.1 hz.2 (by
     rcases Aw z s.length with h|h
     ·right;rw [←AAd,decide_eq_true (by omega),D0] at ht78;exact ht78
     exact .inl h)
    subst hze
    refine Z41 ?_;refine Fe [0,0,0,7,0,16,63,127] [5] [.q 5 [] [],.s [] (some 0) [] []] (fun _=>Hp) (fun B=>[.cells 26 [A7 0,A7 0],.cells 59 (if B 0=true then [A7 1,Ac [],A7 (x.2:Nat)] else [A7 0,Ac [],A7 (x.2:Nat)])]) Af (by kernel_rfl) rfl rfl (fun _=>rfl) ?_
    apply Y.q
    ·intro B hT hF
     refine Z19 ?_
     refine Am (h:=Q.scutLH x.2 (x.2+E0 Cr (s.drop x.2)) (fun _=>Pk _ _) (fun _=>Zs (Uj hxl))) (hr:=?_)
     exact Z29
    case hTF=>decide
    refine So (u:=Hp.length) (n:=1) (t':=59) (cs:=[A7 0,Ac [],A7 (x.2:Nat)]) (cs':=[A7 1,Ac [],A7 (x.2:Nat)]) Tryz.sizeOf3 (fun B hB=>⟨rfl,by simp only [hB];rfl,by simp [upd],rfl⟩) ?_
    refine Dj (tn:=[5]) (O:=[.cells 26 [A7 0,A7 0],.cells 59 [A7 1,Ac [],A7 (x.2:Nat)]]) ?_;refine Z45 ?_;refine ABb ?_;refine Ei ?_
    rw [jq]
    refine Z0 ?_;refine Ap Tryz.call53 (c53 ((s.drop x.2).takeWhile Cr) _) ?_;refine A2 [0,3,4,5,7,8,9,89] ?_
    refine A6 (fun ht89=>?_) (fun ht89=>?_)
    ·have er:rwA s x.2=(2,(s.drop x.2).takeWhile Cr,E0 Cr (s.drop x.2),0):=by rw [hr0,if_pos ht89,if_pos ht89]
     refine Z32 ?_;refine Ho ?_;refine Z76 ?_
     rw [er]
     first|exact Ar (by rfl)|(simp only [hyp];exact Ar (by rfl))
    have hsl:=Zs (q:=Cr) (Uj hxl)
    refine Z33 ?_;refine A2 [0,3,4,5,7,8,9,94] ?_
    refine A6 (fun ht94=>?_) (fun ht94=>?_)
    ·have er:rwA s x.2=(1,(s.drop x.2).takeWhile Cr,E0 Cr (s.drop x.2),3):=by rw [hr0,if_neg (by rw [ht89];simp),if_neg (by rw [ht89];simp),if_pos (by simp at ht94;omega)]
     refine Z32 ?_;refine Z76 ?_
     rw [er]
     first|exact Ar (by rfl)|(simp only [hyp];exact Ar (by rfl))
    have er:rwA s x.2=(1,(s.drop x.2).takeWhile Cr,E0 Cr (s.drop x.2),0):=by rw [hr0,if_neg (by rw [ht89];simp),if_neg (by rw [ht89];simp),if_neg (by simp at ht94;omega)]
    refine AMi ?_
    rw [er]
    first|exact Ar (by rfl)|(simp only [hyp];exact Ar (by rfl))
   refine Z2 ?_;refine Ap Tryz.call52 (c52 (pA s x.2) _) ?_;refine A2 [0,3,4,5,6,7,8,9,96] ?_
   refine A6 (fun ht96=>?_) (fun ht96=>?_)
   ·refine Eh [0,3,4,5,7,8] ?_
    have hr0:=ARb hxl ht56 ht96
    refine Hw ?_
    refine Bo (α:=Nat) (fun z=>⟨248,A9 0 (Ac s) (A9 3 (.ptr (oid Hp.length 0) 0) (A9 4 (.slice true 3 ((I5 s x.1).map En)) (A9 5 (A7 (x.2:Nat)) (A9 7 (A7 (z:Nat)) (A9 8 (.ptr (oid Hp.length 1) 0) (fun _=>.any)))))),Hp,[.cells 26 [A7 0,A7 0],.cells 59 [A7 0,Ac [],A7 (x.2:Nat)]],[],none⟩) (fun z=>x.2≤z∧z≤x.2+E0 By (s.drop x.2)) (fun z=>s.length-z) (x.2) ⟨Ae _,Pk _ _⟩ (Gk _) rfl (fun z hz=>?_)
    refine Tt ?_;refine Z6 ?_
    refine Bk (h:=F8 (z) (s.getD (z) 0) ?hb) (hr:=?_)
    case hb=>exact fun hB=>Gw (by simp at hB;omega)
    refine D9 Tryz.call52 (fun hB=>c52 (s.getD z 0) _) ?_;refine A3 ?_;refine A2 [0,3,4,5,7,8,106] ?_
    refine A6 (fun ht106=>?_) (fun ht106=>?_)
    ·have hzl:z<s.length:=by simp only [Ah,decide_eq_true_eq] at ht106;omega
     have hzq:By (s.getD z 0)=true:=by rw [Ah] at ht106;exact ht106.2
     refine ec ?_;refine Z15 ?_;refine A2 [0,3,4,5,7,8] ?_;exact AOb
    have hze:z=x.2+E0 By (s.drop x.2):=se hz.1 hz.2 (by
     rcases Aw z s.length with h|h
     ·right;rw [decide_eq_true (by omega),D0] at ht106;exact ht106
     exact .inl h)
    subst hze
    refine Z41 ?_;refine Fe [0,0,0,7,0,16,63,127] [5] [.q 5 [] [],.s [] (some 0) [] []] (fun _=>Hp) (fun B=>[.cells 26 [A7 0,A7 0],.cells 59 (if B 0=true then [A7 3,Ac [],A7 (x.2:Nat)] else [A7 0,Ac [],A7 (x.2:Nat)])]) Af (by kernel_rfl) rfl rfl (fun _=>rfl) ?_
    apply Y.q
    ·intro B hT hF
     refine Z19 ?_
     refine Am (h:=Q.scutLH x.2 (x.2+E0 By (s.drop x.2)) (fun _=>Pk _ _) (fun _=>Zs (Uj hxl))) (hr:=?_)
     exact Z29
    case hTF=>decide
    refine So (u:=Hp.length) (n:=1) (t':=59) (cs:=[A7 0,Ac [],A7 (x.2:Nat)]) (cs':=[A7 3,Ac [],A7 (x.2:Nat)]) Tryz.sizeOf3 (fun B hB=>⟨rfl,by simp only [hB];rfl,by simp [upd],rfl⟩) ?_
    refine Dj (tn:=[5]) (O:=[.cells 26 [A7 0,A7 0],.cells 59 [A7 3,Ac [],A7 (x.2:Nat)]]) ?_;refine Z45 ?_;refine A2 [0,3,4,5,7,8] ?_;refine Ei ?_
    rw [jq]
    refine Z0 ?_
    refine Ap Tryz.call54 (c54 ((s.drop x.2).takeWhile By) (by have h1:=Zs (q:=By) (Uj hxl);unfold E0 at h1;omega) _) ?_
    refine Z67 ?_;refine ABb ?_;refine Z1 ?_;refine A2 [0,3,4,5,7,8,9,122] ?_
    refine A6 (fun ht122=>?_) (fun ht122=>?_)
    ·have er:rwA s x.2=(3,(s.drop x.2).takeWhile By,E0 By (s.drop x.2),7):=by rw [hr0,if_pos ht122]
     refine Z32 ?_;refine Z76 ?_
     rw [er]
     first|exact Ar (by rfl)|(simp only [hyp];exact Ar (by rfl))
    have er:rwA s x.2=(3,(s.drop x.2).takeWhile By,E0 By (s.drop x.2),(B6 ((s.drop x.2).takeWhile By)).2):=by rw [hr0,if_neg (by rw [ht122];simp)]
    refine AMi ?_
    rw [er]
    first|exact Ar (by rfl)|(simp only [hyp];exact Ar (by rfl))
   refine Z1 ?_;refine A2 [0,3,4,5,6,7,8,9,124] ?_
   refine A6 (fun ht124=>?_) (fun ht124=>?_)
   ·have h39:pA s x.2=39:=F5.1 (by show (s.getD x.2 0).toNat=39;simp only [beq_iff_eq] at ht124;omega)
    refine Ei ?_;refine AB3 ?_;refine AEw ?_;refine Z16 ?_;refine AEw ?_;refine Hw ?_
    refine Bo (α:=Nat×Str) (fun y=>⟨248,A9 0 (Ac s) (A9 3 (.ptr (oid Hp.length 0) 0) (A9 4 (.slice true 3 ((I5 s x.1).map En)) (A9 5 (A7 (x.2:Nat)) (A9 7 (A7 (y.1:Nat)) (A9 8 (.ptr (oid Hp.length 1) 0) (A9 9 (A7 0) (A9 10 (.slice true 1 (y.2.map u8A)) (fun _=>.any)))))))),Hp,[.cells 26 [A7 0,A7 0],.cells 59 [A7 0,Ac [],A7 (x.2:Nat)]],[],none⟩) (fun y=>QAt s x.2 y.1 y.2) (fun y=>s.length-y.1) ((x.2+1,[])) (QAt.start hxl) (Ar (by simp)) rfl (fun y hy=>?_)
    have hyhi:=hy.hi
    have hylo:=hy.lo
    have hyln:=hy.len
    refine Tt ?_;refine Z6 ?_
    refine Bk (h:=F8 (y.1) (s.getD (y.1) 0) ?hb) (hr:=?_)
    case hb=>exact fun hB=>Gw (by simp at hB;omega)
    refine l9 ?_;refine l9 ?_;refine Z6 ?_;refine Bk ?_
    refine Bk (h:=F8 (y.1+1) (s.getD (y.1+1) 0) ?hb) (hr:=?_)
    case hb=>exact fun hB=>Gw (by simp at hB;omega)
    refine Z6 ?_;refine Z55 ?_;refine A2 [0,3,4,5,7,8,9,10,151] ?_
    refine A6 (fun ht151=>?_) (fun ht151=>?_)
    ·have hyl:y.1<s.length:=by simp only [Ah,decide_eq_true_eq] at ht151;omega
     refine ec ?_;refine Ei ?_;refine R.moveT ?_;refine Z0 ?_
     refine A3 (h:=F8 (y.1) (s.getD (y.1) 0) (fun _=>Gw hyl)) (hr:=?_)
     refine Rg ?_
     refine N9 jU Tryz.type5 ?_ ?_ ?_
     ·have:=hy.len;have:=hy.hi;simp [Tryz.t5]<;>omega
     ·have:=hy.len;have:=hy.hi;simp [Tryz.t5]<;>omega
     refine Tp ?_;refine AEw ?_;refine Z9 ?_
     refine A3 (h:=F8 (y.1) (s.getD (y.1) 0) (fun _=>Gw hyl)) (hr:=?_)
     refine A3 ?_;refine A2 [0,3,4,5,7,8,9,10,161] ?_
     refine A6 (fun ht161=>?_) (fun ht161=>?_)
     ·have hq:s.getD y.1 0=39:=F5.1 (by show (s.getD y.1 0).toNat=39;simp only [beq_iff_eq] at ht161;omega)
      have h2:y.1+1<s.length∧s.getD (y.1+1) 0=39:=by
       have h9:=ht151
       simp only [Ah,Cz,decide_eq_true_eq,bne_iff_ne,beq_iff_eq,ne_eq] at h9
       rcases h9.2 with h|h
       ·exact absurd (by rw [hq];rfl) h
       exact ⟨by omega,F5.1 (by show (s.getD (y.1+1) 0).toNat=39;omega)⟩
      have hon:=hy.two h2.1 hq h2.2
      refine AMg ?_;refine Ig ?_;refine AMg ?_;refine Hh ?_
      first|exact Be (y.1+1+1,y.2++[s.getD y.1 0]) (hy.two h2.1 hq h2.2) (by show s.length-(y.1+1+1)<s.length-y.1;omega) (Bp (by simp only [Cu];rfl))|exact Be (y.1+1,y.2++[s.getD y.1 0]) hon (by show s.length-(y.1+1)<s.length-y.1;omega) (Bp (by simp only [Cu];rfl))
     have hon:=hy.one hyl (by intro e;rw [beq_eq_false_iff_ne] at ht161;exact ht161 (by rw [e];rfl))
     refine Z4 ?_;refine AMg ?_;refine Hh ?_
     first|exact Be (y.1+1+1,y.2++[s.getD y.1 0]) (hy.two h2.1 hq h2.2) (by show s.length-(y.1+1+1)<s.length-y.1;omega) (Bp (by simp only [Cu];rfl))|exact Be (y.1+1,y.2++[s.getD y.1 0]) hon (by show s.length-(y.1+1)<s.length-y.1;omega) (Bp (by simp only [Cu];rfl))
    have hout:=hy.out (by
     rcases Aw y.1 s.length with h|h
     ·right
      have h9:=ht151
      rw [decide_eq_true (by omega),D0,Hb,bne_eq_false_iff_eq] at h9
      refine ⟨F5.1 (by show (s.getD y.1 0).toNat=39;omega),?_⟩
      rcases Aw (y.1+1) s.length with h1|h1
      ·right
       have h8:=h9.2
       rw [decide_eq_true (by omega),D0,beq_eq_false_iff_ne] at h8
       intro e
       exact h8 (by rw [e];rfl)
      exact .inl h1
     exact .inl h)
    have hr0:=ARc hxl ht56 ht96 h39 hy.lo hout
    have hyp:x.2+(y.1+1-x.2)=y.1+1:=by have:=hy.lo;omega
    refine Z41 ?_;refine Fe [0,1,0,4,15,31] [3] [.q 3 [] [],.s [] (some 0) [] []] (fun _=>Hp) (fun B=>[.cells 26 [A7 0,A7 0],.cells 59 (if B 0=true then [A7 4,Ac [],A7 (x.2:Nat)] else [A7 0,Ac [],A7 (x.2:Nat)])]) Af (by kernel_rfl) rfl rfl (fun _=>rfl) ?_
    apply Y.q
    ·intro B hT hF
     refine Am ?_;refine D.bytesStr y.2 jU jU jU ?_;exact Z29
    case hTF=>decide
    refine So (u:=Hp.length) (n:=1) (t':=59) (cs:=[A7 0,Ac [],A7 (x.2:Nat)]) (cs':=[A7 4,Ac [],A7 (x.2:Nat)]) Tryz.sizeOf3 (fun B hB=>⟨rfl,by simp only [hB];rfl,by simp [upd],rfl⟩) ?_
    refine Dj (tn:=[3]) (O:=[.cells 26 [A7 0,A7 0],.cells 59 [A7 4,Ac [],A7 (x.2:Nat)]]) ?_;refine Z45 ?_;refine AEw ?_;refine Z42 ?_;refine A2 [0,3,4,5,7,8,9,10,173] ?_
    refine A6 (fun ht173=>?_) (fun ht173=>?_)
    ·have er:rwA s x.2=(4,y.2,y.1+1-x.2,7):=by rw [hr0,if_pos (by simp at ht173;omega)]
     refine Z32 ?_;refine ABb ?_;refine Ig ?_;refine Z15 ?_;refine Z76 ?_
     rw [er]
     first|exact Ar (by rfl)|(simp only [hyp];exact Ar (by rfl))
    refine Z16 ?_;refine A2 [0,3,4,5,7,8,9,176] ?_
    refine A6 (fun ht176=>?_) (fun ht176=>?_)
    ·have er:rwA s x.2=(4,y.2,y.1+1-x.2,3):=by rw [hr0,if_neg (by simp at ht173;omega),if_pos (by simp at ht176;omega)]
     refine Z32 ?_;refine ABb ?_;refine Ig ?_;refine Z15 ?_;refine Z76 ?_
     rw [er]
     first|exact Ar (by rfl)|(simp only [hyp];exact Ar (by rfl))
    have er:rwA s x.2=(4,y.2,y.1+1-x.2,0):=by rw [hr0,if_neg (by simp at ht173;omega),if_neg (by simp at ht176;omega)]
    refine Z4 ?_;refine Z15 ?_;refine Z76 ?_
    rw [er]
    first|exact Ar (by rfl)|(simp only [hyp];exact Ar (by rfl))
   have h39:pA s x.2≠39:=by intro e;rw [beq_eq_false_iff_ne] at ht124;exact ht124 (by rw [show s.getD x.2 0=39 from e];rfl)
   have hr0:=ARd hxl ht56 ht96 h39
   have hsa:=AAf hxl
   refine Z2 ?_;refine Ho ?_;refine AEv ?_;refine Z16 ?_;refine AEv ?_
   refine Ih ⟨248,A9 0 (Ac s) (A9 3 (.ptr (oid Hp.length 0) 0) (A9 4 (.slice true 3 ((I5 s x.1).map En)) (A9 5 (A7 (x.2:Nat)) (A9 6 (.v (.int .u8 (pA s x.2).toNat)) (A9 7 (A7 ((x.2+(I3 (s.drop x.2)):Nat):Int)) (A9 8 (.ptr (oid Hp.length 1) 0) (A9 9 (A7 0) (fun _=>.any)))))))),Hp,[.cells 26 [A7 0,A7 0],.cells 59 [A7 5,Ac [],A7 (x.2:Nat)]],[],none⟩ ?_ ?_
   ·refine Z1 ?_;refine Z7 ?_;refine Z6 ?_
    refine Bk (h:=F8 (x.2+1) (s.getD (x.2+1) 0) ?hb) (hr:=?_)
    case hb=>exact fun hB=>Gw (by simp at hB;omega)
    refine We ?_;refine l9 ?_;refine Z77 ?_;refine A2 [0,3,4,5,6,7,8,9,203] ?_
    refine A6 (fun ht203=>?_) (fun ht203=>?_)
    ·have sg:I3 (s.drop x.2)=2:=by rw [hsa,if_pos ht203]
     refine Z15 ?_;refine AEv ?_;refine Mf ?_
     rw [sg]
     exact Ar (by rfl)
    have sg:I3 (s.drop x.2)=1:=by rw [hsa,if_neg (by rw [ht203];simp)]
    refine Eh [0,3,4,5,6,7,8,9] ?_;refine Z98 ?_
    rw [sg]
    exact Ar (by rfl)
   have hsgl:=ALa hxl
   refine Z16 ?_
   refine A3 (h:=Q.scutLH x.2 (x.2+(I3 (s.drop x.2))) (fun _=>Pk _ _) (fun _=>hsgl)) (hr:=?_)
   refine Z45 ?_;refine AEv ?_;refine Ei ?_
   rw [ADr]
   refine Z89 ?_;refine A2 [0,3,4,5,6,7,8,9,11] ?_;refine Z2 ?_;refine A2 [0,3,4,5,6,7,8,9,11,12] ?_;refine Z35 ?_;refine A2 [0,3,4,5,6,7,8,9,11,12,13] ?_
   refine Bo (α:=Nat) (fun j=>⟨248,A9 0 (Ac s) (A9 3 (.ptr (oid Hp.length 0) 0) (A9 4 (.slice true 3 ((I5 s x.1).map En)) (A9 5 (A7 (x.2:Nat)) (A9 6 (.v (.int .u8 (pA s x.2).toNat)) (A9 7 (A7 ((x.2+(I3 (s.drop x.2)):Nat):Int)) (A9 8 (.ptr (oid Hp.length 1) 0) (A9 9 (A7 0) (A9 11 (Bz (decide ((I3 (s.drop x.2))=2) || (singles.take j).contains (pA s x.2))) (A9 12 (Ac singles) (A9 13 (A7 (j:Nat)) (fun _=>.any))))))))))),Hp,[.cells 26 [A7 0,A7 0],.cells 59 [A7 5,Ac ((s.drop x.2).take (I3 (s.drop x.2))),A7 (x.2:Nat)]],[],none⟩) (fun j=>j≤singles.length) (fun j=>singles.length-j) (0) (Al _) (Ar (by rw [AI3];simp<;>rfl)) rfl (fun j hj=>?_)
   have hj14:j≤14:=hj
   refine Z42 ?_;refine A2 [0,3,4,5,6,7,8,9,11,12,13,218] ?_
   refine A6 (fun ht218=>?_) (fun ht218=>?_)
   ·have hjl:j<singles.length:=by simpa using ht218
    refine Z56 ?_;refine Z21 ?_;refine Z6 ?_
    refine Bk (h:=F8 j singles[j] (fun _=>Ak hjl)) (hr:=?_)
    refine Z6 ?_;refine Z0 ?_;refine A2 [0,3,4,5,6,7,8,9,11,12,13] ?_;refine Z75 ?_;refine A2 [0,3,4,5,6,7,8,9,11,12,13] ?_;exact Be (j+1) hjl (by omega) (Bp (by rw [si hjl,sm];rfl))
   have hje:(singles.take j)=singles:=Fw (by simp at ht218;exact ht218)
   rw [hje]
   refine Z41 ?_;refine Z1 ?_;refine A2 [0,3,4,5,7,8,9,230] ?_
   refine A6 (fun ht230=>?_) (fun ht230=>?_)
   ·have er:rwA s x.2=(5,(s.drop x.2).take (I3 (s.drop x.2)),I3 (s.drop x.2),7):=by rw [hr0,if_neg (by simpa using ht230)]
    refine Z32 ?_;refine Z76 ?_
    rw [er]
    first|exact Ar (by rfl)|(simp only [hyp];exact Ar (by rfl))
   have er:rwA s x.2=(5,(s.drop x.2).take (I3 (s.drop x.2)),I3 (s.drop x.2),0):=by rw [hr0,if_pos (by have h:=ht230;simp at h;exact Decidable.or_iff_not_imp_left.2 (by simpa using h))]
   refine AMi ?_
   rw [er]
   first|exact Ar (by rfl)|(simp only [hyp];exact Ar (by rfl))
  refine Z9 ?_;refine A2 [0,3,4,5,7,8,9,232] ?_
  refine A6 (fun ht232=>?_) (fun ht232=>?_)
  ·have he:=AO1 hl4 hlx hxl (by simpa using ht232)
   refine Z1 ?_;refine ef ?_;refine A3 ?_;refine R.nilTmp 2 3 false ?_;refine Ho ?_;refine Z60 ?_;refine AB6 ?_;refine Dd ?_;exact Ab (Es Ag (B5 jA jS)) ⟨by rw [he]<;>rfl,rfl⟩
  obtain ⟨ha,hb,hc⟩:=ARe hlx hxl (by simpa using ht232)
  have hlen1:=Jz s x.1
  refine Y8 ?_;refine R.moveT ?_;refine A3 ?_;refine Rg ?_
  refine N9 jU Tryz.type59 ?_ ?_ ?_
  ·have:=Jz s x.1;simp [Tryz.t59]<;>omega
  ·have:=Jz s x.1;simp [Tryz.t59]<;>omega
  refine Tp ?_;refine A2 [0,3,4,7] ?_;refine Z21 ?_;refine o4 ?_;refine Hh ?_
  refine Be (x.1+1,x.2+(rwA s x.2).2.2.1) hb (by show s.length-(x.2+(rwA s x.2).2.2.1)<s.length-x.2;omega) ?_
  rw [ha,Cu]
  exact Oo (own:=[.cells 26 [A7 0,A7 0]]) (fun _=>.refl _) (by repeat (first|exact H3|refine H1 (by simp [or_imp,forall_and,oid]) ?_)) ALb (by simp)
 have hxe:s.length≤x.2:=by simpa using ht22
 obtain ⟨hk,hz⟩:=g9 (jn hx (.inl hxe)) hxe
 refine Z41 ?_;refine Ei ?_;refine R.moveT ?_;refine Z0 ?_;refine AOt ?_
 refine N9 jU Tryz.type59 ?_ ?_ ?_
 ·have:=Jz s x.1;simp [Tryz.t59]<;>omega
 ·have:=Jz s x.1;simp [Tryz.t59]<;>omega
 refine ef ?_;refine Tp ?_;refine Ho ?_;refine Z14 ?_;exact Ab (Es Ag (B5 jA jS)) ⟨by rw [oh hl4 hz,hk,Us,Cu]<;>rfl,rfl⟩ (hlow:=by simp [or_imp,forall_and])

theorem AI4 {c:UInt8} {r:Str} (ha:∀b∈(c::r:Str),digs.contains b=true) (h0:(B6 (c::r)).2=0):(Dy (c::r)).1=⟨1,(B6 (c::r)).1,[]⟩:=by
 have hn:=Rp c (ha c Ev)
 have n1:((c::r:Str)==[110,117,108,108])=false:=by rw [beq_eq_false_iff_ne];intro e;injection e with e;exact hn.2.2.2.1 e
 have n2:((c::r:Str)==[116,114,117,101])=false:=by rw [beq_eq_false_iff_ne];intro e;injection e with e;exact hn.2.2.2.2.1 e
 have n3:((c::r:Str)==[102,97,108,115,101])=false:=by rw [beq_eq_false_iff_ne];intro e;injection e with e;exact hn.2.2.2.2.2 e
 have hq:Kq (c::r)=false:=by
  unfold Kq
  have:Lib.hasPrefix (c::r) [39]=false:=by simp [Lib.hasPrefix,List.isPrefixOf,Ne.symm hn.2.2.1]
  rw [this]
  simp
 unfold Dy
 rw [n1,n2,n3,hq,h0]
 rfl
theorem AI5 {u:Str} {n:Nat} (h0:u≠[]) (he:(Bi u).2.2.2=0):Oh ⟨(Bi u).1,(Bi u).2.1,n⟩:=by
 obtain ⟨h1,h2⟩:=Xg h0
 rw [h2 he]
 rw [he] at h1
 cases u with
 | nil=>exact absurd rfl h0
 | cons c r =>
 cases h:Cw c with
 | true =>
  rw [xr h] at h1 ⊢
  constructor
  ·intro h3
   have h3:(if D8 ((c::r).takeWhile Cr)=true then (2:Int) else 1)=3:=h3
   split at h3<;>exact absurd h3 (by decide)
  intro h3
  have h3:(if D8 ((c::r).takeWhile Cr)=true then (2:Int) else 1)=4:=h3
  split at h3<;>exact absurd h3 (by decide)
 | false =>
  cases hd:By c with
  | true =>
   rw [xt h hd] at h1 ⊢
   refine ⟨fun _=>?_,fun h4=>absurd h4 (by show ¬(3:Int)=4;decide)⟩
   show (Dy ((c::r).takeWhile By)).1=⟨1,(B6 ((c::r).takeWhile By)).1,[]⟩
   have h1:(if (B6 ((c::r).takeWhile By)).2==6 then (7:Int) else (B6 ((c::r).takeWhile By)).2)=0:=h1
   have hz:(B6 ((c::r).takeWhile By)).2=0:=by
    split at h1
    ·exact absurd h1 (by decide)
    exact h1
   have ha:∀b∈(c::r).takeWhile By,digs.contains b=true:=fun b hb=>by rw [T7];exact P7 hb
   rw [T8 hd] at ha hz ⊢
   exact AI4 ha hz
  | false =>
   by_cases h3:c=39
   ·rw [xu h hd h3] at h1 ⊢
    refine ⟨fun h4=>absurd h4 (by show ¬(4:Int)=3;decide),fun _=>?_⟩
    have h1:(if r.length≤(C6 r).2 then (7:Int) else if 200<(C6 r).1.length then 3 else 0)=0:=h1
    show (C6 r).1.length≤200
    split at h1
    ·exact absurd h1 (by decide)
    split at h1
    ·exact absurd h1 (by decide)
    omega
   rw [xv h hd h3] at h1 ⊢
   exact ⟨fun h4=>absurd h4 (by show ¬(5:Int)=3;decide),fun h4=>absurd h4 (by show ¬(5:Int)=4;decide)⟩
theorem jr:∀(f q:Nat) (s:Str),∀it∈Gc f q s,it.2=0→Oh it.1
 | 0,_,_,it,h,_=>by cases h
 | f+1,q,s,it,h,h0=>by
  rw [Gc] at h
  split at h
  ·cases h
  rename_i hs
  have hne:s≠[]:=by rintro rfl;exact hs rfl
  rcases C9.1 h with rfl|h
  ·exact AI5 hne h0
  split at h
  ·exact jr f _ _ it h h0
  cases h
theorem ALc {s:Str} (h:(C4 s).2.1=0) (i:Nat):Oh (A4 (C4 s).1 i):=by
 have hz:∀n,Oh ⟨0,[],n⟩:=fun n=>⟨fun h=>absurd h (by show ¬(0:Int)=3;decide),fun h=>absurd h (by show ¬(0:Int)=4;decide)⟩
 obtain ⟨_,h2,h3⟩:=Yz h
 rw [h3]
 unfold A4
 rw [F7]
 cases hg:((C0 s).map (·.1)++[⟨0,[],s.length⟩]:List Tok)[i]? with
 | none=>exact hz 0
 | some t =>
  have hm:=Bd hg
  rw [Option.getD_some]
  rcases Di.1 hm with hm|hm
  ·obtain ⟨it,hit,rfl⟩:=F4.1 hm
   exact jr _ _ _ it hit (h2 it hit)
  rw [C1.1 hm];exact hz _
theorem AI6 {L:List Tok} (hl:TokEnd L) (hll:L.length≤500000) {S:XS} (h:S.i<L.length):(Ku L S).2.i<L.length:=by
 unfold Ku
 cases hk:(Mn L S==0) with
 | true=>rw [if_pos rfl];show (E4 L 8 S).i<_;rw [Oi];exact h
 | false =>
  rw [if_neg (by simp)]
  have:(Ha S).i<L.length:=hl.step h fun h0=>by
   have:Mn L S=0:=by unfold Mn;rw [Ua,h0];rfl
   rw [this] at hk;cases hk
  exact Fa hl (s9 hl hll this)
/-- Where the reference's loop of moves stands. -/
structure M8At (L:List Tok) (R:List Mov×XS) (x:Nat×List Mov×XS):Prop where
 eq:Iq L x.1 x.2.1 x.2.2=R
 lt:x.2.2.i<L.length
 le:x.2.1.length≤8
 fuel:x.2.2.code=0→x.2.1.length+x.1=10
theorem M8At.code {L:List Tok} {S:XS} (h:go8 L S=true):S.code=0:=by
 unfold go8 at h
 rw [Ah] at h
 simpa using h.2
theorem M8At.long {L:List Tok} {R:List Mov×XS} {x:Nat×List Mov×XS} (h:M8At L R x) (hq:go8 L x.2.2=true) (h8:((x.2.1.length:Int)==8)=true):M8At L R (x.1-1,x.2.1,E4 L 3 x.2.2)∧1≤x.1:=by
 have hc:=M8At.code hq
 have hf:=h.fuel hc
 have hle:=h.le
 obtain ⟨f,hfe⟩:∃f,x.1=f+1:=⟨x.1-1,by omega⟩
 refine ⟨⟨?_,by show (E4 L 3 x.2.2).i<_;rw [Oi];exact h.lt,hle,fun h0=>?_⟩,by omega⟩
 ·have:=h.eq
  rw [hfe,Iq,if_pos hq,if_pos h8] at this
  rw [hfe];exact this
 have e:E4 L 3 x.2.2=⟨x.2.2.i,3,((A4 L x.2.2.i).at_:Int)⟩:=if_pos (by rw [hc];rfl)
 have h0:(E4 L 3 x.2.2).code=0:=h0
 rw [e] at h0;exact absurd (show (3:Int)=0 from h0) (by decide)
theorem M8At.on {L:List Tok} (hl:TokEnd L) (hll:L.length≤500000) {R:List Mov×XS} {x:Nat×List Mov×XS} (h:M8At L R x) (hq:go8 L x.2.2=true) (h8:((x.2.1.length:Int)==8)=false):M8At L R (x.1-1,x.2.1++[(Ku L x.2.2).1],(Ku L x.2.2).2)∧1≤x.1:=by
 have hc:=M8At.code hq
 have hf:=h.fuel hc
 have hle:=h.le
 have hne:x.2.1.length≠8:=fun h=>by rw [h] at h8;cases h8
 obtain ⟨f,hfe⟩:∃f,x.1=f+1:=⟨x.1-1,by omega⟩
 refine ⟨⟨?_,AI6 hl hll h.lt,?_,fun _=>?_⟩,by omega⟩
 ·have:=h.eq
  rw [hfe,Iq,if_pos hq,if_neg (by rw [h8];simp)] at this
  rw [hfe];exact this
 ·show (x.2.1++[_]).length≤8;rw [Ai,Gt];omega
 show (x.2.1++[_]).length+(x.1-1)=10;rw [Ai,Gt];omega
theorem M8At.out {L:List Tok} {R:List Mov×XS} {x:Nat×List Mov×XS} (h:M8At L R x) (hq:go8 L x.2.2=false):R=(x.2.1,x.2.2):=by
 rw [←h.eq]
 cases x.1 with
 | zero=>rfl
 | succ f=>exact if_neg (by rw [hq];simp)
theorem c9 (s:Str) (hs:s.length≤1048576) (Hp:List AObj):AFun Tryz.prog 9 [Ac s] Hp (.tup [Io (Oz s).1,.agg [A7 (Oz s).2.1,A7 (Oz s).2.2]]):=by
 refine B0 [.tmp 2,.cell 3 26] [0] Tryz.func9 Tryz.ntmps9 (fun d=>?_)
 refine AEn ?_;refine Qm ?_;refine Z2 ?_;refine Ap Tryz.call24 (c24 s hs _) ?_;refine Z7 ?_;refine nr ?_;refine A2 [3,4,5] ?_;refine Z50 ?_;refine A2 [3,4,5,15] ?_
 refine A6 (fun ht15=>?_) (fun ht15=>?_)
 ·have e:Oz s=([],(C4 s).2.1,((C4 s).2.2:Int)):=if_pos ht15
  refine Om [0,0,3] 2 Af (by kernel_rfl) ?_;refine Z5 ?_;refine Er ?_;refine AMd ?_;exact AM2
 have e0:¬((C4 s).2.1 != 0)=true:=by rw [ht15];simp
 have hz:(C4 s).2.1=0:=by simpa using ht15
 have hle:=Za hz
 have hlen:=Zh hz
 have hpos:0<(C4 s).1.length:=hle.pos
 have hl5:(C4 s).1.length≤500000:=by omega
 refine ar ?_;refine Pt (places:=#[(0,1),(1,1),(2,2)]) jU (fun w=>by simp) jZ ?_;refine Ps ?_;refine A3 ?_;refine A2 [3,6] ?_;refine Ei ?_;refine AB3 ?_;refine A2 [3,6,7] ?_;refine Hw ?_
 refine Bo (α:=Nat×List Mov×XS) (fun x=>⟨63,A9 3 (.ptr (oid Hp.length 0) 0) (A9 6 (.ptr (oid Hp.length 2) 0) (A9 7 (.slice true 5 (x.2.1.map K5)) (fun _=>.any))),Hp,[.cells 26 [A7 0,A7 0],.cells 26 [A7 (C4 s).2.1,A7 ((C4 s).2.2:Nat)],prx (C4 s).1 x.2.2],[],none⟩) (fun x=>M8At (C4 s).1 (Iq (C4 s).1 10 [] (ok8 0)) x) (fun x=>x.1) ((10,[],ok8 0)) ⟨rfl,hpos,Al _,fun _=>rfl⟩ (Ar rfl) rfl (fun x hx=>?_)
 refine Hw ?_;refine Om [0,1,3,7,0,16,48,112,255,511,1023,2047,4095,8191,16383,32767,65535,131071,262143,524287] 8 Af (by kernel_rfl) ?_;refine Z85 ?_;refine Z85 ?_;refine Er ?_
 refine A3 (h:=B2 (x.2.2.i) (En (A4 (C4 s).1 x.2.2.i)) (fun _=>Ez hx.lt)) (hr:=?_)
 refine Z0 ?_;refine Z48 ?_;refine Z77 ?_;refine A2 [3,6,7,40] ?_
 refine A6 (fun ht40=>?_) (fun ht40=>?_)
 ·have hq:go8 (C4 s).1 x.2.2=true:=ht40
  refine ec ?_;refine Z16 ?_;refine A2 [3,6,7,43] ?_
  refine A6 (fun ht43=>?_) (fun ht43=>?_)
  ·have h8:((x.2.1.length:Int)==8)=true:=by rw [Bh] at ht43;exact ht43
   have hon:=hx.long hq h8
   refine Z32 ?_
   refine Md (n:=2) (x:=prx (C4 s).1 (E4 (C4 s).1 3 x.2.2)) Tryz.call25 (c25 (C4 s).1 x.2.2 3 (oid Hp.length 2) _ (by rw [Cj];rfl) hx.lt) ?_
   refine A2 [3,6,7] ?_;refine Hh ?_
   first|exact Be (x.1-1,x.2.1,E4 (C4 s).1 3 x.2.2) hon.1 (by have:=hon.2;show x.1-1<x.1;omega) (Bp rfl)|exact Be (x.1-1,x.2.1++[(Ku (C4 s).1 x.2.2).1],(Ku (C4 s).1 x.2.2).2) hon.1 (by have:=hon.2;show x.1-1<x.1;omega) (Bp (by simp [Cu,show Tryz.t47.size=5 from rfl]))
  have h8:((x.2.1.length:Int)==8)=false:=by rw [Bh] at ht43;exact ht43
  have hon:=hx.on hle hl5 hq h8
  refine Ky ?_;refine R.moveT ?_;refine A3 ?_
  refine Md (n:=2) (x:=prx (C4 s).1 (Ku (C4 s).1 x.2.2).2) Tryz.call26 (c26 (C4 s).1 x.2.2 (oid Hp.length 2) _ (by rw [Cj];rfl) hx.lt hle hl5 (ALc hz)) ?_
  refine Rg ?_
  refine N9 jU Tryz.type47 ?_ ?_ ?_
  ·have:=hx.le;simp [Tryz.t47];omega
  ·have:=hx.le;simp [Tryz.t47];omega
  refine Tp ?_;refine A2 [3,6,7] ?_;refine Hh ?_
  first|exact Be (x.1-1,x.2.1,E4 (C4 s).1 3 x.2.2) hon.1 (by have:=hon.2;show x.1-1<x.1;omega) (Bp rfl)|exact Be (x.1-1,x.2.1++[(Ku (C4 s).1 x.2.2).1],(Ku (C4 s).1 x.2.2).2) hon.1 (by have:=hon.2;show x.1-1<x.1;omega) (Bp (by simp [Cu,show Tryz.t47.size=5 from rfl]))
 have hq:go8 (C4 s).1 x.2.2=false:=ht40
 have hR:=hx.out hq
 refine Z41 ?_;refine Z42 ?_;refine Z0 ?_;refine A2 [3,6,7,56] ?_
 refine A6 (fun ht56=>?_) (fun ht56=>?_)
 ·have e:Oz s=([],x.2.2.code,x.2.2.at_):=by unfold Oz;rw [if_neg e0,hR];exact if_pos ht56
  refine Om [0,1,3,7,0,31] 5 Af (by kernel_rfl) ?_;refine aq ?_;refine Er ?_;refine AMd ?_;exact AM2
 have e:Oz s=(x.2.1,0,0):=by unfold Oz;rw [if_neg e0,hR];exact if_neg (nf ht56)
 refine Z4 ?_;refine Z87 ?_;refine Z45 ?_;refine Z14 ?_;exact Ab (Es Ag (B5 jA jS)) ⟨by rw [e]<;>rfl,rfl⟩ (hlow:=by simpa using (Vp (n:=Hp.length) (k:=5) (o:=false) (l:=x.2.1)))

/-! What was parsed is parsed again from its text. -/
theorem MvP.prS {m:Mov} (h:MvP m):PrS m:=⟨ACd h.one,h.takes,h.gives,h.kinds,fun h3 e=>absurd (Vh h.counts (by rw [h3];rfl)).2 (by rw [e];decide),fun x hx=>⟨Np (h.aheads x hx).right,(h.aheads x hx).rng⟩,fun x hx=>⟨Np (h.backs x hx).right,(h.backs x hx).rng⟩⟩
theorem MvP.prM {m:Mov} (h:MvP m):PrM m:=⟨h.one,fun x hx=>⟨(h.aheads x hx).right,(h.aheads x hx).rng,(h.aheads x hx).need⟩,fun x hx=>⟨(h.backs x hx).right,(h.backs x hx).rng,(h.backs x hx).need⟩⟩
theorem MigGood.again {l:List Mov} (h:MigGood l) (hl:(l.flatMap mvS).length≤4000):M1 (l.flatMap mvS)=(l,0,0):=qo (fun m hm=>(h.each m hm).prS) (fun m hm=>(h.each m hm).prM) h.len hl
theorem MigGood.text {l:List Mov} (h:MigGood l):Kj l=([],3)∨(Kj l=(l.flatMap mvS,0)∧M1 (l.flatMap mvS)=(l,0,0)):=by
 unfold Kj
 rw [h.right]
 cases ha:l.all Ds with
 | false=>exact .inl (by simp)
 | true =>
  simp only [Hu,B1,if_false]
  by_cases h4:4000<(l.flatMap mvS).length
  ·rw [if_pos h4]
   exact .inl rfl
  rw [if_neg h4]
  exact .inr ⟨rfl,h.again (by omega)⟩
theorem xw (l:List Mov):(Kj l).1.length≤4000:=by
 unfold Kj
 repeat' split
 all_goals first|exact Al _|(show (l.flatMap mvS).length≤4000;omega)
def ajS:Str:=[115,112,108,105,116,32,97,32,105,110,116,111,32,98,32,105,110,116,32,61,32,97,32,47,32,49,48,44,32,99,32,105,110,116,32,61,32,97,32,37,32,49,48,32,98,97,99,107,32,98,32,42,32,49,48,32,43,32,99,59]
theorem ALd:(M1 ajS).2.1=0:=by kernel_rfl
theorem ARf:(M1 ajS).2.2=0:=by kernel_rfl
theorem AI7:Kj (M1 ajS).1=(ajS++[10],0):=by kernel_rfl
theorem AI8:(M1 ajS).1.map (fun m=>m.give.length)=[2]:=by kernel_rfl
theorem AO2:∃m,(M1 ajS).1=[m]∧m.give.length=2:=by
 have h1:=AI8
 match h:(M1 ajS).1 with
 | []=>rw [h] at h1;cases h1
 | [m]=>rw [h] at h1;exact ⟨m,rfl,by simpa using h1⟩
 | a::b::r=>rw [h] at h1;simp at h1
theorem c7 (Hp:List AObj):AFun Tryz.prog 7 [] Hp (Bz true):=by
 obtain ⟨m,hm,hg⟩:=AO2
 refine B0 [.tmp 0] [] Tryz.func7 Tryz.ntmps7 (fun d=>?_)
 refine Z2 ?_;refine Nf ?_;refine Ei ?_;refine Ap Tryz.call8 (c8 ajS (by decide) _) ?_;refine Z7 ?_;refine nr ?_;refine A2 [1,2] ?_;refine Z2 ?_;refine Ap Tryz.call13 (c13 (M1 ajS).1 (ru ajS).ok _) ?_
 rw [AI7]
 refine Z89 ?_;refine A2 [1,2,3,4] ?_;refine Ei ?_
 rw [ALd,ARf]
 refine Z0 ?_;refine Z30 ?_;refine Wg ?_
 rw [hm]
 refine Z6 ?_;refine Wg ?_
 refine Bk (h:=B2 (0) (K5 m) (fun _=>rfl)) (hr:=?_)
 refine l9 ?_;refine Z30 ?_;refine Z0 ?_;refine A2 [0] ?_;refine Kx ?_;exact Ab (Ao Ag) ⟨by rw [Bh,hg];simp;rfl,rfl⟩

theorem ATn:Tryz.prog.eqGuardType Tryz.prog.depth 26=false:=by kernel_rfl
theorem ALe (k n k' n':Int) (w:World):(Op.equal 26 (.agg #[.int .i64 k,.int .i64 n]) (.agg #[.int .i64 k',.int .i64 n'])).run Tryz.prog w=.ok (k==k'&&n==n') w:=by
 have h1:Tryz.prog.stoodInHeld 26=false:=by kernel_rfl
 show (Op.equalIn (9999+1) _ _ _).run _ _=_
 rw [Op.equalIn]
 generalize hd:(9999:Nat)=d
 obtain ⟨d,rfl⟩:∃e,d=e+1:=⟨9998,hd.symm⟩
 clear hd
 simp [run_underlying Tryz.underlying26,h1,part,mz _ _ _ _ _ _ Tryz.underlying24,mz _ _ _ _ _ _ Tryz.underlying3,Tryz.isAgg24,Tryz.isAgg3]
 by_cases e1:k=k'<;>by_cases e2:n=n'<;>simp [e1,e2]
theorem AI9 {k:Int} (h:1≤k∧k≤6):(migWords.map Ac)[k.toNat]? = some (Ac (B3 k)):=by
 obtain ⟨n,rfl⟩:∃n:Nat,k=(n:Int):=⟨k.toNat,by omega⟩
 have h6:n=1∨n=2∨n=3∨n=4∨n=5∨n=6:=by omega
 rcases h6 with rfl|rfl|rfl|rfl|rfl|rfl<;>rfl
theorem c3 (s:Str) (k:Int) (Hp:List AObj):AFun Tryz.prog 3 [Ac s,A7 k] Hp (Bz true):=by
 obtain ⟨l,hl⟩:∃l,l=(M1 s).1:=⟨_,rfl⟩
 obtain ⟨e,he⟩:∃e,e=(M1 s).2.1:=⟨_,rfl⟩
 obtain ⟨a,ha⟩:∃a,a=(M1 s).2.2:=⟨_,rfl⟩
 have hg:MigGood l:=by rw [hl];exact ru s
 have hlaw:=hg.text
 refine B0 [.tmp 4] [0,1] Tryz.func3 Tryz.ntmps3 (fun d=>?_)
 refine Z63 ?_;refine Z71 ?_;refine Ap Tryz.call7 (c7 _) ?_;refine A3 ?_;refine A2 [0,1,15] ?_
 refine A6 (fun ht15=>?_) (fun ht15=>?_)
 ·cases ht15
 refine Z4 ?_;refine Z50 ?_;refine A2 [0,1,18] ?_
 refine A6 (fun ht18=>?_) (fun ht18=>?_)
 ·refine Z79 ?_;refine Dd ?_;exact ul
 have hs:s.length≤3000:=by simp at ht18;omega
 refine ar ?_;refine Ap Tryz.call8 (c8 s (by omega) _) ?_;refine Z7 ?_;refine nr ?_;refine A2 [0,1,5,6] ?_;refine Ei ?_
 rw [←hl,←he,←ha]
 refine A3 ?_;refine Ap Tryz.call9 (c9 s (by omega) _) ?_;refine Z7 ?_;refine nr ?_;refine A2 [1,5,6,7,8] ?_;refine Ei ?_
 rw [AD2 s (by omega),←hl,←he,←ha]
 refine A3 ?_;refine A2 [1,5,6,7,8,9] ?_
 refine Ih ⟨87,A9 1 (A7 k) (A9 5 (Io l) (A9 6 (.ptr (oid Hp.length 0) 0) (A9 7 (Io l) (A9 8 (.ptr (oid Hp.length 1) 0) (A9 9 (Ac (B3 k)) (fun _=>.any)))))),Hp,[.cells 26 [A7 e,A7 a],.cells 26 [A7 e,A7 a]],[],none⟩ ?_ ?_
 ·refine Z16 ?_;refine Z77 ?_;refine A2 [1,5,6,7,8,9,34] ?_
  refine A6 (fun ht34=>?_) (fun ht34=>?_)
  ·have hk:1≤k∧k≤6:=by simp at ht34;omega
   refine Ky ?_;refine Ap Tryz.call10 (c10 _) ?_;refine A3 ?_
   refine A3 (h:=B2 (k.toNat) (Ac (B3 k)) (fun _=>AI9 hk)) (hr:=?_)
   refine Z0 ?_;refine A2 [1,5,6,7,8,9] ?_;refine Mf ?_
   first|exact Ar rfl|(rw [hw];exact Ar rfl)
  have hw:B3 k=[]:=if_pos (by simp at ht34 ⊢;omega)
  refine Eh [1,5,6,7,8,9] ?_;refine Z98 ?_
  first|exact Ar rfl|(rw [hw];exact Ar rfl)
 refine Z9 ?_
 refine A3 (h:=Q.neqAgg ATn (ALe e a e a)) (hr:=?_)
 refine A3 ?_;refine Z6 ?_;refine D9 Tryz.call11 (fun hB=>c11 l l hg.ok _) ?_;refine Bk ?_;refine Wg ?_;refine D9 Tryz.call12 (fun hB=>c12 k _) ?_;refine Z77 ?_;refine A2 [5,6,53] ?_
 refine A6 (fun ht53=>?_) (fun ht53=>?_)
 ·simp [jl] at ht53
 refine Z4 ?_;refine Z50 ?_;refine A2 [5,56] ?_
 refine A6 (fun ht56=>?_) (fun ht56=>?_)
 ·refine Z79 ?_;refine Dd ?_;exact ul
 refine ar ?_;refine Ap Tryz.call13 (c13 l hg.ok _) ?_;refine Z89 ?_;refine A2 [5,10,11] ?_;refine Z9 ?_;refine A2 [5,10,11,63] ?_
 refine A6 (fun ht63=>?_) (fun ht63=>?_)
 ·refine Z2 ?_;refine Ap Tryz.call14 (c14 l hg.ok _) ?_;refine A3 ?_;refine Z17 ?_;refine Dd ?_;exact Ab (Ao Ag) ⟨by rw [hg.right]<;>rfl,rfl⟩
 obtain ⟨hp,hq⟩:Kj l=(l.flatMap mvS,0)∧M1 (l.flatMap mvS)=(l,0,0):=by
  rcases hlaw with hp|hp
  ·rw [hp] at ht63;simp at ht63
  exact hp
 have hpl:=xw l
 rw [hp] at hpl ⊢
 have hpl:(l.flatMap mvS).length≤4000:=hpl
 refine ar ?_;refine Ap Tryz.call8 (c8 (l.flatMap mvS) (by omega) _) ?_;refine Z7 ?_;refine nr ?_;refine A2 [5,11,12,13] ?_;refine Ei ?_
 rw [hq]
 refine Z7 ?_;refine Bk ?_;refine D9 Tryz.call14 (fun hB=>c14 l hg.ok _) ?_;refine uj ?_;refine Z30 ?_;refine D9 Tryz.call11 (fun hB=>c11 l l hg.ok _) ?_;refine AEh ?_;exact Ab (Ao Ag) ⟨by simp [hg.right,jl],rfl⟩

end Go.SX.Nb
