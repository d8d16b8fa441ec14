/- On the way (part 8). -/
import Derived.Test.YtdjhkihdmiednaaGreatDoorLoadCallsCardSaidPart7
set_option linter.all false
namespace Go.SX.Nb
open Go Go.SX Go.Proofs
variable [ErrAt]
set_option maxRecDepth 4000
theorem S5 {n k:Nat} {o:Bool} {l:List Val}:Low n (.slice o k (l.map Fo)):=by simp [or_imp,forall_and]
theorem Kf {n k:Nat} {o:Bool} {l:List Wr}:Low n (.slice o k (l.map wrA)):=by simp [or_imp,forall_and]
theorem c35 (i:Nat) (s:Int) (c:List Col) (hc:OkCols c) (Hp:List AObj) (hi:Hp[i]? = some (.cells 55 [Cf s])):ACall Tryz.prog 35 [.ptr i 0,Cu c] Hp (fun r H'=>r=wrA (K2 s c).2∧H'=Hp.set i (.cells 55 [Cf (K2 s c).1])):=by
 refine Ai [.cell 4 60] [0,1] Tryz.func35 Tryz.ntmps35 (fun d=>?_)
 refine Z18 ?_;refine A2 [0,1,4] ?_;refine Z2 ?_;refine Bf Tryz.call33 hi (by simp) Lr (c33 i (s) 12 (by decide) (by decide) _ (An hi)) ?_;refine oc ?_;refine A2 [0,1,4,5] ?_;refine Z53 ?_
 have hi2:(Hp.set i (.cells 55 [Cf (A5 s)]))[i]? = some (.cells 55 [Cf (A5 s)]):=Az hi
 refine A4 ?_;refine om ?_;refine Z0 ?_;refine Fu ?_;refine A2 [0,1,4,5] ?_;refine Df ?_
 have hi3:(Hp.set i (.cells 55 [Cf (A5 (A5 s))]))[i]? = some (.cells 55 [Cf (A5 (A5 s))]):=Az hi
 rw [Ba]
 refine Mp 1 2 3 ?_;refine Z6 ?_;refine A2 [0,1,4,5,15] ?_
 refine A6 (fun ht15=>?_) (fun ht15=>?_)
 ·have hd:¬Ak (A5 (A5 s)) 4=0:=by simpa using ht15
  have hm:K2 s c=((As (A5 (A5 s)) c).1,⟨Ak (A5 s) 12,false,(As (A5 (A5 s)) c).2⟩):=if_neg hd
  have hdd:(Ak (A5 (A5 s)) 4==0)=false:=by simpa using hd
  refine Z41 ?_;refine Bf Tryz.call65 hi3 (by simp) Lr (c65 i (A5 (A5 s)) c hc _ (An hi3)) ?_;refine A4 ?_;refine ie ?_;refine G6 ?_;refine Z2 ?_;exact Z76
 have hd:Ak (A5 (A5 s)) 4=0:=by simpa using ht15
 have hm:K2 s c=(A5 (A5 s),⟨Ak (A5 s) 12,true,[]⟩):=if_pos hd
 have hdd:(Ak (A5 (A5 s)) 4==0)=true:=by simpa using hd
 refine Z73 ?_;exact Z76

theorem c14 (i:Nat) (s:Int) (c:List Col) (hc:OkCols c) (mv:Str) (Hp:List AObj) (hi:Hp[i]? = some (.cells 55 [Cf s])):ACall Tryz.prog 14 [.ptr i 0,Cu c,A8 mv] Hp (fun r H'=>r=Bz (E1 s c mv).2∧H'=Hp.set i (.cells 55 [Cf (E1 s c mv).1])):=by
 refine Ai [.cell 6 42] [0,1,2] Tryz.func14 Tryz.ntmps14 (fun d=>?_)
 refine ii ?_;refine Z79 ?_;refine Z8 ?_;refine A2 [0,1,2,6,7] ?_;refine Z19 ?_;refine Bf Tryz.call33 hi (by simp) Lr (c33 i (s) 10 (by decide) (by decide) _ (An hi)) ?_;refine A4 ?_;refine A2 [0,1,2,6,7,8] ?_;refine Df ?_
 have hi2:(Hp.set i (.cells 55 [Cf (A5 s)]))[i]? = some (.cells 55 [Cf (A5 s)]):=Az hi
 have hk:=Bn (A5 s) 10 (by decide)
 refine A4 ?_;refine A2 [0,1,2,6,7,12] ?_;refine Gy ?_
 refine Jo ⟨43,Aa 0 (.ptr i 0) (Aa 1 (Cu c) (Aa 2 (A8 mv) (Aa 6 (.ptr (oid Hp.length 0) 0) (Aa 7 (.ptr (oid Hp.length 1) 0) (Aa 12 (A3 (Ak (A5 s) 10)) (Aa 13 (Aj ((Ak (A5 s) 10==0) || (Ak (A5 s) 10==1) || (Ak (A5 s) 10==2) || (Ak (A5 s) 10==3))) (fun _=>.any))))))),Hp.set i (.cells 55 [Cf (A5 s)]),[.cells 42 [A3 0,A3 0,.nil,Aj false,.nil,A3 0,A8 [],A3 0,A3 0,A8 [],.nil,A3 0,A8 [],A3 0,Cf 0],.cells 40 [Aj true,.nil,A3 0,A8 [],A3 0,A3 0,A8 [],.nil,A3 (-1)]],[],none⟩ ?_ ?_
 ·refine lz ?_
  refine A6 (fun ht13=>?_) (fun ht13=>?_)
  ·exact lv
  refine lz ?_
  refine A6 (fun ht13=>?_) (fun ht13=>?_)
  ·exact lv
  refine lz ?_
  refine A6 (fun ht13=>?_) (fun ht13=>?_)
  ·exact lv
  refine Z41 ?_;refine A2 [0,1,2,6,7,12,13] ?_;exact Z63
 refine A6 (fun ht13=>?_) (fun ht13=>?_)
 ·refine Z1 ?_;refine Bf Tryz.call35 hi2 (by simp) Lr (c35 i (A5 s) c hc _ (An hi2)) ?_;refine R.buildSl jU jS jZ ?_;refine I6 (Bz (Cs (K2 (A5 s) c).2)) (show Le _ (Bz (Cs (K2 (A5 s) c).2)) from Hj (.inl rfl)) (places:=#[(0,1),(1,1),(2,1),(3,9),(12,1),(13,1),(14,1)]) jU (fun w=>by simp) Tryz.zeroValue42 ?_;refine Z48 ?_;refine Z40 ?_
  have hm:E1 s c mv=((K2 (A5 s) c).1,Cs (K2 (A5 s) c).2):=by
   have h0:Ak (A5 s) 10<4:=by simp at ht13;omega
   simp [E1,h0]
  exact au
 refine Jo ⟨43,Aa 0 (.ptr i 0) (Aa 2 (A8 mv) (Aa 6 (.ptr (oid Hp.length 0) 0) (Aa 7 (.ptr (oid Hp.length 1) 0) (Aa 12 (A3 (Ak (A5 s) 10)) (Aa 23 (Aj ((Ak (A5 s) 10==4) || (Ak (A5 s) 10==5))) (fun _=>.any)))))),Hp.set i (.cells 55 [Cf (A5 s)]),[.cells 42 [A3 0,A3 0,.nil,Aj false,.nil,A3 0,A8 [],A3 0,A3 0,A8 [],.nil,A3 0,A8 [],A3 0,Cf 0],.cells 40 [Aj true,.nil,A3 0,A8 [],A3 0,A3 0,A8 [],.nil,A3 (-1)]],[],none⟩ ?_ ?_
 ·refine Z1 ?_;refine A2 [0,2,6,7,12,23] ?_
  refine A6 (fun ht23=>?_) (fun ht23=>?_)
  ·refine F9 [0,2,6,7,12,23] ?_;exact o4
  refine Z41 ?_;refine A2 [0,2,6,7,12,23] ?_;exact Z63
 refine A6 (fun ht23=>?_) (fun ht23=>?_)
 ·refine Z2 ?_;refine ot ?_;refine Z48 ?_;refine Z40 ?_
  have hm:E1 s c mv=(A5 s,Cv 0):=by
   have h0:¬Ak (A5 s) 10<4:=by simp at ht13;omega
   have h1:Ak (A5 s) 10<6:=by simp at ht23;omega
   simp [E1,h0,h1]
  exact au
 refine Z1 ?_;refine A2 [0,2,6,7,12,28] ?_
 refine A6 (fun ht28=>?_) (fun ht28=>?_)
 ·refine Z2 ?_;refine m5 ?_;refine Z48 ?_;refine Z40 ?_
  have hm:E1 s c mv=(A5 s,B8 mv):=by
   have h0:¬Ak (A5 s) 10<4:=by simp at ht13;omega
   have h1:¬Ak (A5 s) 10<6:=by simp at ht13 ht23;omega
   have h2:Ak (A5 s) 10=6:=by simpa using ht28
   simp [E1,h0,h1,h2]
  exact au
 refine Z1 ?_;refine A2 [0,6,7,12,32] ?_
 refine A6 (fun ht32=>?_) (fun ht32=>?_)
 ·refine Z2 ?_;refine Bf Tryz.call33 hi2 (by simp) Lr (c33 i (A5 s) 5 (by decide) (by decide) _ (An hi2)) ?_
  have hk5:=Bn (A5 (A5 s)) 5 (by decide)
  refine A4 ?_;refine I6 (Bz (Ds (Ak (A5 (A5 s)) 5+1))) (show Le _ (Bz (Ds (Ak (A5 (A5 s)) 5+1))) from Hj (.inr ⟨rfl,rfl⟩)) (places:=#[(0,1),(1,1),(2,1),(3,9),(12,1),(13,1),(14,1)]) jU (fun w=>by simp) Tryz.zeroValue42 ?_;refine Z48 ?_;refine Z40 ?_
  have hm:E1 s c mv=(A5 (A5 s),Ds (Ak (A5 (A5 s)) 5+1)):=by
   have h0:¬Ak (A5 s) 10<4:=by simp at ht13;omega
   have h1:¬Ak (A5 s) 10<6:=by simp at ht13 ht23;omega
   have h2:¬Ak (A5 s) 10=6:=by simpa using ht28
   have h3:Ak (A5 s) 10=7:=by simpa using ht32
   simp [E1,h0,h1,h2,h3]
  exact au
 refine Z1 ?_;refine A2 [6,7,38] ?_
 refine A6 (fun ht38=>?_) (fun ht38=>?_)
 ·refine Z2 ?_;refine I6 (Bz (Cv 1)) (show Le _ (Bz (Cv 1)) from Hj (.inr ⟨rfl,rfl⟩)) (places:=#[(0,1),(1,1),(2,1),(3,9),(12,1),(13,1),(14,1)]) jU (fun w=>by simp) Tryz.zeroValue42 ?_;refine Z48 ?_;refine Z40 ?_
  have hm:E1 s c mv=(A5 s,Cv 1):=by
   have h0:¬Ak (A5 s) 10<4:=by simp at ht13;omega
   have h1:¬Ak (A5 s) 10<6:=by simp at ht13 ht23;omega
   have h2:¬Ak (A5 s) 10=6:=by simpa using ht28
   have h3:¬Ak (A5 s) 10=7:=by simpa using ht32
   have h4:Ak (A5 s) 10=8:=by simpa using ht38
   simp [E1,h0,h1,h2,h3,h4]
  exact au
 refine Z55 ?_;refine Z70 ?_;refine Z48 ?_;refine Dg ?_
 have hm:E1 s c mv=(A5 s,De):=by
  have h0:¬Ak (A5 s) 10<4:=by simp at ht13;omega
  have h1:¬Ak (A5 s) 10<6:=by simp at ht13 ht23;omega
  have h2:¬Ak (A5 s) 10=6:=by simpa using ht28
  have h3:¬Ak (A5 s) 10=7:=by simpa using ht32
  have h4:¬Ak (A5 s) 10=8:=by simpa using ht38
  simp [E1,h0,h1,h2,h3,h4]
 exact au

def N7 (c:List Col) (n:Int):Bool:=(Iv c&&decide (0≤n))&&decide (n≤1000)
theorem c13 (c:List Col) (hc:OkCols c) (n:Int) (Hp:List AObj):AFun Tryz.prog 13 [Cu c,A3 n] Hp (Aj (N7 c n)):=by
 refine Ai [.tmp 4] [0,1] Tryz.func13 Tryz.ntmps13 (fun d=>?_)
 refine Z39 ?_;refine Z2 ?_;refine Ab Tryz.call34 (c34 c hc _) ?_;refine A4 ?_;refine Z3 ?_;refine Z15 ?_;refine Uv ?_;exact A9 (Af A7) ⟨by unfold N7;rfl,rfl⟩

theorem M7 {n:Nat} {c:Cal}:∀y∈Gx c,Low n y:=by
 intro y hy
 simp only [Bt,Fh,or_false] at hy
 rcases hy with rfl|rfl|rfl|rfl|rfl|rfl|rfl|rfl|rfl|rfl|rfl|rfl|rfl|rfl|rfl<;>simp [or_imp,forall_and]<;>exact fun a _=>Au _ a
theorem Hl {n k:Nat} {o:Bool} {l:List Cal}:Low n (.slice o k (l.map Bz)):=by
 refine low_slice.2 fun y hy=>?_
 obtain ⟨c,_,rfl⟩:=E2.1 hy
 exact Go.SX.low_agg.2 M7
theorem Kg {n k:Nat} {o:Bool} {l:List Cal} {c:Cal}:Low n (.slice o k (l.map Bz++[Bz c])):=by
 have:=Hl (n:=n) (k:=k) (o:=o) (l:=l++[c])
 rwa [Dy] at this
theorem Qk {s:Int} {c:List Col} {mv:Str} {i:Nat}:(Al s c mv (i+1)).2.map Bz=(Al s c mv i).2.map Bz++[Bz (E1 (Al s c mv i).1 c mv).2]:=by
 rw [Al,Dy]
 rfl
theorem c10 (s:Int) (c:List Col) (hc:OkCols c) (mv:Str) (n:Int) (h0:0≤n) (h1:n≤1000) (Hp:List AObj):AFun Tryz.prog 10 [Cf s,Cu c,A8 mv,A3 n] Hp (Qg (Al s c mv n.toNat).2):=by
 refine Ai [.tmp 8] [0,1,2,3] Tryz.func10 Tryz.ntmps10 (fun d=>?_)
 refine Z2 ?_;refine A2 [0,1,2,3] ?_;refine ee ?_;refine A2 [0,1,2,3,9] ?_;refine Z19 ?_;refine A2 [0,1,2,3,9,10] ?_
 refine C8 (α:=Nat) (fun i=>⟨95,Aa 0 (Cf (Al s c mv i).1) (Aa 1 (Cu c) (Aa 2 (A8 mv) (Aa 3 (A3 n) (Aa 9 (.slice true 15 ((Al s c mv i).2.map Bz)) (Aa 10 (A3 (i:Nat)) (fun _=>.any)))))),Hp,[],[],none⟩) (fun i=>(i:Int)≤n) (fun i=>(n-i).toNat) (0) h0 (C1 (by simp [Al])) rfl (fun i hi=>?_)
 refine Z30 ?_;refine A2 [0,1,2,3,9,10,24] ?_
 refine A6 (fun ht24=>?_) (fun ht24=>?_)
 ·have hlt:(i:Int)<n:=by simpa using ht24
  refine Z51 ?_;refine Z2 ?_;refine Ab Tryz.call26 (c26 ((Al s c mv i).1) 10 (by decide) (by decide) _) ?_;refine Z33 ?_;refine A2 [1,2,3,9,10,11,12] ?_;refine Z1 ?_;refine A2 [0,1,2,3,9,10,12] ?_;refine Z70 ?_;refine Z8 ?_;refine A2 [0,1,2,3,9,10,12,13] ?_
  refine W.joinC ⟨95,Aa 0 (Cf (E1 (Al s c mv i).1 c mv).1) (Aa 1 (Cu c) (Aa 2 (A8 mv) (Aa 3 (A3 n) (Aa 9 (.slice true 15 ((Al s c mv i).2.map Bz)) (Aa 10 (A3 (i:Nat)) (Aa 13 (.ptr (oid Hp.length 0) 0) (fun _=>.any))))))),Hp,[.cells 42 (Gx (E1 (Al s c mv i).1 c mv).2)],[],none⟩ (True) ?_ (fun hQ=>?_)
  ·refine ea ?_
   have hk:=Bn (A5 (Al s c mv i).1) 10 (by decide)
   refine Z6 ?_;refine A2 [0,1,2,3,9,10,12,13,34] ?_
   refine A6 (fun ht34=>?_) (fun ht34=>?_)
   ·refine Z2 ?_;refine Ab Tryz.call26 (c26 (A5 (Al s c mv i).1) 12 (by decide) (by decide) _) ?_;refine Z33 ?_;refine A2 [1,2,3,9,10,13,14,15] ?_;refine Z2 ?_;refine Ab Tryz.call26 (c26 (A5 (A5 (Al s c mv i).1)) 4 (by decide) (by decide) _) ?_;refine Z33 ?_;refine A2 [1,2,3,9,10,13,15,16,17] ?_;refine Z1 ?_;refine A2 [0,1,2,3,9,10,13,15,17] ?_;refine Z16 ?_;refine I6 (wrA ⟨Ak (A5 (A5 (Al s c mv i).1)) 12,Ak (A5 (A5 (A5 (Al s c mv i).1))) 4==0,[]⟩) li (places:=#[(0,1),(1,1),(2,1)]) jU (fun w=>by simp) Tryz.zeroValue60 ?_;refine Z8 ?_;refine A2 [0,1,2,3,9,10,13,18] ?_;refine Z30 ?_;refine A2 [0,1,2,3,9,10,13,18,54] ?_
    refine A6 (fun ht54=>?_) (fun ht54=>?_)
    ·refine Z41 ?_;refine Ab Tryz.call27 (c27 (A5 (A5 (A5 (Al s c mv i).1))) c hc _) ?_;refine io ?_;refine A2 [0,1,2,3,9,10,13,18] ?_;refine G6 ?_;refine Z27 ?_;refine R.buildSl jU jS jZ ?_;refine I6 (Bz (Cs ⟨Ak (A5 (A5 (Al s c mv i).1)) 12,Ak (A5 (A5 (A5 (Al s c mv i).1))) 4==0,(As (A5 (A5 (A5 (Al s c mv i).1))) c).2⟩)) (show Le _ (Bz (Cs ⟨Ak (A5 (A5 (Al s c mv i).1)) 12,Ak (A5 (A5 (A5 (Al s c mv i).1))) 4==0,(As (A5 (A5 (A5 (Al s c mv i).1))) c).2⟩)) from Hj (.inl rfl)) (places:=#[(0,1),(1,1),(2,1),(3,9),(12,1),(13,1),(14,1)]) jU (fun w=>by simp) Tryz.zeroValue42 ?_;refine ef ?_
     refine L3 ?_ ?_
     ·have hd:¬Ak (A5 (A5 (A5 (Al s c mv i).1))) 4=0:=by simpa using ht54
      have hw:(K2 (A5 (Al s c mv i).1) c)=((As (A5 (A5 (A5 (Al s c mv i).1))) c).1,⟨Ak (A5 (A5 (Al s c mv i).1)) 12,false,(As (A5 (A5 (A5 (Al s c mv i).1))) c).2⟩):=if_neg hd
      have hdd:(Ak (A5 (A5 (A5 (Al s c mv i).1))) 4==0)=false:=by simpa using hd
      have hm:E1 (Al s c mv i).1 c mv=((K2 (A5 (Al s c mv i).1) c).1,Cs (K2 (A5 (Al s c mv i).1) c).2):=by
       have h0:Ak (A5 (Al s c mv i).1) 10<4:=by simpa using ht34
       simp [E1,h0]
      rw [hm]
      rw [hw]
      simp only [hdd]
      exact Dj (own:=[.cells 42 (Gx (Cs ⟨Ak (A5 (A5 (Al s c mv i).1)) 12,false,(As (A5 (A5 (A5 (Al s c mv i).1))) c).2⟩))]) (fun _=>.refl _) (by repeat (first|exact Bx|refine Bw (by first|exact Hl|exact Kg|(simp [or_imp,forall_and,oid];done)|(simp [or_imp,forall_and,oid]<;>omega)) ?_)) (by intro y hy;rw [Cn.1 hy];exact M7) (by simp)
     trivial
    refine Z5 ?_;refine Z27 ?_;refine R.buildSl jU jS jZ ?_;refine I6 (Bz (Cs ⟨Ak (A5 (A5 (Al s c mv i).1)) 12,Ak (A5 (A5 (A5 (Al s c mv i).1))) 4==0,[]⟩)) (show Le _ (Bz (Cs ⟨Ak (A5 (A5 (Al s c mv i).1)) 12,Ak (A5 (A5 (A5 (Al s c mv i).1))) 4==0,[]⟩)) from Hj (.inl rfl)) (places:=#[(0,1),(1,1),(2,1),(3,9),(12,1),(13,1),(14,1)]) jU (fun w=>by simp) Tryz.zeroValue42 ?_;refine ef ?_
    refine L3 ?_ ?_
    ·have hd:Ak (A5 (A5 (A5 (Al s c mv i).1))) 4=0:=by simpa using ht54
     have hw:(K2 (A5 (Al s c mv i).1) c)=(A5 (A5 (A5 (Al s c mv i).1)),⟨Ak (A5 (A5 (Al s c mv i).1)) 12,true,[]⟩):=if_pos hd
     have hdd:(Ak (A5 (A5 (A5 (Al s c mv i).1))) 4==0)=true:=by simpa using hd
     have hm:E1 (Al s c mv i).1 c mv=((K2 (A5 (Al s c mv i).1) c).1,Cs (K2 (A5 (Al s c mv i).1) c).2):=by
      have h0:Ak (A5 (Al s c mv i).1) 10<4:=by simpa using ht34
      simp [E1,h0]
     rw [hm]
     rw [hw]
     simp only [hdd]
     exact Dj (own:=[.cells 42 (Gx (Cs ⟨Ak (A5 (A5 (Al s c mv i).1)) 12,true,[]⟩))]) (fun _=>.refl _) (by repeat (first|exact Bx|refine Bw (by first|exact Hl|exact Kg|(simp [or_imp,forall_and,oid];done)|(simp [or_imp,forall_and,oid]<;>omega)) ?_)) (by intro y hy;rw [Cn.1 hy];exact M7) (by simp)
    trivial
   refine Z16 ?_;refine A2 [0,1,2,3,9,10,12,13,65] ?_
   refine A6 (fun ht65=>?_) (fun ht65=>?_)
   ·refine Z27 ?_;refine m5 ?_;refine ef ?_
    refine L3 ?_ ?_
    ·have hm:E1 (Al s c mv i).1 c mv=(A5 (Al s c mv i).1,B8 mv):=by
      have h0:¬Ak (A5 (Al s c mv i).1) 10<4:=by simpa using ht34
      have h1:¬Ak (A5 (Al s c mv i).1) 10<6:=by first|omega|(simp at ht88;omega)|(simp at ht65;omega)|(simp at ht70;omega)|(simp at ht34 ht65 ht70 ht82;omega)|(simp at ht34 ht65;omega)|(simp at ht34 ht65 ht70;omega)
      have h2:Ak (A5 (Al s c mv i).1) 10=6:=by simpa using ht65
      simp [E1,h0,h1,h2]
     rw [hm]
     exact Cm rfl
    trivial
   refine Z16 ?_;refine A2 [0,1,2,3,9,10,12,13,70] ?_
   refine A6 (fun ht70=>?_) (fun ht70=>?_)
   ·refine Z2 ?_;refine Ab Tryz.call26 (c26 (A5 (Al s c mv i).1) 5 (by decide) (by decide) _) ?_;refine Z33 ?_;refine A2 [1,2,3,9,10,13,19,20] ?_;refine Z1 ?_;refine A2 [0,1,2,3,9,10,13,20] ?_;refine Jb ?_
    have hk5:=Bn (A5 (A5 (Al s c mv i).1)) 5 (by decide)
    refine Z0 ?_;refine I6 (Bz (Ds (Ak (A5 (A5 (Al s c mv i).1)) 5+1))) (show Le _ (Bz (Ds (Ak (A5 (A5 (Al s c mv i).1)) 5+1))) from Hj (.inr ⟨rfl,rfl⟩)) (places:=#[(0,1),(1,1),(2,1),(3,9),(12,1),(13,1),(14,1)]) jU (fun w=>by simp) Tryz.zeroValue42 ?_;refine ef ?_
    refine L3 ?_ ?_
    ·have hm:E1 (Al s c mv i).1 c mv=(A5 (A5 (Al s c mv i).1),Ds (Ak (A5 (A5 (Al s c mv i).1)) 5+1)):=by
      have h0:¬Ak (A5 (Al s c mv i).1) 10<4:=by simpa using ht34
      have h1:¬Ak (A5 (Al s c mv i).1) 10<6:=by first|omega|(simp at ht88;omega)|(simp at ht65;omega)|(simp at ht70;omega)|(simp at ht34 ht65 ht70 ht82;omega)|(simp at ht34 ht65;omega)|(simp at ht34 ht65 ht70;omega)
      have h2:¬Ak (A5 (Al s c mv i).1) 10=6:=by simpa using ht65
      have h3:Ak (A5 (Al s c mv i).1) 10=7:=by simpa using ht70
      simp [E1,h0,h1,h2,h3]
     rw [hm]
     exact Cm rfl
    trivial
   refine Z16 ?_;refine A2 [0,1,2,3,9,10,12,13,82] ?_
   refine A6 (fun ht82=>?_) (fun ht82=>?_)
   ·refine Z79 ?_;refine ot ?_;refine Fu ?_;refine A2 [0,1,2,3,9,10,12,13] ?_;refine Z1 ?_;refine A2 [0,1,2,3,9,10,13,88] ?_
    refine A6 (fun ht88=>?_) (fun ht88=>?_)
    ·refine Z27 ?_;refine ef ?_
     refine L3 ?_ ?_
     ·have hm:E1 (Al s c mv i).1 c mv=(A5 (Al s c mv i).1,Cv 1):=by
       have h0:¬Ak (A5 (Al s c mv i).1) 10<4:=by simpa using ht34
       have h1:¬Ak (A5 (Al s c mv i).1) 10<6:=by first|omega|(simp at ht88;omega)|(simp at ht65;omega)|(simp at ht70;omega)|(simp at ht34 ht65 ht70 ht82;omega)|(simp at ht34 ht65;omega)|(simp at ht34 ht65 ht70;omega)
       have h2:¬Ak (A5 (Al s c mv i).1) 10=6:=by simpa using ht65
       have h3:¬Ak (A5 (Al s c mv i).1) 10=7:=by simpa using ht70
       have h4:Ak (A5 (Al s c mv i).1) 10=8:=by simpa using ht88
       simp [E1,h0,h1,h2,h3,h4]
      rw [hm]
      exact Cm rfl
     trivial
    refine F9 [0,1,2,3,9,10,13] ?_;refine eb ?_
    refine L3 ?_ ?_
    ·have hm:E1 (Al s c mv i).1 c mv=(A5 (Al s c mv i).1,Cv 0):=by
      have h0:¬Ak (A5 (Al s c mv i).1) 10<4:=by simpa using ht34
      have h1:Ak (A5 (Al s c mv i).1) 10<6:=by simp at ht34 ht65 ht70 ht82 ht88;omega
      simp [E1,h0,h1]
     rw [hm]
     exact Cm rfl
    trivial
   refine F9 [0,1,2,3,9,10,13] ?_;refine eb ?_
   refine L3 ?_ ?_
   ·have hm:E1 (Al s c mv i).1 c mv=(A5 (Al s c mv i).1,De):=by
     have h0:¬Ak (A5 (Al s c mv i).1) 10<4:=by simpa using ht34
     have h1:¬Ak (A5 (Al s c mv i).1) 10<6:=by first|omega|(simp at ht88;omega)|(simp at ht65;omega)|(simp at ht70;omega)|(simp at ht34 ht65 ht70 ht82;omega)|(simp at ht34 ht65;omega)|(simp at ht34 ht65 ht70;omega)
     have h2:¬Ak (A5 (Al s c mv i).1) 10=6:=by simpa using ht65
     have h3:¬Ak (A5 (Al s c mv i).1) 10=7:=by simpa using ht70
     have h4:¬Ak (A5 (Al s c mv i).1) 10=8:=by simp at ht82;omega
     simp [E1,h0,h1,h2,h3,h4]
    rw [hm]
    exact Cm rfl
   trivial
  refine Z56 ?_;refine Z74 ?_
  refine F6 jU Tryz.type42 ?_ ?_ ?_
  ·simp only [Bs,Du,Ar,Bd,Tryz.t42];omega
  ·simp only [Bs,Du,Ar,Bd,Tryz.t42];omega
  refine G5 ?_;refine A2 [0,1,2,3,9,10] ?_;refine Z17 ?_;refine Z6 ?_;refine A2 [0,1,2,3,9,10] ?_;refine C0 (i+1) (by omega) (by omega) ?_
  simp only [Qk]
  exact Dj (own:=[]) (fun _=>.refl _) (by repeat (first|exact Bx|refine Bw (by first|exact Hl|exact Kg|(simp [or_imp,forall_and,oid];done)|(simp [or_imp,forall_and,oid]<;>omega)) ?_)) (by simp) (by simp)
 have hxe:n.toNat=i:=by simp at ht24;omega
 refine Z59 ?_;refine Z1 ?_;refine A2 [8] ?_;refine Dg ?_;exact A9 (Af A7) ⟨by rw [hxe]<;>rfl,rfl⟩ (hlow:=Hl)

end Go.SX.Nb
namespace Go.SX
variable [GI:GlobInv]
open Classical
section
variable {P:Program} {d:Nat} {st:St} {ty:TypeId} {pos:String} {aft:Array Edge} {gd:Option (Nat×Bool)}
/-- A variable of its own, not laid yet. -/
theorem AOp.allocP {t:TypeId} {z:Value} {k s:Nat} (hz:∀w,(zeroValue t).run P w=.ok z w) (hk:z.cells.size=k) (hs:s<st.sz):
  AOp P d ⟨some s,.alloc t,ty,pos,aft,gd⟩ st (·=st.set s (.cellp k)):=by
 subst hk
 intro G a w h Q'
 let G':Gh:={ G with tag:=fun b o=>if b=w.heap.size∧o<z.cells.size then .tail (.slot d s) else G.tag b o }
 have hfree:∀o,G.tag w.heap.size o=.free:=fun o=>Fj h.tags _ o (Ah _)
 have hne:∀b o,G.tag b o≠.free→¬(b=w.heap.size∧o<z.cells.size):=fun b o hb hc=>by rw [hc.1] at hb;exact hb (hfree o)
 have hkeep:∀b o,G.tag b o≠.free→G'.tag b o=G.tag b o:=fun b o hb=>by simp only [G'];rw [if_neg (hne b o hb)]
 have hcell:∀b o,G.tag b o≠.free→(w.alloc (.cells z.cells t)).cell? ⟨b,o,none⟩=w.cell? ⟨b,o,none⟩:=fun b o hb=>by
  refine World.cell?_alloc_old _ _ _ ?_
  show b≠w.heap.size
  rintro rfl
  exact hb (hfree o)
 have T:Turn G w G' (w.alloc (.cells z.cells t)):=by
  refine ⟨fun b o hb=>⟨by rw [hkeep b o (by rw [hb];simp)];exact hb,hcell b o (by rw [hb];simp)⟩,fun b o L hb=>by rw [hkeep b o (by rw [hb];simp)];exact hb,fun b o i hb=>by rw [hkeep b o (by rw [hb];simp)];exact hb,Ah _,fun o ho=>rfl,rfl,rfl,rfl,by simp,So _ (fun b o hb=>.inl (by simp only [G'];rw [if_neg (by omega)])) (fun i hi=>.inl ⟨hi,rfl⟩)⟩
 have h1:StRel d G' st a (w.alloc (.cells z.cells t)):=by
  refine h.turn (U:=st.up) (O:=st.own) T ⟨fun i x hx=>T.objRel ?_ ?_ (h.heap.obj i x hx) (fun b hb=>?_),h.heap.n,h.heap.inj⟩ rfl h.defsAt ⟨fun b o hb=>?_,fun b o i hb=>?_,fun b o L hb=>?_,h.tags.globKeep T.old⟩ h.low
  ·rw [h.heap.n];exact (Ac.1 hx).1
  ·have:=(h.heap.obj i x hx).blt
   show (w.heap.push _)[G.blk i]? = _
   rw [Kj,if_neg (by omega)]
  ·have:=hb.lt
   show (w.heap.push _)[b]? = _
   rw [Kj,if_neg (by omega)]
  ·simp only [G'] at hb
   split at hb
   ·rename_i hc
    obtain ⟨rfl,hlt⟩:=hc
    exact ⟨z.cells[o],by rw [World.cell?_alloc_new];exact Cz hlt⟩
   rw [hcell b o hb]
   exact h.tags.ex b o hb
  ·simp only [G'] at hb
   split at hb
   ·cases hb
   rw [World.frozen?_alloc_old]
   ·exact h.tags.obj b o i hb
   show b≠w.heap.size
   rintro rfl
   rw [hfree] at hb;cases hb
  simp only [G'] at hb
  split at hb
  ·rename_i hc
   obtain ⟨rfl,hlt⟩:=hc
   exact World.frozen?_alloc_new _ _ _ _
  rw [World.frozen?_alloc_old]
  ·exact h.tags.tail b o L hb
  show b≠w.heap.size
  rintro rfl
  rw [hfree] at hb;cases hb
 have hrun:(execOp a.eval (⟨some s,.alloc t,ty,pos,aft,gd⟩:Oper)).run P w=.ok (.value (.pointer (some ⟨w.heap.size,0,none⟩))) (w.alloc (.cells z.cells t)):=by
  simp [execOp,Instr.alloc,hz,newVar,newRow]
 refine Ce (by intro c h;cases h) hrun ⟨G',_,h1.put (s:=s) (y:=.cellp z.cells.size) hs ?_,T.keep d,rfl,rfl,rfl,rfl⟩
 exact .cellp _ _ _ ⟨_,rfl,fun o ho=>by simp [G',ho]⟩

/-- It is laid: from now on nobody writes it. -/
theorem AOp.storeP {t:TypeId} {x:Operand} {r k:Nat} {y:AV} (hsz:∀w,(sizeOf t).run P w=.ok k w) (hf:st.fr r=.cellp k) (hx:st.ev x=y) (hk:y.cells.length=k) (hk0:0<k) (h1:y.cells.all AV.one=true):
  AOp P d ⟨none,.store t (.tmp r) x,ty,pos,aft,gd⟩ st (·=st.set r (.ro y.cells)):=by
 intro G a w h Q'
 have hone:∀c∈y.cells,c.one=true:=fun c hc=>Ap.1 h1 c hc
 obtain ⟨hc,hcc⟩:=(hx ▸ h.eval x).cells hone
 have hsl:=h.slots r
 rw [hf] at hsl
 generalize hv:a.tmps.getD r undef=v at hsl
 cases hsl with
 | cellp l k b ho =>
  obtain ⟨L,hL,ht⟩:=ho
  injection hL with hL
  subst hL
  let us:=(a.eval x).cells.toList
  have hul:us.length=k:=by simp only [us,Array.length_toList];omega
  have huone:∀u∈us,u.oneCell'=true:=fun u hu=>by
   obtain ⟨j,hj⟩:=Cc hu
   have hj':(a.eval x).cells[j]? = some u:=by rw [←Ma];exact hj
   have hlt:j<y.cells.length:=by rw [←hc];exact (J5.1 hj').1
   exact (hcc j _ u (Ad hlt) hj').one (hone _ (C7 hlt))
  have hrun0:=run_storeCells_cells (P:=P) b 0 us 0 w (fun j hj=>by
    obtain ⟨u,hu⟩:=h.tags.ex b j (by rw [ht j (by omega)];simp)
    simp only [Nat.add_zero,B7];rw [hu];rfl) (fun j hj=>by simpa using h.tags.tail _ _ _ (ht j (by omega))) huone
  simp only [Nat.add_zero] at hrun0
  let W:=w.setCells b 0 us
  let G':Gh:={ G with tag:=fun b' o=>if b'=b∧o<k then .fix else G.tag b' o }
  have htag:∀b' o,G.tag b' o≠.tail (.slot d r)→G'.tag b' o=G.tag b' o:=fun b' o hb=>by
   simp only [G']
   rw [if_neg]
   rintro ⟨rfl,ho⟩
   exact hb (ht o ho)
  have hout:∀b' o,¬(b'=b∧o<k)→W.cell? ⟨b',o,none⟩=w.cell? ⟨b',o,none⟩:=fun b' o hn =>
   World.cell?_setCells_out _ us 0 w ⟨b',o,none⟩ (fun hb _=>by
    simp only at hb ⊢
    exact .inr (Oa fun h''=>hn ⟨hb,by omega⟩))
  have hcell:∀b' o,G.tag b' o≠.tail (.slot d r)→W.cell? ⟨b',o,none⟩=w.cell? ⟨b',o,none⟩:=fun b' o hb=>hout b' o (fun hn=>hb (by rw [hn.1];exact ht o hn.2))
  have hnb:∀i,i<G.n→G.blk i≠b:=J2 h.heap h.tags (ht 0 hk0)
  have hheap:∀b',b'≠b→W.heap[b']? = w.heap[b']? := fun b' hb=>D3 _ _ _ _ _ hb
  have hsize:W.heap.size=w.heap.size:=D0 _ _ _ _
  have hstill:Still G w G' W:=Il (fun b' hb'=>hheap b' (fun e=>J0 (ht 0 hk0) (e ▸ hb'))) (H1 hsize.symm) (fun b' o _=>by
   by_cases hc:b'=b∧o<k
   ·exact .inr ⟨_,by rw [hc.1];exact ht o hc.2⟩
   exact .inl (by simp only [G'];rw [if_neg hc])) (fun i hi=>.inl ⟨hi,rfl⟩)
  have hfix:∀b' o,G.tag b' o=.fix→G'.tag b' o=.fix∧W.cell? ⟨b',o,none⟩=w.cell? ⟨b',o,none⟩:=fun b' o hb=>⟨by rw [htag b' o (by rw [hb];simp)];exact hb,hcell b' o (by rw [hb];simp)⟩
  have htail:∀b' o L,L≠.slot d r→G.tag b' o=.tail L→G'.tag b' o=.tail L:=fun b' o L hL hb=>by
   rw [htag b' o (by rw [hb];intro e;injection e with e;exact hL e)];exact hb
  have hobj:∀b' o i,G.tag b' o=.obj i→G'.tag b' o=.obj i:=fun b' o i hb=>by rw [htag b' o (by rw [hb];simp)];exact hb
  have hrep:∀{l:Option Loc} {z:AV} {u:Value},l≠some (.slot d r)→Rep G w l z u→Rep G' W l z u:=fun hl hz =>
   hz.mono (G':=G') hfix (Ah _) (fun _ _=>rfl) (fun L hL b' o ht'=>htail b' o L (fun e=>hl (by rw [hL,e])) ht')
  have hkeep:Keep d G w G' W:=⟨hfix,fun b' o e s he ht'=>htail b' o _ (by rintro ⟨⟩;omega) ht',Ah _,fun _ _=>rfl,Fc _ _ _ _,Dt _ _ _ _,D9 _ _ _ _,H1 hsize.symm,hstill⟩
  have hvec:∀j u,us[j]? = some u→W.cell? ⟨b,j,none⟩=some u:=fun j u hu=>by
   have hj:=(Ac.1 hu).1
   have hex:∃u',w.cell? ⟨b,j,none⟩=some u':=h.tags.ex b j (by rw [ht j (by omega)];simp)
   obtain ⟨u',hu'⟩:=hex
   have hbk:∃vs e fz,w.heap[b]? = some (.cells vs e fz):=by
    simp only [World.cell?] at hu'
    split at hu'
    ·rename_i vs e fz hb;exact ⟨vs,e,fz,hb⟩
    cases hu'
   obtain ⟨vs,e,fz,hbk⟩:=hbk
   have hlen:0+us.length≤vs.size:=by
    rw [hul,B7]
    rcases B0 vs.size k with h'|h'
    ·exfalso
     obtain ⟨u2,hu2⟩:=h.tags.ex b vs.size (by rw [ht _ h'];simp)
     simp [World.cell?,hbk] at hu2
    exact h'
   obtain ⟨vs',b1,b2,b3⟩:=Hb b e fz us 0 w vs hbk hlen
   have b3':=b3 j
   rw [if_pos (by omega)] at b3'
   show (w.setCells b 0 us).cell? ⟨b,j,none⟩=some u
   simp only [World.cell?,b1]
   rw [b3',Nat.sub_zero]
   exact hu
  have hst:StRel d G' (st.set r (.ro y.cells)) a W:=by
   refine ⟨h.size,fun s=>?_,⟨fun i z hz=>?_,h.heap.n,h.heap.inj⟩,h.defs,h.defsAt,h.defsNodup,h.defsGe,⟨fun b' o hb=>?_,fun b' o i hb=>?_,fun b' o L hb=>?_,h.tags.globKeep hstill⟩,h.rnd,h.low,h.top⟩
   ·show Rep G' W _ (Aa r (.ro y.cells) st.fr s) _
    unfold Aa
    by_cases hs:s=r
    ·subst hs
     rw [if_pos rfl,hv]
     refine .ro _ _ ⟨b,0,none⟩ (fun j=>(a.eval x).cells.getD j undef) rfl hone (fun j c hj=>?_) (fun j c hj=>?_)
     all_goals
      have hlt:j<y.cells.length:=(Ac.1 hj).1
      have hu:(a.eval x).cells[j]? = some ((a.eval x).cells[j]'(by omega)):=Cz _
      have e1:(a.eval x).cells.getD j undef=(a.eval x).cells[j]'(by omega):=by rw [Hm,hu];rfl
      rw [e1]
     ·refine ⟨by simp only [G',B7];rw [if_pos ⟨trivial,by omega⟩],?_⟩
      rw [B7]
      exact hvec j _ (by simp only [us];rw [Ma];exact hu)
     exact hrep (by simp) (hcc j c _ hj hu)
    rw [if_neg hs]
    exact hrep (by simp;exact fun e=>hs e) (h.slots s)
   ·have hob:=h.heap.obj i z hz
    have hi:i<G.n:=by rw [h.heap.n];exact (Ac.1 hz).1
    have hb:=hheap (G.blk i) (hnb i hi)
    cases z with
    | cells t cs =>
     obtain ⟨vs,a1,a2,a3,a4⟩:=hob
     exact ⟨vs,hb.trans a1,a2,fun j y u p q=>hrep (by simp) (a3 j y u p q),fun j hj=>hobj _ _ _ (a4 j hj)⟩
    | loop sta pd fr sz ps asg bd df =>
     obtain ⟨fn,tmps,a1,a2,a3,a4⟩:=hob
     exact ⟨fn,tmps,hb.trans a1,a2,fun s=>hrep (by simp) (a3 s),a4⟩
    | defs=>exact hb.trans hob
    | dead=>exact hb.trans hob
    | bld t e bs=>exact BldRel.turn hob rfl (fun b' o ho=>hobj b' o i ho) hb (fun b' ha=>hheap b' (fun e=>by
      have:=ha.tag h.tags (o:=0) (by rw [e,ht 0 hk0];simp)
      rw [e,ht 0 hk0] at this;cases this))
    | gone =>
     obtain ⟨vs,t,fz,a1,a2⟩:=hob
     exact ⟨vs,t,fz,hb.trans a1,fun j hj=>(hfix _ _ (a2 j hj)).1⟩
   ·by_cases hc:b'=b∧o<k
    ·obtain ⟨rfl,ho⟩:=hc
     exact ⟨us[o]'(by omega),hvec o _ (Ad _)⟩
    rw [hout b' o hc]
    simp only [G',if_neg hc] at hb
    exact h.tags.ex b' o hb
   ·rw [World.frozen?_setCells]
    simp only [G'] at hb
    split at hb
    ·cases hb
    exact h.tags.obj b' o i hb
   rw [World.frozen?_setCells]
   simp only [G'] at hb
   split at hb
   ·cases hb
   exact h.tags.tail b' o L hb
  have hrun:(execOp a.eval (⟨none,.store t (.tmp r) x,ty,pos,aft,gd⟩:Oper)).run P w=.ok .skip W:=
   E7 hsz (show a.eval (.tmp r)=_ from hv) (by omega) hrun0
  exact Eh (by intro c h;cases h) hrun ⟨G',_,hst,hkeep,rfl,rfl,rfl,rfl⟩
end
section
variable {P:Program} {d:Nat} {sz:Nat} {dfs:List Nat} {rnd:Option Nat} {l0:List Oper} {up own:(Nat→Bool)→List AObj} {KP:List PanicEntry→St→Prop} {E:List Oper→(Nat→AV)→Prop} {S:List SegY} {l:List Oper} {fr:Nat→AV} {ty:TypeId} {pos:String} {aft:Array Edge} {s:Nat} {T F:List Nat}
theorem Y.allocP {t:TypeId} {z:Value} {k:Nat} (hz:∀w,(zeroValue t).run P w=.ok z w) (h:ChainY P d l0 sz up own dfs rnd KP E S l (Aa s (.cellp k) fr)) (hk:z.cells.size=k:=by rfl) (hs:Nat.blt s sz=true:=by rfl):
  ChainY P d l0 sz up own dfs rnd KP E (.s [s] none T F::S) (⟨some s,.alloc t,ty,pos,aft,none⟩::l) fr:=by
 refine ⟨_,l,[(s,.cellp k)],rfl,⟨rfl,rfl,fun B f _ _ _ hf=>.of ?_⟩,h⟩
 exact AOp.allocP (st:=⟨sz,f,up B,own B,dfs,rnd⟩) hz hk (by simpa using hs)
theorem Y.storeP {t:TypeId} {x:Operand} {r k:Nat} {y:AV} {ys:List AV} (hsz:∀w,(Go.sizeOf t).run P w=.ok k w) (h:ChainY P d l0 sz up own dfs rnd KP E S l (Aa r (.ro ys) fr))
  (hf:fr r=.cellp k:=by exact sL0) (hx:B6 fr x=y:=by exact sL0) (hc:y.cells=ys:=by exact sL0)
  (hk:ys.length=k:=by rfl) (hk0:0<k:=by decide) (h1:ys.all AV.one=true:=by exact sL1):
  ChainY P d l0 sz up own dfs rnd KP E (.s [r] none T F::S) (⟨none,.store t (.tmp r) x,ty,pos,aft,none⟩::l) fr:=by
 subst hc
 refine ⟨_,l,[(r,.ro y.cells)],rfl,⟨rfl,rfl,fun B f _ _ _ hfr=>.of ?_⟩,h⟩
 have e:f r=fr r:=hfr r (by simp [lk,Sv,Op.operands])
 have ex:B6 f x=y:=by rw [agr hfr (by simp [Op.operands])];exact hx
 exact AOp.storeP (st:=⟨sz,f,up B,own B,dfs,rnd⟩) hsz (e.trans hf) ex hk hk0 h1
end
end Go.SX
