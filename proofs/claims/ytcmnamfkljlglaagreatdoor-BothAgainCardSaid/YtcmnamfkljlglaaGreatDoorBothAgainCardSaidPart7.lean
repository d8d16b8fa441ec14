/- On the way (part 7). -/
import Derived.Lib.ParseIntBTie
import Derived.Shelf.Strings.Builder1
import Derived.Lib.ItoaLen
import Derived.Test.YtcmnamfkljlglaaGreatDoorBothAgainCardSaidPart6
set_option linter.all false
namespace Go.SX.Nb
open Go Go.SX Go.Proofs
variable [ErrAt]
set_option maxRecDepth 4000
theorem c48 (l:List Col) (hl:l.length≤1000000) (Hp:List AObj):AFun Tryz.prog 48 [Ad l] Hp (Ad l):=by
 refine Ac [.tmp 2] [0] Tryz.func48 Tryz.ntmps48 (fun d=>?_)
 refine Z49 ?_;refine Z40 ?_
 refine R.eqlNil jU (by kernel_rfl) (fun b hb=>?_)
 refine A0 [0,4] ?_
 refine A1 (fun ht4=>?_) (fun ht4=>?_)
 ·have hl0:l=[]:=by simpa using hb ht4
  subst hl0
  refine Z0 ?_;refine Lx 2 2 false ?_;refine Z4 ?_;exact ls
 refine Z9 ?_;refine Ds ?_;refine Pf ?_;refine A2 ?_
 refine Dw jU Tryz.type46 ?_ ?_ ?_
 ·simp [Tryz.t46];omega
 ·simp [Tryz.t46];omega
 refine Gy ?_;exact m3

theorem cn {Hp:List AObj} {y:Col} {n:Nat} (h:∀x∈Hp,ObjLow Hp.length x):∀x∈Hp++[AObj.cells 46 [],AObj.cells 46 (Am y.name::A3 y.kind::List.replicate n AV.any)],ObjLow (Hp.length+2) x:=by
 intro x hx
 rcases Em.1 hx with hx|hx
 ·exact K3 (by omega) (h x hx)
 simp only [Cd,E8,or_false] at hx
 rcases hx with rfl|rfl
 ·intro z hz;cases hz
 intro z hz
 simp only [Cd] at hz
 rcases hz with rfl|rfl|hz
 ·simp
 ·simp
 rw [List.eq_of_mem_replicate hz];simp
theorem pc (y:Col) (Hp:List AObj):ACallO Tryz.prog 48 [Ad [y]] Hp (fun r H'=>∃cc,1≤cc∧r=.sl (oid Hp.length 1) 2 1 cc∧H'=Hp++[.cells 46 [],.cells 46 (Am y.name::A3 y.kind::List.replicate ((cc-1)*2) AV.any)]):=by
 refine ACallO.body [.tmp 2] [0] Tryz.func48 Tryz.ntmps48 (fun d=>?_)
 refine Z49 ?_;refine Z59 ?_
 refine Lo (fun hlow=>?_)
 refine A2 ?_
 refine R.eqlNil jU (by kernel_rfl) (fun b hb=>?_)
 refine A0 [0,4] ?_
 refine A1 (fun ht4=>?_) (fun ht4=>?_)
 ·exact absurd (hb ht4) (by simp)
 refine Z9 ?_;refine Ds ?_;refine R.buildObj0 (n:=0) jU Tryz.sizeOf46 ?_;refine A2 ?_
 refine R.appendObj (k:=2) (n:=1) jU Tryz.type46 (show [Co y]≠[] by simp) ?_ ?_ (fun cc hcc=>?_)
 ·simp [Tryz.t46]
 ·simp
 have e0:Gg [Co y]++List.replicate ((cc-[Co y].length)*2) AV.any=Am y.name::A3 y.kind::List.replicate ((cc-1)*2) AV.any:=rfl
 rw [e0]
 clear e0
 refine A2 ?_;refine Z4 ?_;exact K.finO 2 (A4 (t:=2)) ⟨cc,hcc,rfl,rfl⟩ (hlow:=by simp [oid]) (hobj:=cn hlow)

theorem na (c:List Col) (hc:OkCols c) (m:Mov) (h:OkMov m) (h3:(m.kind==3)=false) (Hp:List AObj):AFun Tryz.prog 97 [Ad c,Ff m] Hp (Ad (Ba c m)):=by
 refine Ac [.tmp 4] [0,1] Tryz.func97 Tryz.ntmps97 (fun d=>?_)
 refine Z3 ?_;refine Mw ?_;refine Z3 ?_;refine A7 Tryz.call48 (c48 m.give h.gives2 _) ?_;refine A2 ?_;refine A0 [0,3,5] ?_;refine Z25 ?_;refine A0 [0,3,5,12] ?_
 refine A1 (fun ht12=>?_) (fun ht12=>?_)
 ·rw [h3] at ht12;cases ht12
 refine Pd ?_;refine Z17 ?_;exact A5 (Aa A4) ⟨by rw [g7 h3]<;>rfl,rfl⟩

theorem nb (c:List Col) (hc:OkCols c) (m:Mov) (h:OkMov m) (h3:(m.kind==3)=true) (s:Str) (y:Col) (ht:m.take=[s]) (hg:m.give=[y]) (Hp:List AObj):AFun Tryz.prog 97 [Ad c,Ff m] Hp (Ad (Ba c m)):=by
 have hgv:=g8 (c:=c) h3 ht hg
 have hgy:=cl (c:=c) h3 ht hg
 obtain ⟨kd,tk,gv,ah,bk⟩:=m
 simp only at ht hg h3
 subst ht hg
 refine Ac [.tmp 4] [0,1] Tryz.func97 Tryz.ntmps97 (fun d=>?_)
 refine Z3 ?_;refine Mw ?_;refine Z3 ?_;refine R.callO Tryz.call48 (pc y _) ?_
 rintro _ _ ⟨cc,hcc,rfl,rfl⟩
 refine ⟨[.cells 46 [],.cells 46 (Am y.name::A3 y.kind::List.replicate ((cc-1)*2) AV.any)],by simp,?_⟩
 simp only [Hb,Dq]
 refine A2 ?_;refine A0 [0,3,5] ?_;refine Z25 ?_;refine A0 [0,3,5,12] ?_
 refine A1 (fun ht12=>?_) (fun ht12=>?_)
 ·refine Z8 ?_
  refine A2 (h:=Ab (0) (Am s) (fun _=>rfl)) (hr:=?_)
  refine A2 ?_;refine A7 Tryz.call71 (c71 c hc s _) ?_;refine A2 ?_;refine A0 [0,5,6] ?_;refine Z3 ?_;refine A0 [0,5,6,20] ?_
  refine A1 (fun ht20=>?_) (fun ht20=>?_)
  ·have hf:¬B7 s c<0:=by simp at ht20;omega
   obtain ⟨jj,hjj,hjc⟩:=Iy hf
   refine Z20 ?_;refine A2 ?_
   refine A2 (h:=Ab ((B7 s c).toNat) (Co (c.getD (B7 s c).toNat ⟨[],0⟩)) (fun _=>Wm hf)) (hr:=?_)
   refine Z1 ?_;refine R.indexAddrSl (n:=1) 0 jU Tryz.sizeOf46 (by decide) ?_
   refine A2 (h:=Q.fieldAddrPtr (hc:=rfl)) (hr:=?_)
   refine Uk (y:=A3 (c.getD (B7 s c).toNat ⟨[],0⟩).kind) (ys:=[A3 (c.getD (B7 s c).toNat ⟨[],0⟩).kind]) (n:=1) (cs:=Am y.name::A3 y.kind::List.replicate ((cc-1)*2) AV.any) (cs':=Am y.name::A3 (c.getD (B7 s c).toNat ⟨[],0⟩).kind::List.replicate ((cc-1)*2) AV.any) (t':=46) jS ?_ (hc:=rfl) (hput:=rfl) (hfit:=by simp)
   refine A0 [5] ?_;refine E4 ?_;refine Ds ?_;refine R.freeze (k:=2) (n:=1) 5 1 [Co ⟨y.name,(c.getD (B7 s c).toNat ⟨[],0⟩).kind⟩] hcc rfl rfl (T7 [⟨y.name,(c.getD (B7 s c).toNat ⟨[],0⟩).kind⟩]) (T8 [⟨y.name,(c.getD (B7 s c).toNat ⟨[],0⟩).kind⟩]) (Ot [⟨y.name,(c.getD (B7 s c).toNat ⟨[],0⟩).kind⟩]) ?_;refine Z1 ?_;exact ky
  have hf:B7 s c<0:=by simp at ht20;omega
  refine Z9 ?_;refine Ds ?_;refine R.freeze (k:=2) (n:=1) 5 1 [Co ⟨y.name,y.kind⟩] hcc rfl rfl (T7 [⟨y.name,y.kind⟩]) (T8 [⟨y.name,y.kind⟩]) (Ot [⟨y.name,y.kind⟩]) ?_;refine Z1 ?_;exact ky
 rw [h3] at ht12;cases ht12

/-- What a move must have before it is turned. -/
structure MvOk (m:Mov):Prop where
 ok:OkMov m
 ahead:m.ahead.length=m.give.length
 back:m.back.length=m.take.length
 one:(m.kind==3)=true→m.take.length=1∧m.give.length=1
theorem g9 {m:Mov} (h:OkMov m) (hc:Dj m=true):MvOk m:=⟨h,(Ep hc).1,(Ep hc).2,fun h3=>Oo hc (by rw [h3];rfl)⟩
theorem c97 (c:List Col) (hc:OkCols c) (m:Mov) (h:MvOk m) (Hp:List AObj):AFun Tryz.prog 97 [Ad c,Ff m] Hp (Ad (Ba c m)):=by
 cases h3:m.kind==3 with
 | false=>exact na c hc m h.ok h3 Hp
 | true =>
  obtain ⟨h1,h2⟩:=h.one h3
  obtain ⟨s,hs⟩:=cm h1
  obtain ⟨y,hy⟩:=cm h2
  exact nb c hc m h.ok h3 s y hs hy Hp
theorem T9 {c:List Col} {m:Mov} (h:OkMov m):OkCols (Ba c m):=by
 refine ⟨by rw [H3];exact Kl h.gives2 (by decide),fun y hy=>?_⟩
 unfold Ba at hy
 split at hy
 ·split at hy
  ·exact h.gives.2 y hy
  cases hg:m.give with
  | nil=>rw [hg] at hy;cases hy
  | cons z r =>
   rw [hg] at hy
   rcases Cd.1 hy with rfl|hy
   ·exact h.gives.2 z (by rw [hg];exact Kg)
   exact h.gives.2 y (by rw [hg];exact Qv _ hy)
 exact h.gives.2 y hy
theorem Ta {c give:List Col} {take:List Str} (hc:OkCols c) (hg:OkCols give) (hg2:give.length≤1000000):OkCols (Cg c take give).1:=by
 have h0:OkCols ([]:List Col):=⟨by decide,fun y hy=>by cases hy⟩
 unfold Cg
 split
 ·exact h0
 rename_i hr
 split
 ·exact h0
 split
 ·exact h0
 split
 ·exact h0
 split
 ·exact h0
 exact br hc (by simpa using hr) hg hg2 rfl
theorem Vj {c give:List Col} {take:List Str} (h:((Cg c take give).2 != 0)=false):∀s∈take,¬B7 s c<0:=by
 have ht:Ef c take=true:=by
  unfold Cg at h
  split at h
  ·cases h
  split at h
  ·cases h
  rename_i ht
  simpa using ht
 intro s hs hf
 obtain ⟨j,hj⟩:=C3 hs
 have:=takenM_true.1 ht j s hj
 unfold Je at this
 rw [show decide (B7 s c<0)=true by simpa using hf] at this
 simp at this
theorem Yc {over:List Col} {l:List Expr} {w:List Col} {x:Nat} (hl:x<l.length) (hw:x<w.length):
  Cr over (l.drop x) (w.drop x)=if Rn l[x] over w[x].kind != 0 then Rn l[x] over w[x].kind else Cr over (l.drop (x+1)) (w.drop (x+1)):=by
 rw [Hc hl,Hc hw]
 rfl
theorem co {over:List Col} {l:List Expr} {w:List Col} {x:Nat} (hl:l.length≤x):Cr over (l.drop x) (w.drop x)=0:=by
 rw [List.drop_eq_nil_of_le hl]
 cases w.drop x<;>rfl
theorem Q9 {α β:Type} {f:α→β} {l:List α} {x:Nat} (h:x<l.length):(l.take (x+1)).map f=(l.take x).map f++[f l[x]]:=by
 rw [G7 h,Cu];rfl
theorem ga {c:List Col} {m:Mov} (h:((Cg c m.take (Ba c m)).2 != 0)=true):Bh c m=([],(Cg c m.take (Ba c m)).2):=if_pos h
theorem gb {c:List Col} {m:Mov} (h:((Cg c m.take (Ba c m)).2 != 0)=false) (h2:(Cr c m.ahead (Ba c m) != 0)=true):Bh c m=([],Cr c m.ahead (Ba c m)):=by
 unfold Bh;rw [if_neg (by rw [h];simp),if_pos h2]
theorem gc {c:List Col} {m:Mov} (h:((Cg c m.take (Ba c m)).2 != 0)=false) (h2:(Cr c m.ahead (Ba c m) != 0)=false) (h3:(Cr (Cg c m.take (Ba c m)).1 m.back (Hu c m) != 0)=true):Bh c m=([],Cr (Cg c m.take (Ba c m)).1 m.back (Hu c m)):=by
 unfold Bh;rw [if_neg (by rw [h];simp),if_neg (by rw [h2];simp),if_pos h3]
theorem ge {c:List Col} {m:Mov} (h:((Cg c m.take (Ba c m)).2 != 0)=false) (h2:(Cr c m.ahead (Ba c m) != 0)=false) (h3:(Cr (Cg c m.take (Ba c m)).1 m.back (Hu c m) != 0)=false):Bh c m=((Cg c m.take (Ba c m)).1,0):=by
 unfold Bh;rw [if_neg (by rw [h];simp),if_neg (by rw [h2];simp),if_neg (by rw [h3];simp)]
theorem c99 (l:List Expr) (h:OkEs l) (w:List Col) (hw:w.length=l.length) (c:List Col) (hc:OkCols c) (Hp:List AObj):AFun Tryz.prog 99 [Gs l,Ad w,Ad c] Hp (A3 (Cr c l w)):=by
 refine Ac [.tmp 6] [0,1,2] Tryz.func99 Tryz.ntmps99 (fun d=>?_)
 refine Z0 ?_;refine A0 [0,1,2] ?_;refine Z25 ?_;refine A0 [1,2,11,12,13] ?_
 refine Bz (α:=Nat) (fun x=>⟨37,A6 1 (Ad w) (A6 2 (Ad c) (A6 11 (Gs l) (A6 12 (A3 (l.length:Nat)) (A6 13 (A3 (x:Nat)) (fun _=>.any))))),Hp,[],[],none⟩) (fun x=>x≤l.length∧Cr c l w=Cr c (l.drop x) (w.drop x)) (fun x=>l.length-x) (0) ⟨Au _,rfl⟩ (Bf (by simp)) rfl (fun x hx=>?_)
 refine Z0 ?_;refine A0 [1,2,11,12,13,14] ?_
 refine C5 (fun ht14=>?_) (fun ht14=>?_)
 ·have hlt:x<l.length:=by simpa using ht14
  have hlw:x<w.length:=by omega
  have hlen:=h.len
  have hst:=Yc (over:=c) hlt hlw
  refine Nu ?_
  refine A2 (h:=Ab (x) (Af l[x]) (fun _=>As hlt)) (hr:=?_)
  refine Ur ?_;refine A0 [1,2,7,8,11,12,13] ?_;refine Z28 ?_;refine A7 Tryz.call121 (n9 61 l[x] (h.ok _ (Bc hlt)) (by decide) c hc _) ?_;refine Z74 ?_;refine A0 [1,2,7,8,10,11,12,13] ?_;refine Z3 ?_;refine A0 [1,2,7,8,10,11,12,13,25] ?_
  refine A1 (fun ht25=>?_) (fun ht25=>?_)
  ·have he:Rn l[x] c w[x].kind=(Iw l[x] c).2:=if_pos ht25
   have hm:Cr c l w=(Iw l[x] c).2:=by rw [hx.2,hst,he,if_pos ht25]
   refine Z3 ?_;refine Rb ?_;exact Z79
  refine Z9 ?_;refine Cm [0,0,0,0,12,28,60,127,255] 7 Aq (by kernel_rfl) ?_;refine Sh ?_
  refine Ak (h:=Ab (x) (Co w[x]) (fun _=>As hlw)) (hr:=?_)
  refine Z63 ?_;refine A7 Tryz.call122 (pa 61 l[x] (h.ok _ (Bc hlt)) (by decide) c hc w[x].kind _) ?_;refine A2 ?_;refine A0 [1,2,11,12,13,35] ?_
  refine A1 (fun ht35=>?_) (fun ht35=>?_)
  ·have he:Rn l[x] c w[x].kind=10:=by unfold Rn;rw [if_neg (by rw [ht25];simp),if_pos ht35]
   have hm:Cr c l w=10:=by rw [hx.2,hst,he];rfl
   refine Z0 ?_;refine Z47 ?_;exact Z79
  have he:Rn l[x] c w[x].kind=0:=by unfold Rn;rw [if_neg (by rw [ht25];simp),if_neg (by rw [ht35];simp)]
  have hnx:Cr c l w=Cr c (l.drop (x+1)) (w.drop (x+1)):=by rw [hx.2,hst,he];rfl
  refine Z50 ?_;refine A0 [1,2,11,12,13] ?_;refine B0 (x+1) ⟨hlt,hnx⟩ (by omega) ?_
  exact Bs (own:=[]) (fun _=>.refl _) (by repeat (first|exact Ao|refine An (by first|(simp [or_imp,forall_and];done)|exact Jg) ?_)) (by simp) (by simp)
 have hxe:l.length≤x:=by simpa using ht14
 have hm:Cr c l w=0:=by rw [hx.2,co hxe]
 refine Z29 ?_;refine Z0 ?_;refine Z47 ?_;exact Xs

theorem pe (c:List Col) (hc:OkCols c) (m:Mov) (h:OkMov m) (hf:∀s∈m.take,¬B7 s c<0) (Hp:List AObj):AFun Tryz.prog 100 [Ad c,Ff m] Hp (Ad (Hu c m)):=by
 refine Ac [.tmp 4] [0,1] Tryz.func100 Tryz.ntmps100 (fun d=>?_)
 refine Z3 ?_;refine Mw ?_;refine Z0 ?_;refine A0 [0,3,5] ?_;refine Z59 ?_;refine Jy 5 2 ?_;refine Lp ?_;refine A0 [0,5,9,10,11] ?_
 refine Bz (α:=Nat) (fun x=>⟨26,A6 0 (Ad c) (A6 5 (.slice true 2 (((m.take.take x).map fun s=>c.getD (B7 s c).toNat ⟨[],0⟩).map Co)) (A6 9 (Ec m.take) (A6 10 (A3 (m.take.length:Nat)) (A6 11 (A3 (x:Nat)) (fun _=>.any))))),Hp,[],[],none⟩) (fun x=>x≤m.take.length) (fun x=>m.take.length-x) (0) (Au _) (Bf (by simp)) rfl (fun x hx=>?_)
 refine Z0 ?_;refine A0 [0,5,9,10,11,12] ?_
 refine C5 (fun ht12=>?_) (fun ht12=>?_)
 ·have hlt:x<m.take.length:=by simpa using ht12
  have htk:=h.takes
  have hfx:=hf _ (Bc hlt)
  obtain ⟨jj,hjj,hjc⟩:=Iy hfx
  refine Z65 ?_
  refine A2 (h:=Ab (x) (Am m.take[x]) (fun _=>As hlt)) (hr:=?_)
  refine Z1 ?_;refine A0 [0,5,7,9,10,11] ?_;refine Z90 ?_;refine Z37 ?_;refine A7 Tryz.call71 (c71 c hc m.take[x] _) ?_
  refine A2 (h:=Ab ((B7 m.take[x] c).toNat) (Co (c.getD (B7 m.take[x] c).toNat ⟨[],0⟩)) (fun _=>Wm hfx)) (hr:=?_)
  refine Z62 ?_
  refine Dw jU Tryz.type46 ?_ ?_ ?_
  ·simp only [Ap,Cy,Bj,Ct,Tryz.t46];omega
  ·simp only [Ap,Cy,Bj,Ct,Tryz.t46];omega
  refine Gy ?_;refine A0 [0,5,9,10,11] ?_;refine Z78 ?_;refine A0 [0,5,9,10,11] ?_
  refine B0 (x+1) hlt (by omega) (Dn ?_)
  rw [Q9 hlt,Cu]
  rfl
 have hxe:m.take.length≤x:=by simpa using ht12
 refine Z29 ?_;refine Xp ?_;exact A5 (Aa A4) ⟨by unfold Hu;rw [Ev hxe]<;>rfl,rfl⟩ (hlow:=Cj)

theorem c75 (c:List Col) (hc:OkCols c) (m:Mov) (h:MvOk m) (Hp:List AObj):AFun Tryz.prog 75 [Ad c,Ff m] Hp (.tup [Ad (Bh c m).1,A3 (Bh c m).2]):=by
 refine Ac [.tmp 4,.tmp 5] [0,1] Tryz.func75 Tryz.ntmps75 (fun d=>?_)
 refine Z8 ?_;refine Mw ?_;refine Z3 ?_;refine A7 Tryz.call97 (c97 c hc m h _) ?_;refine A2 ?_;refine A0 [0,3,6] ?_;refine Ds ?_
 have hg:=T9 (c:=c) h.ok
 have hg2:(Ba c m).length≤1000000:=by rw [H3];exact h.ok.gives2
 refine Lp ?_;refine A7 Tryz.call98 (c98 c hc m.take h.ok.takes (Ba c m) hg hg2 _) ?_;refine Z74 ?_;refine A0 [0,3,6,7,8] ?_;refine Z28 ?_;refine A0 [0,3,6,7,8,23] ?_
 refine A1 (fun ht23=>?_) (fun ht23=>?_)
 ·have hm:=ga ht23
  refine Z3 ?_;refine Lx 4 2 false ?_;refine A2 ?_;refine Z10 ?_;exact Z38
 refine Z9 ?_;refine Z93 ?_;refine A7 Tryz.call99 (c99 m.ahead h.ok.ahead (Ba c m) (by rw [H3,h.ahead]) c hc _) ?_;refine A2 ?_;refine A0 [0,3,7,9] ?_;refine Z3 ?_;refine A0 [0,3,7,9,31] ?_
 refine A1 (fun ht31=>?_) (fun ht31=>?_)
 ·have hm:=gb ht23 ht31
  refine Z3 ?_;refine Lx 4 2 false ?_;refine A2 ?_;refine Z10 ?_;exact Z38
 refine Z9 ?_;refine Gp ?_;refine Cm [0,1,0,0,12,0,63,127] 6 Aq (by kernel_rfl) ?_;refine Sh ?_;refine Cl Tryz.call100 (pe c hc m h.ok (Vj ht23) _) ?_;refine Ak ?_;refine F6 ?_;refine A7 Tryz.call99 (c99 m.back h.ok.back (Hu c m) (by rw [Hu,Ap,h.back]) (Cg c m.take (Ba c m)).1 (Ta hc hg hg2) _) ?_;refine A2 ?_;refine A0 [7,10] ?_;refine Z3 ?_;refine A0 [7,10,41] ?_
 refine A1 (fun ht41=>?_) (fun ht41=>?_)
 ·have hm:=gc ht23 ht31 ht41
  refine Z3 ?_;refine Lx 4 2 false ?_;refine A2 ?_;refine Z10 ?_;exact Z38
 have hm:=ge ht23 ht31 ht41
 refine Pe ?_;refine Z10 ?_;exact jb

def L7 {α:Type} (p:α→Bool) (l:List α):Int:=if l.any p then (l.findIdx p:Int) else -1
theorem cp {α:Type} {p:α→Bool} {l:List α} {i:Nat} (h:i<l.length) (hn:p l[i]=true) (hp:∀(j:Nat) (y:α),j<i→l[j]? = some y→p y=false):(i:Int)=L7 p l:=by
 unfold L7
 rw [if_pos (Gl.2 ⟨_,Bc h,hn⟩)]
 congr 1
 refine (List.findIdx_eq h |>.2 ⟨hn,fun j hj=>?_⟩).symm
 exact hp j (l[j]'(by omega)) hj (A9 (by omega))
theorem Vk {α:Type} {p:α→Bool} {l:List α} (h:l.any p=false):(-1:Int)=L7 p l:=by
 unfold L7
 rw [if_neg (by rw [h];simp)]
theorem Yd {α:Type} (p:α→Bool) (l:List α):decide (0≤L7 p l)=l.any p:=by
 unfold L7
 cases l.any p<;>simp
def J0 (s:Str):Bool := !(D4 s)
def Gt (e:Expr):Bool := !(B1 e)
theorem cq {m:Mov} (h:(((m.ahead.length:Int) != (m.give.length:Int)) || ((m.back.length:Int) != (m.take.length:Int)))=true):Dj m=false:=if_pos h
theorem cr {m:Mov} (h:(((m.ahead.length:Int) != (m.give.length:Int)) || ((m.back.length:Int) != (m.take.length:Int)))=false):Dj m=if m.kind==1 then ((m.take.length:Int)==0)&&((m.give.length:Int)==1)
 else if m.kind==2 then ((m.take.length:Int)==1)&&((m.give.length:Int)==0)
 else if (m.kind==3) || (m.kind==6) then ((m.take.length:Int)==1)&&((m.give.length:Int)==1)
 else if m.kind==4 then ((m.take.length:Int)==1)&&decide ((1:Int)<(m.give.length:Int))
 else if m.kind==5 then decide ((1:Int)<(m.take.length:Int))&&((m.give.length:Int)==1)
 else false:=if_neg (by rw [h];simp)
theorem pg (m:Mov) (Hp:List AObj):AFun Tryz.prog 110 [Ff m] Hp (Ag (Dj m)):=by
 refine Ac [.tmp 2] [0] Tryz.func110 Tryz.ntmps110 (fun d=>?_)
 refine Sf ?_;refine Cm [0,1,3,0,8,24,7,127] 7 Aq (by kernel_rfl) ?_;refine Sh ?_;refine Z52 ?_;refine F6 ?_;refine A2 ?_;refine A0 [1,3,4] ?_;refine Z59 ?_
 simp only [Ap]
 refine Lp ?_;refine Sg ?_;refine Z86 ?_;refine A0 [1,3,4,22] ?_
 refine A1 (fun ht22=>?_) (fun ht22=>?_)
 ·simp only [Ap] at ht22
  have hm:=cq ht22
  exact ep
 simp only [Ap] at ht22
 have hn:=cr ht22
 refine Z9 ?_;refine Z28 ?_;refine A0 [3,4,24] ?_;refine Z96 ?_;refine A0 [3,4,24,25] ?_
 refine A1 (fun ht25=>?_) (fun ht25=>?_)
 ·refine Si ?_;refine Up ?_;exact A5 (Aa A4) ⟨by rw [hn];first|(simp only [ht22,ht25,hk3,hk6,Fk,Df,F3,Jp,if_true,if_false,Cp,↓reduceIte]<;>rfl)|(simp only [ht22,ht25,hk3,Fk,Df,F3,if_true,if_false,Cp,↓reduceIte]<;>rfl)|(simp only [ht22,ht25,if_true,if_false,Cp,↓reduceIte]<;>rfl),rfl⟩
 refine Z3 ?_;refine A0 [3,4,24,33] ?_
 refine A1 (fun ht33=>?_) (fun ht33=>?_)
 ·refine Si ?_;refine Up ?_;exact A5 (Aa A4) ⟨by rw [hn];first|(simp only [ht22,ht25,ht33,hk3,hk6,Fk,Df,F3,Jp,if_true,if_false,Cp,↓reduceIte]<;>rfl)|(simp only [ht22,ht25,ht33,hk3,Fk,Df,F3,if_true,if_false,Cp,↓reduceIte]<;>rfl)|(simp only [ht22,ht25,ht33,if_true,if_false,Cp,↓reduceIte]<;>rfl),rfl⟩
 refine Z28 ?_;refine A0 [3,4,24,41] ?_
 refine A1 (fun ht41=>?_) (fun ht41=>?_)
 ·have hk3:=ht41
  refine Z9 ?_
  refine A1 (fun ht41=>?_) (fun ht41=>?_)
  ·refine Si ?_;refine Z60 ?_;exact Z36
  rw [hk3] at ht41;cases ht41
 have hk3:=ht41
 refine Z20 ?_;refine A0 [3,4,24,41] ?_;refine E4 ?_
 refine A1 (fun ht41=>?_) (fun ht41=>?_)
 ·have hk6:=ht41
  refine Si ?_;refine Z60 ?_;exact Z36
 have hk6:=ht41
 refine Z3 ?_;refine A0 [3,4,24,50] ?_
 refine A1 (fun ht50=>?_) (fun ht50=>?_)
 ·refine Si ?_;refine Up ?_;exact A5 (Aa A4) ⟨by rw [hn];first|(simp only [ht22,ht25,ht33,ht41,ht41,ht50,hk3,hk6,Fk,Df,F3,Jp,if_true,if_false,Cp,↓reduceIte]<;>rfl)|(simp only [ht22,ht25,ht33,ht41,ht41,ht50,hk3,Fk,Df,F3,if_true,if_false,Cp,↓reduceIte]<;>rfl)|(simp only [ht22,ht25,ht33,ht41,ht41,ht50,if_true,if_false,Cp,↓reduceIte]<;>rfl),rfl⟩
 refine Z3 ?_;refine A0 [3,4,58] ?_
 refine A1 (fun ht58=>?_) (fun ht58=>?_)
 ·refine Si ?_;refine Up ?_;exact m7
 refine Z18 ?_;refine Z51 ?_;exact m7

theorem ph (s:Str) (hs:s.length≤1048576) (Hp:List AObj):AFun Tryz.prog 114 [Am s] Hp (Ag (J0 s)):=by
 refine Ac [.tmp 2] [0] Tryz.func114 Tryz.ntmps114 (fun d=>?_)
 refine Z49 ?_;refine Z0 ?_;refine A7 Tryz.call111 (f7 s hs _) ?_;exact eg

theorem pi (e:Expr) (hok:okE 61 e) (Hp:List AObj):AFun Tryz.prog 112 [Af e] Hp (Ag (Gt e)):=by
 refine Ac [.tmp 2] [0] Tryz.func112 Tryz.ntmps112 (fun d=>?_)
 refine Sf ?_;refine Z0 ?_;refine A7 Tryz.call76 (c76 61 e hok (by decide) _) ?_;exact eg

theorem pj (l:List Str) (hl:l.length≤1048576) (hn:∀s∈l,s.length≤1048576) (Hp:List AObj):AFun Tryz.prog 138 [Ec l,.fn (.func 114) [] []] Hp (A3 (L7 J0 l)):=by
 refine Ac [.tmp 4] [0,1] Tryz.func138 Tryz.ntmps138 (fun d=>?_)
 refine af ?_
 refine Bz (α:=Nat) (fun x=>⟨19,A6 0 (Ec l) (A6 1 (.fn (.func 114) [] []) (A6 7 (A3 l.length) (A6 8 (A3 (x:Nat)) (fun _=>.any)))),Hp,[],[],none⟩) (fun x=>x≤l.length∧∀(j:Nat) y,j<x→l[j]? = some y→J0 y=false) (fun x=>l.length-x) (0) ⟨Au _,fun j y h=>by omega⟩ (Bf (by simp)) rfl (fun x hx=>?_)
 refine ac ?_
 refine C5 (fun ht9=>?_) (fun ht9=>?_)
 ·have hlt:x<l.length:=by simpa using ht9
  refine aa ?_;refine Z8 ?_
  refine A2 (h:=Ab (x) (Am l[x]) (fun _=>As hlt)) (hr:=?_)
  refine A2 ?_;refine R.callV Tryz.call114 (ph l[x] (hn _ (Bc hlt)) _) ?_;refine aj ?_
  refine A1 (fun ht16=>?_) (fun ht16=>?_)
  ·refine Xp ?_;exact Z89
  refine Z50 ?_;exact Z71
 have hxe:l.length≤x:=by simpa using ht9
 refine Z29 ?_;exact Z83

theorem pk (l:List Str) (hl:l.length≤1048576) (hn:∀s∈l,s.length≤1048576) (Hp:List AObj):AFun Tryz.prog 113 [Ec l,.fn (.func 114) [] []] Hp (Ag (l.any J0)):=by
 refine Ac [.tmp 4] [0,1] Tryz.func113 Tryz.ntmps113 (fun d=>?_)
 refine Z41 ?_;refine Z3 ?_;refine A7 Tryz.call138 (pj l hl hn _) ?_;refine Z1 ?_;exact Z92

theorem nc (l:List Expr) (hl:l.length≤1048576) (hn:∀e∈l,okE 61 e) (Hp:List AObj):AFun Tryz.prog 139 [Gs l,.fn (.func 112) [] []] Hp (A3 (L7 Gt l)):=by
 refine Ac [.tmp 4] [0,1] Tryz.func139 Tryz.ntmps139 (fun d=>?_)
 refine af ?_
 refine Bz (α:=Nat) (fun x=>⟨19,A6 0 (Gs l) (A6 1 (.fn (.func 112) [] []) (A6 7 (A3 l.length) (A6 8 (A3 (x:Nat)) (fun _=>.any)))),Hp,[],[],none⟩) (fun x=>x≤l.length∧∀(j:Nat) y,j<x→l[j]? = some y→Gt y=false) (fun x=>l.length-x) (0) ⟨Au _,fun j y h=>by omega⟩ (Bf (by simp)) rfl (fun x hx=>?_)
 refine ac ?_
 refine C5 (fun ht9=>?_) (fun ht9=>?_)
 ·have hlt:x<l.length:=by simpa using ht9
  refine aa ?_;refine Z8 ?_
  refine A2 (h:=Ab (x) (Af l[x]) (fun _=>As hlt)) (hr:=?_)
  refine A2 ?_;refine R.callV Tryz.call112 (pi l[x] (hn _ (Bc hlt)) _) ?_;refine aj ?_
  refine A1 (fun ht16=>?_) (fun ht16=>?_)
  ·refine Xp ?_;exact Z89
  refine Z50 ?_;exact Z71
 have hxe:l.length≤x:=by simpa using ht9
 refine Z29 ?_;exact Z83

theorem iz (l:List Expr) (hl:l.length≤1048576) (hn:∀e∈l,okE 61 e) (Hp:List AObj):AFun Tryz.prog 115 [Gs l,.fn (.func 112) [] []] Hp (Ag (l.any Gt)):=by
 refine Ac [.tmp 4] [0,1] Tryz.func115 Tryz.ntmps115 (fun d=>?_)
 refine Z41 ?_;refine Z3 ?_;refine A7 Tryz.call139 (nc l hl hn _) ?_;refine Z1 ?_;exact Z92

theorem nd (s:Str) (Hp:List AObj):AFun Tryz.prog 117 [Am s] Hp (Af (Du s)):=by
 refine Ac [.cell 2 53] [0] Tryz.func117 Tryz.ntmps117 (fun d=>?_)
 refine Xh ?_;refine Z0 ?_;refine Ju (places:=#[(0,1),(1,1),(2,3),(5,1)]) jU (fun w=>by simp) jZ ?_;refine Gq ?_;refine R.nilCell 0 5 6 ?_;refine Z4 ?_;exact A5 (Aa (Eb jA jS)) ⟨by rw [Fx];rfl,rfl⟩

theorem Tb {m:Mov} {c:Col}:(((!(D4 c.name)) || (!((Dt c.kind==[])==(m.kind==3)))) || ((m.kind==3)&&(c.kind != 0))) = !Ix m c:=by
 unfold Ix
 cases D4 c.name<;>cases (Dt c.kind==([]:Str))<;>cases (m.kind==3)<;>cases (c.kind != 0)<;>rfl
theorem jy {m:Mov} (h:(!(Dj m))=true):F9 m=false:=by
 have:Dj m=false:=by simpa using h
 unfold F9;rw [this];rfl
theorem jz {m:Mov} {c:Col} (hc:c∈m.give) (h:Ix m c=false):F9 m=false:=by
 have:m.give.all (Ix m)=false:=List.all_eq_false.2 ⟨c,hc,by rw [h];simp⟩
 unfold F9;rw [this];simp
theorem k7 {m:Mov} (h:((m.take.any J0 || m.ahead.any Gt) || m.back.any Gt)=true):F9 m=false:=by
 unfold F9
 rw [show J0=fun s => !(D4 s) from rfl,show Gt=fun e => !(B1 e) from rfl,Gj,Gj,Gj] at h
 cases h1:m.take.all D4<;>cases h2:m.ahead.all B1<;>cases h3:m.back.all B1<;>simp_all
theorem gg {m:Mov} (h1:Dj m=true) (h2:m.give.all (Ix m)=true) (h:((m.take.any J0 || m.ahead.any Gt) || m.back.any Gt)=false):F9 m=K5 m:=by
 unfold F9
 rw [show J0=fun s => !(D4 s) from rfl,show Gt=fun e => !(B1 e) from rfl,Gj,Gj,Gj] at h
 rw [h1,h2]
 cases h1:m.take.all D4<;>cases h2:m.ahead.all B1<;>cases h3:m.back.all B1<;>simp_all
theorem Mm {α β:Type} {f:α→β} {l:List α} {d:α} (h:0<l.length):(l.map f)[0]? = some (f (l.getD 0 d)):=by
 rw [Cc,A9 h,D9,A9 h]
 rfl
theorem L8 {α:Type} {l:List α} {d:α} (h:0<l.length):l.getD 0 d∈l:=by
 rw [D9,A9 h]
 exact Bc h
theorem k8 {m:Mov} (h:(m.kind==3)=true):K5 m=(eqE (m.ahead.getD 0 Bb) (Du (m.take.getD 0 []))&&eqE (m.back.getD 0 Bb) (Du (m.give.getD 0 ⟨[],0⟩).name)):=if_pos h
theorem k9 {m:Mov} (h:(m.kind==3)=false) (h6:(m.kind==6)=true):K5 m=(m.take.getD 0 []==(m.give.getD 0 ⟨[],0⟩).name):=by unfold K5;rw [if_neg (by rw [h];simp),if_pos h6]
theorem ka {m:Mov} (h:(m.kind==3)=false) (h6:(m.kind==6)=false):K5 m=true:=by unfold K5;rw [if_neg (by rw [h];simp),if_neg (by rw [h6];simp)]
theorem c96 (m:Mov) (h:OkMov m) (Hp:List AObj):AFun Tryz.prog 96 [Ff m] Hp (Ag (F9 m)):=by
 refine Ac [.tmp 2] [0] Tryz.func96 Tryz.ntmps96 (fun d=>?_)
 refine Sf ?_;refine Z40 ?_;refine A7 Tryz.call110 (pg m _) ?_;refine A2 ?_;refine A0 [1,8] ?_
 refine A1 (fun ht8=>?_) (fun ht8=>?_)
 ·have hm:=jy ht8
  refine Z51 ?_;exact lg
 have hct:Dj m=true:=by simpa using ht8
 refine Z9 ?_;refine Z93 ?_;refine A0 [1,10,11,12] ?_
 refine Bz (α:=Nat) (fun x=>⟨95,A6 1 (.ro (Mx m)) (A6 10 (Ad m.give) (A6 11 (A3 (m.give.length:Nat)) (A6 12 (A3 (x:Nat)) (fun _=>.any)))),Hp,[],[],none⟩) (fun x=>x≤m.give.length∧∀(j:Nat) (y:Col),j<x→m.give[j]? = some y→(!Ix m y)=false) (fun x=>m.give.length-x) (0) ⟨Au _,fun j y h=>by omega⟩ (Bf (by simp)) rfl (fun x hx=>?_)
 refine Z0 ?_;refine A0 [1,10,11,12,13] ?_
 refine C5 (fun ht13=>?_) (fun ht13=>?_)
 ·have hlt:x<m.give.length:=by simpa using ht13
  have hgl:=h.gives2
  refine Z65 ?_
  refine A2 (h:=Ab (x) (Co m.give[x]) (fun _=>As hlt)) (hr:=?_)
  refine Z57 ?_;refine A0 [1,4,10,11,12] ?_;refine Cm [0,1,3,7,15,31,63,127,255,31,543,1567,4095,8191,16383,32767,65535,131071,262143,524287,1048575,2097151,4194303,8388607] 12 Aq (by kernel_rfl) ?_;refine Z16 ?_;refine Cl Tryz.call111 (f7 m.give[x].name (h.gives.2 _ (Bc hlt)) _) ?_;refine Z16 ?_;refine Z69 ?_;refine H.call Tryz.call77 (fun hB=>c77 m.give[x].kind _) ?_;refine Z69 ?_;refine Z69 ?_;refine F6 ?_;refine Z45 ?_;refine Z42 ?_;refine Z42 ?_;refine A2 ?_;refine A0 [1,10,11,12,39] ?_
  refine A1 (fun ht39=>?_) (fun ht39=>?_)
  ·rw [Tb] at ht39
   have hm:=jz (Bc hlt) (by simpa using ht39)
   refine Xo ?_;exact ew
  rw [Tb] at ht39
  refine Z50 ?_;refine A0 [1,10,11,12] ?_;refine B0 (x+1) ⟨hlt,Ce hlt hx.2 ht39⟩ (by omega) ?_
  exact Bs (own:=[]) (fun _=>.refl _) (by repeat (first|exact Ao|refine An (by first|(simp [or_imp,forall_and];done)|exact Cj|exact low_ro.2 Gi) ?_)) (by simp) (by simp)
 have hxe:m.give.length≤x:=by simpa using ht13
 have hga:m.give.all (Ix m)=true:=by have:=H4 hxe hx.2;rw [Gj] at this;simpa using this
 refine Z29 ?_;refine Z0 ?_;refine A0 [1,5] ?_;refine Z28 ?_;refine A7 Tryz.call113 (pk m.take h.takes h.names _) ?_;refine A2 ?_;refine Z11 ?_;refine Bk ?_;refine Br Tryz.call115 (fun hB=>iz m.ahead h.ahead.len h.ahead.ok _) ?_;refine Nv ?_;refine Bk ?_;refine Br Tryz.call115 (fun hB=>iz m.back h.back.len h.back.ok _) ?_;refine A2 ?_;refine A0 [1,55] ?_
 refine A1 (fun ht55=>?_) (fun ht55=>?_)
 ·have hm:=k7 ht55
  refine Z51 ?_;exact lg
 have hm0:=gg hct hga ht55
 refine Z9 ?_;refine Z28 ?_;refine A0 [1,57] ?_;refine Z96 ?_;refine A0 [1,57,58] ?_
 refine A1 (fun ht58=>?_) (fun ht58=>?_)
 ·obtain ⟨hl1,hl2⟩:=Oo hct (by rw [ht58];simp)
  obtain ⟨hl3,hl4⟩:=Ep hct
  have g1:=Mm (f:=Af) (l:=m.ahead) (d:=Bb) (by omega)
  have g2:=Mm (f:=Af) (l:=m.back) (d:=Bb) (by omega)
  have g3:=Mm (f:=Am) (l:=m.take) (d:=[]) (by omega)
  have g4:=Mm (f:=Co) (l:=m.give) (d:=⟨[],0⟩) (by omega)
  have ok1:=h.ahead.ok _ (L8 (l:=m.ahead) (d:=Bb) (by omega))
  have ok2:=h.back.ok _ (L8 (l:=m.back) (d:=Bb) (by omega))
  have hm:=hm0.trans (k8 ht58)
  refine Cm [0,1,3,7,0,16,48,112,240,511,1023,2047,4095,8191,16383,2047,34815,100351,231423,493567,1017855,2097151,4194303,8388607] 21 Aq (by kernel_rfl) ?_;refine Z16 ?_
  refine Ak (h:=Ab (0) (Af (m.ahead.getD 0 Bb)) (fun _=>g1)) (hr:=?_)
  refine Z52 ?_
  refine Ak (h:=Ab (0) (Am (m.take.getD 0 [])) (fun _=>g3)) (hr:=?_)
  refine Ak ?_;refine Cl Tryz.call117 (nd (m.take.getD 0 []) _) ?_;refine Cl Tryz.call116 (n7 61 (m.ahead.getD 0 Bb) ok1 (Du (m.take.getD 0 [])) _) ?_;refine Ak ?_;refine Z69 ?_
  refine H.go (h:=Ab (0) (Af (m.back.getD 0 Bb)) (fun _=>g2)) (hr:=?_)
  refine Z69 ?_;refine H.go ?_
  refine H.go (h:=Ab (0) (Co (m.give.getD 0 ⟨[],0⟩)) (fun _=>g4)) (hr:=?_)
  refine Z69 ?_;refine H.call Tryz.call117 (fun hB=>nd (m.give.getD 0 ⟨[],0⟩).name _) ?_;refine F6 ?_;refine Br Tryz.call116 (fun hB=>n7 61 (m.back.getD 0 Bb) ok2 (Du (m.give.getD 0 ⟨[],0⟩).name) _) ?_;exact lh
 refine Z3 ?_;refine A0 [1,83] ?_
 refine A1 (fun ht83=>?_) (fun ht83=>?_)
 ·obtain ⟨hl1,hl2⟩:=Oo hct (by rw [ht83];simp)
  obtain ⟨hl3,hl4⟩:=Ep hct
  have g1:=Mm (f:=Af) (l:=m.ahead) (d:=Bb) (by omega)
  have g2:=Mm (f:=Af) (l:=m.back) (d:=Bb) (by omega)
  have g3:=Mm (f:=Am) (l:=m.take) (d:=[]) (by omega)
  have g4:=Mm (f:=Co) (l:=m.give) (d:=⟨[],0⟩) (by omega)
  have ok1:=h.ahead.ok _ (L8 (l:=m.ahead) (d:=Bb) (by omega))
  have ok2:=h.back.ok _ (L8 (l:=m.back) (d:=Bb) (by omega))
  have hm:=hm0.trans (k9 ht58 ht83)
  refine Cm [0,1,3,7,0,16,48,112,240,511,1023] 9 Aq (by kernel_rfl) ?_;refine Z16 ?_
  refine Ak (h:=Ab (0) (Am (m.take.getD 0 [])) (fun _=>g3)) (hr:=?_)
  refine Z52 ?_
  refine Ak (h:=Ab (0) (Co (m.give.getD 0 ⟨[],0⟩)) (fun _=>g4)) (hr:=?_)
  refine Z63 ?_;exact lh
 have hm:=hm0.trans (ka ht58 ht83)
 refine Z18 ?_;refine Z51 ?_;exact ew

def Ye (m:Mov):Bool := !(F9 m)
theorem gh (l:List Mov):(decide ((l.length:Int)≤8) && !(l.any Ye))=Y9 l:=by
 unfold Y9
 rw [show Ye=fun m => !(F9 m) from rfl,Gj]
 simp
theorem c95 (m:Mov) (h:OkMov m) (Hp:List AObj):AFun Tryz.prog 95 [Ff m] Hp (Ag (Ye m)):=by
 refine Ac [.tmp 2] [0] Tryz.func95 Tryz.ntmps95 (fun d=>?_)
 refine Sf ?_;refine Z0 ?_;refine A7 Tryz.call96 (c96 m h _) ?_;exact eg

theorem pl (l:List Mov) (h:OkMovs l) (Hp:List AObj):AFun Tryz.prog 109 [Cx l,.fn (.func 95) [] []] Hp (A3 (L7 Ye l)):=by
 refine Ac [.tmp 4] [0,1] Tryz.func109 Tryz.ntmps109 (fun d=>?_)
 refine af ?_
 refine Bz (α:=Nat) (fun x=>⟨19,A6 0 (Cx l) (A6 1 (.fn (.func 95) [] []) (A6 7 (A3 l.length) (A6 8 (A3 (x:Nat)) (fun _=>.any)))),Hp,[],[],none⟩) (fun x=>x≤l.length∧∀(j:Nat) (y:Mov),j<x→l[j]? = some y→Ye y=false) (fun x=>l.length-x) (0) ⟨Au _,fun j y h=>by omega⟩ (Bf (by simp)) rfl (fun x hx=>?_)
 refine ac ?_
 refine C5 (fun ht9=>?_) (fun ht9=>?_)
 ·have hlt:x<l.length:=by simpa using ht9
  have hlen:=h.len
  refine aa ?_;refine Z8 ?_
  refine A2 (h:=Ab (x) (Ff l[x]) (fun _=>As hlt)) (hr:=?_)
  refine A2 ?_;refine R.callV Tryz.call95 (c95 l[x] (h.each _ (Bc hlt)) _) ?_;refine aj ?_
  refine A1 (fun ht16=>?_) (fun ht16=>?_)
  ·refine Xp ?_;exact Z89
  refine Z50 ?_;exact Z71
 have hxe:l.length≤x:=by simpa using ht9
 refine Z29 ?_;exact Z83

theorem c94 (l:List Mov) (h:OkMovs l) (Hp:List AObj):AFun Tryz.prog 94 [Cx l,.fn (.func 95) [] []] Hp (Ag (l.any Ye)):=by
 refine Ac [.tmp 4] [0,1] Tryz.func94 Tryz.ntmps94 (fun d=>?_)
 refine Z41 ?_;refine Z3 ?_;refine A7 Tryz.call109 (pl l h _) ?_;refine Z1 ?_;exact Z92

theorem c73 (l:List Mov) (h:OkMovs l) (Hp:List AObj):AFun Tryz.prog 73 [Cx l] Hp (Ag (Y9 l)):=by
 refine Ac [.tmp 2] [0] Tryz.func73 Tryz.ntmps73 (fun d=>?_)
 refine Z49 ?_;refine Z31 ?_;refine Bk ?_;refine Br Tryz.call94 (fun hB=>c94 l h _) ?_;refine Z45 ?_;refine Z4 ?_;exact A5 (Aa A4) ⟨by rw [←gh,Ap],rfl⟩

theorem c47 (c:List Col) (hc:OkCols c) (l:List Mov) (h:OkMovs l) (Hp:List AObj):AFun Tryz.prog 47 [Ad c,Cx l] Hp (Ag (M7 c l)):=by
 refine Ac [.tmp 4] [0,1] Tryz.func47 Tryz.ntmps47 (fun d=>?_)
 refine Z41 ?_;refine Z0 ?_;refine A7 Tryz.call72 (c72 c hc _) ?_;refine A2 ?_;refine Bk ?_;refine Br Tryz.call73 (fun hB=>c73 l h _) ?_;refine Z1 ?_;refine Z17 ?_;exact A5 (Aa A4) ⟨by unfold M7;rw [O4],rfl⟩

theorem Yf {Hp:List AObj} {c:List Col} (h:∀x∈Hp,ObjLow Hp.length x):∀x∈Hp++[AObj.cells 22 [Ad c]],ObjLow (Hp.length+1) x:=by
 intro x hx
 rcases Em.1 hx with hx|hx
 ·exact K3 (by omega) (h x hx)
 rw [Ay.1 hx]
 intro z hz
 rw [Ay.1 hz]
 exact Cj
theorem c49 (c:List Col) (l:List Mov) (Hp:List AObj):ACallO Tryz.prog 49 [Ad c,Cx l] Hp (fun r H'=>r=.fn (.func 74) [] [.ro [Cx l],.ptr (oid Hp.length 0) 0]∧H'=Hp++[.cells 22 [Ad c]]):=by
 refine ACallO.body [.tmp 4] [0,1] Tryz.func49 Tryz.ntmps49 (fun d=>?_)
 refine Xn ?_;refine Z1 ?_;refine A0 [2,3] ?_;refine Ds ?_
 refine Lo (fun hlow=>?_)
 refine Nr ?_;refine A2 ?_;refine Z17 ?_;exact K.finO 1 (A4 (t:=4)) ⟨rfl,rfl⟩ (hlow:=by simp [oid,or_imp,forall_and];exact ⟨fun m _ a _=>C0 _ a,fun m _ a _=>C0 _ a⟩) (hobj:=Yf hlow)

theorem c74 (l oc:Nat) (ms:List Mov) (hm:∀m∈ms,MvOk m) (hml:ms.length≤1048576) (C:Nat→List Col) (hC:∀k,OkCols (C k)) (U T:Nat→List AObj) (N:Nat→Prop) (Z:List AObj→Prop) (hlen:∀k,(U k).length=(U 0).length) (hlenW:∀k,(T k).length=(U 0).length) (hll:l<(U 0).length) (hol:oc<(U 0).length)
  (hlw:∀k,∀x∈U k,ObjLow (U 0).length x) (hlW:∀k,∀x∈T k,ObjLow (U 0).length x) (h0:N 0) (hc:∀k,(U k)[oc]? = some (.cells 22 [Ad (C k)])) (hcW:∀k,(T k)[oc]? = some (.cells 22 [Ad (C k)]))
  (hn:∀k m,ms[k]? = some m→(Bh (C k) m).2=0→(T k).set oc (.cells 22 [Ad (Bh (C k) m).1])=U (k+1))
  (hy:∀k m X,ms[k]? = some m→N k→AYield Tryz.prog l [Ad (Bh (C k) m).1,A3 (Bh (C k) m).2] (U k++X) (fun b H'=>((Bh (C k) m).2≠0∧∃V,H'=V++X∧V.length=(U 0).length∧(∀x∈V,ObjLow (U 0).length x)∧Z V)∨((Bh (C k) m).2=0∧b=true∧N (k+1)∧H'=T k++X)))
  (hR:N ms.length→Z (U ms.length)):ACall Tryz.prog 74 [.yield l,.ro [Cx ms],.ptr oc 0] (U 0) (fun _ H'=>Z H'):=by
 refine Ac [] [0,1,2] Tryz.func74 Tryz.ntmps74 (fun d=>?_)
 refine Z8 ?_;refine A0 [0,2,8,9,10] ?_
 refine Bz (α:=Nat) (fun x=>⟨31,A6 0 (.yield l) (A6 2 (.ptr oc 0) (A6 8 (Cx ms) (A6 9 (A3 ms.length) (A6 10 (A3 (x:Nat)) (fun _=>.any))))),U x,[],[],none⟩) (fun x=>x≤ms.length∧N x) (fun x=>ms.length-x) (0) ⟨Au _,h0⟩ (Bf (by simp)) rfl (fun x hx=>?_)
 refine Z0 ?_;refine A0 [0,2,8,9,10,11] ?_
 refine C5 (fun ht11=>?_) (fun ht11=>?_)
 ·have hlt:x<ms.length:=by simpa using ht11
  refine Z65 ?_
  refine A2 (h:=Ab (x) (Ff ms[x]) (fun _=>As hlt)) (hr:=?_)
  refine Z57 ?_;refine A0 [0,2,5,8,9,10] ?_;refine Ds ?_
  refine A2 (h:=Io (hc x)) (hr:=?_)
  refine A2 ?_;refine A7 Tryz.call75 (c75 (C x) (hC x) ms[x] (hm _ (Bc hlt)) _) ?_;refine Z74 ?_;refine A0 [0,2,6,7,8,9,10] ?_;refine Z25 ?_
  refine R.yield (l:=l) (args:=[Ad (Bh (C x) ms[x]).1,A3 (Bh (C x) ms[x]).2]) (hy x ms[x] _ (A9 hlt) hx.2) ?_
  intro b V O hV hb
  have hVO:O=[AObj.cells 50 (Mx ms[x])]∧(((Bh (C x) ms[x]).2≠0∧V.length=(U 0).length∧(∀y∈V,ObjLow (U 0).length y)∧Z V)∨((Bh (C x) ms[x]).2=0∧b=true∧N (x+1)∧V=T x)):=by
   rcases hb with ⟨h1,V',h2,h3,h4,h5⟩|⟨h1,h2,h3,h4⟩
   ·obtain ⟨rfl,rfl⟩:=Lc h2 (by rw [hV,hlen x,h3])
    exact ⟨rfl,.inl ⟨h1,h3,h4,h5⟩⟩
   have h6:=Lc h4 (by rw [hV,hlen x,hlenW x])
   exact ⟨h6.2,.inr ⟨h1,h2,h3,h6.1⟩⟩
  obtain ⟨rfl,hVO⟩:=hVO
  have hVl:V.length=(U 0).length:=by rw [hV,hlen x]
  have hVw:∀y∈V,ObjLow (U 0).length y:=by
   rcases hVO with ⟨_,_,h,_⟩|⟨_,_,_,rfl⟩
   ·exact h
   exact hlW _
  refine ⟨fun _=>by rw [hVl];exact hVw,fun o ho=>(by cases ho),?_⟩
  refine Nv ?_;refine A2 ?_;refine A0 [0,2,6,8,9,10,28] ?_
  refine A1 (fun ht28=>?_) (fun ht28=>?_)
  ·have hZ:Z V:=by
    rcases hVO with ⟨_,_,_,h⟩|⟨h1,h2,_,_⟩
    ·exact h
    rw [h1,h2] at ht28;simp at ht28
   refine Ei ?_;refine Bn ?_;refine Z32 ?_;exact A5 .nores (hp:=hZ)
  have hVn:(Bh (C x) ms[x]).2=0∧N (x+1)∧V=T x:=by
   rcases hVO with ⟨h1,_,_,_⟩|⟨h1,_,h3,h4⟩
   ·simp [h1] at ht28
   exact ⟨h1,h3,h4⟩
  obtain ⟨hz,hN,rfl⟩:=hVn
  have hnx:=hn x _ (A9 hlt) hz
  refine Z9 ?_;refine Xk ?_
  refine Jv jS (hcW x) ?_ ?_
  ·first|exact Cj|(simp [or_imp,forall_and];done)
  refine A0 [0,2,8,9,10] ?_;refine Z78 ?_;refine A0 [0,2,8,9,10] ?_;refine B0 (x+1) ⟨hlt,hN⟩ (by omega) ?_
  rw [hnx]
  exact Bs (own:=[]) (fun _=>.refl _) (by repeat (first|exact Ao|refine An (by first|(simp [or_imp,forall_and];done)|exact Eh|(have:=hlen (x+1);simp;omega)) ?_)) (by simp) (by simp)
 have hxe:x=ms.length:=by have:=hx.1;simp at ht11;omega
 refine K.lpE ?_;exact K.finN .nores (hp:=by rw [hxe];exact hR (hxe ▸ hx.2))

/-! The columns on the way through moves. -/
def colsAt (c:List Col) (ms:List Mov):Nat→List Col
 | 0=>c
 | k+1=>match ms[k]? with|some m=>(Bh (colsAt c ms k) m).1|none=>colsAt c ms k
def Bo (c:List Col) (ms:List Mov):Nat→List (List Col)
 | 0=>[c]
 | k+1=>Bo c ms k++[colsAt c ms (k+1)]
def NS (c:List Col) (ms:List Mov) (k:Nat):Prop:=C9 c ms=((Bo c ms k).dropLast++(C9 (colsAt c ms k) (ms.drop k)).1,(C9 (colsAt c ms k) (ms.drop k)).2)
theorem Wn (c:List Col) (ms:List Mov) (k:Nat):(Bo c ms k).dropLast++[colsAt c ms k]=Bo c ms k:=by
 cases k with
 | zero=>rfl
 | succ k=>simp [Bo]
theorem Fh {c:List Col} {ms:List Mov} {k:Nat} {m:Mov} (h:ms[k]? = some m):colsAt c ms (k+1)=(Bh (colsAt c ms k) m).1:=by rw [colsAt,h]
theorem Tc {ms:List Mov} {k:Nat} {m:Mov} (hk:ms[k]? = some m):ms.drop k=m::ms.drop (k+1):=by
 obtain ⟨h1,h2⟩:=A8.1 hk
 rw [Hc h1,h2]
theorem nf {c:List Col} {ms:List Mov}:NS c ms 0:=rfl
theorem Wo {c:List Col} {ms:List Mov} {k:Nat} {m:Mov} (hk:ms[k]? = some m) (h:NS c ms k) (he:(Bh (colsAt c ms k) m).2=0):NS c ms (k+1):=by
 unfold NS at h ⊢
 rw [h,Tc hk]
 have e:C9 (colsAt c ms k) (m::ms.drop (k+1))=(colsAt c ms k::(C9 (Bh (colsAt c ms k) m).1 (ms.drop (k+1))).1,(C9 (Bh (colsAt c ms k) m).1 (ms.drop (k+1))).2):=by
  rw [C9,if_neg (by rw [he];simp)]
 have e2:(Bo c ms (k+1)).dropLast=Bo c ms k:=by simp [Bo]
 rw [e,e2,Fh hk]
 have e3:=Wn c ms k
 refine Hd ?_ rfl
 show (Bo c ms k).dropLast++(colsAt c ms k::_)=Bo c ms k++_
 conv=>rhs;rw [←e3]
 simp
theorem Vl {c:List Col} {ms:List Mov} {k:Nat} {m:Mov} (hk:ms[k]? = some m) (h:NS c ms k) (he:(Bh (colsAt c ms k) m).2≠0):(C9 c ms).2=(Bh (colsAt c ms k) m).2:=by
 unfold NS at h
 rw [h,Tc hk,C9,if_pos (by simpa using he)]
theorem ct {c:List Col} {ms:List Mov} (h:NS c ms ms.length):C9 c ms=(Bo c ms ms.length,0):=by
 unfold NS at h
 rw [h,List.drop_length,C9]
 exact Hd (Wn c ms ms.length) rfl
theorem cu {c:List Col} {m:Mov} (hc:OkCols c) (h:OkMov m):OkCols (Bh c m).1:=by
 have h0:OkCols ([]:List Col):=⟨by decide,fun y hy=>by cases hy⟩
 unfold Bh
 split
 ·exact h0
 split
 ·exact h0
 split
 ·exact h0
 exact Ta hc (T9 h) (by rw [H3];exact h.gives2)
theorem Dd {c:List Col} {ms:List Mov} (hc:OkCols c) (h:∀m∈ms,OkMov m):∀k,OkCols (colsAt c ms k)
 | 0=>hc
 | k+1=>by
  rw [colsAt]
  cases hk:ms[k]? with
  | none=>exact Dd hc h k
  | some m=>exact cu (Dd hc h k) (h m (Ae hk))
theorem H5 (c:List Col) (ms:List Mov):∀k,(Bo c ms k).length=k+1
 | 0=>rfl
 | k+1=>by rw [Bo,Ai,H5 c ms k];rfl
theorem kb {c:List Col} {ms:List Mov} (h:M7 c ms=true) (hk:OkMovs ms):(∀m∈ms,MvOk m)∧ms.length≤8:=by
 unfold M7 Y9 at h
 simp only [Ah,decide_eq_true_eq,Ax] at h
 exact ⟨fun m hm=>g9 (hk.each m hm) (M8 (h.2.2 m hm)),by omega⟩
theorem Qa {c:List Col} {ms:List Mov} (h:M7 c ms=false):Cs c ms=([],1):=by
 have:K6 c ms=([],1):=if_neg (by rw [h];simp)
 unfold Cs
 rw [this];rfl
theorem Ou {c:List Col} {ms:List Mov} (h:M7 c ms=true) (he:(C9 c ms).2≠0):Cs c ms=([],(C9 c ms).2):=by
 have:K6 c ms=C9 c ms:=if_pos h
 unfold Cs
 rw [this,if_pos (by simpa using he)]
theorem Qb {c:List Col} {ms:List Mov} {o:List (List Col)} (h:M7 c ms=true) (he:C9 c ms=(o,0)):Cs c ms=(o,0):=by
 have:K6 c ms=C9 c ms:=if_pos h
 unfold Cs
 rw [this,he];rfl
abbrev Gu (l:List (List Col)):AV:=.slice false 1 (l.map Ad)
theorem De {n k:Nat} {o:Bool} {l:List (List Col)}:Low n (.slice o k (l.map Ad)):=low_slice.2 fun y hy=>by
 obtain ⟨m,_,rfl⟩:=Ca.1 hy
 exact Cj
theorem Ro {U:List AObj} {i j:Nat} {x y:AObj} (h:U[i]? = some x) (hne:j≠i):(U.set j y)[i]? = some x:=by rw [Da hne];exact h
theorem Yg {n k:Nat} {o:Bool} {l:List (List Col)} {c:List Col}:Low n (.slice o k (l.map Ad++[Ad c])):=by
 have:=De (n:=n) (k:=k) (o:=o) (l:=l++[c])
 rwa [Cu] at this
theorem c33 (c:List Col) (hc:OkCols c) (hc2:c.length≤1000000) (l:List Mov) (h:OkMovs l) (Hp:List AObj):AFun Tryz.prog 33 [Ad c,Cx l] Hp (.tup [Gu (Cs c l).1,A3 (Cs c l).2]):=by
 refine Ac [.cell 4 63,.cell 5 31] [0,1,7,8] Tryz.func33 Tryz.ntmps33 (fun d=>?_)
 refine Z44 ?_;refine Hj jZ ?_;refine A0 [0,1,4,5,7,8] ?_;refine Z28 ?_;refine A7 Tryz.call47 (c47 c hc l h _) ?_;refine A2 ?_;refine A0 [0,1,4,5,7,8,12] ?_
 refine A1 (fun ht12=>?_) (fun ht12=>?_)
 ·have hm:=Qa (by simpa using ht12)
  refine Ds ?_;refine Gq ?_;refine R.nilOwn 0 1 ?_;refine Gq ?_;refine Z10 ?_;refine Bn ?_;exact A5 (Az (Ea jA) (Ea jA)) ⟨by rw [hm];rfl,rfl⟩
 have hmay:M7 c l=true:=by simpa using ht12
 obtain ⟨hmv,hl8⟩:=kb hmay h
 refine Pa ?_;refine A7 Tryz.call48 (c48 c hc2 _) ?_;refine Pf ?_;refine Hj jZ ?_;refine R.storeOwnT jS ?_;refine A0 [0,1,4,5,6,7,8] ?_;refine Z59 ?_
 refine Lo (fun hlow=>?_)
 refine Z1 ?_;refine R.callO Tryz.call49 (c49 c l _) ?_
 rintro _ _ ⟨rfl,rfl⟩
 refine ⟨[.cells 22 [Ad c]],by simp,?_⟩
 rw [show oid (Hp++[AObj.cells 63 [AV.nil],AObj.cells 31 [A3 0],AObj.cells 63 [AV.slice true 1 [Ad c]]]).length 0=oid Hp.length 3 by simp [oid]]
 simp only [Dv,Dq]
 refine A0 [4,5,6,7,8,18] ?_;refine G9 ?_
 refine W.rangeV (m:=4) Tryz.call74 (fun FR as' bd' hFR has hbd=>?_)
 have hFRl:∀s,Low (Hp.length+6) (FR s):=by
  intro s
  rw [hFR]
  refine R1 ?_
  revert s
  repeat (first|exact Ao|refine An (by first|(simp [oid,or_imp,forall_and];done)|(simp [oid,or_imp,forall_and];exact ⟨fun m _ a _=>C0 _ a,fun m _ a _=>C0 _ a⟩)|(simp [oid,or_imp,forall_and]<;>omega)) ?_)
 have hOl:∀{e:Int} {o:List (List Col)} {q:List Col} {lp:AObj},ObjLow (Hp.length+6) lp→∀x∈Hp++[AObj.cells 63 [AV.nil],AObj.cells 31 [A3 e],AObj.cells 63 [AV.slice true 1 ((o).map Ad)],AObj.cells 22 [Ad (q)],AObj.defs,lp],ObjLow (Hp.length+6) x:=by
  intro e o q lp hlp x hx
  refine Hr (fun x hx=>K3 (by omega) (hlow x hx)) (fun x hx=>?_) x hx
  simp only [Cd,E8,or_false] at hx
  rcases hx with rfl|rfl|rfl|rfl|rfl|rfl
  ·intro y hy;rw [Ay.1 hy];simp
  ·intro y hy;rw [Ay.1 hy];simp
  ·intro y hy;rw [Ay.1 hy];exact De
  ·intro y hy;rw [Ay.1 hy];exact Cj
  ·trivial
  exact hlp
 refine ⟨_,c74 (oid Hp.length 5) (oid Hp.length 3) l hmv (by omega) (colsAt c l) (Dd hc fun m hm=>h.each m hm) (fun k=>Hp++[AObj.cells 63 [AV.nil],AObj.cells 31 [A3 0],AObj.cells 63 [AV.slice true 1 ((Bo c l k).map Ad)],AObj.cells 22 [Ad (colsAt c l k)],AObj.defs,AObj.loop LoopState.ready none FR 29 #[19,20] as' bd' (oid Hp.length 4)]) (fun k=>Hp++[AObj.cells 63 [AV.nil],AObj.cells 31 [A3 0],AObj.cells 63 [AV.slice true 1 ((Bo c l (k+1)).map Ad)],AObj.cells 22 [Ad (colsAt c l k)],AObj.defs,AObj.loop LoopState.ready none FR 29 #[19,20] as' bd' (oid Hp.length 4)]) (NS c l) (fun V=>(∃(o:List (List Col)) (q:List Col),V=Hp++[AObj.cells 63 [AV.nil],AObj.cells 31 [A3 0],AObj.cells 63 [AV.slice true 1 ((o).map Ad)],AObj.cells 22 [Ad (q)],AObj.defs,AObj.loop LoopState.ready none FR 29 #[19,20] as' bd' (oid Hp.length 4)]∧C9 c l=(o,0))∨(∃(e:Int) (o:List (List Col)) (q:List Col),V=Hp++[AObj.cells 63 [AV.nil],AObj.cells 31 [A3 e],AObj.cells 63 [AV.slice true 1 ((o).map Ad)],AObj.cells 22 [Ad (q)],AObj.defs,AObj.loop LoopState.done (some Code.ret) FR 29 #[19,20] as' bd' (oid Hp.length 4)]∧e≠0∧(C9 c l).2=e)) (fun k=>by simp) (fun k=>by simp) (by simp [oid]) (by simp [oid]) (fun k=>(fun x hx=>by rw [Ai];exact hOl (lp:=AObj.loop LoopState.ready none FR 29 #[19,20] as' bd' (oid Hp.length 4)) (by exact ⟨hFRl,by simp [oid]⟩) x hx)) (fun k=>(fun x hx=>by rw [Ai];exact hOl (lp:=AObj.loop LoopState.ready none FR 29 #[19,20] as' bd' (oid Hp.length 4)) (by exact ⟨hFRl,by simp [oid]⟩) x hx)) nf (fun k=>by rw [C2];rfl) (fun k=>by rw [C2];rfl) (fun k m hk he=>by rw [Ge];simp only [Fh hk];rfl) (fun k m X hk hN=>?_) (fun hN=>.inl ⟨_,_,rfl,ct hN⟩),?_⟩
 ·generalize hV:Hp++[AObj.cells 63 [AV.nil],AObj.cells 31 [A3 0],AObj.cells 63 [AV.slice true 1 ((Bo c l k).map Ad)],AObj.cells 22 [Ad (colsAt c l k)],AObj.defs,AObj.loop LoopState.ready none FR 29 #[19,20] as' bd' (oid Hp.length 4)]++X=V
  have hL:V[oid Hp.length 5]? = some (AObj.loop LoopState.ready none FR 29 #[19,20] as' bd' (oid Hp.length 4)):=by rw [←hV,B8,C2];rfl
  have hA0:V[oid Hp.length 2]? = some (AObj.cells 63 [AV.slice true 1 ((Bo c l k).map Ad)]):=by rw [←hV,B8,C2];rfl
  have hB0:V[oid Hp.length 0]? = some (AObj.cells 63 [AV.nil]):=by rw [←hV,B8,C2];rfl
  have hC0:V[oid Hp.length 1]? = some (AObj.cells 31 [A3 0]):=by rw [←hV,B8,C2];rfl
  refine R5 (pd:=none) (fr:=FR) (sz:=29) (ps:=#[19,20]) (df:=oid Hp.length 4) (asg:=as') (bd:=bd') hL rfl (by decide) (fun d=>?_)
  subst hFR has hbd
  refine W.keep [4,5,6,19,20] ?_;refine Z0 ?_;refine A0 [4,5,6,7,20] ?_;refine Xk ?_;refine A0 [4,5,6,7,8] ?_
  refine ⟨rfl,none,hL,?_⟩
  generalize hbz:(AObj.loop LoopState.busy _ _ _ _ _ _ _)=bz
  have hA:(V.set (oid Hp.length 5) bz)[oid Hp.length 2]? = some (AObj.cells 63 [AV.slice true 1 ((Bo c l k).map Ad)]):=by rw [Da (Bt (by decide))];exact hA0
  have hB:(V.set (oid Hp.length 5) bz)[oid Hp.length 0]? = some (AObj.cells 63 [AV.nil]):=by rw [Da (Bt (by decide))];exact hB0
  have hC:(V.set (oid Hp.length 5) bz)[oid Hp.length 1]? = some (AObj.cells 31 [A3 0]):=by rw [Da (Bt (by decide))];exact hC0
  refine G9 ?_;refine Z28 ?_;refine A0 [4,5,6,7,8,22] ?_
  refine A1 (fun ht22=>?_) (fun ht22=>?_)
  ·have he:(Bh (colsAt c l k) m).2≠0:=by simpa using ht22
   refine Z0 ?_
   refine Jv jS hB ?_ ?_
   ·simp
   refine Jv jS (Ro hC (Bt (by decide))) ?_ ?_
   ·simp
   refine A0 [] ?_;refine Ei ?_;refine Bn ?_;refine K.blR ?_
   subst hbz
   refine K.rdR (W8 hL (Bt (by decide)) (Bt (by decide))) ?_
   refine .inl ⟨he,Hp++[AObj.cells 63 [AV.nil],AObj.cells 31 [A3 (Bh (colsAt c l k) m).2],AObj.cells 63 [AV.slice true 1 ((Bo c l k).map Ad)],AObj.cells 22 [Ad (colsAt c l k)],AObj.defs,_],?_,by simp,(fun x hx=>by rw [Ai];exact hOl (lp:=_) (by exact ⟨hFRl,by simp [oid]⟩) x hx),.inr ⟨_,_,_,rfl,he,Vl hk hN he⟩⟩
   subst hV
   simp only [B8,Ge,Dv,Dq,List.set_cons_succ,List.set_cons_zero]
  have he:(Bh (colsAt c l k) m).2=0:=by simpa using ht22
  refine Z9 ?_;refine Ji ?_;refine R.loadUpT jA hA ?_;refine Z62 ?_
  refine Dw jU Tryz.type22 ?_ ?_ ?_
  ·have hol:=H5 c l k;have hkl:=(A8.1 hk).1;simp [Tryz.t22];omega
  ·have hol:=H5 c l k;have hkl:=(A8.1 hk).1;simp [Tryz.t22];omega
  refine R.storeUpT jS (Nt hA) ?_ ?_
  ·exact Yg
  refine A0 [] ?_;refine K.blN ?_
  subst hbz
  refine ja ?_
  refine .inr ⟨he,rfl,Wo hk hN he,?_⟩
  subst hV
  simp only [B8,Ge,Dv,Dq,List.set_cons_succ,List.set_cons_zero]
  rw [Bo,Fh hk,Cu]
  rfl
 rintro r H' (⟨o,q,rfl,hrun⟩|⟨e,o,q,rfl,hne,hrun⟩)
 ·refine ⟨Hp,_,_,_,rfl,rfl,fun h=>h,?_,rfl,by simp,?_⟩
  ·intro o ho
   have:o=oid Hp.length 4:=by simpa using ho
   subst this
   rw [C2]
   rfl
  refine Z14 ?_;refine Z0 ?_;refine Gq ?_;refine Gq ?_;refine Z10 ?_;exact A5 (Az (Ea jA) (Ea jA)) ⟨by rw [Qb hmay hrun],rfl⟩ (hlow:=by simp only [W7,Cd,E8,or_false];rintro y (rfl|rfl);exact De;simp)
 refine ⟨Hp,_,_,_,rfl,rfl,fun h=>h,?_,rfl,by simp,?_⟩
 ·intro o ho
  have:o=oid Hp.length 4:=by simpa using ho
  subst this
  rw [C2]
  rfl
 refine W.nilOwn 0 1 ?_;refine Ei ?_;refine Z5 ?_;exact A5 (Az (Ea jA) (Ea jA)) ⟨by rw [Ou hmay (by rw [hrun];exact hne),hrun];rfl,rfl⟩

theorem Ov:∀(c:List Col) (ms:List Mov),(C9 c ms).1.length≤ms.length+1
 | c,[]=>by simp [C9]
 | c,m::r=>by
  rw [C9]
  split
  ·simp
  have:=Ov (Bh c m).1 r
  simp only [Bj]
  omega
theorem Es {n k:Nat} {o:Bool} {a:List Expr}:Low n (.slice o k (a.map Af)):=low_slice.2 fun y hy=>by
 obtain ⟨m,_,rfl⟩:=Ca.1 hy
 exact C0 _ _
/-! fuse: trees in columns' places. -/
set_option maxRecDepth 8000
/-! The words of a print. -/
/-! What a tree comes to: eval's model. -/
abbrev Rs:=Val×Int
def Bu (e:Int):Rs:=(noV,e)
def Pm (s:Str):Val:=⟨2,0,s.take 200⟩
def Et (x:Int×Int):Rs:=if x.2 != 0 then Bu x.2 else (⟨1,x.1,[]⟩,0)
def Yh (a b:Int):Int×Int:=if decide (Ps .i64 (Mh .i64 a (IntKind.i64.wrap (a+b))) (Mh .i64 b (IntKind.i64.wrap (a+b)))<0) then (0,4) else (IntKind.i64.wrap (a+b),0)
def My (a b:Int):Int×Int:=if decide (Ps .i64 (Mh .i64 a b) (Mh .i64 a (IntKind.i64.wrap (a-b)))<0) then (0,4) else (IntKind.i64.wrap (a-b),0)
def Mn (a:Int):Int:=if decide (a<0) then IntKind.u64.wrap (0-IntKind.u64.wrap a) else IntKind.u64.wrap a
def D7:List Val→List Int→Bool
 | _,[]=>true
 | [],_::_=>false
 | v::vs,k::ks=>(v.kind==k)&&D7 vs ks
def L9 (a b:Val):Rs:=if !D7 [a,b] [2,2] then Bu 10 else if decide ((200:Int)<(a.s.length:Int)+(b.s.length:Int)) then Bu 3 else (Pm (a.s++b.s),0)
def Aj (r:Rs):Rs:=if (r.2==0)&&(r.1.kind != 0)&&(r.1.kind != 3) then Bu 10 else r
def F8 (strong:Val) (a b:Rs):Rs:=if ((Aj a).2 != 0) || ((Aj a).1==strong) then Aj a else if (((Aj b).2 != 0) || ((Aj b).1==strong)) || ((Aj a).1.kind != 0) then Aj b else ((Aj a).1,0)
def ifW:Str:=[105,102]
def Rp:Str:=[110,118,108]
def Bi:Str:=[105,115,110,117,108,108]
def Dk (t:Str) (a b c:Rs):Rs:=
 if t==ifW then (if (Aj a).2 != 0 then Bu (Aj a).2 else if (Aj a).1==Ej true then b else c)
 else if a.2 != 0 then Bu a.2 else if t==Bi then (Ej (a.1.kind==0),0) else if a.1.kind != 0 then (a.1,0) else b
def Ow (strict:List Val→Rs) (l:List Rs):Rs:=match l.find? (fun q=>q.2 != 0) with|some q=>Bu q.2|none=>if l.any (fun q=>q.1.kind==0) then (noV,0) else strict (l.map (·.1))
def Td (c:List Col) (l:List Val) (t:Str):Rs:=if B7 t c<0 then Bu 9 else (l.getD (B7 t c).toNat noV,0)
def orW:Str:=[111,114]
def gi:Str:=[97,110,100]
/-- A node, of what its kids come to; what a strict node comes to is a parameter. -/
def Jn (strict:Int→Str→List Val→Rs) (c:List Col) (l:List Val) (o:Int) (t:Str) (v:Val) (ks:List Rs):Rs:=
 if o==1 then (v,0) else if o==2 then Td c l t
 else if (o==5)&&(t==orW) then F8 (Ej true) (ks.getD 0 (noV,0)) (ks.getD 1 (noV,0))
 else if (o==5)&&(t==gi) then F8 (Ej false) (ks.getD 0 (noV,0)) (ks.getD 1 (noV,0))
 else if (o==6)&&(((t==ifW) || (t==Rp)) || (t==Bi)) then Dk t (ks.getD 0 (noV,0)) (ks.getD 1 (noV,0)) (ks.getD 2 (noV,0))
 else Ow (strict o t) ks
mutual
def Mo (strict:Int→Str→List Val→Rs) (c:List Col) (l:List Val):Expr→Rs
 | .mk o t v k=>Jn strict c l o t v (Qc strict c l k)
def Qc (strict:Int→Str→List Val→Rs) (c:List Col) (l:List Val):List Expr→List Rs
  | []=>[]
  | e::r=>Mo strict c l e::Qc strict c l r
 end
theorem Qd (f:Int→Str→List Val→Rs) (c:List Col) (l:List Val):∀k,Qc f c l k=k.map (Mo f c l)
 | []=>rfl
 | e::r=>by rw [Qc,Qd f c l r];rfl
theorem Te (f:Int→Str→List Val→Rs) (c:List Col) (l:List Val) (e:Expr):Mo f c l e=Jn f c l e.op e.text e.val (e.kids.map (Mo f c l)):=by cases e;rw [Mo,Qd];rfl
def H6 (c:List Col) (l:List Val):Bool:=(Ky c&&(l.length==c.length))&&(l.zip c).all fun p=>Cn p.1&&((p.1.kind==0) || (p.1.kind==p.2.kind))
/-- eval.Eval. -/
def cv (f:Int→Str→List Val→Rs) (x:Expr) (c:List Col) (l:List Val):Rs:=if (!(B1 x)) || !(H6 c l) then Bu 1 else Mo f c l x
/-! A tree in a column's place comes to what its value would there. -/
/-! Who is not named plays no part. -/
/-! What a strict node comes to. -/
def Pn (a b:Int):Int×Int:=
 let p:=Mn a*Mn b
 let below:=decide (a<0) != decide (b<0)
 if decide (0<p / 18446744073709551616) || decide ((if below then 9223372036854775808 else 9223372036854775807)<p % 18446744073709551616) then (0,4)
 else if below then (IntKind.i64.wrap (IntKind.u64.wrap (0-p % 18446744073709551616)),0) else (IntKind.i64.wrap (p % 18446744073709551616),0)
def Yi (a b:Int):Int×Int:=if b==0 then (0,5) else if (a == -9223372036854775808)&&(b == -1) then (0,4) else (IntKind.i64.wrap (a.tdiv b),0)
def Rq (a b:Int):Int×Int:=if b==0 then (0,5) else if b == -1 then (0,0) else (IntKind.i64.wrap (a.tmod b),0)
def K7 (t:Str) (a b:Int):Int×Int:=if t==[43] then Yh a b else if t==[45] then My a b else if t==[42] then Pn a b else if t==[47] then Yi a b else Rq a b
def Fi (t:Str) (c:Int):Bool×Bool:=if t==[61] then (c==0,true) else if t==[33,61] then (c != 0,true) else if t==[60] then (decide (c<0),true) else if t==[60,61] then (decide (c≤0),true) else if t==[62] then (decide (0<c),true) else if t==[62,61] then (decide (0≤c),true) else (false,false)
def I5 (a b:Int):Int:=if decide (a<b) then -1 else if decide (b<a) then 1 else 0
def orI:List Int→Int
 | []=>0
 | a::r=>if a != 0 then a else orI r
def Yj (a b:Val):Int:=if (!(Cn a)) || !(Cn b) then 0 else orI [I5 a.kind b.kind,I5 a.n b.n,Lib.compareBytes a.s b.s]
def K8 (t:Str) (a b:Val):Rs:=if (Fi t (Yj a b)).2 then (if a.kind != b.kind then Bu 10 else (Ej (Fi t (Yj a b)).1,0)) else if t==[38] then L9 a b else if !D7 [a,b] [1,1] then Bu 10 else Et (K7 t a.n b.n)
def I2 (t:Str) (v:Val):Rs:=if (t==[115,116,114])&&(v.kind==1) then (Pm (Lib.itoa v.n),0) else if (t==[108,101,110])&&(v.kind==2) then (⟨1,v.s.length,[]⟩,0) else if (t==[110,117,109])&&(v.kind==2) then Et (Cq v.s) else Bu 10
def J1 (t:Str) (s:Str) (n:Int):Val:=if t==[108,101,102,116] then Pm (s.take (max 0 (min n s.length)).toNat) else Pm (s.drop (s.length-(max 0 (min n s.length)).toNat))
def Bm (o:Int) (t:Str) (l:List Val):Rs:=
 if o==5 then K8 t (l.getD 0 noV) (l.getD 1 noV) else if (o==3)&&D7 l [1] then Et (My 0 (l.getD 0 noV).n) else if (o==4)&&D7 l [3] then (Ej ((l.getD 0 noV).n==0),0)
 else if o != 6 then Bu 10 else if (l.length:Int)==1 then I2 t (l.getD 0 noV) else if !D7 l [2,1] then Bu 10 else (J1 t (l.getD 0 noV).s (l.getD 1 noV).n,0)
abbrev C1 (c:List Col) (l:List Val) (e:Expr):Rs:=Mo Bm c l e
abbrev Fa (x:Expr) (c:List Col) (l:List Val):Rs:=cv Bm x c l
/-! Values are plain, and their numbers have 64 bits. -/
structure Fine (v:Val):Prop where
 plain:Cn v=true
 lo : -9223372036854775808≤v.n
 hi:v.n≤9223372036854775807
theorem Gk:Fine noV:=⟨rfl,by decide,by decide⟩
theorem M9 (b:Bool):Fine (Ej b):=by cases b<;>exact ⟨rfl,by decide,by decide⟩
theorem Tf {n:Int} (h0 : -9223372036854775808≤n) (h1:n≤9223372036854775807):Fine ⟨1,n,[]⟩:=⟨rfl,h0,h1⟩
theorem Ox (s:Str):Fine (Pm s):=⟨by
 unfold Cn Pm
 simp only [show ((2:Int)==0)=false from rfl,show ((2:Int)==1)=false from rfl,show ((2:Int)==2)=true from rfl,Cp,if_false,if_true,show ((0:Int)==0)=true from rfl,Jq,decide_eq_true_eq,Cy]
 omega,by show -9223372036854775808≤(0:Int);decide,by show (0:Int)≤9223372036854775807;decide⟩
theorem Fine.len {v:Val} (h:Fine v):v.s.length≤200:=by
 have h:=h.plain
 unfold Cn at h
 split at h
 ·simp only [Ah,beq_iff_eq] at h;rw [h.2];exact Au _
 split at h
 ·rw [beq_iff_eq] at h;rw [h];exact Au _
 split at h
 ·simp only [Ah,decide_eq_true_eq] at h;omega
 simp only [Ah,beq_iff_eq] at h;rw [h.1.1.2];exact Au _
theorem K9 {x:Int×Int} (h0:x.2=0 → -9223372036854775808≤x.1) (h1:x.2=0→x.1≤9223372036854775807):Fine (Et x).1:=by
 unfold Et
 split
 ·exact Gk
 rename_i h
 have h:x.2=0:=by simpa using h
 exact Tf (h0 h) (h1 h)
theorem Oy (e:Int):Fine (Bu e).1:=Gk
theorem Hv (n:Int) : -9223372036854775808≤IntKind.i64.wrap n∧IntKind.i64.wrap n≤9223372036854775807:=by rw [IntKind.wrap_i64];omega
theorem cw (a b:Int):Fine (Et (My a b)).1:=by
 refine K9 (fun _=>?_) (fun _=>?_)<;>unfold My<;>split
 ·show -9223372036854775808≤(0:Int);decide
 ·exact (Hv _).1
 ·show (0:Int)≤9223372036854775807;decide
 exact (Hv _).2
theorem Tg (t:Str) (a b:Int) : -9223372036854775808≤(K7 t a b).1∧(K7 t a b).1≤9223372036854775807:=by
 have z : -9223372036854775808≤(0:Int)∧(0:Int)≤9223372036854775807:=by decide
 unfold K7
 split
 ·unfold Yh;split;exact z;exact Hv _
 split
 ·unfold My;split;exact z;exact Hv _
 split
 ·unfold Pn
  simp only
  repeat' split
  all_goals first|exact z|exact Hv _
 split
 ·unfold Yi;split;exact z;split;exact z;exact Hv _
 unfold Rq;split;exact z;split;exact z;exact Hv _
theorem cx {t:Str} {a b:Val}:Fine (K8 t a b).1:=by
 unfold K8
 split
 ·split
  ·exact Pg
  exact M9 _
 split
 ·unfold L9
  split
  ·exact Pg
  split
  ·exact Pg
  exact Ox _
 split
 ·exact Pg
 exact K9 (fun _=>(Tg _ _ _).1) (fun _=>(Tg _ _ _).2)
theorem cy (s:Str) : -9223372036854775808≤(Cq s).1∧(Cq s).1≤9223372036854775807:=by
 unfold Cq
 split
 ·decide
 split
 ·rename_i v h
  have:=Lib.parseIntB_bounds h
  simp only [show ((2 ^ (64-1):Nat):Int)=9223372036854775808 by decide] at this
  show -9223372036854775808≤v∧v≤9223372036854775807
  omega
 ·decide
 decide
theorem cz {t:Str} {v:Val} (h:Fine v):Fine (I2 t v).1:=by
 unfold I2
 split
 ·exact Ox _
 split
 ·have:=h.len
  exact Tf (by omega) (by omega)
 split
 ·exact K9 (fun _=>(cy _).1) (fun _=>(cy _).2)
 exact Pg
theorem Th {o:Int} {t:Str} {l:List Val} (h:∀v∈l,Fine v):Fine (Bm o t l).1:=by
 have h0:Fine (l.getD 0 noV):=by cases l with|nil=>exact Gk|cons a r=>exact h a Kg
 unfold Bm
 split
 ·exact cx
 split
 ·exact cw _ _
 split
 ·exact M9 _
 split
 ·exact Pg
 split
 ·exact cz h0
 split
 ·exact Pg
 unfold J1
 split<;>exact Ox _
theorem Ka {r:Rs} (h:Fine r.1):Fine (Aj r).1:=by
 unfold Aj
 split
 ·exact Pg
 exact h
theorem Oz {s:Val} {a b:Rs} (ha:Fine a.1) (hb:Fine b.1):Fine (F8 s a b).1:=by
 unfold F8
 split
 ·exact Ka ha
 split
 ·exact Ka hb
 exact Ka ha
theorem Yk {t:Str} {a b c:Rs} (ha:Fine a.1) (hb:Fine b.1) (hc:Fine c.1):Fine (Dk t a b c).1:=by
 unfold Dk
 repeat' split
 all_goals first|exact Oy _|exact hb|exact hc|exact ha|exact M9 _
theorem d5 {f:List Val→Rs} {l:List Rs} (hf:∀k:List Val,(∀v∈k,Fine v)→Fine (f k).1) (h:∀r∈l,Fine r.1):Fine (Ow f l).1:=by
 unfold Ow
 split
 ·exact Pg
 split
 ·exact Gk
 refine hf _ fun v hv=>?_
 obtain ⟨r,hr,rfl⟩:=Ca.1 hv
 exact h r hr
theorem Yl {c:List Col} {l:List Val} (h:∀v∈l,Fine v) (t:Str):Fine (Td c l t).1:=by
 unfold Td
 split
 ·exact Pg
 show Fine (l.getD _ noV)
 rw [D9]
 cases hg:l[(B7 t c).toNat]? with
 | none=>exact Gk
 | some v=>exact h v (Ae hg)
def H7 (e:Expr):Bool := !(e.op==1) || Cn e.val
theorem Eu {k:List Rs} (h:∀r∈k,Fine r.1) (i:Nat):Fine (k.getD i (noV,0)).1:=by
 rw [D9]
 cases hg:k[i]? with
 | none=>exact Gk
 | some r=>exact h r (Ae hg)
mutual
theorem Ma {c:List Col} {l:List Val} (h:∀v∈l,Fine v):∀e:Expr,D6 H7 e=true→D6 H2 e=true→Fine (C1 c l e).1
 | .mk o t v k,h1,h2=>by
  rw [D6,Ah] at h1 h2
  have hk:=P0 (c:=c) h k h1.2 h2.2
  rw [C1,Mo]
  unfold Jn
  split
  ·rename_i ho
   have p:=h1.1
   unfold H7 at p
   rw [show (Expr.mk o t v k).op=o from rfl,ho] at p
   have q:=h2.1
   unfold H2 at q
   simp only [Ah,decide_eq_true_eq] at q
   exact ⟨by show Cn (Expr.mk o t v k).val=true;simpa using p,q.1,q.2⟩
  split
  ·exact Yl h t
  split
  ·exact Oz (Eu hk 0) (Eu hk 1)
  split
  ·exact Oz (Eu hk 0) (Eu hk 1)
  split
  ·exact Yk (Eu hk 0) (Eu hk 1) (Eu hk 2)
  exact d5 (fun _ hl=>Th hl) hk
theorem P0 {c:List Col} {l:List Val} (h:∀v∈l,Fine v):∀k:List Expr,H0 H7 k=true→H0 H2 k=true→∀r∈Qc Bm c l k,Fine r.1
  | [],_,_=>fun r hr=>by cases hr
  | e::k,h1,h2=>by
    rw [H0,Ah] at h1 h2
    intro r hr
    rw [Qc] at hr
    rcases Cd.1 hr with rfl|hr
    · exact Ma h e h1.1 h2.1
    exact P0 h k h1.2 h2.2 r hr
 end
/-! A text between marks. -/
set_option maxRecDepth 4000
set_option maxRecDepth 8000
/-! Who decides decides: the law's sources, columns and truths. -/
/-! Rows. -/
theorem row_iff {c:List Col} {l:List Val}:H6 c l=true↔Hz c=true∧l.length=c.length∧∀(i:Nat) (v:Val) (y:Col),l[i]? = some v→c[i]? = some y→Cn v=true∧(v.kind=0∨v.kind=y.kind):=by
 unfold H6
 rw [Ah,Ah,Kz,beq_iff_eq,Ax,and_assoc]
 refine and_congr_right fun _=>and_congr_right fun hl=>⟨fun h i v y hv hy=>?_,fun h p hp=>?_⟩
 ·have:=h (v,y) (Ae (i:=i) (by rw [Lg];exact ⟨hv,hy⟩))
  simpa using this
 obtain ⟨i,hi⟩:=C3 hp
 rw [Lg] at hi
 have:=h i p.1 p.2 hi.1 hi.2
 simpa using this
/-! Rows that differ in what is not named. -/
/-! Who has a kind comes to it. -/
theorem Vm {t:Str} {n:Nat} (h:Be t=(n:Int)):(t=[108,101,110]∧n=1)∨(t=[115,116,114]∧n=1)∨(t=[110,117,109]∧n=1)∨(t=Bi∧n=1)∨(t=Rp∧n=2)∨(t=[108,101,102,116]∧n=2)∨(t=[114,105,103,104,116]∧n=2)∨(t=ifW∧n=3):=by
 by_cases hm:t∈arityList.map (·.1)
 ·have ha:∀s∈arityList.map (·.1),(s=[108,101,110]∧Be s=1)∨(s=[115,116,114]∧Be s=1)∨(s=[110,117,109]∧Be s=1)∨(s=Bi∧Be s=1)∨(s=Rp∧Be s=2)∨(s=[108,101,102,116]∧Be s=2)∨(s=[114,105,103,104,116]∧Be s=2)∨(s=ifW∧Be s=3):=by
   have:((arityList.map (·.1)).all fun s=>decide ((s=[108,101,110]∧Be s=1)∨(s=[115,116,114]∧Be s=1)∨(s=[110,117,109]∧Be s=1)∨(s=Bi∧Be s=1)∨(s=Rp∧Be s=2)∨(s=[108,101,102,116]∧Be s=2)∨(s=[114,105,103,104,116]∧Be s=2)∨(s=ifW∧Be s=3)))=true:=by kernel_rfl
   exact fun s hs=>of_decide_eq_true (Ax.1 this s hs)
  have:=ha t hm
  rw [h] at this
  rcases this with ⟨e,h2⟩|⟨e,h2⟩|⟨e,h2⟩|⟨e,h2⟩|⟨e,h2⟩|⟨e,h2⟩|⟨e,h2⟩|⟨e,h2⟩
  ·exact .inl ⟨e,by omega⟩
  ·exact .inr (.inl ⟨e,by omega⟩)
  ·exact .inr (.inr (.inl ⟨e,by omega⟩))
  ·exact .inr (.inr (.inr (.inl ⟨e,by omega⟩)))
  ·exact .inr (.inr (.inr (.inr (.inl ⟨e,by omega⟩))))
  ·exact .inr (.inr (.inr (.inr (.inr (.inl ⟨e,by omega⟩)))))
  ·exact .inr (.inr (.inr (.inr (.inr (.inr (.inl ⟨e,by omega⟩))))))
  exact .inr (.inr (.inr (.inr (.inr (.inr (.inr ⟨e,by omega⟩))))))
 have h1:Be t = -1:=by
  unfold Be
  rw [U0.2 fun p hp=>by
   simp only [beq_iff_eq]
   rintro rfl
   exact hm (Ca.2 ⟨p,hp,rfl⟩)]
 omega
theorem Rr {k:List Expr} (h:k.length=2):∃a b,k=[a,b]:=by match k,h with|[a,b],_=>exact ⟨a,b,rfl⟩
/-! The print of a tree, and its words. -/
/-! What was parsed nests no deeper than may be. -/
/-! What nests too deep is told to be too deep. -/
def F2 (l:List Tok) (x:Expr):Prop:=∀(k:Nat) (S:PS) (rest:List TK),(k=0∨k=1∨k=4∨k=5)→k≤bx x→S.code=0→S.nest≤30→30<S.nest+Wj x→seg l S.i=Ok x++rest→bw (k+1) rest→(Q8 l (ofL k) (pf l (fam l S.nest) (k+1)) S).2.code=18
/-! What was parsed is right, where the words are the lexer's. -/
/-! The lexer's words. -/
/-! The parse laws where nothing is too deep. -/
/-! The parser from a word on, and of a source. -/
/-! Other trees have other words, and other prints. -/
/-! The laws of printing. -/
theorem Vn {x:Expr} (h:H1 x=true):D6 D5 x=true:=by
 unfold H1 at h
 rw [Ah] at h
 exact h.2
set_option maxRecDepth 4000
end Go.SX.Nb
namespace Go.Proofs
open Go.Shelf Go.RowKit

section
variable {P:Program} (w:World)

end

section
variable {P:Program} {ρ:Ren}

set_option maxHeartbeats 1000000 in
set_option maxRecDepth 100000 in
set_option maxHeartbeats 1000000 in
set_option maxRecDepth 100000 in
set_option maxHeartbeats 2000000 in
set_option maxRecDepth 100000 in
set_option maxHeartbeats 2000000 in
set_option maxRecDepth 100000 in
end
end Go.Proofs

namespace Go.SX.Nb
open Go Go.SX Go.Proofs Go.Shelf
variable [ErrAt]
set_option maxRecDepth 8000
end Go.SX.Nb
namespace Go.SX.Nb
open Go Go.SX Go.Proofs
variable [ErrAt]
set_option maxRecDepth 4000
set_option maxRecDepth 8000
/-! How long a print is. -/
set_option maxRecDepth 4000
theorem gj:Ch (.agg #[.int .i64 0,.string ⟨#[]⟩,.int .i64 0,.int .i64 0,.string ⟨#[]⟩,.slice none 0 0])=.agg [A3 0,Am [],A3 0,A3 0,Am [],.nil]:=rfl
attribute [go_sem] gj
/-! fuse.Forth and plan.Text. -/
theorem Ti {c:List Col} {m:Mov} (h:(Bh c m).2=0):(Bh c m).1=Ci c m.take++Ba c m∧D3 c=true∧D3 (Bh c m).1=true:=by
 unfold Bh at h ⊢
 split at h
 ·rename_i h1
  exact absurd h (by simpa using h1)
 rename_i h1
 rw [if_neg h1]
 split at h
 ·rename_i h2
  exact absurd h (by simpa using h2)
 rename_i h2
 rw [if_neg h2]
 split at h
 ·rename_i h3
  exact absurd h (by simpa using h3)
 rename_i h3
 rw [if_neg h3]
 obtain ⟨a,_,b,d,e⟩:=fp (by simpa using h1:(Cg c m.take (Ba c m)).2=0)
 rw [e]
 refine ⟨rfl,a,?_⟩
 unfold D3
 rw [b,Tt]
 refine decide_eq_true ?_
 show ((Ci c m.take++Ba c m).length:Int)≤12
 omega
/-! The text. -/
/-! ONE LINE EACH. -/
theorem Vo {c:List Col} {ms:List Mov} (he:(C9 c ms).2=0):∀k,k≤ms.length→NS c ms k
 | 0,_=>nf
 | k+1,h=>by
  have ih:=Vo he k (by omega)
  have hk:ms[k]? = some ms[k]:=A9 (by omega)
  by_cases ht:(Bh (colsAt c ms k) ms[k]).2=0
  ·exact Wo hk ih ht
  exact absurd ((Vl hk ih ht).symm.trans he) ht
theorem Rt {c:List Col} {ms:List Mov} (he:(C9 c ms).2=0) {k:Nat} {m:Mov} (hk:ms[k]? = some m):(Bh (colsAt c ms k) m).2=0:=by
 have hl:=(A8.1 hk).1
 by_cases ht:(Bh (colsAt c ms k) m).2=0
 ·exact ht
 exact absurd ((Vl hk (Vo he k (by omega)) ht).symm.trans he) ht
theorem J2 {c:List Col} {ms:List Mov}:∀{n k:Nat},k≤n→(Bo c ms n)[k]? = some (colsAt c ms k)
 | 0,k,h=>by
  have:k=0:=by omega
  subst this;rfl
 | n+1,k,h=>by
  have hl:=H5 c ms n
  rw [Bo]
  by_cases e:k=n+1
  ·subst e
   rw [Cb (by omega),hl,Kn]
   rfl
  rw [C8 (by omega)]
  exact J2 (by omega)
theorem Mb {c:List Col} {ms:List Mov} (h:M7 c ms=true):∀m∈ms,F9 m=true:=by
 unfold M7 Y9 at h
 simp only [Ah,Ax] at h
 exact h.2.2
/-- What a sound migration comes to. -/
theorem Hw {c:List Col} {ms:List Mov} (h:((Cs c ms).2 != 0)=false):M7 c ms=true∧(C9 c ms).2=0∧Cs c ms=(Bo c ms ms.length,0):=by
 cases hm:M7 c ms with
 | false=>rw [Qa hm] at h;cases h
 | true =>
  by_cases he:(C9 c ms).2=0
  ·have e:=ct (Vo he ms.length (Al _))
   exact ⟨rfl,he,Qb hm e⟩
  rw [Ou hm he] at h
  exact absurd (by simpa using h) he
/-! SoundJoins: one behind the other, in one. -/
/-! image: rows forth and back. -/
/-- image.reckon. -/
def Ar (c:List Col) (row:List Val):List Expr→List Val×Int
 | []=>([],0)
 | x::r=>if (Fa x c row).2 != 0 then ([],(Fa x c row).2) else if (Ar c row r).2 != 0 then ([],(Ar c row r).2) else ((Fa x c row).1::(Ar c row r).1,0)
theorem P1 {c:List Col} {row:List Val}:∀{l:List Expr},(∀(j:Nat) (y:Expr),l[j]? = some y→((Fa y c row).2 != 0)=false)→Ar c row l=(l.map (fun e=>(Fa e c row).1),0)
 | [],_=>rfl
 | x::r,h=>by
  rw [Ar,P1 (l:=r) (fun j y hy=>h (j+1) y hy),if_neg (by rw [h 0 x rfl];simp),if_neg (by simp)]
  rfl
theorem P2 {c:List Col} {row:List Val}:∀{l:List Expr} {x:Nat} {y:Expr},(∀(j:Nat) (z:Expr),j<x→l[j]? = some z→((Fa z c row).2 != 0)=false)→l[x]? = some y→((Fa y c row).2 != 0)=true→Ar c row l=([],(Fa y c row).2)
 | [],_,_,_,h,_=>by simp at h
 | a::r,0,y,_,h,h1=>by
  have:a=y:=by simpa using h
  subst this
  rw [Ar,if_pos h1]
 | a::r,x+1,y,h0,h,h1=>by
  rw [Ar,if_neg (by rw [h0 0 a (by omega) rfl];simp),P2 (l:=r) (x:=x) (fun j z hj hz=>h0 (j+1) z (by omega) hz) (by simpa using h) h1,if_pos h1]
theorem Ym {e:Expr} (h:D5 e=true):H7 e=true:=by
 unfold H7
 rw [T0] at h
 cases hk:(e.op==1) with
 | false=>rfl
 | true =>
  show Cn e.val=true
  have e1:e.op=1:=by simpa using hk
  cases e with
  | mk o t v k =>
   have e1:o=1:=e1
   subst e1
   rw [Ol] at h
   simp at h
   exact h.1.1.1
mutual
theorem Tj:∀e:Expr,D6 D5 e=true→D6 H7 e=true
 | .mk o t v k,h=>by
  rw [L0,Ah] at h ⊢
  exact ⟨Ym h.1,Qe k h.2⟩
theorem Qe:∀k:List Expr,H0 D5 k=true→H0 H7 k=true
 | [],_=>rfl
 | e::r,h=>by
  rw [H0,Ah] at h ⊢
  exact ⟨Tj e h.1,Qe r h.2⟩
end
theorem d6 {x:Expr} {c:List Col} {row:List Val} (hf:∀v∈row,Fine v) (hr:D6 H2 x=true):Fine (Fa x c row).1:=by
 show Fine (cv Bm x c row).1
 unfold cv
 split
 ·exact Gk
 rename_i h
 simp only [Dl,I8,not_or,Tv] at h
 exact Ma hf x (Tj x (Vn (by rw [←L2];exact h.1))) hr
theorem J3 {c:List Col} {row:List Val} (hf:∀v∈row,Fine v):∀{l:List Expr},(∀e∈l,D6 H2 e=true)→∀v∈(Ar c row l).1,Fine v
 | [],_,v,h=>by cases h
 | x::r,hr,v,h=>by
  rw [Ar] at h
  split at h
  ·cases h
  split at h
  ·cases h
  rcases Cd.1 h with rfl|h
  ·exact d6 hf (hr x Kg)
  exact J3 hf (fun e he=>hr e (.tail _ he)) v h
theorem Kb {c:List Col} {row:List Val}:∀{l:List Expr},(Ar c row l).2=0→(Ar c row l).1.length=l.length
 | [],_=>rfl
 | x::r,h=>by
  rw [Ar] at h ⊢
  split at h
  ·rename_i h1
   rw [show (Fa x c row).2=0 from h] at h1
   cases h1
  rename_i h1
  rw [if_neg h1]
  split at h
  ·rename_i h2
   rw [show (Ar c row r).2=0 from h] at h2
   cases h2
  rename_i h2
  rw [if_neg h2]
  simp only [Bj]
  rw [Kb (l:=r) (by simpa using h2)]
/-- What is not taken. -/
def F1 (take:List Str) (c:List Col) (row:List Val):List Val:=((c.zip row).filter fun p => !take.contains p.1.name).map (·.2)
theorem P3:∀{c:List Col} {row:List Val} {x:Nat} (hc:x<c.length) (hr:x<row.length),(c.take (x+1)).zip row=(c.take x).zip row++[(c[x],row[x])]
 | y::c,v::row,0,_,_=>by simp
 | y::c,v::row,x+1,hc,hr=>by
  simp only [List.take_succ_cons,List.zip_cons_cons,Dv,List.getElem_cons_succ]
  rw [P3 (by simpa using hc) (by simpa using hr)]
 | [],_,_,hc,_=>by simp at hc
 | _::_,[],_,_,hr=>by simp at hr
theorem gk {take:List Str} {c:List Col} {row:List Val} {x:Nat} (hc:x<c.length) (hr:x<row.length) (h:take.contains c[x].name=false):F1 take (c.take (x+1)) row=F1 take (c.take x) row++[row[x]]:=by
 unfold F1
 have hb:(fun p:Col×Val => !take.contains p.1.name) (c[x],row[x])=true:=by show (!take.contains c[x].name)=true;rw [h];rfl
 rw [P3 hc hr,Qq,Cu,List.filter_cons_of_pos (p:=fun p:Col×Val => !take.contains p.1.name) hb]
 rfl
theorem d7 {take:List Str} {c:List Col} {row:List Val} {x:Nat} (hc:x<c.length) (hr:x<row.length) (h:take.contains c[x].name=true):F1 take (c.take (x+1)) row=F1 take (c.take x) row:=by
 unfold F1
 have hb:¬(fun p:Col×Val => !take.contains p.1.name) (c[x],row[x])=true:=by show ¬(!take.contains c[x].name)=true;rw [h];simp
 rw [P3 hc hr,Qq,Cu,List.filter_cons_of_neg (p:=fun p:Col×Val => !take.contains p.1.name) hb]
 simp
theorem Tk {take:List Str}:∀{c:List Col} {row:List Val},row.length=c.length→(F1 take c row).length=(Ci c take).length
 | [],[],_=>rfl
 | y::c,v::row,h=>by
  have ih:=Tk (take:=take) (c:=c) (row:=row) (by simpa using h)
  unfold F1 Ci at ih ⊢
  rw [List.zip_cons_cons,Qr,Qr]
  cases hc:take.contains y.name<;>simp [hc] at ih ⊢<;>exact ih
 | [],_::_,h=>by simp at h
 | _::_,[],h=>by simp at h
theorem d8 {take:List Str} {c:List Col} {row:List Val} {v:Val} (h:v∈F1 take c row):v∈row:=by
 unfold F1 at h
 obtain ⟨p,hp,rfl⟩:=Ca.1 h
 exact (List.of_mem_zip (Qw.1 hp).1).2
/-- image.forth. -/
def Cz (c:List Col) (m:Mov) (row:List Val):List Val×Int:=if (Ar c row m.ahead).2 != 0 then ([],(Ar c row m.ahead).2) else (F1 m.take c row++(Ar c row m.ahead).1,0)
/-- What a column ahead was. -/
def Mc (take:List Str) (was row:List Val) (d:List Col) (x:Col):Val:=if 0≤I4 x.name take then was.getD (I4 x.name take).toNat noV else row.getD (B7 x.name d).toNat noV
/-- image.back. -/
def Bg (a d:List Col) (m:Mov) (row:List Val):List Val×Int:=if (Ar d row m.back).2 != 0 then ([],(Ar d row m.back).2) else (a.map (Mc m.take (Ar d row m.back).1 row d),0)
/-- The row behind k moves. -/
def fwM (c:List Col) (l:List Mov) (row:List Val):Nat→List Val×Int
 | 0=>(row,0)
 | k+1=>if (fwM c l row k).2 != 0 then ([],(fwM c l row k).2) else match l[k]? with
  | none=>fwM c l row k
  | some m=>Cz (colsAt c l k) m (fwM c l row k).1
/-- The row ahead of the last k moves. -/
def bkM (c:List Col) (l:List Mov) (row:List Val):Nat→List Val×Int
 | 0=>(row,0)
 | k+1=>if (bkM c l row k).2 != 0 then ([],(bkM c l row k).2) else match l[l.length-1-k]? with
  | none=>bkM c l row k
  | some m=>Bg (colsAt c l (l.length-1-k)) (colsAt c l (l.length-1-k+1)) m (bkM c l row k).1
/-- image.Forth. -/
def Bp (c:List Col) (l:List Mov) (row:List Val):List Val×Int:=if ((Cs c l).2 != 0) || !H6 c row then ([],1) else fwM c l row l.length
/-- image.Back. -/
def C6 (c:List Col) (l:List Mov) (row:List Val):List Val×Int:=if ((Cs c l).2 != 0) || !H6 (colsAt c l l.length) row then ([],1) else bkM c l row l.length
/-- image.Old. -/
def E5 (c:List Col) (l:List Mov) (row:List Val):List Val×Int:=if (C6 c l row).2 != 0 then ([],(C6 c l row).2) else if (Bp c l (C6 c l row).1).2 != 0 then ([],(Bp c l (C6 c l row).1).2) else if !decide ((Bp c l (C6 c l row).1).1=row) then ([],14) else ((C6 c l row).1,0)
/-- image.Faithful. -/
def d9 (c:List Col) (l:List Mov) (row:List Val):Bool:=if (Bp c l row).2 != 0 then false else ((C6 c l (Bp c l row).1).2==0)&&decide ((C6 c l (Bp c l row).1).1=row)
/-- The law of ImageOld. -/
theorem gm {c:List Col} {l:List Mov} {row:List Val} (h:(E5 c l row).2=0):Bp c l (E5 c l row).1=(row,0)∧E5 c l (Bp c l (E5 c l row).1).1=E5 c l row∧d9 c l (E5 c l row).1=true:=by
 have key:(C6 c l row).2=0∧Bp c l (C6 c l row).1=(row,0)∧E5 c l row=((C6 c l row).1,0):=by
  unfold E5 at h ⊢
  split at h
  ·rename_i h1
   rw [show (C6 c l row).2=0 from h] at h1
   cases h1
  rename_i h1
  rw [if_neg h1]
  split at h
  ·rename_i h2
   rw [show (Bp c l (C6 c l row).1).2=0 from h] at h2
   cases h2
  rename_i h2
  rw [if_neg h2]
  split at h
  ·cases h
  rename_i h3
  rw [if_neg h3]
  refine ⟨by simpa using h1,?_,rfl⟩
  have e1:(Bp c l (C6 c l row).1).1=row:=by simpa using h3
  have e2:(Bp c l (C6 c l row).1).2=0:=by simpa using h2
  exact Hd e1 e2
 obtain ⟨k1,k2,k3⟩:=key
 rw [k3]
 refine ⟨k2,by rw [k2];exact k3,?_⟩
 unfold d9
 rw [k2]
 show (if ((0:Int) != 0)=true then false else ((C6 c l row).2==0)&&decide ((C6 c l row).1=(C6 c l row).1))=true
 rw [if_neg (by decide),k1]
 simp
/-- A row that may be walked: as long as its columns are many, its values fine. -/
structure RowI (c:List Col) (row:List Val):Prop where
 len:row.length=c.length
 fine:∀v∈row,Fine v
theorem La {c:List Col} {row:List Val} (h:H6 c row=true) (hr:∀v∈row, -9223372036854775808≤v.n∧v.n≤9223372036854775807):RowI c row:=by
 unfold H6 at h
 simp only [Ah,beq_iff_eq,Ax] at h
 refine ⟨h.1.2,fun v hv=>⟨?_,(hr v hv).1,(hr v hv).2⟩⟩
 obtain ⟨j,hj,rfl⟩:=U2 hv
 have hj2:j<c.length:=by omega
 have:=h.2 (row[j],c[j]) (Ae (i:=j) (by rw [Lg];exact ⟨A9 hj,A9 hj2⟩))
 exact this.1
theorem Qf {c:List Col} {m:Mov} {row:List Val} (ht:(Bh c m).2=0) (hm:F9 m=true) (hg:∀e∈m.ahead,D6 H2 e=true) (h:RowI c row) (hf:(Cz c m row).2=0):RowI (Bh c m).1 (Cz c m row).1:=by
 unfold Cz at hf ⊢
 split at hf
 ·rename_i h1
  rw [show (Ar c row m.ahead).2=0 from hf] at h1
  cases h1
 rename_i h1
 rw [if_neg h1]
 have hl:=Kb (c:=c) (row:=row) (l:=m.ahead) (by simpa using h1)
 refine ⟨?_,fun v hv=>?_⟩
 ·rw [(Ti ht).1,Ai,Ai,Tk h.len,hl,H3,(Ep (M8 hm)).1]
 rcases Em.1 hv with h2|h2
 ·exact h.fine v (d8 h2)
 exact J3 h.fine hg v h2
theorem Qg {row:List Val} (h:∀v∈row,Fine v) (n:Nat):Fine (row.getD n noV):=by
 rw [D9]
 cases hn:row[n]? with
 | none=>exact Gk
 | some v=>exact h v (Ae hn)
theorem da {a d:List Col} {m:Mov} {row:List Val} (hg:∀e∈m.back,D6 H2 e=true) (h:RowI d row) (hf:(Bg a d m row).2=0):RowI a (Bg a d m row).1:=by
 unfold Bg at hf ⊢
 split at hf
 ·rename_i h1
  rw [show (Ar d row m.back).2=0 from hf] at h1
  cases h1
 rename_i h1
 rw [if_neg h1]
 refine ⟨Ap _,fun v hv=>?_⟩
 obtain ⟨x,_,rfl⟩:=Ca.1 hv
 unfold Mc
 split
 ·exact Qg (J3 h.fine hg) _
 exact Qg h.fine _
theorem Ru {c:List Col} {l:List Mov} {row:List Val} {k:Nat} {m:Mov} (hk:l[k]? = some m) (h:(fwM c l row k).2=0):fwM c l row (k+1)=Cz (colsAt c l k) m (fwM c l row k).1:=by
 rw [fwM,if_neg (by rw [h];simp),hk]
theorem N8 {c:List Col} {l:List Mov} {row:List Val} {k:Nat} {m:Mov} (hk:l[l.length-1-k]? = some m) (h:(bkM c l row k).2=0):bkM c l row (k+1)=Bg (colsAt c l (l.length-1-k)) (colsAt c l (l.length-1-k+1)) m (bkM c l row k).1:=by
 rw [bkM,if_neg (by rw [h];simp),hk]
theorem Vp {c:List Col} {l:List Mov} {row:List Val} {k:Nat} (h:(fwM c l row k).2≠0):∀n,k<n→fwM c l row n=([],(fwM c l row k).2)
 | 0,hn=>by omega
 | n+1,hn=>by
  by_cases hk:k=n
  ·subst hk
   rw [fwM,if_pos (by simpa using h)]
  rw [fwM,Vp h n (by omega),if_pos (by simpa using h)]
theorem Vq {c:List Col} {l:List Mov} {row:List Val} {k:Nat} (h:(bkM c l row k).2≠0):∀n,k<n→bkM c l row n=([],(bkM c l row k).2)
 | 0,hn=>by omega
 | n+1,hn=>by
  by_cases hk:k=n
  ·subst hk
   rw [bkM,if_pos (by simpa using h)]
  rw [bkM,Vq h n (by omega),if_pos (by simpa using h)]
theorem Vr {c:List Col} {m:Mov} {row:List Val} (h:(Cz c m row).2≠0):(Cz c m row).1=[]:=by
 unfold Cz at h ⊢
 split
 ·rfl
 rename_i h1
 rw [if_neg h1] at h
 exact absurd rfl h
theorem Yn {a d:List Col} {m:Mov} {row:List Val} (h:(Bg a d m row).2≠0):(Bg a d m row).1=[]:=by
 unfold Bg at h ⊢
 split
 ·rfl
 rename_i h1
 rw [if_neg h1] at h
 exact absurd rfl h
/-- A failing move ends it. -/
theorem gn {c:List Col} {l:List Mov} {row:List Val} {k:Nat} {m:Mov} (hk:l[k]? = some m) (h:(fwM c l row k).2=0) (hb:(Cz (colsAt c l k) m (fwM c l row k).1).2≠0):fwM c l row l.length=([],(Cz (colsAt c l k) m (fwM c l row k).1).2):=by
 have e:=Ru hk h
 have hl:=(A8.1 hk).1
 by_cases h1:k+1=l.length
 ·rw [←h1,e]
  exact Hd (Vr hb) rfl
 have:=Vp (c:=c) (l:=l) (row:=row) (k:=k+1) (by rw [e];exact hb) l.length (by omega)
 rw [this,e]
theorem gq {c:List Col} {l:List Mov} {row:List Val} {k:Nat} {m:Mov} (hl:k<l.length) (hk:l[l.length-1-k]? = some m) (h:(bkM c l row k).2=0) (hb:(Bg (colsAt c l (l.length-1-k)) (colsAt c l (l.length-1-k+1)) m (bkM c l row k).1).2≠0):bkM c l row l.length=([],(Bg (colsAt c l (l.length-1-k)) (colsAt c l (l.length-1-k+1)) m (bkM c l row k).1).2):=by
 have e:=N8 hk h
 by_cases h1:k+1=l.length
 ·rw [h1] at e
  rw [e]
  exact Hd (Yn hb) rfl
 have:=Vq (c:=c) (l:=l) (row:=row) (k:=k+1) (by rw [e];exact hb) l.length (by omega)
 rw [this,e]
/-! both: pairs of rows. -/
/-- api.Pair. -/
structure Pai where
 old:List Val
 new:List Val
 hasOld:Bool
 hasNew:Bool
 deriving DecidableEq
def Hx:Pai:=⟨[],[],false,false⟩
abbrev Mz (p:Pai):AV:=.agg [Aw p.old,Aw p.new,Ag p.hasOld,Ag p.hasNew]
/-- both.WriteOld. -/
def Bv (c:List Col) (l:List Mov) (row:List Val):Pai×Int:=if (Bp c l row).2 != 0 then (Hx,(Bp c l row).2) else (⟨row,(Bp c l row).1,true,true⟩,0)
/-- both.WriteNew. -/
def Bw (c:List Col) (l:List Mov) (row:List Val):Pai×Int:=if (E5 c l row).2 != 0 then (Hx,(E5 c l row).2) else (⟨(E5 c l row).1,row,true,true⟩,0)
/-- both.Drop. -/
def H8 (p:Pai) (old:Bool):Pai:=if old then ⟨[],p.new,false,p.hasNew⟩ else ⟨p.old,[],p.hasOld,false⟩
/-- What WriteNew wrote, WriteOld writes again, and so does WriteNew. -/
theorem Yo {c:List Col} {l:List Mov} {row:List Val} (h:(Bw c l row).2=0):Bv c l (Bw c l row).1.old=Bw c l row∧Bw c l (Bv c l (Bw c l row).1.old).1.new=Bw c l row:=by
 have h0:(E5 c l row).2=0:=by
  unfold Bw at h
  split at h
  ·exact h
  rename_i h1;simpa using h1
 have e:Bw c l row=(⟨(E5 c l row).1,row,true,true⟩,0):=if_neg (by rw [h0];simp)
 have f:=(gm h0).1
 have g:Bv c l (E5 c l row).1=(⟨(E5 c l row).1,row,true,true⟩,0):=by
  unfold Bv
  rw [f]
  rfl
 rw [e]
 refine ⟨g,?_⟩
 show Bw c l (Bv c l (E5 c l row).1).1.new=_
 rw [g]
 exact e
theorem E0 {c:List Col} {l:List Mov} {row:List Val} (h:(Bv c l row).2≠0):(Bv c l row).1=Hx:=by
 unfold Bv at h ⊢
 split
 ·rfl
 rename_i h1;rw [if_neg h1] at h;exact absurd rfl h
theorem E1 {c:List Col} {l:List Mov} {row:List Val} (h:(Bw c l row).2≠0):(Bw c l row).1=Hx:=by
 unfold Bw at h ⊢
 split
 ·rfl
 rename_i h1;rw [if_neg h1] at h;exact absurd rfl h
theorem Rv {c:List Col} {l:List Mov} {row:List Val} (h:(Bw c l row).2=0):(Bw c l row).1=⟨(E5 c l row).1,row,true,true⟩:=by
 unfold Bw at h ⊢
 split
 ·rename_i h1;rw [if_pos h1] at h;rw [h] at h1;cases h1
 rfl
theorem Wp {c:List Col} {l:List Mov} {row:List Val} (h:(Bv c l row).2=0):(Bv c l row).1=⟨row,(Bp c l row).1,true,true⟩:=by
 unfold Bv at h ⊢
 split
 ·rename_i h1;rw [if_pos h1] at h;rw [h] at h1;cases h1
 rfl
abbrev Md (r:Rs):AV:=.tup [Av r.1,A3 r.2]
abbrev Wq (l:List Int):AV:=.slice false 1 (l.map A3)
abbrev P4 (c:List Col) (l:List Val):AV:=.agg [Ad c,Aw l]
theorem pm (e:Int) (Hp:List AObj):AFun Tryz.prog 104 [A3 e] Hp (Md (Bu e)):=by
 refine Ac [.cell 2 44,.tmp 3] [0] Tryz.func104 Tryz.ntmps104 (fun d=>?_)
 refine Us ?_;refine A0 [0,2] ?_;refine Ds ?_;refine A7 Tryz.call66 (c66 _) ?_;refine A2 ?_;refine Z12 ?_;refine Z84 ?_;exact A5 (Az (Eb jA jS) A4)

theorem pq (n e:Int) (Hp:List AObj):AFun Tryz.prog 161 [A3 n,A3 e] Hp (Md (Et (n,e))):=by
 refine Ac [.cell 4 44,.tmp 5] [0,1] Tryz.func161 Tryz.ntmps161 (fun d=>?_)
 refine Us ?_;refine A0 [0,1,4] ?_;refine Z28 ?_;refine A0 [0,1,4,7] ?_
 refine A1 (fun ht7=>?_) (fun ht7=>?_)
 ·have hw:Et (n,e)=Bu e:=if_pos ht7
  refine Z0 ?_;refine Z35 ?_;refine Z33 ?_;refine Bn ?_;exact m8
 have hw:Et (n,e)=(⟨1,n,[]⟩,0):=if_neg (by rw [ht7];simp)
 refine Pa ?_;refine A7 Tryz.call182 (mo _ _) ?_;refine Z33 ?_;exact m8

theorem Tl {vs:List Val} {ks:List Int} (hl:ks.length≤vs.length) {x:Nat} (hk:x<ks.length) (hx:D7 vs ks=D7 (vs.drop x) (ks.drop x)):D7 vs ks=((vs[x].kind==ks[x])&&D7 (vs.drop (x+1)) (ks.drop (x+1))):=by
 rw [hx,Hc hk,Hc (show x<vs.length by omega),D7]
theorem db (vs:List Val) (ks:List Int) (hks:ks.length≤vs.length) (hk2:ks.length≤1048576) (Hp:List AObj):AFun Tryz.prog 160 [Aw vs,Wq ks] Hp (Ag (D7 vs ks)):=by
 refine Ac [.tmp 4] [0,1] Tryz.func160 Tryz.ntmps160 (fun d=>?_)
 refine ae ?_;refine A0 [0,7,8,9] ?_
 refine Bz (α:=Nat) (fun x=>⟨22,A6 0 (Aw vs) (A6 7 (Wq ks) (A6 8 (A3 (ks.length:Nat)) (A6 9 (A3 (x:Nat)) (fun _=>.any)))),Hp,[],[],none⟩) (fun x=>x≤ks.length∧D7 vs ks=D7 (vs.drop x) (ks.drop x)) (fun x=>ks.length-x) (0) ⟨Au _,rfl⟩ (Bf (by simp)) rfl (fun x hx=>?_)
 refine Z0 ?_;refine A0 [0,7,8,9,10] ?_
 refine C5 (fun ht10=>?_) (fun ht10=>?_)
 ·have hlt:x<ks.length:=by simpa using ht10
  have hls:x<vs.length:=by omega
  have hst:=Tl hks hlt hx.2
  refine Nu ?_
  refine A2 (h:=Ab (x) (A3 ks[x]) (fun _=>As hlt)) (hr:=?_)
  refine Z37 ?_;refine A0 [0,5,6,7,8,9] ?_;refine Z3 ?_
  refine A2 (h:=Ab (x) (Av vs[x]) (fun _=>As hls)) (hr:=?_)
  refine Lp ?_;refine A0 [0,7,8,9,20] ?_
  refine A1 (fun ht20=>?_) (fun ht20=>?_)
  ·have hm:D7 vs ks=false:=by rw [hst];simp only [bne_iff_ne,ne_eq] at ht20;simp [ht20]
   refine Z54 ?_;exact Z79
  have hn:D7 vs ks=D7 (vs.drop (x+1)) (ks.drop (x+1)):=by rw [hst];simp only [bne_eq_false_iff_eq] at ht20;simp [ht20]
  refine Z50 ?_;refine A0 [0,7,8,9] ?_;exact l7
 have hxe:ks.length≤x:=by simpa using ht10
 have hm:D7 vs ks=true:=by rw [hx.2,Tz hxe];cases vs.drop x<;>rfl
 refine Z29 ?_;exact Z85

theorem pr (t:Str) (c:Int) (Hp:List AObj):AFun Tryz.prog 178 [Am t,A3 c] Hp (.tup [Ag (Fi t c).1,Ag (Fi t c).2]):=by
 refine Ac [.tmp 4,.tmp 5] [0,1] Tryz.func178 Tryz.ntmps178 (fun d=>?_)
 refine Un ?_;refine Z40 ?_;refine A0 [1,6] ?_;refine Z96 ?_;refine A0 [1,6,7] ?_
 refine A1 (fun ht7=>?_) (fun ht7=>?_)
 ·exact Xi
 refine Z3 ?_;refine A0 [1,6,11] ?_
 refine A1 (fun ht11=>?_) (fun ht11=>?_)
 ·exact Xi
 refine Z3 ?_;refine A0 [1,6,15] ?_
 refine A1 (fun ht15=>?_) (fun ht15=>?_)
 ·exact Xi
 refine Z3 ?_;refine A0 [1,6,19] ?_
 refine A1 (fun ht19=>?_) (fun ht19=>?_)
 ·exact Xi
 refine Z3 ?_;refine A0 [1,6,23] ?_
 refine A1 (fun ht23=>?_) (fun ht23=>?_)
 ·exact Xi
 refine Z3 ?_;refine A0 [1,27] ?_
 refine A1 (fun ht27=>?_) (fun ht27=>?_)
 ·exact Xi
 refine Z18 ?_;refine Z82 ?_;exact m9

theorem ng (a b:Int) (Hp:List AObj):AFun Tryz.prog 183 [A3 a,A3 b] Hp (.tup [A3 (My a b).1,A3 (My a b).2]):=by
 refine Ac [.tmp 4,.tmp 5] [0,1] Tryz.func183 Tryz.ntmps183 (fun d=>?_)
 refine Un ?_;refine Z3 ?_
 refine A2 (h:=Q.sub) (hr:=?_)
 refine A2 ?_;refine A0 [0,1,6] ?_;refine Z28 ?_;refine R.xor ?_;refine Z1 ?_;refine R.xor ?_;refine R.and ?_;refine A2 ?_;refine A0 [6,17] ?_
 refine A1 (fun ht17=>?_) (fun ht17=>?_)
 ·have hm:My a b=(0,4):=if_pos ht17
  refine Z82 ?_;exact li
 have hm:My a b=(IntKind.i64.wrap (a-b),0):=if_neg (by rw [ht17];simp)
 refine Pe ?_;exact j5

theorem pt (a b:Int) (Hp:List AObj):AFun Tryz.prog 195 [A3 a,A3 b] Hp (.tup [A3 (Yh a b).1,A3 (Yh a b).2]):=by
 refine Ac [.tmp 4,.tmp 5] [0,1] Tryz.func195 Tryz.ntmps195 (fun d=>?_)
 refine Un ?_;refine Z3 ?_
 refine A2 (h:=Q.add) (hr:=?_)
 refine A2 ?_;refine A0 [0,1,6] ?_;refine Z28 ?_;refine R.xor ?_;refine Z1 ?_;refine R.xor ?_;refine R.and ?_;refine A2 ?_;refine A0 [6,17] ?_
 refine A1 (fun ht17=>?_) (fun ht17=>?_)
 ·have hm:Yh a b=(0,4):=if_pos ht17
  refine Z82 ?_;exact li
 have hm:Yh a b=(IntKind.i64.wrap (a+b),0):=if_neg (by rw [ht17];simp)
 refine Pe ?_;exact j5

theorem pu (a:Int) (Hp:List AObj):AFun Tryz.prog 162 [A3 a] Hp (.tup [A3 (My 0 a).1,A3 (My 0 a).2]):=by
 refine Ac [.tmp 2,.tmp 3] [0] Tryz.func162 Tryz.ntmps162 (fun d=>?_)
 refine Z3 ?_;refine A0 [0] ?_;refine Z0 ?_;refine A7 Tryz.call183 (ng _ _ _) ?_;refine Lp ?_;refine Z84 ?_;exact A5 (Az A4 A4)

theorem nh (a:Int) (Hp:List AObj):AFun Tryz.prog 209 [A3 a] Hp (Uw (Mn a)):=by
 refine Ac [.tmp 2] [0] Tryz.func209 Tryz.ntmps209 (fun d=>?_)
 refine Z49 ?_;refine Z28 ?_;refine A0 [0,4] ?_
 refine A1 (fun ht4=>?_) (fun ht4=>?_)
 ·have hm:Mn a=IntKind.u64.wrap (0-IntKind.u64.wrap a):=if_pos ht4
  refine Z31 ?_;refine Z4 ?_;exact Z19
 have hm:Mn a=IntKind.u64.wrap a:=if_neg (by rw [ht4];simp)
 refine Pe ?_;exact lr

theorem kc (n:Int):0≤IntKind.u64.wrap n∧IntKind.u64.wrap n<18446744073709551616:=by rw [IntKind.wrap_u64];omega
theorem dc (a:Int):0≤Mn a∧Mn a<18446744073709551616:=by
 unfold Mn
 split<;>exact kc _
theorem pv (x y:Int) (hx:0≤x∧x<18446744073709551616) (hy:0≤y∧y<18446744073709551616) (Hp:List AObj):AFun Tryz.prog 208 [Uw x,Uw y] Hp (.tup [Uw (x*y / 18446744073709551616),Uw (x*y % 18446744073709551616)]):=by
 obtain ⟨m,rfl⟩:=Zc hx.1
 obtain ⟨n,rfl⟩:=Zc hy.1
 refine Jk (xs:=[.int .u64 m,.int .u64 n]) (v:=.tuple #[.int .u64 ((m*n / 18446744073709551616:Nat):Int),.int .u64 ((m*n % 18446744073709551616:Nat):Int)]) (fun G w=>Hg rfl (fun i y u hy hu=>?_)) (fun w hg=>?_)
 ·match i with
  | 0=>simp at hy hu;subst hy;subst hu;exact .v _ _
  | 1=>simp at hy hu;subst hy;subst hu;exact .v _ _
  | i+2=>simp at hy
 refine (Any.bits_Mul64 Tryz.lays264 m n (by omega) (by omega) w).mono ?_
 rintro e w' ⟨rfl,rfl⟩
 exact ⟨rfl,Go.RowKit.Below.refl _ _⟩
theorem pw (s t:Str) (Hp:List AObj):AFun Tryz.prog 194 [Am s,Am t] Hp (A3 (Lib.compareBytes s t)):=by
 refine Jk (xs:=[sv s,sv t]) (v:=.int .i64 (Lib.compareBytes s t)) (fun G w=>.v _ _) (fun w hg=>?_)
 refine (Any.strings_Compare Tryz.lays106 ⟨s.toArray⟩ ⟨t.toArray⟩ w).mono ?_
 rintro e w' ⟨rfl,rfl⟩
 exact ⟨rfl,Go.RowKit.Below.refl _ _⟩
theorem px (a b:Int) (Hp:List AObj):AFun Tryz.prog 196 [A3 a,A3 b] Hp (.tup [A3 (Pn a b).1,A3 (Pn a b).2]):=by
 refine Ac [.tmp 4,.tmp 5] [0,1] Tryz.func196 Tryz.ntmps196 (fun d=>?_)
 refine Un ?_;refine Z0 ?_;refine A7 Tryz.call209 (nh _ _) ?_;refine A2 ?_;refine A7 Tryz.call209 (nh _ _) ?_;refine A7 Tryz.call208 (pv _ _ (dc a) (dc b) _) ?_;refine Z74 ?_;refine A0 [0,1,6,7] ?_;refine Z8 ?_;refine Z37 ?_;refine A0 [6,7,8] ?_;refine Z0 ?_;refine A0 [6,7,8,9] ?_;refine Z40 ?_;refine A0 [6,7,8,9,23] ?_
 refine A1 (fun ht23=>?_) (fun ht23=>?_)
 ·refine Xk ?_
  refine A2 (h:=Q.add) (hr:=?_)
  refine A2 ?_;refine A0 [6,7,8,9] ?_;refine E4 ?_;refine Z98 ?_;refine Z73 ?_;refine A0 [7,8,26] ?_
  refine A1 (fun ht26=>?_) (fun ht26=>?_)
  ·refine Z82 ?_;refine Z5 ?_
   exact A5 (Az A4 A4) ⟨by
    have w1:IntKind.u64.wrap 9223372036854775808=9223372036854775808:=rfl
    simp_all [Pn]
    try first|(rw [if_pos ht26];simp;done)|(rw [if_neg (by omega)];simp;done),rfl⟩
  refine Z3 ?_;refine A0 [7,34] ?_
  refine A1 (fun ht34=>?_) (fun ht34=>?_)
  ·refine Z8 ?_;refine Z1 ?_;refine Z10 ?_;refine Z5 ?_
   exact A5 (Az A4 A4) ⟨by
    have w1:IntKind.u64.wrap 9223372036854775808=9223372036854775808:=rfl
    simp_all [Pn]
    try first|(rw [if_pos ht26];simp;done)|(rw [if_neg (by omega)];simp;done),rfl⟩
  refine Z18 ?_;refine eh ?_
  exact A5 (Az A4 A4) ⟨by
   have w1:IntKind.u64.wrap 9223372036854775808=9223372036854775808:=rfl
   simp_all [Pn]
   try first|(rw [if_pos ht26];simp;done)|(rw [if_neg (by omega)];simp;done),rfl⟩
 refine Z9 ?_;refine Z98 ?_;refine Z73 ?_;refine A0 [7,8,26] ?_
 refine A1 (fun ht26=>?_) (fun ht26=>?_)
 ·refine Z82 ?_;refine Z5 ?_
  exact A5 (Az A4 A4) ⟨by
   have w1:IntKind.u64.wrap 9223372036854775808=9223372036854775808:=rfl
   simp_all [Pn]
   try first|(rw [if_pos ht26];simp;done)|(rw [if_neg (by omega)];simp;done),rfl⟩
 refine Z3 ?_;refine A0 [7,34] ?_
 refine A1 (fun ht34=>?_) (fun ht34=>?_)
 ·refine Z8 ?_;refine Z1 ?_;refine Z10 ?_;refine Z5 ?_
  exact A5 (Az A4 A4) ⟨by
   have w1:IntKind.u64.wrap 9223372036854775808=9223372036854775808:=rfl
   simp_all [Pn]
   try first|(rw [if_pos ht26];simp;done)|(rw [if_neg (by omega)];simp;done),rfl⟩
 refine Z18 ?_;refine eh ?_
 exact A5 (Az A4 A4) ⟨by
  have w1:IntKind.u64.wrap 9223372036854775808=9223372036854775808:=rfl
  simp_all [Pn]
  try first|(rw [if_pos ht26];simp;done)|(rw [if_neg (by omega)];simp;done),rfl⟩

theorem py (a b:Int) (Hp:List AObj):AFun Tryz.prog 197 [A3 a,A3 b] Hp (.tup [A3 (Yi a b).1,A3 (Yi a b).2]):=by
 refine Ac [.tmp 4,.tmp 5] [0,1] Tryz.func197 Tryz.ntmps197 (fun d=>?_)
 refine Un ?_;refine Z98 ?_;refine A0 [0,1,6] ?_
 refine A1 (fun ht6=>?_) (fun ht6=>?_)
 ·refine Z82 ?_;exact l9
 refine Si ?_;refine Z1 ?_;refine A0 [0,1,9] ?_
 refine A1 (fun ht9=>?_) (fun ht9=>?_)
 ·refine Z82 ?_;exact l9
 refine Z18 ?_;refine Z3 ?_
 refine A2 (h:=Q.quo (h0:=fun _=>by simpa using ht6)) (hr:=?_)
 refine Z1 ?_;refine Z10 ?_;exact A5 (Az A4 A4) ⟨by simp_all [Yi]<;>(rw [if_neg (by rintro ⟨rfl,rfl⟩;simp_all)];exact ⟨rfl,rfl⟩),rfl⟩

theorem Yp {a b:Int} (ha : -9223372036854775808≤a∧a≤9223372036854775807):IntKind.i64.wrap (a.tmod b)=a.tmod b:=by
 have h1:(a.tmod b).natAbs≤a.natAbs:=by rw [Int.natAbs_tmod];exact Nat.mod_le _ _
 rw [IntKind.wrap_i64]
 rcases Int.le_total 0 a with h|h
 ·have:=Int.tmod_nonneg b h
  omega
 have h2:=Int.tmod_nonneg b (show 0 ≤ -a by omega)
 rw [Int.neg_tmod] at h2
 omega
theorem pz (a b:Int) (ha : -9223372036854775808≤a∧a≤9223372036854775807) (Hp:List AObj):AFun Tryz.prog 198 [A3 a,A3 b] Hp (.tup [A3 (Rq a b).1,A3 (Rq a b).2]):=by
 refine Ac [.tmp 4,.tmp 5] [0,1] Tryz.func198 Tryz.ntmps198 (fun d=>?_)
 refine Un ?_;refine Z40 ?_;refine A0 [0,1,6] ?_;refine Z96 ?_;refine A0 [0,1,6,7] ?_
 refine A1 (fun ht7=>?_) (fun ht7=>?_)
 ·have hm:Rq a b=(0,5):=if_pos ht7
  refine Z82 ?_;exact ll
 refine Z3 ?_;refine A0 [0,1,9] ?_
 refine A1 (fun ht9=>?_) (fun ht9=>?_)
 ·have hm:Rq a b=(0,0):=by unfold Rq;rw [if_neg (by rw [ht7];simp),if_pos ht9]
  refine Z82 ?_;exact ll
 have hm:Rq a b=(a.tmod b,0):=by unfold Rq;rw [if_neg (by rw [ht7];simp),if_neg (by rw [ht9];simp),Yp ha]
 refine Z18 ?_;refine Z3 ?_
 refine A2 (h:=Q.rem (h0:=fun _=>by simpa using ht7)) (hr:=?_)
 refine Z1 ?_;exact j5

theorem ni (a:Int) (Hp:List AObj):AFun Tryz.prog 205 [A3 a] Hp (Ag false):=by
 refine Ac [.tmp 2] [0] Tryz.func205 Tryz.ntmps205 (fun d=>?_)
 refine Z49 ?_;refine Z31 ?_;exact lu

theorem nj (a:Int) (Hp:List AObj):AFun Tryz.prog 206 [A3 a] Hp (Ag false):=by
 refine Ac [.tmp 2] [0] Tryz.func206 Tryz.ntmps206 (fun d=>?_)
 refine Z49 ?_;refine Z31 ?_;exact lu

theorem q8 (a b:Int) (Hp:List AObj):AFun Tryz.prog 192 [A3 a,A3 b] Hp (A3 (I5 a b)):=by
 refine Ac [.tmp 4] [0,1] Tryz.func192 Tryz.ntmps192 (fun d=>?_)
 refine Z41 ?_;refine Z0 ?_;refine A7 Tryz.call205 (ni _ _) ?_;refine ek ?_;refine Z0 ?_;refine A7 Tryz.call205 (ni _ _) ?_;refine A2 ?_;refine A0 [0,1,5,6] ?_;refine Z40 ?_;refine A0 [0,1,6,11] ?_
 refine A1 (fun ht11=>?_) (fun ht11=>?_)
 ·cases ht11
 refine Pc ?_;refine A0 [0,1,13] ?_
 refine A1 (fun ht13=>?_) (fun ht13=>?_)
 ·cases ht13
 refine Uu ?_;refine A0 [0,1,16] ?_
 refine A1 (fun ht16=>?_) (fun ht16=>?_)
 ·have hm:I5 a b = -1:=if_pos ht16
  exact Xl
 refine Uu ?_;refine A0 [19] ?_
 refine A1 (fun ht19=>?_) (fun ht19=>?_)
 ·have hm:I5 a b=1:=by unfold I5;rw [if_neg (by rw [ht16];simp),if_pos ht19]
  exact Xl
 have hm:I5 a b=0:=by unfold I5;rw [if_neg (by rw [ht16];simp),if_neg (by rw [ht19];simp)]
 refine Z9 ?_;exact Z85

theorem q9 (a b:Int) (Hp:List AObj):AFun Tryz.prog 193 [A3 a,A3 b] Hp (A3 (I5 a b)):=by
 refine Ac [.tmp 4] [0,1] Tryz.func193 Tryz.ntmps193 (fun d=>?_)
 refine Z41 ?_;refine Z0 ?_;refine A7 Tryz.call206 (nj _ _) ?_;refine ek ?_;refine Z0 ?_;refine A7 Tryz.call206 (nj _ _) ?_;refine A2 ?_;refine A0 [0,1,5,6] ?_;refine Z40 ?_;refine A0 [0,1,6,11] ?_
 refine A1 (fun ht11=>?_) (fun ht11=>?_)
 ·cases ht11
 refine Pc ?_;refine A0 [0,1,13] ?_
 refine A1 (fun ht13=>?_) (fun ht13=>?_)
 ·cases ht13
 refine Uu ?_;refine A0 [0,1,16] ?_
 refine A1 (fun ht16=>?_) (fun ht16=>?_)
 ·have hm:I5 a b = -1:=if_pos ht16
  exact Xl
 refine Uu ?_;refine A0 [19] ?_
 refine A1 (fun ht19=>?_) (fun ht19=>?_)
 ·have hm:I5 a b=1:=by unfold I5;rw [if_neg (by rw [ht16];simp),if_pos ht19]
  exact Xl
 have hm:I5 a b=0:=by unfold I5;rw [if_neg (by rw [ht16];simp),if_neg (by rw [ht19];simp)]
 refine Z9 ?_;exact Z85

theorem de {l:List Int} {x:Nat} (h:x<l.length) (hx:orI l=orI (l.drop x)):orI l=if l[x] != 0 then l[x] else orI (l.drop (x+1)):=by rw [hx,Hc h,orI]
theorem qb (l:List Int) (hl:l.length≤1048576) (Hp:List AObj):AFun Tryz.prog 191 [Wq l] Hp (A3 (orI l)):=by
 refine Ac [.tmp 2] [0] Tryz.func191 Tryz.ntmps191 (fun d=>?_)
 refine Z49 ?_;refine Z0 ?_;refine Mw ?_;refine Z25 ?_;refine A0 [3,6,7,8] ?_
 refine Bz (α:=Nat) (fun x=>⟨18,A6 3 (A3 0) (A6 6 (Wq l) (A6 7 (A3 (l.length:Nat)) (A6 8 (A3 (x:Nat)) (fun _=>.any)))),Hp,[],[],none⟩) (fun x=>x≤l.length∧orI l=orI (l.drop x)) (fun x=>l.length-x) (0) ⟨Au _,rfl⟩ (Bf (by simp)) rfl (fun x hx=>?_)
 refine Z0 ?_;refine A0 [3,6,7,8,9] ?_
 refine C5 (fun ht9=>?_) (fun ht9=>?_)
 ·have hlt:x<l.length:=by simpa using ht9
  have hst:=de hlt hx.2
  refine Z65 ?_
  refine A2 (h:=Ab (x) (A3 l[x]) (fun _=>As hlt)) (hr:=?_)
  refine Z1 ?_;refine A0 [3,5,6,7,8] ?_;refine Z8 ?_;refine A0 [3,5,6,7,8,14] ?_
  refine A1 (fun ht14=>?_) (fun ht14=>?_)
  ·have hm:orI l=l[x]:=by rw [hst,if_pos ht14]
   refine Z3 ?_;refine Z4 ?_;exact Z79
  have hn:orI l=orI (l.drop (x+1)):=by rw [hst,if_neg (by rw [ht14];simp)]
  refine Z50 ?_;refine A0 [3,6,7,8] ?_;exact l7
 have hxe:l.length≤x:=by simpa using ht9
 have hm:orI l=0:=by rw [hx.2,Tz hxe];rfl
 refine Z29 ?_;refine Z3 ?_;exact lr

theorem qc (a b:Val) (Hp:List AObj):AFun Tryz.prog 179 [Av a,Av b] Hp (A3 (Yj a b)):=by
 refine Ac [.tmp 4] [0,1] Tryz.func179 Tryz.ntmps179 (fun d=>?_)
 refine Z8 ?_;refine A0 [2,3] ?_;refine Z40 ?_;refine A7 Tryz.call51 (c51 a _) ?_;refine Z1 ?_;refine Bk ?_;refine Br Tryz.call51 (fun hB=>c51 b _) ?_;refine Z86 ?_;refine A0 [2,3,12] ?_
 refine A1 (fun ht12=>?_) (fun ht12=>?_)
 ·have hm:Yj a b=0:=if_pos ht12
  exact Xl
 have hm:Yj a b=orI [I5 a.kind b.kind,I5 a.n b.n,Lib.compareBytes a.s b.s]:=if_neg (by rw [ht12];simp)
 refine Z9 ?_;refine Cm [0,1,0,4,15,0,32,0,128,511,0,1024,0,4096,16383,32767,65535,131071] 14 Aq (by kernel_rfl) ?_;refine Sh ?_;refine Cl Tryz.call192 (q8 _ _ _) ?_;refine Sh ?_;refine Cl Tryz.call193 (q9 _ _ _) ?_;refine Z16 ?_;refine Z63 ?_;refine A7 Tryz.call194 (pw _ _ _) ?_;refine Pf ?_;refine A7 Tryz.call191 (qb [I5 a.kind b.kind,I5 a.n b.n,Lib.compareBytes a.s b.s] (by simp) _) ?_;refine A2 ?_;refine Z17 ?_;exact Xs

theorem qd (t:Str) (a b:Int) (ha : -9223372036854775808≤a∧a≤9223372036854775807) (Hp:List AObj):AFun Tryz.prog 181 [Am t,A3 a,A3 b] Hp (Md (Et (K7 t a b))):=by
 refine Ac [.cell 6 44,.tmp 7] [0,1,2] Tryz.func181 Tryz.ntmps181 (fun d=>?_)
 refine Us ?_;refine A0 [0,1,2,6] ?_;refine Z40 ?_;refine A0 [1,2,6,8] ?_;refine Z96 ?_;refine A0 [1,2,6,8,9] ?_
 refine A1 (fun ht9=>?_) (fun ht9=>?_)
 ·refine Z3 ?_;refine A7 Tryz.call195 (pt _ _ _) ?_;exact er
 refine Z3 ?_;refine A0 [1,2,6,8,19] ?_
 refine A1 (fun ht19=>?_) (fun ht19=>?_)
 ·refine Z3 ?_;refine A7 Tryz.call183 (ng _ _ _) ?_;exact er
 refine Z3 ?_;refine A0 [1,2,6,8,29] ?_
 refine A1 (fun ht29=>?_) (fun ht29=>?_)
 ·refine Z3 ?_;refine A7 Tryz.call196 (px _ _ _) ?_;exact er
 refine Z3 ?_;refine A0 [1,2,6,39] ?_
 refine A1 (fun ht39=>?_) (fun ht39=>?_)
 ·refine Z3 ?_;refine A7 Tryz.call197 (py _ _ _) ?_;exact er
 refine Z18 ?_;refine Z3 ?_;refine A7 Tryz.call198 (pz _ _ ha _) ?_;refine ej ?_;refine Z81 ?_;exact ma

theorem qe (a b:Val) (fa:Fine a) (fb:Fine b) (Hp:List AObj):AFun Tryz.prog 180 [.slice false 3 [Av a,Av b]] Hp (Md (L9 a b)):=by
 refine Ac [.cell 2 44,.tmp 3] [0] Tryz.func180 Tryz.ntmps180 (fun d=>?_)
 refine Us ?_;refine A0 [0,2] ?_;refine Nu ?_;refine Ns jU jS jZ ?_;refine A7 Tryz.call160 (db [a,b] [2,2] (by simp) (by simp) _) ?_;refine Z1 ?_;refine A0 [0,2,4] ?_
 refine A1 (fun ht4=>?_) (fun ht4=>?_)
 ·have hm:L9 a b=Bu 10:=if_pos ht4
  refine Z91 ?_;refine Z12 ?_;refine Z84 ?_;exact Z15
 have hla:=fa.len
 have hlb:=fb.len
 refine Cm [0,1,3,7,15,0,32,96,224,480,1023,2047,4095] 10 Aq (by kernel_rfl) ?_;refine Ak ?_
 refine Ak (h:=Ab (0) (Av a) (fun _=>show ([Av a,Av b]:List AV)[0]? = some (Av a) from rfl)) (hr:=?_)
 refine Sh ?_
 refine Ak (h:=Ab (1) (Av b) (fun _=>show ([Av a,Av b]:List AV)[1]? = some (Av b) from rfl)) (hr:=?_)
 refine Z52 ?_;refine F6 ?_
 refine A2 (h:=Q.add64 (h1:=fun _=>by omega) (h2:=fun _=>by omega)) (hr:=?_)
 refine Z1 ?_;refine A0 [0,2,12] ?_
 refine A1 (fun ht12=>?_) (fun ht12=>?_)
 ·have hm:L9 a b=Bu 3:=by unfold L9;rw [if_neg (by rw [ht4];simp),if_pos ht12]
  refine Z91 ?_;refine Z12 ?_;refine Z84 ?_;exact Z15
 have hm:L9 a b=(Pm (a.s++b.s),0):=by unfold L9;rw [if_neg (by rw [ht4];simp),if_neg (by rw [ht12];simp)]
 refine Z18 ?_;refine Cm [0,1,3,7,0,16,48,112,255,511,1023,2047] 8 Aq (by kernel_rfl) ?_;refine Ak ?_
 refine Ak (h:=Ab (0) (Av a) (fun _=>show ([Av a,Av b]:List AV)[0]? = some (Av a) from rfl)) (hr:=?_)
 refine Z52 ?_
 refine Ak (h:=Ab (1) (Av b) (fun _=>show ([Av a,Av b]:List AV)[1]? = some (Av b) from rfl)) (hr:=?_)
 refine Z63 ?_
 refine A2 (h:=Q.sadd (hl:=fun _=>by omega)) (hr:=?_)
 refine A7 Tryz.call184 (f9 _ _) ?_;refine Z12 ?_;refine Z84 ?_;exact al

theorem qf (t:Str) (a b:Val) (fa:Fine a) (fb:Fine b) (Hp:List AObj):AFun Tryz.prog 159 [Am t,.slice false 3 [Av a,Av b]] Hp (Md (K8 t a b)):=by
 refine Ac [.cell 4 44,.tmp 5] [0,1] Tryz.func159 Tryz.ntmps159 (fun d=>?_)
 refine Us ?_;refine A0 [0,1,4] ?_;refine Gp ?_;refine Cm [0,0,2,6,0,16,48,126,255,511,1023,1023,2047,8191] 13 Aq (by kernel_rfl) ?_;refine Z16 ?_
 refine Ak (h:=Ab (0) (Av a) (fun _=>show ([Av a,Av b]:List AV)[0]? = some (Av a) from rfl)) (hr:=?_)
 refine Z16 ?_
 refine Ak (h:=Ab (1) (Av b) (fun _=>show ([Av a,Av b]:List AV)[1]? = some (Av b) from rfl)) (hr:=?_)
 refine Ak ?_;refine Cl Tryz.call179 (qc _ _ _) ?_;refine Cl Tryz.call178 (pr _ _ _) ?_;refine Z16 ?_;refine Z63 ?_;refine A2 ?_;refine A0 [0,1,4,6,7] ?_;refine Z0 ?_;refine A0 [0,1,4,6,20] ?_
 refine A1 (fun ht20=>?_) (fun ht20=>?_)
 ·refine Gp ?_;refine Cm [0,1,3,7,0,16,48,112,255] 8 Aq (by kernel_rfl) ?_;refine Ak ?_
  refine Ak (h:=Ab (0) (Av a) (fun _=>show ([Av a,Av b]:List AV)[0]? = some (Av a) from rfl)) (hr:=?_)
  refine Z52 ?_
  refine Ak (h:=Ab (1) (Av b) (fun _=>show ([Av a,Av b]:List AV)[1]? = some (Av b) from rfl)) (hr:=?_)
  refine Z63 ?_;refine A2 ?_;refine A0 [4,6,29] ?_
  refine A1 (fun ht29=>?_) (fun ht29=>?_)
  ·have hm:K8 t a b=Bu 10:=by unfold K8;rw [if_pos ht20,if_pos ht29]
   refine Z91 ?_;refine Z33 ?_;refine Bn ?_;exact Z24
  have hm:K8 t a b=(Ej (Fi t (Yj a b)).1,0):=by unfold K8;rw [if_pos ht20,if_neg (by rw [ht29];simp)]
  refine Pa ?_;refine A7 Tryz.call129 (Y0 _ _) ?_;exact Xm
 refine Z9 ?_;refine Z28 ?_;refine A0 [0,1,4,36] ?_
 refine A1 (fun ht36=>?_) (fun ht36=>?_)
 ·have hm:K8 t a b=L9 a b:=by unfold K8;rw [if_neg (by rw [ht20];simp),if_pos ht36]
  refine Z0 ?_;refine A7 Tryz.call180 (qe a b fa fb _) ?_;refine Z1 ?_;exact Xm
 refine Pc ?_;refine Ns jU jS jZ ?_;refine A7 Tryz.call160 (db [a,b] [1,1] (by simp) (by simp) _) ?_;refine A2 ?_;refine A0 [0,1,4,44] ?_
 refine A1 (fun ht44=>?_) (fun ht44=>?_)
 ·have hm:K8 t a b=Bu 10:=by unfold K8;rw [if_neg (by rw [ht20];simp),if_neg (by rw [ht36];simp),if_pos ht44]
  refine Z91 ?_;exact Xm
 have hm:K8 t a b=Et (K7 t a.n b.n):=by unfold K8;rw [if_neg (by rw [ht20];simp),if_neg (by rw [ht36];simp),if_neg (by rw [ht44];simp)]
 refine Z9 ?_;refine Cm [0,0,2,6,14,0,32,96,224,511,1023,1023,4095,8191] 12 Aq (by kernel_rfl) ?_;refine Z16 ?_
 refine Ak (h:=Ab (0) (Av a) (fun _=>show ([Av a,Av b]:List AV)[0]? = some (Av a) from rfl)) (hr:=?_)
 refine Z52 ?_
 refine Ak (h:=Ab (1) (Av b) (fun _=>show ([Av a,Av b]:List AV)[1]? = some (Av b) from rfl)) (hr:=?_)
 refine Z16 ?_;refine Cl Tryz.call181 (qd _ _ _ ⟨fa.lo,fa.hi⟩ _) ?_;refine Z63 ?_;exact Z43

theorem ke (s:Str) (n:Int):∃k:Nat,(if (0:Int)<(if (s.length:Int)<n then (s.length:Int) else n) then (if (s.length:Int)<n then (s.length:Int) else n) else 0)=(k:Int)∧k≤s.length∧k=(max 0 (min n s.length)).toNat:=by
 refine ⟨(max 0 (min n s.length)).toNat,?_,?_,rfl⟩<;>repeat' split
 all_goals omega
theorem qg (t s:Str) (n:Int) (hs:s.length≤1048576) (Hp:List AObj):AFun Tryz.prog 164 [Am t,Am s,A3 n] Hp (Av (J1 t s n)):=by
 refine Ac [.cell 6 44] [0,1,2] Tryz.func164 Tryz.ntmps164 (fun d=>?_)
 refine Z44 ?_;refine A0 [0,1,2,6] ?_;refine Z8 ?_;refine R.minI ?_;refine R.maxI ?_
 obtain ⟨k,hk,hks,hke⟩:=ke s n
 simp only [hk]
 refine A2 ?_;refine A0 [0,1,6,7] ?_;refine Z28 ?_;refine A0 [1,6,7,14] ?_
 refine A1 (fun ht14=>?_) (fun ht14=>?_)
 ·have hm:J1 t s n=Pm (s.take k):=by unfold J1;rw [if_pos ht14,←hke]
  refine Z3 ?_
  refine A2 (h:=Q.scutH k (fun _=>Au _) (fun _=>hks)) (hr:=?_)
  refine A7 Tryz.call184 (f9 _ _) ?_;refine Gq ?_;refine Rb ?_;exact mb
 have hm:J1 t s n=Pm (s.drop (s.length-k)):=by unfold J1;rw [if_neg (by rw [ht14];simp),←hke]
 refine Z9 ?_;refine Z31 ?_
 refine A2 (h:=Q.sub64 (h1:=fun _=>by omega) (h2:=fun _=>by omega)) (hr:=?_)
 refine A2 (h:=Q.scutL (s.length-k) (fun _=>show s.length-k≤s.length by omega) (fun _=>Al _)) (hr:=?_)
 refine A7 Tryz.call184 (f9 _ _) ?_;refine Gq ?_;refine Z47 ?_;exact mb

theorem qh (t:Str) (v:Val) (h:Fine v) (Hp:List AObj):AFun Tryz.prog 163 [Am t,Av v] Hp (Md (I2 t v)):=by
 have hlen:=h.len
 refine Ac [.cell 4 44,.tmp 5] [0,1] Tryz.func163 Tryz.ntmps163 (fun d=>?_)
 refine Z0 ?_;refine Zz ?_;refine A0 [0,3,4] ?_;refine Z98 ?_;refine Z73 ?_;refine A0 [0,3,4,6] ?_
 refine A1 (fun ht6=>?_) (fun ht6=>?_)
 ·have hm:I2 t v=(Pm (Lib.itoa v.n),0):=if_pos ht6
  refine Z3 ?_;refine A7 Tryz.call185 (od _ h.lo h.hi _) ?_;refine A7 Tryz.call184 (f9 _ _) ?_;exact Z61
 refine Z8 ?_;refine Z73 ?_;refine A0 [0,3,4,18] ?_
 refine A1 (fun ht18=>?_) (fun ht18=>?_)
 ·have hm:I2 t v=(⟨1,v.s.length,[]⟩,0):=by unfold I2;rw [if_neg (by rw [ht6];simp),if_pos ht18]
  refine Z8 ?_;refine A7 Tryz.call182 (mo _ _) ?_;exact Z61
 refine Z8 ?_;refine Z73 ?_;refine A0 [3,4,30] ?_
 refine A1 (fun ht30=>?_) (fun ht30=>?_)
 ·have hm:I2 t v=Et (Cq v.s):=by unfold I2;rw [if_neg (by rw [ht6];simp),if_neg (by rw [ht18];simp),if_pos ht30]
  refine Z3 ?_;refine A7 Tryz.call186 (ob v.s (by omega) _) ?_;refine ej ?_;exact Z61
 have hm:I2 t v=Bu 10:=by unfold I2;rw [if_neg (by rw [ht6];simp),if_neg (by rw [ht18];simp),if_neg (by rw [ht30];simp)]
 refine Z18 ?_;refine Z91 ?_;exact Z43

theorem gr {vs:List Val} (h:0<vs.length):vs.getD 0 noV=vs[0]:=by rw [D9,A9 h];rfl
/-- As many values as a node asks for. -/
structure ArgsOk (o:Int) (vs:List Val):Prop where
 two:o=5→∃a b,vs=[a,b]
 one:o=3∨o=4→vs.length=1
 call:o=6→vs.length=1∨∃a b,vs=[a,b]
 fine:∀v∈vs,Fine v
theorem qi (e:Expr) (vs:List Val) (h:ArgsOk e.op vs) (Hp:List AObj):AFun Tryz.prog 149 [Af e,Aw vs] Hp (Md (Bm e.op e.text vs)):=by
 refine Ac [.cell 4 44,.tmp 5] [0,1] Tryz.func149 Tryz.ntmps149 (fun d=>?_)
 refine Z0 ?_;refine Zz ?_;refine A0 [1,2,4] ?_;refine Z22 ?_;refine Z31 ?_;refine A0 [1,2,4,6] ?_
 refine A1 (fun ht6=>?_) (fun ht6=>?_)
 ·obtain ⟨a,b,rfl⟩:=h.two (by simpa using ht6)
  have hm:Bm e.op e.text [a,b]=K8 e.text a b:=if_pos ht6
  refine Z8 ?_;refine A7 Tryz.call159 (qf e.text a b (h.fine a (by simp)) (h.fine b (by simp)) _) ?_;refine Z1 ?_;exact Z61
 refine Z31 ?_;refine Bk ?_;refine G.buildSl jU jS jZ ?_
 refine Br Tryz.call160 (C:=((e.op==3)==true)) (fun hB=>db vs [1] (by have:=h.one (.inl (by simpa using hB));simp [this]) (by simp) _) ?_
 refine Z1 ?_;refine A0 [1,2,4,16] ?_
 refine A1 (fun ht16=>?_) (fun ht16=>?_)
 ·have hm0:((e.op==3)&&D7 vs [1])=true:=ht16
  have hop:e.op=3:=by simp only [Ah,beq_iff_eq] at hm0;exact hm0.1
  have hln:=h.one (.inl hop)
  have hg0:(vs.map Av)[0]? = some (Av (vs.getD 0 noV)):=by rw [gr (by omega)];exact As (by omega)
  have hm:Bm e.op e.text vs=Et (My 0 (vs.getD 0 noV).n):=by unfold Bm;rw [if_neg (by rw [ht6];simp),if_pos ht16]
  refine Z0 ?_
  refine A2 (h:=Ab (0) (Av (vs.getD 0 noV)) (fun _=>hg0)) (hr:=?_)
  refine Z1 ?_;refine A7 Tryz.call162 (pu _ _) ?_;refine ej ?_;exact Z61
 refine Z31 ?_;refine Bk ?_;refine G.buildSl jU jS jZ ?_
 refine Br Tryz.call160 (C:=((e.op==4)==true)) (fun hB=>db vs [3] (by have:=h.one (.inr (by simpa using hB));simp [this]) (by simp) _) ?_
 refine Z1 ?_;refine A0 [1,2,4,35] ?_
 refine A1 (fun ht35=>?_) (fun ht35=>?_)
 ·have hm0:((e.op==4)&&D7 vs [3])=true:=ht35
  have hop:e.op=4:=by simp only [Ah,beq_iff_eq] at hm0;exact hm0.1
  have hln:=h.one (.inr hop)
  have hg0:(vs.map Av)[0]? = some (Av (vs.getD 0 noV)):=by rw [gr (by omega)];exact As (by omega)
  have hm:Bm e.op e.text vs=(Ej ((vs.getD 0 noV).n==0),0):=by unfold Bm;rw [if_neg (by rw [ht6];simp),if_neg (by rw [ht16];simp),if_pos ht35]
  refine Z0 ?_
  refine A2 (h:=Ab (0) (Av (vs.getD 0 noV)) (fun _=>hg0)) (hr:=?_)
  refine Z37 ?_;refine A7 Tryz.call129 (Y0 _ _) ?_;exact Z61
 refine Z31 ?_;refine A0 [1,2,4,50] ?_
 refine A1 (fun ht50=>?_) (fun ht50=>?_)
 ·have hm:Bm e.op e.text vs=Bu 10:=by unfold Bm;rw [if_neg (by rw [ht6];simp),if_neg (by rw [ht16];simp),if_neg (by rw [ht35];simp),if_pos ht50]
  refine Z91 ?_;exact Z61
 have hop:e.op=6:=by simpa using ht50
 have hcl:=h.call hop
 refine Z31 ?_;refine A0 [1,2,4,57] ?_
 refine A1 (fun ht57=>?_) (fun ht57=>?_)
 ·rw [Ap] at ht57
  have hln:vs.length=1:=by have:=ht57;simp only [beq_iff_eq] at this;omega
  have hg0:(vs.map Av)[0]? = some (Av (vs.getD 0 noV)):=by rw [gr (by omega)];exact As (by omega)
  have hf0:Fine (vs.getD 0 noV):=by rw [gr (by omega)];exact h.fine _ (Bc _)
  have hm:Bm e.op e.text vs=I2 e.text (vs.getD 0 noV):=by unfold Bm;rw [if_neg (by rw [ht6];simp),if_neg (by rw [ht16];simp),if_neg (by rw [ht35];simp),if_neg (by rw [ht50];simp),if_pos ht57]
  refine Cm [0,1,0,4,12,31,63,63,255,511] 8 Aq (by kernel_rfl) ?_;refine Z52 ?_
  refine Ak (h:=Ab (0) (Av (vs.getD 0 noV)) (fun _=>hg0)) (hr:=?_)
  refine Ak ?_;refine Cl Tryz.call163 (qh _ _ hf0 _) ?_;refine Z63 ?_;exact Z61
 rw [Ap] at ht57
 obtain ⟨a,b,rfl⟩:∃a b,vs=[a,b]:=by
  rcases hcl with h1|h1
  ·exfalso
   have:=ht57
   rw [h1] at this
   simp at this
  exact h1
 refine Z0 ?_;refine Ns jU jS jZ ?_;refine A7 Tryz.call160 (db [a,b] [2,1] (by simp) (by simp) _) ?_;refine Z1 ?_;refine A0 [1,2,4,69] ?_
 refine A1 (fun ht69=>?_) (fun ht69=>?_)
 ·have hm:Bm e.op e.text [a,b]=Bu 10:=by unfold Bm;rw [if_neg (by rw [ht6];simp),if_neg (by rw [ht16];simp),if_neg (by rw [ht35];simp),if_neg (by rw [ht50];simp),if_neg (by rw [ht57];simp),if_pos ht69]
  refine Z91 ?_;exact Z61
 have hm:Bm e.op e.text [a,b]=(J1 e.text a.s b.n,0):=by unfold Bm;rw [if_neg (by rw [ht6];simp),if_neg (by rw [ht16];simp),if_neg (by rw [ht35];simp),if_neg (by rw [ht50];simp),if_neg (by rw [ht57];simp),if_neg (by rw [ht69];simp)];rfl
 refine Z18 ?_;refine Cm [0,1,0,4,12,28,0,64,192,448,1023,2047,4095] 10 Aq (by kernel_rfl) ?_;refine Z52 ?_
 refine Ak (h:=Ab (0) (Av a) (fun _=>show ([Av a,Av b]:List AV)[0]? = some (Av a) from rfl)) (hr:=?_)
 refine Z52 ?_
 refine Ak (h:=Ab (1) (Av b) (fun _=>show ([Av a,Av b]:List AV)[1]? = some (Av b) from rfl)) (hr:=?_)
 refine Z63 ?_
 refine A7 Tryz.call164 (qg e.text a.s b.n (by have:=(h.fine a (by simp)).len;omega) _) ?_
 exact Z43

theorem Jh (a b:Val):((a.kind==b.kind&&a.n==b.n)&&a.s==b.s)=(a==b):=by
 obtain ⟨k,n,s⟩:=a
 obtain ⟨k',n',s'⟩:=b
 by_cases h:(⟨k,n,s⟩:Val)=⟨k',n',s'⟩
 ·injection h with h1 h2 h3
  subst h1;subst h2;subst h3
  simp
 have:((⟨k,n,s⟩:Val)==⟨k',n',s'⟩)=false:=by simpa using h
 rw [this]
 simp only [Za,beq_eq_false_iff_ne]
 by_cases h1:k=k'
 ·by_cases h2:n=n'
  ·right
   rintro rfl
   exact h (by rw [h1,h2])
  exact .inl (.inr h2)
 exact .inl (.inl h1)
/-- What eval answers for a tree, over any heap. -/
abbrev Fg (c:List Col) (l:List Val) (e:Expr) (r:Rs):Prop:=∀Hp,AFun Tryz.prog 105 [P4 c l,Af e] Hp (Md r)
theorem nk (c:List Col) (l:List Val) (x:Expr) (r:Rs) (h:Fg c l x r) (Hp:List AObj):AFun Tryz.prog 148 [P4 c l,Af x] Hp (Md (Aj r)):=by
 refine Ac [.cell 4 44,.tmp 5] [0,1] Tryz.func148 Tryz.ntmps148 (fun d=>?_)
 refine Z3 ?_;refine en ?_;refine Z3 ?_;refine A7 Tryz.call105 (h _) ?_;refine Uo ?_;refine A0 [4,6,7] ?_;refine Z25 ?_;refine Z73 ?_;refine Z11 ?_;refine Z86 ?_;refine A0 [4,6,7,25] ?_
 refine A1 (fun ht25=>?_) (fun ht25=>?_)
 ·have hm:Aj r=Bu 10:=if_pos ht25
  refine Z91 ?_;exact Xm
 have hm:Aj r=r:=if_neg (by rw [ht25];simp)
 refine Pd ?_;exact Z43

theorem nl (c:List Col) (l:List Val) (x k0 k1:Expr) (s:Val) (ra rb:Rs) (h0:(x.kids.map Af)[0]? = some (Af k0)) (h1:(x.kids.map Af)[1]? = some (Af k1)) (ha:Fg c l k0 ra) (hb:Fg c l k1 rb) (Hp:List AObj):AFun Tryz.prog 128 [P4 c l,Af x,Av s] Hp (Md (F8 s ra rb)):=by
 refine Ac [.cell 6 44,.tmp 7] [0,1,2] Tryz.func128 Tryz.ntmps128 (fun d=>?_)
 refine Z8 ?_;refine Zz ?_;refine A0 [3,4,5,6] ?_;refine Ln [0,0,2,6,14,31,63,127,127,0,767,2047] [9,10] [.q 9 [] [],.s [8] (some 0) [] [1],.s [] (some 1) [0] []] (fun _=>Hp) (fun B=>if B 0=true then [.cells 44 [A3 0,A3 0,Am []],(if B 1=true then .cells 44 [A3 (Aj ra).1.kind,A3 (Aj ra).1.n,Am (Aj ra).1.s] else .cells 44 [A3 0,A3 0,Am []]:AObj)] else [.cells 44 [A3 0,A3 0,Am []]]) Aq (by kernel_rfl) rfl rfl (fun _=>rfl) ?_
 apply Y.q
 ·intro B hT hF
  refine Z52 ?_
  refine Ak (h:=Ab (0) (Af k0) (fun _=>h0)) (hr:=?_)
  refine Ak ?_;exact lm
 case hTF=>decide
 refine Z46 ?_;refine kw ?_;refine A0 [3,4,5,6,8,9] ?_;refine Z25 ?_;refine Z11 ?_
 refine Bk (h:=Nq Sj (fun w=>Gf (Aj ra).1.kind (Aj ra).1.n s.kind s.n (Aj ra).1.s s.s w)) (hr:=?_)
 refine A2 ?_;refine A0 [3,4,5,6,8,9,26] ?_
 refine A1 (fun ht26=>?_) (fun ht26=>?_)
 ·rw [Jh] at ht26
  have hm:F8 s ra rb=Aj ra:=if_pos ht26
  refine Z3 ?_;refine Z81 ?_;exact Z24
 rw [Jh] at ht26
 refine Z9 ?_;refine Ln [0,0,2,6,14,31,63,127,127,0,767,2047] [9,10] [.q 9 [] [],.s [10] (some 0) [] [1],.s [] (some 1) [0] []] (fun _=>Hp) (fun B=>if B 0=true then [.cells 44 [A3 0,A3 0,Am []],.cells 44 [A3 (Aj ra).1.kind,A3 (Aj ra).1.n,Am (Aj ra).1.s],(if B 1=true then .cells 44 [A3 (Aj rb).1.kind,A3 (Aj rb).1.n,Am (Aj rb).1.s] else .cells 44 [A3 0,A3 0,Am []]:AObj)] else [.cells 44 [A3 0,A3 0,Am []],.cells 44 [A3 (Aj ra).1.kind,A3 (Aj ra).1.n,Am (Aj ra).1.s]]) Aq (by kernel_rfl) rfl rfl (fun _=>rfl) ?_
 apply Y.q
 ·intro B hT hF
  refine Z52 ?_
  refine Ak (h:=Ab (1) (Af k1) (fun _=>h1)) (hr:=?_)
  refine Ak ?_;refine Cl Tryz.call148 (nk c l k1 rb hb _) ?_;exact ee
 case hTF=>decide
 refine Y.alloc (zs:=[A3 0,A3 0,Am []]) (n:=2) (u:=Hp.length) Tryz.zeroValue44 (fun B hT hF hB=>⟨rfl,by simp [hB],by simp [upd,hB,hF 1 (by simp)],rfl⟩) ?_;refine Y.storeOwnT (u:=Hp.length) (n:=2) (t':=44) (cs:=[A3 0,A3 0,Am []]) (cs':=[A3 (Aj rb).1.kind,A3 (Aj rb).1.n,Am (Aj rb).1.s]) Tryz.sizeOf44 (fun B hT hF hB=>⟨rfl,by simp [hT 0 (by simp),hB],by simp [upd,hT 0 (by simp),hB],rfl⟩) ?_;refine Y.tail (tn:=[9,10]) (O:=[.cells 44 [A3 0,A3 0,Am []],.cells 44 [A3 (Aj ra).1.kind,A3 (Aj ra).1.n,Am (Aj ra).1.s],.cells 44 [A3 (Aj rb).1.kind,A3 (Aj rb).1.n,Am (Aj rb).1.s]]) ?_;refine A2 ?_;refine A0 [5,6,8,9,10] ?_;refine Z25 ?_;refine Z11 ?_
 refine Bk (h:=Nq Sj (fun w=>Gf (Aj rb).1.kind (Aj rb).1.n s.kind s.n (Aj rb).1.s s.s w)) (hr:=?_)
 refine Nv ?_;refine Z86 ?_;refine A0 [6,8,9,10,49] ?_
 refine A1 (fun ht49=>?_) (fun ht49=>?_)
 ·rw [Jh] at ht49
  have hm:F8 s ra rb=Aj rb:=by unfold F8;rw [if_neg (by rw [ht26];simp),if_pos ht49]
  refine Z3 ?_;refine Z81 ?_;exact Z24
 rw [Jh] at ht49
 have hm:F8 s ra rb=((Aj ra).1,0):=by unfold F8;rw [if_neg (by rw [ht26];simp),if_neg (by rw [ht49];simp)]
 refine Pa ?_;exact l5

theorem qj (c:List Col) (l:List Val) (x k0 k1 k2:Expr) (ra rb d2:Rs) (h0:(x.kids.map Af)[0]? = some (Af k0)) (h1:(x.text==Bi)=false→(x.kids.map Af)[1]? = some (Af k1)) (h2:(x.text==ifW)=true→(x.kids.map Af)[2]? = some (Af k2)) (ha:Fg c l k0 ra) (hb:(x.text==Bi)=false→Fg c l k1 rb) (hd:(x.text==ifW)=true→Fg c l k2 d2) (Hp:List AObj):AFun Tryz.prog 130 [P4 c l,Af x] Hp (Md (Dk x.text ra rb d2)):=by
 refine Ac [.cell 4 44,.tmp 5] [0,1] Tryz.func130 Tryz.ntmps130 (fun d=>?_)
 refine Z3 ?_;refine en ?_;refine Z25 ?_;refine A0 [2,3,4,12] ?_
 refine A1 (fun ht12=>?_) (fun ht12=>?_)
 ·have hni:(x.text==Bi)=false:=by
   have e:x.text=ifW:=by simpa [ifW] using ht12
   rw [e];rfl
  have hc:Dk x.text ra rb d2=(if (Aj ra).2 != 0 then Bu (Aj ra).2 else if (Aj ra).1==Ej true then rb else d2):=if_pos ht12
  refine Ln [0,0,2,6,14,31,63,127,127,0,767,2047] [9,10] [.q 9 [] [],.s [6] (some 0) [] [1],.s [] (some 1) [0] []] (fun _=>Hp) (fun B=>if B 0=true then [.cells 44 [A3 0,A3 0,Am []],(if B 1=true then .cells 44 [A3 (Aj ra).1.kind,A3 (Aj ra).1.n,Am (Aj ra).1.s] else .cells 44 [A3 0,A3 0,Am []]:AObj)] else [.cells 44 [A3 0,A3 0,Am []]]) Aq (by kernel_rfl) rfl rfl (fun _=>rfl) ?_
  apply Y.q
  ·intro B hT hF
   refine Z52 ?_
   refine Ak (h:=Ab (0) (Af k0) (fun _=>h0)) (hr:=?_)
   refine Ak ?_;exact lm
  case hTF=>decide
  refine Z46 ?_;refine kw ?_;refine A0 [2,3,4,6,7] ?_;refine Z98 ?_;refine A0 [2,3,4,6,7,22] ?_
  refine A1 (fun ht22=>?_) (fun ht22=>?_)
  ·have hm:Dk x.text ra rb d2=Bu (Aj ra).2:=by rw [hc,if_pos ht22]
   refine Z0 ?_;refine Z35 ?_;refine Z33 ?_;refine Z5 ?_;exact Z24
  refine Cm [0,0,3,7] 2 Aq (by kernel_rfl) ?_;refine Ak ?_;refine Cl Tryz.call129 (Y0 true _) ?_;refine F6 ?_
  refine A2 (h:=Nq Sj (fun w=>Gf (Aj ra).1.kind (Aj ra).1.n 3 1 (Aj ra).1.s [] w)) (hr:=?_)
  refine A2 ?_;refine A0 [2,3,4,29] ?_
  refine A1 (fun ht29=>?_) (fun ht29=>?_)
  ·rw [Jh (Aj ra).1 ⟨3,1,[]⟩] at ht29
   have ht29b:((Aj ra).1==Ej true)=true:=ht29
   have hm:Dk x.text ra rb d2=rb:=by rw [hc,if_neg (by rw [ht22];simp),if_pos ht29b]
   refine Z94 ?_
   refine Ak (h:=Ab (1) (Af k1) (fun _=>h1 hni)) (hr:=?_)
   refine Ak ?_;refine Cl Tryz.call105 (hb hni _) ?_;refine Z63 ?_;refine Z33 ?_;refine Z5 ?_;exact Z24
  rw [Jh (Aj ra).1 ⟨3,1,[]⟩] at ht29
  have hm:Dk x.text ra rb d2=d2:=by rw [hc,if_neg (by rw [ht22];simp),if_neg (by show ¬((Aj ra).1==⟨3,1,[]⟩)=true;rw [ht29];simp)]
  refine Z18 ?_;refine Z94 ?_
  refine Ak (h:=Ab (2) (Af k2) (fun _=>h2 ht12)) (hr:=?_)
  refine Ak ?_;refine Cl Tryz.call105 (hd ht12 _) ?_;refine Z63 ?_;exact Xm
 have hc:Dk x.text ra rb d2=(if ra.2 != 0 then Bu ra.2 else if x.text==Bi then (Ej (ra.1.kind==0),0) else if ra.1.kind != 0 then (ra.1,0) else rb):=if_neg (by show ¬(x.text==ifW)=true;rw [show (x.text==ifW)=false from ht12];simp)
 refine Z9 ?_;refine Ln [0,0,2,6,14,31,63,127,127,0,767,2047] [9,10] [.q 9 [] [],.s [8] (some 0) [] [1],.s [] (some 1) [0] []] (fun _=>Hp) (fun B=>if B 0=true then [.cells 44 [A3 0,A3 0,Am []],(if B 1=true then .cells 44 [A3 ra.1.kind,A3 ra.1.n,Am ra.1.s] else .cells 44 [A3 0,A3 0,Am []]:AObj)] else [.cells 44 [A3 0,A3 0,Am []]]) Aq (by kernel_rfl) rfl rfl (fun _=>rfl) ?_
 apply Y.q
 ·intro B hT hF
  refine Z52 ?_
  refine Ak (h:=Ab (0) (Af k0) (fun _=>h0)) (hr:=?_)
  refine Ak ?_;refine Cl Tryz.call105 (ha _) ?_;exact ee
 case hTF=>decide
 refine mc ?_;refine Y.storeOwnT (u:=Hp.length) (n:=1) (t':=44) (cs:=[A3 0,A3 0,Am []]) (cs':=[A3 ra.1.kind,A3 ra.1.n,Am ra.1.s]) Tryz.sizeOf44 (fun B hT hF hB=>⟨rfl,by simp [hT 0 (by simp),hB],by simp [upd,hT 0 (by simp),hB],rfl⟩) ?_;refine Y.tail (tn:=[9,10]) (O:=[.cells 44 [A3 0,A3 0,Am []],.cells 44 [A3 ra.1.kind,A3 ra.1.n,Am ra.1.s]]) ?_;refine A2 ?_;refine A0 [2,3,4,8,9] ?_;refine Z98 ?_;refine A0 [2,3,4,8,9,58] ?_
 refine A1 (fun ht58=>?_) (fun ht58=>?_)
 ·have hm:Dk x.text ra rb d2=Bu ra.2:=by rw [hc,if_pos ht58]
  refine Z0 ?_;refine Z35 ?_;exact Z61
 refine Z31 ?_;refine A0 [2,3,4,8,65] ?_
 refine A1 (fun ht65=>?_) (fun ht65=>?_)
 ·have hm:Dk x.text ra rb d2=(Ej (ra.1.kind==0),0):=by rw [hc,if_neg (by rw [ht58];simp),if_pos (show (x.text==Bi)=true from ht65)]
  refine Z8 ?_;refine A7 Tryz.call129 (Y0 _ _) ?_;exact Z61
 refine Z31 ?_;refine A0 [2,3,4,8,73] ?_
 refine A1 (fun ht73=>?_) (fun ht73=>?_)
 ·have hm:Dk x.text ra rb d2=(ra.1,0):=by rw [hc,if_neg (by rw [ht58];simp),if_neg (by show ¬(x.text==Bi)=true;rw [show (x.text==Bi)=false from ht65];simp),if_pos ht73]
  refine Z0 ?_;exact Z61
 have hm:Dk x.text ra rb d2=rb:=by rw [hc,if_neg (by rw [ht58];simp),if_neg (by show ¬(x.text==Bi)=true;rw [show (x.text==Bi)=false from ht65];simp),if_neg (by rw [ht73];simp)]
 refine Z18 ?_;refine Z94 ?_
 refine Ak (h:=Ab (1) (Af k1) (fun _=>h1 ht65)) (hr:=?_)
 refine Ak ?_;refine Cl Tryz.call105 (hb ht65 _) ?_;refine Z63 ?_;exact Z43

/-- The first fault of those that were asked. -/
structure AllAt (f:Expr→Rs) (k:List Expr) (x:Nat):Prop where
 le:x≤k.length
 ok:∀(j:Nat) (y:Expr),j<x→k[j]? = some y→((f y).2 != 0)=false
theorem AllAt.bad {f:Expr→Rs} {k:List Expr} {x:Nat} (h:AllAt f k x) (hx:x<k.length) (hb:((f k[x]).2 != 0)=true) (g:List Val→Rs):Ow g (k.map f)=Bu (f k[x]).2:=by
 unfold Ow
 have:(k.map f).find? (fun q=>q.2 != 0)=some ((k.map f)[x]'(by simpa using hx)):=Rd (by simpa using hx) (by simpa using hb) (fun j y hj hy=>by
  rw [Cc,Cv] at hy
  obtain ⟨z,hz,rfl⟩:=hy
  exact h.ok j z hj hz)
 rw [this]
 simp
theorem AllAt.all {f:Expr→Rs} {k:List Expr} {x:Nat} (h:AllAt f k x) (hx:k.length≤x) (g:List Val→Rs):Ow g (k.map f)=if (k.take x).any (fun y=>(f y).1.kind==0) then (noV,0) else g ((k.take x).map fun y=>(f y).1):=by
 unfold Ow
 have:(k.map f).find? (fun q=>q.2 != 0)=none:=Lt (fun j y hy=>by
  rw [Cc,Cv] at hy
  obtain ⟨z,hz,rfl⟩:=hy
  exact h.ok j z (by have:=(A8.1 hz).1;omega) hz)
 rw [this,Ev hx]
 simp only [List.any_map,Lh]
 rfl
theorem AllAt.next {f:Expr→Rs} {k:List Expr} {x:Nat} (h:AllAt f k x) (hx:x<k.length) (hb:((f k[x]).2 != 0)=false):AllAt f k (x+1):=⟨hx,Ce hx h.ok hb⟩
theorem dg (f:Expr→Bool) (k:List Expr) {x:Nat} (h:x<k.length):(k.take (x+1)).any f=((k.take x).any f || f k[x]):=by rw [G7 h,List.any_append];simp
theorem Yq (f:Expr→Val) (l:List Expr) {x:Nat} (h:x<l.length):((l.take x).map f).map Av++[Av (f l[x])]=((l.take (x+1)).map f).map Av:=by rw [G7 h,Cu,Cu];rfl
theorem Tm {n k:Nat} {own:Bool} {l:List Val}:Low n (.slice own k (l.map Av)):=low_slice.2 fun y hy=>by
 obtain ⟨z,_,rfl⟩:=Ca.1 hy
 simp [or_imp,forall_and]
theorem ql (c:List Col) (l:List Val) (e:Expr) (hk:e.kids.length≤1048576) (hev:∀y∈e.kids,Fg c l y (C1 c l y)) (hargs:((∀y∈e.kids,(C1 c l y).2=0)→ArgsOk e.op (e.kids.map fun y=>(C1 c l y).1))) (Hp:List AObj):AFun Tryz.prog 131 [P4 c l,Af e] Hp (Md (Ow (Bm e.op e.text) (e.kids.map (C1 c l)))):=by
 refine Ac [.cell 4 44,.tmp 5] [0,1] Tryz.func131 Tryz.ntmps131 (fun d=>?_)
 refine Z3 ?_;refine en ?_;refine Z0 ?_;refine A0 [2,3,4,6] ?_;refine Ds ?_;refine Jy 6 3 ?_;refine A2 ?_;refine A0 [2,3,4,6,7] ?_;refine Z93 ?_;refine A0 [2,3,4,6,7,13,14,15] ?_
 refine Bz (α:=Nat) (fun x=>⟨49,A6 2 (.ro [Ad c,Aw l]) (A6 3 (.ro (Sr e)) (A6 4 (.ptr (oid Hp.length 0) 0) (A6 6 (.slice true 3 (((e.kids.take x).map fun y=>(C1 c l y).1).map Av)) (A6 7 (Ag ((e.kids.take x).any fun y=>(C1 c l y).1.kind==0)) (A6 13 (.slice false 6 (e.kids.map Af)) (A6 14 (A3 (e.kids.length:Nat)) (A6 15 (A3 (x:Nat)) (fun _=>.any)))))))),Hp,[.cells 44 [A3 0,A3 0,Am []]],[],none⟩) (fun x=>AllAt (C1 c l) e.kids x) (fun x=>e.kids.length-x) (0) ⟨Au _,fun j y h=>by omega⟩ (Bf (by simp)) rfl (fun x hx=>?_)
 refine Z0 ?_;refine A0 [2,3,4,6,7,13,14,15,16] ?_
 refine C5 (fun ht16=>?_) (fun ht16=>?_)
 ·have hlt:x<e.kids.length:=by simpa using ht16
  refine Z65 ?_
  refine A2 (h:=Ab (x) (Af e.kids[x]) (fun _=>As hlt)) (hr:=?_)
  refine Z57 ?_;refine A0 [2,3,4,6,7,9,13,14,15] ?_;refine Z3 ?_;refine A7 Tryz.call105 (hev _ (Bc hlt) _) ?_;refine Uo ?_;refine A0 [2,3,4,6,7,10,11,13,14,15] ?_;refine Z28 ?_;refine A0 [2,3,4,6,7,10,11,13,14,15,26] ?_
  refine A1 (fun ht26=>?_) (fun ht26=>?_)
  ·have hm:=hx.bad hlt ht26 (Bm e.op e.text)
   refine Z0 ?_;refine Z35 ?_;refine Z33 ?_;refine Bn ?_;refine Z32 ?_;exact Z24
  refine Pd ?_;refine Z73 ?_;refine A0 [2,3,4,6,7,10,13,14,15] ?_;refine Z90 ?_;refine Z62 ?_
  refine Dw jU Tryz.type44 ?_ ?_ ?_
  ·simp only [Ap,Cy,Bj,Ct,Tryz.t44];omega
  ·simp only [Ap,Cy,Bj,Ct,Tryz.t44];omega
  refine Gy ?_;refine A0 [2,3,4,6,7,13,14,15] ?_;refine Z78 ?_;refine A0 [2,3,4,6,7,13,14,15] ?_;refine B0 (x+1) (hx.next hlt ht26) (by omega) ?_
  simp only [show Tryz.t44.size=3 from rfl,dg _ _ hlt]
  have hvs:((e.kids.take x).map fun y=>(C1 c l y).1).map Av++[.agg [.v (.int .i64 (C1 c l e.kids[x]).1.kind),.v (.int .i64 (C1 c l e.kids[x]).1.n),.v (sv (C1 c l e.kids[x]).1.s)]]=((e.kids.take (x+1)).map fun y=>(C1 c l y).1).map Av:=Yq _ _ hlt
  simp only [hvs]
  exact Bs (own:=[.cells 44 [A3 0,A3 0,Am []]]) (fun _=>.refl _) (by repeat (first|exact Ao|refine An (by first|exact Jg|exact Tm|exact Wk|(simp [or_imp,forall_and,oid]<;>omega)) ?_)) (by intro y hy;rw [Ay.1 hy];intro z hz;simp only [Cd,N1,or_false] at hz;rcases hz with rfl|rfl|rfl<;>simp) (by simp)
 have hxe:e.kids.length≤x:=by simpa using ht16
 have ha:=hx.all hxe (Bm e.op e.text)
 have htk:e.kids.take x=e.kids:=Ev hxe
 have h00:∀y∈e.kids,(C1 c l y).2=0:=fun y hy=>by
  obtain ⟨j,hj⟩:=C3 hy
  have:=hx.ok j y (by have:=(A8.1 hj).1;omega) hj
  simpa using this
 have hao:=hargs h00
 rw [←htk] at hao
 refine Z29 ?_;refine Z40 ?_;refine A0 [3,4,6,42] ?_
 refine A1 (fun ht42=>?_) (fun ht42=>?_)
 ·have hm:Ow (Bm e.op e.text) (e.kids.map (C1 c l))=(noV,0):=by rw [ha,if_pos ht42]
  refine Ds ?_;refine A7 Tryz.call66 (c66 _) ?_;exact Xm
 have hm:Ow (Bm e.op e.text) (e.kids.map (C1 c l))=Bm e.op e.text ((e.kids.take x).map fun y=>(C1 c l y).1):=by rw [ha,if_neg (by rw [ht42];simp)]
 refine Pd ?_;refine A7 Tryz.call149 (qi e _ hao _) ?_;refine Z1 ?_;exact Z43

theorem Qh {e:Expr} (h:D5 e=true):(e.op=5→e.kids.length=2)∧(e.op=3∨e.op=4→e.kids.length=1)∧(e.op=6→Be e.text=(e.kids.length:Int))∧(e.op=1∨e.op=2∨e.op=3∨e.op=4∨e.op=5∨e.op=6):=by
 cases Om h with
 | val v hp h0=>simp [bv,Expr.op]
 | name t ht=>simp [Du,Expr.op]
 | neg a=>simp [Y7,Expr.op,Expr.kids]
 | no a=>simp [Y7,Expr.op,Expr.kids]
 | bin t a b ht=>simp [fq,Expr.op,Expr.kids]
 | call t k ht=>simpa [Expr.op,Expr.kids,Expr.text] using ht
theorem E2 {k:List Expr} {i:Nat} (h:i<k.length):(k.map Af)[i]? = some (Af (k.getD i Bb))∧k.getD i Bb∈k∧∀(f:Expr→Rs) (d:Rs),(k.map f).getD i d=f (k.getD i Bb):=by
 have e:k.getD i Bb=k[i]:=by rw [D9,A9 h];rfl
 rw [e]
 refine ⟨by simp [h],Bc h,fun f d=>?_⟩
 rw [D9,Cc,A9 h]
 rfl
theorem Rw {c:List Col} {l:List Val} {e:Expr} (h1:(e.op==1)=false) (h2:(e.op==2)=false) (h3:((e.op==5)&&(e.text==orW))=false) (h4:((e.op==5)&&(e.text==gi))=false) (h5:((e.op==6)&&(((e.text==ifW) || (e.text==Rp)) || (e.text==Bi)))=false):C1 c l e=Ow (Bm e.op e.text) (e.kids.map (C1 c l)):=by
 rw [C1,Te]
 unfold Jn
 rw [h1,h2,h3,h4,h5]
 rfl
theorem gt {c:List Col} {l:List Val} (hf:∀v∈l,Fine v) {e:Expr} (hnd:D6 D5 e=true) (hrg:D6 H2 e=true) (hv:D6 H7 e=true) (h5:((e.op==6)&&(((e.text==ifW) || (e.text==Rp)) || (e.text==Bi)))=false):ArgsOk e.op (e.kids.map fun y=>(C1 c l y).1):=by
 rw [L0,Ah] at hnd hrg hv
 obtain ⟨k5,k34,k6,_⟩:=Qh hnd.1
 refine ⟨fun h=>?_,fun h=>by rw [Ap];exact k34 h,fun h=>?_,fun v hv'=>?_⟩
 ·obtain ⟨a,b,e⟩:=Rr (k5 h)
  rw [e]
  exact ⟨_,_,rfl⟩
 ·rw [Ap]
  rw [h] at h5
  simp only [beq_self_eq_true,Jq,D0,beq_eq_false_iff_ne] at h5
  rcases Vm (k6 h) with ⟨_,h⟩|⟨_,h⟩|⟨_,h⟩|⟨e,_⟩|⟨e,_⟩|⟨_,h⟩|⟨_,h⟩|⟨e,_⟩
  ·exact .inl h
  ·exact .inl h
  ·exact .inl h
  ·exact absurd e h5.2
  ·exact absurd e h5.1.2
  ·obtain ⟨a,b,e⟩:=Rr h
   rw [e]
   exact .inr ⟨_,_,rfl⟩
  ·obtain ⟨a,b,e⟩:=Rr h
   rw [e]
   exact .inr ⟨_,_,rfl⟩
  exact absurd e h5.1.1
 obtain ⟨y,hy,rfl⟩:=Ca.1 hv'
 exact Ma hf y ((Ee _ _).1 hv.2 y hy) ((Ee _ _).1 hrg.2 y hy)
theorem Mp (a b d:Rs):Dk Bi a b d=Dk Bi a (noV,0) (noV,0):=by
 unfold Dk
 rw [show (Bi==ifW)=false from rfl,show (Bi==Bi)=true from rfl]
 rfl
theorem Vs {t:Str} (h:(t==ifW)=false) (a b d d':Rs):Dk t a b d=Dk t a b d':=by
 unfold Dk
 rw [h]
 rfl
theorem Tn {t:Str} (h:(t==Bi)=true) (a b b' d d':Rs):Dk t a b d=Dk t a b' d':=by
 have e:t=Bi:=by simpa using h
 subst e
 rw [Mp,Mp a b' d']
theorem Yr {t:Str} {k:List Expr} {f:Expr→Rs} {a:Rs} (h1:(t==Bi)=false→1<k.length) (h2:(t==ifW)=true→2<k.length):Dk t a ((k.map f).getD 1 (noV,0)) ((k.map f).getD 2 (noV,0))=Dk t a (f (k.getD 1 Bb)) (f (k.getD 2 Bb)):=by
 cases hn:t==Bi with
 | true=>exact Tn hn _ _ _ _ _
 | false =>
  rw [(E2 (h1 hn)).2.2]
  cases hi:t==ifW with
  | true=>rw [(E2 (h2 hi)).2.2]
  | false=>exact Vs hi _ _ _ _
theorem qm (c:List Col) (l:List Val) (hc:OkCols c) (hl:l.length=c.length) (hf:∀v∈l,Fine v):∀(n:Nat) (e:Expr),okE n e→D6 D5 e=true→D6 H2 e=true→D6 H7 e=true→Fg c l e (C1 c l e):=by
 intro n
 induction n with
 | zero=>exact fun e h=>h.elim
 | succ n ih =>
 intro e hok hnd hrg hvo Hp
 have hnd0:=hnd
 have hrg0:=hrg
 have hvo0:=hvo
 rw [L0,Ah] at hnd0 hrg0 hvo0
 have hev:∀y∈e.kids,Fg c l y (C1 c l y):=fun y hy=>ih y (hok.2.2 y hy) ((Ee _ _).1 hnd0.2 y hy) ((Ee _ _).1 hrg0.2 y hy) ((Ee _ _).1 hvo0.2 y hy)
 obtain ⟨k5,k34,k6,_⟩:=Qh hnd0.1
 have hev0:C1 c l e=Jn Bm c l e.op e.text e.val (e.kids.map (C1 c l)):=Te _ _ _ _
 refine Ac [.cell 4 44,.tmp 5] [0,1] Tryz.func105 Tryz.ntmps105 (fun d=>?_)
 refine Z3 ?_;refine en ?_;refine Z22 ?_;refine Z31 ?_;refine A0 [2,3,4,7] ?_
 refine A1 (fun ht7=>?_) (fun ht7=>?_)
 ·have hm:C1 c l e=(e.val,0):=by rw [hev0];unfold Jn;rw [if_pos ht7]
  refine Z3 ?_;exact Z61
 refine Z31 ?_;refine A0 [2,3,4,13] ?_
 refine A1 (fun ht13=>?_) (fun ht13=>?_)
 ·have hm0:C1 c l e=Td c l e.text:=by rw [hev0];unfold Jn;rw [if_neg (by rw [ht7];simp),if_pos ht13]
  refine Z31 ?_;refine A7 Tryz.call71 (c71 c hc e.text _) ?_;refine A2 ?_;refine A0 [2,4,6] ?_;refine Z28 ?_;refine A0 [2,4,6,23] ?_
  refine A1 (fun ht23=>?_) (fun ht23=>?_)
  ·have hm:C1 c l e=Bu 9:=by rw [hm0];exact if_pos (by simpa using ht23)
   refine Z91 ?_;refine Z33 ?_;refine Bn ?_;exact Z15
  have hneg:¬(B7 e.text c<0):=by simpa using ht23
  obtain ⟨j,hj,hjc⟩:=Iy hneg
  have hjl:j<l.length:=by omega
  have hm:C1 c l e=(l[j],0):=by
   rw [hm0]
   unfold Td
   rw [if_neg hneg,hj,Int.toNat_natCast,D9,A9 hjl]
   rfl
  rw [hj]
  refine Pe ?_
  refine A2 (h:=Ab (j) (Av l[j]) (fun _=>As hjl)) (hr:=?_)
  refine A2 ?_;exact Z61
 refine Z31 ?_;refine Z73 ?_;refine A0 [2,3,4,32] ?_
 refine A1 (fun ht32=>?_) (fun ht32=>?_)
 ·have h32:((e.op==5)&&(e.text==orW))=true:=ht32
  have hop:e.op=5:=by simp only [Ah,beq_iff_eq] at h32;exact h32.1
  have hkl:=k5 hop
  have hm:C1 c l e=F8 (Ej true) (C1 c l (e.kids.getD 0 Bb)) (C1 c l (e.kids.getD 1 Bb)):=by rw [hev0];unfold Jn;rw [if_neg (by rw [ht7];simp),if_neg (by rw [ht13];simp),if_pos h32,(E2 (by omega)).2.2,(E2 (by omega)).2.2]
  refine m4 ?_;refine Cl Tryz.call129 (Y0 _ _) ?_;refine Cl Tryz.call128 (nl c l e (e.kids.getD 0 Bb) (e.kids.getD 1 Bb) (Ej true) _ _ (E2 (by omega)).1 (E2 (by omega)).1 (hev _ (E2 (by omega)).2.1) (hev _ (E2 (by omega)).2.1) _) ?_;refine Z63 ?_;exact Z61
 have h32:((e.op==5)&&(e.text==orW))=false:=ht32
 refine Z31 ?_;refine Z73 ?_;refine A0 [2,3,4,47] ?_
 refine A1 (fun ht47=>?_) (fun ht47=>?_)
 ·have h47:((e.op==5)&&(e.text==gi))=true:=ht47
  have hop:e.op=5:=by simp only [Ah,beq_iff_eq] at h47;exact h47.1
  have hkl:=k5 hop
  have hm:C1 c l e=F8 (Ej false) (C1 c l (e.kids.getD 0 Bb)) (C1 c l (e.kids.getD 1 Bb)):=by rw [hev0];unfold Jn;rw [if_neg (by rw [ht7];simp),if_neg (by rw [ht13];simp),if_neg (by rw [h32];simp),if_pos h47,(E2 (by omega)).2.2,(E2 (by omega)).2.2]
  refine m4 ?_;refine Cl Tryz.call129 (Y0 _ _) ?_;refine Cl Tryz.call128 (nl c l e (e.kids.getD 0 Bb) (e.kids.getD 1 Bb) (Ej false) _ _ (E2 (by omega)).1 (E2 (by omega)).1 (hev _ (E2 (by omega)).2.1) (hev _ (E2 (by omega)).2.1) _) ?_;refine Z63 ?_;exact Z61
 have h47:((e.op==5)&&(e.text==gi))=false:=ht47
 refine Z31 ?_;refine Z42 ?_;refine Z42 ?_;refine Z42 ?_;refine Z45 ?_;refine A0 [2,3,4,62] ?_
 refine A1 (fun ht62=>?_) (fun ht62=>?_)
 ·have h62:((e.op==6)&&(((e.text==ifW) || (e.text==Rp)) || (e.text==Bi)))=true:=ht62
  obtain ⟨hkl,hl1,hl2⟩:0<e.kids.length∧((e.text==Bi)=false→1<e.kids.length)∧((e.text==ifW)=true→2<e.kids.length):=by
   have h:=h62
   simp only [Ah,Dl,beq_iff_eq] at h
   have ha:=k6 h.1
   rcases h.2 with (h1|h1)|h1
   ·rw [h1] at ha ⊢
    have:e.kids.length=3:=by
     have:Be ifW=3:=by kernel_rfl
     omega
    exact ⟨by omega,fun _=>by omega,fun _=>by omega⟩
   ·rw [h1] at ha ⊢
    have:e.kids.length=2:=by
     have:Be Rp=2:=by kernel_rfl
     omega
    exact ⟨by omega,fun _=>by omega,fun h=>absurd h (by decide)⟩
   rw [h1] at ha ⊢
   have:e.kids.length=1:=by
    have:Be Bi=1:=by kernel_rfl
    omega
   exact ⟨by omega,fun h=>absurd h (by decide),fun h=>absurd h (by decide)⟩
  have hm:C1 c l e=Dk e.text (C1 c l (e.kids.getD 0 Bb)) (C1 c l (e.kids.getD 1 Bb)) (C1 c l (e.kids.getD 2 Bb)):=by
   rw [hev0]
   unfold Jn
   rw [if_neg (by rw [ht7];simp),if_neg (by rw [ht13];simp),if_neg (by rw [h32];simp),if_neg (by rw [h47];simp),if_pos h62,(E2 hkl).2.2]
   exact Yr hl1 hl2
  refine Z3 ?_;refine A7 Tryz.call130 (qj c l e (e.kids.getD 0 Bb) (e.kids.getD 1 Bb) (e.kids.getD 2 Bb) _ _ _ (E2 (by omega)).1 (fun h=>(E2 (hl1 h)).1) (fun h=>(E2 (hl2 h)).1) (hev _ (E2 (by omega)).2.1) (fun h=>hev _ (E2 (hl1 h)).2.1) (fun h=>hev _ (E2 (hl2 h)).2.1) _) ?_;refine Z1 ?_;exact Z61
 have h62:((e.op==6)&&(((e.text==ifW) || (e.text==Rp)) || (e.text==Bi)))=false:=ht62
 have hm:=Rw (c:=c) (l:=l) ht7 ht13 h32 h47 h62
 refine Z18 ?_;refine Z3 ?_;refine A7 Tryz.call131 (ql c l e hok.2.1 hev (fun _=>gt hf hnd hrg hvo h62) _) ?_;refine Z1 ?_;exact Z43

def Mq (l:List Val):Bool:=decide ((50:Int)<(l.length:Int)) || l.any fun v=>decide ((400:Int)<(v.s.length:Int))
theorem c8 (l:List Val) (Hp:List AObj):AFun Tryz.prog 8 [Aw l] Hp (Ag (Mq l)):=by
 refine Ac [.tmp 2] [0] Tryz.func8 Tryz.ntmps8 (fun d=>?_)
 refine Ut ?_;refine A0 [0,6] ?_
 refine A1 (fun ht6=>?_) (fun ht6=>?_)
 ·rw [Ap] at ht6
  have hm:Mq l=true:=by unfold Mq;rw [ht6];rfl
  exact ep
 rw [Ap] at ht6
 have hl50:l.length≤50:=by simp at ht6;omega
 refine Pc ?_;refine Mw ?_
 refine Bz (α:=Nat) (fun x=>⟨20,A6 0 (Aw l) (A6 3 (A3 (x:Nat)) (fun _=>.any)),Hp,[],[],none⟩) (fun x=>x≤l.length∧∀(j:Nat) (v:Val),j<x→l[j]? = some v→decide ((400:Int)<(v.s.length:Int))=false) (fun x=>l.length-x) (0) ⟨Au _,fun j v h=>by omega⟩ (Bf (by simp)) rfl (fun x hx=>?_)
 refine Z93 ?_;refine A0 [0,3,10] ?_
 refine A1 (fun ht10=>?_) (fun ht10=>?_)
 ·have hlt:x<l.length:=by simpa using ht10
  refine Z9 ?_;refine Xg ?_
  refine A2 (h:=Ab (x) (Av l[x]) (fun _=>As hlt)) (hr:=?_)
  refine Lp ?_;refine A0 [0,3,19] ?_
  refine A1 (fun ht19=>?_) (fun ht19=>?_)
  ·have hm:Mq l=true:=by unfold Mq;rw [Dl];exact .inr (Gl.2 ⟨l[x],Bc hlt,ht19⟩)
   refine Z51 ?_;exact Z79
  refine Z18 ?_;refine Xk ?_
  refine A2 (h:=Q.add64 (h1:=fun _=>by omega) (h2:=fun _=>by omega)) (hr:=?_)
  refine ag ?_;exact kz
 have hxe:l.length≤x:=by simpa using ht10
 have hm:Mq l=false:=by
  unfold Mq
  rw [ht6,Df,Fl]
  intro v hv
  obtain ⟨j,hj⟩:=C3 hv
  have:=hx.2 j v (by have:=(A8.1 hj).1;omega) hj
  rw [this]
  simp
 refine Pb ?_;exact j6

structure RowAt (c:List Col) (l:List Val) (x:Nat):Prop where
 le:x≤l.length
 ok:∀(i:Nat) (v:Val) (y:Col),i<x→l[i]? = some v→c[i]? = some y→Cn v=true∧(v.kind=0∨v.kind=y.kind)
theorem RowAt.next {c:List Col} {l:List Val} {x:Nat} (h:RowAt c l x) (hl:x<l.length) (hc:x<c.length) (hb:((!(Cn l[x])) || ((l[x].kind != 0)&&(l[x].kind != c[x].kind)))=false):RowAt c l (x+1):=⟨hl,fun i v y hi hv hy=>by
 rcases B3 i x with h'|h'
 ·exact h.ok i v y h' hv hy
 have e:i=x:=by omega
 subst e
 rw [A9 hl] at hv
 rw [A9 hc] at hy
 injection hv with hv
 injection hy with hy
 subst hv
 subst hy
 simp only [D0,Nd,Za,bne_eq_false_iff_eq] at hb
 exact ⟨hb.1,hb.2⟩⟩
theorem RowAt.bad {c:List Col} {l:List Val} {x:Nat} (hl:x<l.length) (hc:x<c.length) (hb:((!(Cn l[x])) || ((l[x].kind != 0)&&(l[x].kind != c[x].kind)))=true):H6 c l=false:=by
 cases h:H6 c l with
 | false=>rfl
 | true =>
  obtain ⟨h1,h2⟩:=(row_iff.1 h).2.2 x l[x] c[x] (A9 hl) (A9 hc)
  rw [h1] at hb
  simp only [Tw,Df,Ah,bne_iff_ne] at hb
  omega
theorem c34 (c:List Col) (hc:OkCols c) (l:List Val) (hll:l.length≤1048576) (Hp:List AObj):AFun Tryz.prog 34 [Ad c,Aw l] Hp (Ag (H6 c l)):=by
 refine Ac [.tmp 4] [0,1] Tryz.func34 Tryz.ntmps34 (fun d=>?_)
 refine Z41 ?_;refine Z40 ?_;refine A7 Tryz.call50 (c50 c hc _) ?_;refine Sg ?_;refine Z86 ?_;refine A0 [0,1,16] ?_
 refine A1 (fun ht16=>?_) (fun ht16=>?_)
 ·have hm:H6 c l=false:=by
   simp only [Ap,Dl,I8,bne_iff_ne,ne_eq] at ht16
   unfold H6
   rcases ht16 with h|h
   ·rw [h];rfl
   rw [show (l.length==c.length)=false by simpa using (show l.length≠c.length by omega)];simp
  exact Xl
 have hcl:Ky c=true∧l.length=c.length:=by
  simp only [Ap,D0,Nd,bne_eq_false_iff_eq] at ht16
  exact ⟨ht16.1,by omega⟩
 refine Uu ?_;refine A0 [0,17,18,19] ?_
 refine Bz (α:=Nat) (fun x=>⟨43,A6 0 (Ad c) (A6 17 (Aw l) (A6 18 (A3 (l.length:Nat)) (A6 19 (A3 (x:Nat)) (fun _=>.any)))),Hp,[],[],none⟩) (fun x=>RowAt c l x) (fun x=>l.length-x) (0) ⟨Au _,fun i v y h=>by omega⟩ (Bf (by simp)) rfl (fun x hx=>?_)
 refine Z0 ?_;refine A0 [0,17,18,19,20] ?_
 refine C5 (fun ht20=>?_) (fun ht20=>?_)
 ·have hlt:x<l.length:=by simpa using ht20
  have hlc:x<c.length:=by omega
  refine Nu ?_
  refine A2 (h:=Ab (x) (Av l[x]) (fun _=>As hlt)) (hr:=?_)
  refine Ur ?_;refine A0 [0,5,6,17,18,19] ?_;refine Cm [0,1,3,7,15,31,63,127,255,511,255,255,3327,7423,15615,32767,65535,131071] 15 Aq (by kernel_rfl) ?_;refine Ak ?_;refine Cl Tryz.call51 (c51 _ _) ?_;refine Z16 ?_;refine Z69 ?_;refine Z69 ?_;refine Z69 ?_;refine Z69 ?_
  refine H.go (h:=Ab (x) (Co c[x]) (fun _=>As hlc)) (hr:=?_)
  refine Z69 ?_;refine F6 ?_;refine Uq ?_;refine A0 [0,17,18,19,41] ?_
  refine A1 (fun ht41=>?_) (fun ht41=>?_)
  ·have hm:=RowAt.bad hlt hlc ht41
   refine Z54 ?_;exact Z79
  refine Z50 ?_;refine A0 [0,17,18,19] ?_;refine B0 (x+1) (hx.next hlt hlc ht41) (by omega) ?_
  exact Bs (own:=[]) (fun _=>.refl _) (by repeat (first|exact Ao|refine An (by first|exact Tm|exact low_cols|(simp [or_imp,forall_and];done)) ?_)) (by simp) (by simp)
 have hxe:l.length≤x:=by simpa using ht20
 have hm:H6 c l=true:=row_iff.2 ⟨by rw [←Kz];exact hcl.1,hcl.2,fun i v y hv hy=>hx.ok i v y (by have:=(A8.1 hv).1;omega) hv hy⟩
 refine Z29 ?_;exact Z85

theorem dh {e:Expr} (h:D5 e=true):H7 e=true:=by
 unfold H7
 cases Om h with
 | val v hp h0=>simpa [bv,Expr.op,Expr.val] using hp
 | name t ht=>rfl
 | neg a=>rfl
 | no a=>rfl
 | bin t a b ht=>rfl
 | call t k ht=>rfl
mutual
theorem Wr:∀e:Expr,D6 D5 e=true→D6 H7 e=true
 | .mk o t v k,h=>by
  rw [D6,Ah] at h ⊢
  exact ⟨dh h.1,To k h.2⟩
theorem To:∀k:List Expr,H0 D5 k=true→H0 H7 k=true
  | [],_=>rfl
  | e::r,h=>by
    rw [H0,Ah] at h ⊢
    exact ⟨Wr e h.1,To r h.2⟩
 end
theorem di {c:List Col} {l:List Val} (h:H6 c l=true) (hr:∀v∈l, -9223372036854775808≤v.n∧v.n≤9223372036854775807):∀v∈l,Fine v:=fun v hv=>by
 obtain ⟨i,hi⟩:=C3 hv
 obtain ⟨_,h2,h3⟩:=row_iff.1 h
 have hil:=(A8.1 hi).1
 exact ⟨(h3 i v _ hi (A9 (show i<c.length by omega))).1,(hr v hv).1,(hr v hv).2⟩
theorem c78 (n:Nat) (x:Expr) (hok:okE n x) (hn:n≤1048576) (hrg:D6 H2 x=true) (c:List Col) (hc:OkCols c) (l:List Val) (hll:l.length≤1048576) (hlr:∀v∈l, -9223372036854775808≤v.n∧v.n≤9223372036854775807) (Hp:List AObj):AFun Tryz.prog 78 [Af x,Ad c,Aw l] Hp (Md (Fa x c l)):=by
 refine Ac [.cell 6 44,.tmp 7] [0,1,2] Tryz.func78 Tryz.ntmps78 (fun d=>?_)
 refine Z0 ?_;refine Zz ?_;refine A0 [1,2,3,6] ?_;refine Z40 ?_;refine A7 Tryz.call76 (c76 n x hok hn _) ?_;refine Nv ?_;refine Br Tryz.call34 (fun hB=>c34 c hc l hll _) ?_;refine Z86 ?_;refine A0 [1,2,3,6,16] ?_
 refine A1 (fun ht16=>?_) (fun ht16=>?_)
 ·have hm:Fa x c l=Bu 1:=if_pos ht16
  refine Z91 ?_;refine Z81 ?_;exact Z24
 have hm:Fa x c l=C1 c l x:=if_neg (by rw [ht16];simp)
 have hrr:B1 x=true∧H6 c l=true:=by simpa using ht16
 obtain ⟨hr,hrow⟩:=hrr
 refine Pd ?_;refine Ju (places:=#[(0,1),(1,1)]) jU (fun w=>by simp) jZ ?_;refine A2 ?_;refine A7 Tryz.call105 (qm c l hc (row_iff.1 hrow).2.1 (di hrow hlr) n x hok (Iz hr) hrg (Wr x (Iz hr)) _) ?_;refine Z1 ?_;exact l5

theorem C7 {n k:Nat} {o:Bool} {l:List Val}:Low n (.slice o k (l.map Av)):=by simp [or_imp,forall_and]
theorem Fj {n k:Nat} {o:Bool} {l:List Val} {v:Val}:Low n (.slice o k (l.map Av++[Av v])):=by simp [or_imp,forall_and]
theorem j1 {l:List Val} {j:Nat} (h:j<l.length):(l.map Av)[j]? = some (Av (l.getD j noV)):=by
 rw [Cc,A9 h,D9,A9 h];rfl
theorem H9 {l:List Val} (h:∀v∈l,Fine v):∀v∈l, -9223372036854775808≤v.n∧v.n≤9223372036854775807:=fun v hv=>⟨(h v hv).lo,(h v hv).hi⟩
theorem Qi {c:List Col} {row:List Val}:∀{l:List Expr},(Ar c row l).1.length≤l.length
 | []=>Al _
 | x::r=>by
  rw [Ar]
  repeat' split
  ·exact Au _
  ·exact Au _
  have:=Qi (c:=c) (row:=row) (l:=r)
  simp only [Bj]
  omega
theorem Ws {take:List Str} {c:List Col} {row:List Val}:(F1 take c row).length≤c.length:=by
 unfold F1
 rw [Ap]
 refine Kl (Zi _ _) ?_
 rw [List.length_zip]
 omega
theorem gu {v:Str} {l:List Str} (h:0≤I4 v l):∃j:Nat,I4 v l=j∧j<l.length:=by
 unfold I4 at h ⊢
 cases hf:l.findIdx? (·==v) with
 | none=>rw [hf] at h;exact absurd h (by decide)
 | some i=>exact ⟨i,rfl,(Jr.1 hf).1⟩
theorem dj {nm:Str} {c:List Col} {y:Col} (h:y∈c) (hn:y.name=nm):∃j:Nat,B7 nm c=j∧j<c.length:=by
 unfold B7
 cases hf:c.findIdx? (fun y=>y.name==nm) with
 | none =>
  rw [Nf] at hf
  have:=hf y h
  rw [hn] at this
  simp at this
 | some i=>exact ⟨i,rfl,(Jr.1 hf).1⟩
/-- A column that is not taken is there behind the move. -/
theorem kg {c:List Col} {m:Mov} {y:Col} (ht:(Bh c m).2=0) (hy:y∈c) (hn:¬0≤I4 y.name m.take):∃j:Nat,B7 y.name (Bh c m).1=j∧j<(Bh c m).1.length:=by
 refine dj (y:=y) ?_ rfl
 rw [(Ti ht).1]
 refine Zj _ ?_
 unfold Ci
 rw [Qw]
 refine ⟨hy,?_⟩
 rw [←We,decide_eq_false hn]
 rfl
theorem c32 (a b:List Val) (ha:a.length≤1048576) (Hp:List AObj):AFun Tryz.prog 32 [Aw a,Aw b] Hp (Ag (decide (a=b))):=by
 refine Ac [.tmp 4] [0,1] Tryz.func32 Tryz.ntmps32 (fun d=>?_)
 refine ae ?_;refine Z1 ?_;refine A0 [0,1,10] ?_
 refine A1 (fun ht10=>?_) (fun ht10=>?_)
 ·refine Z54 ?_;exact l4
 refine Uu ?_;refine A0 [0,1,12,13] ?_
 refine Bz (α:=Nat) (fun x=>⟨26,A6 0 (Aw a) (A6 1 (Aw b) (A6 12 (A3 (a.length:Nat)) (A6 13 (A3 (x:Nat)) (fun _=>.any)))),Hp,[],[],none⟩) (fun x=>x≤a.length∧∀(j:Nat) (y:Val),j<x→a[j]? = some y→b[j]? = some y) (fun x=>a.length-x) (0) (by simp) (Bf (by simp)) rfl (fun x hx=>?_)
 refine Z0 ?_;refine A0 [0,1,12,13,14] ?_
 refine C5 (fun ht14=>?_) (fun ht14=>?_)
 ·have hlt:x<a.length:=by simpa using ht14
  have hlb:x<b.length:=by have:=aw ht10;omega
  refine Xg ?_;refine A0 [0,1,5,12,13] ?_;refine lw ?_
  refine Ak (h:=Ab (x) (Av a[x]) (fun _=>As hlt)) (hr:=?_)
  refine Z52 ?_
  refine Ak (h:=Ab (x) (Av b[x]) (fun _=>As hlb)) (hr:=?_)
  refine Ak ?_;refine F6 ?_
  refine A2 (h:=Q.neqAgg Sj (Gf a[x].kind a[x].n b[x].kind b[x].n a[x].s b[x].s)) (hr:=?_)
  refine A0 [0,1,12,13,24] ?_
  refine A1 (fun ht24=>?_) (fun ht24=>?_)
  ·rw [N7] at ht24
   refine Z54 ?_;refine Z53 ?_;exact A5 (Aa A4) ⟨by rw [mj hlt hlb (by simpa using ht24)],rfl⟩
  rw [N7] at ht24
  refine Z50 ?_;refine A0 [0,1,12,13] ?_
  exact B0 (x+1) ⟨hlt,Fw (p:=fun j y=>b[j]? = some y) hlt hx.2 (by rw [A9 hlb];simpa using (Eq.symm (by simpa using ht24):b[x]=a[x]))⟩ (by omega) (Dn rfl)
 have hxe:a.length≤x:=by simpa using ht14
 refine Z29 ?_;refine Z54 ?_;exact A5 (Aa A4) ⟨by rw [im (by simpa using ht10) (Gz hxe hx.2)],rfl⟩

theorem c20 (l:List Val) (hl:l.length≤1048576) (Hp:List AObj):AFun Tryz.prog 20 [Aw l] Hp (Aw l):=by
 refine Ac [.tmp 2] [0] Tryz.func20 Tryz.ntmps20 (fun d=>?_)
 refine Z49 ?_;refine Z40 ?_
 refine R.eqlNil jU (by kernel_rfl) (fun b hb=>?_)
 refine A0 [0,4] ?_
 refine A1 (fun ht4=>?_) (fun ht4=>?_)
 ·have hl0:l=[]:=by simpa using hb ht4
  subst hl0
  refine Z0 ?_;refine Lx 2 3 false ?_;refine Z4 ?_;exact ls
 refine Z9 ?_;refine Ds ?_;refine Pf ?_;refine A2 ?_
 refine Dw jU Tryz.type44 ?_ ?_ ?_
 ·simp [Tryz.t44];omega
 ·simp [Tryz.t44];omega
 refine Gy ?_;exact m3

theorem c52 (c:List Col) (hc:OkCols c) (row:List Val) (hf:∀v∈row,Fine v) (hrl:row.length≤1048576) (l:List Expr) (h:OkEs l) (Hp:List AObj):AFun Tryz.prog 52 [Gs l,Ad c,Aw row] Hp (.tup [Aw (Ar c row l).1,A3 (Ar c row l).2]):=by
 refine Ac [.tmp 6,.tmp 7] [0,1,2] Tryz.func52 Tryz.ntmps52 (fun d=>?_)
 refine Z3 ?_;refine A0 [0,1,2] ?_;refine Z0 ?_;refine A0 [0,1,2,8] ?_;refine Z59 ?_
 have hlen:=h.len
 refine Jy 8 3 ?_;refine Z37 ?_;refine A0 [1,2,8,13,14,15] ?_
 refine Bz (α:=Nat) (fun x=>⟨35,A6 1 (Ad c) (A6 2 (Aw row) (A6 8 (.slice true 3 (((l.take x).map fun e=>(Fa e c row).1).map Av)) (A6 13 (Gs l) (A6 14 (A3 (l.length:Nat)) (A6 15 (A3 (x:Nat)) (fun _=>.any)))))),Hp,[],[],none⟩) (fun x=>x≤l.length∧∀(j:Nat) (y:Expr),j<x→l[j]? = some y→((Fa y c row).2 != 0)=false) (fun x=>l.length-x) (0) ⟨Au _,fun j y h=>by omega⟩ (Bf (by simp)) rfl (fun x hx=>?_)
 refine Z0 ?_;refine A0 [1,2,8,13,14,15,16] ?_
 refine C5 (fun ht16=>?_) (fun ht16=>?_)
 ·have hlt:x<l.length:=by simpa using ht16
  refine Z65 ?_
  refine A2 (h:=Ab (x) (Af l[x]) (fun _=>As hlt)) (hr:=?_)
  refine Z57 ?_;refine A0 [1,2,8,10,13,14,15] ?_;refine Z8 ?_;refine A7 Tryz.call78 (c78 61 l[x] (h.ok _ (Bc hlt)) (by decide) (h.rng _ (Bc hlt)) c hc row hrl (H9 hf) _) ?_;refine Uo ?_;refine A0 [1,2,8,11,12,13,14,15] ?_;refine Z28 ?_;refine A0 [1,2,8,11,12,13,14,15,27] ?_
  refine A1 (fun ht27=>?_) (fun ht27=>?_)
  ·have hm:=P2 hx.2 (A9 hlt) ht27
   refine Z3 ?_;refine Z88 ?_;refine Bn ?_;refine Z32 ?_;exact Z38
  refine Z9 ?_;refine Z90 ?_;refine Z62 ?_
  refine Dw jU Tryz.type44 ?_ ?_ ?_
  ·simp only [Ap,Cy,Ai,Bj,Ct,Tryz.t44];omega
  ·simp only [Ap,Cy,Ai,Bj,Ct,Tryz.t44];omega
  refine Gy ?_;refine A0 [1,2,8,13,14,15] ?_;refine Z78 ?_;refine A0 [1,2,8,13,14,15] ?_;refine B0 (x+1) ⟨hlt,Ce hlt hx.2 ht27⟩ (by omega) ?_
  rw [Q9 hlt,Cu,Dg,Js]
  exact Bs (own:=[]) (fun _=>.refl _) (by repeat (first|exact Ao|refine An (by first|exact Es|exact C7|exact Fj|exact Eh|exact Cj|exact De|exact Low.ro _ Gi|(simp [or_imp,forall_and];done)) ?_)) (by simp) (by simp)
 have hxe:l.length≤x:=by simpa using ht16
 have hm:=P1 (c:=c) (row:=row) fun j y hy=>hx.2 j y (by have:=(A8.1 hy).1;omega) hy
 rw [Ev hxe]
 refine Z29 ?_;refine Z8 ?_;refine Z26 ?_;exact A5 (Az A4 A4) ⟨by rw [hm],rfl⟩ (hlow:=by simpa using (C7 (n:=Hp.length) (k:=3) (o:=false) (l:=l.map fun e=>(Fa e c row).1)))

theorem c35 (c:List Col) (hc:OkCols c) (m:Mov) (h:OkMov m) (row:List Val) (hf:∀v∈row,Fine v) (hl:row.length=c.length) (Hp:List AObj):AFun Tryz.prog 35 [Ad c,Ff m,Aw row] Hp (.tup [Aw (Cz c m row).1,A3 (Cz c m row).2]):=by
 have hcl:=hc.len
 have hrk:=Qi (c:=c) (row:=row) (l:=m.ahead)
 have hal:=h.ahead.len
 refine Ac [.tmp 6,.tmp 7] [0,1,2] Tryz.func35 Tryz.ntmps35 (fun d=>?_)
 refine Z8 ?_;refine A0 [0,2,4] ?_;refine Z31 ?_;refine A7 Tryz.call52 (c52 c hc row hf (by omega) m.ahead h.ahead _) ?_;refine Z74 ?_;refine A0 [0,2,4,8,9] ?_;refine Z28 ?_;refine A0 [0,2,4,8,9,22] ?_
 refine A1 (fun ht22=>?_) (fun ht22=>?_)
 ·have hm:Cz c m row=([],(Ar c row m.ahead).2):=if_pos ht22
  refine Z3 ?_;refine Z88 ?_;exact Z38
 have hm:Cz c m row=(F1 m.take c row++(Ar c row m.ahead).1,0):=if_neg (by rw [ht22];simp)
 refine Pa ?_;refine A0 [0,2,4,8,10] ?_;refine Z59 ?_;refine Jy 10 3 ?_;refine Z37 ?_;refine A0 [2,4,8,10,24,25,26] ?_
 refine Bz (α:=Nat) (fun x=>⟨48,A6 2 (Aw row) (A6 4 (.ro (Mx m)) (A6 8 (Aw (Ar c row m.ahead).1) (A6 10 (.slice true 3 ((F1 m.take (c.take x) row).map Av)) (A6 24 (Ad c) (A6 25 (A3 (c.length:Nat)) (A6 26 (A3 (x:Nat)) (fun _=>.any))))))),Hp,[],[],none⟩) (fun x=>x≤c.length) (fun x=>c.length-x) (0) (Au _) (Bf (by simp [F1])) rfl (fun x hx=>?_)
 refine Z0 ?_;refine A0 [2,4,8,10,24,25,26,27] ?_
 refine C5 (fun ht27=>?_) (fun ht27=>?_)
 ·have hlt:x<c.length:=by simpa using ht27
  have hxr:x<row.length:=by omega
  have hkl:=Ws (take:=m.take) (c:=c.take x) (row:=row)
  rw [Cy] at hkl
  refine Nu ?_
  refine A2 (h:=Ab (x) (Co c[x]) (fun _=>As hlt)) (hr:=?_)
  refine Ur ?_;refine A0 [2,4,8,10,11,12,24,25,26] ?_;refine Z31 ?_;refine A7 Tryz.call53 (c53 m.take c[x].name h.takes _) ?_;refine A2 ?_;refine A0 [2,4,8,10,11,24,25,26,36] ?_
  refine A1 (fun ht36=>?_) (fun ht36=>?_)
  ·have hk:=gk hlt hxr (by simpa using ht36)
   refine Z90 ?_;refine Z1 ?_
   refine A2 (h:=Ab (x) (Av row[x]) (fun _=>As hxr)) (hr:=?_)
   refine Z62 ?_
   refine Dw jU Tryz.type44 ?_ ?_ ?_
   ·simp only [Ap,Cy,Ai,Bj,Ct,Tryz.t44];omega
   ·simp only [Ap,Cy,Ai,Bj,Ct,Tryz.t44];omega
   refine Gy ?_;refine A0 [2,4,8,10,24,25,26] ?_;refine Z78 ?_;refine A0 [2,4,8,10,24,25,26] ?_;refine ak ?_
   simp only [hk,Cu,Dg,Js]
   exact Bs (own:=[]) (fun _=>.refl _) (by repeat (first|exact Ao|refine An (by first|exact Es|exact C7|exact Fj|exact Eh|exact Cj|exact De|exact Low.ro _ Gi|(simp [or_imp,forall_and];done)) ?_)) (by simp) (by simp)
  have hk:=d7 hlt hxr (by simpa using ht36)
  refine Z50 ?_;refine A0 [2,4,8,10,24,25,26] ?_;refine ak ?_
  simp only [hk,Cu,Dg,Js]
  exact Bs (own:=[]) (fun _=>.refl _) (by repeat (first|exact Ao|refine An (by first|exact Es|exact C7|exact Fj|exact Eh|exact Cj|exact De|exact Low.ro _ Gi|(simp [or_imp,forall_and];done)) ?_)) (by simp) (by simp)
 have hxe:c.length≤x:=by simpa using ht27
 rw [Ev hxe]
 have hkl:=Ws (take:=m.take) (c:=c) (row:=row)
 refine Z29 ?_;refine Z99 ?_;refine A2 ?_
 refine Dw jU Tryz.type44 ?_ ?_ ?_
 ·simp only [Ap,Cy,Ai,Bj,Ct,Tryz.t44];omega
 ·simp only [Ap,Cy,Ai,Bj,Ct,Tryz.t44];omega
 refine Gy ?_;refine Z80 ?_;exact A5 (Az A4 A4) ⟨by rw [hm,←Cu]<;>rfl,rfl⟩ (hlow:=by rw [←Cu];simpa using (C7 (n:=Hp.length) (k:=3) (o:=false) (l:=F1 m.take c row++(Ar c row m.ahead).1)))

theorem c46 (a dd:List Col) (ha:a.length≤1048576) (hd:OkCols dd) (m:Mov) (h:OkMov m) (hb:m.back.length=m.take.length) (hs:∀y∈a,¬0≤I4 y.name m.take→∃j:Nat,B7 y.name dd=j∧j<dd.length) (row:List Val) (hf:∀v∈row,Fine v) (hl:row.length=dd.length) (Hp:List AObj):AFun Tryz.prog 46 [Ad a,Ad dd,Ff m,Aw row] Hp (.tup [Aw (Bg a dd m row).1,A3 (Bg a dd m row).2]):=by
 have hdl:=hd.len
 refine Ac [.tmp 8,.tmp 9] [0,1,2,3] Tryz.func46 Tryz.ntmps46 (fun d=>?_)
 refine Z8 ?_;refine A0 [0,1,3,6] ?_;refine Z31 ?_;refine A7 Tryz.call52 (c52 dd hd row hf (by omega) m.back h.back _) ?_;refine Z74 ?_;refine A0 [0,1,3,6,10,11] ?_;refine Z28 ?_;refine A0 [0,1,3,6,10,11,25] ?_
 refine A1 (fun ht25=>?_) (fun ht25=>?_)
 ·have hm:Bg a dd m row=([],(Ar dd row m.back).2):=if_pos ht25
  refine Z3 ?_;refine Lx 8 3 false ?_;refine A2 ?_;refine A0 [8,9] ?_;refine Ei ?_;exact Z38
 have hm:Bg a dd m row=((a.map (Mc m.take (Ar dd row m.back).1 row dd)),0):=if_neg (by rw [ht25];simp)
 have hwl:=Kb (c:=dd) (row:=row) (l:=m.back) (by simpa using ht25)
 refine Pa ?_;refine A0 [0,1,3,6,10,12] ?_;refine Z59 ?_;refine Jy 12 3 ?_;refine Z37 ?_;refine am ?_
 refine Bz (α:=Nat) (fun x=>⟨59,A6 1 (Ad dd) (A6 3 (Aw row) (A6 6 (.ro (Mx m)) (A6 10 (Aw (Ar dd row m.back).1) (A6 12 (.slice true 3 (((a.map (Mc m.take (Ar dd row m.back).1 row dd)).take x).map Av)) (A6 27 (Ad a) (A6 28 (A3 (a.length:Nat)) (A6 29 (A3 (x:Nat)) (fun _=>.any)))))))),Hp,[],[],none⟩) (fun x=>x≤a.length) (fun x=>a.length-x) (0) (Au _) (Bf (by simp)) rfl (fun x hx=>?_)
 refine Z0 ?_;refine A0 [1,3,6,10,12,27,28,29,30] ?_
 refine C5 (fun ht30=>?_) (fun ht30=>?_)
 ·have hlt:x<a.length:=by simpa using ht30
  have hol:((a.map (Mc m.take (Ar dd row m.back).1 row dd)).take x).length≤x:=List.length_take_le _ _
  have hon:(a.map (Mc m.take (Ar dd row m.back).1 row dd)).take (x+1)=(a.map (Mc m.take (Ar dd row m.back).1 row dd)).take x++[Mc m.take (Ar dd row m.back).1 row dd a[x]]:=by
   rw [G7 (by rw [Ap];exact hlt),List.getElem_map]
  refine Z65 ?_
  refine A2 (h:=Ab (x) (Co a[x]) (fun _=>As hlt)) (hr:=?_)
  refine Z57 ?_;refine A0 [1,3,6,10,12,14,27,28,29] ?_;refine Z93 ?_;refine A7 Tryz.call70 (c70 m.take a[x].name h.takes _) ?_;refine A2 ?_;refine A0 [1,3,6,10,12,14,15,27,28,29] ?_;refine Z3 ?_;refine A0 [1,3,6,10,12,14,15,27,28,29,39] ?_
  refine A1 (fun ht39=>?_) (fun ht39=>?_)
  ·have hj0:0≤I4 a[x].name m.take:=by simpa using ht39
   obtain ⟨j,hj,hjl⟩:=gu hj0
   have hw:Mc m.take (Ar dd row m.back).1 row dd a[x]=(Ar dd row m.back).1.getD j noV:=by unfold Mc;rw [if_pos hj0,hj];rfl
   refine Z99 ?_;refine Z1 ?_
   refine A2 (h:=Ab (j) (Av ((Ar dd row m.back).1.getD j noV)) (fun _=>j1 (by omega))) (hr:=?_)
   refine Z62 ?_
   refine Dw jU Tryz.type44 ?_ ?_ ?_
   ·simp only [Ap,Cy,Ai,Bj,Ct,Tryz.t44];omega
   ·simp only [Ap,Cy,Ai,Bj,Ct,Tryz.t44];omega
   refine Gy ?_;refine am ?_;refine Z64 ?_;refine K.blE ?_;refine E4 ?_;refine Z20 ?_;refine am ?_;refine ak ?_
   rw [hon,hw,Cu,Dg,Js]
   exact Bs (own:=[]) (fun _=>.refl _) (by repeat (first|exact Ao|refine An (by first|exact Es|exact C7|exact Fj|exact Eh|exact Cj|exact De|exact Low.ro _ Gi|(simp [or_imp,forall_and];done)) ?_)) (by simp) (by simp)
  have hjn:¬0≤I4 a[x].name m.take:=by simpa using ht39
  obtain ⟨j,hj,hjl⟩:=hs a[x] (Bc hlt) hjn
  have hw:Mc m.take (Ar dd row m.back).1 row dd a[x]=row.getD j noV:=by unfold Mc;rw [if_neg hjn,hj];rfl
  refine Z9 ?_;refine Z90 ?_;refine Lp ?_;refine A7 Tryz.call71 (c71 dd hd a[x].name _) ?_
  refine A2 (h:=Ab (j) (Av (row.getD j noV)) (fun _=>j1 (by omega))) (hr:=?_)
  refine Z62 ?_
  refine Dw jU Tryz.type44 ?_ ?_ ?_
  ·simp only [Ap,Cy,Ai,Bj,Ct,Tryz.t44];omega
  ·simp only [Ap,Cy,Ai,Bj,Ct,Tryz.t44];omega
  refine Gy ?_;refine am ?_;refine Z78 ?_;refine am ?_;refine ak ?_
  rw [hon,hw,Cu,Dg,Js]
  exact Bs (own:=[]) (fun _=>.refl _) (by repeat (first|exact Ao|refine An (by first|exact Es|exact C7|exact Fj|exact Eh|exact Cj|exact De|exact Low.ro _ Gi|(simp [or_imp,forall_and];done)) ?_)) (by simp) (by simp)
 have hxe:a.length≤x:=by simpa using ht30
 rw [Ev (by rw [Ap];exact hxe)]
 refine Z29 ?_;refine Z8 ?_;refine A0 [8,9] ?_;refine Ei ?_;exact A5 (Az A4 A4) ⟨by rw [hm],rfl⟩ (hlow:=by simpa using (C7 (n:=Hp.length) (k:=3) (o:=false) (l:=(a.map (Mc m.take (Ar dd row m.back).1 row dd)))))

theorem c21 (c:List Col) (hc:OkCols c) (hc2:c.length≤1000000) (l:List Mov) (h:OkMovs l) (row:List Val) (hrr:∀v∈row, -9223372036854775808≤v.n∧v.n≤9223372036854775807) (hrl:row.length≤1048576) (Hp:List AObj):AFun Tryz.prog 21 [Ad c,Cx l,Aw row] Hp (.tup [Aw (Bp c l row).1,A3 (Bp c l row).2]):=by
 refine Ac [.tmp 6,.tmp 7] [0,1,2] Tryz.func21 Tryz.ntmps21 (fun d=>?_)
 refine Z3 ?_;refine A0 [0,1,2] ?_;refine Z3 ?_;refine A7 Tryz.call33 (c33 c hc hc2 l h _) ?_;refine Z74 ?_;refine A0 [0,1,2,8,9] ?_;refine Z25 ?_;refine Z11 ?_;refine Br Tryz.call34 (fun hB=>c34 c hc row hrl _) ?_;refine Z86 ?_;refine A0 [1,2,8,26] ?_
 refine A1 (fun ht26=>?_) (fun ht26=>?_)
 ·have hm:Bp c l row=([],1):=if_pos ht26
  refine Z0 ?_;refine Z88 ?_;exact Z38
 have hm0:Bp c l row=fwM c l row l.length:=if_neg (by rw [ht26];simp)
 have h26:((Cs c l).2 != 0)=false∧H6 c row=true:=by simpa using ht26
 obtain ⟨hmay,hst,hss⟩:=Hw h26.1
 have hR0:=La h26.2 hrr
 have hmvo:=Mb hmay
 have hlen:=h.len
 rw [hss]
 refine j8 ?_;refine A2 ?_;refine A0 [1,8,10] ?_;refine Z25 ?_;refine A0 [8,10,29,30,31] ?_
 refine Bz (α:=Nat) (fun x=>⟨51,A6 8 (Gu (Bo c l l.length)) (A6 10 (Aw (fwM c l row x).1) (A6 29 (Cx l) (A6 30 (A3 (l.length:Nat)) (A6 31 (A3 (x:Nat)) (fun _=>.any))))),Hp,[],[],none⟩) (fun x=>x≤l.length∧(fwM c l row x).2=0∧RowI (colsAt c l x) (fwM c l row x).1) (fun x=>l.length-x) (0) ⟨Au _,rfl,hR0⟩ (Bf (by simp [fwM])) rfl (fun x hx=>?_)
 refine Z0 ?_;refine A0 [8,10,29,30,31,32] ?_
 refine C5 (fun ht32=>?_) (fun ht32=>?_)
 ·have hlt:x<l.length:=by simpa using ht32
  obtain ⟨hxl,hfx,hR⟩:=hx
  obtain ⟨m,hm⟩:∃m,m=l[x]:=⟨_,rfl⟩
  have hml:l[x]? = some m:=by rw [hm];exact A9 hlt
  have hmx:(l.map Ff)[x]? = some (Ff m):=by rw [hm];exact As hlt
  have hmo:=h.each m (Ae hml)
  have hmv:=hmvo m (Ae hml)
  have hCx:=Dd hc (fun m hm=>h.each m hm) x
  have htn:=Rt hst hml
  refine Nu ?_
  refine A2 (h:=Ab (x) (Ff m) (fun _=>hmx)) (hr:=?_)
  refine Ur ?_;refine A0 [8,10,11,12,29,30,31] ?_;refine Cm [0,0,3,7,0,0,63,127,255,255,511,2047] 11 Aq (by kernel_rfl) ?_;refine Z16 ?_
  refine Ak (h:=Ab (x) (Ad (colsAt c l x)) (fun _=>g6 (J2 (by omega)))) (hr:=?_)
  refine Z52 ?_;refine Cl Tryz.call35 (c35 (colsAt c l x) hCx m hmo (fwM c l row x).1 hR.fine hR.len _) ?_;refine Z16 ?_;refine Z63 ?_;refine A2 ?_;refine A0 [8,9,10,29,30,31] ?_;refine Z3 ?_;refine A0 [8,9,10,29,30,31,47] ?_
  refine A1 (fun ht47=>?_) (fun ht47=>?_)
  ·have hm2:Bp c l row=([],(Cz (colsAt c l x) m (fwM c l row x).1).2):=by rw [hm0];exact gn hml hfx (by simpa using ht47)
   refine Z3 ?_;refine Z88 ?_;refine Z53 ?_;exact A5 (Az A4 A4) ⟨by rw [hm2]<;>rfl,rfl⟩
  have hnx:=Ru hml hfx
  have hok:(Cz (colsAt c l x) m (fwM c l row x).1).2=0:=by simpa using ht47
  have hRn:=Qf htn hmv (fun e he=>hmo.ahead.rng e he) hR hok
  refine Z50 ?_;refine A0 [8,10,29,30,31] ?_
  refine B0 (x+1) ⟨hlt,by rw [hnx];exact hok,by rw [hnx,Fh hml];exact hRn⟩ (by omega) ?_
  rw [hnx]
  exact Bs (own:=[]) (fun _=>.refl _) (by repeat (first|exact Ao|refine An (by first|exact Es|exact C7|exact Fj|exact Eh|exact Cj|exact De|exact Low.ro _ Gi|(simp [or_imp,forall_and];done)) ?_)) (by simp) (by simp)
 have hxe:x=l.length:=by simp at ht32;have:=hx.1;omega
 subst hxe
 have hm1:Bp c l row=((fwM c l row l.length).1,0):=by rw [hm0];exact Hd rfl hx.2.1
 refine Z29 ?_;refine Z8 ?_;refine Z26 ?_;exact A5 (Az A4 A4) ⟨by rw [hm1],rfl⟩ (hlow:=by simpa using (C7 (n:=Hp.length) (k:=3) (o:=false) (l:=(fwM c l row l.length).1)))

/-! slices.Backward of moves. -/
theorem c91 (l0:Nat) (ms:List Mov) (hml:ms.length≤1048576) (U:Nat→List AObj) (N:Nat→Prop) (Z:List AObj→Prop) (hlen:∀k,(U k).length=(U 0).length) (hll:l0<(U 0).length)
  (hlw:∀k,∀x∈U k,ObjLow (U 0).length x) (h0:N 0)
  (hy:∀k m X,k<ms.length→ms[ms.length-1-k]? = some m→N k→AYield Tryz.prog l0 [A3 ((ms.length-1-k:Nat):Int),Ff m] (U k++X) (fun b H'=>(b=true∧N (k+1)∧H'=U (k+1)++X)∨(b=false∧∃V,H'=V++X∧V.length=(U 0).length∧(∀x∈V,ObjLow (U 0).length x)∧Z V)))
  (hR:N ms.length→Z (U ms.length)):ACall Tryz.prog 91 [.yield l0,.ro [Cx ms]] (U 0) (fun _ H'=>Z H'):=by
 refine Ac [] [0,1] Tryz.func91 Tryz.ntmps91 (fun d=>?_)
 refine Z3 ?_
 refine A2 (h:=Q.sub64 (h2:=fun _=>by simp only [Ap];omega)) (hr:=?_)
 refine A2 ?_;refine A0 [0,1,3] ?_
 refine Bz (α:=Nat×Int) (fun s=>⟨19,A6 0 (.yield l0) (A6 1 (.ro [Cx ms]) (A6 3 (A3 s.2) (fun _=>.any))),U s.1,[],[],none⟩) (fun s=>s.1≤ms.length∧N s.1∧s.2=(ms.length:Int)-1-(s.1:Int)) (fun s=>ms.length-s.1) ((0,(ms.length:Int)-1)) ⟨Au _,h0,by simp⟩ (Bf (by simp)) rfl (fun s hs=>?_)
 obtain ⟨x,i⟩:=s
 obtain ⟨hx,hN,hi⟩:=hs
 dsimp only at hx hN hi ⊢
 refine Z28 ?_;refine A0 [0,1,3,8] ?_
 refine A1 (fun ht8=>?_) (fun ht8=>?_)
 ·have hlt:x<ms.length:=by simp at ht8;omega
  have hlt2:ms.length-1-x<ms.length:=by omega
  have hi2:i=((ms.length-1-x:Nat):Int):=by omega
  subst hi2
  refine Z9 ?_;refine Z22 ?_;refine Z31 ?_
  refine A2 (h:=Ab (ms.length-1-x) (Ff ms[ms.length-1-x]) (fun _=>As hlt2)) (hr:=?_)
  refine A2 ?_
  refine R.yield (l:=l0) (args:=[A3 ((ms.length-1-x:Nat):Int),Ff ms[ms.length-1-x]]) (hy x ms[ms.length-1-x] _ hlt (A9 hlt2) hN) ?_
  intro b V O hV hb
  have hVO:O=[]∧((b=true∧N (x+1)∧V=U (x+1))∨(b=false∧V.length=(U 0).length∧(∀y∈V,ObjLow (U 0).length y)∧Z V)):=by
   rcases hb with ⟨h1,h2,h3⟩|⟨h1,V',h2,h3,h4,h5⟩
   ·have h6:=Lc h3 (by rw [hV,hlen x,hlen (x+1)])
    exact ⟨h6.2,.inl ⟨h1,h2,h6.1⟩⟩
   obtain ⟨rfl,rfl⟩:=Lc h2 (by rw [hV,hlen x,h3])
   exact ⟨rfl,.inr ⟨h1,h3,h4,h5⟩⟩
  obtain ⟨rfl,hVO⟩:=hVO
  have hVl:V.length=(U 0).length:=by rw [hV,hlen x]
  have hVw:∀y∈V,ObjLow (U 0).length y:=by
   rcases hVO with ⟨_,_,rfl⟩|⟨_,_,h,_⟩
   ·exact hlw _
   exact h
  refine ⟨fun _=>by rw [hVl];exact hVw,fun o ho=>(by cases ho),?_⟩
  refine A2 ?_;refine A0 [0,1,3,18] ?_
  refine A1 (fun ht18=>?_) (fun ht18=>?_)
  ·have hZ:Z V:=by
    rcases hVO with ⟨h1,_,_⟩|⟨_,_,_,h⟩
    ·rw [h1] at ht18;cases ht18
    exact h
   refine Ei ?_;refine Z32 ?_;exact A5 .nores (hp:=hZ)
  have hVn:N (x+1)∧V=U (x+1):=by
   rcases hVO with ⟨_,h2,h3⟩|⟨h1,_,_,_⟩
   ·exact ⟨h2,h3⟩
   rw [h1] at ht18;cases ht18
  obtain ⟨hN1,rfl⟩:=hVn
  refine Z50 ?_;refine A2 ?_;refine A0 [0,1,3] ?_
  refine B0 (x+1,((ms.length-1-x:Nat):Int)-1) ⟨hlt,hN1,by dsimp only;omega⟩ (by dsimp only;omega) ?_
  exact Dn rfl
 have hxe:x=ms.length:=by simp at ht8;omega
 refine Z64 ?_;refine K.lpE ?_;exact K.finN .nores (hp:=by rw [hxe];exact hR (hxe ▸ hN))

theorem c69 (l:List Mov) (Hp:List AObj):AFun Tryz.prog 69 [Cx l] Hp (.fn (.func 91) [] [.ro [Cx l]]):=by
 refine Ac [.tmp 2] [0] Tryz.func69 Tryz.ntmps69 (fun d=>?_)
 refine Sf ?_;refine Ds ?_;refine Nr ?_;refine A2 ?_;exact Z87

theorem P5 {n k:Nat} {o:Bool} {l:List Val}:∀z∈[AV.slice o k (l.map Av)],Low n z:=fun z hz=>by rw [Ay.1 hz];exact C7
/-- Where the way back stands behind k moves. -/
structure BkAt (c:List Col) (l:List Mov) (row:List Val) (k:Nat):Prop where
 ok:(bkM c l row k).2=0
 row:RowI (colsAt c l (l.length-k)) (bkM c l row k).1
theorem BkAt.zero {c:List Col} {l:List Mov} {row:List Val} (h:RowI (colsAt c l l.length) row):BkAt c l row 0:=⟨rfl,h⟩
theorem BkAt.fin {c:List Col} {l:List Mov} {row:List Val} (h:BkAt c l row l.length):bkM c l row l.length=((bkM c l row l.length).1,0):=Hd rfl h.ok
theorem BkAt.next {c:List Col} {l:List Mov} {row:List Val} {k:Nat} {m:Mov} (h:BkAt c l row k) (hk:k<l.length) (hm:l[l.length-1-k]? = some m) (hg:∀e∈m.back,D6 H2 e=true) (he:(Bg (colsAt c l (l.length-1-k)) (colsAt c l (l.length-1-k+1)) m (bkM c l row k).1).2=0):BkAt c l row (k+1):=by
 have e:=N8 hm h.ok
 have hr:=h.row
 rw [show l.length-k=l.length-1-k+1 by omega] at hr
 refine ⟨by rw [e];exact he,?_⟩
 rw [e,show l.length-(k+1)=l.length-1-k by omega]
 exact da hg hr he
theorem Me {c:List Col} {l:List Mov} {row:List Val} (h:(((Cs c l).2 != 0) || !H6 (colsAt c l l.length) row)=false):C6 c l row=bkM c l row l.length:=if_neg (by rw [h];simp)
theorem nn {U:List AObj} {l a b c e:Nat} {x y X Y Z T:AObj} (h:U[l]? = some x) (ha:a≠l) (hb:b≠l) (hc:c≠l) (he:e≠l):(((((U.set l y).set a X).set b Y).set c Z).set e T)[l]? = some y:=by rw [Da he];exact kv h ha hb hc
theorem Ys (c:List Col) (l:List Mov):(Cs c l).1.length≤l.length+1:=by
 unfold Cs K6
 repeat' split
 all_goals first|exact Au _|exact Ov c l
theorem Qj {c:List Col} {l:List Mov} (h:((Cs c l).2 != 0)=false):((Cs c l).1.map Ad)[l.length]? = some (Ad (colsAt c l l.length))∧((((Cs c l).1.map Ad).length:Nat):Int)-1=((l.length:Nat):Int):=by
 obtain ⟨_,_,hss⟩:=Hw h
 rw [hss]
 refine ⟨g6 (J2 (Al _)),?_⟩
 rw [Ap,H5]
 omega
theorem c45 (l:List Mov) (Hp:List AObj):AFun Tryz.prog 45 [Cx l] Hp (.fn (.func 91) [] [.ro [Cx l]]):=by
 refine Ac [.tmp 2] [0] Tryz.func45 Tryz.ntmps45 (fun d=>?_)
 refine Z49 ?_;refine Z0 ?_;refine A7 Tryz.call69 (c69 l _) ?_;refine A2 ?_;exact Z87

theorem c31 (c:List Col) (hc:OkCols c) (hc2:c.length≤1000000) (l:List Mov) (h:OkMovs l) (row:List Val) (hrr:∀v∈row, -9223372036854775808≤v.n∧v.n≤9223372036854775807) (hrl:row.length≤1048576) (Hp:List AObj):AFun Tryz.prog 31 [Ad c,Cx l,Aw row] Hp (.tup [Aw (C6 c l row).1,A3 (C6 c l row).2]):=by
 refine Ac [.cell 6 24,.cell 7 31] [0,1,2] Tryz.func31 Tryz.ntmps31 (fun d=>?_)
 refine Z44 ?_;refine Hj jZ ?_;refine A0 [0,1,2,6,7] ?_;refine Z3 ?_;refine A7 Tryz.call33 (c33 c hc hc2 l h _) ?_;refine l3 ?_;refine Xf ?_;refine Gq ?_;refine A0 [1,2,6,7,8,9] ?_;refine Z59 ?_
 have hlen:=h.len
 have hsl:((Cs c l).1.map Ad).length≤2000000:=by rw [Ap];have:=Ys c l;omega
 have hcn:=Dd hc (fun m hm=>h.each m hm) l.length
 refine Z37 ?_;refine Z42 ?_
 refine Bk (h:=Ab (l.length) (Ad (colsAt c l l.length)) (fun hB=>(Qj (by simpa using hB)).1) (hn:=fun hB=>(Qj (by simpa using hB)).2)) (hr:=?_)
 refine Z11 ?_;refine Br Tryz.call34 (fun hB=>c34 (colsAt c l l.length) hcn row hrl _) ?_;refine Z86 ?_;refine A0 [1,2,6,7,8,9,31] ?_
 refine A1 (fun ht31=>?_) (fun ht31=>?_)
 ·have hm:C6 c l row=([],1):=if_pos ht31
  refine Ds ?_;refine Gq ?_;refine R.nilOwn 0 3 ?_;refine Gq ?_;refine Z26 ?_;refine Bn ?_;exact A5 (Az (Ea jA) (Ea jA)) ⟨by rw [hm]<;>rfl,rfl⟩
 have hm:=Me ht31
 have h31:((Cs c l).2 != 0)=false∧H6 (colsAt c l l.length) row=true:=by simpa using ht31
 obtain ⟨hmay,hst,hss⟩:=Hw h31.1
 have hmvo:=Mb hmay
 have hlen:=h.len
 have hR0:=La h31.2 hrr
 have hol:((Bo c l l.length).map Ad).length=l.length+1:=by rw [Ap,H5]
 rw [hss]
 refine j8 ?_;refine Xf ?_;refine A0 [1,6,7,8,9,10] ?_;refine Z59 ?_
 refine Lo (fun hlow=>?_)
 refine A2 ?_;refine A7 Tryz.call45 (c45 l _) ?_;refine A0 [6,7,8,9,10,35] ?_;refine G9 ?_
 refine W.rangeV (m:=5) Tryz.call91 (fun FR as' bd' hFR has hbd=>?_)
 have hFRl:∀s,Low (Hp.length+7) (FR s):=by
  intro s
  rw [hFR]
  refine R1 ?_
  revert s
  repeat (first|exact Ao|refine An (by first|(simp [oid,or_imp,forall_and];done)|exact Eh|exact Cj|exact C7|(simp [oid,or_imp,forall_and];exact ⟨fun m _ a _=>C0 _ a,fun m _ a _=>C0 _ a⟩)|(simp [oid,or_imp,forall_and]<;>omega)) ?_)
 have hOl:∀{e e2:Int} {t:List Val} {lp:AObj},ObjLow (Hp.length+7) lp→∀x∈Hp++[AObj.cells 24 [AV.nil],AObj.cells 31 [A3 e],AObj.cells 63 [Gu (Bo c l l.length)],AObj.cells 31 [A3 e2],AObj.cells 24 [Aw (t)],AObj.defs,lp],ObjLow (Hp.length+7) x:=by
  intro e e2 t lp hlp x hx
  refine Hr (fun x hx=>K3 (by omega) (hlow x hx)) (fun x hx=>?_) x hx
  simp only [Cd,E8,or_false] at hx
  rcases hx with rfl|rfl|rfl|rfl|rfl|rfl|rfl
  ·intro y hy;rw [Ay.1 hy];simp
  ·intro y hy;rw [Ay.1 hy];simp
  ·intro y hy;rw [Ay.1 hy];exact De
  ·intro y hy;rw [Ay.1 hy];simp
  ·exact P5
  ·trivial
  exact hlp
 refine ⟨_,c91 (oid Hp.length 6) l h.len (fun k=>Hp++[AObj.cells 24 [AV.nil],AObj.cells 31 [A3 0],AObj.cells 63 [Gu (Bo c l l.length)],AObj.cells 31 [A3 0],AObj.cells 24 [Aw ((bkM c l row k).1)],AObj.defs,AObj.loop LoopState.ready none FR 57 #[36,37] as' bd' (oid Hp.length 5)]) (BkAt c l row) (fun V=>(∃t,V=Hp++[AObj.cells 24 [AV.nil],AObj.cells 31 [A3 0],AObj.cells 63 [Gu (Bo c l l.length)],AObj.cells 31 [A3 0],AObj.cells 24 [Aw (t)],AObj.defs,AObj.loop LoopState.ready none FR 57 #[36,37] as' bd' (oid Hp.length 5)]∧C6 c l row=(t,0)∧RowI c t)∨(∃(e:Int) (t:List Val),V=Hp++[AObj.cells 24 [AV.nil],AObj.cells 31 [A3 e],AObj.cells 63 [Gu (Bo c l l.length)],AObj.cells 31 [A3 e],AObj.cells 24 [Aw (t)],AObj.defs,AObj.loop LoopState.done (some Code.ret) FR 57 #[36,37] as' bd' (oid Hp.length 5)]∧C6 c l row=([],e))) (fun k=>by simp) (by simp [oid]) (fun k=>(fun x hx=>by rw [Ai];exact hOl (lp:=AObj.loop LoopState.ready none FR 57 #[36,37] as' bd' (oid Hp.length 5)) (by exact ⟨hFRl,by simp [oid]⟩) x hx)) (.zero hR0) (fun k m X hk hm hN=>?_) (fun hN=>.inl ⟨_,rfl,by rw [Me ht31];exact hN.fin,by have:=hN.row;rw [Kn] at this;exact this⟩),?_⟩
 ·generalize hV:Hp++[AObj.cells 24 [AV.nil],AObj.cells 31 [A3 0],AObj.cells 63 [Gu (Bo c l l.length)],AObj.cells 31 [A3 0],AObj.cells 24 [Aw ((bkM c l row k).1)],AObj.defs,AObj.loop LoopState.ready none FR 57 #[36,37] as' bd' (oid Hp.length 5)]++X=V
  have hL:V[oid Hp.length 6]? = some (AObj.loop LoopState.ready none FR 57 #[36,37] as' bd' (oid Hp.length 5)):=by rw [←hV,B8,C2];rfl
  have hA0:V[oid Hp.length 0]? = some (AObj.cells 24 [AV.nil]):=by rw [←hV,B8,C2];rfl
  have hB0:V[oid Hp.length 1]? = some (AObj.cells 31 [A3 0]):=by rw [←hV,B8,C2];rfl
  have hS0:V[oid Hp.length 2]? = some (AObj.cells 63 [Gu (Bo c l l.length)]):=by rw [←hV,B8,C2];rfl
  have hE0:V[oid Hp.length 3]? = some (AObj.cells 31 [A3 0]):=by rw [←hV,B8,C2];rfl
  have hZ0:V[oid Hp.length 4]? = some (AObj.cells 24 [Aw (bkM c l row k).1]):=by rw [←hV,B8,C2];rfl
  refine R5 (pd:=none) (fr:=FR) (sz:=57) (ps:=#[36,37]) (df:=oid Hp.length 5) (asg:=as') (bd:=bd') hL rfl (by decide) (fun d=>?_)
  subst hFR has hbd
  refine W.keep [6,7,8,9,10,36,37] ?_
  have hmo:=h.each m (Ae hm)
  have hmv:=hmvo m (Ae hm)
  have htn:=Rt hst hm
  have hcn:=Fh (c:=c) hm
  have hCo:=Dd hc (fun m hm=>h.each m hm) (l.length-1-k+1)
  have hCi:=Dd hc (fun m hm=>h.each m hm) (l.length-1-k)
  have herr:=fun hb=>gq (row:=row) hk hm hN.ok hb
  have hnxt:=hN.next hk hm (fun e he=>hmo.back.rng e he)
  have htb:=N8 hm hN.ok
  have htl:=hN.row
  rw [show l.length-k=l.length-1-k+1 by omega] at htl
  have hik:l.length-1-k<l.length:=by omega
  have hsy:∀y∈colsAt c l (l.length-1-k),¬0≤I4 y.name m.take→∃j:Nat,B7 y.name (colsAt c l (l.length-1-k+1))=j∧j<(colsAt c l (l.length-1-k+1)).length:=fun y hy hn=>by
   rw [hcn]
   exact kg htn hy hn
  generalize l.length-1-k=i at *
  refine Z0 ?_;refine A0 [6,7,8,9,10,11,37] ?_;refine Ji ?_;refine Xf ?_;refine A0 [6,7,8,9,10,11,12] ?_
  refine ⟨rfl,none,hL,?_⟩
  generalize hbz:(AObj.loop LoopState.busy _ _ _ _ _ _ _)=bz
  have hA:(V.set (oid Hp.length 6) bz)[oid Hp.length 0]? = some (AObj.cells 24 [AV.nil]):=by rw [Da (Bt (by decide))];exact hA0
  have hB:(V.set (oid Hp.length 6) bz)[oid Hp.length 1]? = some (AObj.cells 31 [A3 0]):=by rw [Da (Bt (by decide))];exact hB0
  have hS:(V.set (oid Hp.length 6) bz)[oid Hp.length 2]? = some (AObj.cells 63 [Gu (Bo c l l.length)]):=by rw [Da (Bt (by decide))];exact hS0
  have hE:(V.set (oid Hp.length 6) bz)[oid Hp.length 3]? = some (AObj.cells 31 [A3 0]):=by rw [Da (Bt (by decide))];exact hE0
  have hZ:(V.set (oid Hp.length 6) bz)[oid Hp.length 4]? = some (AObj.cells 24 [Aw (bkM c l row k).1]):=by rw [Da (Bt (by decide))];exact hZ0
  refine G9 ?_
  refine Ln [0,0,3,7,0,0,32,112,240,0,0,2047,4095,8191,8191,16383,65535] [15] [.q 14 [] [0],.q 1 [] [],.s [] (some 0) [] []] (fun B=>if B 0=true then ((V.set (oid Hp.length 6) bz).set (oid Hp.length 4) (AObj.cells 24 [Aw (Bg (colsAt c l i) (colsAt c l (i+1)) m (bkM c l row k).1).1])) else (V.set (oid Hp.length 6) bz)) (fun _=>[AObj.cells 50 (Mx m)]) Aq (by kernel_rfl) rfl rfl (fun B=>by split<;>simp) ?_
  apply Y.q
  ·intro B hT hF
   first|simp only [hF 0 (Vy 0),Cp,if_false]|skip
   refine Ak (h:=Io hS) (hr:=?_)
   refine Ak ?_
   refine Ak (h:=Ab (i) (Ad (colsAt c l i)) (fun _=>g6 (J2 (by omega)))) (hr:=?_)
   refine Ak ?_
   refine Ak (h:=Io hS) (hr:=?_)
   refine Z16 ?_
   refine Ak (h:=Ab ((i+1)) (Ad (colsAt c l (i+1))) (fun _=>g6 (J2 (by omega)))) (hr:=?_)
   refine Z16 ?_
   refine Ak (h:=Io hZ) (hr:=?_)
   refine Cl Tryz.call46 (c46 (colsAt c l i) (colsAt c l (i+1)) hCi.len hCo m hmo (Ep (M8 hmv)).2 hsy (bkM c l row k).1 htl.fine htl.len _) ?_;refine Z16 ?_;exact D.end rfl rfl
  case hTF=>decide
  apply Y.q
  ·intro B hT hF
   first|simp only [hF 0 (Vy 0),Cp,if_false]|skip
   refine Ak ?_;exact D.end rfl rfl
  case hTF=>decide
  refine Y.storeUp (o:=oid Hp.length 4) (t':=24) (ys:=[Aw (Bg (colsAt c l i) (colsAt c l (i+1)) m (bkM c l row k).1).1]) (cs:=[Aw (bkM c l row k).1]) (cs':=[Aw (Bg (colsAt c l i) (colsAt c l (i+1)) m (bkM c l row k).1).1]) Tryz.sizeOf24 (fun B hB=>⟨by simp only [hB];exact hZ,by simp [upd,hB],rfl,P5⟩) ?_
  refine Y.tail (tn:=[15]) (U:=((V.set (oid Hp.length 6) bz).set (oid Hp.length 4) (AObj.cells 24 [Aw (Bg (colsAt c l i) (colsAt c l (i+1)) m (bkM c l row k).1).1]))) ?_
  refine Jv jS (Ro hE (Bt (by decide))) ?_ ?_
  ·simp
  refine A0 [6,7,9] ?_;refine Ds ?_
  have hE2:(((V.set (oid Hp.length 6) bz).set (oid Hp.length 4) (AObj.cells 24 [Aw (Bg (colsAt c l i) (colsAt c l (i+1)) m (bkM c l row k).1).1])).set (oid Hp.length 3) (AObj.cells 31 [A3 (Bg (colsAt c l i) (colsAt c l (i+1)) m (bkM c l row k).1).2]))[oid Hp.length 3]? = some (AObj.cells 31 [A3 (Bg (colsAt c l i) (colsAt c l (i+1)) m (bkM c l row k).1).2]):=Nt (Ro hE (Bt (by decide)))
  refine A2 (h:=Io hE2) (hr:=?_)
  refine A2 ?_;refine A0 [6,7,9,54] ?_
  refine A1 (fun ht54=>?_) (fun ht54=>?_)
  ·have herr:=herr (by simpa using ht54)
   refine Ln [0,0,3] [1] [.q 1 [] [],.s [] (some 0) [] []] (fun B=>if B 0=true then ((((V.set (oid Hp.length 6) bz).set (oid Hp.length 4) (AObj.cells 24 [Aw (Bg (colsAt c l i) (colsAt c l (i+1)) m (bkM c l row k).1).1])).set (oid Hp.length 3) (AObj.cells 31 [A3 (Bg (colsAt c l i) (colsAt c l (i+1)) m (bkM c l row k).1).2])).set (oid Hp.length 0) (AObj.cells 24 [AV.nil])) else (((V.set (oid Hp.length 6) bz).set (oid Hp.length 4) (AObj.cells 24 [Aw (Bg (colsAt c l i) (colsAt c l (i+1)) m (bkM c l row k).1).1])).set (oid Hp.length 3) (AObj.cells 31 [A3 (Bg (colsAt c l i) (colsAt c l (i+1)) m (bkM c l row k).1).2]))) (fun _=>[AObj.cells 50 (Mx m)]) Aq (by kernel_rfl) rfl rfl (fun B=>by split<;>simp) ?_
   apply Y.q
   ·intro B hT hF
    refine Ak (h:=Io (show (if B 0=true then ((((V.set (oid Hp.length 6) bz).set (oid Hp.length 4) (AObj.cells 24 [Aw (Bg (colsAt c l i) (colsAt c l (i+1)) m (bkM c l row k).1).1])).set (oid Hp.length 3) (AObj.cells 31 [A3 (Bg (colsAt c l i) (colsAt c l (i+1)) m (bkM c l row k).1).2])).set (oid Hp.length 0) (AObj.cells 24 [AV.nil])) else (((V.set (oid Hp.length 6) bz).set (oid Hp.length 4) (AObj.cells 24 [Aw (Bg (colsAt c l i) (colsAt c l (i+1)) m (bkM c l row k).1).1])).set (oid Hp.length 3) (AObj.cells 31 [A3 (Bg (colsAt c l i) (colsAt c l (i+1)) m (bkM c l row k).1).2])))[oid Hp.length 3]? = some (AObj.cells 31 [A3 (Bg (colsAt c l i) (colsAt c l (i+1)) m (bkM c l row k).1).2]) by split;exact Ro hE2 (Bt (by decide));exact hE2)) (hr:=?_)
    exact D.end rfl rfl
   case hTF=>decide
   refine Y.storeUp (o:=oid Hp.length 0) (t':=24) (ys:=[.nil]) (cs:=[.nil]) (cs':=[.nil]) Tryz.sizeOf24 (fun B hB=>⟨by simp only [hB];exact Ro (Ro hA (Bt (by decide))) (Bt (by decide)),by simp [upd,hB],rfl,by simp⟩) ?_
   refine Y.tail (tn:=[1]) (U:=((((V.set (oid Hp.length 6) bz).set (oid Hp.length 4) (AObj.cells 24 [Aw (Bg (colsAt c l i) (colsAt c l (i+1)) m (bkM c l row k).1).1])).set (oid Hp.length 3) (AObj.cells 31 [A3 (Bg (colsAt c l i) (colsAt c l (i+1)) m (bkM c l row k).1).2])).set (oid Hp.length 0) (AObj.cells 24 [AV.nil]))) ?_
   refine Jv jS (Ro (Ro (Ro hB (Bt (by decide))) (Bt (by decide))) (Bt (by decide))) ?_ ?_
   ·simp
   refine A0 [] ?_;refine Ei ?_;refine K.blR ?_
   subst hbz
   refine K.rdR (nn hL (Bt (by decide)) (Bt (by decide)) (Bt (by decide)) (Bt (by decide))) ?_
   refine .inr ⟨rfl,Hp++[AObj.cells 24 [AV.nil],AObj.cells 31 [A3 (Bg (colsAt c l i) (colsAt c l (i+1)) m (bkM c l row k).1).2],AObj.cells 63 [Gu (Bo c l l.length)],AObj.cells 31 [A3 (Bg (colsAt c l i) (colsAt c l (i+1)) m (bkM c l row k).1).2],AObj.cells 24 [Aw ((Bg (colsAt c l i) (colsAt c l (i+1)) m (bkM c l row k).1).1)],AObj.defs,_],?_,by simp,(fun x hx=>by rw [Ai];exact hOl (lp:=_) (by exact ⟨hFRl,by simp [oid]⟩) x hx),.inr ⟨_,_,rfl,by rw [Me ht31];exact herr⟩⟩
   subst hV
   simp only [B8,Ge,Dv,Dq,List.set_cons_succ,List.set_cons_zero]
  have hB1:=hnxt (by simpa using ht54)
  refine AW.skip ?_;refine K.blN ?_
  subst hbz
  refine ja ?_
  refine .inl ⟨rfl,hB1,?_⟩
  subst hV
  simp only [B8,Ge,Dv,Dq,List.set_cons_succ,List.set_cons_zero]
  rw [htb,show (Bg (colsAt c l i) (colsAt c l (i+1)) m (bkM c l row k).1).2=0 by simpa using ht54]
 rintro r H' (⟨t,rfl,hrun,_⟩|⟨e,t,rfl,hrun⟩)
 ·refine ⟨Hp,_,_,_,rfl,rfl,fun h=>h,?_,rfl,by simp,?_⟩
  ·intro o ho
   have:o=oid Hp.length 5:=by simpa using ho
   subst this
   rw [C2]
   rfl
  refine Z14 ?_;refine Z0 ?_;refine Gq ?_;refine Gq ?_;refine Z26 ?_;exact A5 (Az (Ea jA) (Ea jA)) ⟨by rw [hrun],rfl⟩ (hlow:=by simp only [W7,Cd,E8,or_false];rintro y (rfl|rfl);exact C7;simp)
 refine ⟨Hp,_,_,_,rfl,rfl,fun h=>h,?_,rfl,by simp,?_⟩
 ·intro o ho
  have:o=oid Hp.length 5:=by simpa using ho
  subst this
  rw [C2]
  rfl
 refine W.nilOwn 0 3 ?_;refine Ei ?_;refine Z5 ?_;exact A5 (Az (Ea jA) (Ea jA)) ⟨by rw [hrun];rfl,rfl⟩

theorem dk {c:List Col} {l:List Mov} {row:List Val} (h:OkMovs l) (h0:RowI (colsAt c l l.length) row):∀k,k≤l.length→(bkM c l row k).2=0→BkAt c l row k
 | 0,_,_=>.zero h0
 | k+1,hk,he=>by
  have h1:(bkM c l row k).2=0:=Ha fun hn=>by
   rw [Vq hn (k+1) (by omega)] at he
   exact hn he
  obtain ⟨m,hm⟩:∃m,l[l.length-1-k]? = some m:=⟨l[l.length-1-k],A9 (by omega)⟩
  refine (dk h h0 k (by omega) h1).next (by omega) hm (fun e he=>(h.each m (Ae hm)).back.rng e he) ?_
  rw [←N8 hm h1]
  exact he
theorem Qk {c:List Col} {l:List Mov} {row:List Val} (h:OkMovs l) (hrr:∀v∈row, -9223372036854775808≤v.n∧v.n≤9223372036854775807) (hb:(C6 c l row).2=0):RowI c (C6 c l row).1:=by
 unfold C6 at hb ⊢
 split at hb
 ·cases hb
 rename_i h1
 rw [if_neg h1]
 have h2:H6 (colsAt c l l.length) row=true:=by
  simp only [Dl,I8,not_or,Tv] at h1
  exact h1.2
 have:=(dk h (La h2 hrr) l.length (Al _) hb).row
 rw [Kn] at this
 exact this
theorem dl {c:List Col} {l:List Mov} {row:List Val} (h:OkMovs l) (hs:((Cs c l).2 != 0)=false) (h0:RowI c row):∀k,k≤l.length→(fwM c l row k).2=0→RowI (colsAt c l k) (fwM c l row k).1
 | 0,_,_=>h0
 | k+1,hk,he=>by
  obtain ⟨hmay,hst,_⟩:=Hw hs
  have h1:(fwM c l row k).2=0:=Ha fun hn=>by
   rw [Vp hn (k+1) (by omega)] at he
   exact hn he
  obtain ⟨m,hm⟩:∃m,l[k]? = some m:=⟨l[k],A9 (by omega)⟩
  have hml:=Ae hm
  have e:=Ru hm h1
  rw [e,Fh hm]
  exact Qf (Rt hst hm) (Mb hmay m hml) (fun e he=>(h.each m hml).ahead.rng e he) (dl h hs h0 k (by omega) h1) (by rw [←e];exact he)
theorem Kc {c:List Col} {l:List Mov} {row:List Val} (h:OkMovs l) (hrr:∀v∈row, -9223372036854775808≤v.n∧v.n≤9223372036854775807) (hb:(Bp c l row).2=0):RowI (colsAt c l l.length) (Bp c l row).1:=by
 unfold Bp at hb ⊢
 split at hb
 ·cases hb
 rename_i h1
 rw [if_neg h1]
 have h2:((Cs c l).2 != 0)=false∧H6 c row=true:=by
  simp only [Dl,I8,not_or,Tv,Bool.not_eq_true] at h1
  exact h1
 exact dl h h2.1 (La h2.2 hrr) l.length (Al _) hb
theorem gw {c:List Col} {l:List Mov} {row:List Val} (h:OkMovs l) (hrr:∀v∈row, -9223372036854775808≤v.n∧v.n≤9223372036854775807) (ho:(E5 c l row).2=0):RowI c (E5 c l row).1:=by
 unfold E5 at ho ⊢
 split at ho
 ·rename_i h1
  rw [show (C6 c l row).2=0 from ho] at h1
  cases h1
 rename_i h1
 rw [if_neg h1]
 split at ho
 ·rename_i h2
  rw [show (Bp c l (C6 c l row).1).2=0 from ho] at h2
  cases h2
 rename_i h2
 rw [if_neg h2]
 split at ho
 ·cases ho
 rename_i h3
 rw [if_neg h3]
 exact Qk h hrr (by simpa using h1)
theorem c19 (c:List Col) (hc:OkCols c) (hc2:c.length≤1000000) (l:List Mov) (h:OkMovs l) (row:List Val) (hrr:∀v∈row, -9223372036854775808≤v.n∧v.n≤9223372036854775807) (hrl:row.length≤1048576) (Hp:List AObj):AFun Tryz.prog 19 [Ad c,Cx l,Aw row] Hp (.tup [Aw (E5 c l row).1,A3 (E5 c l row).2]):=by
 refine Ac [.tmp 6,.tmp 7] [0,1,2] Tryz.func19 Tryz.ntmps19 (fun d=>?_)
 refine Z3 ?_;refine A0 [0,1,2] ?_;refine Z8 ?_;refine A7 Tryz.call31 (c31 c hc hc2 l h row hrr hrl _) ?_;refine Z74 ?_;refine A0 [0,1,2,8,9] ?_;refine Z28 ?_;refine A0 [0,1,2,8,9,19] ?_
 refine A1 (fun ht19=>?_) (fun ht19=>?_)
 ·have hm:E5 c l row=([],(C6 c l row).2):=if_pos ht19
  refine Z3 ?_;refine Z88 ?_;exact Z38
 have n1:¬((C6 c l row).2 != 0)=true:=by rw [ht19];simp
 have hB:=Qk h hrr (by simpa using ht19:(C6 c l row).2=0)
 refine Pe ?_
 refine A7 Tryz.call21 (c21 c hc hc2 l h (C6 c l row).1 (H9 hB.fine) (by rw [hB.len];exact hc.len) _) ?_
 refine Z74 ?_;refine A0 [2,8,9,10] ?_;refine Z98 ?_;refine A0 [2,8,9,10,28] ?_
 refine A1 (fun ht28=>?_) (fun ht28=>?_)
 ·have hm:E5 c l row=([],(Bp c l (C6 c l row).1).2):=by unfold E5;rw [if_neg n1,if_pos ht28]
  refine Z3 ?_;refine Z88 ?_;exact la
 have n2:¬((Bp c l (C6 c l row).1).2 != 0)=true:=by rw [ht28];simp
 have hF:=Kc h (H9 hB.fine) (by simpa using ht28:(Bp c l (C6 c l row).1).2=0)
 refine Z3 ?_
 refine A7 Tryz.call32 (c32 (Bp c l (C6 c l row).1).1 row (by rw [hF.len];exact (Dd hc (fun m hm=>h.each m hm) l.length).len) _) ?_
 refine Z1 ?_;refine A0 [8,32] ?_
 refine A1 (fun ht32=>?_) (fun ht32=>?_)
 ·have hm:E5 c l row=([],14):=by unfold E5;rw [if_neg n1,if_neg n2,if_pos ht32]
  refine Z0 ?_;refine Z88 ?_;exact la
 have hm:E5 c l row=((C6 c l row).1,0):=by unfold E5;rw [if_neg n1,if_neg n2,if_neg (by rw [ht32];simp)]
 refine Z18 ?_;refine Z8 ?_;refine Z26 ?_;exact A5 (Az A4 A4) ⟨by rw [hm]<;>rfl,rfl⟩ (hlow:=by simpa using (C7 (n:=Hp.length) (k:=3) (o:=false) (l:=(C6 c l row).1)))
end Go.SX.Nb
namespace Go.SX
variable [GI:GlobInv]
open Classical
section
variable {P:Program} {d:Nat} {st:St} {dst:Option Tmp} {ty:TypeId} {pos:String} {aft:Array Edge} {gd:Option (Nat×Bool)}
variable {sz:Nat} {fr:Nat→AV} {up own own':List AObj} {dfs:List Nat} {rnd:Option Nat} {Q:St→Prop} {ops:Array Oper} {rest:List Oper} {s:Nat}
theorem OpV.le {o:Oper} {st:St} {y y':AV} (h:OpV P d o st y) (hl:Le y y'):OpV P d o st y':=fun G a w hrel Q' =>
 Fq (fun a w ⟨G',v,e,r,k,hrep⟩=>⟨G',v,e,r,k,hrep.le hl⟩) (h G a w hrel Q')
theorem Q.indexAddrSl {t e:TypeId} {x i:Operand} {o k n c off:Nat} {q:IntKind} {z:Int} {C:Bool} [i0:JU P t (.slice e)] [i1:JS P e k] (m:Nat) (hm:C=true→m<n) (hz:C=true→z=(m:Int):=by intro hB;first|rfl|omega) (ho:m*k=off:=by first|rfl|simp):OpW P d up own (.indexAddr t x i) C [.sl o k n c,.v (.int q z)] (.ptr o off):=fun hB=>fun hs=>by
 have e:=hz hB
 subst e;subst ho
 exact OpV.indexAddrSl i0.h i1.h (hm hB) (o1 hs) (o2 hs)
variable {l0:List Oper} {E:List Oper→(Nat→AV)→Prop} {kd:Nat}
/-- A struct that is built in a drawn region, whose nil slices are taken as empty ones. -/
theorem D.buildLe {t:TypeId} {fs:Array Field} {places:Array (Nat×Nat)} {parts:List (Nat×Operand)} {z:Value} {zs cs:List AV} {ys:List (Nat×AV)} (y':AV) (hle:Le (.agg cs) y') (hu:P.underlying t=some (.struct fs))
  (hpl:∀w,(fs.mapM (m:=Sem) fun f=>do Pure.pure (f.offset,←Go.sizeOf f.type)).run P w=.ok places w) (hz:∀w,(zeroValue t).run P w=.ok z w) (hr:ADraw P d l0 sz up own dfs rnd E kd rest (A6 s y' fr))
  (hzs:z.cells.toList.map Ch=zs:=by exact sL0) (hone:zs.all AV.one=true:=by exact sL2) (hys:(parts.map fun p=>(p.1,B5 fr p.2))=ys:=by exact sL0)
  (hf:En (fun i=>places[i]?) zs ys=some cs:=by simp [En,go_sem]<;>rfl) (hs:Nat.blt s sz=true:=by rfl):
  ADraw P d l0 sz up own dfs rnd E (kd+1) (⟨some s,.build t parts.toArray,ty,pos,aft,none⟩::rest) fr:=by
 subst hys
 refine ⟨s,_,rfl,by simpa using hs,fun f0 hag=>?_,hr⟩
 have e:(parts.map fun p=>(p.1,B5 fr p.2))=(parts.map fun p=>(p.1,B5 f0 p.2)):=U3 fun p hp=>by rw [agr hag (by simp [Op.operands];exact ⟨_,hp⟩)]
 rw [e] at hf
 refine OpV.le (y:=.agg cs) ?_ hle
 exact Zl hu hpl hz hzs.symm hone hf
end
end Go.SX
namespace Go.SX
variable [GI:GlobInv]
open Classical
variable {k:IntKind} {m:Int} {n:Nat} {t u:TypeId} {x y:Operand} {z:Value}
section
variable {P:Program} {d:Nat} {st:St} {ty:TypeId} {pos:String} {aft:Array Edge} {gd:Option (Nat×Bool)} {ats:Array TypeId}
/-- A call that is handed what slot r owns, as its argument i0; it leaves the objects alone. -/
theorem AOp.callT {g:FuncId} {xs:List Operand} {args:List AV} {r i0 s:Nat} {y:AV} (hcall:∀args w,(callFunc g args).run P w=.ok (.enter g args) w) (hx:xs[i0]? = some (.tmp r)) (hargs:(xs.map st.ev).set i0 (st.fr r)=args)
  (h:AFun P g args (st.up++st.own) y) (hs:s<st.sz):AOp P d ⟨some s,.call ⟨.value (.func g),xs.toArray,ats⟩,ty,pos,aft,gd⟩ st (·=(st.set r (st.fr r).strip).set s y):=by
 intro G a w hr Q'
 have hm:=(hr.slots r).moved (B:=.slot (d+1) i0)
 have hxr:=J8 hr xs
 obtain ⟨h0,k0⟩:=hr.giveSlot r (.slot (d+1) i0)
 subst hargs
 have hfv:a.eval (.func g)=.func (.func g) #[] #[]:=rfl
 have hrun:=Hi (dst:=some s) (ty:=ty) (pos:=pos) (aft:=aft) (gd:=gd) (ats:=ats) (xs:=xs) (w:=w) hcall hfv
 have ha:(#[]++(xs.map a.eval).toArray)++#[]=(xs.map a.eval).toArray:=by simp
 rw [ha] at hrun
 refine Hh (by intro c h;cases h) hrun (h d (G.retag (.slot d r) (.slot (d+1) i0)) w _ (by simp) (fun i z u hz hu=>?_) h0.heap h0.tags h0.top) ?_
 ·rw [Ia] at hz
  by_cases hi:i0=i
  ·subst hi
   rw [if_pos rfl] at hz
   split at hz
   ·injection hz with hz
    subst hz
    simp only [Ng,Cc,hx,Option.map_some] at hu
    injection hu with hu
    subst hu
    exact hm
   cases hz
  rw [if_neg hi] at hz
  exact ((hxr i z u hz hu).retag (by simp)).lift
 rintro e w' ⟨v,G',r',H',rfl,hrep,hH,hT,hk,hlen,rfl,rfl⟩
 have h3:=h0.called hH hT hk rfl rfl hr.defsAt hr.low
 obtain ⟨h4,k4⟩:=h3.took hrep (s:=s) hs
 exact ⟨v,rfl,_,_,h4,(k0.trans (hk.less (G8 d))).trans k4,rfl,rfl,rfl,rfl⟩
variable {sz:Nat} {fr:Nat→AV} {up own own':List AObj} {dfs:List Nat} {rnd:Option Nat} {Q:St→Prop} {ops:Array Oper} {rest:List Oper} {s:Nat}
theorem R.callT {g:FuncId} {xs:List Operand} {args:List AV} {y:AV} (i0 r:Nat) (hcall:∀args w,(callFunc g args).run P w=.ok (.enter g args) w) (h:AFun P g args (up++own) y) {z:AV} (hr:ARun P d ops rest ⟨sz,A6 s y (A6 r z fr),up,own,dfs,rnd⟩ Q)
  (hx:xs[i0]? = some (.tmp r):=by rfl) (ha:(xs.map (B5 fr)).set i0 (fr r)=args:=by exact sL0) (hz:(fr r).strip=z:=by exact sL0) (hs:Nat.blt s sz=true:=by rfl):
  ARun P d ops (⟨some s,.call ⟨.value (.func g),xs.toArray,ats⟩,ty,pos,aft,none⟩::rest) ⟨sz,fr,up,own,dfs,rnd⟩ Q:=by
 subst hz
 exact Zq rfl (AOp.callT (st:=⟨sz,fr,up,own,dfs,rnd⟩) hcall hx (by rw [←ha];simp [St.ev]<;>rfl) h (by simpa using hs)) hr
/-- A literal slice of one element of one cell, over an object of its own. -/
theorem AOp.buildSl1 {t e:TypeId} {zv z:Value} {x:Operand} {s n:Nat} (hu:P.underlying t=some (.slice e)) (hsz:∀w,(sizeOf e).run P w=.ok 1 w) (hz:∀w,(zeroValue e).run P w=.ok zv w) (hzc:zv.cells.size=1) (hx:st.ev x=.v z) (hc:z.cells=#[z]) (hn:st.own.length=n) (hs:s<st.sz):
  AOp P d ⟨some s,.buildSlice t 1 #[(0,x)],ty,pos,aft,gd⟩ st (·=({ st with own:=st.own++[.cells e [.v z]] }:St).set s (.sl (st.up.length+n) 1 1 1)):=by
 intro G a w h Q'
 have hx':=Bl h hx
 obtain ⟨G',h1,T,hb,hlt⟩:=Gw h e [.v z] #[z] rfl (fun j y u h1 h2=>by
  rcases j with _|j
  ·simp at h1 h2;subst h1;subst h2;exact .v _ _
  simp at h1)
 have hlen:(st.up++st.own).length=st.up.length+n:=by rw [Ai,hn]
 rw [hlen] at hb hlt
 obtain ⟨q,hq⟩:∃q,zv.cells=#[q]:=by
  match hh:zv.cells,hzc with
  | ⟨[q]⟩,_=>exact ⟨q,rfl⟩
 have hrun:(execOp a.eval (⟨some s,.buildSlice t 1 #[(0,x)],ty,pos,aft,gd⟩:Oper)).run P w=.ok (.value (.slice (some ⟨w.heap.size,0,none⟩) 1 1)) (w.alloc (.cells #[z] e)):=by
  simp [execOp,Instr.buildSlice,run_underlying hu,hsz,hz,newRow,Instr.fill,hx',hc,hq]
  refine congrArg (fun v=>w.alloc (.cells v e)) (Vw (by simp) fun j h1 h2=>?_)
  have:j=0:=by simp at h2;omega
  subst this
  simp
 refine Bx (by intro c h;cases h) hrun ⟨G',_,h1.put (s:=s) (y:=.sl (st.up.length+n) 1 1 1) hs ?_,T.keep d,rfl,rfl,rfl,rfl⟩
 rw [←hb]
 exact .sl _ _ _ _ _ hlt
/-- The elements of a full slice over object i of ours are written no more; the slot owns the slice: it may be appended to. -/
theorem StRel.freezeT {G:Gh} {a:Act} {w:World} (h:StRel d G st a w) {r i k:Nat} {t:TypeId} {cs xs:List AV} (hr:st.fr r=.sl (st.up.length+i) k xs.length xs.length) (ho:st.own[i]? = some (.cells t cs)) (hne:xs≠[])
  (hcs:cs.take (xs.length*k)=Gg xs) (hk:∀x∈xs,x.cells.length=k) (h1:∀x∈xs,∀y∈x.cells,y.one=true) (hst:∀x∈xs,∀y∈x.cells,y.strip=y):
  ∃G',StRel d G' { st with fr:=A6 r (.slice true k xs) st.fr,own:=st.own.set i .gone } a w∧Keep d G w G' w:=by
 obtain ⟨G',h',k'⟩:=h.freeze hr ho (Al _) hcs hk h1 hst
 refine ⟨G',⟨h'.size,fun s=>?_,h'.heap,h'.defs,h'.defsAt,h'.defsNodup,h'.defsGe,h'.tags,h'.rnd,h'.low,h'.top⟩,k'⟩
 have hv:=h'.slots s
 show Rep G' w _ (A6 r (.slice true k xs) st.fr s) _
 have hv:Rep G' w (some (.slot d s)) (A6 r (.slice false k xs) st.fr s) (a.tmps.getD s undef):=hv
 unfold A6 at hv ⊢
 by_cases hs:s=r
 ·subst hs
  rw [if_pos rfl] at hv ⊢
  have hsl:=h.slots s
  rw [hr] at hsl
  generalize a.tmps.getD s undef=v at hv hsl
  cases hsl with
  | sl l o k n c ho' =>
   cases hv with
   | sliceE=>exact absurd rfl hne
   | slice _ _ _ _ ad n c f e1 e2 e3 e4 e5 e6 e7 e8=>exact .slice _ true k xs _ _ _ f e1 e2 e3 e4 e5 e6 e7 (fun _=>⟨_,rfl,fun o h1 h2=>by omega⟩)
 rw [if_neg hs] at hv ⊢
 exact hv
theorem R.buildSl1 {t e:TypeId} {zv z:Value} {x:Operand} {n:Nat} (hu:P.underlying t=some (.slice e)) (hsz:∀w,(Go.sizeOf e).run P w=.ok 1 w) (hz:∀w,(Go.zeroValue e).run P w=.ok zv w) (hr:ARun P d ops rest ⟨sz,A6 s (.sl (oid up.length n) 1 1 1) fr,up,own',dfs,rnd⟩ Q)
  (hzc:zv.cells.size=1:=by rfl) (hx:B5 fr x=.v z:=by exact sL0) (hc:z.cells=#[z]:=by rfl) (hn:own.length=n:=by rfl) (ho:own++[.cells e [.v z]]=own':=by rfl) (hs:Nat.blt s sz=true:=by rfl):
  ARun P d ops (⟨some s,.buildSlice t 1 #[(0,x)],ty,pos,aft,none⟩::rest) ⟨sz,fr,up,own,dfs,rnd⟩ Q:=by
 subst ho
 exact Zq rfl (AOp.buildSl1 (st:=⟨sz,fr,up,own,dfs,rnd⟩) hu hsz hz hzc hx hc hn (by simpa using hs)) hr
theorem R.freezeT {l:List Oper} (r i:Nat) {k n:Nat} {t:TypeId} {cs:List AV} (xs:List AV) (hne:xs≠[]) (hn:n=xs.length) (hcs:cs.take (n*k)=Gg xs) (hk:∀x∈xs,x.cells.length=k) (h1:∀x∈xs,∀y∈x.cells,y.one=true) (hst:∀x∈xs,∀y∈x.cells,y.strip=y)
  (hr:ARun P d ops l ⟨sz,A6 r (.slice true k xs) fr,up,own',dfs,rnd⟩ Q) (hf:fr r=.sl (oid up.length i) k n n:=by exact sL0) (ho:own[i]? = some (.cells t cs):=by rfl) (hset:own.set i .gone=own':=by rfl):
  ARun P d ops l ⟨sz,fr,up,own,dfs,rnd⟩ Q:=by
 subst hset
 subst hn
 exact ARun.turnSt (fun G a w h=>h.freezeT (st:=⟨sz,fr,up,own,dfs,rnd⟩) hf ho hne hcs hk h1 hst) rfl rfl rfl hr
/-- A struct that is built, whose nil slices are taken as empty ones. -/
theorem R.buildLe {t:TypeId} {fs:Array Field} {places:Array (Nat×Nat)} {parts:List (Nat×Operand)} {z:Value} {zs cs:List AV} {ys:List (Nat×AV)} (y':AV) (hle:Le (.agg cs) y') (hu:P.underlying t=some (.struct fs))
  (hpl:∀w,(fs.mapM (m:=Sem) fun f=>do Pure.pure (f.offset,←Go.sizeOf f.type)).run P w=.ok places w) (hz:∀w,(zeroValue t).run P w=.ok z w) (hr:ARun P d ops rest ⟨sz,A6 s y' fr,up,own,dfs,rnd⟩ Q)
  (hzs:z.cells.toList.map Ch=zs:=by exact sL0) (hone:zs.all AV.one=true:=by exact sL2) (hys:(parts.map fun p=>(p.1,B5 fr p.2))=ys:=by exact sL0)
  (hf:En (fun i=>places[i]?) zs ys=some cs:=by simp [En,go_sem]<;>rfl) (hs:Nat.blt s sz=true:=by rfl):
  ARun P d ops (⟨some s,.build t parts.toArray,ty,pos,aft,none⟩::rest) ⟨sz,fr,up,own,dfs,rnd⟩ Q:=by
 subst hys
 exact Nk rfl rfl hs (OpV.le (Zl hu hpl hz hzs.symm hone hf) hle) hr
theorem OpV.shl {t u:TypeId} {x y:Operand} {k k':IntKind} {m:Int} {n:Nat} {dst:Option Tmp} {gd:Option (Nat×Bool)} (hx:st.ev x=.v (.int k m)) (hy:st.ev y=.v (.int k' n)) (hn:n≤k.bits):OpV P d ⟨dst,.binOp .shl t x y u,ty,pos,aft,gd⟩ st (.v (.int k (k.wrap (m*2 ^ n)))):=
 B6 (by intro c h;cases h) fun _ a w h=>⟨_,by
  have h0:¬((n:Int)<0):=by omega
  have h1:min ((n:Int).toNat) k.bits=n:=by simp;omega
  simp only [execOp,Bl h hx,Bl h hy,eqGuard,binOp,Op.shift,if_neg h0,h1]
  simp,.v _ _⟩
theorem Q.shl {k':IntKind} {C:Bool} (n:Nat) (hn:n≤k.bits:=by decide):OpW P d up own (.binOp .shl t x y u) C [.v (.int k m),.v (.int k' (n:Int))] (.v (.int k (k.wrap (m*2 ^ n)))):=fun hB=>fun hs=>OpV.shl (o1 hs) (o2 hs) hn
/-- The bits of either. -/
def ki (k:IntKind) (m n:Int):Int:=k.wrap ((BitVec.ofInt k.bits m ||| BitVec.ofInt k.bits n).toNat:Int)
theorem OpV.bor {t u:TypeId} {x y:Operand} {k:IntKind} {m n:Int} {dst:Option Tmp} {gd:Option (Nat×Bool)} (hx:st.ev x=.v (.int k m)) (hy:st.ev y=.v (.int k n)):OpV P d ⟨dst,.binOp .or t x y u,ty,pos,aft,gd⟩ st (.v (.int k (ki k m n))):=
 B6 (by intro c h;cases h) fun _ a w h=>⟨_,by simp [execOp,Bl h hx,Bl h hy,eqGuard,binOp,Op.intBits,ki],.v _ _⟩
theorem Q.or {n:Int} {C:Bool}:OpW P d up own (.binOp .or t x y u) C [.v (.int k m),.v (.int k n)] (.v (.int k (ki k m n))):=fun hB=>fun hs=>OpV.bor (o1 hs) (o2 hs)
end
end Go.SX
