/- On the way (part 7). -/
import Derived.Lib.ItoaLen
import Derived.Test.YtekiioamifokoaaGreatDoorRewriteForthCardSaidPart6
set_option linter.all false
namespace Go.SX.Nb
open Go Go.SX Go.Proofs
variable [ErrAt]
set_option maxRecDepth 4000
theorem c92 (l:List Col) (hl:l.length≤1000000) (Hp:List AObj):AFun Tryz.prog 92 [Ar l] Hp (Ar l):=by
 refine Ae [.tmp 2] [0] Tryz.func92 Tryz.ntmps92 (fun d=>?_)
 refine Z41 ?_;refine Z31 ?_
 refine R.eqlNil jU (by kernel_rfl) (fun b hb=>?_)
 refine A2 [0,4] ?_
 refine A4 (fun ht4=>?_) (fun ht4=>?_)
 ·have hl0:l=[]:=by simpa using hb ht4
  subst hl0
  refine Z2 ?_;refine Md 2 2 false ?_;refine Z4 ?_;exact ALo
 refine Z3 ?_;refine Z40 ?_;refine A5 ?_
 refine Ek jU Tryz.type69 ?_ ?_ ?_
 ·simp [Tryz.t69];omega
 ·simp [Tryz.t69];omega
 refine I0 ?_;exact ALt

theorem ACb {Hp:List AObj} {y:Col} {n:Nat} (h:∀x∈Hp,ObjLow Hp.length x):∀x∈Hp++[AObj.cells 69 [],AObj.cells 69 (Ac y.name::A3 y.kind::List.replicate n AV.any)],ObjLow (Hp.length+2) x:=by
 intro x hx
 rcases E4.1 hx with hx|hx
 ·exact Nl (by omega) (h x hx)
 simp only [B3,Et,or_false] at hx
 rcases hx with rfl|rfl
 ·intro z hz;cases hz
 intro z hz
 simp only [B3] at hz
 rcases hz with rfl|rfl|hz
 ·simp
 ·simp
 rw [List.eq_of_mem_replicate hz];simp
theorem APw (y:Col) (Hp:List AObj):ACallO Tryz.prog 92 [Ar [y]] Hp (fun r H'=>∃cc,1≤cc∧r=.sl (oid Hp.length 1) 2 1 cc∧H'=Hp++[.cells 69 [],.cells 69 (Ac y.name::A3 y.kind::List.replicate ((cc-1)*2) AV.any)]):=by
 refine ACallO.body [.tmp 2] [0] Tryz.func92 Tryz.ntmps92 (fun d=>?_)
 refine Z41 ?_;refine Z62 ?_
 refine Ma (fun hlow=>?_)
 refine A5 ?_
 refine R.eqlNil jU (by kernel_rfl) (fun b hb=>?_)
 refine A2 [0,4] ?_
 refine A4 (fun ht4=>?_) (fun ht4=>?_)
 ·exact absurd (hb ht4) (by simp)
 refine j9 ?_;refine R.buildObj0 (n:=0) jU Tryz.sizeOf69 ?_;refine A5 ?_
 refine R.appendObj (k:=2) (n:=1) jU Tryz.type69 (show [C2 y]≠[] by simp) ?_ ?_ (fun cc hcc=>?_)
 ·simp [Tryz.t69]
 ·simp
 have e0:O7 [C2 y]++List.replicate ((cc-[C2 y].length)*2) AV.any=Ac y.name::A3 y.kind::List.replicate ((cc-1)*2) AV.any:=rfl
 rw [e0]
 clear e0
 refine A5 ?_;refine Z4 ?_;exact K.finO 2 (A7 (t:=2)) ⟨cc,hcc,rfl,rfl⟩ (hlow:=by simp [oid]) (hobj:=ACb hlow)

theorem AN6 (c:List Col) (hc:OkCols c) (m:Mov) (h:OkMov m) (h3:(m.kind==3)=false) (Hp:List AObj):AFun Tryz.prog 164 [Ar c,Ie m] Hp (Ar (Bt c m)):=by
 refine Ae [.tmp 4] [0,1] Tryz.func164 Tryz.ntmps164 (fun d=>?_)
 refine AA5 ?_;refine Z1 ?_;refine A9 Tryz.call92 (c92 m.give h.gives2 _) ?_;refine A5 ?_;refine A2 [0,3,5] ?_;refine Z30 ?_;refine A2 [0,3,5,12] ?_
 refine A4 (fun ht12=>?_) (fun ht12=>?_)
 ·rw [h3] at ht12;cases ht12
 refine Ni ?_;refine Z13 ?_;exact Aa (Ai A7) ⟨by rw [AFp h3]<;>rfl,rfl⟩

theorem AN7 (c:List Col) (hc:OkCols c) (m:Mov) (h:OkMov m) (h3:(m.kind==3)=true) (s:Str) (y:Col) (ht:m.take=[s]) (hg:m.give=[y]) (Hp:List AObj):AFun Tryz.prog 164 [Ar c,Ie m] Hp (Ar (Bt c m)):=by
 have hgv:=AFq (c:=c) h3 ht hg
 have hgy:=AC9 (c:=c) h3 ht hg
 obtain ⟨kd,tk,gv,ah,bk⟩:=m
 simp only at ht hg h3
 subst ht hg
 refine Ae [.tmp 4] [0,1] Tryz.func164 Tryz.ntmps164 (fun d=>?_)
 refine AA5 ?_;refine Z1 ?_;refine R.callO Tryz.call92 (APw y _) ?_
 rintro _ _ ⟨cc,hcc,rfl,rfl⟩
 refine ⟨[.cells 69 [],.cells 69 (Ac y.name::A3 y.kind::List.replicate ((cc-1)*2) AV.any)],by simp,?_⟩
 simp only [Gm,E5]
 refine A5 ?_;refine A2 [0,3,5] ?_;refine Z30 ?_;refine A2 [0,3,5,12] ?_
 refine A4 (fun ht12=>?_) (fun ht12=>?_)
 ·refine Z15 ?_
  refine A5 (h:=Ah (0) (Ac s) (fun _=>rfl)) (hr:=?_)
  refine A5 ?_;refine A9 Tryz.call60 (c60 c hc s _) ?_;refine A5 ?_;refine A2 [0,5,6] ?_;refine Z1 ?_;refine A2 [0,5,6,20] ?_
  refine A4 (fun ht20=>?_) (fun ht20=>?_)
  ·have hf:¬Ay s c<0:=by simp at ht20;omega
   obtain ⟨jj,hjj,hjc⟩:=Gi hf
   refine Z47 ?_
   refine A5 (h:=Ah ((Ay s c).toNat) (C2 (c.getD (Ay s c).toNat ⟨[],0⟩)) (fun _=>su hf)) (hr:=?_)
   refine Z0 ?_;refine R.indexAddrSl (n:=1) 0 jU Tryz.sizeOf69 (by decide) ?_
   refine A5 (h:=Q.fieldAddrPtr (hc:=rfl)) (hr:=?_)
   refine R.storeOwn (y:=A3 (c.getD (Ay s c).toNat ⟨[],0⟩).kind) (ys:=[A3 (c.getD (Ay s c).toNat ⟨[],0⟩).kind]) (n:=1) (cs:=Ac y.name::A3 y.kind::List.replicate ((cc-1)*2) AV.any) (cs':=Ac y.name::A3 (c.getD (Ay s c).toNat ⟨[],0⟩).kind::List.replicate ((cc-1)*2) AV.any) (t':=69) jS ?_ (hc:=rfl) (hput:=rfl) (hfit:=by simp)
   refine A2 [5] ?_;refine H4 ?_;refine Ez ?_;refine R.freeze (k:=2) (n:=1) 5 1 [C2 ⟨y.name,(c.getD (Ay s c).toNat ⟨[],0⟩).kind⟩] hcc rfl rfl (la [⟨y.name,(c.getD (Ay s c).toNat ⟨[],0⟩).kind⟩]) (lb [⟨y.name,(c.getD (Ay s c).toNat ⟨[],0⟩).kind⟩]) (Ym [⟨y.name,(c.getD (Ay s c).toNat ⟨[],0⟩).kind⟩]) ?_;refine Z0 ?_;exact AKv
  have hf:Ay s c<0:=by simp at ht20;omega
  refine j9 ?_;refine R.freeze (k:=2) (n:=1) 5 1 [C2 ⟨y.name,y.kind⟩] hcc rfl rfl (la [⟨y.name,y.kind⟩]) (lb [⟨y.name,y.kind⟩]) (Ym [⟨y.name,y.kind⟩]) ?_;refine Z0 ?_;exact AKv
 rw [h3] at ht12;cases ht12

/-- What a move must have before it is turned. -/
structure MvOk (m:Mov):Prop where
 ok:OkMov m
 ahead:m.ahead.length=m.give.length
 back:m.back.length=m.take.length
 one:(m.kind==3)=true→m.take.length=1∧m.give.length=1
theorem AFr {m:Mov} (h:OkMov m) (hc:Gx m=true):MvOk m:=⟨h,(I4 hc).1,(I4 hc).2,fun h3=>Yj hc (by rw [h3];rfl)⟩
theorem APx (c:List Col) (hc:OkCols c) (m:Mov) (h:MvOk m) (Hp:List AObj):AFun Tryz.prog 164 [Ar c,Ie m] Hp (Ar (Bt c m)):=by
 cases h3:m.kind==3 with
 | false=>exact AN6 c hc m h.ok h3 Hp
 | true =>
  obtain ⟨h1,h2⟩:=h.one h3
  obtain ⟨s,hs⟩:=ACa h1
  obtain ⟨y,hy⟩:=ACa h2
  exact AN7 c hc m h.ok h3 s y hs hy Hp
theorem lc {c:List Col} {m:Mov} (h:OkMov m):OkCols (Bt c m):=by
 refine ⟨by rw [Ji];exact Hu h.gives2 (by decide),fun y hy=>?_⟩
 unfold Bt at hy
 split at hy
 ·split at hy
  ·exact h.gives.2 y hy
  cases hg:m.give with
  | nil=>rw [hg] at hy;cases hy
  | cons z r =>
   rw [hg] at hy
   rcases B3.1 hy with rfl|hy
   ·exact h.gives.2 z (by rw [hg];exact Gw)
   exact h.gives.2 y (by rw [hg];exact Jp _ hy)
 exact h.gives.2 y hy
theorem lf {c give:List Col} {take:List Str} (hc:OkCols c) (hg:OkCols give) (hg2:give.length≤1000000):OkCols (Dn c take give).1:=by
 have h0:OkCols ([]:List Col):=⟨by decide,fun y hy=>by cases hy⟩
 unfold Dn
 split
 ·exact h0
 rename_i hr
 split
 ·exact h0
 split
 ·exact h0
 split
 ·exact h0
 split
 ·exact h0
 exact ABn hc (by simpa using hr) hg hg2 rfl
theorem pj {c give:List Col} {take:List Str} (h:((Dn c take give).2 != 0)=false):∀s∈take,¬Ay s c<0:=by
 have ht:Iq c take=true:=by
  unfold Dn at h
  split at h
  ·cases h
  split at h
  ·cases h
  rename_i ht
  simpa using ht
 intro s hs hf
 obtain ⟨j,hj⟩:=C6 hs
 have:=takenM_true.1 ht j s hj
 unfold Q7 at this
 rw [show decide (Ay s c<0)=true by simpa using hf] at this
 simp at this
theorem x8 {over:List Col} {l:List Expr} {w:List Col} {x:Nat} (hl:x<l.length) (hw:x<w.length):
  Cs over (l.drop x) (w.drop x)=if Qk l[x] over w[x].kind != 0 then Qk l[x] over w[x].kind else Cs over (l.drop (x+1)) (w.drop (x+1)):=by
 rw [Ig hl,Ig hw]
 rfl
theorem ACc {over:List Col} {l:List Expr} {w:List Col} {x:Nat} (hl:l.length≤x):Cs over (l.drop x) (w.drop x)=0:=by
 rw [List.drop_eq_nil_of_le hl]
 cases w.drop x<;>rfl
theorem Mz {α β:Type} {f:α→β} {l:List α} {x:Nat} (h:x<l.length):(l.take (x+1)).map f=(l.take x).map f++[f l[x]]:=by
 rw [Kl h,Bj];rfl
theorem sw {c:List Col} {m:Mov} (h:((Dn c m.take (Bt c m)).2 != 0)=true):C9 c m=([],(Dn c m.take (Bt c m)).2):=if_pos h
theorem sx {c:List Col} {m:Mov} (h:((Dn c m.take (Bt c m)).2 != 0)=false) (h2:(Cs c m.ahead (Bt c m) != 0)=true):C9 c m=([],Cs c m.ahead (Bt c m)):=by
 unfold C9;rw [if_neg (by rw [h];simp),if_pos h2]
theorem sy {c:List Col} {m:Mov} (h:((Dn c m.take (Bt c m)).2 != 0)=false) (h2:(Cs c m.ahead (Bt c m) != 0)=false) (h3:(Cs (Dn c m.take (Bt c m)).1 m.back (Iu c m) != 0)=true):C9 c m=([],Cs (Dn c m.take (Bt c m)).1 m.back (Iu c m)):=by
 unfold C9;rw [if_neg (by rw [h];simp),if_neg (by rw [h2];simp),if_pos h3]
theorem t4 {c:List Col} {m:Mov} (h:((Dn c m.take (Bt c m)).2 != 0)=false) (h2:(Cs c m.ahead (Bt c m) != 0)=false) (h3:(Cs (Dn c m.take (Bt c m)).1 m.back (Iu c m) != 0)=false):C9 c m=((Dn c m.take (Bt c m)).1,0):=by
 unfold C9;rw [if_neg (by rw [h];simp),if_neg (by rw [h2];simp),if_neg (by rw [h3];simp)]
theorem AN8 (l:List Expr) (h:OkEs l) (w:List Col) (hw:w.length=l.length) (c:List Col) (hc:OkCols c) (Hp:List AObj):AFun Tryz.prog 166 [Cm l,Ar w,Ar c] Hp (A3 (Cs c l w)):=by
 refine Ae [.tmp 6] [0,1,2] Tryz.func166 Tryz.ntmps166 (fun d=>?_)
 refine Z2 ?_;refine Zu ?_;refine Z30 ?_;refine A2 [1,2,11,12,13] ?_
 refine Bg (α:=Nat) (fun x=>⟨37,A6 1 (Ar w) (A6 2 (Ar c) (A6 11 (Cm l) (A6 12 (A3 (l.length:Nat)) (A6 13 (A3 (x:Nat)) (fun _=>.any))))),Hp,[],[],none⟩) (fun x=>x≤l.length∧Cs c l w=Cs c (l.drop x) (w.drop x)) (fun x=>l.length-x) (0) ⟨Aq _,rfl⟩ (Bl (by simp)) rfl (fun x hx=>?_)
 refine Z2 ?_;refine A2 [1,2,11,12,13,14] ?_
 refine Co (fun ht14=>?_) (fun ht14=>?_)
 ·have hlt:x<l.length:=by simpa using ht14
  have hlw:x<w.length:=by omega
  have hlen:=h.len
  have hst:=x8 (over:=c) hlt hlw
  refine Qg ?_
  refine A5 (h:=Ah (x) (A8 l[x]) (fun _=>B7 hlt)) (hr:=?_)
  refine ja ?_;refine A2 [1,2,7,8,11,12,13] ?_;refine Z7 ?_;refine A9 Tryz.call62 (c62 61 l[x] (h.ok _ (Bf hlt)) (by decide) c hc _) ?_;refine Z75 ?_;refine A2 [1,2,7,8,10,11,12,13] ?_;refine Z1 ?_;refine A2 [1,2,7,8,10,11,12,13,25] ?_
  refine A4 (fun ht25=>?_) (fun ht25=>?_)
  ·have he:Qk l[x] c w[x].kind=(Ft l[x] c).2:=if_pos ht25
   have hm:Cs c l w=(Ft l[x] c).2:=by rw [hx.2,hst,he,if_pos ht25]
   refine Z1 ?_;refine ve ?_;exact X6
  refine Z3 ?_;refine Ea [0,0,0,0,12,28,60,127,255] 7 Ak (by kernel_rfl) ?_;refine W3 ?_
  refine As (h:=Ah (x) (C2 w[x]) (fun _=>B7 hlw)) (hr:=?_)
  refine Z90 ?_;refine A9 Tryz.call63 (c63 61 l[x] (h.ok _ (Bf hlt)) (by decide) c hc w[x].kind _) ?_;refine A5 ?_;refine A2 [1,2,11,12,13,35] ?_
  refine A4 (fun ht35=>?_) (fun ht35=>?_)
  ·have he:Qk l[x] c w[x].kind=10:=by unfold Qk;rw [if_neg (by rw [ht25];simp),if_pos ht35]
   have hm:Cs c l w=10:=by rw [hx.2,hst,he];rfl
   refine Z2 ?_;refine Z76 ?_;exact X6
  have he:Qk l[x] c w[x].kind=0:=by unfold Qk;rw [if_neg (by rw [ht25];simp),if_neg (by rw [ht35];simp)]
  have hnx:Cs c l w=Cs c (l.drop (x+1)) (w.drop (x+1)):=by rw [hx.2,hst,he];rfl
  refine Z68 ?_;refine A2 [1,2,11,12,13] ?_;refine Bm (x+1) ⟨hlt,hnx⟩ (by omega) ?_
  exact D0 (own:=[]) (fun _=>.refl _) (by repeat (first|exact Bc|refine Bb (by first|(simp [or_imp,forall_and];done)|exact D5) ?_)) (by simp) (by simp)
 have hxe:l.length≤x:=by simpa using ht14
 have hm:Cs c l w=0:=by rw [hx.2,ACc hxe]
 refine nq ?_;refine Z76 ?_;exact vq

theorem APy (c:List Col) (hc:OkCols c) (m:Mov) (h:OkMov m) (hf:∀s∈m.take,¬Ay s c<0) (Hp:List AObj):AFun Tryz.prog 167 [Ar c,Ie m] Hp (Ar (Iu c m)):=by
 refine Ae [.tmp 4] [0,1] Tryz.func167 Tryz.ntmps167 (fun d=>?_)
 refine AA5 ?_;refine Z2 ?_;refine A2 [0,3,5] ?_;refine Z62 ?_;refine P0 5 2 ?_;refine Z58 ?_;refine A2 [0,5,9,10,11] ?_
 refine Bg (α:=Nat) (fun x=>⟨26,A6 0 (Ar c) (A6 5 (.slice true 2 (((m.take.take x).map fun s=>c.getD (Ay s c).toNat ⟨[],0⟩).map C2)) (A6 9 (Fq m.take) (A6 10 (A3 (m.take.length:Nat)) (A6 11 (A3 (x:Nat)) (fun _=>.any))))),Hp,[],[],none⟩) (fun x=>x≤m.take.length) (fun x=>m.take.length-x) (0) (Aq _) (Bl (by simp)) rfl (fun x hx=>?_)
 refine Z2 ?_;refine A2 [0,5,9,10,11,12] ?_
 refine Co (fun ht12=>?_) (fun ht12=>?_)
 ·have hlt:x<m.take.length:=by simpa using ht12
  have htk:=h.takes
  have hfx:=hf _ (Bf hlt)
  obtain ⟨jj,hjj,hjc⟩:=Gi hfx
  refine Z77 ?_
  refine A5 (h:=Ah (x) (Ac m.take[x]) (fun _=>B7 hlt)) (hr:=?_)
  refine Z0 ?_;refine A2 [0,5,7,9,10,11] ?_;refine fe ?_;refine Z12 ?_;refine A9 Tryz.call60 (c60 c hc m.take[x] _) ?_
  refine A5 (h:=Ah ((Ay m.take[x] c).toNat) (C2 (c.getD (Ay m.take[x] c).toNat ⟨[],0⟩)) (fun _=>su hfx)) (hr:=?_)
  refine Z71 ?_
  refine Ek jU Tryz.type69 ?_ ?_ ?_
  ·simp only [An,C0,B2,Bz,Tryz.t69];omega
  ·simp only [An,C0,B2,Bz,Tryz.t69];omega
  refine I0 ?_;refine A2 [0,5,9,10,11] ?_;refine R9 ?_;refine A2 [0,5,9,10,11] ?_
  refine Bm (x+1) hlt (by omega) (Ds ?_)
  rw [Mz hlt,Bj]
  rfl
 have hxe:m.take.length≤x:=by simpa using ht12
 refine Z27 ?_;refine j5 ?_;exact Aa (Ai A7) ⟨by unfold Iu;rw [Ej hxe]<;>rfl,rfl⟩ (hlow:=Ef)

theorem APz (c:List Col) (hc:OkCols c) (m:Mov) (h:MvOk m) (Hp:List AObj):AFun Tryz.prog 128 [Ar c,Ie m] Hp (.tup [Ar (C9 c m).1,A3 (C9 c m).2]):=by
 refine Ae [.tmp 4,.tmp 5] [0,1] Tryz.func128 Tryz.ntmps128 (fun d=>?_)
 refine Z15 ?_;refine Mn ?_;refine Z1 ?_;refine A9 Tryz.call164 (APx c hc m h _) ?_;refine A5 ?_;refine A2 [0,3,6] ?_;refine Ez ?_
 have hg:=lc (c:=c) h.ok
 have hg2:(Bt c m).length≤1000000:=by rw [Ji];exact h.ok.gives2
 refine Z58 ?_;refine A9 Tryz.call165 (APv c hc m.take h.ok.takes (Bt c m) hg hg2 _) ?_;refine Z75 ?_;refine A2 [0,3,6,7,8] ?_;refine Z7 ?_;refine A2 [0,3,6,7,8,23] ?_
 refine A4 (fun ht23=>?_) (fun ht23=>?_)
 ·have hm:=sw ht23
  exact AEk
 refine Z3 ?_;refine Z88 ?_;refine A9 Tryz.call166 (AN8 m.ahead h.ok.ahead (Bt c m) (by rw [Ji,h.ahead]) c hc _) ?_;refine A5 ?_;refine A2 [0,3,7,9] ?_;refine Z1 ?_;refine A2 [0,3,7,9,31] ?_
 refine A4 (fun ht31=>?_) (fun ht31=>?_)
 ·have hm:=sx ht23 ht31
  exact AEk
 refine Z3 ?_;refine K9 ?_;refine Ea [0,1,0,0,12,0,63,127] 6 Ak (by kernel_rfl) ?_;refine W3 ?_;refine Dx Tryz.call167 (APy c hc m h.ok (pj ht23) _) ?_;refine As ?_;refine Gq ?_;refine A9 Tryz.call166 (AN8 m.back h.ok.back (Iu c m) (by rw [Iu,An,h.back]) (Dn c m.take (Bt c m)).1 (lf hc hg hg2) _) ?_;refine A5 ?_;refine A2 [7,10] ?_;refine Z1 ?_;refine A2 [7,10,41] ?_
 refine A4 (fun ht41=>?_) (fun ht41=>?_)
 ·have hm:=sy ht23 ht31 ht41
  exact AEk
 have hm:=t4 ht23 ht31 ht41
 refine Rb ?_;exact ALa

def Pj {α:Type} (p:α→Bool) (l:List α):Int:=if l.any p then (l.findIdx p:Int) else -1
theorem ACd {α:Type} {p:α→Bool} {l:List α} {i:Nat} (h:i<l.length) (hn:p l[i]=true) (hp:∀(j:Nat) (y:α),j<i→l[j]? = some y→p y=false):(i:Int)=Pj p l:=by
 unfold Pj
 rw [if_pos (Fi.2 ⟨_,Bf h,hn⟩)]
 congr 1
 refine (n5 h |>.2 ⟨hn,fun j hj=>?_⟩).symm
 exact hp j (l[j]'(by omega)) hj (Ab (by omega))
theorem pk {α:Type} {p:α→Bool} {l:List α} (h:l.any p=false):(-1:Int)=Pj p l:=by
 unfold Pj
 rw [if_neg (by rw [h];simp)]
theorem x9 {α:Type} (p:α→Bool) (l:List α):decide (0≤Pj p l)=l.any p:=by
 unfold Pj
 cases l.any p<;>simp
def Pk (s:Str):Bool := !(Dy s)
def E0 (e:Expr):Bool := !(Au e)
theorem ACe {m:Mov} (h:(((m.ahead.length:Int) != (m.give.length:Int)) || ((m.back.length:Int) != (m.take.length:Int)))=true):Gx m=false:=if_pos h
theorem ACf {m:Mov} (h:(((m.ahead.length:Int) != (m.give.length:Int)) || ((m.back.length:Int) != (m.take.length:Int)))=false):Gx m=if m.kind==1 then ((m.take.length:Int)==0)&&((m.give.length:Int)==1)
 else if m.kind==2 then ((m.take.length:Int)==1)&&((m.give.length:Int)==0)
 else if (m.kind==3) || (m.kind==6) then ((m.take.length:Int)==1)&&((m.give.length:Int)==1)
 else if m.kind==4 then ((m.take.length:Int)==1)&&decide ((1:Int)<(m.give.length:Int))
 else if m.kind==5 then decide ((1:Int)<(m.take.length:Int))&&((m.give.length:Int)==1)
 else false:=if_neg (by rw [h];simp)
theorem AQ0 (m:Mov) (Hp:List AObj):AFun Tryz.prog 206 [Ie m] Hp (B0 (Gx m)):=by
 refine Ae [.tmp 2] [0] Tryz.func206 Tryz.ntmps206 (fun d=>?_)
 refine Z97 ?_;refine Ea [0,1,3,0,8,24,7,127] 7 Ak (by kernel_rfl) ?_;refine W3 ?_;refine Z33 ?_;refine Gq ?_;refine A5 ?_;refine A2 [1,3,4] ?_;refine Z62 ?_
 simp only [An]
 refine Z58 ?_;refine Z85 ?_;refine Z53 ?_;refine A2 [1,3,4,22] ?_
 refine A4 (fun ht22=>?_) (fun ht22=>?_)
 ·simp only [An] at ht22
  have hm:=ACe ht22
  exact AA1
 simp only [An] at ht22
 have hn:=ACf ht22
 refine ji ?_;refine A2 [3,4,24] ?_;refine W0 ?_;refine A2 [3,4,24,25] ?_
 refine A4 (fun ht25=>?_) (fun ht25=>?_)
 ·refine fp ?_;refine np ?_;exact Aa (Ai A7) ⟨by rw [hn];first|(simp only [ht22,ht25,hk3,hk6,L3,F1,L2,Of,if_true,if_false,Bd,↓reduceIte]<;>rfl)|(simp only [ht22,ht25,hk3,L3,F1,L2,if_true,if_false,Bd,↓reduceIte]<;>rfl)|(simp only [ht22,ht25,if_true,if_false,Bd,↓reduceIte]<;>rfl),rfl⟩
 refine Z1 ?_;refine A2 [3,4,24,33] ?_
 refine A4 (fun ht33=>?_) (fun ht33=>?_)
 ·refine fp ?_;refine np ?_;exact Aa (Ai A7) ⟨by rw [hn];first|(simp only [ht22,ht25,ht33,hk3,hk6,L3,F1,L2,Of,if_true,if_false,Bd,↓reduceIte]<;>rfl)|(simp only [ht22,ht25,ht33,hk3,L3,F1,L2,if_true,if_false,Bd,↓reduceIte]<;>rfl)|(simp only [ht22,ht25,ht33,if_true,if_false,Bd,↓reduceIte]<;>rfl),rfl⟩
 refine Z7 ?_;refine A2 [3,4,24,41] ?_
 refine A4 (fun ht41=>?_) (fun ht41=>?_)
 ·have hk3:=ht41
  refine Z3 ?_
  refine A4 (fun ht41=>?_) (fun ht41=>?_)
  ·refine fp ?_;refine Z65 ?_;exact Z49
  rw [hk3] at ht41;cases ht41
 have hk3:=ht41
 refine Z22 ?_;refine A2 [3,4,24,41] ?_;refine H4 ?_
 refine A4 (fun ht41=>?_) (fun ht41=>?_)
 ·have hk6:=ht41
  refine fp ?_;refine Z65 ?_;exact Z49
 have hk6:=ht41
 refine Z1 ?_;refine A2 [3,4,24,50] ?_
 refine A4 (fun ht50=>?_) (fun ht50=>?_)
 ·refine fp ?_;refine np ?_;exact Aa (Ai A7) ⟨by rw [hn];first|(simp only [ht22,ht25,ht33,ht41,ht41,ht50,hk3,hk6,L3,F1,L2,Of,if_true,if_false,Bd,↓reduceIte]<;>rfl)|(simp only [ht22,ht25,ht33,ht41,ht41,ht50,hk3,L3,F1,L2,if_true,if_false,Bd,↓reduceIte]<;>rfl)|(simp only [ht22,ht25,ht33,ht41,ht41,ht50,if_true,if_false,Bd,↓reduceIte]<;>rfl),rfl⟩
 refine Z1 ?_;refine A2 [3,4,58] ?_
 refine A4 (fun ht58=>?_) (fun ht58=>?_)
 ·refine fp ?_;refine np ?_;exact AM5
 refine Z20 ?_;refine Z42 ?_;exact AM5

theorem AQ1 (s:Str) (hs:s.length≤1048576) (Hp:List AObj):AFun Tryz.prog 208 [Ac s] Hp (B0 (Pk s)):=by
 refine Ae [.tmp 2] [0] Tryz.func208 Tryz.ntmps208 (fun d=>?_)
 refine Z41 ?_;refine Z2 ?_;exact ALu

theorem AQ2 (e:Expr) (hok:okE 61 e) (Hp:List AObj):AFun Tryz.prog 207 [A8 e] Hp (B0 (E0 e)):=by
 refine Ae [.tmp 2] [0] Tryz.func207 Tryz.ntmps207 (fun d=>?_)
 refine Z97 ?_;refine Z2 ?_;exact AI5

theorem AQ3 (e:Expr) (hok:okE 61 e) (Hp:List AObj):AFun Tryz.prog 160 [A8 e] Hp (B0 (E0 e)):=by
 refine Ae [.tmp 2] [0] Tryz.func160 Tryz.ntmps160 (fun d=>?_)
 refine Z97 ?_;refine Z2 ?_;exact AI5

theorem AQ4 (l:List Str) (hl:l.length≤1048576) (hn:∀s∈l,s.length≤1048576) (Hp:List AObj):AFun Tryz.prog 106 [Fq l,.fn (.func 208) [] []] Hp (A3 (Pj Pk l)):=by
 refine Ae [.tmp 4] [0,1] Tryz.func106 Tryz.ntmps106 (fun d=>?_)
 refine fk ?_
 refine Bg (α:=Nat) (fun x=>⟨19,A6 0 (Fq l) (A6 1 (.fn (.func 208) [] []) (A6 7 (A3 l.length) (A6 8 (A3 (x:Nat)) (fun _=>.any)))),Hp,[],[],none⟩) (fun x=>x≤l.length∧∀(j:Nat) y,j<x→l[j]? = some y→Pk y=false) (fun x=>l.length-x) (0) ⟨Aq _,fun j y h=>by omega⟩ (Bl (by simp)) rfl (fun x hx=>?_)
 refine f9 ?_
 refine Co (fun ht9=>?_) (fun ht9=>?_)
 ·have hlt:x<l.length:=by simpa using ht9
  refine fm ?_
  refine A5 (h:=Ah (x) (Ac l[x]) (fun _=>B7 hlt)) (hr:=?_)
  refine A5 ?_;refine Na Tryz.call208 (AQ1 l[x] (hn _ (Bf hlt)) _) ?_;refine fw ?_
  refine A4 (fun ht16=>?_) (fun ht16=>?_)
  ·exact zy
  exact AA2
 have hxe:l.length≤x:=by simpa using ht9
 exact AA3

theorem c58 (l:List Str) (hl:l.length≤1048576) (hn:∀s∈l,s.length≤1048576) (Hp:List AObj):AFun Tryz.prog 58 [Fq l,.fn (.func 208) [] []] Hp (B0 (l.any Pk)):=by
 refine Ae [.tmp 4] [0,1] Tryz.func58 Tryz.ntmps58 (fun d=>?_)
 refine fu ?_;refine A9 Tryz.call106 (AQ4 l hl hn _) ?_;exact AA6

theorem AN9 (l:List Expr) (hl:l.length≤1048576) (hn:∀e∈l,okE 61 e) (Hp:List AObj):AFun Tryz.prog 98 [Cm l,.fn (.func 207) [] []] Hp (A3 (Pj E0 l)):=by
 refine Ae [.tmp 4] [0,1] Tryz.func98 Tryz.ntmps98 (fun d=>?_)
 refine fk ?_
 refine Bg (α:=Nat) (fun x=>⟨19,A6 0 (Cm l) (A6 1 (.fn (.func 207) [] []) (A6 7 (A3 l.length) (A6 8 (A3 (x:Nat)) (fun _=>.any)))),Hp,[],[],none⟩) (fun x=>x≤l.length∧∀(j:Nat) y,j<x→l[j]? = some y→E0 y=false) (fun x=>l.length-x) (0) ⟨Aq _,fun j y h=>by omega⟩ (Bl (by simp)) rfl (fun x hx=>?_)
 refine f9 ?_
 refine Co (fun ht9=>?_) (fun ht9=>?_)
 ·have hlt:x<l.length:=by simpa using ht9
  refine fm ?_
  refine A5 (h:=Ah (x) (A8 l[x]) (fun _=>B7 hlt)) (hr:=?_)
  refine A5 ?_;refine Na Tryz.call207 (AQ2 l[x] (hn _ (Bf hlt)) _) ?_;refine fw ?_
  refine A4 (fun ht16=>?_) (fun ht16=>?_)
  ·exact zy
  exact AA2
 have hxe:l.length≤x:=by simpa using ht9
 exact AA3

theorem AHo (l:List Expr) (hl:l.length≤1048576) (hn:∀e∈l,okE 61 e) (Hp:List AObj):AFun Tryz.prog 51 [Cm l,.fn (.func 207) [] []] Hp (B0 (l.any E0)):=by
 refine Ae [.tmp 4] [0,1] Tryz.func51 Tryz.ntmps51 (fun d=>?_)
 refine fu ?_;refine A9 Tryz.call98 (AN9 l hl hn _) ?_;exact AA6

theorem ANa (l:List Expr) (hl:l.length≤1048576) (hn:∀e∈l,okE 61 e) (Hp:List AObj):AFun Tryz.prog 98 [Cm l,.fn (.func 160) [] []] Hp (A3 (Pj E0 l)):=by
 refine Ae [.tmp 4] [0,1] Tryz.func98 Tryz.ntmps98 (fun d=>?_)
 refine fk ?_
 refine Bg (α:=Nat) (fun x=>⟨19,A6 0 (Cm l) (A6 1 (.fn (.func 160) [] []) (A6 7 (A3 l.length) (A6 8 (A3 (x:Nat)) (fun _=>.any)))),Hp,[],[],none⟩) (fun x=>x≤l.length∧∀(j:Nat) y,j<x→l[j]? = some y→E0 y=false) (fun x=>l.length-x) (0) ⟨Aq _,fun j y h=>by omega⟩ (Bl (by simp)) rfl (fun x hx=>?_)
 refine f9 ?_
 refine Co (fun ht9=>?_) (fun ht9=>?_)
 ·have hlt:x<l.length:=by simpa using ht9
  refine fm ?_
  refine A5 (h:=Ah (x) (A8 l[x]) (fun _=>B7 hlt)) (hr:=?_)
  refine A5 ?_;refine Na Tryz.call160 (AQ3 l[x] (hn _ (Bf hlt)) _) ?_;refine fw ?_
  refine A4 (fun ht16=>?_) (fun ht16=>?_)
  ·exact zy
  exact AA2
 have hxe:l.length≤x:=by simpa using ht9
 exact AA3

theorem ANb (l:List Expr) (hl:l.length≤1048576) (hn:∀e∈l,okE 61 e) (Hp:List AObj):AFun Tryz.prog 51 [Cm l,.fn (.func 160) [] []] Hp (B0 (l.any E0)):=by
 refine Ae [.tmp 4] [0,1] Tryz.func51 Tryz.ntmps51 (fun d=>?_)
 refine fu ?_;refine A9 Tryz.call98 (ANa l hl hn _) ?_;exact AA6

theorem AFs (s:Str) (Hp:List AObj):AFun Tryz.prog 209 [Ac s] Hp (A8 (Cu s)):=by
 refine Ae [.cell 2 27] [0] Tryz.func209 Tryz.ntmps209 (fun d=>?_)
 refine Z63 ?_;refine Z2 ?_;refine AEj ?_;refine Z4 ?_;exact Aa (Ai (B4 jA jS)) ⟨by rw [Al];rfl,rfl⟩

theorem AQ5 (l:List Expr) (hl:l.length≤1048576) (hn:∀e∈l,okE 61 e) (Hp:List AObj):AFun Tryz.prog 123 [Cm l] Hp (B0 (l.any E0)):=by
 refine Ae [.tmp 2] [0] Tryz.func123 Tryz.ntmps123 (fun d=>?_)
 refine Z41 ?_;refine Z2 ?_;refine A9 Tryz.call51 (ANb l hl hn _) ?_;refine A5 ?_;exact AEa

theorem lg {m:Mov} {c:Col}:(((!(Dy c.name)) || (!((Cw c.kind==[])==(m.kind==3)))) || ((m.kind==3)&&(c.kind != 0))) = !Pi m c:=by
 unfold Pi
 cases Dy c.name<;>cases (Cw c.kind==([]:Str))<;>cases (m.kind==3)<;>cases (c.kind != 0)<;>rfl
theorem AJd {m:Mov} (h:(!(Gx m))=true):I8 m=false:=by
 have:Gx m=false:=by simpa using h
 unfold I8;rw [this];rfl
theorem AJe {m:Mov} {c:Col} (hc:c∈m.give) (h:Pi m c=false):I8 m=false:=by
 have:m.give.all (Pi m)=false:=List.all_eq_false.2 ⟨c,hc,by rw [h];simp⟩
 unfold I8;rw [this];simp
theorem AJf {m:Mov} (h:((m.take.any Pk || m.ahead.any E0) || m.back.any E0)=true):I8 m=false:=by
 unfold I8
 rw [show Pk=fun s => !(Dy s) from rfl,show E0=fun e => !(Au e) from rfl,M1,M1,M1] at h
 cases h1:m.take.all Dy<;>cases h2:m.ahead.all Au<;>cases h3:m.back.all Au<;>simp_all
theorem AFt {m:Mov} (h1:Gx m=true) (h2:m.give.all (Pi m)=true) (h:((m.take.any Pk || m.ahead.any E0) || m.back.any E0)=false):I8 m=Rn m:=by
 unfold I8
 rw [show Pk=fun s => !(Dy s) from rfl,show E0=fun e => !(Au e) from rfl,M1,M1,M1] at h
 rw [h1,h2]
 cases h1:m.take.all Dy<;>cases h2:m.ahead.all Au<;>cases h3:m.back.all Au<;>simp_all
theorem Vk {α β:Type} {f:α→β} {l:List α} {d:α} (h:0<l.length):(l.map f)[0]? = some (f (l.getD 0 d)):=by
 rw [C5,Ab h,Cc,Ab h]
 rfl
theorem Sx {α:Type} {l:List α} {d:α} (h:0<l.length):l.getD 0 d∈l:=by
 rw [Cc,Ab h]
 exact Bf h
theorem AJg {m:Mov} (h:(m.kind==3)=true):Rn m=(eqE (m.ahead.getD 0 Av) (Cu (m.take.getD 0 []))&&eqE (m.back.getD 0 Av) (Cu (m.give.getD 0 ⟨[],0⟩).name)):=if_pos h
theorem AJh {m:Mov} (h:(m.kind==3)=false) (h6:(m.kind==6)=true):Rn m=(m.take.getD 0 []==(m.give.getD 0 ⟨[],0⟩).name):=by unfold Rn;rw [if_neg (by rw [h];simp),if_pos h6]
theorem AJi {m:Mov} (h:(m.kind==3)=false) (h6:(m.kind==6)=false):Rn m=true:=by unfold Rn;rw [if_neg (by rw [h];simp),if_neg (by rw [h6];simp)]
theorem AQ6 (m:Mov) (h:OkMov m) (Hp:List AObj):AFun Tryz.prog 163 [Ie m] Hp (B0 (I8 m)):=by
 refine Ae [.tmp 2] [0] Tryz.func163 Tryz.ntmps163 (fun d=>?_)
 refine Z97 ?_;refine Z31 ?_;refine A9 Tryz.call206 (AQ0 m _) ?_;refine A5 ?_;refine A2 [1,8] ?_
 refine A4 (fun ht8=>?_) (fun ht8=>?_)
 ·have hm:=AJd ht8
  refine Z42 ?_;exact Z44
 have hct:Gx m=true:=by simpa using ht8
 refine Z3 ?_;refine Z88 ?_;refine A2 [1,10,11,12] ?_
 refine Bg (α:=Nat) (fun x=>⟨95,A6 1 (.ro (Nv m)) (A6 10 (Ar m.give) (A6 11 (A3 (m.give.length:Nat)) (A6 12 (A3 (x:Nat)) (fun _=>.any)))),Hp,[],[],none⟩) (fun x=>x≤m.give.length∧∀(j:Nat) (y:Col),j<x→m.give[j]? = some y→(!Pi m y)=false) (fun x=>m.give.length-x) (0) ⟨Aq _,fun j y h=>by omega⟩ (Bl (by simp)) rfl (fun x hx=>?_)
 refine Z2 ?_;refine A2 [1,10,11,12,13] ?_
 refine Co (fun ht13=>?_) (fun ht13=>?_)
 ·have hlt:x<m.give.length:=by simpa using ht13
  have hgl:=h.gives2
  refine Z77 ?_
  refine A5 (h:=Ah (x) (C2 m.give[x]) (fun _=>B7 hlt)) (hr:=?_)
  refine Qe ?_;refine A2 [1,4,10,11,12] ?_;refine Ea [0,1,3,7,15,31,63,127,255,31,543,1567,4095,8191,16383,32767,65535,131071,262143,524287,1048575,2097151,4194303,8388607] 12 Ak (by kernel_rfl) ?_;refine Z8 ?_;refine Dx Tryz.call105 (AAr m.give[x].name (h.gives.2 _ (Bf hlt)) _) ?_;refine Z8 ?_;refine Z86 ?_;refine H.call Tryz.call97 (fun hB=>c97 m.give[x].kind _) ?_;refine Z86 ?_;refine Z86 ?_;refine Gq ?_;refine Cp ?_;refine Z85 ?_;refine Qi ?_;refine A5 ?_;refine A2 [1,10,11,12,39] ?_
  refine A4 (fun ht39=>?_) (fun ht39=>?_)
  ·rw [lg] at ht39
   have hm:=AJe (Bf hlt) (by simpa using ht39)
   refine Z42 ?_;refine Z26 ?_;exact Z44
  rw [lg] at ht39
  refine Z68 ?_;refine A2 [1,10,11,12] ?_;refine Bm (x+1) ⟨hlt,D3 hlt hx.2 ht39⟩ (by omega) ?_
  exact D0 (own:=[]) (fun _=>.refl _) (by repeat (first|exact Bc|refine Bb (by first|(simp [or_imp,forall_and];done)|exact Ef|exact low_ro.2 Ny) ?_)) (by simp) (by simp)
 have hxe:m.give.length≤x:=by simpa using ht13
 have hga:m.give.all (Pi m)=true:=by have:=My hxe hx.2;rw [M1] at this;simpa using this
 refine nq ?_;refine A2 [1,5] ?_;refine Z7 ?_;refine A9 Tryz.call58 (c58 m.take h.takes h.names _) ?_;refine A5 ?_;refine Z73 ?_;refine C1 Tryz.call51 (fun hB=>AHo m.ahead h.ahead.len h.ahead.ok _) ?_;refine fj ?_;refine C1 Tryz.call51 (fun hB=>AHo m.back h.back.len h.back.ok _) ?_;refine A5 ?_;refine A2 [1,55] ?_
 refine A4 (fun ht55=>?_) (fun ht55=>?_)
 ·have hm:=AJf ht55
  refine Z42 ?_;exact Z44
 have hm0:=AFt hct hga ht55
 refine ji ?_;refine A2 [1,57] ?_;refine W0 ?_;refine A2 [1,57,58] ?_
 refine A4 (fun ht58=>?_) (fun ht58=>?_)
 ·obtain ⟨hl1,hl2⟩:=Yj hct (by rw [ht58];simp)
  obtain ⟨hl3,hl4⟩:=I4 hct
  have g1:=Vk (f:=A8) (l:=m.ahead) (d:=Av) (by omega)
  have g2:=Vk (f:=A8) (l:=m.back) (d:=Av) (by omega)
  have g3:=Vk (f:=Ac) (l:=m.take) (d:=[]) (by omega)
  have g4:=Vk (f:=C2) (l:=m.give) (d:=⟨[],0⟩) (by omega)
  have ok1:=h.ahead.ok _ (Sx (l:=m.ahead) (d:=Av) (by omega))
  have ok2:=h.back.ok _ (Sx (l:=m.back) (d:=Av) (by omega))
  have hm:=hm0.trans (AJg ht58)
  refine Ea [0,1,3,7,0,16,48,112,240,511,1023,2047,4095,8191,16383,2047,34815,100351,231423,493567,1017855,2097151,4194303,8388607] 21 Ak (by kernel_rfl) ?_;refine Z8 ?_
  refine As (h:=Ah (0) (A8 (m.ahead.getD 0 Av)) (fun _=>g1)) (hr:=?_)
  refine Z33 ?_
  refine As (h:=Ah (0) (Ac (m.take.getD 0 [])) (fun _=>g3)) (hr:=?_)
  refine As ?_;refine Dx Tryz.call209 (AFs (m.take.getD 0 []) _) ?_;refine Dx Tryz.call109 (AJ8 61 (m.ahead.getD 0 Av) ok1 (Cu (m.take.getD 0 [])) _) ?_;refine As ?_;refine Z86 ?_
  refine H.go (h:=Ah (0) (A8 (m.back.getD 0 Av)) (fun _=>g2)) (hr:=?_)
  refine Z86 ?_;refine H.go ?_
  refine H.go (h:=Ah (0) (C2 (m.give.getD 0 ⟨[],0⟩)) (fun _=>g4)) (hr:=?_)
  refine Z86 ?_;refine H.call Tryz.call209 (fun hB=>AFs (m.give.getD 0 ⟨[],0⟩).name _) ?_;refine Gq ?_;refine C1 Tryz.call109 (fun hB=>AJ8 61 (m.back.getD 0 Av) ok2 (Cu (m.give.getD 0 ⟨[],0⟩).name) _) ?_;exact ALf
 refine Z1 ?_;refine A2 [1,83] ?_
 refine A4 (fun ht83=>?_) (fun ht83=>?_)
 ·obtain ⟨hl1,hl2⟩:=Yj hct (by rw [ht83];simp)
  obtain ⟨hl3,hl4⟩:=I4 hct
  have g1:=Vk (f:=A8) (l:=m.ahead) (d:=Av) (by omega)
  have g2:=Vk (f:=A8) (l:=m.back) (d:=Av) (by omega)
  have g3:=Vk (f:=Ac) (l:=m.take) (d:=[]) (by omega)
  have g4:=Vk (f:=C2) (l:=m.give) (d:=⟨[],0⟩) (by omega)
  have ok1:=h.ahead.ok _ (Sx (l:=m.ahead) (d:=Av) (by omega))
  have ok2:=h.back.ok _ (Sx (l:=m.back) (d:=Av) (by omega))
  have hm:=hm0.trans (AJh ht58 ht83)
  refine Ea [0,1,3,7,0,16,48,112,240,511,1023] 9 Ak (by kernel_rfl) ?_;refine Z8 ?_
  refine As (h:=Ah (0) (Ac (m.take.getD 0 [])) (fun _=>g3)) (hr:=?_)
  refine Z33 ?_
  refine As (h:=Ah (0) (C2 (m.give.getD 0 ⟨[],0⟩)) (fun _=>g4)) (hr:=?_)
  refine Z90 ?_;exact ALf
 have hm:=hm0.trans (AJi ht58 ht83)
 refine Z20 ?_;refine Z42 ?_;exact AAi

def xa (m:Mov):Bool := !(I8 m)
theorem AFu (l:List Mov):(decide ((l.length:Int)≤8) && !(l.any xa))=pi l:=by
 unfold pi
 rw [show xa=fun m => !(I8 m) from rfl,M1]
 simp
theorem AQ7 (m:Mov) (h:OkMov m) (Hp:List AObj):AFun Tryz.prog 162 [Ie m] Hp (B0 (xa m)):=by
 refine Ae [.tmp 2] [0] Tryz.func162 Tryz.ntmps162 (fun d=>?_)
 refine Z97 ?_;refine Z2 ?_;refine A9 Tryz.call163 (AQ6 m h _) ?_;exact Z96

theorem AQ8 (l:List Mov) (h:OkMovs l) (Hp:List AObj):AFun Tryz.prog 205 [Fu l,.fn (.func 162) [] []] Hp (A3 (Pj xa l)):=by
 refine Ae [.tmp 4] [0,1] Tryz.func205 Tryz.ntmps205 (fun d=>?_)
 refine fk ?_
 refine Bg (α:=Nat) (fun x=>⟨19,A6 0 (Fu l) (A6 1 (.fn (.func 162) [] []) (A6 7 (A3 l.length) (A6 8 (A3 (x:Nat)) (fun _=>.any)))),Hp,[],[],none⟩) (fun x=>x≤l.length∧∀(j:Nat) (y:Mov),j<x→l[j]? = some y→xa y=false) (fun x=>l.length-x) (0) ⟨Aq _,fun j y h=>by omega⟩ (Bl (by simp)) rfl (fun x hx=>?_)
 refine f9 ?_
 refine Co (fun ht9=>?_) (fun ht9=>?_)
 ·have hlt:x<l.length:=by simpa using ht9
  have hlen:=h.len
  refine fm ?_
  refine A5 (h:=Ah (x) (Ie l[x]) (fun _=>B7 hlt)) (hr:=?_)
  refine A5 ?_;refine Na Tryz.call162 (AQ7 l[x] (h.each _ (Bf hlt)) _) ?_;refine fw ?_
  refine A4 (fun ht16=>?_) (fun ht16=>?_)
  ·exact zy
  exact AA2
 have hxe:l.length≤x:=by simpa using ht9
 exact AA3

theorem AQ9 (l:List Mov) (h:OkMovs l) (Hp:List AObj):AFun Tryz.prog 161 [Fu l,.fn (.func 162) [] []] Hp (B0 (l.any xa)):=by
 refine Ae [.tmp 4] [0,1] Tryz.func161 Tryz.ntmps161 (fun d=>?_)
 refine fu ?_;refine A9 Tryz.call205 (AQ8 l h _) ?_;exact AA6

theorem AQa (l:List Mov) (h:OkMovs l) (Hp:List AObj):AFun Tryz.prog 126 [Fu l] Hp (B0 (pi l)):=by
 refine Ae [.tmp 2] [0] Tryz.func126 Tryz.ntmps126 (fun d=>?_)
 refine Z41 ?_;refine vl ?_;refine C1 Tryz.call161 (fun hB=>AQ9 l h _) ?_;refine Cp ?_;refine Z65 ?_;exact Aa (Ai A7) ⟨by rw [←AFu,An],rfl⟩

theorem c79 (c:List Col) (hc:OkCols c) (l:List Mov) (h:OkMovs l) (Hp:List AObj):AFun Tryz.prog 79 [Ar c,Fu l] Hp (B0 (Nw c l)):=by
 refine Ae [.tmp 4] [0,1] Tryz.func79 Tryz.ntmps79 (fun d=>?_)
 refine Z37 ?_;refine Z2 ?_;refine A9 Tryz.call125 (AMw c hc _) ?_;refine A5 ?_;refine Cp ?_;refine C1 Tryz.call126 (fun hB=>AQa l h _) ?_;refine Z0 ?_;refine Z13 ?_;exact Aa (Ai A7) ⟨by unfold Nw;rw [Mq],rfl⟩

theorem xb {Hp:List AObj} {c:List Col} (h:∀x∈Hp,ObjLow Hp.length x):∀x∈Hp++[AObj.cells 30 [Ar c]],ObjLow (Hp.length+1) x:=by
 intro x hx
 rcases E4.1 hx with hx|hx
 ·exact Nl (by omega) (h x hx)
 rw [Bo.1 hx]
 intro z hz
 rw [Bo.1 hz]
 exact Ef
theorem c80 (c:List Col) (l:List Mov) (Hp:List AObj):ACallO Tryz.prog 80 [Ar c,Fu l] Hp (fun r H'=>r=.fn (.func 127) [] [.ro [Fu l],.ptr (oid Hp.length 0) 0]∧H'=Hp++[.cells 30 [Ar c]]):=by
 refine ACallO.body [.tmp 4] [0,1] Tryz.func80 Tryz.ntmps80 (fun d=>?_)
 refine AA7 ?_;refine Z0 ?_;refine Jb ?_;refine Ez ?_
 refine Ma (fun hlow=>?_)
 refine AKu ?_;refine Z13 ?_;exact K.finO 1 (A7 (t:=4)) ⟨rfl,rfl⟩ (hlow:=by simp [oid,or_imp,forall_and];exact ⟨fun m _ a _=>Am _ a,fun m _ a _=>Am _ a⟩) (hobj:=xb hlow)

theorem AQb (l oc:Nat) (ms:List Mov) (hm:∀m∈ms,MvOk m) (hml:ms.length≤1048576) (C:Nat→List Col) (hC:∀k,OkCols (C k)) (U T:Nat→List AObj) (N:Nat→Prop) (Z:List AObj→Prop) (hlen:∀k,(U k).length=(U 0).length) (hlenW:∀k,(T k).length=(U 0).length) (hll:l<(U 0).length) (hol:oc<(U 0).length)
  (hlw:∀k,∀x∈U k,ObjLow (U 0).length x) (hlW:∀k,∀x∈T k,ObjLow (U 0).length x) (h0:N 0) (hc:∀k,(U k)[oc]? = some (.cells 30 [Ar (C k)])) (hcW:∀k,(T k)[oc]? = some (.cells 30 [Ar (C k)]))
  (hn:∀k m,ms[k]? = some m→(C9 (C k) m).2=0→(T k).set oc (.cells 30 [Ar (C9 (C k) m).1])=U (k+1))
  (hy:∀k m X,ms[k]? = some m→N k→AYield Tryz.prog l [Ar (C9 (C k) m).1,A3 (C9 (C k) m).2] (U k++X) (fun b H'=>((C9 (C k) m).2≠0∧∃V,H'=V++X∧V.length=(U 0).length∧(∀x∈V,ObjLow (U 0).length x)∧Z V)∨((C9 (C k) m).2=0∧b=true∧N (k+1)∧H'=T k++X)))
  (hR:N ms.length→Z (U ms.length)):ACall Tryz.prog 127 [.yield l,.ro [Fu ms],.ptr oc 0] (U 0) (fun _ H'=>Z H'):=by
 refine Ae [] [0,1,2] Tryz.func127 Tryz.ntmps127 (fun d=>?_)
 refine Z15 ?_;refine A2 [0,2,8,9,10] ?_
 refine Bg (α:=Nat) (fun x=>⟨31,A6 0 (.yield l) (A6 2 (.ptr oc 0) (A6 8 (Fu ms) (A6 9 (A3 ms.length) (A6 10 (A3 (x:Nat)) (fun _=>.any))))),U x,[],[],none⟩) (fun x=>x≤ms.length∧N x) (fun x=>ms.length-x) (0) ⟨Aq _,h0⟩ (Bl (by simp)) rfl (fun x hx=>?_)
 refine Z2 ?_;refine A2 [0,2,8,9,10,11] ?_
 refine Co (fun ht11=>?_) (fun ht11=>?_)
 ·have hlt:x<ms.length:=by simpa using ht11
  refine Z77 ?_
  refine A5 (h:=Ah (x) (Ie ms[x]) (fun _=>B7 hlt)) (hr:=?_)
  refine Qe ?_;refine A2 [0,2,5,8,9,10] ?_;refine Ez ?_
  refine A5 (h:=Bh (hc x)) (hr:=?_)
  refine A5 ?_;refine A9 Tryz.call128 (APz (C x) (hC x) ms[x] (hm _ (Bf hlt)) _) ?_;refine Z75 ?_;refine A2 [0,2,6,7,8,9,10] ?_;refine Z30 ?_
  refine R.yield (l:=l) (args:=[Ar (C9 (C x) ms[x]).1,A3 (C9 (C x) ms[x]).2]) (hy x ms[x] _ (Ab hlt) hx.2) ?_
  intro b V O hV hb
  have hVO:O=[AObj.cells 80 (Nv ms[x])]∧(((C9 (C x) ms[x]).2≠0∧V.length=(U 0).length∧(∀y∈V,ObjLow (U 0).length y)∧Z V)∨((C9 (C x) ms[x]).2=0∧b=true∧N (x+1)∧V=T x)):=by
   rcases hb with ⟨h1,V',h2,h3,h4,h5⟩|⟨h1,h2,h3,h4⟩
   ·obtain ⟨rfl,rfl⟩:=K7 h2 (by rw [hV,hlen x,h3])
    exact ⟨rfl,.inl ⟨h1,h3,h4,h5⟩⟩
   have h6:=K7 h4 (by rw [hV,hlen x,hlenW x])
   exact ⟨h6.2,.inr ⟨h1,h2,h3,h6.1⟩⟩
  obtain ⟨rfl,hVO⟩:=hVO
  have hVl:V.length=(U 0).length:=by rw [hV,hlen x]
  have hVw:∀y∈V,ObjLow (U 0).length y:=by
   rcases hVO with ⟨_,_,h,_⟩|⟨_,_,_,rfl⟩
   ·exact h
   exact hlW _
  refine ⟨fun _=>by rw [hVl];exact hVw,fun o ho=>(by cases ho),?_⟩
  refine Z36 ?_;refine A5 ?_;refine A2 [0,2,6,8,9,10,28] ?_
  refine A4 (fun ht28=>?_) (fun ht28=>?_)
  ·have hZ:Z V:=by
    rcases hVO with ⟨_,_,_,h⟩|⟨h1,h2,_,_⟩
    ·exact h
    rw [h1,h2] at ht28;simp at ht28
   refine Z34 ?_;refine Z26 ?_;exact Aa .nores (hp:=hZ)
  have hVn:(C9 (C x) ms[x]).2=0∧N (x+1)∧V=T x:=by
   rcases hVO with ⟨h1,_,_,_⟩|⟨h1,_,h3,h4⟩
   ·simp [h1] at ht28
   exact ⟨h1,h3,h4⟩
  obtain ⟨hz,hN,rfl⟩:=hVn
  have hnx:=hn x _ (Ab hlt) hz
  refine Z3 ?_;refine Z52 ?_
  refine Dp jS (hcW x) ?_ ?_
  ·first|exact Ef|(simp [or_imp,forall_and];done)
  refine A2 [0,2,8,9,10] ?_;refine R9 ?_;refine A2 [0,2,8,9,10] ?_;refine AEq ?_
  rw [hnx]
  exact D0 (own:=[]) (fun _=>.refl _) (by repeat (first|exact Bc|refine Bb (by first|(simp [or_imp,forall_and];done)|exact Iw|(have:=hlen (x+1);simp;omega)) ?_)) (by simp) (by simp)
 have hxe:x=ms.length:=by have:=hx.1;simp at ht11;omega
 exact AI3

/-! The columns on the way through moves. -/
def colsAt (c:List Col) (ms:List Mov):Nat→List Col
 | 0=>c
 | k+1=>match ms[k]? with|some m=>(C9 (colsAt c ms k) m).1|none=>colsAt c ms k
def Em (c:List Col) (ms:List Mov):Nat→List (List Col)
 | 0=>[c]
 | k+1=>Em c ms k++[colsAt c ms (k+1)]
def NS (c:List Col) (ms:List Mov) (k:Nat):Prop:=Ct c ms=((Em c ms k).dropLast++(Ct (colsAt c ms k) (ms.drop k)).1,(Ct (colsAt c ms k) (ms.drop k)).2)
theorem t6 (c:List Col) (ms:List Mov) (k:Nat):(Em c ms k).dropLast++[colsAt c ms k]=Em c ms k:=by
 cases k with
 | zero=>rfl
 | succ k=>simp [Em]
theorem I9 {c:List Col} {ms:List Mov} {k:Nat} {m:Mov} (h:ms[k]? = some m):colsAt c ms (k+1)=(C9 (colsAt c ms k) m).1:=by rw [colsAt,h]
theorem Sy {ms:List Mov} {k:Nat} {m:Mov} (hk:ms[k]? = some m):ms.drop k=m::ms.drop (k+1):=by
 obtain ⟨h1,h2⟩:=Ad.1 hk
 rw [Ig h1,h2]
theorem ANc {c:List Col} {ms:List Mov}:NS c ms 0:=rfl
theorem t7 {c:List Col} {ms:List Mov} {k:Nat} {m:Mov} (hk:ms[k]? = some m) (h:NS c ms k) (he:(C9 (colsAt c ms k) m).2=0):NS c ms (k+1):=by
 unfold NS at h ⊢
 rw [h,Sy hk]
 have e:Ct (colsAt c ms k) (m::ms.drop (k+1))=(colsAt c ms k::(Ct (C9 (colsAt c ms k) m).1 (ms.drop (k+1))).1,(Ct (C9 (colsAt c ms k) m).1 (ms.drop (k+1))).2):=by
  rw [Ct,if_neg (by rw [he];simp)]
 have e2:(Em c ms (k+1)).dropLast=Em c ms k:=by simp [Em]
 rw [e,e2,I9 hk]
 have e3:=t6 c ms k
 refine Pv ?_ rfl
 show (Em c ms k).dropLast++(colsAt c ms k::_)=Em c ms k++_
 conv=>rhs;rw [←e3]
 simp
theorem pl {c:List Col} {ms:List Mov} {k:Nat} {m:Mov} (hk:ms[k]? = some m) (h:NS c ms k) (he:(C9 (colsAt c ms k) m).2≠0):(Ct c ms).2=(C9 (colsAt c ms k) m).2:=by
 unfold NS at h
 rw [h,Sy hk,Ct,if_pos (by simpa using he)]
theorem ACg {c:List Col} {ms:List Mov} (h:NS c ms ms.length):Ct c ms=(Em c ms ms.length,0):=by
 unfold NS at h
 rw [h,dj,Ct]
 exact Pv (t6 c ms ms.length) rfl
theorem ACh {c:List Col} {m:Mov} (hc:OkCols c) (h:OkMov m):OkCols (C9 c m).1:=by
 have h0:OkCols ([]:List Col):=⟨by decide,fun y hy=>by cases hy⟩
 unfold C9
 split
 ·exact h0
 split
 ·exact h0
 split
 ·exact h0
 exact lf hc (lc h) (by rw [Ji];exact h.gives2)
theorem Jj {c:List Col} {ms:List Mov} (hc:OkCols c) (h:∀m∈ms,OkMov m):∀k,OkCols (colsAt c ms k)
 | 0=>hc
 | k+1=>by
  rw [colsAt]
  cases hk:ms[k]? with
  | none=>exact Jj hc h k
  | some m=>exact ACh (Jj hc h k) (h m (Aw hk))
theorem Pl (c:List Col) (ms:List Mov):∀k,(Em c ms k).length=k+1
 | 0=>rfl
 | k+1=>by rw [Em,At,Pl c ms k];rfl
theorem AJj {c:List Col} {ms:List Mov} (h:Nw c ms=true) (hk:OkMovs ms):(∀m∈ms,MvOk m)∧ms.length≤8:=by
 unfold Nw pi at h
 simp only [Ao,decide_eq_true_eq,Az] at h
 exact ⟨fun m hm=>AFr (hk.each m hm) (Qa (h.2.2 m hm)),by omega⟩
theorem c9 {c:List Col} {ms:List Mov} (h:Nw c ms=false):Cg c ms=([],1):=by
 have:Nx c ms=([],1):=if_neg (by rw [h];simp)
 unfold Cg
 rw [this];rfl
theorem Yn {c:List Col} {ms:List Mov} (h:Nw c ms=true) (he:(Ct c ms).2≠0):Cg c ms=([],(Ct c ms).2):=by
 have:Nx c ms=Ct c ms:=if_pos h
 unfold Cg
 rw [this,if_pos (by simpa using he)]
theorem ca {c:List Col} {ms:List Mov} {o:List (List Col)} (h:Nw c ms=true) (he:Ct c ms=(o,0)):Cg c ms=(o,0):=by
 have:Nx c ms=Ct c ms:=if_pos h
 unfold Cg
 rw [this,he];rfl
abbrev pm (l:List (List Col)):AV:=.slice false 1 (l.map Ar)
theorem Ia {n k:Nat} {o:Bool} {l:List (List Col)}:Low n (.slice o k (l.map Ar)):=low_slice.2 fun y hy=>by
 obtain ⟨m,_,rfl⟩:=C3.1 hy
 exact Ef
theorem AQc {U:List AObj} {i j:Nat} {x y:AObj} (h:U[i]? = some x) (hne:j≠i):(U.set j y)[i]? = some x:=by rw [Bx hne];exact h
theorem xc {n k:Nat} {o:Bool} {l:List (List Col)} {c:List Col}:Low n (.slice o k (l.map Ar++[Ar c])):=by
 have:=Ia (n:=n) (k:=k) (o:=o) (l:=l++[c])
 rwa [Bj] at this
theorem c46 (c:List Col) (hc:OkCols c) (hc2:c.length≤1000000) (l:List Mov) (h:OkMovs l) (Hp:List AObj):AFun Tryz.prog 46 [Ar c,Fu l] Hp (.tup [pm (Cg c l).1,A3 (Cg c l).2]):=by
 refine Ae [.cell 4 41,.cell 5 38] [0,1,7,8] Tryz.func46 Tryz.ntmps46 (fun d=>?_)
 refine Z24 ?_;refine P1 ?_;refine A2 [0,1,4,5,7,8] ?_;refine Z7 ?_;refine A9 Tryz.call79 (c79 c hc l h _) ?_;refine A5 ?_;refine A2 [0,1,4,5,7,8,12] ?_
 refine A4 (fun ht12=>?_) (fun ht12=>?_)
 ·have hm:=c9 (by simpa using ht12)
  refine Ez ?_;refine Gs ?_;refine Mb 0 1 ?_;refine Gs ?_;refine Z10 ?_;exact Z99
 have hmay:Nw c l=true:=by simpa using ht12
 obtain ⟨hmv,hl8⟩:=AJj hmay h
 refine Qj ?_;refine A9 Tryz.call92 (c92 c hc2 _) ?_;refine Sd ?_;refine P1 ?_;refine X3 jS ?_;refine A2 [0,1,4,5,6,7,8] ?_;refine Z62 ?_
 refine Ma (fun hlow=>?_)
 refine Z0 ?_;refine R.callO Tryz.call80 (c80 c l _) ?_
 rintro _ _ ⟨rfl,rfl⟩
 refine ⟨[.cells 30 [Ar c]],by simp,?_⟩
 rw [show oid (Hp++[AObj.cells 41 [AV.nil],AObj.cells 38 [A3 0],AObj.cells 41 [AV.slice true 1 [Ar c]]]).length 0=oid Hp.length 3 by simp [oid]]
 simp only [E9,E5]
 refine A2 [4,5,6,7,8,18] ?_;refine Lo ?_
 refine Nh (m:=4) Tryz.call127 (fun FR as' bd' hFR has hbd=>?_)
 have hFRl:∀s,Low (Hp.length+6) (FR s):=by
  intro s
  rw [hFR]
  refine Oi ?_
  revert s
  repeat (first|exact Bc|refine Bb (by first|(simp [oid,or_imp,forall_and];done)|(simp [oid,or_imp,forall_and];exact ⟨fun m _ a _=>Am _ a,fun m _ a _=>Am _ a⟩)|(simp [oid,or_imp,forall_and]<;>omega)) ?_)
 have hOl:∀{e:Int} {o:List (List Col)} {q:List Col} {lp:AObj},ObjLow (Hp.length+6) lp→∀x∈Hp++[AObj.cells 41 [AV.nil],AObj.cells 38 [A3 e],AObj.cells 41 [AV.slice true 1 ((o).map Ar)],AObj.cells 30 [Ar (q)],AObj.defs,lp],ObjLow (Hp.length+6) x:=by
  intro e o q lp hlp x hx
  refine Kp (fun x hx=>Nl (by omega) (hlow x hx)) (fun x hx=>?_) x hx
  simp only [B3,Et,or_false] at hx
  rcases hx with rfl|rfl|rfl|rfl|rfl|rfl
  ·intro y hy;rw [Bo.1 hy];simp
  ·intro y hy;rw [Bo.1 hy];simp
  ·intro y hy;rw [Bo.1 hy];exact Ia
  ·intro y hy;rw [Bo.1 hy];exact Ef
  ·trivial
  exact hlp
 refine ⟨_,AQb (oid Hp.length 5) (oid Hp.length 3) l hmv (by omega) (colsAt c l) (Jj hc fun m hm=>h.each m hm) (fun k=>Hp++[AObj.cells 41 [AV.nil],AObj.cells 38 [A3 0],AObj.cells 41 [AV.slice true 1 ((Em c l k).map Ar)],AObj.cells 30 [Ar (colsAt c l k)],AObj.defs,AObj.loop LoopState.ready none FR 29 #[19,20] as' bd' (oid Hp.length 4)]) (fun k=>Hp++[AObj.cells 41 [AV.nil],AObj.cells 38 [A3 0],AObj.cells 41 [AV.slice true 1 ((Em c l (k+1)).map Ar)],AObj.cells 30 [Ar (colsAt c l k)],AObj.defs,AObj.loop LoopState.ready none FR 29 #[19,20] as' bd' (oid Hp.length 4)]) (NS c l) (fun V=>(∃(o:List (List Col)) (q:List Col),V=Hp++[AObj.cells 41 [AV.nil],AObj.cells 38 [A3 0],AObj.cells 41 [AV.slice true 1 ((o).map Ar)],AObj.cells 30 [Ar (q)],AObj.defs,AObj.loop LoopState.ready none FR 29 #[19,20] as' bd' (oid Hp.length 4)]∧Ct c l=(o,0))∨(∃(e:Int) (o:List (List Col)) (q:List Col),V=Hp++[AObj.cells 41 [AV.nil],AObj.cells 38 [A3 e],AObj.cells 41 [AV.slice true 1 ((o).map Ar)],AObj.cells 30 [Ar (q)],AObj.defs,AObj.loop LoopState.done (some Code.ret) FR 29 #[19,20] as' bd' (oid Hp.length 4)]∧e≠0∧(Ct c l).2=e)) (fun k=>by simp) (fun k=>by simp) (by simp [oid]) (by simp [oid]) (fun k=>(fun x hx=>by rw [At];exact hOl (lp:=AObj.loop LoopState.ready none FR 29 #[19,20] as' bd' (oid Hp.length 4)) (by exact ⟨hFRl,by simp [oid]⟩) x hx)) (fun k=>(fun x hx=>by rw [At];exact hOl (lp:=AObj.loop LoopState.ready none FR 29 #[19,20] as' bd' (oid Hp.length 4)) (by exact ⟨hFRl,by simp [oid]⟩) x hx)) ANc (fun k=>by rw [Ax];rfl) (fun k=>by rw [Ax];rfl) (fun k m hk he=>by rw [Dm];simp only [I9 hk];rfl) (fun k m X hk hN=>?_) (fun hN=>.inl ⟨_,_,rfl,ACg hN⟩),?_⟩
 ·generalize hV:Hp++[AObj.cells 41 [AV.nil],AObj.cells 38 [A3 0],AObj.cells 41 [AV.slice true 1 ((Em c l k).map Ar)],AObj.cells 30 [Ar (colsAt c l k)],AObj.defs,AObj.loop LoopState.ready none FR 29 #[19,20] as' bd' (oid Hp.length 4)]++X=V
  have hL:V[oid Hp.length 5]? = some (AObj.loop LoopState.ready none FR 29 #[19,20] as' bd' (oid Hp.length 4)):=by rw [←hV,B8,Ax];rfl
  have hA0:V[oid Hp.length 2]? = some (AObj.cells 41 [AV.slice true 1 ((Em c l k).map Ar)]):=by rw [←hV,B8,Ax];rfl
  have hB0:V[oid Hp.length 0]? = some (AObj.cells 41 [AV.nil]):=by rw [←hV,B8,Ax];rfl
  have hC0:V[oid Hp.length 1]? = some (AObj.cells 38 [A3 0]):=by rw [←hV,B8,Ax];rfl
  refine L8 (pd:=none) (fr:=FR) (sz:=29) (ps:=#[19,20]) (df:=oid Hp.length 4) (asg:=as') (bd:=bd') hL rfl (by decide) (fun d=>?_)
  subst hFR has hbd
  refine G9 [4,5,6,19,20] ?_;refine Z2 ?_;refine A2 [4,5,6,7,20] ?_;refine Z52 ?_;refine A2 [4,5,6,7,8] ?_
  refine ⟨rfl,none,hL,?_⟩
  generalize hbz:(AObj.loop LoopState.busy _ _ _ _ _ _ _)=bz
  have hA:(V.set (oid Hp.length 5) bz)[oid Hp.length 2]? = some (AObj.cells 41 [AV.slice true 1 ((Em c l k).map Ar)]):=by rw [Bx (Cb (by decide))];exact hA0
  have hB:(V.set (oid Hp.length 5) bz)[oid Hp.length 0]? = some (AObj.cells 41 [AV.nil]):=by rw [Bx (Cb (by decide))];exact hB0
  have hC:(V.set (oid Hp.length 5) bz)[oid Hp.length 1]? = some (AObj.cells 38 [A3 0]):=by rw [Bx (Cb (by decide))];exact hC0
  refine vh ?_;refine A2 [4,5,6,7,8,22] ?_
  refine A4 (fun ht22=>?_) (fun ht22=>?_)
  ·have he:(C9 (colsAt c l k) m).2≠0:=by simpa using ht22
   refine Z2 ?_
   refine Dp jS hB ?_ ?_
   ·simp
   refine Dp jS (AQc hC (Cb (by decide))) ?_ ?_
   ·simp
   refine j7 ?_;refine K.blR ?_
   subst hbz
   refine AEp ?_
   refine .inl ⟨he,Hp++[AObj.cells 41 [AV.nil],AObj.cells 38 [A3 (C9 (colsAt c l k) m).2],AObj.cells 41 [AV.slice true 1 ((Em c l k).map Ar)],AObj.cells 30 [Ar (colsAt c l k)],AObj.defs,_],?_,by simp,(fun x hx=>by rw [At];exact hOl (lp:=_) (by exact ⟨hFRl,by simp [oid]⟩) x hx),.inr ⟨_,_,_,rfl,he,pl hk hN he⟩⟩
   subst hV
   simp only [B8,Dm,E9,E5,List.set_cons_succ,List.set_cons_zero]
  have he:(C9 (colsAt c l k) m).2=0:=by simpa using ht22
  refine Z3 ?_;refine Hj ?_;refine AEg ?_
  refine Ek jU Tryz.type30 ?_ ?_ ?_
  ·have hol:=Pl c l k;have hkl:=(Ad.1 hk).1;simp [Tryz.t30];omega
  ·have hol:=Pl c l k;have hkl:=(Ad.1 hk).1;simp [Tryz.t30];omega
  refine G8 jS (getset hA) ?_ ?_
  ·exact xc
  refine Vz ?_
  subst hbz
  refine AAc ?_
  refine .inr ⟨he,rfl,t7 hk hN he,?_⟩
  subst hV
  simp only [B8,Dm,E9,E5,List.set_cons_succ,List.set_cons_zero]
  rw [Em,I9 hk,Bj]
  rfl
 rintro r H' (⟨o,q,rfl,hrun⟩|⟨e,o,q,rfl,hne,hrun⟩)
 ·refine ⟨Hp,_,_,_,rfl,rfl,fun h=>h,?_,rfl,by simp,?_⟩
  ·intro o ho
   have:o=oid Hp.length 4:=by simpa using ho
   subst this
   rw [Ax]
   rfl
  refine Z11 ?_;refine Vy ?_;refine Gs ?_;refine Z10 ?_;exact Aa (B5 (Fp jA) (Fp jA)) ⟨by rw [ca hmay hrun],rfl⟩ (hlow:=by simp only [er,B3,Et,or_false];rintro y (rfl|rfl);exact Ia;simp)
 refine ⟨Hp,_,_,_,rfl,rfl,fun h=>h,?_,rfl,by simp,?_⟩
 ·intro o ho
  have:o=oid Hp.length 4:=by simpa using ho
  subst this
  rw [Ax]
  rfl
 refine W.nilOwn 0 1 ?_;refine jb ?_;exact Aa (B5 (Fp jA) (Fp jA)) ⟨by rw [Yn hmay (by rw [hrun];exact hne),hrun];rfl,rfl⟩

theorem xd (c:List Col) (ms:List Mov):(Ct c ms).1≠[]:=by
 cases ms with
 | nil=>simp [Ct]
 | cons m r =>
  rw [Ct]
  split<;>simp
theorem Yo:∀(c:List Col) (ms:List Mov),(Ct c ms).1.length≤ms.length+1
 | c,[]=>by simp [Ct]
 | c,m::r=>by
  rw [Ct]
  split
  ·simp
  have:=Yo (C9 c m).1 r
  simp only [B2]
  omega
theorem xe {c:List Col} {ms:List Mov} (h:((Cg c ms).2 != 0)=false):(Cg c ms).1≠[]∧(Cg c ms).1.length≤9:=by
 unfold Cg at h ⊢
 by_cases h1:((Nx c ms).2 != 0)=true
 ·rw [if_pos h1] at h
  rw [h1] at h;cases h
 rw [if_neg h1]
 by_cases h2:Nw c ms=true
 ·have e:Nx c ms=Ct c ms:=if_pos h2
  rw [e]
  have h3:ms.length≤8:=by
   unfold Nw pi at h2
   simp only [Ao,decide_eq_true_eq] at h2
   omega
  have:=Yo c ms
  exact ⟨xd c ms,by omega⟩
 have e:Nx c ms=([],1):=if_neg h2
 rw [e] at h1
 exact absurd rfl h1
theorem ACi {l:List (List Col)} (h:l≠[]):(l.map Ar)[l.length-1]? = some (Ar (l.getLastD [])):=by
 have h1:0<l.length:=List.length_pos_iff.2 h
 rw [C5,Ab (by omega),←List.getLast_eq_getElem (h:=h),z9,List.getLast?_eq_some_getLast h]
 rfl
theorem c21 (c:List Col) (hc:OkCols c) (hc2:c.length≤1000000) (l:List Mov) (h:OkMovs l) (Hp:List AObj):AFun Tryz.prog 21 [Ar c,Fu l] Hp (.tup [Ar (Dw c l).1,A3 (Dw c l).2]):=by
 refine Ae [.tmp 4,.tmp 5] [0,1] Tryz.func21 Tryz.ntmps21 (fun d=>?_)
 refine fg ?_;refine Z1 ?_;refine AId ?_;refine A2 [6,7] ?_;refine Z7 ?_;refine A2 [6,7,15] ?_
 refine A4 (fun ht15=>?_) (fun ht15=>?_)
 ·have hm:Dw c l=([],(Cg c l).2):=if_pos ht15
  exact AEk
 have hm:Dw c l=((Cg c l).1.getLastD [],0):=if_neg (by rw [ht15];simp)
 obtain ⟨hne,hl9⟩:=xe ht15
 have hl0:0<(Cg c l).1.length:=List.length_pos_iff.2 hne
 refine Rb ?_
 rw [An]
 refine A5 (h:=Q.sub64 (h1:=fun _=>by omega) (h2:=fun _=>by omega)) (hr:=?_)
 refine A5 (h:=Ah (((Cg c l).1.length-1)) (Ar ((Cg c l).1.getLastD [])) (fun _=>ACi hne)) (hr:=?_)
 refine Z12 ?_;exact ALa

theorem xf (s:Str):Le (.agg [A3 2,Ac s,A3 0,A3 0,Ac [],.nil]) (A8 (Cu s)):=by
 rw [Al]
 refine .agg _ _ rfl (fun y hy=>?_) (fun i y y' hy hy'=>?_)
 ·simp only [El,B3,Et,or_false] at hy
  rcases hy with rfl|rfl|rfl|rfl|rfl|rfl<;>rfl
 match i with
 | 0=>simp at hy;subst hy;simp [El,Cu] at hy';subst hy';exact .inl rfl
 | 1=>simp at hy;subst hy;simp [El,Cu] at hy';subst hy';exact .inl rfl
 | 2=>simp at hy;subst hy;simp [El,Cu] at hy';subst hy';exact .inl rfl
 | 3=>simp at hy;subst hy;simp [El,Cu] at hy';subst hy';exact .inl rfl
 | 4=>simp at hy;subst hy;simp [El,Cu] at hy';subst hy';exact .inl rfl
 | 5=>simp at hy;subst hy;simp [El,Cu] at hy';subst hy';exact .inr ⟨rfl,6,rfl⟩
 | i+6=>simp at hy
theorem xg {n k:Nat} {o:Bool} {l:List Str}:Low n (.slice o k (l.map Ac)):=by simp [or_imp,forall_and]
def Ks (c:List Col):List Expr:=c.map fun x=>Cu x.name
theorem Ro {n k:Nat} {o:Bool} {a:List Expr} {e:Expr}:Low n (.slice o k (a.map A8++[A8 e])):=low_slice.2 fun y hy=>by
 rcases E4.1 hy with h|h
 ·obtain ⟨m,_,rfl⟩:=C3.1 h
  exact Am _ _
 rw [Bo.1 h]
 exact Am _ _
theorem Eg {n k:Nat} {o:Bool} {a:List Expr}:Low n (.slice o k (a.map A8)):=low_slice.2 fun y hy=>by
 obtain ⟨m,_,rfl⟩:=C3.1 hy
 exact Am _ _
theorem c74 (c:List Col) (hc:c.length≤1048576) (Hp:List AObj):AFun Tryz.prog 74 [Ar c] Hp (Cm (Ks c)):=by
 refine Ae [.tmp 2] [0] Tryz.func74 Tryz.ntmps74 (fun d=>?_)
 refine Z41 ?_;refine Z2 ?_;refine Mn ?_;refine Z62 ?_;refine P0 3 6 ?_;refine Z12 ?_;refine A2 [3,6,7,8] ?_
 refine Bg (α:=Nat) (fun x=>⟨20,A6 3 (.slice true 6 (((c.take x).map fun y=>Cu y.name).map A8)) (A6 6 (Ar c) (A6 7 (A3 (c.length:Nat)) (A6 8 (A3 (x:Nat)) (fun _=>.any)))),Hp,[],[],none⟩) (fun x=>x≤c.length) (fun x=>c.length-x) (0) (Aq _) (Bl (by simp)) rfl (fun x hx=>?_)
 refine Z2 ?_;refine A2 [3,6,7,8,9] ?_
 refine Co (fun ht9=>?_) (fun ht9=>?_)
 ·have hlt:x<c.length:=by simpa using ht9
  refine Z77 ?_
  refine A5 (h:=Ah (x) (C2 c[x]) (fun _=>B7 hlt)) (hr:=?_)
  refine Qe ?_;refine A2 [3,5,6,7,8] ?_;refine fe ?_;refine Z0 ?_;refine AAg ?_;refine R.wk 15 _ (xf c[x].name) ?_;refine Sd ?_
  refine Ek jU Tryz.type27 ?_ ?_ ?_
  ·simp only [An,C0,B2,Bz,Tryz.t27];omega
  ·simp only [An,C0,B2,Bz,Tryz.t27];omega
  refine I0 ?_;refine A2 [3,6,7,8] ?_;refine R9 ?_;refine A2 [3,6,7,8] ?_;refine AAf ?_
  rw [Mz hlt,Bj]
  exact D0 (own:=[]) (fun _=>.refl _) (by repeat (first|exact Bc|refine Bb (by first|(simp [or_imp,forall_and];done)|exact Ro|exact Ef) ?_)) (by simp) (by simp)
 have hxe:c.length≤x:=by simpa using ht9
 refine Z27 ?_;refine Z1 ?_;refine Z4 ?_;exact Aa (Ai A7) ⟨by unfold Ks;rw [Ej hxe],rfl⟩ (hlow:=Eg)

/-! fuse: trees in columns' places. -/
mutual
def putF (c:List Col) (l:List Expr):Expr→Option Expr
 | .mk o t v k=>if o==2 then (if Ay t c<0 then none else some (l.getD (Ay t c).toNat Av)) else (Ib c l k).map fun k'=>.mk o t v k'
def Ib (c:List Col) (l:List Expr):List Expr→Option (List Expr)
  | []=>some []
  | e::r=>match putF c l e with
    | none=>none
    | some y=>(Ib c l r).map fun s=>y::s
 end
/-- fuse.Over. -/
def Cr (x:Expr) (c:List Col) (l:List Expr):Expr×Int:=
 if (((!(Au x)) || l.any E0) || !(Io c)) || ((c.length:Int) != (l.length:Int)) then (Av,1)
 else match putF c l x with
  | none=>(Av,9)
  | some y=>if Au y then (y,0) else (Av,3)
/-- fuse.over: the trees, till one goes wrong. -/
def Ch (c:List Col) (by_:List Expr):List Expr→List Expr×Int
 | []=>([],0)
 | x::r=>if (Cr x c by_).2 != 0 then ([],(Cr x c by_).2) else if (Ch c by_ r).2 != 0 then ([],(Ch c by_ r).2) else ((Cr x c by_).1::(Ch c by_ r).1,0)
/-- fuse.stay. -/
def Do (take:List Str):List Col→List Expr→List Expr
 | y::c,x::l=>if take.contains y.name then Do take c l else x::Do take c l
 | _,_=>[]
theorem Jk {take:List Str}:∀{c:List Col} {l:List Expr},c.length=l.length→(Do take c l).length=(Di c take).length
 | [],[],_=>rfl
 | [],_::_,h=>by simp at h
 | _::_,[],h=>by simp at h
 | y::c,x::l,h=>by
  have ih:=Jk (take:=take) (c:=c) (l:=l) (by simpa using h)
  unfold Do Di
  by_cases hc:take.contains y.name=true
  ·rw [if_pos hc]
   simp only [Hh,hc,Hw,Bd,if_false]
   exact ih
  rw [if_neg hc]
  have hc':take.contains y.name=false:=by simpa using hc
  simp only [Hh,hc',Wn,if_true,B2]
  exact congrArg (·+1) ih
theorem Nz {c:List Col} {by_:List Expr}:∀(l:List Expr),(Ch c by_ l).2=0→(Ch c by_ l).1.length=l.length
 | [],_=>rfl
 | x::r,h=>by
  unfold Ch at h ⊢
  split at h
  ·rename_i h1
   exact absurd h (by simpa using h1)
  rename_i h1
  rw [if_neg h1]
  split at h
  ·rename_i h2
   exact absurd h (by simpa using h2)
  rename_i h2
  rw [if_neg h2]
  have:=Nz (c:=c) (by_:=by_) r (by simpa using h2)
  simp [this]
set_option maxRecDepth 8000
/-! How long a print is. -/
theorem ACj {t:Str} (h:0≤Nm t):t.length≤3:=by
 rcases Vg t with hm|⟨hm,_⟩
 ·have h3:(levels.flatten.all fun s=>decide (s.length≤3))=true:=by kernel_rfl
  exact of_decide_eq_true (Az.1 h3 t hm)
 omega
theorem pq {t:Str} {n:Nat} (h:Cf t=(n:Int)):t.length≤6:=by
 rcases Nr h with ⟨e,_⟩|⟨e,_⟩|⟨e,_⟩|⟨e,_⟩|⟨e,_⟩|⟨e,_⟩|⟨e,_⟩|⟨e,_⟩<;>rw [e]<;>decide
set_option maxRecDepth 4000
theorem pt {e:Expr} (h:Es e=true):e.text.length≤16∧e.kids.length≤8:=by
 cases Lg h with
 | val v hp h0=>exact ⟨by simp [Nn,Expr.text],by simp [Nn,Expr.kids]⟩
 | name t ht =>
  refine ⟨?_,by simp [Cu,Expr.kids]⟩
  show t.length≤16
  cases t with
  | nil=>simp
  | cons c r =>
   simp only [Qq,Ao,decide_eq_true_eq] at ht
   exact ht.1.1.1
 | neg a=>exact ⟨by simp [Kq,Expr.text],by simp [Kq,Expr.kids]⟩
 | no a=>exact ⟨by simp [Kq,Expr.text],by simp [Kq,Expr.kids]⟩
 | bin t a b ht=>exact ⟨by have:=ACj ht;show t.length≤16;omega,by simp [Lp,Expr.kids]⟩
 | call t k ha =>
  refine ⟨by have:=pq ha;show t.length≤16;omega,?_⟩
  show k.length≤8
  rcases Nr ha with ⟨_,e⟩|⟨_,e⟩|⟨_,e⟩|⟨_,e⟩|⟨_,e⟩|⟨_,e⟩|⟨_,e⟩|⟨_,e⟩<;>omega
theorem cb:∀{l:List Expr} {y:Expr},y∈l→depthE y≤Pa l
 | a::r,y,h=>by
  rw [Pa]
  rcases B3.1 h with rfl|h
  ·omega
  have:=cb h
  omega
theorem t8:∀(n:Nat) (e:Expr),depthE e≤n→Dq Es e=true→okE n e
 | 0,e,h,_=>by rw [bi] at h;omega
 | n+1,e,h,hn=>by
  rw [Ip,Ao] at hn
  rw [bi] at h
  have hs:=pt hn.1
  refine ⟨by omega,by omega,fun y hy=>t8 n y (by have:=cb hy;omega) ((Ff _ _).1 hn.2 y hy)⟩
theorem cd {e:Expr} (h:Fs e=true):okE 30 e∧sizeE e≤300:=by
 have h1:=Ns h
 unfold Fs at h
 simp only [Ao,decide_eq_true_eq] at h
 exact ⟨t8 30 e h.1.1 h1,h.1.2⟩
def lh (c:List Col) (l:List Expr) (e:Expr):Expr:=(putF c l e).getD Av
theorem ce {c:List Col} {l:List Expr}:∀{k:List Expr},(∀(j:Nat) (y:Expr),k[j]? = some y→(!(putF c l y).isSome)=false)→Ib c l k=some (k.map (lh c l))
 | [],_=>rfl
 | e::r,h=>by
  have h1:=h 0 e rfl
  have h2:=ce (c:=c) (l:=l) (k:=r) (fun j y hy=>h (j+1) y hy)
  rw [Ib]
  cases he:putF c l e with
  | none=>rw [he] at h1;cases h1
  | some z=>rw [h2,Bk,show lh c l e=z by unfold lh;rw [he];rfl];rfl
theorem cf {c:List Col} {l:List Expr}:∀{k:List Expr} {e:Expr},e∈k→putF c l e=none→Ib c l k=none
 | a::r,e,hm,h=>by
  rw [Ib]
  rcases B3.1 hm with rfl|hm
  ·rw [h]
  have:=cf hm h
  cases ha:putF c l a with
  | none=>rfl
  | some z=>rw [this];rfl
theorem Yp {c:List Col} {l:List Expr} {x:Expr} (h:(x.op==2)=true):putF c l x=if Ay x.text c<0 then none else some (l.getD (Ay x.text c).toNat Av):=by
 cases x;rw [putF];exact if_pos h
theorem Yq {c:List Col} {l:List Expr} {x:Expr} (h:(x.op==2)=false):putF c l x=(Ib c l x.kids).map fun k'=>.mk x.op x.text x.val k':=by
 cases x;rw [putF];exact if_neg (fun e=>Bool.false_ne_true (h.symm.trans e))
theorem li {c:List Col} {l:List Expr} {s:Str} (hl:c.length=l.length) (hf:¬Ay s c<0):(l.map A8)[(Ay s c).toNat]? = some (A8 (l.getD (Ay s c).toNat Av))∧(Ay s c).toNat<l.length∧0≤Ay s c:=by
 obtain ⟨j,hj,hjl⟩:=Gi hf
 rw [hj,Int.toNat_natCast]
 refine ⟨?_,by omega,by omega⟩
 rw [C5,Ab (by omega),Cc,Ab (by omega)]
 rfl
theorem AQd (c:List Col) (hc:OkCols c) (l:List Expr) (hl:c.length=l.length):∀(n:Nat) (x:Expr),okE n x→∀Hp:List AObj,AFun Tryz.prog 124 [A8 x,Ar c,Cm l] Hp (.tup [A8 ((putF c l x).getD Av),B0 (putF c l x).isSome]):=by
 intro n
 induction n with
 | zero=>exact fun e h=>h.elim
 | succ n ih =>
 intro x hok Hp
 refine Ae [.cell 6 27,.tmp 7] [0,1,2] Tryz.func124 Tryz.ntmps124 (fun d=>?_)
 refine AA7 ?_;refine zx ?_;refine Z30 ?_;refine A2 [1,2,3,6,16] ?_
 refine A4 (fun ht16=>?_) (fun ht16=>?_)
 ·have hpn:=Yp (c:=c) (l:=l) ht16
  refine Z15 ?_;refine A9 Tryz.call60 (c60 c hc x.text _) ?_;refine A5 ?_;refine A2 [2,6,8] ?_;refine Z7 ?_;refine A2 [2,6,8,22] ?_
  refine A4 (fun ht22=>?_) (fun ht22=>?_)
  ·have hm:putF c l x=none:=by rw [hpn,if_pos (by simpa using ht22)]
   refine Ez ?_;refine Z28 ?_;refine H5 1 5 6 ?_;refine nn ?_;refine Ck ?_;exact AM6
  have hneg:¬Ay x.text c<0:=by simpa using ht22
  have hm:putF c l x=some (l.getD (Ay x.text c).toNat Av):=by rw [hpn,if_neg hneg]
  refine Ni ?_
  obtain ⟨_,hg1,hg2⟩:=li hl hneg
  refine A5 (h:=Ah ((Ay x.text c).toNat) (A8 (l.getD (Ay x.text c).toNat Av)) (fun _=>(li hl hneg).1)) (hr:=?_)
  refine vk ?_;refine Ck ?_;exact Aa (B5 (B4 jA jS) A7) ⟨by rw [hm];show _=AV.tup [A8 (l.getD _ Av),B0 true];rw [Al]<;>rfl,rfl⟩ (hlow:=by simp [or_imp,forall_and,Am])
 have hpk:=Yq (c:=c) (l:=l) ht16
 refine Rb ?_;refine A2 [1,2,3,6,9] ?_;refine Vy ?_;refine A2 [1,2,3,6,9] ?_;refine Z62 ?_;refine H5 0 5 6 ?_;refine Z12 ?_;refine A2 [1,2,3,6,31,32,33] ?_
 refine Bg (α:=Nat) (fun i=>⟨55,A6 1 (Ar c) (A6 2 (Cm l) (A6 3 (.ptr (oid Hp.length 0) 0) (A6 6 (.ptr (oid Hp.length 1) 0) (A6 31 (.slice false 6 (x.kids.map A8)) (A6 32 (A3 (x.kids.length:Nat)) (A6 33 (A3 (i:Nat)) (fun _=>.any))))))),Hp,[.cells 27 [A3 x.op,Ac x.text,A3 x.val.kind,A3 x.val.n,Ac x.val.s,.slice true 6 (((x.kids.take i).map (lh c l)).map A8)],.cells 27 [A3 0,Ac [],A3 0,A3 0,Ac [],.nil]],[],none⟩) (fun i=>i≤x.kids.length∧∀(j:Nat) (y:Expr),j<i→x.kids[j]? = some y→(!(putF c l y).isSome)=false) (fun i=>x.kids.length-i) (0) ⟨Aq _,fun j y h=>by omega⟩ (Bl (by simp)) rfl (fun i hi=>?_)
 refine Z2 ?_;refine A2 [1,2,3,6,31,32,33,34] ?_
 refine Co (fun ht34=>?_) (fun ht34=>?_)
 ·have hlt:i<x.kids.length:=by simpa using ht34
  have hkl:=hok.2.1
  refine Z77 ?_
  refine A5 (h:=Ah (i) (A8 x.kids[i]) (fun _=>B7 hlt)) (hr:=?_)
  refine Qe ?_;refine A2 [1,2,3,6,11,31,32,33] ?_;refine Z15 ?_;refine A9 Tryz.call124 (ih x.kids[i] (hok.2.2 _ (Bf hlt)) _) ?_;refine Ra ?_;refine A2 [1,2,3,6,12,13,31,32,33] ?_;refine Z7 ?_;refine A2 [1,2,3,6,12,31,32,33,45] ?_
  refine A4 (fun ht45=>?_) (fun ht45=>?_)
  ·have hm:putF c l x=none:=by rw [hpk,cf (Bf hlt) (by simpa using ht45)];rfl
   refine Ez ?_;refine Z28 ?_;refine H5 1 5 6 ?_;refine nn ?_;refine Z51 ?_;exact AM6
  refine Z3 ?_;refine Z52 ?_;refine X2 jA ?_;refine Z71 ?_
  refine Ek jU Tryz.type27 ?_ ?_ ?_
  ·simp only [An,C0,B2,Bz,Tryz.t27];omega
  ·simp only [An,C0,B2,Bz,Tryz.t27];omega
  refine AEi ?_;refine A2 [1,2,3,6,31,32,33] ?_;refine R9 ?_;refine A2 [1,2,3,6,31,32,33] ?_;refine Bm (i+1) ⟨hlt,D3 hlt hi.2 ht45⟩ (by omega) ?_
  have hlo:=fun m=>AC0 (n:=m) (x:=x) (o:=true) (l:=(x.kids.take i).map (lh c l)++[lh c l x.kids[i]])
  simp only [Bj,Bk,Dr,Al] at hlo
  simp only [show Tryz.t27.size=6 from rfl]
  rw [Mz hlt,Bj,Bk,Dr,Al]
  exact D0 (fun _=>.refl _) (by repeat (first|exact Bc|refine Bb (by first|exact Eg|exact Ef|(simp [oid,Am];done)|(simp [oid]<;>omega)) ?_)) (APn (hlo _) gq) (by simp)
 have hxe:x.kids.length≤i:=by simpa using ht34
 have hm:putF c l x=some (.mk x.op x.text x.val (x.kids.map (lh c l))):=by rw [hpk,ce (fun j y hy=>hi.2 j y (by have:=(Ad.1 hy).1;omega) hy)];rfl
 refine nq ?_;refine Z79 ?_;exact Aa (B5 (B4 jA jS) A7) ⟨by rw [hm];show _=AV.tup [A8 (.mk x.op x.text x.val (x.kids.map (lh c l))),B0 true];rw [Yi,Ej hxe],rfl⟩ (hlow:=by simp [or_imp,forall_and];intro y hy;obtain ⟨e,_,rfl⟩:=C3.1 (N1 hy);exact Am _ _)

theorem Rp {c:List Col} {l:List Expr}:∀{k s:List Expr},Ib c l k=some s→s.length=k.length∧∀y∈s,∃e∈k,putF c l e=some y
 | [],s,h=>by
  rw [Ib] at h
  injection h with h
  subst h
  exact ⟨rfl,fun y hy=>by cases hy⟩
 | a::r,s,h=>by
  rw [Ib] at h
  cases ha:putF c l a with
  | none=>rw [ha] at h;cases h
  | some z =>
   rw [ha] at h
   simp only at h
   cases hr:Ib c l r with
   | none=>rw [hr] at h;cases h
   | some t =>
    rw [hr] at h
    injection h with h
    subst h
    obtain ⟨h1,h2⟩:=Rp hr
    refine ⟨by simp [h1],fun y hy=>?_⟩
    rcases B3.1 hy with rfl|hy
    ·exact ⟨a,Gw,ha⟩
    obtain ⟨e,he,hp⟩:=h2 y hy
    exact ⟨e,Jp _ he,hp⟩
theorem tc {c:List Col} {l:List Expr} {m:Nat} (hl:∀e∈l,okE (m+1) e) (hc:c.length=l.length):∀(n:Nat) (x y:Expr),okE n x→putF c l x=some y→okE (m+1+n) y
 | 0,x,y,h,_=>h.elim
 | n+1,x,y,h,hp=>by
  cases h2:x.op==2 with
  | true =>
   rw [Yp h2] at hp
   split at hp
   ·cases hp
   rename_i hf
   injection hp with hp
   subst hp
   obtain ⟨j,hj,hjl⟩:=Gi hf
   rw [hj,Int.toNat_natCast,Cc,Ab (by omega)]
   exact Hl (by omega) (hl _ (Bf (by omega)))
  | false =>
   rw [Yq h2] at hp
   cases hk:Ib c l x.kids with
   | none=>rw [hk] at hp;cases hp
   | some s =>
    rw [hk] at hp
    injection hp with hp
    subst hp
    obtain ⟨h3,h4⟩:=Rp hk
    refine ⟨h.1,by show s.length≤_;rw [h3];exact h.2.1,fun z hz=>?_⟩
    obtain ⟨e,he,hpe⟩:=h4 z hz
    exact tc hl hc n e z (h.2.2 e he) hpe
theorem AJk {x:Expr} {c:List Col} {l:List Expr} (h:((((!(Au x)) || l.any E0) || !(Io c)) || ((c.length:Int) != (l.length:Int)))=true):Cr x c l=(Av,1):=if_pos h
theorem ACk {x:Expr} {c:List Col} {l:List Expr} (h:((((!(Au x)) || l.any E0) || !(Io c)) || ((c.length:Int) != (l.length:Int)))=false):Cr x c l=match putF c l x with
  | none=>(Av,9)
  | some y=>if Au y then (y,0) else (Av,3):=if_neg (by rw [h];simp)
theorem c78 (x:Expr) (hok:okE 61 x) (c:List Col) (hc:OkCols c) (l:List Expr) (hll:l.length≤1048576) (hlo:∀e∈l,okE 61 e) (Hp:List AObj):AFun Tryz.prog 78 [A8 x,Ar c,Cm l] Hp (.tup [A8 (Cr x c l).1,A3 (Cr x c l).2]):=by
 refine Ae [.cell 6 27,.tmp 7] [0,1,2] Tryz.func78 Tryz.ntmps78 (fun d=>?_)
 refine Z2 ?_;refine zx ?_;refine Z31 ?_;refine A9 Tryz.call96 (c96 61 x hok (by decide) _) ?_;refine Qf ?_;refine C1 Tryz.call123 (fun hB=>AQ5 l hll hlo _) ?_;refine Qf ?_;refine C1 Tryz.call50 (fun hB=>c50 c hc _) ?_;refine Cp ?_;refine Z85 ?_;refine Z53 ?_;refine A2 [1,2,3,6,28] ?_
 refine A4 (fun ht28=>?_) (fun ht28=>?_)
 ·simp only [An] at ht28
  have hm:=AJk ht28
  refine Ez ?_;refine AEj ?_;refine nn ?_;exact AM7
 simp only [An] at ht28
 have hm0:=ACk ht28
 have hcl:c.length=l.length:=by simp only [E3,bne_eq_false_iff_eq] at ht28;have:=ht28.2;omega
 refine Rb ?_;refine A9 Tryz.call124 (AQd c hc l hcl 61 x hok _) ?_;refine Ra ?_;refine A2 [6,8,9] ?_;refine je ?_;refine A2 [6,8,37] ?_
 refine A4 (fun ht37=>?_) (fun ht37=>?_)
 ·have hp:putF c l x=none:=by simpa using ht37
  have hm:Cr x c l=(Av,9):=by rw [hm0,hp]
  refine Ez ?_;refine AEj ?_;refine Z94 ?_;exact AKm
 obtain ⟨y,hp⟩:∃y,putF c l x=some y:=by
  cases h:putF c l x with
  | none=>rw [h] at ht37;cases ht37
  | some y=>exact ⟨y,rfl⟩
 have hyo:okE 122 ((putF c l x).getD Av):=by rw [hp];exact tc (m:=60) hlo hcl 61 x y hok hp
 refine Z2 ?_;refine A9 Tryz.call96 (c96 122 ((putF c l x).getD Av) hyo (by decide) _) ?_;refine Z0 ?_;refine A2 [6,8,41] ?_
 refine A4 (fun ht41=>?_) (fun ht41=>?_)
 ·have hm:Cr x c l=(Av,3):=by
   rw [hp] at ht41
   rw [hm0,hp]
   exact if_neg (by simpa using ht41)
  refine Ez ?_;refine AEj ?_;refine Z94 ?_;exact AKm
 have hm:Cr x c l=(y,0):=by
  rw [hp] at ht41
  rw [hm0,hp]
  exact if_pos (by simpa using ht41)
 refine Z20 ?_;refine Z2 ?_;refine Z79 ?_;exact Aa (B5 (B4 jA jS) A7) ⟨by rw [hm,hp];show _=AV.tup [A8 y,A3 0];rw [Al];rfl,rfl⟩ (hlow:=by simp [or_imp,forall_and,Am])

/-! fuse.Forth and plan.Text. -/
def By (c:List Col) (ms:List Mov):Nat→List Expr
 | 0=>Ks c
 | k+1=>match ms[k]? with
  | some m=>Do m.take (colsAt c ms k) (By c ms k)++(Ch (colsAt c ms k) (By c ms k) m.ahead).1
  | none=>By c ms k
def Fv (c:List Col) (t:List Expr):List Mov→List Expr×Int
 | []=>(t,0)
 | m::r=>if (Ch c t m.ahead).2 != 0 then ([],(Ch c t m.ahead).2) else Fv (C9 c m).1 (Do m.take c t++(Ch c t m.ahead).1) r
/-- fuse.Forth. -/
def Eh (c:List Col) (l:List Mov):List Expr×Int:=if (Cg c l).2 != 0 then ([],1) else Fv c (Ks c) l
def Kb (c:List Col) (ms:List Mov) (k:Nat):Prop:=Fv c (Ks c) ms=Fv (colsAt c ms k) (By c ms k) (ms.drop k)
theorem AJl {c:List Col} {ms:List Mov}:Kb c ms 0:=rfl
theorem gy {c:List Col} {ms:List Mov} {k:Nat} {m:Mov} (hk:ms[k]? = some m) (h:Kb c ms k) (he:((Ch (colsAt c ms k) (By c ms k) m.ahead).2 != 0)=false):Kb c ms (k+1):=by
 unfold Kb at h ⊢
 rw [h,Sy hk,Fv,if_neg (by rw [he];simp),I9 hk,By,hk]
theorem pu {c:List Col} {ms:List Mov} {k:Nat} {m:Mov} (hk:ms[k]? = some m) (h:Kb c ms k) (he:((Ch (colsAt c ms k) (By c ms k) m.ahead).2 != 0)=true):Fv c (Ks c) ms=([],(Ch (colsAt c ms k) (By c ms k) m.ahead).2):=by
 unfold Kb at h
 rw [h,Sy hk,Fv,if_pos he]
theorem pv {c:List Col} {ms:List Mov} (h:Kb c ms ms.length):Fv c (Ks c) ms=(By c ms ms.length,0):=by
 unfold Kb at h
 rw [h,dj,Fv]
/-- Trees that may be walked, printed and put again. -/
structure TOk (t:List Expr):Prop where
 ok:∀e∈t,okE 61 e
 rng:∀e∈t,Dq Ge e=true
theorem Qb {take:List Str}:∀{c:List Col} {l:List Expr},∀e∈Do take c l,e∈l
 | [],[],e,h=>by cases h
 | [],_::_,e,h=>by cases h
 | _::_,[],e,h=>by cases h
 | y::c,x::l,e,h=>by
  unfold Do at h
  split at h
  ·exact Jp _ (Qb e h)
  rcases B3.1 h with rfl|h
  ·exact Gw
  exact Jp _ (Qb e h)
theorem lj {c:List Col} {l:List Expr} (hl:∀e∈l,Dq Ge e=true) (hc:c.length=l.length):∀(n:Nat) (x y:Expr),okE n x→Dq Ge x=true→putF c l x=some y→Dq Ge y=true
 | 0,x,y,h,_,_=>h.elim
 | n+1,x,y,h,hr,hp=>by
  cases h2:x.op==2 with
  | true =>
   rw [Yp h2] at hp
   split at hp
   ·cases hp
   rename_i hf
   injection hp with hp
   subst hp
   obtain ⟨j,hj,hjl⟩:=Gi hf
   rw [hj,Int.toNat_natCast,Cc,Ab (by omega)]
   exact hl _ (Bf (by omega))
  | false =>
   rw [Yq h2] at hp
   cases hk:Ib c l x.kids with
   | none=>rw [hk] at hp;cases hp
   | some s =>
    rw [hk] at hp
    injection hp with hp
    subst hp
    obtain ⟨h3,h4⟩:=Rp hk
    rw [Ip,Ao] at hr
    rw [Ip,Ao]
    refine ⟨hr.1,(Ff _ _).2 fun z hz=>?_⟩
    obtain ⟨e,he,hpe⟩:=h4 z hz
    exact lj hl hc n e z (h.2.2 e he) ((Ff _ _).1 hr.2 e he) hpe
theorem ll {x:Expr} {c:List Col} {l:List Expr} (hx:okE 61 x) (hr:Dq Ge x=true) (ht:TOk l) (he:(Cr x c l).2=0):okE 61 (Cr x c l).1∧Dq Ge (Cr x c l).1=true∧Au (Cr x c l).1=true:=by
 unfold Cr at he ⊢
 split at he
 ·exact absurd (show (1:Int)=0 from he) (by decide)
 rename_i h1
 rw [if_neg h1]
 have hcl:c.length=l.length:=by
  simp only [Tk,E3,bne_eq_false_iff_eq] at h1
  have:=h1.2
  omega
 cases hp:putF c l x with
 | none=>rw [hp] at he;exact absurd (show (9:Int)=0 from he) (by decide)
 | some y =>
  rw [hp] at he
  simp only at he ⊢
  split at he
  ·rename_i h2
   rw [if_pos h2]
   have h3:Fs y=true:=by rw [←Ga];exact h2
   exact ⟨Hl (by decide) (cd h3).1,lj ht.rng hcl 61 x y hx hr hp,h2⟩
  exact absurd (show (3:Int)=0 from he) (by decide)
theorem cg {c:List Col} {t:List Expr} (ht:TOk t):∀(l:List Expr),(∀e∈l,okE 61 e)→(∀e∈l,Dq Ge e=true)→(Ch c t l).2=0→TOk (Ch c t l).1
 | [],_,_,_=>⟨fun e h=>(E6 h).elim,fun e h=>(E6 h).elim⟩
 | x::r,h1,h2,he=>by
  unfold Ch at he ⊢
  split at he
  ·rename_i h3
   exact absurd he (by simpa using h3)
  rename_i h3
  rw [if_neg h3]
  split at he
  ·rename_i h4
   exact absurd he (by simpa using h4)
  rename_i h4
  rw [if_neg h4]
  have ih:=cg (c:=c) ht r (fun e he=>h1 e (Jp _ he)) (fun e he=>h2 e (Jp _ he)) (by simpa using h4)
  have hx:=ll (c:=c) (h1 x Gw) (h2 x Gw) ht (by simpa using h3)
  refine ⟨fun e he=>?_,fun e he=>?_⟩
  ·rcases B3.1 he with rfl|he
   ·exact hx.1
   exact ih.ok e he
  rcases B3.1 he with rfl|he
  ·exact hx.2.1
  exact ih.rng e he
theorem ACl {c:List Col} (hc:OkCols c):TOk (Ks c):=by
 refine ⟨fun e he=>?_,fun e he=>?_⟩
 ·obtain ⟨y,hy,rfl⟩:=C3.1 he
  exact ⟨hc.2 y hy,by simp [Cu,Expr.kids],fun z hz=>by simp [Cu,Expr.kids] at hz⟩
 obtain ⟨y,hy,rfl⟩:=C3.1 he
 rfl
/-- What holds of the trees behind k moves, if all went well till there. -/
theorem td {c:List Col} {ms:List Mov} {k:Nat} {m:Mov} (hk:ms[k]? = some m) (hm:OkMov m) (h:TOk (By c ms k)) (he:((Ch (colsAt c ms k) (By c ms k) m.ahead).2 != 0)=false):TOk (By c ms (k+1)):=by
 have h1:=cg (c:=colsAt c ms k) h m.ahead hm.ahead.ok hm.ahead.rng (by simpa using he)
 rw [By,hk]
 refine ⟨fun e he=>?_,fun e he=>?_⟩
 ·rcases E4.1 he with he|he
  ·exact h.ok e (Qb e he)
  exact h1.ok e he
 rcases E4.1 he with he|he
 ·exact h.rng e (Qb e he)
 exact h1.rng e he
theorem Sz {c:List Col} {m:Mov} (h:(C9 c m).2=0):(C9 c m).1=Di c m.take++Bt c m∧D4 c=true∧D4 (C9 c m).1=true:=by
 unfold C9 at h ⊢
 split at h
 ·rename_i h1
  exact absurd h (by simpa using h1)
 rename_i h1
 rw [if_neg h1]
 split at h
 ·rename_i h2
  exact absurd h (by simpa using h2)
 rename_i h2
 rw [if_neg h2]
 split at h
 ·rename_i h3
  exact absurd h (by simpa using h3)
 rename_i h3
 rw [if_neg h3]
 obtain ⟨a,_,b,d,e⟩:=AFc (by simpa using h1:(Dn c m.take (Bt c m)).2=0)
 rw [e]
 refine ⟨rfl,a,?_⟩
 unfold D4
 rw [b,Wm]
 refine decide_eq_true ?_
 show ((Di c m.take++Bt c m).length:Int)≤12
 omega
theorem lm {c:List Col} {ms:List Mov} {k:Nat} {m:Mov} (hk:ms[k]? = some m) (hm:I8 m=true) (ht:(C9 (colsAt c ms k) m).2=0) (h:(By c ms k).length=(colsAt c ms k).length) (he:((Ch (colsAt c ms k) (By c ms k) m.ahead).2 != 0)=false):(By c ms (k+1)).length=(colsAt c ms (k+1)).length:=by
 rw [By,I9 hk,hk]
 show (Do _ _ _++_).length=_
 rw [(Sz ht).1,At,At,Ji,Jk h.symm,Nz _ (by simpa using he),(I4 (Qa hm)).1]
/-! The text. -/
theorem Yr {n k:Nat} {o:Bool} {a:List Expr} {e:Expr}:Low n (.slice o k (a.map A8++[.agg (El e)])):=by
 have:=Ro (n:=n) (k:=k) (o:=o) (a:=a) (e:=e)
 rwa [Al] at this
theorem cj {c:List Col} {t:List Expr}:∀{l:List Expr},(∀(j:Nat) (y:Expr),l[j]? = some y→((Cr y c t).2 != 0)=false)→Ch c t l=(l.map (fun e=>(Cr e c t).1),0)
 | [],_=>rfl
 | x::r,h=>by
  have h1:=h 0 x rfl
  have ih:=cj (c:=c) (t:=t) (l:=r) (fun j y hy=>h (j+1) y hy)
  rw [Ch,if_neg (by rw [h1];simp),if_neg (by rw [ih];simp),ih]
  rfl
theorem ck {c:List Col} {t:List Expr}:∀{l:List Expr} {x:Nat} {y:Expr},(∀(j:Nat) (z:Expr),j<x→l[j]? = some z→((Cr z c t).2 != 0)=false)→l[x]? = some y→((Cr y c t).2 != 0)=true→Ch c t l=([],(Cr y c t).2)
 | [],_,_,_,h,_=>by simp at h
 | a::r,0,y,h0,h,h1=>by
  have:a=y:=by simpa using h
  subst this
  rw [Ch,if_pos h1]
 | a::r,x+1,y,h0,h,h1=>by
  have h2:=h0 0 a (by omega) rfl
  have ih:=ck (c:=c) (t:=t) (l:=r) (x:=x) (y:=y) (fun j z hj hz=>h0 (j+1) z (by omega) hz) (by simpa using h) h1
  rw [Ch,if_neg (by rw [h2];simp),if_pos (by rw [ih];exact h1),ih]
theorem c75 (l:List Expr) (hl:l.length≤1048576) (hlo:∀e∈l,okE 61 e) (c:List Col) (hc:OkCols c) (by_:List Expr) (hbl:by_.length≤1048576) (hbo:∀e∈by_,okE 61 e) (Hp:List AObj):AFun Tryz.prog 75 [Cm l,Ar c,Cm by_] Hp (.tup [Cm (Ch c by_ l).1,A3 (Ch c by_ l).2]):=by
 refine Ae [.tmp 6,.tmp 7] [0,1,2] Tryz.func75 Tryz.ntmps75 (fun d=>?_)
 refine Z1 ?_;refine Zu ?_;refine Z2 ?_;refine A2 [0,1,2,8] ?_;refine Z62 ?_;refine P0 8 6 ?_;refine Z12 ?_;refine AAj ?_
 refine Bg (α:=Nat) (fun x=>⟨35,A6 1 (Ar c) (A6 2 (Cm by_) (A6 8 (.slice true 6 (((l.take x).map (fun e=>(Cr e c by_).1)).map A8)) (A6 13 (Cm l) (A6 14 (A3 (l.length:Nat)) (A6 15 (A3 (x:Nat)) (fun _=>.any)))))),Hp,[],[],none⟩) (fun x=>x≤l.length∧∀(j:Nat) (y:Expr),j<x→l[j]? = some y→((Cr y c by_).2 != 0)=false) (fun x=>l.length-x) (0) ⟨Aq _,fun j y h=>by omega⟩ (Bl (by simp)) rfl (fun x hx=>?_)
 refine Z2 ?_;refine A2 [1,2,8,13,14,15,16] ?_
 refine Co (fun ht16=>?_) (fun ht16=>?_)
 ·have hlt:x<l.length:=by simpa using ht16
  refine Z77 ?_
  refine A5 (h:=Ah (x) (A8 l[x]) (fun _=>B7 hlt)) (hr:=?_)
  refine Qe ?_;refine A2 [1,2,8,10,13,14,15] ?_;refine Z15 ?_;refine A9 Tryz.call78 (c78 l[x] (hlo _ (Bf hlt)) c hc by_ hbl hbo _) ?_;refine Ra ?_;refine A2 [1,2,8,11,12,13,14,15] ?_;refine Z7 ?_;refine A2 [1,2,8,11,12,13,14,15,27] ?_
  refine A4 (fun ht27=>?_) (fun ht27=>?_)
  ·have hm:=ck hx.2 (Ab hlt) ht27
   refine Z1 ?_;refine Md 6 6 false ?_;refine nn ?_;refine Z26 ?_;exact Z32
  refine Z3 ?_;refine fe ?_;refine Z71 ?_
  refine Ek jU Tryz.type27 ?_ ?_ ?_
  ·simp only [An,C0,B2,Bz,Tryz.t27];omega
  ·simp only [An,C0,B2,Bz,Tryz.t27];omega
  refine I0 ?_;refine AAj ?_;refine R9 ?_;refine ALg ?_
  rw [Mz hlt,Bj]
  rw [Bk,Dr,Al]
  simp only [show Tryz.t27.size=6 from rfl]
  exact D0 (own:=[]) (fun _=>.refl _) (by repeat (first|exact Bc|refine Bb (by first|(simp [or_imp,forall_and];done)|exact Yr|exact Eg|exact Ef) ?_)) (by simp) (by simp)
 have hxe:l.length≤x:=by simpa using ht16
 have hm:Ch c by_ l=(l.map (fun e=>(Cr e c by_).1),0):=cj fun j y hy=>hx.2 j y (by have:=(Ad.1 hy).1;omega) hy
 refine Z27 ?_;refine Z15 ?_;refine Z17 ?_;exact Aa (B5 A7 A7) ⟨by rw [hm,Ej hxe],rfl⟩ (hlow:=by simp only [er,B3,Et,or_false];rintro y (rfl|rfl);exact Eg;simp)

theorem c76 (m:Mov) (c:List Col) (l:List Expr) (Hp:List AObj):AFun Tryz.prog 76 [Ie m,Ar c,Cm l] Hp (.fn (.func 122) [] [.ro [Ar c],.ro (Nv m),.ro [Cm l]]):=by
 refine Ae [.tmp 6] [0,1,2] Tryz.func76 Tryz.ntmps76 (fun d=>?_)
 refine Z23 ?_;refine A2 [3,4,5] ?_;refine vi ?_;refine Z76 ?_;exact Aa (Ai A7) (hlow:=by simp [or_imp,forall_and,Am])

theorem pw {take:List Str} {c:List Col} {l:List Expr} {k:Nat} {y:Col} (hcl:c.length=l.length) (hy:c[k]? = some y) (h:take.contains y.name=true):Do take (c.take (k+1)) (l.take (k+1))=Do take (c.take k) (l.take k):=by
 induction c generalizing l k with
 | nil=>simp at hy
 | cons a r ih =>
  cases l with
  | nil=>simp at hcl
  | cons b s =>
   cases k with
   | zero =>
    have:a=y:=by simpa using hy
    subst this
    simp only [List.take_succ_cons,List.take_zero]
    rw [Do,if_pos h]
   | succ k =>
    have ih':=ih (l:=s) (k:=k) (by simpa using hcl) (by simpa using hy)
    rw [List.take_succ_cons,List.take_succ_cons,List.take_succ_cons,List.take_succ_cons,Do,Do,ih']
theorem ACm {take:List Str} {c:List Col} {l:List Expr} {k:Nat} {y:Col} {e:Expr} (hcl:c.length=l.length) (hy:c[k]? = some y) (he:l[k]? = some e) (h:take.contains y.name=false):Do take (c.take (k+1)) (l.take (k+1))=Do take (c.take k) (l.take k)++[e]:=by
 induction c generalizing l k with
 | nil=>simp at hy
 | cons a r ih =>
  cases l with
  | nil=>simp at hcl
  | cons b s =>
   cases k with
   | zero =>
    have h1:a=y:=by simpa using hy
    have h2:b=e:=by simpa using he
    subst h1
    subst h2
    simp only [List.take_succ_cons,List.take_zero]
    rw [Do,if_neg (by rw [h];simp)]
    rfl
   | succ k =>
    have ih':=ih (l:=s) (k:=k) (by simpa using hcl) (by simpa using hy) (by simpa using he)
    rw [List.take_succ_cons,List.take_succ_cons,List.take_succ_cons,List.take_succ_cons,Do,Do,ih']
    split<;>rfl
theorem px {n:Nat} {m:Mov}:Low n (.ro (Nv m)):=by
 refine .ro _ fun y hy=>?_
 simp only [B3,Et,or_false] at hy
 rcases hy with rfl|rfl|rfl|rfl|rfl
 ·exact .v _
 ·exact xg
 ·exact Ef
 ·exact Eg
 exact Eg
theorem AQe (l0:Nat) (m:Mov) (c:List Col) (l:List Expr) (hc:c.length≤1048576) (hcl:c.length=l.length) (ht:m.take.length≤1048576) (U:Nat→List AObj) (hlen:∀k,(U k).length=(U 0).length) (hll:l0<(U 0).length)
  (hlw:∀k,∀x∈U k,ObjLow (U 0).length x) (hn:∀k y,c[k]? = some y→m.take.contains y.name=true→U (k+1)=U k)
  (hy:∀k y e X,c[k]? = some y→l[k]? = some e→m.take.contains y.name=false→AYield Tryz.prog l0 [A8 e] (U k++X) (fun b H'=>b=true∧H'=U (k+1)++X)):ACall Tryz.prog 122 [.yield l0,.ro [Ar c],.ro (Nv m),.ro [Cm l]] (U 0) (fun _ H'=>H'=U c.length):=by
 refine Ae [] [0,1,2,3] Tryz.func122 Tryz.ntmps122 (fun d=>?_)
 refine Z15 ?_;refine A2 [0,2,3,7,8,9] ?_
 refine Bg (α:=Nat) (fun x=>⟨30,A6 0 (.yield l0) (A6 2 (.ro (Nv m)) (A6 3 (.ro [Cm l]) (A6 7 (Ar c) (A6 8 (A3 (c.length:Nat)) (A6 9 (A3 (x:Nat)) (fun _=>.any)))))),U x,[],[],none⟩) (fun x=>x≤c.length) (fun x=>c.length-x) (0) (Aq _) (Bl (by simp)) rfl (fun x hx=>?_)
 refine Z2 ?_;refine A2 [0,2,3,7,8,9,10] ?_
 refine Co (fun ht10=>?_) (fun ht10=>?_)
 ·have hlt:x<c.length:=by simpa using ht10
  have hle:x<l.length:=by omega
  refine Qg ?_
  refine A5 (h:=Ah (x) (C2 c[x]) (fun _=>B7 hlt)) (hr:=?_)
  refine ja ?_;refine A2 [0,2,3,5,6,7,8,9] ?_;refine Z23 ?_;refine A9 Tryz.call95 (c95 m.take _ ht _) ?_;refine fj ?_
  refine Cp (h:=Ah (x) (A8 l[x]) (fun _=>B7 hle)) (hr:=?_)
  refine Cp ?_
  refine G.yield (l:=l0) (C:=((!m.take.contains c[x].name)==true)) (args:=[A8 l[x]]) (fun hC=>hy x c[x] _ _ (Ab hlt) (Ab hle) (by simpa using hC)) ?_
  intro b V O hV hb hb0
  have hVO:V=U (x+1)∧O=[AObj.cells 69 [Ac c[x].name,A3 c[x].kind]]∧(m.take.contains c[x].name=false→b=true):=by
   cases hcn:m.take.contains c[x].name with
   | true =>
    obtain ⟨h1,h2⟩:=hb0 (by rw [hcn];rfl)
    exact ⟨h1.trans (hn x c[x] (Ab hlt) hcn).symm,h2,fun e=>by cases e⟩
   | false =>
    obtain ⟨h1,h2⟩:=hb (by rw [hcn];rfl)
    have h3:=K7 h2 (by rw [hV,hlen x,hlen (x+1)])
    exact ⟨h3.1,h3.2,fun _=>h1⟩
  obtain ⟨rfl,rfl,hbt⟩:=hVO
  refine ⟨fun _=>by rw [hlen (x+1)];exact hlw (x+1),fun o ho=>(by cases ho),?_⟩
  refine Z53 ?_;refine A2 [0,2,3,7,8,9,28] ?_
  refine A4 (fun ht28=>?_) (fun ht28=>?_)
  ·exfalso
   have hcf:m.take.contains c[x].name=false:=by simp at ht28 ⊢;exact ht28.1
   rw [hbt hcf] at ht28
   simp at ht28
  refine Z68 ?_;refine A2 [0,2,3,7,8,9] ?_;refine AAf ?_
  exact D0 (own:=[]) (fun _=>.refl _) (by repeat (first|exact Bc|refine Bb (by first|(simp [or_imp,forall_and];done)|exact px|(simp [or_imp,forall_and,Am];done)|(have:=hlen (x+1);simp;omega)) ?_)) (by simp) (by simp)
 have hxe:x=c.length:=by simp at ht10;omega
 exact ALs

/-! ONE LINE EACH. -/
theorem py {c:List Col} {ms:List Mov} (he:(Ct c ms).2=0):∀k,k≤ms.length→NS c ms k
 | 0,_=>ANc
 | k+1,h=>by
  have ih:=py he k (by omega)
  have hk:ms[k]? = some ms[k]:=Ab (by omega)
  by_cases ht:(C9 (colsAt c ms k) ms[k]).2=0
  ·exact t7 hk ih ht
  exact absurd ((pl hk ih ht).symm.trans he) ht
theorem T0 {c:List Col} {ms:List Mov} (he:(Ct c ms).2=0) {k:Nat} {m:Mov} (hk:ms[k]? = some m):(C9 (colsAt c ms k) m).2=0:=by
 have hl:=(Ad.1 hk).1
 by_cases ht:(C9 (colsAt c ms k) m).2=0
 ·exact ht
 exact absurd ((pl hk (py he k (by omega)) ht).symm.trans he) ht
theorem Pm {c:List Col} {ms:List Mov}:∀{n k:Nat},k≤n→(Em c ms n)[k]? = some (colsAt c ms k)
 | 0,k,h=>by
  have:k=0:=by omega
  subst this;rfl
 | n+1,k,h=>by
  have hl:=Pl c ms n
  rw [Em]
  by_cases e:k=n+1
  ·subst e
   rw [D9 (by omega),hl,dw]
   rfl
  rw [D8 (by omega)]
  exact Pm (by omega)
theorem Jl {c:List Col} {ms:List Mov} (h:Nw c ms=true):∀m∈ms,I8 m=true:=by
 unfold Nw pi at h
 simp only [Ao,Az] at h
 exact h.2.2
/-- What a sound migration comes to. -/
theorem Gc {c:List Col} {ms:List Mov} (h:((Cg c ms).2 != 0)=false):Nw c ms=true∧(Ct c ms).2=0∧Cg c ms=(Em c ms ms.length,0):=by
 cases hm:Nw c ms with
 | false=>rw [c9 hm] at h;cases h
 | true =>
  by_cases he:(Ct c ms).2=0
  ·have e:=ACg (py he ms.length (Aj _))
   exact ⟨rfl,he,ca hm e⟩
  rw [Yn hm he] at h
  exact absurd (by simpa using h) he
theorem Uq {c:List Col} {ms:List Mov} (h:((Cg c ms).2 != 0)=false):Dw c ms=(colsAt c ms ms.length,0):=by
 obtain ⟨_,_,e⟩:=Gc h
 unfold Dw
 rw [if_neg (by rw [h];simp),e]
 show ((Em c ms ms.length).getLastD [],_)=_
 rw [z9,List.getLast?_eq_getElem?,Pl]
 have:=Pm (c:=c) (ms:=ms) (n:=ms.length) (Aj _)
 rw [show ms.length+1-1=ms.length from rfl,this]
 rfl
theorem ACn {n:Nat} {m:Mov} {t:TypeId}:ObjLow n (.cells t (Nv m)):=Ny
theorem ACo {c:List Col} {l:List Mov} (h:((Cg c l).2 != 0)=true):Eh c l=([],1):=if_pos h
theorem cm {c:List Col} {l:List Mov} (h:((Cg c l).2 != 0)=false):Eh c l=Fv c (Ks c) l:=if_neg (by rw [h];simp)
theorem ACp {c:List Col} {ms:List Mov} {k:Nat} {m:Mov} (h:ms[k]? = some m):Cm (By c ms (k+1))=.slice false 6 ((Do m.take (colsAt c ms k) (By c ms k)).map A8++(Ch (colsAt c ms k) (By c ms k) m.ahead).1.map A8):=by
 rw [By,h,←Bj]
theorem c32 (c:List Col) (hc:OkCols c) (hc2:c.length≤1000000) (l:List Mov) (h:OkMovs l) (Hp:List AObj):AFun Tryz.prog 32 [Ar c,Fu l] Hp (.tup [Cm (Eh c l).1,A3 (Eh c l).2]):=by
 refine Ae [.tmp 4,.tmp 5] [0,1] Tryz.func32 Tryz.ntmps32 (fun d=>?_)
 refine fg ?_;refine Z1 ?_;refine AId ?_;refine A2 [0,1,6,7] ?_;refine Z7 ?_;refine A2 [0,1,6,22] ?_
 refine A4 (fun ht22=>?_) (fun ht22=>?_)
 ·have hm:=ACo ht22
  refine Z2 ?_;refine Md 4 6 false ?_;exact ALe
 have hm:=cm ht22
 obtain ⟨hmay,hst,hss⟩:=Gc ht22
 have hmvo:=Jl hmay
 rw [hss]
 refine Qj ?_;refine A9 Tryz.call74 (c74 c (by omega) _) ?_;refine A5 ?_;refine A2 [1,6,8] ?_;refine Z30 ?_;refine A2 [6,8,25,26,27] ?_
 refine AW.loopG (α:=Nat×List AObj×List Nat) (fun s=>⟨65,A6 6 (pm (Em c l l.length)) (A6 8 (Cm (By c l s.1)) (A6 25 (Fu l) (A6 26 (A3 (l.length:Nat)) (A6 27 (A3 (s.1:Nat)) (fun _=>.any))))),Hp,s.2.1,s.2.2,none⟩) (fun s=>s.1≤l.length∧Kb c l s.1∧TOk (By c l s.1)∧(By c l s.1).length=(colsAt c l s.1).length∧(∀x∈s.2.1,ObjLow (Hp.length+s.2.1.length) x)∧∀o∈s.2.2,(Hp++s.2.1)[o]? = some .defs) (fun s=>l.length-s.1) ((0,[],[])) ⟨Aq _,AJl,ACl hc,by simp [By,Ks,colsAt],(fun x hx=>(E6 hx).elim),fun o ho=>(E6 ho).elim⟩ (Bl (by simp [By])) rfl (fun s hs=>?_)
 obtain ⟨k,O,Df⟩:=s
 obtain ⟨hk0,hnf,hTo,hTl,hOo,hDo⟩:=hs
 dsimp only at hk0 hnf hTo hTl hOo hDo ⊢
 refine Z2 ?_;refine A2 [6,8,25,26,27,28] ?_
 refine Co (fun ht28=>?_) (fun ht28=>?_)
 ·have hlt:k<l.length:=by simpa using ht28
  have hll:=h.len
  have hmk:l[k]? = some l[k]:=Ab hlt
  have hmo:=h.each _ (Bf hlt)
  have hCo:=Jj hc (fun m hm=>h.each m hm) k
  refine Qg ?_
  refine A5 (h:=Ah (k) (Ie l[k]) (fun _=>B7 hlt)) (hr:=?_)
  refine A5 ?_;refine R.alloc (n:=O.length) (ho:=rfl) jZ ?_;refine A5 ?_
  refine R.storeOwn (n:=O.length+0) (ho:=oat.trans rfl) (hset:=by rw [zp]<;>simp only [List.set_cons_succ,List.set_cons_zero]<;>rfl) jS ?_
  refine A2 [6,8,9,10,25,26,27] ?_;refine Ea [0,1,0,0,12,28,0,127,255,511,511,1023,4095] 12 Ak (by kernel_rfl) ?_;refine As ?_
  refine As (h:=Q.loadOwn (n:=O.length+0) (ho:=oat.trans rfl)) (hr:=?_)
  refine Z8 ?_
  refine As (h:=Ah (k) (Ar (colsAt c l k)) (fun _=>AJc (Pm (by omega)))) (hr:=?_)
  refine Z8 ?_
  refine Dx Tryz.call75 (c75 l[k].ahead hmo.ahead.len hmo.ahead.ok (colsAt c l k) hCo (By c l k) (by have:=hCo.1;omega) hTo.ok _) ?_
  refine Z8 ?_;refine Z90 ?_;refine A5 ?_;refine A2 [6,8,9,10,11,12,25,26,27] ?_;refine Z7 ?_;refine A2 [6,8,9,10,11,12,25,26,27,44] ?_
  refine A4 (fun ht44=>?_) (fun ht44=>?_)
  ·have hm2:=pu hmk hnf ht44
   refine Z1 ?_;refine Md 4 6 false ?_;refine A5 ?_;refine Z10 ?_;refine Ck ?_;refine Z5 ?_;refine K.lgR ?_;refine Ck ?_;exact Aa (B5 A7 A7) ⟨by rw [hm,hm2]<;>rfl,rfl⟩
  refine j9 ?_
  refine R.alloc (n:=O.length+1) (hn:=by simp) (ho:=by simp only [B8,E9,E5]<;>rfl) jZ ?_
  refine Mb (O.length+1) 6 ?_ (ho:=oat.trans rfl) (hset:=by rw [zp]<;>simp only [List.set_cons_succ,List.set_cons_zero]<;>rfl)
  refine Ma (fun hlow=>?_)
  refine A2 [6,8,9,10,11,13,25,26,27] ?_;refine K9 ?_;refine Ea [0,0,0,6,14,0,63] 6 Ak (by kernel_rfl) ?_
  refine As (h:=Q.loadOwnN (n:=O.length+0) (ho:=oat.trans rfl)) (hr:=?_)
  refine Z8 ?_
  refine As (h:=Ah (k) (Ar (colsAt c l k)) (fun _=>AJc (Pm (by omega)))) (hr:=?_)
  refine Z90 ?_;refine A9 Tryz.call76 (c76 l[k] (colsAt c l k) (By c l k) _) ?_;refine A2 [6,11,13,25,26,27,52] ?_;refine Lo ?_
  refine Nh (m:=O.length+2) (hm:=by simp) (ha:=rfl) Tryz.call122 (fun FR as' bd' hFR has hbd=>?_)
  generalize hCd:colsAt c l k=C at *
  generalize hTd:By c l k=T at *
  generalize hmd:l[k]=m at *
  have hFRl:∀s,Low (Hp.length+(O.length+4)) (FR s):=by
   intro s
   rw [hFR]
   refine Oi ?_
   revert s
   repeat (first|exact Bc|refine Bb (by first|exact Eg|exact Ia|exact Iw|(simp [oid,or_imp,forall_and,Am];done)|(simp [oid,or_imp,forall_and]<;>try omega)) ?_)
  have hstl:∀q,(Do m.take (C.take q) (T.take q)).length≤1048576:=fun q=>by
   have h1:=Jk (take:=m.take) (c:=C.take q) (l:=T.take q) (by simp [hTl])
   have h2:=K2 (C.take q) m.take
   have h3:=hCo.1
   rw [C0] at h2
   omega
  have hOl:∀{j:Nat} {o:Bool} {lp:AObj},ObjLow (Hp.length+(O.length+4)) lp→∀x∈O++[AObj.cells 80 (Nv m),AObj.cells 25 [AV.slice o 6 ((Do m.take (C.take j) (T.take j)).map A8)],AObj.defs,lp],ObjLow (Hp.length+(O.length+4)) x:=by
   intro j o lp hlp x hx
   rcases E4.1 hx with hx|hx
   ·exact Nl (by omega) (hOo x hx)
   simp only [B3,Et,or_false] at hx
   rcases hx with rfl|rfl|rfl|rfl
   ·exact ACn
   ·intro y hy
    rw [Bo.1 hy]
    exact Eg
   ·trivial
   exact hlp
  refine ⟨_,ACall.heapEq (by rw [B8];rfl) (AQe (oid Hp.length (O.length+3)) m C T hCo.1 hTl.symm hmo.takes (fun j=>Hp++(O++[AObj.cells 80 (Nv m),AObj.cells 25 [AV.slice true 6 ((Do m.take (C.take j) (T.take j)).map A8)],AObj.defs,AObj.loop LoopState.ready none FR 65 #[53] as' bd' (oid Hp.length (O.length+2))])) (fun j=>by simp) (by simp [oid]) (fun j x hx=>?_) (fun j y hk hcn=>by simp only [pw hTl.symm hk hcn]) (fun q y e X hk hke hcn=>?_)),?_⟩
  ·have:=Kp (fun x hx=>Nl (by omega) (hlow x hx)) (hOl (o:=true) (lp:=AObj.loop LoopState.ready none FR 65 #[53] as' bd' (oid Hp.length (O.length+2))) ⟨hFRl,by simp [oid]⟩) x hx
   simpa using this
  ·generalize hV:Hp++(O++[AObj.cells 80 (Nv m),AObj.cells 25 [AV.slice true 6 ((Do m.take (C.take q) (T.take q)).map A8)],AObj.defs,AObj.loop LoopState.ready none FR 65 #[53] as' bd' (oid Hp.length (O.length+2))])++X=V
   have hL:V[(oid Hp.length (O.length+3))]? = some (AObj.loop LoopState.ready none FR 65 #[53] as' bd' (oid Hp.length (O.length+2))):=by rw [←hV,B8,B8,Sb];rfl
   have hA0:V[(oid Hp.length (O.length+1))]? = some (AObj.cells 25 [AV.slice true 6 ((Do m.take (C.take q) (T.take q)).map A8)]):=by rw [←hV,B8,B8,Sb];rfl
   refine L8 (pd:=none) (fr:=FR) (sz:=65) (ps:=#[53]) (df:=(oid Hp.length (O.length+2))) (asg:=as') (bd:=bd') hL rfl (by decide) (fun d=>?_)
   subst hFR has hbd
   refine G9 [13,53] ?_;refine Hj ?_;refine Z14 ?_;refine A2 [13,14] ?_
   refine ⟨rfl,none,hL,?_⟩
   generalize hbz:(AObj.loop LoopState.busy _ _ _ _ _ _ _)=bz
   have hA:(V.set (oid Hp.length (O.length+3)) bz)[(oid Hp.length (O.length+1))]? = some (AObj.cells 25 [AV.slice true 6 ((Do m.take (C.take q) (T.take q)).map A8)]):=by rw [Bx (Cb (by omega))];exact hA0
   refine Lo ?_
   refine W.drawT0 [0,0,1,0,15,31,63,31] [0] [.s [54] (some 0) [] [],.q 3 [] []] (fun B=>(V.set (oid Hp.length (O.length+3)) bz).set (oid Hp.length (O.length+1)) (if B 0=true then AObj.cells 25 [AV.slice false 6 ((Do m.take (C.take q) (T.take q)).map A8)] else AObj.cells 25 [AV.slice true 6 ((Do m.take (C.take q) (T.take q)).map A8)])) (fun _=>[.cells 27 (El e)]) Ak (by kernel_rfl) (by simp only [Bd,if_false];exact Ce hA) rfl (fun B=>by simp) ?_
   refine Oy (o:=(oid Hp.length (O.length+1))) (t':=25) (cs:=[.slice true 6 ((Do m.take (C.take q) (T.take q)).map A8)]) (cs':=[.slice false 6 ((Do m.take (C.take q) (T.take q)).map A8)]) Tryz.isAgg25 (fun B hB=>⟨by simp only [hB];exact getset hA,by simp only [upd,if_true,Bv],rfl⟩) ?_
   apply Y.q
   ·intro B hT hF
    refine Z8 ?_;exact Z39
   case hTF=>decide
   refine Y.appendPut3 (tn:=[0]) (U:=(V.set (oid Hp.length (O.length+3)) bz).set (oid Hp.length (O.length+1)) (AObj.cells 25 [AV.slice false 6 ((Do m.take (C.take q) (T.take q)).map A8)])) (O:=[.cells 27 (El e)]) (o:=(oid Hp.length (O.length+1))) (t':=25) (cs:=[.slice false 6 ((Do m.take (C.take q) (T.take q)).map A8)]) (by kernel_rfl) jU Tryz.type27 Tryz.sizeOf27 Tryz.sizeOf25 (Ag (getset hA)) ?_ ?_ ?_
   ·have:=hstl q;simp [Tryz.t27];omega
   ·have:=hstl q;simp [Tryz.t27];omega
   refine G8 jS (getset hA) ?_ ?_
   ·exact Yr
   refine Vz ?_
   subst hbz
   refine K.rdN (ix hL (Cb (by omega)) (Cb (by omega))) ?_
   refine ⟨rfl,?_⟩
   subst hV
   simp only [B8,zq,E9,E5,List.set_cons_succ,List.set_cons_zero]
   rw [ACm hTl.symm hk hke hcn,Bj,Bk,Dr,Al]
  rintro r H' rfl
  simp only [Lt,hTl ▸ Lt]
  refine ⟨Hp,_,_,_,rfl,rfl,fun h=>h,?_,(oat (i:=3)).trans rfl,by simp,?_⟩
  ·intro o ho
   rcases B3.1 ho with rfl|ho
   ·rw [Sb]
    rfl
   rw [←B8]
   exact Ag (hDo o ho)
  refine Z11 ?_;refine Hj ?_
  refine ARun.ownEq (O++[AObj.cells 80 (Nv m),AObj.cells 25 [AV.slice true 6 ((Do m.take C T).map A8)],AObj.defs,AObj.loop LoopState.exhausted none FR 65 #[53] as' bd' (oid Hp.length (O.length+2))]) (by rw [show O.length+2+1=O.length+3 from rfl,zp]<;>rfl) ?_
  refine X2 (n:=O.length+1) (ho:=oat.trans rfl) (hset:=by rw [zp]<;>simp only [List.set_cons_succ,List.set_cons_zero]<;>rfl) jA ?_
  refine A5 ?_
  refine Ek jU Tryz.type27 ?_ ?_ ?_
  ·have h1:=Jk (take:=m.take) hTl.symm;have h2:=K2 C m.take;have h3:=hCo.1;have h4:=Nz (c:=C) (by_:=T) m.ahead (by simpa using ht44);have h5:=hmo.ahead.len;simp only [An,Tryz.t27];omega
  ·have h1:=Jk (take:=m.take) hTl.symm;have h2:=K2 C m.take;have h3:=hCo.1;have h4:=Nz (c:=C) (by_:=T) m.ahead (by simpa using ht44);have h5:=hmo.ahead.len;simp only [An,Tryz.t27];omega
  refine R.wk 62 _ (.strip true 6 _) ?_;refine A5 ?_;refine A2 [6,8,25,26,27] ?_;refine R9 ?_;refine A2 [6,8,25,26,27] ?_
  have hlp:ObjLow (Hp.length+(O.length+4)) (AObj.loop LoopState.exhausted none FR 65 #[53] as' bd' (oid Hp.length (O.length+2))):=⟨hFRl,by simp [oid]⟩
  have hOn:=hOl (j:=C.length) (o:=false) hlp
  have hse:Do m.take (C.take C.length) (T.take C.length)=Do m.take C T:=by rw [Lt,Ej (by omega)]
  rw [hse] at hOn
  refine K.lgN (k+1,O++[AObj.cells 80 (Nv m),AObj.cells 25 [AV.slice false 6 ((Do m.take C T).map A8)],AObj.defs,AObj.loop LoopState.exhausted none FR 65 #[53] as' bd' (oid Hp.length (O.length+2))],(oid Hp.length (O.length+2))::Df) ⟨hlt,?_,?_,?_,?_,?_⟩ (by dsimp only;omega) (Ds ?_) (by simp)
  ·subst hCd hTd hmd;exact gy hmk hnf ht44
  ·subst hCd hTd hmd;exact td hmk hmo hTo ht44
  ·subst hCd hTd hmd;exact lm hmk (hmvo _ (Bf hlt)) (T0 hst hmk) hTl ht44
  ·simpa using hOn
  ·intro o ho
   rcases B3.1 ho with rfl|ho
   ·dsimp only;rw [Sb];rfl
   dsimp only;rw [←B8];exact Ag (hDo o ho)
  dsimp only
  rw [ACp hmk,hCd,hTd]
  rfl
 have hke:k=l.length:=by simp at ht28;omega
 subst hke
 have hm2:=pv hnf
 refine K.lgE ?_;refine H4 ?_;refine Z15 ?_;refine Z10 ?_;exact Aa (B5 A7 A7) ⟨by rw [hm,hm2],rfl⟩ (hlow:=by simp only [er,B3,Et,or_false];rintro y (rfl|rfl);exact Eg;simp)

/-! slices.Backward of moves. -/
/-! fuse.Back: the trees of all columns ahead. -/
end Go.SX.Nb
namespace Go.SX
variable [GI:GlobInv]
open Classical
section
variable {P:Program} {d:Nat} {st:St} {ty:TypeId} {pos:String} {aft:Array Edge} {gd:Option (Nat×Bool)}
/-- A variable of its own, not laid yet. -/
theorem AOp.allocP {t:TypeId} {z:Value} {k s:Nat} (hz:∀w,(zeroValue t).run P w=.ok z w) (hk:z.cells.size=k) (hs:s<st.sz):
  AOp P d ⟨some s,.alloc t,ty,pos,aft,gd⟩ st (·=st.set s (.cellp k)):=by
 subst hk
 intro G a w h Q'
 let G':Gh:={ G with tag:=fun b o=>if b=w.heap.size∧o<z.cells.size then .tail (.slot d s) else G.tag b o }
 have hfree:∀o,G.tag w.heap.size o=.free:=fun o=>Ik h.tags _ o (Aj _)
 have hne:∀b o,G.tag b o≠.free→¬(b=w.heap.size∧o<z.cells.size):=fun b o hb hc=>by rw [hc.1] at hb;exact hb (hfree o)
 have hkeep:∀b o,G.tag b o≠.free→G'.tag b o=G.tag b o:=fun b o hb=>by simp only [G'];rw [if_neg (hne b o hb)]
 have hcell:∀b o,G.tag b o≠.free→(w.alloc (.cells z.cells t)).cell? ⟨b,o,none⟩=w.cell? ⟨b,o,none⟩:=fun b o hb=>by
  refine World.cell?_alloc_old _ _ _ ?_
  show b≠w.heap.size
  rintro rfl
  exact hb (hfree o)
 have T:Turn G w G' (w.alloc (.cells z.cells t)):=by
  refine ⟨fun b o hb=>⟨by rw [hkeep b o (by rw [hb];simp)];exact hb,hcell b o (by rw [hb];simp)⟩,fun b o L hb=>by rw [hkeep b o (by rw [hb];simp)];exact hb,fun b o i hb=>by rw [hkeep b o (by rw [hb];simp)];exact hb,Aj _,fun o ho=>rfl,rfl,rfl,rfl,by simp,dz _ (fun b o hb=>.inl (by simp only [G'];rw [if_neg (by omega)])) (fun i hi=>.inl ⟨hi,rfl⟩)⟩
 have h1:StRel d G' st a (w.alloc (.cells z.cells t)):=by
  refine h.turn (U:=st.up) (O:=st.own) T ⟨fun i x hx=>T.objRel ?_ ?_ (h.heap.obj i x hx) (fun b hb=>?_),h.heap.n,h.heap.inj⟩ rfl h.defsAt ⟨fun b o hb=>?_,fun b o i hb=>?_,fun b o L hb=>?_,h.tags.globKeep T.old⟩ h.low
  ·rw [h.heap.n];exact (Ad.1 hx).1
  ·have:=(h.heap.obj i x hx).blt
   show (w.heap.push _)[G.blk i]? = _
   rw [Ql,if_neg (by omega)]
  ·have:=hb.lt
   show (w.heap.push _)[b]? = _
   rw [Ql,if_neg (by omega)]
  ·simp only [G'] at hb
   split at hb
   ·rename_i hc
    obtain ⟨rfl,hlt⟩:=hc
    exact ⟨z.cells[o],by rw [World.cell?_alloc_new];exact Ei hlt⟩
   rw [hcell b o hb]
   exact h.tags.ex b o hb
  ·simp only [G'] at hb
   split at hb
   ·cases hb
   rw [World.frozen?_alloc_old]
   ·exact h.tags.obj b o i hb
   show b≠w.heap.size
   rintro rfl
   rw [hfree] at hb;cases hb
  simp only [G'] at hb
  split at hb
  ·rename_i hc
   obtain ⟨rfl,hlt⟩:=hc
   exact World.frozen?_alloc_new _ _ _ _
  rw [World.frozen?_alloc_old]
  ·exact h.tags.tail b o L hb
  show b≠w.heap.size
  rintro rfl
  rw [hfree] at hb;cases hb
 have hrun:(execOp a.eval (⟨some s,.alloc t,ty,pos,aft,gd⟩:Oper)).run P w=.ok (.value (.pointer (some ⟨w.heap.size,0,none⟩))) (w.alloc (.cells z.cells t)):=by
  simp [execOp,Instr.alloc,hz,newVar,newRow]
 refine Db (by intro c h;cases h) hrun ⟨G',_,h1.put (s:=s) (y:=.cellp z.cells.size) hs ?_,T.keep d,rfl,rfl,rfl,rfl⟩
 exact .cellp _ _ _ ⟨_,rfl,fun o ho=>by simp [G',ho]⟩

/-- It is laid: from now on nobody writes it. -/
theorem AOp.storeP {t:TypeId} {x:Operand} {r k:Nat} {y:AV} (hsz:∀w,(sizeOf t).run P w=.ok k w) (hf:st.fr r=.cellp k) (hx:st.ev x=y) (hk:y.cells.length=k) (hk0:0<k) (h1:y.cells.all AV.one=true):
  AOp P d ⟨none,.store t (.tmp r) x,ty,pos,aft,gd⟩ st (·=st.set r (.ro y.cells)):=by
 intro G a w h Q'
 have hone:∀c∈y.cells,c.one=true:=fun c hc=>Az.1 h1 c hc
 obtain ⟨hc,hcc⟩:=(hx ▸ h.eval x).cells hone
 have hsl:=h.slots r
 rw [hf] at hsl
 generalize hv:a.tmps.getD r undef=v at hsl
 cases hsl with
 | cellp l k b ho =>
  obtain ⟨L,hL,ht⟩:=ho
  injection hL with hL
  subst hL
  let us:=(a.eval x).cells.toList
  have hul:us.length=k:=by simp only [us,Array.length_toList];omega
  have huone:∀u∈us,u.oneCell'=true:=fun u hu=>by
   obtain ⟨j,hj⟩:=C6 hu
   have hj':(a.eval x).cells[j]? = some u:=by rw [←Ti];exact hj
   have hlt:j<y.cells.length:=by rw [←hc];exact (O3.1 hj').1
   exact (hcc j _ u (Ab hlt) hj').one (hone _ (Bf hlt))
  have hrun0:=run_storeCells_cells (P:=P) b 0 us 0 w (fun j hj=>by
    obtain ⟨u,hu⟩:=h.tags.ex b j (by rw [ht j (by omega)];simp)
    simp only [Nat.add_zero,Bq];rw [hu];rfl) (fun j hj=>by simpa using h.tags.tail _ _ _ (ht j (by omega))) huone
  simp only [Nat.add_zero] at hrun0
  let W:=w.setCells b 0 us
  let G':Gh:={ G with tag:=fun b' o=>if b'=b∧o<k then .fix else G.tag b' o }
  have htag:∀b' o,G.tag b' o≠.tail (.slot d r)→G'.tag b' o=G.tag b' o:=fun b' o hb=>by
   simp only [G']
   rw [if_neg]
   rintro ⟨rfl,ho⟩
   exact hb (ht o ho)
  have hout:∀b' o,¬(b'=b∧o<k)→W.cell? ⟨b',o,none⟩=w.cell? ⟨b',o,none⟩:=fun b' o hn =>
   World.cell?_setCells_out _ us 0 w ⟨b',o,none⟩ (fun hb _=>by
    simp only at hb ⊢
    exact .inr (W9 fun h''=>hn ⟨hb,by omega⟩))
  have hcell:∀b' o,G.tag b' o≠.tail (.slot d r)→W.cell? ⟨b',o,none⟩=w.cell? ⟨b',o,none⟩:=fun b' o hb=>hout b' o (fun hn=>hb (by rw [hn.1];exact ht o hn.2))
  have hnb:∀i,i<G.n→G.blk i≠b:=O5 h.heap h.tags (ht 0 hk0)
  have hheap:∀b',b'≠b→W.heap[b']? = w.heap[b']? := fun b' hb=>Ex _ _ _ _ _ hb
  have hsize:W.heap.size=w.heap.size:=Ew _ _ _ _
  have hstill:Still G w G' W:=N6 (fun b' hb'=>hheap b' (fun e=>O4 (ht 0 hk0) (e ▸ hb'))) (Jq hsize.symm) (fun b' o _=>by
   by_cases hc:b'=b∧o<k
   ·exact .inr ⟨_,by rw [hc.1];exact ht o hc.2⟩
   exact .inl (by simp only [G'];rw [if_neg hc])) (fun i hi=>.inl ⟨hi,rfl⟩)
  have hfix:∀b' o,G.tag b' o=.fix→G'.tag b' o=.fix∧W.cell? ⟨b',o,none⟩=w.cell? ⟨b',o,none⟩:=fun b' o hb=>⟨by rw [htag b' o (by rw [hb];simp)];exact hb,hcell b' o (by rw [hb];simp)⟩
  have htail:∀b' o L,L≠.slot d r→G.tag b' o=.tail L→G'.tag b' o=.tail L:=fun b' o L hL hb=>by
   rw [htag b' o (by rw [hb];intro e;injection e with e;exact hL e)];exact hb
  have hobj:∀b' o i,G.tag b' o=.obj i→G'.tag b' o=.obj i:=fun b' o i hb=>by rw [htag b' o (by rw [hb];simp)];exact hb
  have hrep:∀{l:Option Loc} {z:AV} {u:Value},l≠some (.slot d r)→Rep G w l z u→Rep G' W l z u:=fun hl hz =>
   hz.mono (G':=G') hfix (Aj _) (fun _ _=>rfl) (fun L hL b' o ht'=>htail b' o L (fun e=>hl (by rw [hL,e])) ht')
  have hkeep:Keep d G w G' W:=⟨hfix,fun b' o e s he ht'=>htail b' o _ (by rintro ⟨⟩;omega) ht',Aj _,fun _ _=>rfl,I5 _ _ _ _,Gk _ _ _ _,Fe _ _ _ _,Jq hsize.symm,hstill⟩
  have hvec:∀j u,us[j]? = some u→W.cell? ⟨b,j,none⟩=some u:=fun j u hu=>by
   have hj:=(Ad.1 hu).1
   have hex:∃u',w.cell? ⟨b,j,none⟩=some u':=h.tags.ex b j (by rw [ht j (by omega)];simp)
   obtain ⟨u',hu'⟩:=hex
   have hbk:∃vs e fz,w.heap[b]? = some (.cells vs e fz):=by
    simp only [World.cell?] at hu'
    split at hu'
    ·rename_i vs e fz hb;exact ⟨vs,e,fz,hb⟩
    cases hu'
   obtain ⟨vs,e,fz,hbk⟩:=hbk
   have hlen:0+us.length≤vs.size:=by
    rw [hul,Bq]
    rcases Bp vs.size k with h'|h'
    ·exfalso
     obtain ⟨u2,hu2⟩:=h.tags.ex b vs.size (by rw [ht _ h'];simp)
     simp [World.cell?,hbk] at hu2
    exact h'
   obtain ⟨vs',b1,b2,b3⟩:=L6 b e fz us 0 w vs hbk hlen
   have b3':=b3 j
   rw [if_pos (by omega)] at b3'
   show (w.setCells b 0 us).cell? ⟨b,j,none⟩=some u
   simp only [World.cell?,b1]
   rw [b3',Nat.sub_zero]
   exact hu
  have hst:StRel d G' (st.set r (.ro y.cells)) a W:=by
   refine ⟨h.size,fun s=>?_,⟨fun i z hz=>?_,h.heap.n,h.heap.inj⟩,h.defs,h.defsAt,h.defsNodup,h.defsGe,⟨fun b' o hb=>?_,fun b' o i hb=>?_,fun b' o L hb=>?_,h.tags.globKeep hstill⟩,h.rnd,h.low,h.top⟩
   ·show Rep G' W _ (A6 r (.ro y.cells) st.fr s) _
    unfold A6
    by_cases hs:s=r
    ·subst hs
     rw [if_pos rfl,hv]
     refine .ro _ _ ⟨b,0,none⟩ (fun j=>(a.eval x).cells.getD j undef) rfl hone (fun j c hj=>?_) (fun j c hj=>?_)
     all_goals
      have hlt:j<y.cells.length:=(Ad.1 hj).1
      have hu:(a.eval x).cells[j]? = some ((a.eval x).cells[j]'(by omega)):=Ei _
      have e1:(a.eval x).cells.getD j undef=(a.eval x).cells[j]'(by omega):=by rw [Jv,hu];rfl
      rw [e1]
     ·refine ⟨by simp only [G',Bq];rw [if_pos ⟨trivial,by omega⟩],?_⟩
      rw [Bq]
      exact hvec j _ (by simp only [us];rw [Ti];exact hu)
     exact hrep (by simp) (hcc j c _ hj hu)
    rw [if_neg hs]
    exact hrep (by simp;exact fun e=>hs e) (h.slots s)
   ·have hob:=h.heap.obj i z hz
    have hi:i<G.n:=by rw [h.heap.n];exact (Ad.1 hz).1
    have hb:=hheap (G.blk i) (hnb i hi)
    cases z with
    | cells t cs =>
     obtain ⟨vs,a1,a2,a3,a4⟩:=hob
     exact ⟨vs,hb.trans a1,a2,fun j y u p q=>hrep (by simp) (a3 j y u p q),fun j hj=>hobj _ _ _ (a4 j hj)⟩
    | loop sta pd fr sz ps asg bd df =>
     obtain ⟨fn,tmps,a1,a2,a3,a4⟩:=hob
     exact ⟨fn,tmps,hb.trans a1,a2,fun s=>hrep (by simp) (a3 s),a4⟩
    | defs=>exact hb.trans hob
    | dead=>exact hb.trans hob
    | bld t e bs=>exact BldRel.turn hob rfl (fun b' o ho=>hobj b' o i ho) hb (fun b' ha=>hheap b' (fun e=>by
      have:=ha.tag h.tags (o:=0) (by rw [e,ht 0 hk0];simp)
      rw [e,ht 0 hk0] at this;cases this))
    | gone =>
     obtain ⟨vs,t,fz,a1,a2⟩:=hob
     exact ⟨vs,t,fz,hb.trans a1,fun j hj=>(hfix _ _ (a2 j hj)).1⟩
   ·by_cases hc:b'=b∧o<k
    ·obtain ⟨rfl,ho⟩:=hc
     exact ⟨us[o]'(by omega),hvec o _ (Ab _)⟩
    rw [hout b' o hc]
    simp only [G',if_neg hc] at hb
    exact h.tags.ex b' o hb
   ·rw [World.frozen?_setCells]
    simp only [G'] at hb
    split at hb
    ·cases hb
    exact h.tags.obj b' o i hb
   rw [World.frozen?_setCells]
   simp only [G'] at hb
   split at hb
   ·cases hb
   exact h.tags.tail b' o L hb
  have hrun:(execOp a.eval (⟨none,.store t (.tmp r) x,ty,pos,aft,gd⟩:Oper)).run P w=.ok .skip W:=
   H1 hsz (show a.eval (.tmp r)=_ from hv) (by omega) hrun0
  exact Ha (by intro c h;cases h) hrun ⟨G',_,hst,hkeep,rfl,rfl,rfl,rfl⟩
end
section
variable {P:Program} {d:Nat} {sz:Nat} {dfs:List Nat} {rnd:Option Nat} {l0:List Oper} {up own:(Nat→Bool)→List AObj} {KP:List PanicEntry→St→Prop} {E:List Oper→(Nat→AV)→Prop} {S:List SegY} {l:List Oper} {fr:Nat→AV} {ty:TypeId} {pos:String} {aft:Array Edge} {s:Nat} {T F:List Nat}
theorem Y.allocP {t:TypeId} {z:Value} {k:Nat} (hz:∀w,(zeroValue t).run P w=.ok z w) (h:ChainY P d l0 sz up own dfs rnd KP E S l (A6 s (.cellp k) fr)) (hk:z.cells.size=k:=by rfl) (hs:Nat.blt s sz=true:=by rfl):
  ChainY P d l0 sz up own dfs rnd KP E (.s [s] none T F::S) (⟨some s,.alloc t,ty,pos,aft,none⟩::l) fr:=by
 refine ⟨_,l,[(s,.cellp k)],rfl,⟨rfl,rfl,fun B f _ _ _ hf=>.of ?_⟩,h⟩
 exact AOp.allocP (st:=⟨sz,f,up B,own B,dfs,rnd⟩) hz hk (by simpa using hs)
theorem Y.storeP {t:TypeId} {x:Operand} {r k:Nat} {y:AV} {ys:List AV} (hsz:∀w,(Go.sizeOf t).run P w=.ok k w) (h:ChainY P d l0 sz up own dfs rnd KP E S l (A6 r (.ro ys) fr))
  (hf:fr r=.cellp k:=by exact sL0) (hx:B6 fr x=y:=by exact sL0) (hc:y.cells=ys:=by exact sL0)
  (hk:ys.length=k:=by rfl) (hk0:0<k:=by decide) (h1:ys.all AV.one=true:=by exact sL2):
  ChainY P d l0 sz up own dfs rnd KP E (.s [r] none T F::S) (⟨none,.store t (.tmp r) x,ty,pos,aft,none⟩::l) fr:=by
 subst hc
 refine ⟨_,l,[(r,.ro y.cells)],rfl,⟨rfl,rfl,fun B f _ _ _ hfr=>.of ?_⟩,h⟩
 have e:f r=fr r:=hfr r (by simp [lk,ef,Op.operands])
 have ex:B6 f x=y:=by rw [agr hfr (by simp [Op.operands])];exact hx
 exact AOp.storeP (st:=⟨sz,f,up B,own B,dfs,rnd⟩) hsz (e.trans hf) ex hk hk0 h1
end
end Go.SX
