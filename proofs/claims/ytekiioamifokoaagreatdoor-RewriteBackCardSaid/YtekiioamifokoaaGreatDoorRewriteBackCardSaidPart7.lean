/- On the way (part 7). -/
import Derived.Lib.ItoaLen
import Derived.Test.YtekiioamifokoaaGreatDoorRewriteBackCardSaidPart6
set_option linter.all false
namespace Go.SX.Nb
open Go Go.SX Go.Proofs
variable [ErrAt]
set_option maxRecDepth 4000
theorem c92 (l:List Col) (hl:l.length≤1000000) (Hp:List AObj):AFun Tryz.prog 92 [Am l] Hp (Am l):=by
 refine Ae [.tmp 2] [0] Tryz.func92 Tryz.ntmps92 (fun d=>?_)
 refine Z42 ?_;refine Z33 ?_
 refine R.eqlNil jU (by kernel_rfl) (fun b hb=>?_)
 refine A2 [0,4] ?_
 refine A4 (fun ht4=>?_) (fun ht4=>?_)
 ·have hl0:l=[]:=by simpa using hb ht4
  subst hl0
  refine Z2 ?_;refine M7 2 2 false ?_;refine Z4 ?_;exact AOc
 refine Z3 ?_;refine Z41 ?_;refine A5 ?_
 refine E6 jU Tryz.type69 ?_ ?_ ?_
 ·simp [Tryz.t69];omega
 ·simp [Tryz.t69];omega
 refine Oj ?_;exact AOi

theorem AEd {Hp:List AObj} {y:Col} {n:Nat} (h:∀x∈Hp,ObjLow Hp.length x):∀x∈Hp++[AObj.cells 69 [],AObj.cells 69 (Ac y.name::A3 y.kind::List.replicate n AV.any)],ObjLow (Hp.length+2) x:=by
 intro x hx
 rcases El.1 hx with hx|hx
 ·exact L3 (by omega) (h x hx)
 simp only [B3,E5,or_false] at hx
 rcases hx with rfl|rfl
 ·intro z hz;cases hz
 intro z hz
 simp only [B3] at hz
 rcases hz with rfl|rfl|hz
 ·simp
 ·simp
 rw [List.eq_of_mem_replicate hz];simp
theorem ASx (y:Col) (Hp:List AObj):ACallO Tryz.prog 92 [Am [y]] Hp (fun r H'=>∃cc,1≤cc∧r=.sl (oid Hp.length 1) 2 1 cc∧H'=Hp++[.cells 69 [],.cells 69 (Ac y.name::A3 y.kind::List.replicate ((cc-1)*2) AV.any)]):=by
 refine ACallO.body [.tmp 2] [0] Tryz.func92 Tryz.ntmps92 (fun d=>?_)
 refine Z42 ?_;refine Z43 ?_
 refine Jx (fun hlow=>?_)
 refine A5 ?_
 refine R.eqlNil jU (by kernel_rfl) (fun b hb=>?_)
 refine A2 [0,4] ?_
 refine A4 (fun ht4=>?_) (fun ht4=>?_)
 ·exact absurd (hb ht4) (by simp)
 refine l6 ?_;refine R.buildObj0 (n:=0) jU Tryz.sizeOf69 ?_;refine A5 ?_
 refine R.appendObj (k:=2) (n:=1) jU Tryz.type69 (show [Cc y]≠[] by simp) ?_ ?_ (fun cc hcc=>?_)
 ·simp [Tryz.t69]
 ·simp
 have e0:Pa [Cc y]++List.replicate ((cc-[Cc y].length)*2) AV.any=Ac y.name::A3 y.kind::List.replicate ((cc-1)*2) AV.any:=rfl
 rw [e0]
 clear e0
 refine A5 ?_;refine Z4 ?_;exact K.finO 2 (A8 (t:=2)) ⟨cc,hcc,rfl,rfl⟩ (hlow:=by simp [oid]) (hobj:=AEd hlow)

theorem APz (c:List Col) (hc:OkCols c) (m:Mov) (h:OkMov m) (h3:(m.kind==3)=false) (Hp:List AObj):AFun Tryz.prog 164 [Am c,Hs m] Hp (Am (By c m)):=by
 refine Ae [.tmp 4] [0,1] Tryz.func164 Tryz.ntmps164 (fun d=>?_)
 refine AC6 ?_;refine Z1 ?_;refine A7 Tryz.call92 (c92 m.give h.gives2 _) ?_;refine A5 ?_;refine A2 [0,3,5] ?_;refine Z29 ?_;refine A2 [0,3,5,12] ?_
 refine A4 (fun ht12=>?_) (fun ht12=>?_)
 ·rw [h3] at ht12;cases ht12
 refine Nc ?_;refine Z14 ?_;exact A9 (Ao A8) ⟨by rw [AHy h3]<;>rfl,rfl⟩

theorem AQ0 (c:List Col) (hc:OkCols c) (m:Mov) (h:OkMov m) (h3:(m.kind==3)=true) (s:Str) (y:Col) (ht:m.take=[s]) (hg:m.give=[y]) (Hp:List AObj):AFun Tryz.prog 164 [Am c,Hs m] Hp (Am (By c m)):=by
 have hgv:=AHz (c:=c) h3 ht hg
 have hgy:=AEb (c:=c) h3 ht hg
 obtain ⟨kd,tk,gv,ah,bk⟩:=m
 simp only at ht hg h3
 subst ht hg
 refine Ae [.tmp 4] [0,1] Tryz.func164 Tryz.ntmps164 (fun d=>?_)
 refine AC6 ?_;refine Z1 ?_;refine R.callO Tryz.call92 (ASx y _) ?_
 rintro _ _ ⟨cc,hcc,rfl,rfl⟩
 refine ⟨[.cells 69 [],.cells 69 (Ac y.name::A3 y.kind::List.replicate ((cc-1)*2) AV.any)],by simp,?_⟩
 simp only [H4,D9]
 refine A5 ?_;refine A2 [0,3,5] ?_;refine Z29 ?_;refine A2 [0,3,5,12] ?_
 refine A4 (fun ht12=>?_) (fun ht12=>?_)
 ·refine Z15 ?_
  refine A5 (h:=Ag (0) (Ac s) (fun _=>rfl)) (hr:=?_)
  refine A5 ?_;refine A7 Tryz.call60 (c60 c hc s _) ?_;refine A5 ?_;refine A2 [0,5,6] ?_;refine Z1 ?_;refine A2 [0,5,6,20] ?_
  refine A4 (fun ht20=>?_) (fun ht20=>?_)
  ·have hf:¬Ay s c<0:=by simp at ht20;omega
   obtain ⟨jj,hjj,hjc⟩:=Gu hf
   refine Z49 ?_
   refine A5 (h:=Ag ((Ay s c).toNat) (Cc (c.getD (Ay s c).toNat ⟨[],0⟩)) (fun _=>vf hf)) (hr:=?_)
   refine Z0 ?_;refine R.indexAddrSl (n:=1) 0 jU Tryz.sizeOf69 (by decide) ?_
   refine A5 (h:=Q.fieldAddrPtr (hc:=rfl)) (hr:=?_)
   refine R.storeOwn (y:=A3 (c.getD (Ay s c).toNat ⟨[],0⟩).kind) (ys:=[A3 (c.getD (Ay s c).toNat ⟨[],0⟩).kind]) (n:=1) (cs:=Ac y.name::A3 y.kind::List.replicate ((cc-1)*2) AV.any) (cs':=Ac y.name::A3 (c.getD (Ay s c).toNat ⟨[],0⟩).kind::List.replicate ((cc-1)*2) AV.any) (t':=69) jS ?_ (hc:=rfl) (hput:=rfl) (hfit:=by simp)
   refine A2 [5] ?_;refine Il ?_;refine F0 ?_;refine R.freeze (k:=2) (n:=1) 5 1 [Cc ⟨y.name,(c.getD (Ay s c).toNat ⟨[],0⟩).kind⟩] hcc rfl rfl (my [⟨y.name,(c.getD (Ay s c).toNat ⟨[],0⟩).kind⟩]) (mz [⟨y.name,(c.getD (Ay s c).toNat ⟨[],0⟩).kind⟩]) (Zv [⟨y.name,(c.getD (Ay s c).toNat ⟨[],0⟩).kind⟩]) ?_;refine Z0 ?_;exact ANi
  have hf:Ay s c<0:=by simp at ht20;omega
  refine l6 ?_;refine R.freeze (k:=2) (n:=1) 5 1 [Cc ⟨y.name,y.kind⟩] hcc rfl rfl (my [⟨y.name,y.kind⟩]) (mz [⟨y.name,y.kind⟩]) (Zv [⟨y.name,y.kind⟩]) ?_;refine Z0 ?_;exact ANi
 rw [h3] at ht12;cases ht12

/-- What a move must have before it is turned. -/
structure MvOk (m:Mov):Prop where
 ok:OkMov m
 ahead:m.ahead.length=m.give.length
 back:m.back.length=m.take.length
 one:(m.kind==3)=true→m.take.length=1∧m.give.length=1
theorem AI0 {m:Mov} (h:OkMov m) (hc:Ha m=true):MvOk m:=⟨h,(Fg hc).1,(Fg hc).2,fun h3=>Zs hc (by rw [h3];rfl)⟩
theorem ASy (c:List Col) (hc:OkCols c) (m:Mov) (h:MvOk m) (Hp:List AObj):AFun Tryz.prog 164 [Am c,Hs m] Hp (Am (By c m)):=by
 cases h3:m.kind==3 with
 | false=>exact APz c hc m h.ok h3 Hp
 | true =>
  obtain ⟨h1,h2⟩:=h.one h3
  obtain ⟨s,hs⟩:=AEc h1
  obtain ⟨y,hy⟩:=AEc h2
  exact AQ0 c hc m h.ok h3 s y hs hy Hp
theorem n5 {c:List Col} {m:Mov} (h:OkMov m):OkCols (By c m):=by
 refine ⟨by rw [Ka];exact Ic h.gives2 (by decide),fun y hy=>?_⟩
 unfold By at hy
 split at hy
 ·split at hy
  ·exact h.gives.2 y hy
  cases hg:m.give with
  | nil=>rw [hg] at hy;cases hy
  | cons z r =>
   rw [hg] at hy
   rcases B3.1 hy with rfl|hy
   ·exact h.gives.2 z (by rw [hg];exact G5)
   exact h.gives.2 y (by rw [hg];exact J2 _ hy)
 exact h.gives.2 y hy
theorem n6 {c give:List Col} {take:List Str} (hc:OkCols c) (hg:OkCols give) (hg2:give.length≤1000000):OkCols (E2 c take give).1:=by
 have h0:OkCols ([]:List Col):=⟨by decide,fun y hy=>by cases hy⟩
 unfold E2
 split
 ·exact h0
 rename_i hr
 split
 ·exact h0
 split
 ·exact h0
 split
 ·exact h0
 split
 ·exact h0
 exact ADp hc (by simpa using hr) hg hg2 rfl
theorem ru {c give:List Col} {take:List Str} (h:((E2 c take give).2 != 0)=false):∀s∈take,¬Ay s c<0:=by
 have ht:Jd c take=true:=by
  unfold E2 at h
  split at h
  ·cases h
  split at h
  ·cases h
  rename_i ht
  simpa using ht
 intro s hs hf
 obtain ⟨j,hj⟩:=Cb hs
 have:=takenM_true.1 ht j s hj
 unfold R9 at this
 rw [show decide (Ay s c<0)=true by simpa using hf] at this
 simp at this
theorem zh {over:List Col} {l:List Expr} {w:List Col} {x:Nat} (hl:x<l.length) (hw:x<w.length):
  D8 over (l.drop x) (w.drop x)=if Rk l[x] over w[x].kind != 0 then Rk l[x] over w[x].kind else D8 over (l.drop (x+1)) (w.drop (x+1)):=by
 rw [J1 hl,J1 hw]
 rfl
theorem AEe {over:List Col} {l:List Expr} {w:List Col} {x:Nat} (hl:l.length≤x):D8 over (l.drop x) (w.drop x)=0:=by
 rw [List.drop_eq_nil_of_le hl]
 cases w.drop x<;>rfl
theorem Nz {α β:Type} {f:α→β} {l:List α} {x:Nat} (h:x<l.length):(l.take (x+1)).map f=(l.take x).map f++[f l[x]]:=by
 rw [J4 h,Bj];rfl
theorem vg {c:List Col} {m:Mov} (h:((E2 c m.take (By c m)).2 != 0)=true):Bp c m=([],(E2 c m.take (By c m)).2):=if_pos h
theorem vh {c:List Col} {m:Mov} (h:((E2 c m.take (By c m)).2 != 0)=false) (h2:(D8 c m.ahead (By c m) != 0)=true):Bp c m=([],D8 c m.ahead (By c m)):=by
 unfold Bp;rw [if_neg (by rw [h];simp),if_pos h2]
theorem vi {c:List Col} {m:Mov} (h:((E2 c m.take (By c m)).2 != 0)=false) (h2:(D8 c m.ahead (By c m) != 0)=false) (h3:(D8 (E2 c m.take (By c m)).1 m.back (Gp c m) != 0)=true):Bp c m=([],D8 (E2 c m.take (By c m)).1 m.back (Gp c m)):=by
 unfold Bp;rw [if_neg (by rw [h];simp),if_neg (by rw [h2];simp),if_pos h3]
theorem vj {c:List Col} {m:Mov} (h:((E2 c m.take (By c m)).2 != 0)=false) (h2:(D8 c m.ahead (By c m) != 0)=false) (h3:(D8 (E2 c m.take (By c m)).1 m.back (Gp c m) != 0)=false):Bp c m=((E2 c m.take (By c m)).1,0):=by
 unfold Bp;rw [if_neg (by rw [h];simp),if_neg (by rw [h2];simp),if_neg (by rw [h3];simp)]
theorem AQ1 (l:List Expr) (h:OkEs l) (w:List Col) (hw:w.length=l.length) (c:List Col) (hc:OkCols c) (Hp:List AObj):AFun Tryz.prog 166 [C4 l,Am w,Am c] Hp (A3 (D8 c l w)):=by
 refine Ae [.tmp 6] [0,1,2] Tryz.func166 Tryz.ntmps166 (fun d=>?_)
 refine Z2 ?_;refine Y8 ?_;refine Z29 ?_;refine A2 [1,2,11,12,13] ?_
 refine Bi (α:=Nat) (fun x=>⟨37,A6 1 (Am w) (A6 2 (Am c) (A6 11 (C4 l) (A6 12 (A3 (l.length:Nat)) (A6 13 (A3 (x:Nat)) (fun _=>.any))))),Hp,[],[],none⟩) (fun x=>x≤l.length∧D8 c l w=D8 c (l.drop x) (w.drop x)) (fun x=>l.length-x) (0) ⟨Au _,rfl⟩ (Bo (by simp)) rfl (fun x hx=>?_)
 refine Z2 ?_;refine A2 [1,2,11,12,13,14] ?_
 refine Ck (fun ht14=>?_) (fun ht14=>?_)
 ·have hlt:x<l.length:=by simpa using ht14
  have hlw:x<w.length:=by omega
  have hlen:=h.len
  have hst:=zh (over:=c) hlt hlw
  refine Rh ?_
  refine A5 (h:=Ag (x) (Aa l[x]) (fun _=>B7 hlt)) (hr:=?_)
  refine l7 ?_;refine A2 [1,2,7,8,11,12,13] ?_;refine Z7 ?_;refine A7 Tryz.call62 (c62 61 l[x] (h.ok _ (Bl hlt)) (by decide) c hc _) ?_;refine Z59 ?_;refine A2 [1,2,7,8,10,11,12,13] ?_;refine Z1 ?_;refine A2 [1,2,7,8,10,11,12,13,25] ?_
  refine A4 (fun ht25=>?_) (fun ht25=>?_)
  ·have he:Rk l[x] c w[x].kind=(Gb l[x] c).2:=if_pos ht25
   have hm:D8 c l w=(Gb l[x] c).2:=by rw [hx.2,hst,he,if_pos ht25]
   refine Z1 ?_;refine pw ?_;exact Y4
  refine Z3 ?_;refine Ea [0,0,0,0,12,28,60,127,255] 7 An (by kernel_rfl) ?_;refine X1 ?_
  refine Aq (h:=Ag (x) (Cc w[x]) (fun _=>B7 hlw)) (hr:=?_)
  refine Z89 ?_;refine A7 Tryz.call63 (c63 61 l[x] (h.ok _ (Bl hlt)) (by decide) c hc w[x].kind _) ?_;refine A5 ?_;refine A2 [1,2,11,12,13,35] ?_
  refine A4 (fun ht35=>?_) (fun ht35=>?_)
  ·have he:Rk l[x] c w[x].kind=10:=by unfold Rk;rw [if_neg (by rw [ht25];simp),if_pos ht35]
   have hm:D8 c l w=10:=by rw [hx.2,hst,he];rfl
   refine Z2 ?_;refine Z75 ?_;exact Y4
  have he:Rk l[x] c w[x].kind=0:=by unfold Rk;rw [if_neg (by rw [ht25];simp),if_neg (by rw [ht35];simp)]
  have hnx:D8 c l w=D8 c (l.drop (x+1)) (w.drop (x+1)):=by rw [hx.2,hst,he];rfl
  refine Z70 ?_;refine A2 [1,2,11,12,13] ?_;refine Bt (x+1) ⟨hlt,hnx⟩ (by omega) ?_
  exact D0 (own:=[]) (fun _=>.refl _) (by repeat (first|exact Bb|refine Ba (by first|(simp [or_imp,forall_and];done)|exact Dj) ?_)) (by simp) (by simp)
 have hxe:l.length≤x:=by simpa using ht14
 have hm:D8 c l w=0:=by rw [hx.2,AEe hxe]
 refine qc ?_;refine Z75 ?_;exact y9

theorem ASz (c:List Col) (hc:OkCols c) (m:Mov) (h:OkMov m) (hf:∀s∈m.take,¬Ay s c<0) (Hp:List AObj):AFun Tryz.prog 167 [Am c,Hs m] Hp (Am (Gp c m)):=by
 refine Ae [.tmp 4] [0,1] Tryz.func167 Tryz.ntmps167 (fun d=>?_)
 refine AC6 ?_;refine Z2 ?_;refine A2 [0,3,5] ?_;refine Z43 ?_;refine Na 5 2 ?_;refine Z68 ?_;refine A2 [0,5,9,10,11] ?_
 refine Bi (α:=Nat) (fun x=>⟨26,A6 0 (Am c) (A6 5 (.slice true 2 (((m.take.take x).map fun s=>c.getD (Ay s c).toNat ⟨[],0⟩).map Cc)) (A6 9 (G9 m.take) (A6 10 (A3 (m.take.length:Nat)) (A6 11 (A3 (x:Nat)) (fun _=>.any))))),Hp,[],[],none⟩) (fun x=>x≤m.take.length) (fun x=>m.take.length-x) (0) (Au _) (Bo (by simp)) rfl (fun x hx=>?_)
 refine Z2 ?_;refine A2 [0,5,9,10,11,12] ?_
 refine Ck (fun ht12=>?_) (fun ht12=>?_)
 ·have hlt:x<m.take.length:=by simpa using ht12
  have htk:=h.takes
  have hfx:=hf _ (Bl hlt)
  obtain ⟨jj,hjj,hjc⟩:=Gu hfx
  refine Z73 ?_
  refine A5 (h:=Ag (x) (Ac m.take[x]) (fun _=>B7 hlt)) (hr:=?_)
  refine Z0 ?_;refine A2 [0,5,7,9,10,11] ?_;refine bi ?_;refine Z12 ?_;refine A7 Tryz.call60 (c60 c hc m.take[x] _) ?_
  refine A5 (h:=Ag ((Ay m.take[x] c).toNat) (Cc (c.getD (Ay m.take[x] c).toNat ⟨[],0⟩)) (fun _=>vf hfx)) (hr:=?_)
  refine Z58 ?_
  refine E6 jU Tryz.type69 ?_ ?_ ?_
  ·simp only [Ah,C1,B0,Bu,Tryz.t69];omega
  ·simp only [Ah,C1,B0,Bu,Tryz.t69];omega
  refine Oj ?_;refine A2 [0,5,9,10,11] ?_;refine Q3 ?_;refine A2 [0,5,9,10,11] ?_
  refine Bt (x+1) hlt (by omega) (Dx ?_)
  rw [Nz hlt,Bj]
  rfl
 have hxe:m.take.length≤x:=by simpa using ht12
 refine Z27 ?_;refine l3 ?_;exact A9 (Ao A8) ⟨by unfold Gp;rw [E9 hxe]<;>rfl,rfl⟩ (hlow:=D5)

theorem AT0 (c:List Col) (hc:OkCols c) (m:Mov) (h:MvOk m) (Hp:List AObj):AFun Tryz.prog 128 [Am c,Hs m] Hp (.tup [Am (Bp c m).1,A3 (Bp c m).2]):=by
 refine Ae [.tmp 4,.tmp 5] [0,1] Tryz.func128 Tryz.ntmps128 (fun d=>?_)
 refine Z15 ?_;refine No ?_;refine Z1 ?_;refine A7 Tryz.call164 (ASy c hc m h _) ?_;refine A5 ?_;refine A2 [0,3,6] ?_;refine F0 ?_
 have hg:=n5 (c:=c) h.ok
 have hg2:(By c m).length≤1000000:=by rw [Ka];exact h.ok.gives2
 refine Z68 ?_;refine A7 Tryz.call165 (ASw c hc m.take h.ok.takes (By c m) hg hg2 _) ?_;refine Z59 ?_;refine A2 [0,3,6,7,8] ?_;refine Z7 ?_;refine A2 [0,3,6,7,8,23] ?_
 refine A4 (fun ht23=>?_) (fun ht23=>?_)
 ·have hm:=vg ht23
  exact AGu
 refine Z3 ?_;refine Z79 ?_;refine A7 Tryz.call166 (AQ1 m.ahead h.ok.ahead (By c m) (by rw [Ka,h.ahead]) c hc _) ?_;refine A5 ?_;refine A2 [0,3,7,9] ?_;refine Z1 ?_;refine A2 [0,3,7,9,31] ?_
 refine A4 (fun ht31=>?_) (fun ht31=>?_)
 ·have hm:=vh ht23 ht31
  exact AGu
 refine Z3 ?_;refine L0 ?_;refine Ea [0,1,0,0,12,0,63,127] 6 An (by kernel_rfl) ?_;refine X1 ?_;refine Du Tryz.call167 (ASz c hc m h.ok (ru ht23) _) ?_;refine ACe ?_;refine A7 Tryz.call166 (AQ1 m.back h.ok.back (Gp c m) (by rw [Gp,Ah,h.back]) (E2 c m.take (By c m)).1 (n6 hc hg hg2) _) ?_;refine A5 ?_;refine A2 [7,10] ?_;refine Z1 ?_;refine A2 [7,10,41] ?_
 refine A4 (fun ht41=>?_) (fun ht41=>?_)
 ·have hm:=vi ht23 ht31 ht41
  exact AGu
 have hm:=vj ht23 ht31 ht41
 refine Q4 ?_;exact ANy

def Qn {α:Type} (p:α→Bool) (l:List α):Int:=if l.any p then (l.findIdx p:Int) else -1
theorem AEf {α:Type} {p:α→Bool} {l:List α} {i:Nat} (h:i<l.length) (hn:p l[i]=true) (hp:∀(j:Nat) (y:α),j<i→l[j]? = some y→p y=false):(i:Int)=Qn p l:=by
 unfold Qn
 rw [if_pos (Fy.2 ⟨_,Bl h,hn⟩)]
 congr 1
 refine (oy h |>.2 ⟨hn,fun j hj=>?_⟩).symm
 exact hp j (l[j]'(by omega)) hj (Ab (by omega))
theorem rx {α:Type} {p:α→Bool} {l:List α} (h:l.any p=false):(-1:Int)=Qn p l:=by
 unfold Qn
 rw [if_neg (by rw [h];simp)]
theorem zi {α:Type} (p:α→Bool) (l:List α):decide (0≤Qn p l)=l.any p:=by
 unfold Qn
 cases l.any p<;>simp
def Qo (s:Str):Bool := !(Eb s)
def Ed (e:Expr):Bool := !(Az e)
theorem AEg {m:Mov} (h:(((m.ahead.length:Int) != (m.give.length:Int)) || ((m.back.length:Int) != (m.take.length:Int)))=true):Ha m=false:=if_pos h
theorem AEh {m:Mov} (h:(((m.ahead.length:Int) != (m.give.length:Int)) || ((m.back.length:Int) != (m.take.length:Int)))=false):Ha m=if m.kind==1 then ((m.take.length:Int)==0)&&((m.give.length:Int)==1)
 else if m.kind==2 then ((m.take.length:Int)==1)&&((m.give.length:Int)==0)
 else if (m.kind==3) || (m.kind==6) then ((m.take.length:Int)==1)&&((m.give.length:Int)==1)
 else if m.kind==4 then ((m.take.length:Int)==1)&&decide ((1:Int)<(m.give.length:Int))
 else if m.kind==5 then decide ((1:Int)<(m.take.length:Int))&&((m.give.length:Int)==1)
 else false:=if_neg (by rw [h];simp)
theorem AT1 (m:Mov) (Hp:List AObj):AFun Tryz.prog 206 [Hs m] Hp (B4 (Ha m)):=by
 refine Ae [.tmp 2] [0] Tryz.func206 Tryz.ntmps206 (fun d=>?_)
 refine Z92 ?_;refine Ea [0,1,3,0,8,24,7,127] 7 An (by kernel_rfl) ?_;refine X1 ?_;refine Z35 ?_;refine Ik ?_;refine A5 ?_;refine A2 [1,3,4] ?_;refine Z43 ?_
 simp only [Ah]
 refine Z68 ?_;refine Z86 ?_;refine Z55 ?_;refine A2 [1,3,4,22] ?_
 refine A4 (fun ht22=>?_) (fun ht22=>?_)
 ·simp only [Ah] at ht22
  have hm:=AEg ht22
  exact AC2
 simp only [Ah] at ht22
 have hn:=AEh ht22
 refine iu ?_;refine A2 [3,4,24] ?_;refine X0 ?_;refine A2 [3,4,24,25] ?_
 refine A4 (fun ht25=>?_) (fun ht25=>?_)
 ·refine bq ?_;refine q9 ?_;exact A9 (Ao A8) ⟨by rw [hn];first|(simp only [ht22,ht25,hk3,hk6,Ly,Fb,Lx,Pi,if_true,if_false,Bg,↓reduceIte]<;>rfl)|(simp only [ht22,ht25,hk3,Ly,Fb,Lx,if_true,if_false,Bg,↓reduceIte]<;>rfl)|(simp only [ht22,ht25,if_true,if_false,Bg,↓reduceIte]<;>rfl),rfl⟩
 refine Z1 ?_;refine A2 [3,4,24,33] ?_
 refine A4 (fun ht33=>?_) (fun ht33=>?_)
 ·refine bq ?_;refine q9 ?_;exact A9 (Ao A8) ⟨by rw [hn];first|(simp only [ht22,ht25,ht33,hk3,hk6,Ly,Fb,Lx,Pi,if_true,if_false,Bg,↓reduceIte]<;>rfl)|(simp only [ht22,ht25,ht33,hk3,Ly,Fb,Lx,if_true,if_false,Bg,↓reduceIte]<;>rfl)|(simp only [ht22,ht25,ht33,if_true,if_false,Bg,↓reduceIte]<;>rfl),rfl⟩
 refine Z7 ?_;refine A2 [3,4,24,41] ?_
 refine A4 (fun ht41=>?_) (fun ht41=>?_)
 ·have hk3:=ht41
  refine Z3 ?_
  refine A4 (fun ht41=>?_) (fun ht41=>?_)
  ·refine bq ?_;refine Z66 ?_;exact Z53
  rw [hk3] at ht41;cases ht41
 have hk3:=ht41
 refine Z21 ?_;refine A2 [3,4,24,41] ?_;refine Il ?_
 refine A4 (fun ht41=>?_) (fun ht41=>?_)
 ·have hk6:=ht41
  refine bq ?_;refine Z66 ?_;exact Z53
 have hk6:=ht41
 refine Z1 ?_;refine A2 [3,4,24,50] ?_
 refine A4 (fun ht50=>?_) (fun ht50=>?_)
 ·refine bq ?_;refine q9 ?_;exact A9 (Ao A8) ⟨by rw [hn];first|(simp only [ht22,ht25,ht33,ht41,ht41,ht50,hk3,hk6,Ly,Fb,Lx,Pi,if_true,if_false,Bg,↓reduceIte]<;>rfl)|(simp only [ht22,ht25,ht33,ht41,ht41,ht50,hk3,Ly,Fb,Lx,if_true,if_false,Bg,↓reduceIte]<;>rfl)|(simp only [ht22,ht25,ht33,ht41,ht41,ht50,if_true,if_false,Bg,↓reduceIte]<;>rfl),rfl⟩
 refine Z1 ?_;refine A2 [3,4,58] ?_
 refine A4 (fun ht58=>?_) (fun ht58=>?_)
 ·refine bq ?_;refine q9 ?_;exact AOv
 refine Z20 ?_;refine Z46 ?_;exact AOv

theorem AT2 (s:Str) (hs:s.length≤1048576) (Hp:List AObj):AFun Tryz.prog 208 [Ac s] Hp (B4 (Qo s)):=by
 refine Ae [.tmp 2] [0] Tryz.func208 Tryz.ntmps208 (fun d=>?_)
 refine qb ?_;exact AOj

theorem AT3 (e:Expr) (hok:okE 61 e) (Hp:List AObj):AFun Tryz.prog 207 [Aa e] Hp (B4 (Ed e)):=by
 refine Ae [.tmp 2] [0] Tryz.func207 Tryz.ntmps207 (fun d=>?_)
 refine Z92 ?_;refine Z2 ?_;exact AKn

theorem AT4 (e:Expr) (hok:okE 61 e) (Hp:List AObj):AFun Tryz.prog 160 [Aa e] Hp (B4 (Ed e)):=by
 refine Ae [.tmp 2] [0] Tryz.func160 Tryz.ntmps160 (fun d=>?_)
 refine Z92 ?_;refine Z2 ?_;exact AKn

theorem AT5 (l:List Str) (hl:l.length≤1048576) (hn:∀s∈l,s.length≤1048576) (Hp:List AObj):AFun Tryz.prog 106 [G9 l,.fn (.func 208) [] []] Hp (A3 (Qn Qo l)):=by
 refine Ae [.tmp 4] [0,1] Tryz.func106 Tryz.ntmps106 (fun d=>?_)
 refine io ?_
 refine Bi (α:=Nat) (fun x=>⟨19,A6 0 (G9 l) (A6 1 (.fn (.func 208) [] []) (A6 7 (A3 l.length) (A6 8 (A3 (x:Nat)) (fun _=>.any)))),Hp,[],[],none⟩) (fun x=>x≤l.length∧∀(j:Nat) y,j<x→l[j]? = some y→Qo y=false) (fun x=>l.length-x) (0) ⟨Au _,fun j y h=>by omega⟩ (Bo (by simp)) rfl (fun x hx=>?_)
 refine ig ?_
 refine Ck (fun ht9=>?_) (fun ht9=>?_)
 ·have hlt:x<l.length:=by simpa using ht9
  refine ik ?_
  refine A5 (h:=Ag (x) (Ac l[x]) (fun _=>B7 hlt)) (hr:=?_)
  refine A5 ?_;refine Od Tryz.call208 (AT2 l[x] (hn _ (Bl hlt)) _) ?_;refine iv ?_
  refine A4 (fun ht16=>?_) (fun ht16=>?_)
  ·exact ABz
  exact AC3
 have hxe:l.length≤x:=by simpa using ht9
 exact AC4

theorem c58 (l:List Str) (hl:l.length≤1048576) (hn:∀s∈l,s.length≤1048576) (Hp:List AObj):AFun Tryz.prog 58 [G9 l,.fn (.func 208) [] []] Hp (B4 (l.any Qo)):=by
 refine Ae [.tmp 4] [0,1] Tryz.func58 Tryz.ntmps58 (fun d=>?_)
 refine iq ?_;refine A7 Tryz.call106 (AT5 l hl hn _) ?_;exact AC7

theorem AQ2 (l:List Expr) (hl:l.length≤1048576) (hn:∀e∈l,okE 61 e) (Hp:List AObj):AFun Tryz.prog 98 [C4 l,.fn (.func 207) [] []] Hp (A3 (Qn Ed l)):=by
 refine Ae [.tmp 4] [0,1] Tryz.func98 Tryz.ntmps98 (fun d=>?_)
 refine io ?_
 refine Bi (α:=Nat) (fun x=>⟨19,A6 0 (C4 l) (A6 1 (.fn (.func 207) [] []) (A6 7 (A3 l.length) (A6 8 (A3 (x:Nat)) (fun _=>.any)))),Hp,[],[],none⟩) (fun x=>x≤l.length∧∀(j:Nat) y,j<x→l[j]? = some y→Ed y=false) (fun x=>l.length-x) (0) ⟨Au _,fun j y h=>by omega⟩ (Bo (by simp)) rfl (fun x hx=>?_)
 refine ig ?_
 refine Ck (fun ht9=>?_) (fun ht9=>?_)
 ·have hlt:x<l.length:=by simpa using ht9
  refine ik ?_
  refine A5 (h:=Ag (x) (Aa l[x]) (fun _=>B7 hlt)) (hr:=?_)
  refine A5 ?_;refine Od Tryz.call207 (AT3 l[x] (hn _ (Bl hlt)) _) ?_;refine iv ?_
  refine A4 (fun ht16=>?_) (fun ht16=>?_)
  ·exact ABz
  exact AC3
 have hxe:l.length≤x:=by simpa using ht9
 exact AC4

theorem AK3 (l:List Expr) (hl:l.length≤1048576) (hn:∀e∈l,okE 61 e) (Hp:List AObj):AFun Tryz.prog 51 [C4 l,.fn (.func 207) [] []] Hp (B4 (l.any Ed)):=by
 refine Ae [.tmp 4] [0,1] Tryz.func51 Tryz.ntmps51 (fun d=>?_)
 refine iq ?_;refine A7 Tryz.call98 (AQ2 l hl hn _) ?_;exact AC7

theorem AQ3 (l:List Expr) (hl:l.length≤1048576) (hn:∀e∈l,okE 61 e) (Hp:List AObj):AFun Tryz.prog 98 [C4 l,.fn (.func 160) [] []] Hp (A3 (Qn Ed l)):=by
 refine Ae [.tmp 4] [0,1] Tryz.func98 Tryz.ntmps98 (fun d=>?_)
 refine io ?_
 refine Bi (α:=Nat) (fun x=>⟨19,A6 0 (C4 l) (A6 1 (.fn (.func 160) [] []) (A6 7 (A3 l.length) (A6 8 (A3 (x:Nat)) (fun _=>.any)))),Hp,[],[],none⟩) (fun x=>x≤l.length∧∀(j:Nat) y,j<x→l[j]? = some y→Ed y=false) (fun x=>l.length-x) (0) ⟨Au _,fun j y h=>by omega⟩ (Bo (by simp)) rfl (fun x hx=>?_)
 refine ig ?_
 refine Ck (fun ht9=>?_) (fun ht9=>?_)
 ·have hlt:x<l.length:=by simpa using ht9
  refine ik ?_
  refine A5 (h:=Ag (x) (Aa l[x]) (fun _=>B7 hlt)) (hr:=?_)
  refine A5 ?_;refine Od Tryz.call160 (AT4 l[x] (hn _ (Bl hlt)) _) ?_;refine iv ?_
  refine A4 (fun ht16=>?_) (fun ht16=>?_)
  ·exact ABz
  exact AC3
 have hxe:l.length≤x:=by simpa using ht9
 exact AC4

theorem AQ4 (l:List Expr) (hl:l.length≤1048576) (hn:∀e∈l,okE 61 e) (Hp:List AObj):AFun Tryz.prog 51 [C4 l,.fn (.func 160) [] []] Hp (B4 (l.any Ed)):=by
 refine Ae [.tmp 4] [0,1] Tryz.func51 Tryz.ntmps51 (fun d=>?_)
 refine iq ?_;refine A7 Tryz.call98 (AQ3 l hl hn _) ?_;exact AC7

theorem AI1 (s:Str) (Hp:List AObj):AFun Tryz.prog 209 [Ac s] Hp (Aa (D6 s)):=by
 refine Ae [.cell 2 27] [0] Tryz.func209 Tryz.ntmps209 (fun d=>?_)
 refine Z64 ?_;refine Z2 ?_;refine AGt ?_;refine Z4 ?_;exact A9 (Ao (B6 jA jS)) ⟨by rw [Ap];rfl,rfl⟩

theorem AT6 (l:List Expr) (hl:l.length≤1048576) (hn:∀e∈l,okE 61 e) (Hp:List AObj):AFun Tryz.prog 123 [C4 l] Hp (B4 (l.any Ed)):=by
 refine Ae [.tmp 2] [0] Tryz.func123 Tryz.ntmps123 (fun d=>?_)
 refine qb ?_;refine A7 Tryz.call51 (AQ4 l hl hn _) ?_;refine A5 ?_;exact AGk

theorem n7 {m:Mov} {c:Col}:(((!(Eb c.name)) || (!((Db c.kind==[])==(m.kind==3)))) || ((m.kind==3)&&(c.kind != 0))) = !Qm m c:=by
 unfold Qm
 cases Eb c.name<;>cases (Db c.kind==([]:Str))<;>cases (m.kind==3)<;>cases (c.kind != 0)<;>rfl
theorem ALw {m:Mov} (h:(!(Ha m))=true):I5 m=false:=by
 have:Ha m=false:=by simpa using h
 unfold I5;rw [this];rfl
theorem ALx {m:Mov} {c:Col} (hc:c∈m.give) (h:Qm m c=false):I5 m=false:=by
 have:m.give.all (Qm m)=false:=List.all_eq_false.2 ⟨c,hc,by rw [h];simp⟩
 unfold I5;rw [this];simp
theorem ALy {m:Mov} (h:((m.take.any Qo || m.ahead.any Ed) || m.back.any Ed)=true):I5 m=false:=by
 unfold I5
 rw [show Qo=fun s => !(Eb s) from rfl,show Ed=fun e => !(Az e) from rfl,Mz,Mz,Mz] at h
 cases h1:m.take.all Eb<;>cases h2:m.ahead.all Az<;>cases h3:m.back.all Az<;>simp_all
theorem AI2 {m:Mov} (h1:Ha m=true) (h2:m.give.all (Qm m)=true) (h:((m.take.any Qo || m.ahead.any Ed) || m.back.any Ed)=false):I5 m=Sq m:=by
 unfold I5
 rw [show Qo=fun s => !(Eb s) from rfl,show Ed=fun e => !(Az e) from rfl,Mz,Mz,Mz] at h
 rw [h1,h2]
 cases h1:m.take.all Eb<;>cases h2:m.ahead.all Az<;>cases h3:m.back.all Az<;>simp_all
theorem Wo {α β:Type} {f:α→β} {l:List α} {d:α} (h:0<l.length):(l.map f)[0]? = some (f (l.getD 0 d)):=by
 rw [C5,Ab h,Bv,Ab h]
 rfl
theorem U3 {α:Type} {l:List α} {d:α} (h:0<l.length):l.getD 0 d∈l:=by
 rw [Bv,Ab h]
 exact Bl h
theorem ALz {m:Mov} (h:(m.kind==3)=true):Sq m=(eqE (m.ahead.getD 0 Av) (D6 (m.take.getD 0 []))&&eqE (m.back.getD 0 Av) (D6 (m.give.getD 0 ⟨[],0⟩).name)):=if_pos h
theorem AM0 {m:Mov} (h:(m.kind==3)=false) (h6:(m.kind==6)=true):Sq m=(m.take.getD 0 []==(m.give.getD 0 ⟨[],0⟩).name):=by unfold Sq;rw [if_neg (by rw [h];simp),if_pos h6]
theorem AM1 {m:Mov} (h:(m.kind==3)=false) (h6:(m.kind==6)=false):Sq m=true:=by unfold Sq;rw [if_neg (by rw [h];simp),if_neg (by rw [h6];simp)]
theorem AT7 (m:Mov) (h:OkMov m) (Hp:List AObj):AFun Tryz.prog 163 [Hs m] Hp (B4 (I5 m)):=by
 refine Ae [.tmp 2] [0] Tryz.func163 Tryz.ntmps163 (fun d=>?_)
 refine Z92 ?_;refine Z33 ?_;refine A7 Tryz.call206 (AT1 m _) ?_;refine A5 ?_;refine A2 [1,8] ?_
 refine A4 (fun ht8=>?_) (fun ht8=>?_)
 ·have hm:=ALw ht8
  refine Z46 ?_;exact Z60
 have hct:Ha m=true:=by simpa using ht8
 refine Z3 ?_;refine Z79 ?_;refine A2 [1,10,11,12] ?_
 refine Bi (α:=Nat) (fun x=>⟨95,A6 1 (.ro (Kt m)) (A6 10 (Am m.give) (A6 11 (A3 (m.give.length:Nat)) (A6 12 (A3 (x:Nat)) (fun _=>.any)))),Hp,[],[],none⟩) (fun x=>x≤m.give.length∧∀(j:Nat) (y:Col),j<x→m.give[j]? = some y→(!Qm m y)=false) (fun x=>m.give.length-x) (0) ⟨Au _,fun j y h=>by omega⟩ (Bo (by simp)) rfl (fun x hx=>?_)
 refine Z2 ?_;refine A2 [1,10,11,12,13] ?_
 refine Ck (fun ht13=>?_) (fun ht13=>?_)
 ·have hlt:x<m.give.length:=by simpa using ht13
  have hgl:=h.gives2
  refine Z73 ?_
  refine A5 (h:=Ag (x) (Cc m.give[x]) (fun _=>B7 hlt)) (hr:=?_)
  refine Z99 ?_;refine A2 [1,4,10,11,12] ?_;refine Ea [0,1,3,7,15,31,63,127,255,31,543,1567,4095,8191,16383,32767,65535,131071,262143,524287,1048575,2097151,4194303,8388607] 12 An (by kernel_rfl) ?_;refine Z8 ?_;refine Du Tryz.call105 (ACt m.give[x].name (h.gives.2 _ (Bl hlt)) _) ?_;refine Z8 ?_;refine Z87 ?_;refine H.call Tryz.call97 (fun hB=>c97 m.give[x].kind _) ?_;refine Z87 ?_;refine Z87 ?_;refine Ik ?_;refine Cw ?_;refine Z86 ?_;refine Q5 ?_;refine A5 ?_;refine A2 [1,10,11,12,39] ?_
  refine A4 (fun ht39=>?_) (fun ht39=>?_)
  ·rw [n7] at ht39
   have hm:=ALx (Bl hlt) (by simpa using ht39)
   refine xp ?_;exact lc
  rw [n7] at ht39
  refine Z70 ?_;refine A2 [1,10,11,12] ?_;refine Bt (x+1) ⟨hlt,Di hlt hx.2 ht39⟩ (by omega) ?_
  exact D0 (own:=[]) (fun _=>.refl _) (by repeat (first|exact Bb|refine Ba (by first|(simp [or_imp,forall_and];done)|exact D5|exact low_ro.2 Ji) ?_)) (by simp) (by simp)
 have hxe:m.give.length≤x:=by simpa using ht13
 have hga:m.give.all (Qm m)=true:=by have:=Ny hxe hx.2;rw [Mz] at this;simpa using this
 refine qc ?_;refine A2 [1,5] ?_;refine Z7 ?_;refine A7 Tryz.call58 (c58 m.take h.takes h.names _) ?_;refine A5 ?_;refine Z77 ?_;refine Ca Tryz.call51 (fun hB=>AK3 m.ahead h.ahead.len h.ahead.ok _) ?_;refine il ?_;refine Ca Tryz.call51 (fun hB=>AK3 m.back h.back.len h.back.ok _) ?_;refine A5 ?_;refine A2 [1,55] ?_
 refine A4 (fun ht55=>?_) (fun ht55=>?_)
 ·have hm:=ALy ht55
  refine Z46 ?_;exact Z60
 have hm0:=AI2 hct hga ht55
 refine iu ?_;refine A2 [1,57] ?_;refine X0 ?_;refine A2 [1,57,58] ?_
 refine A4 (fun ht58=>?_) (fun ht58=>?_)
 ·obtain ⟨hl1,hl2⟩:=Zs hct (by rw [ht58];simp)
  obtain ⟨hl3,hl4⟩:=Fg hct
  have g1:=Wo (f:=Aa) (l:=m.ahead) (d:=Av) (by omega)
  have g2:=Wo (f:=Aa) (l:=m.back) (d:=Av) (by omega)
  have g3:=Wo (f:=Ac) (l:=m.take) (d:=[]) (by omega)
  have g4:=Wo (f:=Cc) (l:=m.give) (d:=⟨[],0⟩) (by omega)
  have ok1:=h.ahead.ok _ (U3 (l:=m.ahead) (d:=Av) (by omega))
  have ok2:=h.back.ok _ (U3 (l:=m.back) (d:=Av) (by omega))
  have hm:=hm0.trans (ALz ht58)
  refine Ea [0,1,3,7,0,16,48,112,240,511,1023,2047,4095,8191,16383,2047,34815,100351,231423,493567,1017855,2097151,4194303,8388607] 21 An (by kernel_rfl) ?_;refine Z8 ?_
  refine Aq (h:=Ag (0) (Aa (m.ahead.getD 0 Av)) (fun _=>g1)) (hr:=?_)
  refine Z35 ?_
  refine Aq (h:=Ag (0) (Ac (m.take.getD 0 [])) (fun _=>g3)) (hr:=?_)
  refine Aq ?_;refine Du Tryz.call209 (AI1 (m.take.getD 0 []) _) ?_;refine Du Tryz.call109 (ALs 61 (m.ahead.getD 0 Av) ok1 (D6 (m.take.getD 0 [])) _) ?_;refine Aq ?_;refine Z87 ?_
  refine H.go (h:=Ag (0) (Aa (m.back.getD 0 Av)) (fun _=>g2)) (hr:=?_)
  refine Z87 ?_;refine H.go ?_
  refine H.go (h:=Ag (0) (Cc (m.give.getD 0 ⟨[],0⟩)) (fun _=>g4)) (hr:=?_)
  refine Z87 ?_;refine H.call Tryz.call209 (fun hB=>AI1 (m.give.getD 0 ⟨[],0⟩).name _) ?_;refine Ik ?_;refine Ca Tryz.call109 (fun hB=>ALs 61 (m.back.getD 0 Av) ok2 (D6 (m.give.getD 0 ⟨[],0⟩).name) _) ?_;exact AO3
 refine Z1 ?_;refine A2 [1,83] ?_
 refine A4 (fun ht83=>?_) (fun ht83=>?_)
 ·obtain ⟨hl1,hl2⟩:=Zs hct (by rw [ht83];simp)
  obtain ⟨hl3,hl4⟩:=Fg hct
  have g1:=Wo (f:=Aa) (l:=m.ahead) (d:=Av) (by omega)
  have g2:=Wo (f:=Aa) (l:=m.back) (d:=Av) (by omega)
  have g3:=Wo (f:=Ac) (l:=m.take) (d:=[]) (by omega)
  have g4:=Wo (f:=Cc) (l:=m.give) (d:=⟨[],0⟩) (by omega)
  have ok1:=h.ahead.ok _ (U3 (l:=m.ahead) (d:=Av) (by omega))
  have ok2:=h.back.ok _ (U3 (l:=m.back) (d:=Av) (by omega))
  have hm:=hm0.trans (AM0 ht58 ht83)
  refine Ea [0,1,3,7,0,16,48,112,240,511,1023] 9 An (by kernel_rfl) ?_;refine Z8 ?_
  refine Aq (h:=Ag (0) (Ac (m.take.getD 0 [])) (fun _=>g3)) (hr:=?_)
  refine Z35 ?_
  refine Aq (h:=Ag (0) (Cc (m.give.getD 0 ⟨[],0⟩)) (fun _=>g4)) (hr:=?_)
  refine Z89 ?_;exact AO3
 have hm:=hm0.trans (AM1 ht58 ht83)
 refine Z20 ?_;refine Z46 ?_;exact lc

def zj (m:Mov):Bool := !(I5 m)
theorem AI3 (l:List Mov):(decide ((l.length:Int)≤8) && !(l.any zj))=rt l:=by
 unfold rt
 rw [show zj=fun m => !(I5 m) from rfl,Mz]
 simp
theorem AT8 (m:Mov) (h:OkMov m) (Hp:List AObj):AFun Tryz.prog 162 [Hs m] Hp (B4 (zj m)):=by
 refine Ae [.tmp 2] [0] Tryz.func162 Tryz.ntmps162 (fun d=>?_)
 refine Z92 ?_;refine Z2 ?_;refine A7 Tryz.call163 (AT7 m h _) ?_;exact Z98

theorem AT9 (l:List Mov) (h:OkMovs l) (Hp:List AObj):AFun Tryz.prog 205 [Eh l,.fn (.func 162) [] []] Hp (A3 (Qn zj l)):=by
 refine Ae [.tmp 4] [0,1] Tryz.func205 Tryz.ntmps205 (fun d=>?_)
 refine io ?_
 refine Bi (α:=Nat) (fun x=>⟨19,A6 0 (Eh l) (A6 1 (.fn (.func 162) [] []) (A6 7 (A3 l.length) (A6 8 (A3 (x:Nat)) (fun _=>.any)))),Hp,[],[],none⟩) (fun x=>x≤l.length∧∀(j:Nat) (y:Mov),j<x→l[j]? = some y→zj y=false) (fun x=>l.length-x) (0) ⟨Au _,fun j y h=>by omega⟩ (Bo (by simp)) rfl (fun x hx=>?_)
 refine ig ?_
 refine Ck (fun ht9=>?_) (fun ht9=>?_)
 ·have hlt:x<l.length:=by simpa using ht9
  have hlen:=h.len
  refine ik ?_
  refine A5 (h:=Ag (x) (Hs l[x]) (fun _=>B7 hlt)) (hr:=?_)
  refine A5 ?_;refine Od Tryz.call162 (AT8 l[x] (h.each _ (Bl hlt)) _) ?_;refine iv ?_
  refine A4 (fun ht16=>?_) (fun ht16=>?_)
  ·exact ABz
  exact AC3
 have hxe:l.length≤x:=by simpa using ht9
 exact AC4

theorem ATa (l:List Mov) (h:OkMovs l) (Hp:List AObj):AFun Tryz.prog 161 [Eh l,.fn (.func 162) [] []] Hp (B4 (l.any zj)):=by
 refine Ae [.tmp 4] [0,1] Tryz.func161 Tryz.ntmps161 (fun d=>?_)
 refine iq ?_;refine A7 Tryz.call205 (AT9 l h _) ?_;exact AC7

theorem ATb (l:List Mov) (h:OkMovs l) (Hp:List AObj):AFun Tryz.prog 126 [Eh l] Hp (B4 (rt l)):=by
 refine Ae [.tmp 2] [0] Tryz.func126 Tryz.ntmps126 (fun d=>?_)
 refine Z42 ?_;refine xu ?_;refine Ca Tryz.call161 (fun hB=>ATa l h _) ?_;refine Cw ?_;refine Z66 ?_;exact A9 (Ao A8) ⟨by rw [←AI3,Ah],rfl⟩

theorem c79 (c:List Col) (hc:OkCols c) (l:List Mov) (h:OkMovs l) (Hp:List AObj):AFun Tryz.prog 79 [Am c,Eh l] Hp (B4 (L5 c l)):=by
 refine Ae [.tmp 4] [0,1] Tryz.func79 Tryz.ntmps79 (fun d=>?_)
 refine Z36 ?_;refine Z2 ?_;refine A7 Tryz.call125 (APp c hc _) ?_;refine A5 ?_;refine Cw ?_;refine Ca Tryz.call126 (fun hB=>ATb l h _) ?_;refine Z0 ?_;refine Z14 ?_;exact A9 (Ao A8) ⟨by unfold L5;rw [Kq],rfl⟩

theorem zk {Hp:List AObj} {c:List Col} (h:∀x∈Hp,ObjLow Hp.length x):∀x∈Hp++[AObj.cells 30 [Am c]],ObjLow (Hp.length+1) x:=by
 intro x hx
 rcases El.1 hx with hx|hx
 ·exact L3 (by omega) (h x hx)
 rw [B9.1 hx]
 intro z hz
 rw [B9.1 hz]
 exact D5
theorem c80 (c:List Col) (l:List Mov) (Hp:List AObj):ACallO Tryz.prog 80 [Am c,Eh l] Hp (fun r H'=>r=.fn (.func 127) [] [.ro [Eh l],.ptr (oid Hp.length 0) 0]∧H'=Hp++[.cells 30 [Am c]]):=by
 refine ACallO.body [.tmp 4] [0,1] Tryz.func80 Tryz.ntmps80 (fun d=>?_)
 refine ACa ?_;refine Z0 ?_;refine Jz ?_;refine F0 ?_
 refine Jx (fun hlow=>?_)
 refine ANb ?_;refine Z14 ?_;exact K.finO 1 (A8 (t:=4)) ⟨rfl,rfl⟩ (hlow:=by simp [oid,or_imp,forall_and];exact ⟨fun m _ a _=>Ak _ a,fun m _ a _=>Ak _ a⟩) (hobj:=zk hlow)

theorem AQ5 (l oc:Nat) (ms:List Mov) (hm:∀m∈ms,MvOk m) (hml:ms.length≤1048576) (C:Nat→List Col) (hC:∀k,OkCols (C k)) (U T:Nat→List AObj) (N:Nat→Prop) (Z:List AObj→Prop) (hlen:∀k,(U k).length=(U 0).length) (hlenW:∀k,(T k).length=(U 0).length) (hll:l<(U 0).length) (hol:oc<(U 0).length)
  (hlw:∀k,∀x∈U k,ObjLow (U 0).length x) (hlW:∀k,∀x∈T k,ObjLow (U 0).length x) (h0:N 0) (hc:∀k,(U k)[oc]? = some (.cells 30 [Am (C k)])) (hcW:∀k,(T k)[oc]? = some (.cells 30 [Am (C k)]))
  (hn:∀k m,ms[k]? = some m→(Bp (C k) m).2=0→(T k).set oc (.cells 30 [Am (Bp (C k) m).1])=U (k+1))
  (hy:∀k m X,ms[k]? = some m→N k→AYield Tryz.prog l [Am (Bp (C k) m).1,A3 (Bp (C k) m).2] (U k++X) (fun b H'=>((Bp (C k) m).2≠0∧∃V,H'=V++X∧V.length=(U 0).length∧(∀x∈V,ObjLow (U 0).length x)∧Z V)∨((Bp (C k) m).2=0∧b=true∧N (k+1)∧H'=T k++X)))
  (hR:N ms.length→Z (U ms.length)):ACall Tryz.prog 127 [.yield l,.ro [Eh ms],.ptr oc 0] (U 0) (fun _ H'=>Z H'):=by
 refine Ae [] [0,1,2] Tryz.func127 Tryz.ntmps127 (fun d=>?_)
 refine Z15 ?_;refine A2 [0,2,8,9,10] ?_
 refine Bi (α:=Nat) (fun x=>⟨31,A6 0 (.yield l) (A6 2 (.ptr oc 0) (A6 8 (Eh ms) (A6 9 (A3 ms.length) (A6 10 (A3 (x:Nat)) (fun _=>.any))))),U x,[],[],none⟩) (fun x=>x≤ms.length∧N x) (fun x=>ms.length-x) (0) ⟨Au _,h0⟩ (Bo (by simp)) rfl (fun x hx=>?_)
 refine Z2 ?_;refine A2 [0,2,8,9,10,11] ?_
 refine Ck (fun ht11=>?_) (fun ht11=>?_)
 ·have hlt:x<ms.length:=by simpa using ht11
  refine Z73 ?_
  refine A5 (h:=Ag (x) (Hs ms[x]) (fun _=>B7 hlt)) (hr:=?_)
  refine Z99 ?_;refine A2 [0,2,5,8,9,10] ?_;refine F0 ?_
  refine A5 (h:=Bd (hc x)) (hr:=?_)
  refine A5 ?_;refine A7 Tryz.call128 (AT0 (C x) (hC x) ms[x] (hm _ (Bl hlt)) _) ?_;refine Z59 ?_;refine A2 [0,2,6,7,8,9,10] ?_;refine Z29 ?_
  refine R.yield (l:=l) (args:=[Am (Bp (C x) ms[x]).1,A3 (Bp (C x) ms[x]).2]) (hy x ms[x] _ (Ab hlt) hx.2) ?_
  intro b V O hV hb
  have hVO:O=[AObj.cells 80 (Kt ms[x])]∧(((Bp (C x) ms[x]).2≠0∧V.length=(U 0).length∧(∀y∈V,ObjLow (U 0).length y)∧Z V)∨((Bp (C x) ms[x]).2=0∧b=true∧N (x+1)∧V=T x)):=by
   rcases hb with ⟨h1,V',h2,h3,h4,h5⟩|⟨h1,h2,h3,h4⟩
   ·obtain ⟨rfl,rfl⟩:=J0 h2 (by rw [hV,hlen x,h3])
    exact ⟨rfl,.inl ⟨h1,h3,h4,h5⟩⟩
   have h6:=J0 h4 (by rw [hV,hlen x,hlenW x])
   exact ⟨h6.2,.inr ⟨h1,h2,h3,h6.1⟩⟩
  obtain ⟨rfl,hVO⟩:=hVO
  have hVl:V.length=(U 0).length:=by rw [hV,hlen x]
  have hVw:∀y∈V,ObjLow (U 0).length y:=by
   rcases hVO with ⟨_,_,h,_⟩|⟨_,_,_,rfl⟩
   ·exact h
   exact hlW _
  refine ⟨fun _=>by rw [hVl];exact hVw,fun o ho=>(by cases ho),?_⟩
  refine Z38 ?_;refine A5 ?_;refine A2 [0,2,6,8,9,10,28] ?_
  refine A4 (fun ht28=>?_) (fun ht28=>?_)
  ·have hZ:Z V:=by
    rcases hVO with ⟨_,_,_,h⟩|⟨h1,h2,_,_⟩
    ·exact h
    rw [h1,h2] at ht28;simp at ht28
   refine Z34 ?_;refine Z26 ?_;exact A9 .nores (hp:=hZ)
  have hVn:(Bp (C x) ms[x]).2=0∧N (x+1)∧V=T x:=by
   rcases hVO with ⟨h1,_,_,_⟩|⟨h1,_,h3,h4⟩
   ·simp [h1] at ht28
   exact ⟨h1,h3,h4⟩
  obtain ⟨hz,hN,rfl⟩:=hVn
  have hnx:=hn x _ (Ab hlt) hz
  refine Z3 ?_;refine Z50 ?_
  refine Cx jS (hcW x) ?_ ?_
  ·first|exact D5|(simp [or_imp,forall_and];done)
  refine A2 [0,2,8,9,10] ?_;refine Q3 ?_;refine A2 [0,2,8,9,10] ?_;refine AGz ?_
  rw [hnx]
  exact D0 (own:=[]) (fun _=>.refl _) (by repeat (first|exact Bb|refine Ba (by first|(simp [or_imp,forall_and];done)|exact Gv|(have:=hlen (x+1);simp;omega)) ?_)) (by simp) (by simp)
 have hxe:x=ms.length:=by have:=hx.1;simp at ht11;omega
 exact AKl

/-! The columns on the way through moves. -/
def colsAt (c:List Col) (ms:List Mov):Nat→List Col
 | 0=>c
 | k+1=>match ms[k]? with|some m=>(Bp (colsAt c ms k) m).1|none=>colsAt c ms k
def Cd (c:List Col) (ms:List Mov):Nat→List (List Col)
 | 0=>[c]
 | k+1=>Cd c ms k++[colsAt c ms (k+1)]
def NS (c:List Col) (ms:List Mov) (k:Nat):Prop:=C7 c ms=((Cd c ms k).dropLast++(C7 (colsAt c ms k) (ms.drop k)).1,(C7 (colsAt c ms k) (ms.drop k)).2)
theorem vk (c:List Col) (ms:List Mov) (k:Nat):(Cd c ms k).dropLast++[colsAt c ms k]=Cd c ms k:=by
 cases k with
 | zero=>rfl
 | succ k=>simp [Cd]
theorem Eu {c:List Col} {ms:List Mov} {k:Nat} {m:Mov} (h:ms[k]? = some m):colsAt c ms (k+1)=(Bp (colsAt c ms k) m).1:=by rw [colsAt,h]
theorem Mf {ms:List Mov} {k:Nat} {m:Mov} (hk:ms[k]? = some m):ms.drop k=m::ms.drop (k+1):=by
 obtain ⟨h1,h2⟩:=Ad.1 hk
 rw [J1 h1,h2]
theorem AM2 {c:List Col} {ms:List Mov}:NS c ms 0:=rfl
theorem jn {c:List Col} {ms:List Mov} {k:Nat} {m:Mov} (hk:ms[k]? = some m) (h:NS c ms k) (he:(Bp (colsAt c ms k) m).2=0):NS c ms (k+1):=by
 unfold NS at h ⊢
 rw [h,Mf hk]
 have e:C7 (colsAt c ms k) (m::ms.drop (k+1))=(colsAt c ms k::(C7 (Bp (colsAt c ms k) m).1 (ms.drop (k+1))).1,(C7 (Bp (colsAt c ms k) m).1 (ms.drop (k+1))).2):=by
  rw [C7,if_neg (by rw [he];simp)]
 have e2:(Cd c ms (k+1)).dropLast=Cd c ms k:=by simp [Cd]
 rw [e,e2,Eu hk]
 have e3:=vk c ms k
 refine Mq ?_ rfl
 show (Cd c ms k).dropLast++(colsAt c ms k::_)=Cd c ms k++_
 conv=>rhs;rw [←e3]
 simp
theorem jo {c:List Col} {ms:List Mov} {k:Nat} {m:Mov} (hk:ms[k]? = some m) (h:NS c ms k) (he:(Bp (colsAt c ms k) m).2≠0):(C7 c ms).2=(Bp (colsAt c ms k) m).2:=by
 unfold NS at h
 rw [h,Mf hk,C7,if_pos (by simpa using he)]
theorem ry {c:List Col} {ms:List Mov} (h:NS c ms ms.length):C7 c ms=(Cd c ms ms.length,0):=by
 unfold NS at h
 rw [h,Xm,C7]
 exact Mq (vk c ms ms.length) rfl
theorem AEi {c:List Col} {m:Mov} (hc:OkCols c) (h:OkMov m):OkCols (Bp c m).1:=by
 have h0:OkCols ([]:List Col):=⟨by decide,fun y hy=>by cases hy⟩
 unfold Bp
 split
 ·exact h0
 split
 ·exact h0
 split
 ·exact h0
 exact n6 hc (n5 h) (by rw [Ka];exact h.gives2)
theorem E4 {c:List Col} {ms:List Mov} (hc:OkCols c) (h:∀m∈ms,OkMov m):∀k,OkCols (colsAt c ms k)
 | 0=>hc
 | k+1=>by
  rw [colsAt]
  cases hk:ms[k]? with
  | none=>exact E4 hc h k
  | some m=>exact AEi (E4 hc h k) (h m (Aw hk))
theorem I6 (c:List Col) (ms:List Mov):∀k,(Cd c ms k).length=k+1
 | 0=>rfl
 | k+1=>by rw [Cd,Ai,I6 c ms k];rfl
theorem AEj {c:List Col} {ms:List Mov} (h:L5 c ms=true) (hk:OkMovs ms):(∀m∈ms,MvOk m)∧ms.length≤8:=by
 unfold L5 rt at h
 simp only [As,decide_eq_true_eq,B5] at h
 exact ⟨fun m hm=>AI0 (hk.each m hm) (It (h.2.2 m hm)),by omega⟩
theorem ea {c:List Col} {ms:List Mov} (h:L5 c ms=false):Bn c ms=([],1):=by
 have:K9 c ms=([],1):=if_neg (by rw [h];simp)
 unfold Bn
 rw [this];rfl
theorem Zw {c:List Col} {ms:List Mov} (h:L5 c ms=true) (he:(C7 c ms).2≠0):Bn c ms=([],(C7 c ms).2):=by
 have:K9 c ms=C7 c ms:=if_pos h
 unfold Bn
 rw [this,if_pos (by simpa using he)]
theorem ec {c:List Col} {ms:List Mov} {o:List (List Col)} (h:L5 c ms=true) (he:C7 c ms=(o,0)):Bn c ms=(o,0):=by
 have:K9 c ms=C7 c ms:=if_pos h
 unfold Bn
 rw [this,he];rfl
abbrev Gq (l:List (List Col)):AV:=.slice false 1 (l.map Am)
theorem Ft {n k:Nat} {o:Bool} {l:List (List Col)}:Low n (.slice o k (l.map Am)):=low_slice.2 fun y hy=>by
 obtain ⟨m,_,rfl⟩:=C2.1 hy
 exact D5
theorem Zx {U:List AObj} {i j:Nat} {x y:AObj} (h:U[i]? = some x) (hne:j≠i):(U.set j y)[i]? = some x:=by rw [Bk hne];exact h
theorem zl {n k:Nat} {o:Bool} {l:List (List Col)} {c:List Col}:Low n (.slice o k (l.map Am++[Am c])):=by
 have:=Ft (n:=n) (k:=k) (o:=o) (l:=l++[c])
 rwa [Bj] at this
theorem c46 (c:List Col) (hc:OkCols c) (hc2:c.length≤1000000) (l:List Mov) (h:OkMovs l) (Hp:List AObj):AFun Tryz.prog 46 [Am c,Eh l] Hp (.tup [Gq (Bn c l).1,A3 (Bn c l).2]):=by
 refine Ae [.cell 4 41,.cell 5 38] [0,1,7,8] Tryz.func46 Tryz.ntmps46 (fun d=>?_)
 refine xk ?_;refine A2 [0,1,4,5,7,8] ?_;refine Z7 ?_;refine A7 Tryz.call79 (c79 c hc l h _) ?_;refine A5 ?_;refine A2 [0,1,4,5,7,8,12] ?_
 refine A4 (fun ht12=>?_) (fun ht12=>?_)
 ·have hm:=ea (by simpa using ht12)
  refine xe ?_;refine L1 0 1 ?_;refine xh ?_;exact AGe
 have hmay:L5 c l=true:=by simpa using ht12
 obtain ⟨hmv,hl8⟩:=AEj hmay h
 refine Oi ?_;refine A7 Tryz.call92 (c92 c hc2 _) ?_;refine Ti ?_;refine Rj ?_;refine Y1 jS ?_;refine A2 [0,1,4,5,6,7,8] ?_;refine Z43 ?_
 refine Jx (fun hlow=>?_)
 refine Z0 ?_;refine R.callO Tryz.call80 (c80 c l _) ?_
 rintro _ _ ⟨rfl,rfl⟩
 refine ⟨[.cells 30 [Am c]],by simp,?_⟩
 rw [show oid (Hp++[AObj.cells 41 [AV.nil],AObj.cells 38 [A3 0],AObj.cells 41 [AV.slice true 1 [Am c]]]).length 0=oid Hp.length 3 by simp [oid]]
 simp only [Dh,D9]
 refine A2 [4,5,6,7,8,18] ?_;refine K1 ?_
 refine L2 (m:=4) Tryz.call127 (fun FR as' bd' hFR has hbd=>?_)
 have hFRl:∀s,Low (Hp.length+6) (FR s):=by
  intro s
  rw [hFR]
  refine Lz ?_
  revert s
  repeat (first|exact Bb|refine Ba (by first|(simp [oid,or_imp,forall_and];done)|(simp [oid,or_imp,forall_and];exact ⟨fun m _ a _=>Ak _ a,fun m _ a _=>Ak _ a⟩)|(simp [oid,or_imp,forall_and]<;>omega)) ?_)
 have hOl:∀{e:Int} {o:List (List Col)} {q:List Col} {lp:AObj},ObjLow (Hp.length+6) lp→∀x∈Hp++[AObj.cells 41 [AV.nil],AObj.cells 38 [A3 e],AObj.cells 41 [AV.slice true 1 ((o).map Am)],AObj.cells 30 [Am (q)],AObj.defs,lp],ObjLow (Hp.length+6) x:=by
  intro e o q lp hlp x hx
  refine Id (fun x hx=>L3 (by omega) (hlow x hx)) (fun x hx=>?_) x hx
  simp only [B3,E5,or_false] at hx
  rcases hx with rfl|rfl|rfl|rfl|rfl|rfl
  ·intro y hy;rw [B9.1 hy];simp
  ·intro y hy;rw [B9.1 hy];simp
  ·intro y hy;rw [B9.1 hy];exact Ft
  ·intro y hy;rw [B9.1 hy];exact D5
  ·trivial
  exact hlp
 refine ⟨_,AQ5 (oid Hp.length 5) (oid Hp.length 3) l hmv (by omega) (colsAt c l) (E4 hc fun m hm=>h.each m hm) (fun k=>Hp++[AObj.cells 41 [AV.nil],AObj.cells 38 [A3 0],AObj.cells 41 [AV.slice true 1 ((Cd c l k).map Am)],AObj.cells 30 [Am (colsAt c l k)],AObj.defs,AObj.loop LoopState.ready none FR 29 #[19,20] as' bd' (oid Hp.length 4)]) (fun k=>Hp++[AObj.cells 41 [AV.nil],AObj.cells 38 [A3 0],AObj.cells 41 [AV.slice true 1 ((Cd c l (k+1)).map Am)],AObj.cells 30 [Am (colsAt c l k)],AObj.defs,AObj.loop LoopState.ready none FR 29 #[19,20] as' bd' (oid Hp.length 4)]) (NS c l) (fun V=>(∃(o:List (List Col)) (q:List Col),V=Hp++[AObj.cells 41 [AV.nil],AObj.cells 38 [A3 0],AObj.cells 41 [AV.slice true 1 ((o).map Am)],AObj.cells 30 [Am (q)],AObj.defs,AObj.loop LoopState.ready none FR 29 #[19,20] as' bd' (oid Hp.length 4)]∧C7 c l=(o,0))∨(∃(e:Int) (o:List (List Col)) (q:List Col),V=Hp++[AObj.cells 41 [AV.nil],AObj.cells 38 [A3 e],AObj.cells 41 [AV.slice true 1 ((o).map Am)],AObj.cells 30 [Am (q)],AObj.defs,AObj.loop LoopState.done (some Code.ret) FR 29 #[19,20] as' bd' (oid Hp.length 4)]∧e≠0∧(C7 c l).2=e)) (fun k=>by simp) (fun k=>by simp) (by simp [oid]) (by simp [oid]) (fun k=>(fun x hx=>by rw [Ai];exact hOl (lp:=AObj.loop LoopState.ready none FR 29 #[19,20] as' bd' (oid Hp.length 4)) (by exact ⟨hFRl,by simp [oid]⟩) x hx)) (fun k=>(fun x hx=>by rw [Ai];exact hOl (lp:=AObj.loop LoopState.ready none FR 29 #[19,20] as' bd' (oid Hp.length 4)) (by exact ⟨hFRl,by simp [oid]⟩) x hx)) AM2 (fun k=>by rw [Ar];rfl) (fun k=>by rw [Ar];rfl) (fun k m hk he=>by rw [Cp];simp only [Eu hk];rfl) (fun k m X hk hN=>?_) (fun hN=>.inl ⟨_,_,rfl,ry hN⟩),?_⟩
 ·generalize hV:Hp++[AObj.cells 41 [AV.nil],AObj.cells 38 [A3 0],AObj.cells 41 [AV.slice true 1 ((Cd c l k).map Am)],AObj.cells 30 [Am (colsAt c l k)],AObj.defs,AObj.loop LoopState.ready none FR 29 #[19,20] as' bd' (oid Hp.length 4)]++X=V
  have hL:V[oid Hp.length 5]? = some (AObj.loop LoopState.ready none FR 29 #[19,20] as' bd' (oid Hp.length 4)):=by rw [←hV,Ax,Ar];rfl
  have hA0:V[oid Hp.length 2]? = some (AObj.cells 41 [AV.slice true 1 ((Cd c l k).map Am)]):=by rw [←hV,Ax,Ar];rfl
  have hB0:V[oid Hp.length 0]? = some (AObj.cells 41 [AV.nil]):=by rw [←hV,Ax,Ar];rfl
  have hC0:V[oid Hp.length 1]? = some (AObj.cells 38 [A3 0]):=by rw [←hV,Ax,Ar];rfl
  refine J8 (pd:=none) (fr:=FR) (sz:=29) (ps:=#[19,20]) (df:=oid Hp.length 4) (asg:=as') (bd:=bd') hL rfl (by decide) (fun d=>?_)
  subst hFR has hbd
  refine Fo [4,5,6,19,20] ?_;refine Z2 ?_;refine A2 [4,5,6,7,20] ?_;refine Z50 ?_;refine A2 [4,5,6,7,8] ?_
  refine ⟨rfl,none,hL,?_⟩
  generalize hbz:(AObj.loop LoopState.busy _ _ _ _ _ _ _)=bz
  have hA:(V.set (oid Hp.length 5) bz)[oid Hp.length 2]? = some (AObj.cells 41 [AV.slice true 1 ((Cd c l k).map Am)]):=by rw [Bk (Bf (by decide))];exact hA0
  have hB:(V.set (oid Hp.length 5) bz)[oid Hp.length 0]? = some (AObj.cells 41 [AV.nil]):=by rw [Bk (Bf (by decide))];exact hB0
  have hC:(V.set (oid Hp.length 5) bz)[oid Hp.length 1]? = some (AObj.cells 38 [A3 0]):=by rw [Bk (Bf (by decide))];exact hC0
  refine py ?_;refine A2 [4,5,6,7,8,22] ?_
  refine A4 (fun ht22=>?_) (fun ht22=>?_)
  ·have he:(Bp (colsAt c l k) m).2≠0:=by simpa using ht22
   refine Z2 ?_
   refine Cx jS hB ?_ ?_
   ·simp
   refine Cx jS (Zx hC (Bf (by decide))) ?_ ?_
   ·simp
   refine xm ?_
   subst hbz
   refine xz ?_
   refine .inl ⟨he,Hp++[AObj.cells 41 [AV.nil],AObj.cells 38 [A3 (Bp (colsAt c l k) m).2],AObj.cells 41 [AV.slice true 1 ((Cd c l k).map Am)],AObj.cells 30 [Am (colsAt c l k)],AObj.defs,_],?_,by simp,(fun x hx=>by rw [Ai];exact hOl (lp:=_) (by exact ⟨hFRl,by simp [oid]⟩) x hx),.inr ⟨_,_,_,rfl,he,jo hk hN he⟩⟩
   subst hV
   simp only [Ax,Cp,Dh,D9,List.set_cons_succ,List.set_cons_zero]
  have he:(Bp (colsAt c l k) m).2=0:=by simpa using ht22
  refine Z3 ?_;refine Ih ?_;refine AGq ?_
  refine E6 jU Tryz.type30 ?_ ?_ ?_
  ·have hol:=I6 c l k;have hkl:=(Ad.1 hk).1;simp [Tryz.t30];omega
  ·have hol:=I6 c l k;have hkl:=(Ad.1 hk).1;simp [Tryz.t30];omega
  refine Gm jS (getset hA) ?_ ?_
  ·exact zl
  refine Z91 ?_
  subst hbz
  refine xy ?_
  refine .inr ⟨he,rfl,jn hk hN he,?_⟩
  subst hV
  simp only [Ax,Cp,Dh,D9,List.set_cons_succ,List.set_cons_zero]
  rw [Cd,Eu hk,Bj]
  rfl
 rintro r H' (⟨o,q,rfl,hrun⟩|⟨e,o,q,rfl,hne,hrun⟩)
 ·refine ⟨Hp,_,_,_,rfl,rfl,fun h=>h,?_,rfl,by simp,?_⟩
  ·intro o ho
   have:o=oid Hp.length 4:=by simpa using ho
   subst this
   rw [Ar]
   rfl
  refine xt ?_;refine xh ?_;exact A9 (B1 (Dw jA) (Dw jA)) ⟨by rw [ec hmay hrun],rfl⟩ (hlow:=by simp only [Tc,B3,E5,or_false];rintro y (rfl|rfl);exact Ft;simp)
 refine ⟨Hp,_,_,_,rfl,rfl,fun h=>h,?_,rfl,by simp,?_⟩
 ·intro o ho
  have:o=oid Hp.length 4:=by simpa using ho
  subst this
  rw [Ar]
  rfl
 refine Uz 0 1 ?_;refine bn ?_;exact A9 (B1 (Dw jA) (Dw jA)) ⟨by rw [Zw hmay (by rw [hrun];exact hne),hrun];rfl,rfl⟩

theorem zm (c:List Col) (ms:List Mov):(C7 c ms).1≠[]:=by
 cases ms with
 | nil=>simp [C7]
 | cons m r =>
  rw [C7]
  split<;>simp
theorem Sr:∀(c:List Col) (ms:List Mov),(C7 c ms).1.length≤ms.length+1
 | c,[]=>by simp [C7]
 | c,m::r=>by
  rw [C7]
  split
  ·simp
  have:=Sr (Bp c m).1 r
  simp only [B0]
  omega
theorem zn {c:List Col} {ms:List Mov} (h:((Bn c ms).2 != 0)=false):(Bn c ms).1≠[]∧(Bn c ms).1.length≤9:=by
 unfold Bn at h ⊢
 by_cases h1:((K9 c ms).2 != 0)=true
 ·rw [if_pos h1] at h
  rw [h1] at h;cases h
 rw [if_neg h1]
 by_cases h2:L5 c ms=true
 ·have e:K9 c ms=C7 c ms:=if_pos h2
  rw [e]
  have h3:ms.length≤8:=by
   unfold L5 rt at h2
   simp only [As,decide_eq_true_eq] at h2
   omega
  have:=Sr c ms
  exact ⟨zm c ms,by omega⟩
 have e:K9 c ms=([],1):=if_neg h2
 rw [e] at h1
 exact absurd rfl h1
theorem AEk {l:List (List Col)} (h:l≠[]):(l.map Am)[l.length-1]? = some (Am (l.getLastD [])):=by
 have h1:0<l.length:=List.length_pos_iff.2 h
 rw [C5,Ab (by omega),←List.getLast_eq_getElem (h:=h),ABa,List.getLast?_eq_some_getLast h]
 rfl
theorem c21 (c:List Col) (hc:OkCols c) (hc2:c.length≤1000000) (l:List Mov) (h:OkMovs l) (Hp:List AObj):AFun Tryz.prog 21 [Am c,Eh l] Hp (.tup [Am (Fl c l).1,A3 (Fl c l).2]):=by
 refine Ae [.tmp 4,.tmp 5] [0,1] Tryz.func21 Tryz.ntmps21 (fun d=>?_)
 refine ij ?_;refine ABv ?_;refine Z59 ?_;refine A2 [6,7] ?_;refine Z7 ?_;refine A2 [6,7,15] ?_
 refine A4 (fun ht15=>?_) (fun ht15=>?_)
 ·have hm:Fl c l=([],(Bn c l).2):=if_pos ht15
  exact AGu
 have hm:Fl c l=((Bn c l).1.getLastD [],0):=if_neg (by rw [ht15];simp)
 obtain ⟨hne,hl9⟩:=zn ht15
 have hl0:0<(Bn c l).1.length:=List.length_pos_iff.2 hne
 refine Q4 ?_
 rw [Ah]
 refine A5 (h:=Q.sub64 (h1:=fun _=>by omega) (h2:=fun _=>by omega)) (hr:=?_)
 refine A5 (h:=Ag (((Bn c l).1.length-1)) (Am ((Bn c l).1.getLastD [])) (fun _=>AEk hne)) (hr:=?_)
 refine Z12 ?_;exact ANy

theorem zo (s:Str):Le (.agg [A3 2,Ac s,A3 0,A3 0,Ac [],.nil]) (Aa (D6 s)):=by
 rw [Ap]
 refine .agg _ _ rfl (fun y hy=>?_) (fun i y y' hy hy'=>?_)
 ·simp only [Ex,B3,E5,or_false] at hy
  rcases hy with rfl|rfl|rfl|rfl|rfl|rfl<;>rfl
 match i with
 | 0=>simp at hy;subst hy;simp [Ex,D6] at hy';subst hy';exact .inl rfl
 | 1=>simp at hy;subst hy;simp [Ex,D6] at hy';subst hy';exact .inl rfl
 | 2=>simp at hy;subst hy;simp [Ex,D6] at hy';subst hy';exact .inl rfl
 | 3=>simp at hy;subst hy;simp [Ex,D6] at hy';subst hy';exact .inl rfl
 | 4=>simp at hy;subst hy;simp [Ex,D6] at hy';subst hy';exact .inl rfl
 | 5=>simp at hy;subst hy;simp [Ex,D6] at hy';subst hy';exact .inr ⟨rfl,6,rfl⟩
 | i+6=>simp at hy
theorem zp {n k:Nat} {o:Bool} {l:List Str}:Low n (.slice o k (l.map Ac)):=by simp [or_imp,forall_and]
def Ht (c:List Col):List Expr:=c.map fun x=>D6 x.name
theorem Mg {n k:Nat} {o:Bool} {a:List Expr} {e:Expr}:Low n (.slice o k (a.map Aa++[Aa e])):=low_slice.2 fun y hy=>by
 rcases El.1 hy with h|h
 ·obtain ⟨m,_,rfl⟩:=C2.1 h
  exact Ak _ _
 rw [B9.1 h]
 exact Ak _ _
theorem Co {n k:Nat} {o:Bool} {a:List Expr}:Low n (.slice o k (a.map Aa)):=low_slice.2 fun y hy=>by
 obtain ⟨m,_,rfl⟩:=C2.1 hy
 exact Ak _ _
theorem c74 (c:List Col) (hc:c.length≤1048576) (Hp:List AObj):AFun Tryz.prog 74 [Am c] Hp (C4 (Ht c)):=by
 refine Ae [.tmp 2] [0] Tryz.func74 Tryz.ntmps74 (fun d=>?_)
 refine qb ?_;refine No ?_;refine Z43 ?_;refine Na 3 6 ?_;refine Z12 ?_;refine A2 [3,6,7,8] ?_
 refine Bi (α:=Nat) (fun x=>⟨20,A6 3 (.slice true 6 (((c.take x).map fun y=>D6 y.name).map Aa)) (A6 6 (Am c) (A6 7 (A3 (c.length:Nat)) (A6 8 (A3 (x:Nat)) (fun _=>.any)))),Hp,[],[],none⟩) (fun x=>x≤c.length) (fun x=>c.length-x) (0) (Au _) (Bo (by simp)) rfl (fun x hx=>?_)
 refine Z2 ?_;refine A2 [3,6,7,8,9] ?_
 refine Ck (fun ht9=>?_) (fun ht9=>?_)
 ·have hlt:x<c.length:=by simpa using ht9
  refine Z73 ?_
  refine A5 (h:=Ag (x) (Cc c[x]) (fun _=>B7 hlt)) (hr:=?_)
  refine Z99 ?_;refine A2 [3,5,6,7,8] ?_;refine bi ?_;refine Z0 ?_;refine y6 ?_;refine R.wk 15 _ (zo c[x].name) ?_;refine Ti ?_
  refine E6 jU Tryz.type27 ?_ ?_ ?_
  ·simp only [Ah,C1,B0,Bu,Tryz.t27];omega
  ·simp only [Ah,C1,B0,Bu,Tryz.t27];omega
  refine Oj ?_;refine A2 [3,6,7,8] ?_;refine Q3 ?_;refine A2 [3,6,7,8] ?_;refine qe ?_
  rw [Nz hlt,Bj]
  exact D0 (own:=[]) (fun _=>.refl _) (by repeat (first|exact Bb|refine Ba (by first|(simp [or_imp,forall_and];done)|exact Mg|exact D5) ?_)) (by simp) (by simp)
 have hxe:c.length≤x:=by simpa using ht9
 refine Z27 ?_;refine Z1 ?_;refine Z4 ?_;exact A9 (Ao A8) ⟨by unfold Ht;rw [E9 hxe],rfl⟩ (hlow:=Co)

/-! fuse: trees in columns' places. -/
mutual
def putF (c:List Col) (l:List Expr):Expr→Option Expr
 | .mk o t v k=>if o==2 then (if Ay t c<0 then none else some (l.getD (Ay t c).toNat Av)) else (Iu c l k).map fun k'=>.mk o t v k'
def Iu (c:List Col) (l:List Expr):List Expr→Option (List Expr)
  | []=>some []
  | e::r=>match putF c l e with
    | none=>none
    | some y=>(Iu c l r).map fun s=>y::s
 end
/-- fuse.Over. -/
def Cy (x:Expr) (c:List Col) (l:List Expr):Expr×Int:=
 if (((!(Az x)) || l.any Ed) || !(Jb c)) || ((c.length:Int) != (l.length:Int)) then (Av,1)
 else match putF c l x with
  | none=>(Av,9)
  | some y=>if Az y then (y,0) else (Av,3)
/-- fuse.over: the trees, till one goes wrong. -/
def Br (c:List Col) (by_:List Expr):List Expr→List Expr×Int
 | []=>([],0)
 | x::r=>if (Cy x c by_).2 != 0 then ([],(Cy x c by_).2) else if (Br c by_ r).2 != 0 then ([],(Br c by_ r).2) else ((Cy x c by_).1::(Br c by_ r).1,0)
/-- fuse.stay. -/
def E3 (take:List Str):List Col→List Expr→List Expr
 | y::c,x::l=>if take.contains y.name then E3 take c l else x::E3 take c l
 | _,_=>[]
theorem Kb {take:List Str}:∀{c:List Col} {l:List Expr},c.length=l.length→(E3 take c l).length=(Dg c take).length
 | [],[],_=>rfl
 | [],_::_,h=>by simp at h
 | _::_,[],h=>by simp at h
 | y::c,x::l,h=>by
  have ih:=Kb (take:=take) (c:=c) (l:=l) (by simpa using h)
  unfold E3 Dg
  by_cases hc:take.contains y.name=true
  ·rw [if_pos hc]
   simp only [Hz,hc,Ig,Bg,if_false]
   exact ih
  rw [if_neg hc]
  have hc':take.contains y.name=false:=by simpa using hc
  simp only [Hz,hc',Xl,if_true,B0]
  exact congrArg (·+1) ih
theorem Mh {c:List Col} {by_:List Expr}:∀(l:List Expr),(Br c by_ l).2=0→(Br c by_ l).1.length=l.length
 | [],_=>rfl
 | x::r,h=>by
  unfold Br at h ⊢
  split at h
  ·rename_i h1
   exact AL0
  rename_i h1
  rw [if_neg h1]
  split at h
  ·rename_i h2
   exact absurd h (by simpa using h2)
  rename_i h2
  rw [if_neg h2]
  have:=Mh (c:=c) (by_:=by_) r (by simpa using h2)
  simp [this]
set_option maxRecDepth 8000
/-! How long a print is. -/
theorem AEl {t:Str} (h:0≤Om t):t.length≤3:=by
 rcases Wk t with hm|⟨hm,_⟩
 ·have h3:(levels.flatten.all fun s=>decide (s.length≤3))=true:=by kernel_rfl
  exact of_decide_eq_true (B5.1 h3 t hm)
 omega
theorem rz {t:Str} {n:Nat} (h:Cn t=(n:Int)):t.length≤6:=by
 rcases Ou h with ⟨e,_⟩|⟨e,_⟩|⟨e,_⟩|⟨e,_⟩|⟨e,_⟩|⟨e,_⟩|⟨e,_⟩|⟨e,_⟩<;>rw [e]<;>decide
set_option maxRecDepth 4000
theorem s6 {e:Expr} (h:F1 e=true):e.text.length≤16∧e.kids.length≤8:=by
 cases M9 h with
 | val v hp h0=>exact ⟨by simp [On,Expr.text],by simp [On,Expr.kids]⟩
 | name t ht =>
  refine ⟨?_,by simp [D6,Expr.kids]⟩
  show t.length≤16
  cases t with
  | nil=>simp
  | cons c r =>
   simp only [Rr,As,decide_eq_true_eq] at ht
   exact ht.1.1.1
 | neg a=>exact ⟨by simp [Lk,Expr.text],by simp [Lk,Expr.kids]⟩
 | no a=>exact ⟨by simp [Lk,Expr.text],by simp [Lk,Expr.kids]⟩
 | bin t a b ht=>exact ⟨by have:=AEl ht;show t.length≤16;omega,by simp [Ml,Expr.kids]⟩
 | call t k ha =>
  refine ⟨by have:=rz ha;show t.length≤16;omega,?_⟩
  show k.length≤8
  rcases Ou ha with ⟨_,e⟩|⟨_,e⟩|⟨_,e⟩|⟨_,e⟩|⟨_,e⟩|⟨_,e⟩|⟨_,e⟩|⟨_,e⟩<;>omega
theorem ee:∀{l:List Expr} {y:Expr},y∈l→depthE y≤Qe l
 | a::r,y,h=>by
  rw [Qe]
  rcases B3.1 h with rfl|h
  ·omega
  have:=ee h
  omega
theorem vl:∀(n:Nat) (e:Expr),depthE e≤n→Dy F1 e=true→okE n e
 | 0,e,h,_=>by rw [dn] at h;omega
 | n+1,e,h,hn=>by
  rw [Jc,As] at hn
  rw [dn] at h
  have hs:=s6 hn.1
  refine ⟨by omega,by omega,fun y hy=>vl n y (by have:=ee hy;omega) ((Fu _ _).1 hn.2 y hy)⟩
theorem Vp {e:Expr} (h:Ga e=true):okE 30 e∧sizeE e≤300:=by
 have h1:=Ov h
 unfold Ga at h
 simp only [As,decide_eq_true_eq] at h
 exact ⟨vl 30 e h.1.1 h1,h.1.2⟩
def n8 (c:List Col) (l:List Expr) (e:Expr):Expr:=(putF c l e).getD Av
theorem ef {c:List Col} {l:List Expr}:∀{k:List Expr},(∀(j:Nat) (y:Expr),k[j]? = some y→(!(putF c l y).isSome)=false)→Iu c l k=some (k.map (n8 c l))
 | [],_=>rfl
 | e::r,h=>by
  have h1:=h 0 e rfl
  have h2:=ef (c:=c) (l:=l) (k:=r) (fun j y hy=>h (j+1) y hy)
  rw [Iu]
  cases he:putF c l e with
  | none=>rw [he] at h1;cases h1
  | some z=>rw [h2,Bm,show n8 c l e=z by unfold n8;rw [he];rfl];rfl
theorem eg {c:List Col} {l:List Expr}:∀{k:List Expr} {e:Expr},e∈k→putF c l e=none→Iu c l k=none
 | a::r,e,hm,h=>by
  rw [Iu]
  rcases B3.1 hm with rfl|hm
  ·rw [h]
  have:=eg hm h
  cases ha:putF c l a with
  | none=>rfl
  | some z=>rw [this];rfl
theorem Zy {c:List Col} {l:List Expr} {x:Expr} (h:(x.op==2)=true):putF c l x=if Ay x.text c<0 then none else some (l.getD (Ay x.text c).toNat Av):=by
 cases x;rw [putF];exact if_pos h
theorem Zz {c:List Col} {l:List Expr} {x:Expr} (h:(x.op==2)=false):putF c l x=(Iu c l x.kids).map fun k'=>.mk x.op x.text x.val k':=by
 cases x;rw [putF];exact if_neg (fun e=>Bool.false_ne_true (h.symm.trans e))
theorem n9 {c:List Col} {l:List Expr} {s:Str} (hl:c.length=l.length) (hf:¬Ay s c<0):(l.map Aa)[(Ay s c).toNat]? = some (Aa (l.getD (Ay s c).toNat Av))∧(Ay s c).toNat<l.length∧0≤Ay s c:=by
 obtain ⟨j,hj,hjl⟩:=Gu hf
 rw [hj,Int.toNat_natCast]
 refine ⟨?_,by omega,by omega⟩
 rw [C5,Ab (by omega),Bv,Ab (by omega)]
 rfl
theorem ATc (c:List Col) (hc:OkCols c) (l:List Expr) (hl:c.length=l.length):∀(n:Nat) (x:Expr),okE n x→∀Hp:List AObj,AFun Tryz.prog 124 [Aa x,Am c,C4 l] Hp (.tup [Aa ((putF c l x).getD Av),B4 (putF c l x).isSome]):=by
 intro n
 induction n with
 | zero=>exact fun e h=>h.elim
 | succ n ih =>
 intro x hok Hp
 refine Ae [.cell 6 27,.tmp 7] [0,1,2] Tryz.func124 Tryz.ntmps124 (fun d=>?_)
 refine ACa ?_;refine xf ?_;refine Z29 ?_;refine A2 [1,2,3,6,16] ?_
 refine A4 (fun ht16=>?_) (fun ht16=>?_)
 ·have hpn:=Zy (c:=c) (l:=l) ht16
  refine Z15 ?_;refine A7 Tryz.call60 (c60 c hc x.text _) ?_;refine A5 ?_;refine A2 [2,6,8] ?_;refine Z7 ?_;refine A2 [2,6,8,22] ?_
  refine A4 (fun ht22=>?_) (fun ht22=>?_)
  ·have hm:putF c l x=none:=by rw [hpn,if_pos (by simpa using ht22)]
   refine F0 ?_;refine Z28 ?_;refine Hg 1 5 6 ?_;refine q8 ?_;refine Cz ?_;exact AOw
  have hneg:¬Ay x.text c<0:=by simpa using ht22
  have hm:putF c l x=some (l.getD (Ay x.text c).toNat Av):=by rw [hpn,if_neg hneg]
  refine Nc ?_
  obtain ⟨_,hg1,hg2⟩:=n9 hl hneg
  refine A5 (h:=Ag ((Ay x.text c).toNat) (Aa (l.getD (Ay x.text c).toNat Av)) (fun _=>(n9 hl hneg).1)) (hr:=?_)
  refine xn ?_;exact A9 (B1 (B6 jA jS) A8) ⟨by rw [hm];show _=AV.tup [Aa (l.getD _ Av),B4 true];rw [Ap]<;>rfl,rfl⟩ (hlow:=by simp [or_imp,forall_and,Ak])
 have hpk:=Zz (c:=c) (l:=l) ht16
 refine Q4 ?_;refine A2 [1,2,3,6,9] ?_;refine Z82 ?_;refine A2 [1,2,3,6,9] ?_;refine Z43 ?_;refine Hg 0 5 6 ?_;refine Z12 ?_;refine A2 [1,2,3,6,31,32,33] ?_
 refine Bi (α:=Nat) (fun i=>⟨55,A6 1 (Am c) (A6 2 (C4 l) (A6 3 (.ptr (oid Hp.length 0) 0) (A6 6 (.ptr (oid Hp.length 1) 0) (A6 31 (.slice false 6 (x.kids.map Aa)) (A6 32 (A3 (x.kids.length:Nat)) (A6 33 (A3 (i:Nat)) (fun _=>.any))))))),Hp,[.cells 27 [A3 x.op,Ac x.text,A3 x.val.kind,A3 x.val.n,Ac x.val.s,.slice true 6 (((x.kids.take i).map (n8 c l)).map Aa)],.cells 27 [A3 0,Ac [],A3 0,A3 0,Ac [],.nil]],[],none⟩) (fun i=>i≤x.kids.length∧∀(j:Nat) (y:Expr),j<i→x.kids[j]? = some y→(!(putF c l y).isSome)=false) (fun i=>x.kids.length-i) (0) ⟨Au _,fun j y h=>by omega⟩ (Bo (by simp)) rfl (fun i hi=>?_)
 refine Z2 ?_;refine A2 [1,2,3,6,31,32,33,34] ?_
 refine Ck (fun ht34=>?_) (fun ht34=>?_)
 ·have hlt:i<x.kids.length:=by simpa using ht34
  have hkl:=hok.2.1
  refine Z73 ?_
  refine A5 (h:=Ag (i) (Aa x.kids[i]) (fun _=>B7 hlt)) (hr:=?_)
  refine Z99 ?_;refine A2 [1,2,3,6,11,31,32,33] ?_;refine Z15 ?_;refine A7 Tryz.call124 (ih x.kids[i] (hok.2.2 _ (Bl hlt)) _) ?_;refine Rf ?_;refine A2 [1,2,3,6,12,13,31,32,33] ?_;refine Z7 ?_;refine A2 [1,2,3,6,12,31,32,33,45] ?_
  refine A4 (fun ht45=>?_) (fun ht45=>?_)
  ·have hm:putF c l x=none:=by rw [hpk,eg (Bl hlt) (by simpa using ht45)];rfl
   refine F0 ?_;refine Z28 ?_;refine Hg 1 5 6 ?_;refine q8 ?_;refine Z48 ?_;exact AOw
  refine Z3 ?_;refine Z50 ?_;refine Y0 jA ?_;refine Z58 ?_
  refine E6 jU Tryz.type27 ?_ ?_ ?_
  ·simp only [Ah,C1,B0,Bu,Tryz.t27];omega
  ·simp only [Ah,C1,B0,Bu,Tryz.t27];omega
  refine AGs ?_;refine A2 [1,2,3,6,31,32,33] ?_;refine Q3 ?_;refine A2 [1,2,3,6,31,32,33] ?_;refine Bt (i+1) ⟨hlt,Di hlt hi.2 ht45⟩ (by omega) ?_
  have hlo:=fun m=>AE2 (n:=m) (x:=x) (o:=true) (l:=(x.kids.take i).map (n8 c l)++[n8 c l x.kids[i]])
  simp only [Bj,Bm,Dc,Ap] at hlo
  simp only [show Tryz.t27.size=6 from rfl]
  rw [Nz hlt,Bj,Bm,Dc,Ap]
  exact D0 (fun _=>.refl _) (by repeat (first|exact Bb|refine Ba (by first|exact Co|exact D5|(simp [oid,Ak];done)|(simp [oid]<;>omega)) ?_)) (ASo (hlo _) jg) (by simp)
 have hxe:x.kids.length≤i:=by simpa using ht34
 have hm:putF c l x=some (.mk x.op x.text x.val (x.kids.map (n8 c l))):=by rw [hpk,ef (fun j y hy=>hi.2 j y (by have:=(Ad.1 hy).1;omega) hy)];rfl
 refine qc ?_;refine Z69 ?_;exact A9 (B1 (B6 jA jS) A8) ⟨by rw [hm];show _=AV.tup [Aa (.mk x.op x.text x.val (x.kids.map (n8 c l))),B4 true];rw [Zr,E9 hxe],rfl⟩ (hlow:=by simp [or_imp,forall_and];intro y hy;obtain ⟨e,_,rfl⟩:=C2.1 (O4 hy);exact Ak _ _)

theorem Ss {c:List Col} {l:List Expr}:∀{k s:List Expr},Iu c l k=some s→s.length=k.length∧∀y∈s,∃e∈k,putF c l e=some y
 | [],s,h=>by
  rw [Iu] at h
  injection h with h
  subst h
  exact ⟨rfl,fun y hy=>by cases hy⟩
 | a::r,s,h=>by
  rw [Iu] at h
  cases ha:putF c l a with
  | none=>rw [ha] at h;cases h
  | some z =>
   rw [ha] at h
   simp only at h
   cases hr:Iu c l r with
   | none=>rw [hr] at h;cases h
   | some t =>
    rw [hr] at h
    injection h with h
    subst h
    obtain ⟨h1,h2⟩:=Ss hr
    refine ⟨by simp [h1],fun y hy=>?_⟩
    rcases B3.1 hy with rfl|hy
    ·exact ⟨a,G5,ha⟩
    obtain ⟨e,he,hp⟩:=h2 y hy
    exact ⟨e,J2 _ he,hp⟩
theorem vm {c:List Col} {l:List Expr} {m:Nat} (hl:∀e∈l,okE (m+1) e) (hc:c.length=l.length):∀(n:Nat) (x y:Expr),okE n x→putF c l x=some y→okE (m+1+n) y
 | 0,x,y,h,_=>h.elim
 | n+1,x,y,h,hp=>by
  cases h2:x.op==2 with
  | true =>
   rw [Zy h2] at hp
   split at hp
   ·cases hp
   rename_i hf
   injection hp with hp
   subst hp
   obtain ⟨j,hj,hjl⟩:=Gu hf
   rw [hj,Int.toNat_natCast,Bv,Ab (by omega)]
   exact I1 (by omega) (hl _ (Bl (by omega)))
  | false =>
   rw [Zz h2] at hp
   cases hk:Iu c l x.kids with
   | none=>rw [hk] at hp;cases hp
   | some s =>
    rw [hk] at hp
    injection hp with hp
    subst hp
    obtain ⟨h3,h4⟩:=Ss hk
    refine ⟨h.1,by show s.length≤_;rw [h3];exact h.2.1,fun z hz=>?_⟩
    obtain ⟨e,he,hpe⟩:=h4 z hz
    exact vm hl hc n e z (h.2.2 e he) hpe
theorem AM3 {x:Expr} {c:List Col} {l:List Expr} (h:((((!(Az x)) || l.any Ed) || !(Jb c)) || ((c.length:Int) != (l.length:Int)))=true):Cy x c l=(Av,1):=if_pos h
theorem AEm {x:Expr} {c:List Col} {l:List Expr} (h:((((!(Az x)) || l.any Ed) || !(Jb c)) || ((c.length:Int) != (l.length:Int)))=false):Cy x c l=match putF c l x with
  | none=>(Av,9)
  | some y=>if Az y then (y,0) else (Av,3):=if_neg (by rw [h];simp)
theorem c78 (x:Expr) (hok:okE 61 x) (c:List Col) (hc:OkCols c) (l:List Expr) (hll:l.length≤1048576) (hlo:∀e∈l,okE 61 e) (Hp:List AObj):AFun Tryz.prog 78 [Aa x,Am c,C4 l] Hp (.tup [Aa (Cy x c l).1,A3 (Cy x c l).2]):=by
 refine Ae [.cell 6 27,.tmp 7] [0,1,2] Tryz.func78 Tryz.ntmps78 (fun d=>?_)
 refine Z2 ?_;refine xf ?_;refine Z33 ?_;refine A7 Tryz.call96 (c96 61 x hok (by decide) _) ?_;refine Rg ?_;refine Ca Tryz.call123 (fun hB=>AT6 l hll hlo _) ?_;refine Rg ?_;refine Ca Tryz.call50 (fun hB=>c50 c hc _) ?_;refine Cw ?_;refine Z86 ?_;refine Z55 ?_;refine A2 [1,2,3,6,28] ?_
 refine A4 (fun ht28=>?_) (fun ht28=>?_)
 ·simp only [Ah] at ht28
  have hm:=AM3 ht28
  refine F0 ?_;refine AGt ?_;refine q8 ?_;exact AOx
 simp only [Ah] at ht28
 have hm0:=AEm ht28
 have hcl:c.length=l.length:=by simp only [Ei,bne_eq_false_iff_eq] at ht28;have:=ht28.2;omega
 refine Q4 ?_;refine A7 Tryz.call124 (ATc c hc l hcl 61 x hok _) ?_;refine Rf ?_;refine A2 [6,8,9] ?_;refine l9 ?_;refine A2 [6,8,37] ?_
 refine A4 (fun ht37=>?_) (fun ht37=>?_)
 ·have hp:putF c l x=none:=by simpa using ht37
  have hm:Cy x c l=(Av,9):=by rw [hm0,hp]
  refine F0 ?_;refine AGt ?_;refine Z96 ?_;exact AN7
 obtain ⟨y,hp⟩:∃y,putF c l x=some y:=by
  cases h:putF c l x with
  | none=>rw [h] at ht37;cases ht37
  | some y=>exact ⟨y,rfl⟩
 have hyo:okE 122 ((putF c l x).getD Av):=by rw [hp];exact vm (m:=60) hlo hcl 61 x y hok hp
 refine Z2 ?_;refine A7 Tryz.call96 (c96 122 ((putF c l x).getD Av) hyo (by decide) _) ?_;refine Z0 ?_;refine A2 [6,8,41] ?_
 refine A4 (fun ht41=>?_) (fun ht41=>?_)
 ·have hm:Cy x c l=(Av,3):=by
   rw [hp] at ht41
   rw [hm0,hp]
   exact if_neg (by simpa using ht41)
  refine F0 ?_;refine AGt ?_;refine Z96 ?_;exact AN7
 have hm:Cy x c l=(y,0):=by
  rw [hp] at ht41
  rw [hm0,hp]
  exact if_pos (by simpa using ht41)
 refine Z20 ?_;refine Z2 ?_;refine Z69 ?_;exact A9 (B1 (B6 jA jS) A8) ⟨by rw [hm,hp];show _=AV.tup [Aa y,A3 0];rw [Ap];rfl,rfl⟩ (hlow:=by simp [or_imp,forall_and,Ak])

/-! fuse.Forth and plan.Text. -/
def C8 (c:List Col) (ms:List Mov):Nat→List Expr
 | 0=>Ht c
 | k+1=>match ms[k]? with
  | some m=>E3 m.take (colsAt c ms k) (C8 c ms k)++(Br (colsAt c ms k) (C8 c ms k) m.ahead).1
  | none=>C8 c ms k
def Gc (c:List Col) (t:List Expr):List Mov→List Expr×Int
 | []=>(t,0)
 | m::r=>if (Br c t m.ahead).2 != 0 then ([],(Br c t m.ahead).2) else Gc (Bp c m).1 (E3 m.take c t++(Br c t m.ahead).1) r
/-- fuse.Forth. -/
def Fh (c:List Col) (l:List Mov):List Expr×Int:=if (Bn c l).2 != 0 then ([],1) else Gc c (Ht c) l
def L6 (c:List Col) (ms:List Mov) (k:Nat):Prop:=Gc c (Ht c) ms=Gc (colsAt c ms k) (C8 c ms k) (ms.drop k)
theorem AM4 {c:List Col} {ms:List Mov}:L6 c ms 0:=rfl
theorem jp {c:List Col} {ms:List Mov} {k:Nat} {m:Mov} (hk:ms[k]? = some m) (h:L6 c ms k) (he:((Br (colsAt c ms k) (C8 c ms k) m.ahead).2 != 0)=false):L6 c ms (k+1):=by
 unfold L6 at h ⊢
 rw [h,Mf hk,Gc,if_neg (by rw [he];simp),Eu hk,C8,hk]
theorem s7 {c:List Col} {ms:List Mov} {k:Nat} {m:Mov} (hk:ms[k]? = some m) (h:L6 c ms k) (he:((Br (colsAt c ms k) (C8 c ms k) m.ahead).2 != 0)=true):Gc c (Ht c) ms=([],(Br (colsAt c ms k) (C8 c ms k) m.ahead).2):=by
 unfold L6 at h
 rw [h,Mf hk,Gc,if_pos he]
theorem s8 {c:List Col} {ms:List Mov} (h:L6 c ms ms.length):Gc c (Ht c) ms=(C8 c ms ms.length,0):=by
 unfold L6 at h
 rw [h,Xm,Gc]
/-- Trees that may be walked, printed and put again. -/
structure TOk (t:List Expr):Prop where
 ok:∀e∈t,okE 61 e
 rng:∀e∈t,Dy Ge e=true
theorem Rc {take:List Str}:∀{c:List Col} {l:List Expr},∀e∈E3 take c l,e∈l
 | [],[],e,h=>by cases h
 | [],_::_,e,h=>by cases h
 | _::_,[],e,h=>by cases h
 | y::c,x::l,e,h=>by
  unfold E3 at h
  split at h
  ·exact J2 _ (Rc e h)
  rcases B3.1 h with rfl|h
  ·exact G5
  exact J2 _ (Rc e h)
theorem na {c:List Col} {l:List Expr} (hl:∀e∈l,Dy Ge e=true) (hc:c.length=l.length):∀(n:Nat) (x y:Expr),okE n x→Dy Ge x=true→putF c l x=some y→Dy Ge y=true
 | 0,x,y,h,_,_=>h.elim
 | n+1,x,y,h,hr,hp=>by
  cases h2:x.op==2 with
  | true =>
   rw [Zy h2] at hp
   split at hp
   ·cases hp
   rename_i hf
   injection hp with hp
   subst hp
   obtain ⟨j,hj,hjl⟩:=Gu hf
   rw [hj,Int.toNat_natCast,Bv,Ab (by omega)]
   exact hl _ (Bl (by omega))
  | false =>
   rw [Zz h2] at hp
   cases hk:Iu c l x.kids with
   | none=>rw [hk] at hp;cases hp
   | some s =>
    rw [hk] at hp
    injection hp with hp
    subst hp
    obtain ⟨h3,h4⟩:=Ss hk
    rw [Jc,As] at hr
    rw [Jc,As]
    refine ⟨hr.1,(Fu _ _).2 fun z hz=>?_⟩
    obtain ⟨e,he,hpe⟩:=h4 z hz
    exact na hl hc n e z (h.2.2 e he) ((Fu _ _).1 hr.2 e he) hpe
theorem nb {x:Expr} {c:List Col} {l:List Expr} (hx:okE 61 x) (hr:Dy Ge x=true) (ht:TOk l) (he:(Cy x c l).2=0):okE 61 (Cy x c l).1∧Dy Ge (Cy x c l).1=true∧Az (Cy x c l).1=true:=by
 unfold Cy at he ⊢
 split at he
 ·exact absurd (show (1:Int)=0 from he) (by decide)
 rename_i h1
 rw [if_neg h1]
 have hcl:c.length=l.length:=by
  simp only [S3,Ei,bne_eq_false_iff_eq] at h1
  have:=h1.2
  omega
 cases hp:putF c l x with
 | none=>rw [hp] at he;exact absurd (show (9:Int)=0 from he) (by decide)
 | some y =>
  rw [hp] at he
  simp only at he ⊢
  split at he
  ·rename_i h2
   rw [if_pos h2]
   have h3:Ga y=true:=by rw [←Fv];exact h2
   exact ⟨I1 (by decide) (Vp h3).1,na ht.rng hcl 61 x y hx hr hp,h2⟩
  exact absurd (show (3:Int)=0 from he) (by decide)
theorem Rd {c:List Col} {t:List Expr} (ht:TOk t):∀(l:List Expr),(∀e∈l,okE 61 e)→(∀e∈l,Dy Ge e=true)→(Br c t l).2=0→TOk (Br c t l).1
 | [],_,_,_=>⟨fun e h=>(Em h).elim,fun e h=>(Em h).elim⟩
 | x::r,h1,h2,he=>by
  unfold Br at he ⊢
  split at he
  ·rename_i h3
   exact absurd he (by simpa using h3)
  rename_i h3
  rw [if_neg h3]
  split at he
  ·rename_i h4
   exact absurd he (by simpa using h4)
  rename_i h4
  rw [if_neg h4]
  have ih:=Rd (c:=c) ht r (fun e he=>h1 e (J2 _ he)) (fun e he=>h2 e (J2 _ he)) (by simpa using h4)
  have hx:=nb (c:=c) (h1 x G5) (h2 x G5) ht (by simpa using h3)
  refine ⟨fun e he=>?_,fun e he=>?_⟩
  ·rcases B3.1 he with rfl|he
   ·exact hx.1
   exact ih.ok e he
  rcases B3.1 he with rfl|he
  ·exact hx.2.1
  exact ih.rng e he
theorem jq {c:List Col} (hc:OkCols c):TOk (Ht c):=by
 refine ⟨fun e he=>?_,fun e he=>?_⟩
 ·obtain ⟨y,hy,rfl⟩:=C2.1 he
  exact ⟨hc.2 y hy,by simp [D6,Expr.kids],fun z hz=>by simp [D6,Expr.kids] at hz⟩
 obtain ⟨y,hy,rfl⟩:=C2.1 he
 rfl
/-- What holds of the trees behind k moves, if all went well till there. -/
theorem vn {c:List Col} {ms:List Mov} {k:Nat} {m:Mov} (hk:ms[k]? = some m) (hm:OkMov m) (h:TOk (C8 c ms k)) (he:((Br (colsAt c ms k) (C8 c ms k) m.ahead).2 != 0)=false):TOk (C8 c ms (k+1)):=by
 have h1:=Rd (c:=colsAt c ms k) h m.ahead hm.ahead.ok hm.ahead.rng (by simpa using he)
 rw [C8,hk]
 refine ⟨fun e he=>?_,fun e he=>?_⟩
 ·rcases El.1 he with he|he
  ·exact h.ok e (Rc e he)
  exact h1.ok e he
 rcases El.1 he with he|he
 ·exact h.rng e (Rc e he)
 exact h1.rng e he
theorem Kv {c:List Col} {m:Mov} (h:(Bp c m).2=0):(Bp c m).1=Dg c m.take++By c m∧Cs c=true∧Cs (Bp c m).1=true:=by
 unfold Bp at h ⊢
 split at h
 ·rename_i h1
  exact AL0
 rename_i h1
 rw [if_neg h1]
 split at h
 ·rename_i h2
  exact absurd h (by simpa using h2)
 rename_i h2
 rw [if_neg h2]
 split at h
 ·rename_i h3
  exact absurd h (by simpa using h3)
 rename_i h3
 rw [if_neg h3]
 obtain ⟨a,_,b,d,e⟩:=AHl (by simpa using h1:(E2 c m.take (By c m)).2=0)
 rw [e]
 refine ⟨rfl,a,?_⟩
 unfold Cs
 rw [b,Xk]
 refine decide_eq_true ?_
 show ((Dg c m.take++By c m).length:Int)≤12
 omega
theorem nd {c:List Col} {ms:List Mov} {k:Nat} {m:Mov} (hk:ms[k]? = some m) (hm:I5 m=true) (ht:(Bp (colsAt c ms k) m).2=0) (h:(C8 c ms k).length=(colsAt c ms k).length) (he:((Br (colsAt c ms k) (C8 c ms k) m.ahead).2 != 0)=false):(C8 c ms (k+1)).length=(colsAt c ms (k+1)).length:=by
 rw [C8,Eu hk,hk]
 show (E3 _ _ _++_).length=_
 rw [(Kv ht).1,Ai,Ai,Ka,Kb h.symm,Mh _ (by simpa using he),(Fg (It hm)).1]
/-! The text. -/
theorem Oy {n k:Nat} {o:Bool} {a:List Expr} {e:Expr}:Low n (.slice o k (a.map Aa++[.agg (Ex e)])):=by
 have:=Mg (n:=n) (k:=k) (o:=o) (a:=a) (e:=e)
 rwa [Ap] at this
theorem eh {c:List Col} {t:List Expr}:∀{l:List Expr},(∀(j:Nat) (y:Expr),l[j]? = some y→((Cy y c t).2 != 0)=false)→Br c t l=(l.map (fun e=>(Cy e c t).1),0)
 | [],_=>rfl
 | x::r,h=>by
  have h1:=h 0 x rfl
  have ih:=eh (c:=c) (t:=t) (l:=r) (fun j y hy=>h (j+1) y hy)
  rw [Br,if_neg (by rw [h1];simp),if_neg (by rw [ih];simp),ih]
  rfl
theorem ek {c:List Col} {t:List Expr}:∀{l:List Expr} {x:Nat} {y:Expr},(∀(j:Nat) (z:Expr),j<x→l[j]? = some z→((Cy z c t).2 != 0)=false)→l[x]? = some y→((Cy y c t).2 != 0)=true→Br c t l=([],(Cy y c t).2)
 | [],_,_,_,h,_=>by simp at h
 | a::r,0,y,h0,h,h1=>by
  have:a=y:=by simpa using h
  subst this
  rw [Br,if_pos h1]
 | a::r,x+1,y,h0,h,h1=>by
  have h2:=h0 0 a (by omega) rfl
  have ih:=ek (c:=c) (t:=t) (l:=r) (x:=x) (y:=y) (fun j z hj hz=>h0 (j+1) z (by omega) hz) (by simpa using h) h1
  rw [Br,if_neg (by rw [h2];simp),if_pos (by rw [ih];exact h1),ih]
theorem c75 (l:List Expr) (hl:l.length≤1048576) (hlo:∀e∈l,okE 61 e) (c:List Col) (hc:OkCols c) (by_:List Expr) (hbl:by_.length≤1048576) (hbo:∀e∈by_,okE 61 e) (Hp:List AObj):AFun Tryz.prog 75 [C4 l,Am c,C4 by_] Hp (.tup [C4 (Br c by_ l).1,A3 (Br c by_ l).2]):=by
 refine Ae [.tmp 6,.tmp 7] [0,1,2] Tryz.func75 Tryz.ntmps75 (fun d=>?_)
 refine Z1 ?_;refine Y8 ?_;refine Z2 ?_;refine A2 [0,1,2,8] ?_;refine Z43 ?_;refine Na 8 6 ?_;refine Z12 ?_;refine ACk ?_
 refine Bi (α:=Nat) (fun x=>⟨35,A6 1 (Am c) (A6 2 (C4 by_) (A6 8 (.slice true 6 (((l.take x).map (fun e=>(Cy e c by_).1)).map Aa)) (A6 13 (C4 l) (A6 14 (A3 (l.length:Nat)) (A6 15 (A3 (x:Nat)) (fun _=>.any)))))),Hp,[],[],none⟩) (fun x=>x≤l.length∧∀(j:Nat) (y:Expr),j<x→l[j]? = some y→((Cy y c by_).2 != 0)=false) (fun x=>l.length-x) (0) ⟨Au _,fun j y h=>by omega⟩ (Bo (by simp)) rfl (fun x hx=>?_)
 refine Z2 ?_;refine A2 [1,2,8,13,14,15,16] ?_
 refine Ck (fun ht16=>?_) (fun ht16=>?_)
 ·have hlt:x<l.length:=by simpa using ht16
  refine Z73 ?_
  refine A5 (h:=Ag (x) (Aa l[x]) (fun _=>B7 hlt)) (hr:=?_)
  refine Z99 ?_;refine A2 [1,2,8,10,13,14,15] ?_;refine Z15 ?_;refine A7 Tryz.call78 (c78 l[x] (hlo _ (Bl hlt)) c hc by_ hbl hbo _) ?_;refine Rf ?_;refine A2 [1,2,8,11,12,13,14,15] ?_;refine Z7 ?_;refine A2 [1,2,8,11,12,13,14,15,27] ?_
  refine A4 (fun ht27=>?_) (fun ht27=>?_)
  ·have hm:=ek hx.2 (Ab hlt) ht27
   refine Z1 ?_;refine M7 6 6 false ?_;refine q8 ?_;refine Z26 ?_;exact Z31
  refine Z3 ?_;refine bi ?_;refine Z58 ?_
  refine E6 jU Tryz.type27 ?_ ?_ ?_
  ·simp only [Ah,C1,B0,Bu,Tryz.t27];omega
  ·simp only [Ah,C1,B0,Bu,Tryz.t27];omega
  refine Oj ?_;refine ACk ?_;refine Q3 ?_;refine AO4 ?_
  rw [Nz hlt,Bj]
  rw [Bm,Dc,Ap]
  simp only [show Tryz.t27.size=6 from rfl]
  exact D0 (own:=[]) (fun _=>.refl _) (by repeat (first|exact Bb|refine Ba (by first|(simp [or_imp,forall_and];done)|exact Oy|exact Co|exact D5) ?_)) (by simp) (by simp)
 have hxe:l.length≤x:=by simpa using ht16
 have hm:Br c by_ l=(l.map (fun e=>(Cy e c by_).1),0):=eh fun j y hy=>hx.2 j y (by have:=(Ad.1 hy).1;omega) hy
 refine Z27 ?_;refine Z15 ?_;refine Z16 ?_;exact A9 (B1 A8 A8) ⟨by rw [hm,E9 hxe],rfl⟩ (hlow:=by simp only [Tc,B3,E5,or_false];rintro y (rfl|rfl);exact Co;simp)

theorem c76 (m:Mov) (c:List Col) (l:List Expr) (Hp:List AObj):AFun Tryz.prog 76 [Hs m,Am c,C4 l] Hp (.fn (.func 122) [] [.ro [Am c],.ro (Kt m),.ro [C4 l]]):=by
 refine Ae [.tmp 6] [0,1,2] Tryz.func76 Tryz.ntmps76 (fun d=>?_)
 refine Z23 ?_;refine A2 [3,4,5] ?_;refine pz ?_;refine Z75 ?_;exact A9 (Ao A8) (hlow:=by simp [or_imp,forall_and,Ak])

theorem s9 {take:List Str} {c:List Col} {l:List Expr} {k:Nat} {y:Col} (hcl:c.length=l.length) (hy:c[k]? = some y) (h:take.contains y.name=true):E3 take (c.take (k+1)) (l.take (k+1))=E3 take (c.take k) (l.take k):=by
 induction c generalizing l k with
 | nil=>simp at hy
 | cons a r ih =>
  cases l with
  | nil=>simp at hcl
  | cons b s =>
   cases k with
   | zero =>
    have:a=y:=by simpa using hy
    subst this
    simp only [List.take_succ_cons,List.take_zero]
    rw [E3,if_pos h]
   | succ k =>
    have ih':=ih (l:=s) (k:=k) (by simpa using hcl) (by simpa using hy)
    rw [List.take_succ_cons,List.take_succ_cons,List.take_succ_cons,List.take_succ_cons,E3,E3,ih']
theorem AEn {take:List Str} {c:List Col} {l:List Expr} {k:Nat} {y:Col} {e:Expr} (hcl:c.length=l.length) (hy:c[k]? = some y) (he:l[k]? = some e) (h:take.contains y.name=false):E3 take (c.take (k+1)) (l.take (k+1))=E3 take (c.take k) (l.take k)++[e]:=by
 induction c generalizing l k with
 | nil=>simp at hy
 | cons a r ih =>
  cases l with
  | nil=>simp at hcl
  | cons b s =>
   cases k with
   | zero =>
    have h1:a=y:=by simpa using hy
    have h2:b=e:=by simpa using he
    subst h1
    subst h2
    simp only [List.take_succ_cons,List.take_zero]
    rw [E3,if_neg (by rw [h];simp)]
    rfl
   | succ k =>
    have ih':=ih (l:=s) (k:=k) (by simpa using hcl) (by simpa using hy) (by simpa using he)
    rw [List.take_succ_cons,List.take_succ_cons,List.take_succ_cons,List.take_succ_cons,E3,E3,ih']
    split<;>rfl
theorem sa {n:Nat} {m:Mov}:Low n (.ro (Kt m)):=by
 refine .ro _ fun y hy=>?_
 simp only [B3,E5,or_false] at hy
 rcases hy with rfl|rfl|rfl|rfl|rfl
 ·exact .v _
 ·exact zp
 ·exact D5
 ·exact Co
 exact Co
theorem ATd (l0:Nat) (m:Mov) (c:List Col) (l:List Expr) (hc:c.length≤1048576) (hcl:c.length=l.length) (ht:m.take.length≤1048576) (U:Nat→List AObj) (hlen:∀k,(U k).length=(U 0).length) (hll:l0<(U 0).length)
  (hlw:∀k,∀x∈U k,ObjLow (U 0).length x) (hn:∀k y,c[k]? = some y→m.take.contains y.name=true→U (k+1)=U k)
  (hy:∀k y e X,c[k]? = some y→l[k]? = some e→m.take.contains y.name=false→AYield Tryz.prog l0 [Aa e] (U k++X) (fun b H'=>b=true∧H'=U (k+1)++X)):ACall Tryz.prog 122 [.yield l0,.ro [Am c],.ro (Kt m),.ro [C4 l]] (U 0) (fun _ H'=>H'=U c.length):=by
 refine Ae [] [0,1,2,3] Tryz.func122 Tryz.ntmps122 (fun d=>?_)
 refine Z15 ?_;refine A2 [0,2,3,7,8,9] ?_
 refine Bi (α:=Nat) (fun x=>⟨30,A6 0 (.yield l0) (A6 2 (.ro (Kt m)) (A6 3 (.ro [C4 l]) (A6 7 (Am c) (A6 8 (A3 (c.length:Nat)) (A6 9 (A3 (x:Nat)) (fun _=>.any)))))),U x,[],[],none⟩) (fun x=>x≤c.length) (fun x=>c.length-x) (0) (Au _) (Bo (by simp)) rfl (fun x hx=>?_)
 refine Z2 ?_;refine A2 [0,2,3,7,8,9,10] ?_
 refine Ck (fun ht10=>?_) (fun ht10=>?_)
 ·have hlt:x<c.length:=by simpa using ht10
  have hle:x<l.length:=by omega
  refine Rh ?_
  refine A5 (h:=Ag (x) (Cc c[x]) (fun _=>B7 hlt)) (hr:=?_)
  refine l7 ?_;refine A2 [0,2,3,5,6,7,8,9] ?_;refine Z23 ?_;refine A7 Tryz.call95 (c95 m.take _ ht _) ?_;refine il ?_
  refine Cw (h:=Ag (x) (Aa l[x]) (fun _=>B7 hle)) (hr:=?_)
  refine Cw ?_
  refine G.yield (l:=l0) (C:=((!m.take.contains c[x].name)==true)) (args:=[Aa l[x]]) (fun hC=>hy x c[x] _ _ (Ab hlt) (Ab hle) (by simpa using hC)) ?_
  intro b V O hV hb hb0
  have hVO:V=U (x+1)∧O=[AObj.cells 69 [Ac c[x].name,A3 c[x].kind]]∧(m.take.contains c[x].name=false→b=true):=by
   cases hcn:m.take.contains c[x].name with
   | true =>
    obtain ⟨h1,h2⟩:=hb0 (by rw [hcn];rfl)
    exact ⟨h1.trans (hn x c[x] (Ab hlt) hcn).symm,h2,fun e=>by cases e⟩
   | false =>
    obtain ⟨h1,h2⟩:=hb (by rw [hcn];rfl)
    have h3:=J0 h2 (by rw [hV,hlen x,hlen (x+1)])
    exact ⟨h3.1,h3.2,fun _=>h1⟩
  obtain ⟨rfl,rfl,hbt⟩:=hVO
  refine ⟨fun _=>by rw [hlen (x+1)];exact hlw (x+1),fun o ho=>(by cases ho),?_⟩
  refine Z55 ?_;refine A2 [0,2,3,7,8,9,28] ?_
  refine A4 (fun ht28=>?_) (fun ht28=>?_)
  ·exfalso
   have hcf:m.take.contains c[x].name=false:=by simp at ht28 ⊢;exact ht28.1
   rw [hbt hcf] at ht28
   simp at ht28
  refine Z70 ?_;refine A2 [0,2,3,7,8,9] ?_;refine qe ?_
  exact D0 (own:=[]) (fun _=>.refl _) (by repeat (first|exact Bb|refine Ba (by first|(simp [or_imp,forall_and];done)|exact sa|(simp [or_imp,forall_and,Ak];done)|(have:=hlen (x+1);simp;omega)) ?_)) (by simp) (by simp)
 have hxe:x=c.length:=by simp at ht10;omega
 exact AOg

/-! ONE LINE EACH. -/
theorem sb {c:List Col} {ms:List Mov} (he:(C7 c ms).2=0):∀k,k≤ms.length→NS c ms k
 | 0,_=>AM2
 | k+1,h=>by
  have ih:=sb he k (by omega)
  have hk:ms[k]? = some ms[k]:=Ab (by omega)
  by_cases ht:(Bp (colsAt c ms k) ms[k]).2=0
  ·exact jn hk ih ht
  exact absurd ((jo hk ih ht).symm.trans he) ht
theorem Lm {c:List Col} {ms:List Mov} (he:(C7 c ms).2=0) {k:Nat} {m:Mov} (hk:ms[k]? = some m):(Bp (colsAt c ms k) m).2=0:=by
 have hl:=(Ad.1 hk).1
 by_cases ht:(Bp (colsAt c ms k) m).2=0
 ·exact ht
 exact absurd ((jo hk (sb he k (by omega)) ht).symm.trans he) ht
theorem Gw {c:List Col} {ms:List Mov}:∀{n k:Nat},k≤n→(Cd c ms n)[k]? = some (colsAt c ms k)
 | 0,k,h=>by
  have:k=0:=by omega
  subst this;rfl
 | n+1,k,h=>by
  have hl:=I6 c ms n
  rw [Cd]
  by_cases e:k=n+1
  ·subst e
   rw [Dn (by omega),hl,Qy]
   rfl
  rw [Dm (by omega)]
  exact Gw (by omega)
theorem H1 {c:List Col} {ms:List Mov} (h:L5 c ms=true):∀m∈ms,I5 m=true:=by
 unfold L5 rt at h
 simp only [As,B5] at h
 exact h.2.2
theorem Oz {c:List Col} {ms:List Mov} (hc:Cs c=true) (he:(C7 c ms).2=0):∀k,Cs (colsAt c ms k)=true
 | 0=>hc
 | k+1=>by
  cases hk:ms[k]? with
  | none =>
   rw [colsAt,hk]
   exact Oz hc he k
  | some m =>
   rw [Eu hk]
   exact (Kv (Lm he hk)).2.2
/-- What a sound migration comes to. -/
theorem Ee {c:List Col} {ms:List Mov} (h:((Bn c ms).2 != 0)=false):L5 c ms=true∧(C7 c ms).2=0∧Bn c ms=(Cd c ms ms.length,0):=by
 cases hm:L5 c ms with
 | false=>rw [ea hm] at h;cases h
 | true =>
  by_cases he:(C7 c ms).2=0
  ·have e:=ry (sb he ms.length (Al _))
   exact ⟨rfl,he,ec hm e⟩
  rw [Zw hm he] at h
  exact absurd (by simpa using h) he
theorem Vq {c:List Col} {ms:List Mov} (h:((Bn c ms).2 != 0)=false):Fl c ms=(colsAt c ms ms.length,0):=by
 obtain ⟨_,_,e⟩:=Ee h
 unfold Fl
 rw [if_neg (by rw [h];simp),e]
 show ((Cd c ms ms.length).getLastD [],_)=_
 rw [ABa,List.getLast?_eq_getElem?,I6]
 have:=Gw (c:=c) (ms:=ms) (n:=ms.length) (Al _)
 rw [show ms.length+1-1=ms.length from rfl,this]
 rfl
theorem AEo {n:Nat} {m:Mov} {t:TypeId}:ObjLow n (.cells t (Kt m)):=Ji
theorem AEp {c:List Col} {l:List Mov} (h:((Bn c l).2 != 0)=true):Fh c l=([],1):=if_pos h
theorem zq {c:List Col} {l:List Mov} (h:((Bn c l).2 != 0)=false):Fh c l=Gc c (Ht c) l:=if_neg (by rw [h];simp)
theorem AEq {c:List Col} {ms:List Mov} {k:Nat} {m:Mov} (h:ms[k]? = some m):C4 (C8 c ms (k+1))=.slice false 6 ((E3 m.take (colsAt c ms k) (C8 c ms k)).map Aa++(Br (colsAt c ms k) (C8 c ms k) m.ahead).1.map Aa):=by
 rw [C8,h,←Bj]
theorem c32 (c:List Col) (hc:OkCols c) (hc2:c.length≤1000000) (l:List Mov) (h:OkMovs l) (Hp:List AObj):AFun Tryz.prog 32 [Am c,Eh l] Hp (.tup [C4 (Fh c l).1,A3 (Fh c l).2]):=by
 refine Ae [.tmp 4,.tmp 5] [0,1] Tryz.func32 Tryz.ntmps32 (fun d=>?_)
 refine ij ?_;refine ABv ?_;refine Z59 ?_;refine A2 [0,1,6,7] ?_;refine Z7 ?_;refine A2 [0,1,6,22] ?_
 refine A4 (fun ht22=>?_) (fun ht22=>?_)
 ·have hm:=AEp ht22
  refine Z2 ?_;refine M7 4 6 false ?_;exact AO2
 have hm:=zq ht22
 obtain ⟨hmay,hst,hss⟩:=Ee ht22
 have hmvo:=H1 hmay
 rw [hss]
 refine Oi ?_;refine A7 Tryz.call74 (c74 c (by omega) _) ?_;refine A5 ?_;refine A2 [1,6,8] ?_;refine Z29 ?_;refine A2 [6,8,25,26,27] ?_
 refine AW.loopG (α:=Nat×List AObj×List Nat) (fun s=>⟨65,A6 6 (Gq (Cd c l l.length)) (A6 8 (C4 (C8 c l s.1)) (A6 25 (Eh l) (A6 26 (A3 (l.length:Nat)) (A6 27 (A3 (s.1:Nat)) (fun _=>.any))))),Hp,s.2.1,s.2.2,none⟩) (fun s=>s.1≤l.length∧L6 c l s.1∧TOk (C8 c l s.1)∧(C8 c l s.1).length=(colsAt c l s.1).length∧(∀x∈s.2.1,ObjLow (Hp.length+s.2.1.length) x)∧∀o∈s.2.2,(Hp++s.2.1)[o]? = some .defs) (fun s=>l.length-s.1) ((0,[],[])) ⟨Au _,AM4,jq hc,by simp [C8,Ht,colsAt],(fun x hx=>(Em hx).elim),fun o ho=>(Em ho).elim⟩ (Bo (by simp [C8])) rfl (fun s hs=>?_)
 obtain ⟨k,O,Df⟩:=s
 obtain ⟨hk0,hnf,hTo,hTl,hOo,hDo⟩:=hs
 dsimp only at hk0 hnf hTo hTl hOo hDo ⊢
 refine Z2 ?_;refine A2 [6,8,25,26,27,28] ?_
 refine Ck (fun ht28=>?_) (fun ht28=>?_)
 ·have hlt:k<l.length:=by simpa using ht28
  have hll:=h.len
  have hmk:l[k]? = some l[k]:=Ab hlt
  have hmo:=h.each _ (Bl hlt)
  have hCo:=E4 hc (fun m hm=>h.each m hm) k
  refine Rh ?_
  refine A5 (h:=Ag (k) (Hs l[k]) (fun _=>B7 hlt)) (hr:=?_)
  refine A5 ?_;refine R.alloc (n:=O.length) (ho:=rfl) jZ ?_;refine A5 ?_
  refine R.storeOwn (n:=O.length+0) (ho:=oat.trans rfl) (hset:=by rw [ABr]<;>simp only [List.set_cons_succ,List.set_cons_zero]<;>rfl) jS ?_
  refine A2 [6,8,9,10,25,26,27] ?_;refine Ea [0,1,0,0,12,28,0,127,255,511,511,1023,4095] 12 An (by kernel_rfl) ?_;refine Aq ?_
  refine Aq (h:=Q.loadOwn (n:=O.length+0) (ho:=oat.trans rfl)) (hr:=?_)
  refine Z8 ?_
  refine Aq (h:=Ag (k) (Am (colsAt c l k)) (fun _=>ck (Gw (by omega)))) (hr:=?_)
  refine Z8 ?_
  refine Du Tryz.call75 (c75 l[k].ahead hmo.ahead.len hmo.ahead.ok (colsAt c l k) hCo (C8 c l k) (by have:=hCo.1;omega) hTo.ok _) ?_
  refine Z8 ?_;refine Z89 ?_;refine A5 ?_;refine A2 [6,8,9,10,11,12,25,26,27] ?_;refine Z7 ?_;refine A2 [6,8,9,10,11,12,25,26,27,44] ?_
  refine A4 (fun ht44=>?_) (fun ht44=>?_)
  ·have hm2:=s7 hmk hnf ht44
   refine Z1 ?_;refine M7 4 6 false ?_;refine A5 ?_;refine Z10 ?_;refine Cz ?_;refine Z5 ?_;refine K.lgR ?_;refine Cz ?_;exact A9 (B1 A8 A8) ⟨by rw [hm,hm2]<;>rfl,rfl⟩
  refine l6 ?_
  refine R.alloc (n:=O.length+1) (hn:=by simp) (ho:=by simp only [Ax,Dh,D9]<;>rfl) jZ ?_
  refine L1 (O.length+1) 6 ?_ (ho:=oat.trans rfl) (hset:=by rw [ABr]<;>simp only [List.set_cons_succ,List.set_cons_zero]<;>rfl)
  refine Jx (fun hlow=>?_)
  refine A2 [6,8,9,10,11,13,25,26,27] ?_;refine L0 ?_;refine Ea [0,0,0,6,14,0,63] 6 An (by kernel_rfl) ?_
  refine Aq (h:=Q.loadOwnN (n:=O.length+0) (ho:=oat.trans rfl)) (hr:=?_)
  refine Z8 ?_
  refine Aq (h:=Ag (k) (Am (colsAt c l k)) (fun _=>ck (Gw (by omega)))) (hr:=?_)
  refine Z89 ?_;refine A7 Tryz.call76 (c76 l[k] (colsAt c l k) (C8 c l k) _) ?_;refine A2 [6,11,13,25,26,27,52] ?_;refine K1 ?_
  refine L2 (m:=O.length+2) (hm:=by simp) (ha:=rfl) Tryz.call122 (fun FR as' bd' hFR has hbd=>?_)
  generalize hCd:colsAt c l k=C at *
  generalize hTd:C8 c l k=T at *
  generalize hmd:l[k]=m at *
  have hFRl:∀s,Low (Hp.length+(O.length+4)) (FR s):=by
   intro s
   rw [hFR]
   refine Lz ?_
   revert s
   repeat (first|exact Bb|refine Ba (by first|exact Co|exact Ft|exact Gv|(simp [oid,or_imp,forall_and,Ak];done)|(simp [oid,or_imp,forall_and]<;>try omega)) ?_)
  have hstl:∀q,(E3 m.take (C.take q) (T.take q)).length≤1048576:=fun q=>by
   have h1:=Kb (take:=m.take) (c:=C.take q) (l:=T.take q) (by simp [hTl])
   have h2:=Kr (C.take q) m.take
   have h3:=hCo.1
   rw [C1] at h2
   omega
  have hOl:∀{j:Nat} {o:Bool} {lp:AObj},ObjLow (Hp.length+(O.length+4)) lp→∀x∈O++[AObj.cells 80 (Kt m),AObj.cells 25 [AV.slice o 6 ((E3 m.take (C.take j) (T.take j)).map Aa)],AObj.defs,lp],ObjLow (Hp.length+(O.length+4)) x:=by
   intro j o lp hlp x hx
   rcases El.1 hx with hx|hx
   ·exact L3 (by omega) (hOo x hx)
   simp only [B3,E5,or_false] at hx
   rcases hx with rfl|rfl|rfl|rfl
   ·exact AEo
   ·intro y hy
    rw [B9.1 hy]
    exact Co
   ·trivial
   exact hlp
  refine ⟨_,ACall.heapEq (by rw [Ax];rfl) (ATd (oid Hp.length (O.length+3)) m C T hCo.1 hTl.symm hmo.takes (fun j=>Hp++(O++[AObj.cells 80 (Kt m),AObj.cells 25 [AV.slice true 6 ((E3 m.take (C.take j) (T.take j)).map Aa)],AObj.defs,AObj.loop LoopState.ready none FR 65 #[53] as' bd' (oid Hp.length (O.length+2))])) (fun j=>by simp) (by simp [oid]) (fun j x hx=>?_) (fun j y hk hcn=>by simp only [s9 hTl.symm hk hcn]) (fun q y e X hk hke hcn=>?_)),?_⟩
  ·have:=Id (fun x hx=>L3 (by omega) (hlow x hx)) (hOl (o:=true) (lp:=AObj.loop LoopState.ready none FR 65 #[53] as' bd' (oid Hp.length (O.length+2))) ⟨hFRl,by simp [oid]⟩) x hx
   simpa using this
  ·generalize hV:Hp++(O++[AObj.cells 80 (Kt m),AObj.cells 25 [AV.slice true 6 ((E3 m.take (C.take q) (T.take q)).map Aa)],AObj.defs,AObj.loop LoopState.ready none FR 65 #[53] as' bd' (oid Hp.length (O.length+2))])++X=V
   have hL:V[(oid Hp.length (O.length+3))]? = some (AObj.loop LoopState.ready none FR 65 #[53] as' bd' (oid Hp.length (O.length+2))):=by rw [←hV,Ax,Ax,Tf];rfl
   have hA0:V[(oid Hp.length (O.length+1))]? = some (AObj.cells 25 [AV.slice true 6 ((E3 m.take (C.take q) (T.take q)).map Aa)]):=by rw [←hV,Ax,Ax,Tf];rfl
   refine J8 (pd:=none) (fr:=FR) (sz:=65) (ps:=#[53]) (df:=(oid Hp.length (O.length+2))) (asg:=as') (bd:=bd') hL rfl (by decide) (fun d=>?_)
   subst hFR has hbd
   refine Fo [13,53] ?_;refine AC8 ?_;refine A2 [13,14] ?_
   refine ⟨rfl,none,hL,?_⟩
   generalize hbz:(AObj.loop LoopState.busy _ _ _ _ _ _ _)=bz
   have hA:(V.set (oid Hp.length (O.length+3)) bz)[(oid Hp.length (O.length+1))]? = some (AObj.cells 25 [AV.slice true 6 ((E3 m.take (C.take q) (T.take q)).map Aa)]):=by rw [Bk (Bf (by omega))];exact hA0
   refine K1 ?_
   refine W.drawT0 [0,0,1,0,15,31,63,31] [0] [.s [54] (some 0) [] [],.q 3 [] []] (fun B=>(V.set (oid Hp.length (O.length+3)) bz).set (oid Hp.length (O.length+1)) (if B 0=true then AObj.cells 25 [AV.slice false 6 ((E3 m.take (C.take q) (T.take q)).map Aa)] else AObj.cells 25 [AV.slice true 6 ((E3 m.take (C.take q) (T.take q)).map Aa)])) (fun _=>[.cells 27 (Ex e)]) An (by kernel_rfl) (by simp only [Bg,if_false];exact Cm hA) rfl (fun B=>by simp) ?_
   refine Pz (o:=(oid Hp.length (O.length+1))) (t':=25) (cs:=[.slice true 6 ((E3 m.take (C.take q) (T.take q)).map Aa)]) (cs':=[.slice false 6 ((E3 m.take (C.take q) (T.take q)).map Aa)]) Tryz.isAgg25 (fun B hB=>⟨by simp only [hB];exact getset hA,by simp only [upd,if_true,C6],rfl⟩) ?_
   apply Y.q
   ·intro B hT hF
    refine Z8 ?_;exact Z39
   case hTF=>decide
   refine Y.appendPut3 (tn:=[0]) (U:=(V.set (oid Hp.length (O.length+3)) bz).set (oid Hp.length (O.length+1)) (AObj.cells 25 [AV.slice false 6 ((E3 m.take (C.take q) (T.take q)).map Aa)])) (O:=[.cells 27 (Ex e)]) (o:=(oid Hp.length (O.length+1))) (t':=25) (cs:=[.slice false 6 ((E3 m.take (C.take q) (T.take q)).map Aa)]) (by kernel_rfl) jU Tryz.type27 Tryz.sizeOf27 Tryz.sizeOf25 (Aj (getset hA)) ?_ ?_ ?_
   ·have:=hstl q;simp [Tryz.t27];omega
   ·have:=hstl q;simp [Tryz.t27];omega
   refine Gm jS (getset hA) ?_ ?_
   ·exact Oy
   refine Z91 ?_
   subst hbz
   refine K.rdN (cy hL (Bf (by omega)) (Bf (by omega))) ?_
   refine ⟨rfl,?_⟩
   subst hV
   simp only [Ax,ABs,Dh,D9,List.set_cons_succ,List.set_cons_zero]
   rw [AEn hTl.symm hk hke hcn,Bj,Bm,Dc,Ap]
  rintro r H' rfl
  simp only [Mp,hTl ▸ Mp]
  refine ⟨Hp,_,_,_,rfl,rfl,fun h=>h,?_,(oat (i:=3)).trans rfl,by simp,?_⟩
  ·intro o ho
   rcases B3.1 ho with rfl|ho
   ·rw [Tf]
    rfl
   rw [←Ax]
   exact Aj (hDo o ho)
  refine Z13 ?_;refine Ih ?_
  refine ARun.ownEq (O++[AObj.cells 80 (Kt m),AObj.cells 25 [AV.slice true 6 ((E3 m.take C T).map Aa)],AObj.defs,AObj.loop LoopState.exhausted none FR 65 #[53] as' bd' (oid Hp.length (O.length+2))]) (by rw [show O.length+2+1=O.length+3 from rfl,ABr]<;>rfl) ?_
  refine Y0 (n:=O.length+1) (ho:=oat.trans rfl) (hset:=by rw [ABr]<;>simp only [List.set_cons_succ,List.set_cons_zero]<;>rfl) jA ?_
  refine A5 ?_
  refine E6 jU Tryz.type27 ?_ ?_ ?_
  ·have h1:=Kb (take:=m.take) hTl.symm;have h2:=Kr C m.take;have h3:=hCo.1;have h4:=Mh (c:=C) (by_:=T) m.ahead (by simpa using ht44);have h5:=hmo.ahead.len;simp only [Ah,Tryz.t27];omega
  ·have h1:=Kb (take:=m.take) hTl.symm;have h2:=Kr C m.take;have h3:=hCo.1;have h4:=Mh (c:=C) (by_:=T) m.ahead (by simpa using ht44);have h5:=hmo.ahead.len;simp only [Ah,Tryz.t27];omega
  refine R.wk 62 _ (.strip true 6 _) ?_;refine A5 ?_;refine A2 [6,8,25,26,27] ?_;refine Q3 ?_;refine A2 [6,8,25,26,27] ?_
  have hlp:ObjLow (Hp.length+(O.length+4)) (AObj.loop LoopState.exhausted none FR 65 #[53] as' bd' (oid Hp.length (O.length+2))):=⟨hFRl,by simp [oid]⟩
  have hOn:=hOl (j:=C.length) (o:=false) hlp
  have hse:E3 m.take (C.take C.length) (T.take C.length)=E3 m.take C T:=by rw [Mp,E9 (by omega)]
  rw [hse] at hOn
  refine K.lgN (k+1,O++[AObj.cells 80 (Kt m),AObj.cells 25 [AV.slice false 6 ((E3 m.take C T).map Aa)],AObj.defs,AObj.loop LoopState.exhausted none FR 65 #[53] as' bd' (oid Hp.length (O.length+2))],(oid Hp.length (O.length+2))::Df) ⟨hlt,?_,?_,?_,?_,?_⟩ (by dsimp only;omega) (Dx ?_) (by simp)
  ·subst hCd hTd hmd;exact jp hmk hnf ht44
  ·subst hCd hTd hmd;exact vn hmk hmo hTo ht44
  ·subst hCd hTd hmd;exact nd hmk (hmvo _ (Bl hlt)) (Lm hst hmk) hTl ht44
  ·simpa using hOn
  ·intro o ho
   rcases B3.1 ho with rfl|ho
   ·dsimp only;rw [Tf];rfl
   dsimp only;rw [←Ax];exact Aj (hDo o ho)
  dsimp only
  rw [AEq hmk,hCd,hTd]
  rfl
 have hke:k=l.length:=by simp at ht28;omega
 subst hke
 have hm2:=s8 hnf
 refine K.lgE ?_;refine Il ?_;refine Z15 ?_;refine Z10 ?_;exact A9 (B1 A8 A8) ⟨by rw [hm,hm2],rfl⟩ (hlow:=by simp only [Tc,B3,E5,or_false];rintro y (rfl|rfl);exact Co;simp)

/-! slices.Backward of moves. -/
theorem AQ6 (l0:Nat) (ms:List Mov) (hml:ms.length≤1048576) (U:Nat→List AObj) (N:Nat→Prop) (Z:List AObj→Prop) (hlen:∀k,(U k).length=(U 0).length) (hll:l0<(U 0).length)
  (hlw:∀k,∀x∈U k,ObjLow (U 0).length x) (h0:N 0)
  (hy:∀k m X,k<ms.length→ms[ms.length-1-k]? = some m→N k→AYield Tryz.prog l0 [A3 ((ms.length-1-k:Nat):Int),Hs m] (U k++X) (fun b H'=>(b=true∧N (k+1)∧H'=U (k+1)++X)∨(b=false∧∃V,H'=V++X∧V.length=(U 0).length∧(∀x∈V,ObjLow (U 0).length x)∧Z V)))
  (hR:N ms.length→Z (U ms.length)):ACall Tryz.prog 129 [.yield l0,.ro [Eh ms]] (U 0) (fun _ H'=>Z H'):=by
 refine Ae [] [0,1] Tryz.func129 Tryz.ntmps129 (fun d=>?_)
 refine Z1 ?_
 refine A5 (h:=Q.sub64 (h2:=fun _=>by simp only [Ah];omega)) (hr:=?_)
 refine A5 ?_;refine A2 [0,1,3] ?_
 refine Bi (α:=Nat×Int) (fun s=>⟨19,A6 0 (.yield l0) (A6 1 (.ro [Eh ms]) (A6 3 (A3 s.2) (fun _=>.any))),U s.1,[],[],none⟩) (fun s=>s.1≤ms.length∧N s.1∧s.2=(ms.length:Int)-1-(s.1:Int)) (fun s=>ms.length-s.1) ((0,(ms.length:Int)-1)) ⟨Au _,h0,by simp⟩ (Bo (by simp)) rfl (fun s hs=>?_)
 obtain ⟨x,i⟩:=s
 obtain ⟨hx,hN,hi⟩:=hs
 dsimp only at hx hN hi ⊢
 refine Z7 ?_;refine A2 [0,1,3,8] ?_
 refine A4 (fun ht8=>?_) (fun ht8=>?_)
 ·have hlt:x<ms.length:=by simp at ht8;omega
  have hlt2:ms.length-1-x<ms.length:=by omega
  have hi2:i=((ms.length-1-x:Nat):Int):=by omega
  subst hi2
  refine Tg ?_;refine Z23 ?_
  refine A5 (h:=Ag (ms.length-1-x) (Hs ms[ms.length-1-x]) (fun _=>B7 hlt2)) (hr:=?_)
  refine A5 ?_
  refine R.yield (l:=l0) (args:=[A3 ((ms.length-1-x:Nat):Int),Hs ms[ms.length-1-x]]) (hy x ms[ms.length-1-x] _ hlt (Ab hlt2) hN) ?_
  intro b V O hV hb
  have hVO:O=[]∧((b=true∧N (x+1)∧V=U (x+1))∨(b=false∧V.length=(U 0).length∧(∀y∈V,ObjLow (U 0).length y)∧Z V)):=by
   rcases hb with ⟨h1,h2,h3⟩|⟨h1,V',h2,h3,h4,h5⟩
   ·have h6:=J0 h3 (by rw [hV,hlen x,hlen (x+1)])
    exact ⟨h6.2,.inl ⟨h1,h2,h6.1⟩⟩
   obtain ⟨rfl,rfl⟩:=J0 h2 (by rw [hV,hlen x,h3])
   exact ⟨rfl,.inr ⟨h1,h3,h4,h5⟩⟩
  obtain ⟨rfl,hVO⟩:=hVO
  have hVl:V.length=(U 0).length:=by rw [hV,hlen x]
  have hVw:∀y∈V,ObjLow (U 0).length y:=by
   rcases hVO with ⟨_,_,rfl⟩|⟨_,_,h,_⟩
   ·exact hlw _
   exact h
  refine ⟨fun _=>by rw [hVl];exact hVw,fun o ho=>(by cases ho),?_⟩
  refine A5 ?_;refine A2 [0,1,3,18] ?_
  refine A4 (fun ht18=>?_) (fun ht18=>?_)
  ·have hZ:Z V:=by
    rcases hVO with ⟨h1,_,_⟩|⟨_,_,_,h⟩
    ·rw [h1] at ht18;cases ht18
    exact h
   refine Fc ?_;refine Z26 ?_;exact A9 .nores (hp:=hZ)
  have hVn:N (x+1)∧V=U (x+1):=by
   rcases hVO with ⟨_,h2,h3⟩|⟨h1,_,_,_⟩
   ·exact ⟨h2,h3⟩
   rw [h1] at ht18;cases ht18
  obtain ⟨hN1,rfl⟩:=hVn
  refine im ?_;refine A2 [0,1,3] ?_
  refine Bt (x+1,((ms.length-1-x:Nat):Int)-1) ⟨hlt,hN1,by dsimp only;omega⟩ (by dsimp only;omega) ?_
  exact Dx rfl
 have hxe:x=ms.length:=by simp at ht8;omega
 refine Z52 ?_;refine K.lpE ?_;exact F4 .nores (hp:=by rw [hxe];exact hR (hxe ▸ hN))

theorem c81 (l:List Mov) (Hp:List AObj):AFun Tryz.prog 81 [Eh l] Hp (.fn (.func 129) [] [.ro [Eh l]]):=by
 refine Ae [.tmp 2] [0] Tryz.func81 Tryz.ntmps81 (fun d=>?_)
 refine Z92 ?_;refine pz ?_;exact AN8

/-! fuse.Back: the trees of all columns ahead. -/
def Su:Mov:=⟨0,[],[],[],[]⟩
def P0 (c:List Col) (ms:List Mov) (i:Nat) (t:List Expr):List Expr×Int:=Br (colsAt c ms (i+1)) t (ms.getD i Su).back
def O0 (take:List Str) (was t:List Expr) (d:List Col) (x:Col):Expr:=if 0≤Jp x.name take then was.getD (Jp x.name take).toNat Av else t.getD (Ay x.name d).toNat Av
def I7 (c:List Col) (take:List Str) (was t:List Expr) (d:List Col):List Expr:=c.map (O0 take was t d)
def O1 (c:List Col) (ms:List Mov):Nat→List Expr→List Expr×Int
 | 0,t=>(t,0)
 | i+1,t=>if (P0 c ms i t).2 != 0 then ([],(P0 c ms i t).2) else O1 c ms i (I7 (colsAt c ms i) (ms.getD i Su).take (P0 c ms i t).1 t (colsAt c ms (i+1)))
def Gx (c:List Col) (l:List Mov):List Expr×Int:=if (Bn c l).2 != 0 then ([],1) else O1 c l l.length (Ht (colsAt c l l.length))
def Ci (c:List Col) (ms:List Mov):Nat→List Expr
 | 0=>Ht (colsAt c ms ms.length)
 | k+1=>I7 (colsAt c ms (ms.length-1-k)) (ms.getD (ms.length-1-k) Su).take (P0 c ms (ms.length-1-k) (Ci c ms k)).1 (Ci c ms k) (colsAt c ms (ms.length-1-k+1))
theorem AI4 {c:List Col} {l:List Mov} (h:((Bn c l).2 != 0)=true):Gx c l=([],1):=if_pos h
theorem Qp {c:List Col} {l:List Mov} (h:((Bn c l).2 != 0)=false):Gx c l=O1 c l l.length (Ht (colsAt c l l.length)):=if_neg (by rw [h];simp)
theorem vo {l:List Expr} {n:Nat}:l.getD n Av∈l∨l.getD n Av=Av:=by
 rw [Bv]
 cases h:l[n]? with
 | none=>exact .inr rfl
 | some e=>exact .inl (Aw h)
theorem vp {take:List Str} {was t:List Expr} {d:List Col} {x:Col}:O0 take was t d x∈was∨O0 take was t d x∈t∨O0 take was t d x=Av:=by
 unfold O0
 split
 ·rcases vo (l:=was) (n:=(Jp x.name take).toNat) with h|h
  ·exact .inl h
  exact .inr (.inr h)
 rcases vo (l:=t) (n:=(Ay x.name d).toNat) with h|h
 ·exact .inr (.inl h)
 exact .inr (.inr h)
theorem nf {c d:List Col} {take:List Str} {was t:List Expr} (hw:TOk was) (ht:TOk t):TOk (I7 c take was t d):=by
 have h0:okE 61 Av:=⟨by simp [Av,Expr.text],by simp [Av,Expr.kids],fun z hz=>by simp [Av,Expr.kids] at hz⟩
 refine ⟨fun e he=>?_,fun e he=>?_⟩<;>obtain ⟨x,_,rfl⟩:=C2.1 he<;>rcases vp (take:=take) (was:=was) (t:=t) (d:=d) (x:=x) with h|h|h
 ·exact hw.ok _ h
 ·exact ht.ok _ h
 ·rw [h];exact h0
 ·exact hw.rng _ h
 ·exact ht.rng _ h
 rw [h];rfl
/-- Where the way back stands behind k moves. -/
structure BackAt (c:List Col) (ms:List Mov) (k:Nat):Prop where
 eq:O1 c ms ms.length (Ht (colsAt c ms ms.length))=O1 c ms (ms.length-k) (Ci c ms k)
 ok:TOk (Ci c ms k)
 len:(Ci c ms k).length=(colsAt c ms (ms.length-k)).length
theorem BackAt.zero {c:List Col} {ms:List Mov} (hc:OkCols (colsAt c ms ms.length)):BackAt c ms 0:=⟨rfl,jq hc,by simp [Ci,Ht]⟩
theorem BackAt.err {c:List Col} {ms:List Mov} {k:Nat} (h:BackAt c ms k) (hk:k<ms.length) (he:((P0 c ms (ms.length-1-k) (Ci c ms k)).2 != 0)=true):O1 c ms ms.length (Ht (colsAt c ms ms.length))=([],(P0 c ms (ms.length-1-k) (Ci c ms k)).2):=by
 rw [h.eq,show ms.length-k=ms.length-1-k+1 by omega,O1,if_pos he]
theorem BackAt.next {c:List Col} {ms:List Mov} {k:Nat} (h:BackAt c ms k) (hk:k<ms.length) (hm:OkMov (ms.getD (ms.length-1-k) Su)) (he:((P0 c ms (ms.length-1-k) (Ci c ms k)).2 != 0)=false):BackAt c ms (k+1):=by
 refine ⟨?_,?_,?_⟩
 ·rw [h.eq,show ms.length-k=ms.length-1-k+1 by omega,O1,if_neg (by rw [he];simp),show ms.length-(k+1)=ms.length-1-k by omega]
  rfl
 ·exact nf (Rd h.ok _ hm.back.ok hm.back.rng (bne_eq_false_iff_eq.1 he)) h.ok
 rw [Ci,I7,Ah,show ms.length-(k+1)=ms.length-1-k by omega]
theorem BackAt.fin {c:List Col} {ms:List Mov} (h:BackAt c ms ms.length):O1 c ms ms.length (Ht (colsAt c ms ms.length))=(Ci c ms ms.length,0):=by
 have:=h.eq
 rw [Qy] at this
 exact this
theorem AEr {v:Str} {l:List Str} (h:0≤Jp v l):∃j:Nat,Jp v l=j∧j<l.length:=by
 unfold Jp at h ⊢
 cases hf:l.findIdx? (·==v) with
 | none=>rw [hf] at h;exact absurd h (by decide)
 | some i=>exact ⟨i,rfl,(N4.1 hf).1⟩
theorem AI5 {nm:Str} {c:List Col} {y:Col} (h:y∈c) (hn:y.name=nm):∃j:Nat,Ay nm c=j∧j<c.length:=by
 unfold Ay
 cases hf:c.findIdx? (fun y=>y.name==nm) with
 | none =>
  rw [S5] at hf
  have:=hf y h
  rw [hn] at this
  simp at this
 | some i=>exact ⟨i,rfl,(N4.1 hf).1⟩
/-- A column that is not taken is there behind the move. -/
theorem AQ7 {c:List Col} {m:Mov} {y:Col} (ht:(Bp c m).2=0) (hy:y∈c) (hn:¬0≤Jp y.name m.take):∃j:Nat,Ay y.name (Bp c m).1=j∧j<(Bp c m).1.length:=by
 refine AI5 (y:=y) ?_ rfl
 rw [(Kv ht).1]
 refine T3 _ ?_
 unfold Dg
 rw [O3]
 refine ⟨hy,?_⟩
 rw [←Xe,decide_eq_false hn]
 rfl
theorem ng {c d:List Col} {take:List Str} {was t:List Expr} {z:Nat} (h:z<c.length):(I7 c take was t d).take (z+1)=(I7 c take was t d).take z++[O0 take was t d c[z]]:=by
 have hl:z<(I7 c take was t d).length:=by rw [I7,Ah];exact h
 rw [J4 hl]
 simp [I7]
theorem nh {n k:Nat} {o:Bool} {l:List Expr}:∀z∈[AV.slice o k (l.map Aa)],Low n z:=fun z hz=>by rw [B9.1 hz];exact Co
theorem AQ8 {l:List Expr} {j:Nat} (h:j<l.length):(l.map Aa)[j]? = some (Aa (l.getD j Av)):=by
 rw [C5,Ab h,Bv,Ab h];rfl
theorem c35 (c:List Col) (hc:OkCols c) (hc2:c.length≤1000000) (l:List Mov) (h:OkMovs l) (Hp:List AObj):AFun Tryz.prog 35 [Am c,Eh l] Hp (.tup [C4 (Gx c l).1,A3 (Gx c l).2]):=by
 refine Ae [.cell 4 25,.cell 5 38] [0,1] Tryz.func35 Tryz.ntmps35 (fun d=>?_)
 refine xk ?_;refine A2 [0,1,4,5] ?_;refine ABv ?_;refine Rf ?_;refine A2 [1,4,5,6,7] ?_;refine Z7 ?_;refine A2 [1,4,5,6,24] ?_
 refine A4 (fun ht24=>?_) (fun ht24=>?_)
 ·have hm:=AI4 ht24
  refine xe ?_;refine L1 0 6 ?_;refine xh ?_;exact AKg
 have hm:=Qp ht24
 obtain ⟨hmay,hst,hss⟩:=Ee ht24
 have hmvo:=H1 hmay
 have hcn:=E4 hc (fun m hm=>h.each m hm) l.length
 have hlen:=h.len
 have hol:((Cd c l l.length).map Am).length=l.length+1:=by rw [Ah,I6]
 rw [hss]
 refine Y6 ?_
 refine A5 (h:=Ag (l.length) (Am (colsAt c l l.length)) (fun _=>ck (Gw (Al _)))) (hr:=?_)
 refine A5 ?_;refine A7 Tryz.call74 (c74 (colsAt c l l.length) hcn.len _) ?_;refine Z9 ?_;refine A2 [1,4,5,6,8] ?_;refine Z43 ?_
 refine Jx (fun hlow=>?_)
 refine A5 ?_;refine A7 Tryz.call81 (c81 l _) ?_;refine A2 [4,5,6,8,33] ?_;refine K1 ?_
 refine L2 (m:=4) Tryz.call129 (fun FR as' bd' hFR has hbd=>?_)
 have hFRl:∀s,Low (Hp.length+6) (FR s):=by
  intro s
  rw [hFR]
  refine Lz ?_
  revert s
  repeat (first|exact Bb|refine Ba (by first|(simp [oid,or_imp,forall_and];done)|(simp [oid,or_imp,forall_and];exact ⟨fun m _ a _=>Ak _ a,fun m _ a _=>Ak _ a⟩)|(simp [oid,or_imp,forall_and]<;>omega)) ?_)
 have hOl:∀{e:Int} {t:List Expr} {lp:AObj},ObjLow (Hp.length+6) lp→∀x∈Hp++[AObj.cells 25 [AV.nil],AObj.cells 38 [A3 e],AObj.cells 41 [Gq (Cd c l l.length)],AObj.cells 25 [C4 (t)],AObj.defs,lp],ObjLow (Hp.length+6) x:=by
  intro e t lp hlp x hx
  refine Id (fun x hx=>L3 (by omega) (hlow x hx)) (fun x hx=>?_) x hx
  simp only [B3,E5,or_false] at hx
  rcases hx with rfl|rfl|rfl|rfl|rfl|rfl
  ·intro y hy;rw [B9.1 hy];simp
  ·intro y hy;rw [B9.1 hy];simp
  ·intro y hy;rw [B9.1 hy];exact Ft
  ·intro y hy;rw [B9.1 hy];exact Co
  ·trivial
  exact hlp
 refine ⟨_,AQ6 (oid Hp.length 5) l h.len (fun k=>Hp++[AObj.cells 25 [AV.nil],AObj.cells 38 [A3 0],AObj.cells 41 [Gq (Cd c l l.length)],AObj.cells 25 [C4 (Ci c l k)],AObj.defs,AObj.loop LoopState.ready none FR 91 #[34,35] as' bd' (oid Hp.length 4)]) (BackAt c l) (fun V=>(∃t,V=Hp++[AObj.cells 25 [AV.nil],AObj.cells 38 [A3 0],AObj.cells 41 [Gq (Cd c l l.length)],AObj.cells 25 [C4 (t)],AObj.defs,AObj.loop LoopState.ready none FR 91 #[34,35] as' bd' (oid Hp.length 4)]∧Gx c l=(t,0))∨(∃(e:Int) (t:List Expr),V=Hp++[AObj.cells 25 [AV.nil],AObj.cells 38 [A3 e],AObj.cells 41 [Gq (Cd c l l.length)],AObj.cells 25 [C4 (t)],AObj.defs,AObj.loop LoopState.done (some Code.ret) FR 91 #[34,35] as' bd' (oid Hp.length 4)]∧Gx c l=([],e))) (fun k=>by simp) (by simp [oid]) (fun k=>(fun x hx=>by rw [Ai];exact hOl (lp:=AObj.loop LoopState.ready none FR 91 #[34,35] as' bd' (oid Hp.length 4)) (by exact ⟨hFRl,by simp [oid]⟩) x hx)) (.zero hcn) (fun k m X hk hm hN=>?_) (fun hN=>.inl ⟨_,rfl,by rw [Qp (by simpa using ht24),hN.fin]⟩),?_⟩
 ·generalize hV:Hp++[AObj.cells 25 [AV.nil],AObj.cells 38 [A3 0],AObj.cells 41 [Gq (Cd c l l.length)],AObj.cells 25 [C4 (Ci c l k)],AObj.defs,AObj.loop LoopState.ready none FR 91 #[34,35] as' bd' (oid Hp.length 4)]++X=V
  have hL:V[oid Hp.length 5]? = some (AObj.loop LoopState.ready none FR 91 #[34,35] as' bd' (oid Hp.length 4)):=by rw [←hV,Ax,Ar];rfl
  have hA0:V[oid Hp.length 0]? = some (AObj.cells 25 [AV.nil]):=by rw [←hV,Ax,Ar];rfl
  have hB0:V[oid Hp.length 1]? = some (AObj.cells 38 [A3 0]):=by rw [←hV,Ax,Ar];rfl
  have hS0:V[oid Hp.length 2]? = some (AObj.cells 41 [Gq (Cd c l l.length)]):=by rw [←hV,Ax,Ar];rfl
  have hZ0:V[oid Hp.length 3]? = some (AObj.cells 25 [C4 (Ci c l k)]):=by rw [←hV,Ax,Ar];rfl
  refine J8 (pd:=none) (fr:=FR) (sz:=91) (ps:=#[34,35]) (df:=oid Hp.length 4) (asg:=as') (bd:=bd') hL rfl (by decide) (fun d=>?_)
  subst hFR has hbd
  refine Fo [4,5,6,8,34,35] ?_
  have hgm:l.getD (l.length-1-k) Su=m:=by rw [Bv,hm];rfl
  have hmo:=h.each m (Aw hm)
  have hmv:=hmvo m (Aw hm)
  have htn:=Lm hst hm
  have hcn:=Eu (c:=c) hm
  have hCo:=E4 hc (fun m hm=>h.each m hm) (l.length-1-k+1)
  have hCi:=E4 hc (fun m hm=>h.each m hm) (l.length-1-k)
  have herr:=hN.err hk
  have hnxt:=hN.next hk (by rw [hgm];exact hmo)
  have htb:Ci c l (k+1)=I7 (colsAt c l (l.length-1-k)) m.take (P0 c l (l.length-1-k) (Ci c l k)).1 (Ci c l k) (colsAt c l (l.length-1-k+1)):=by rw [Ci,hgm]
  have hwe:P0 c l (l.length-1-k) (Ci c l k)=Br (colsAt c l (l.length-1-k+1)) (Ci c l k) m.back:=by unfold P0;rw [hgm]
  rw [hwe] at herr hnxt htb
  have htl:(Ci c l k).length=(colsAt c l (l.length-1-k+1)).length:=by rw [hN.len,show l.length-k=l.length-1-k+1 by omega]
  have hik:l.length-1-k<l.length:=by omega
  generalize l.length-1-k=i at *
  refine Z2 ?_;refine A2 [4,5,6,8,9,35] ?_;refine AC8 ?_;refine A2 [4,5,6,8,9,10] ?_
  refine ⟨rfl,none,hL,?_⟩
  generalize hbz:(AObj.loop LoopState.busy _ _ _ _ _ _ _)=bz
  have hA:(V.set (oid Hp.length 5) bz)[oid Hp.length 0]? = some (AObj.cells 25 [AV.nil]):=by rw [Bk (Bf (by decide))];exact hA0
  have hB:(V.set (oid Hp.length 5) bz)[oid Hp.length 1]? = some (AObj.cells 38 [A3 0]):=by rw [Bk (Bf (by decide))];exact hB0
  have hS:(V.set (oid Hp.length 5) bz)[oid Hp.length 2]? = some (AObj.cells 41 [Gq (Cd c l l.length)]):=by rw [Bk (Bf (by decide))];exact hS0
  have hZ:(V.set (oid Hp.length 5) bz)[oid Hp.length 3]? = some (AObj.cells 25 [C4 (Ci c l k)]):=by rw [Bk (Bf (by decide))];exact hZ0
  refine K1 ?_;refine Ea [0,1,0,0,8,28,60,0,255,511,1023,1023,2047,8191] 13 An (by kernel_rfl) ?_;refine Z8 ?_
  refine Aq (h:=Bd hS) (hr:=?_)
  refine Z8 ?_
  refine Aq (h:=Ag ((i+1)) (Am (colsAt c l (i+1))) (fun _=>ck (Gw (by omega)))) (hr:=?_)
  refine Aq ?_
  refine Aq (h:=Bd hZ) (hr:=?_)
  refine Du Tryz.call75 (c75 m.back hmo.back.len hmo.back.ok (colsAt c l (i+1)) hCo (Ci c l k) (by have:=hCo.len;omega) hN.ok.ok _) ?_
  refine Z8 ?_;refine Z89 ?_;refine A5 ?_;refine A2 [4,5,6,8,9,10,11,12] ?_;refine Z7 ?_;refine A2 [4,5,6,8,9,10,11,12,49] ?_
  refine A4 (fun ht49=>?_) (fun ht49=>?_)
  ·have herr:=herr ht49
   refine Z2 ?_
   refine Cx jS hA ?_ ?_
   ·simp
   refine Cx jS (Zx hB (Bf (by decide))) ?_ ?_
   ·simp
   refine xm ?_
   subst hbz
   refine xz ?_
   refine .inr ⟨rfl,Hp++[AObj.cells 25 [AV.nil],AObj.cells 38 [A3 (Br (colsAt c l (i+1)) (Ci c l k) m.back).2],AObj.cells 41 [Gq (Cd c l l.length)],AObj.cells 25 [C4 (Ci c l k)],AObj.defs,_],?_,by simp,(fun x hx=>by rw [Ai];exact hOl (lp:=_) (by exact ⟨hFRl,by simp [oid]⟩) x hx),.inr ⟨_,_,rfl,by rw [Qp (by simpa using ht24)];exact herr⟩⟩
   subst hV
   simp only [Ax,Cp,Dh,D9,List.set_cons_succ,List.set_cons_zero]
  have hB1:=hnxt ht49
  have hwl:(Br (colsAt c l (i+1)) (Ci c l k) m.back).1.length=m.take.length:=(Mh m.back (by simpa using ht49)).trans (Fg (It hmv)).2
  refine Oi ?_;refine A2 [6,8,9,10,11,13] ?_;refine Z43 ?_;refine Na 13 6 ?_
  refine A5 (h:=Bd hS) (hr:=?_)
  refine A5 ?_
  refine A5 (h:=Ag (i) (Am (colsAt c l i)) (fun _=>ck (Gw (by omega)))) (hr:=?_)
  refine Z12 ?_;refine AH0 ?_
  refine Bi (α:=Nat) (fun z=>⟨91,A6 6 (.ptr (oid Hp.length 2) 0) (A6 8 (.ptr (oid Hp.length 3) 0) (A6 9 (A3 (i:Nat)) (A6 10 (.ptr (oid V.length 0) 0) (A6 11 (C4 (Br (colsAt c l (i+1)) (Ci c l k) m.back).1) (A6 13 (.slice true 6 (((I7 (colsAt c l i) m.take (Br (colsAt c l (i+1)) (Ci c l k) m.back).1 (Ci c l k) (colsAt c l (i+1))).take z).map Aa)) (A6 54 (Am (colsAt c l i)) (A6 55 (A3 ((colsAt c l i).length:Nat)) (A6 56 (A3 (z:Nat)) (fun _=>.any))))))))),(V.set (oid Hp.length 5) bz),[AObj.cells 80 (Kt m)],[],some _⟩) (fun z=>z≤(colsAt c l i).length) (fun z=>(colsAt c l i).length-z) (0) (Au _) (Bo (by simp<;>rfl)) rfl (fun z hz=>?_)
  refine Z2 ?_;refine A2 [6,8,9,10,11,13,54,55,56,57] ?_
  refine Ck (fun ht57=>?_) (fun ht57=>?_)
  ·have hz2:z<(colsAt c l i).length:=by simpa using ht57
   have hnl:((I7 (colsAt c l i) m.take (Br (colsAt c l (i+1)) (Ci c l k) m.back).1 (Ci c l k) (colsAt c l (i+1))).take z).length≤z:=List.length_take_le _ _
   have hcl:=hCi.len
   refine Z73 ?_
   refine A5 (h:=Ag (z) (Cc (colsAt c l i)[z]) (fun _=>B7 hz2)) (hr:=?_)
   refine Z99 ?_;refine A2 [6,8,9,10,11,13,15,54,55,56] ?_;refine Z79 ?_;refine A7 Tryz.call82 (c82 m.take (colsAt c l i)[z].name hmo.takes _) ?_;refine A5 ?_;refine A2 [6,8,9,10,11,13,15,16,54,55,56] ?_;refine Z1 ?_;refine A2 [6,8,9,10,11,13,15,16,54,55,56,66] ?_
   refine A4 (fun ht66=>?_) (fun ht66=>?_)
   ·obtain ⟨j,hj,hjl⟩:=AEr (by simpa using ht66)
    have hpk:O0 m.take (Br (colsAt c l (i+1)) (Ci c l k) m.back).1 (Ci c l k) (colsAt c l (i+1)) (colsAt c l i)[z]=(Br (colsAt c l (i+1)) (Ci c l k) m.back).1.getD j Av:=by unfold O0;rw [if_pos (by rw [hj];omega),hj];rfl
    refine F0 ?_;refine R.moveT ?_;refine Z0 ?_
    refine A5 (h:=Ag (j) (Aa ((Br (colsAt c l (i+1)) (Ci c l k) m.back).1.getD j Av)) (fun _=>AQ8 (by omega))) (hr:=?_)
    refine Z58 ?_
    refine E6 jU Tryz.type27 ?_ ?_ ?_
    ·simp only [Ah,Ai,B0,Bu,Tryz.t27];omega
    ·simp only [Ah,Ai,B0,Bu,Tryz.t27];omega
    refine Oj ?_;refine AH0 ?_;refine Z52 ?_;refine AC9 ?_;refine Z21 ?_;refine AOh ?_
    rw [ng hz2,hpk,Bj]
    simp only [Bm,Dc,Ap]
    exact D0 (own:=[AObj.cells 80 (Kt m)]) (fun _=>.refl _) (by repeat (first|exact Bb|refine Ba (by first|(simp [oid,or_imp,forall_and];done)|exact Co|exact Mg|exact Oy|exact D5|(simp [oid,←hV];done)|(simp [oid,←hV];omega)) ?_)) (by intro x hx;rw [B9.1 hx];exact Ji) (by simp)
   have hjn:¬0≤Jp (colsAt c l i)[z].name m.take:=by simpa using ht66
   obtain ⟨j,hj,hjl⟩:=AQ7 htn (Bl hz2) hjn
   rw [←hcn] at hj hjl
   have hpk:O0 m.take (Br (colsAt c l (i+1)) (Ci c l k) m.back).1 (Ci c l k) (colsAt c l (i+1)) (colsAt c l i)[z]=(Ci c l k).getD j Av:=by unfold O0;rw [if_neg hjn,hj];rfl
   refine Z3 ?_;refine Se [0,0,0,0,8,28,60,0,128,508,1022,2046,4094,8191,16383] [] [.s [13,74] none [] [],.q 12 [] []] (fun _=>(V.set (oid Hp.length 5) bz)) (fun _=>[AObj.cells 80 (Kt m),AObj.cells 69 [Ac (colsAt c l i)[z].name,A3 (colsAt c l i)[z].kind]]) An (by kernel_rfl) rfl rfl (fun _=>rfl) ?_;refine Y.moveT ?_
   apply Y.q
   ·intro B hT hF
    refine Aq (h:=Bd hZ) (hr:=?_)
    refine Aq (h:=Bd hS) (hr:=?_)
    refine Z8 ?_
    refine Aq (h:=Ag ((i+1)) (Am (colsAt c l (i+1))) (fun _=>ck (Gw (by omega)))) (hr:=?_)
    refine Z35 ?_;refine Du Tryz.call60 (c60 (colsAt c l (i+1)) hCo (colsAt c l i)[z].name _) ?_
    refine Aq (h:=Ag (j) (Aa ((Ci c l k).getD j Av)) (fun _=>AQ8 (by omega))) (hr:=?_)
    exact pv
   case hTF=>decide
   refine Ej (tn:=[])  ?_
   refine E6 jU Tryz.type27 ?_ ?_ ?_
   ·simp only [Ah,Ai,B0,Bu,Tryz.t27];omega
   ·simp only [Ah,Ai,B0,Bu,Tryz.t27];omega
   refine Oj ?_;refine AH0 ?_;refine Q3 ?_;refine AOh ?_
   rw [ng hz2,hpk,Bj]
   simp only [Bm,Dc,Ap]
   exact D0 (own:=[AObj.cells 80 (Kt m)]) (fun _=>.refl _) (by repeat (first|exact Bb|refine Ba (by first|(simp [oid,or_imp,forall_and];done)|exact Co|exact Mg|exact Oy|exact D5|(simp [oid,←hV];done)|(simp [oid,←hV];omega)) ?_)) (by intro x hx;rw [B9.1 hx];exact Ji) (by simp)
  have hze:(colsAt c l i).length≤z:=by simpa using ht57
  refine Z27 ?_;refine Z50 ?_
  refine Cx jS hZ ?_ ?_
  ·exact nh
  refine Z91 ?_
  subst hbz
  refine ACi ?_
  refine .inl ⟨rfl,hB1,?_⟩
  subst hV
  simp only [Ax,Cp,Dh,D9,List.set_cons_succ,List.set_cons_zero]
  rw [htb,E9 (by rw [I7,Ah];exact hze)]
 rintro r H' (⟨t,rfl,hrun⟩|⟨e,t,rfl,hrun⟩)
 ·refine ⟨Hp,_,_,_,rfl,rfl,fun h=>h,?_,rfl,by simp,?_⟩
  ·intro o ho
   have:o=oid Hp.length 4:=by simpa using ho
   subst this
   rw [Ar]
   rfl
  refine xt ?_;refine xh ?_;exact A9 (B1 (Dw jA) (Dw jA)) ⟨by rw [hrun],rfl⟩ (hlow:=by simp only [Tc,B3,E5,or_false];rintro y (rfl|rfl);exact Co;simp)
 refine ⟨Hp,_,_,_,rfl,rfl,fun h=>h,?_,rfl,by simp,?_⟩
 ·intro o ho
  have:o=oid Hp.length 4:=by simpa using ho
  subst this
  rw [Ar]
  rfl
 refine Uz 0 6 ?_;exact ANo

/-- sound.Check. -/
def H8 (c:List Col) (l:List Mov):Int×Int:=if L5 c l then (((C7 c l).1.length-1:Nat),(C7 c l).2) else (0,1)
theorem AI6 {c:List Col} {ms:List Mov} {k:Nat} {m:Mov} (hk:ms[k]? = some m) (h:NS c ms k) (he:(Bp (colsAt c ms k) m).2≠0):(C7 c ms).1.length=k+1:=by
 unfold NS at h
 rw [h,Mf hk,C7,if_pos (by simpa using he)]
 have:=I6 c ms k
 simp [this]
theorem zr {c:List Col} {l:List Mov} (h:L5 c l=false):H8 c l=(0,1):=if_neg (by rw [h];simp)
theorem zt {c:List Col} {l:List Mov} (h:L5 c l=true) (hr:C7 c l=(Cd c l l.length,0)):H8 c l=((l.length:Int),0):=by
 unfold H8
 rw [if_pos h,hr]
 simp only [I6]
 rfl
theorem sc {c:List Col} {l:List Mov} {n:Nat} {e:Int} (h:L5 c l=true) (h1:(C7 c l).1.length=n+1) (h2:(C7 c l).2=e):H8 c l=((n:Int),e):=by
 unfold H8
 rw [if_pos h,h1,h2]
 rfl
theorem c34 (c:List Col) (hc:OkCols c) (hc2:c.length≤1000000) (l:List Mov) (h:OkMovs l) (Hp:List AObj):AFun Tryz.prog 34 [Am c,Eh l] Hp (.tup [A3 (H8 c l).1,A3 (H8 c l).2]):=by
 refine Ae [.cell 4 3,.cell 5 38] [0,1] Tryz.func34 Tryz.ntmps34 (fun d=>?_)
 refine xk ?_;refine A2 [0,1,4,5] ?_;refine Z7 ?_;refine A7 Tryz.call79 (c79 c hc l h _) ?_;refine A5 ?_;refine A2 [0,1,4,5,12] ?_
 refine A4 (fun ht12=>?_) (fun ht12=>?_)
 ·have hm:=zr (by simpa using ht12)
  refine xe ?_;refine xh ?_;exact AKg
 have hmay:L5 c l=true:=by simpa using ht12
 obtain ⟨hmv,hl8⟩:=AEj hmay h
 refine Z3 ?_;refine bo ?_;refine A2 [0,1,4,5,6] ?_;refine Z43 ?_
 refine Jx (fun hlow=>?_)
 refine Z0 ?_;refine R.callO Tryz.call80 (c80 c l _) ?_
 rintro _ _ ⟨rfl,rfl⟩
 refine ⟨[.cells 30 [Am c]],by simp,?_⟩
 rw [show oid (Hp++[AObj.cells 3 [A3 0],AObj.cells 38 [A3 0],AObj.cells 3 [A3 0]]).length 0=oid Hp.length 3 by simp [oid]]
 simp only [Dh,D9]
 refine A2 [4,5,6,15] ?_;refine K1 ?_
 refine L2 (m:=4) Tryz.call127 (fun FR as' bd' hFR has hbd=>?_)
 have hFRl:∀s,Low (Hp.length+6) (FR s):=by
  intro s
  rw [hFR]
  refine Lz ?_
  revert s
  repeat (first|exact Bb|refine Ba (by first|(simp [oid,or_imp,forall_and];done)|(simp [oid,or_imp,forall_and];exact ⟨fun m _ a _=>Ak _ a,fun m _ a _=>Ak _ a⟩)|(simp [oid,or_imp,forall_and]<;>omega)) ?_)
 have hOl:∀{n e k:Int} {q:List Col} {lp:AObj},ObjLow (Hp.length+6) lp→∀x∈Hp++[AObj.cells 3 [A3 n],AObj.cells 38 [A3 e],AObj.cells 3 [A3 k],AObj.cells 30 [Am (q)],AObj.defs,lp],ObjLow (Hp.length+6) x:=by
  intro n e k q lp hlp x hx
  refine Id (fun x hx=>L3 (by omega) (hlow x hx)) (fun x hx=>?_) x hx
  simp only [B3,E5,or_false] at hx
  rcases hx with rfl|rfl|rfl|rfl|rfl|rfl
  ·intro y hy;rw [B9.1 hy];simp
  ·intro y hy;rw [B9.1 hy];simp
  ·intro y hy;rw [B9.1 hy];simp
  ·intro y hy;rw [B9.1 hy];exact D5
  ·trivial
  exact hlp
 refine ⟨_,AQ5 (oid Hp.length 5) (oid Hp.length 3) l hmv (by omega) (colsAt c l) (E4 hc fun m hm=>h.each m hm) (fun k=>Hp++[AObj.cells 3 [A3 0],AObj.cells 38 [A3 0],AObj.cells 3 [A3 (k:Int)],AObj.cells 30 [Am (colsAt c l k)],AObj.defs,AObj.loop LoopState.ready none FR 25 #[16,17] as' bd' (oid Hp.length 4)]) (fun k=>Hp++[AObj.cells 3 [A3 0],AObj.cells 38 [A3 0],AObj.cells 3 [A3 ((k+1:Nat):Int)],AObj.cells 30 [Am (colsAt c l k)],AObj.defs,AObj.loop LoopState.ready none FR 25 #[16,17] as' bd' (oid Hp.length 4)]) (NS c l) (fun V=>(∃(q:List Col),V=Hp++[AObj.cells 3 [A3 0],AObj.cells 38 [A3 0],AObj.cells 3 [A3 (l.length:Int)],AObj.cells 30 [Am (q)],AObj.defs,AObj.loop LoopState.ready none FR 25 #[16,17] as' bd' (oid Hp.length 4)]∧C7 c l=(Cd c l l.length,0))∨(∃(e:Int) (n:Nat) (q:List Col),V=Hp++[AObj.cells 3 [A3 (n:Int)],AObj.cells 38 [A3 e],AObj.cells 3 [A3 (n:Int)],AObj.cells 30 [Am (q)],AObj.defs,AObj.loop LoopState.done (some Code.ret) FR 25 #[16,17] as' bd' (oid Hp.length 4)]∧e≠0∧(C7 c l).2=e∧(C7 c l).1.length=n+1)) (fun k=>by simp) (fun k=>by simp) (by simp [oid]) (by simp [oid]) (fun k=>(fun x hx=>by rw [Ai];exact hOl (lp:=AObj.loop LoopState.ready none FR 25 #[16,17] as' bd' (oid Hp.length 4)) (by exact ⟨hFRl,by simp [oid]⟩) x hx)) (fun k=>(fun x hx=>by rw [Ai];exact hOl (lp:=AObj.loop LoopState.ready none FR 25 #[16,17] as' bd' (oid Hp.length 4)) (by exact ⟨hFRl,by simp [oid]⟩) x hx)) AM2 (fun k=>by rw [Ar];rfl) (fun k=>by rw [Ar];rfl) (fun k m hk he=>by rw [Cp];simp only [Eu hk];rfl) (fun k m X hk hN=>?_) (fun hN=>.inl ⟨_,rfl,ry hN⟩),?_⟩
 ·generalize hV:Hp++[AObj.cells 3 [A3 0],AObj.cells 38 [A3 0],AObj.cells 3 [A3 (k:Int)],AObj.cells 30 [Am (colsAt c l k)],AObj.defs,AObj.loop LoopState.ready none FR 25 #[16,17] as' bd' (oid Hp.length 4)]++X=V
  have hL:V[oid Hp.length 5]? = some (AObj.loop LoopState.ready none FR 25 #[16,17] as' bd' (oid Hp.length 4)):=by rw [←hV,Ax,Ar];rfl
  have hA0:V[oid Hp.length 2]? = some (AObj.cells 3 [A3 (k:Int)]):=by rw [←hV,Ax,Ar];rfl
  have hB0:V[oid Hp.length 0]? = some (AObj.cells 3 [A3 0]):=by rw [←hV,Ax,Ar];rfl
  have hC0:V[oid Hp.length 1]? = some (AObj.cells 38 [A3 0]):=by rw [←hV,Ax,Ar];rfl
  refine J8 (pd:=none) (fr:=FR) (sz:=25) (ps:=#[16,17]) (df:=oid Hp.length 4) (asg:=as') (bd:=bd') hL rfl (by decide) (fun d=>?_)
  subst hFR has hbd
  refine Fo [4,5,6,17] ?_;refine Z50 ?_;refine A2 [4,5,6,8] ?_
  refine ⟨rfl,none,hL,?_⟩
  generalize hbz:(AObj.loop LoopState.busy _ _ _ _ _ _ _)=bz
  have hA:(V.set (oid Hp.length 5) bz)[oid Hp.length 2]? = some (AObj.cells 3 [A3 (k:Int)]):=by rw [Bk (Bf (by decide))];exact hA0
  have hB:(V.set (oid Hp.length 5) bz)[oid Hp.length 0]? = some (AObj.cells 3 [A3 0]):=by rw [Bk (Bf (by decide))];exact hB0
  have hC:(V.set (oid Hp.length 5) bz)[oid Hp.length 1]? = some (AObj.cells 38 [A3 0]):=by rw [Bk (Bf (by decide))];exact hC0
  refine py ?_;refine A2 [4,5,6,8,19] ?_
  refine A4 (fun ht19=>?_) (fun ht19=>?_)
  ·have he:(Bp (colsAt c l k) m).2≠0:=by simpa using ht19
   refine F0 ?_
   refine A5 (h:=Bd hA) (hr:=?_)
   refine A5 ?_
   refine Cx jS hB ?_ ?_
   ·simp
   refine Cx jS (Zx hC (Bf (by decide))) ?_ ?_
   ·simp
   refine xm ?_
   subst hbz
   refine xz ?_
   refine .inl ⟨he,Hp++[AObj.cells 3 [A3 (k:Int)],AObj.cells 38 [A3 (Bp (colsAt c l k) m).2],AObj.cells 3 [A3 (k:Int)],AObj.cells 30 [Am (colsAt c l k)],AObj.defs,_],?_,by simp,(fun x hx=>by rw [Ai];exact hOl (lp:=_) (by exact ⟨hFRl,by simp [oid]⟩) x hx),.inr ⟨_,_,_,rfl,he,jo hk hN he,AI6 hk hN he⟩⟩
   subst hV
   simp only [Ax,Cp,Dh,D9,List.set_cons_succ,List.set_cons_zero]
  have he:(Bp (colsAt c l k) m).2=0:=by simpa using ht19
  refine Z3 ?_;refine Ih ?_
  refine A5 (h:=Bd hA) (hr:=?_)
  refine A5 (h:=Sa (h2:=fun _=>by have hkl:=(Ad.1 hk).1;omega)) (hr:=?_)
  refine Cx jS hA ?_ ?_
  ·simp
  refine Z91 ?_
  subst hbz
  refine ACi ?_
  refine .inr ⟨he,rfl,jn hk hN he,?_⟩
  subst hV
  simp only [Ax,Cp,Dh,D9,List.set_cons_succ,List.set_cons_zero]
  rfl
 rintro r H' (⟨q,rfl,hrun⟩|⟨e,n,q,rfl,hne,hrun,hlen⟩)
 ·refine ⟨Hp,_,_,_,rfl,rfl,fun h=>h,?_,rfl,by simp,?_⟩
  ·intro o ho
   have:o=oid Hp.length 4:=by simpa using ho
   subst this
   rw [Ar]
   rfl
  refine xt ?_;refine xh ?_;exact A9 (B1 (Dw jA) (Dw jA)) ⟨by rw [zt hmay hrun],rfl⟩
 refine ⟨Hp,_,_,_,rfl,rfl,fun h=>h,?_,rfl,by simp,?_⟩
 ·intro o ho
  have:o=oid Hp.length 4:=by simpa using ho
  subst this
  rw [Ar]
  rfl
 refine bn ?_;exact A9 (B1 (Dw jA) (Dw jA)) ⟨by rw [sc hmay hlen hrun],rfl⟩

end Go.SX.Nb
namespace Go.SX
variable [GI:GlobInv]
open Classical
section
variable {P:Program} {d:Nat} {st:St} {ty:TypeId} {pos:String} {aft:Array Edge} {gd:Option (Nat×Bool)}
/-- A variable of its own, not laid yet. -/
theorem AOp.allocP {t:TypeId} {z:Value} {k s:Nat} (hz:∀w,(zeroValue t).run P w=.ok z w) (hk:z.cells.size=k) (hs:s<st.sz):
  AOp P d ⟨some s,.alloc t,ty,pos,aft,gd⟩ st (·=st.set s (.cellp k)):=by
 subst hk
 intro G a w h Q'
 let G':Gh:={ G with tag:=fun b o=>if b=w.heap.size∧o<z.cells.size then .tail (.slot d s) else G.tag b o }
 have hfree:∀o,G.tag w.heap.size o=.free:=fun o=>J7 h.tags _ o (Al _)
 have hne:∀b o,G.tag b o≠.free→¬(b=w.heap.size∧o<z.cells.size):=fun b o hb hc=>by rw [hc.1] at hb;exact hb (hfree o)
 have hkeep:∀b o,G.tag b o≠.free→G'.tag b o=G.tag b o:=fun b o hb=>by simp only [G'];rw [if_neg (hne b o hb)]
 have hcell:∀b o,G.tag b o≠.free→(w.alloc (.cells z.cells t)).cell? ⟨b,o,none⟩=w.cell? ⟨b,o,none⟩:=fun b o hb=>by
  refine World.cell?_alloc_old _ _ _ ?_
  show b≠w.heap.size
  rintro rfl
  exact hb (hfree o)
 have T:Turn G w G' (w.alloc (.cells z.cells t)):=by
  refine ⟨fun b o hb=>⟨by rw [hkeep b o (by rw [hb];simp)];exact hb,hcell b o (by rw [hb];simp)⟩,fun b o L hb=>by rw [hkeep b o (by rw [hb];simp)];exact hb,fun b o i hb=>by rw [hkeep b o (by rw [hb];simp)];exact hb,Al _,fun o ho=>rfl,rfl,rfl,rfl,by simp,gr _ (fun b o hb=>.inl (by simp only [G'];rw [if_neg (by omega)])) (fun i hi=>.inl ⟨hi,rfl⟩)⟩
 have h1:StRel d G' st a (w.alloc (.cells z.cells t)):=by
  refine h.turn (U:=st.up) (O:=st.own) T ⟨fun i x hx=>T.objRel ?_ ?_ (h.heap.obj i x hx) (fun b hb=>?_),h.heap.n,h.heap.inj⟩ rfl h.defsAt ⟨fun b o hb=>?_,fun b o i hb=>?_,fun b o L hb=>?_,h.tags.globKeep T.old⟩ h.low
  ·rw [h.heap.n];exact (Ad.1 hx).1
  ·have:=(h.heap.obj i x hx).blt
   show (w.heap.push _)[G.blk i]? = _
   rw [Rm,if_neg (by omega)]
  ·have:=hb.lt
   show (w.heap.push _)[b]? = _
   rw [Rm,if_neg (by omega)]
  ·simp only [G'] at hb
   split at hb
   ·rename_i hc
    obtain ⟨rfl,hlt⟩:=hc
    exact ⟨z.cells[o],by rw [World.cell?_alloc_new];exact Ev hlt⟩
   rw [hcell b o hb]
   exact h.tags.ex b o hb
  ·simp only [G'] at hb
   split at hb
   ·cases hb
   rw [World.frozen?_alloc_old]
   ·exact h.tags.obj b o i hb
   show b≠w.heap.size
   rintro rfl
   rw [hfree] at hb;cases hb
  simp only [G'] at hb
  split at hb
  ·rename_i hc
   obtain ⟨rfl,hlt⟩:=hc
   exact World.frozen?_alloc_new _ _ _ _
  rw [World.frozen?_alloc_old]
  ·exact h.tags.tail b o L hb
  show b≠w.heap.size
  rintro rfl
  rw [hfree] at hb;cases hb
 have hrun:(execOp a.eval (⟨some s,.alloc t,ty,pos,aft,gd⟩:Oper)).run P w=.ok (.value (.pointer (some ⟨w.heap.size,0,none⟩))) (w.alloc (.cells z.cells t)):=by
  simp [execOp,Instr.alloc,hz,newVar,newRow]
 refine Dp (by intro c h;cases h) hrun ⟨G',_,h1.put (s:=s) (y:=.cellp z.cells.size) hs ?_,T.keep d,rfl,rfl,rfl,rfl⟩
 exact .cellp _ _ _ ⟨_,rfl,fun o ho=>by simp [G',ho]⟩

/-- It is laid: from now on nobody writes it. -/
theorem AOp.storeP {t:TypeId} {x:Operand} {r k:Nat} {y:AV} (hsz:∀w,(sizeOf t).run P w=.ok k w) (hf:st.fr r=.cellp k) (hx:st.ev x=y) (hk:y.cells.length=k) (hk0:0<k) (h1:y.cells.all AV.one=true):
  AOp P d ⟨none,.store t (.tmp r) x,ty,pos,aft,gd⟩ st (·=st.set r (.ro y.cells)):=by
 intro G a w h Q'
 have hone:∀c∈y.cells,c.one=true:=fun c hc=>B5.1 h1 c hc
 obtain ⟨hc,hcc⟩:=(hx ▸ h.eval x).cells hone
 have hsl:=h.slots r
 rw [hf] at hsl
 generalize hv:a.tmps.getD r undef=v at hsl
 cases hsl with
 | cellp l k b ho =>
  obtain ⟨L,hL,ht⟩:=ho
  injection hL with hL
  subst hL
  let us:=(a.eval x).cells.toList
  have hul:us.length=k:=by simp only [us,Array.length_toList];omega
  have huone:∀u∈us,u.oneCell'=true:=fun u hu=>by
   obtain ⟨j,hj⟩:=Cb hu
   have hj':(a.eval x).cells[j]? = some u:=by rw [←Um];exact hj
   have hlt:j<y.cells.length:=by rw [←hc];exact (P6.1 hj').1
   exact (hcc j _ u (Ab hlt) hj').one (hone _ (Bl hlt))
  have hrun0:=run_storeCells_cells (P:=P) b 0 us 0 w (fun j hj=>by
    obtain ⟨u,hu⟩:=h.tags.ex b j (by rw [ht j (by omega)];simp)
    simp only [Nat.add_zero,Bz];rw [hu];rfl) (fun j hj=>by simpa using h.tags.tail _ _ _ (ht j (by omega))) huone
  simp only [Nat.add_zero] at hrun0
  let W:=w.setCells b 0 us
  let G':Gh:={ G with tag:=fun b' o=>if b'=b∧o<k then .fix else G.tag b' o }
  have htag:∀b' o,G.tag b' o≠.tail (.slot d r)→G'.tag b' o=G.tag b' o:=fun b' o hb=>by
   simp only [G']
   rw [if_neg]
   rintro ⟨rfl,ho⟩
   exact hb (ht o ho)
  have hout:∀b' o,¬(b'=b∧o<k)→W.cell? ⟨b',o,none⟩=w.cell? ⟨b',o,none⟩:=fun b' o hn =>
   World.cell?_setCells_out _ us 0 w ⟨b',o,none⟩ (fun hb _=>by
    simp only at hb ⊢
    exact .inr (X6 fun h''=>hn ⟨hb,by omega⟩))
  have hcell:∀b' o,G.tag b' o≠.tail (.slot d r)→W.cell? ⟨b',o,none⟩=w.cell? ⟨b',o,none⟩:=fun b' o hb=>hout b' o (fun hn=>hb (by rw [hn.1];exact ht o hn.2))
  have hnb:∀i,i<G.n→G.blk i≠b:=P8 h.heap h.tags (ht 0 hk0)
  have hheap:∀b',b'≠b→W.heap[b']? = w.heap[b']? := fun b' hb=>F7 _ _ _ _ _ hb
  have hsize:W.heap.size=w.heap.size:=F6 _ _ _ _
  have hstill:Still G w G' W:=O9 (fun b' hb'=>hheap b' (fun e=>P7 (ht 0 hk0) (e ▸ hb'))) (Ke hsize.symm) (fun b' o _=>by
   by_cases hc:b'=b∧o<k
   ·exact .inr ⟨_,by rw [hc.1];exact ht o hc.2⟩
   exact .inl (by simp only [G'];rw [if_neg hc])) (fun i hi=>.inl ⟨hi,rfl⟩)
  have hfix:∀b' o,G.tag b' o=.fix→G'.tag b' o=.fix∧W.cell? ⟨b',o,none⟩=w.cell? ⟨b',o,none⟩:=fun b' o hb=>⟨by rw [htag b' o (by rw [hb];simp)];exact hb,hcell b' o (by rw [hb];simp)⟩
  have htail:∀b' o L,L≠.slot d r→G.tag b' o=.tail L→G'.tag b' o=.tail L:=fun b' o L hL hb=>by
   rw [htag b' o (by rw [hb];intro e;injection e with e;exact hL e)];exact hb
  have hobj:∀b' o i,G.tag b' o=.obj i→G'.tag b' o=.obj i:=fun b' o i hb=>by rw [htag b' o (by rw [hb];simp)];exact hb
  have hrep:∀{l:Option Loc} {z:AV} {u:Value},l≠some (.slot d r)→Rep G w l z u→Rep G' W l z u:=fun hl hz =>
   hz.mono (G':=G') hfix (Al _) (fun _ _=>rfl) (fun L hL b' o ht'=>htail b' o L (fun e=>hl (by rw [hL,e])) ht')
  have hkeep:Keep d G w G' W:=⟨hfix,fun b' o e s he ht'=>htail b' o _ (by rintro ⟨⟩;omega) ht',Al _,fun _ _=>rfl,Iq _ _ _ _,Gz _ _ _ _,Fs _ _ _ _,Ke hsize.symm,hstill⟩
  have hvec:∀j u,us[j]? = some u→W.cell? ⟨b,j,none⟩=some u:=fun j u hu=>by
   have hj:=(Ad.1 hu).1
   have hex:∃u',w.cell? ⟨b,j,none⟩=some u':=h.tags.ex b j (by rw [ht j (by omega)];simp)
   obtain ⟨u',hu'⟩:=hex
   have hbk:∃vs e fz,w.heap[b]? = some (.cells vs e fz):=by
    simp only [World.cell?] at hu'
    split at hu'
    ·rename_i vs e fz hb;exact ⟨vs,e,fz,hb⟩
    cases hu'
   obtain ⟨vs,e,fz,hbk⟩:=hbk
   have hlen:0+us.length≤vs.size:=by
    rw [hul,Bz]
    rcases Bw vs.size k with h'|h'
    ·exfalso
     obtain ⟨u2,hu2⟩:=h.tags.ex b vs.size (by rw [ht _ h'];simp)
     simp [World.cell?,hbk] at hu2
    exact h'
   obtain ⟨vs',b1,b2,b3⟩:=M2 b e fz us 0 w vs hbk hlen
   have b3':=b3 j
   rw [if_pos (by omega)] at b3'
   show (w.setCells b 0 us).cell? ⟨b,j,none⟩=some u
   simp only [World.cell?,b1]
   rw [b3',Nat.sub_zero]
   exact hu
  have hst:StRel d G' (st.set r (.ro y.cells)) a W:=by
   refine ⟨h.size,fun s=>?_,⟨fun i z hz=>?_,h.heap.n,h.heap.inj⟩,h.defs,h.defsAt,h.defsNodup,h.defsGe,⟨fun b' o hb=>?_,fun b' o i hb=>?_,fun b' o L hb=>?_,h.tags.globKeep hstill⟩,h.rnd,h.low,h.top⟩
   ·show Rep G' W _ (A6 r (.ro y.cells) st.fr s) _
    unfold A6
    by_cases hs:s=r
    ·subst hs
     rw [if_pos rfl,hv]
     refine .ro _ _ ⟨b,0,none⟩ (fun j=>(a.eval x).cells.getD j undef) rfl hone (fun j c hj=>?_) (fun j c hj=>?_)
     all_goals
      have hlt:j<y.cells.length:=(Ad.1 hj).1
      have hu:(a.eval x).cells[j]? = some ((a.eval x).cells[j]'(by omega)):=Ev _
      have e1:(a.eval x).cells.getD j undef=(a.eval x).cells[j]'(by omega):=by rw [Kk,hu];rfl
      rw [e1]
     ·refine ⟨by simp only [G',Bz];rw [if_pos ⟨trivial,by omega⟩],?_⟩
      rw [Bz]
      exact hvec j _ (by simp only [us];rw [Um];exact hu)
     exact hrep (by simp) (hcc j c _ hj hu)
    rw [if_neg hs]
    exact hrep (by simp;exact fun e=>hs e) (h.slots s)
   ·have hob:=h.heap.obj i z hz
    have hi:i<G.n:=by rw [h.heap.n];exact (Ad.1 hz).1
    have hb:=hheap (G.blk i) (hnb i hi)
    cases z with
    | cells t cs =>
     obtain ⟨vs,a1,a2,a3,a4⟩:=hob
     exact ⟨vs,hb.trans a1,a2,fun j y u p q=>hrep (by simp) (a3 j y u p q),fun j hj=>hobj _ _ _ (a4 j hj)⟩
    | loop sta pd fr sz ps asg bd df =>
     obtain ⟨fn,tmps,a1,a2,a3,a4⟩:=hob
     exact ⟨fn,tmps,hb.trans a1,a2,fun s=>hrep (by simp) (a3 s),a4⟩
    | defs=>exact hb.trans hob
    | dead=>exact hb.trans hob
    | bld t e bs=>exact BldRel.turn hob rfl (fun b' o ho=>hobj b' o i ho) hb (fun b' ha=>hheap b' (fun e=>by
      have:=ha.tag h.tags (o:=0) (by rw [e,ht 0 hk0];simp)
      rw [e,ht 0 hk0] at this;cases this))
    | gone =>
     obtain ⟨vs,t,fz,a1,a2⟩:=hob
     exact ⟨vs,t,fz,hb.trans a1,fun j hj=>(hfix _ _ (a2 j hj)).1⟩
   ·by_cases hc:b'=b∧o<k
    ·obtain ⟨rfl,ho⟩:=hc
     exact ⟨us[o]'(by omega),hvec o _ (Ab _)⟩
    rw [hout b' o hc]
    simp only [G',if_neg hc] at hb
    exact h.tags.ex b' o hb
   ·rw [World.frozen?_setCells]
    simp only [G'] at hb
    split at hb
    ·cases hb
    exact h.tags.obj b' o i hb
   rw [World.frozen?_setCells]
   simp only [G'] at hb
   split at hb
   ·cases hb
   exact h.tags.tail b' o L hb
  have hrun:(execOp a.eval (⟨none,.store t (.tmp r) x,ty,pos,aft,gd⟩:Oper)).run P w=.ok .skip W:=
   He hsz (show a.eval (.tmp r)=_ from hv) (by omega) hrun0
  exact Hq (by intro c h;cases h) hrun ⟨G',_,hst,hkeep,rfl,rfl,rfl,rfl⟩
end
section
variable {P:Program} {d:Nat} {sz:Nat} {dfs:List Nat} {rnd:Option Nat} {l0:List Oper} {up own:(Nat→Bool)→List AObj} {KP:List PanicEntry→St→Prop} {E:List Oper→(Nat→AV)→Prop} {S:List SegY} {l:List Oper} {fr:Nat→AV} {ty:TypeId} {pos:String} {aft:Array Edge} {s:Nat} {T F:List Nat}
theorem Y.allocP {t:TypeId} {z:Value} {k:Nat} (hz:∀w,(zeroValue t).run P w=.ok z w) (h:ChainY P d l0 sz up own dfs rnd KP E S l (A6 s (.cellp k) fr)) (hk:z.cells.size=k:=by rfl) (hs:Nat.blt s sz=true:=by rfl):
  ChainY P d l0 sz up own dfs rnd KP E (.s [s] none T F::S) (⟨some s,.alloc t,ty,pos,aft,none⟩::l) fr:=by
 refine ⟨_,l,[(s,.cellp k)],rfl,⟨rfl,rfl,fun B f _ _ _ hf=>.of ?_⟩,h⟩
 exact AOp.allocP (st:=⟨sz,f,up B,own B,dfs,rnd⟩) hz hk (by simpa using hs)
theorem Y.storeP {t:TypeId} {x:Operand} {r k:Nat} {y:AV} {ys:List AV} (hsz:∀w,(Go.sizeOf t).run P w=.ok k w) (h:ChainY P d l0 sz up own dfs rnd KP E S l (A6 r (.ro ys) fr))
  (hf:fr r=.cellp k:=by exact sL0) (hx:Bc fr x=y:=by exact sL0) (hc:y.cells=ys:=by exact sL0)
  (hk:ys.length=k:=by rfl) (hk0:0<k:=by decide) (h1:ys.all AV.one=true:=by exact sL2):
  ChainY P d l0 sz up own dfs rnd KP E (.s [r] none T F::S) (⟨none,.store t (.tmp r) x,ty,pos,aft,none⟩::l) fr:=by
 subst hc
 refine ⟨_,l,[(r,.ro y.cells)],rfl,⟨rfl,rfl,fun B f _ _ _ hfr=>.of ?_⟩,h⟩
 have e:f r=fr r:=hfr r (by simp [lk,Xs,Op.operands])
 have ex:Bc f x=y:=by rw [agr hfr (by simp [Op.operands])];exact hx
 exact AOp.storeP (st:=⟨sz,f,up B,own B,dfs,rnd⟩) hsz (e.trans hf) ex hk hk0 h1
end
end Go.SX
