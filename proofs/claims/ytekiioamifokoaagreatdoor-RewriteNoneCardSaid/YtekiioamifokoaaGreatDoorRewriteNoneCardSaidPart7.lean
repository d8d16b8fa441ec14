/- On the way (part 7). -/
import Derived.Lib.ItoaLen
import Derived.Test.YtekiioamifokoaaGreatDoorRewriteNoneCardSaidPart6
set_option linter.all false
namespace Go.SX.Nb
open Go Go.SX Go.Proofs
variable [ErrAt]
set_option maxRecDepth 4000
theorem c92 (l:List Col) (hl:l.length≤1000000) (Hp:List AObj):AFun Tryz.prog 92 [An l] Hp (An l):=by
 refine Ae [.tmp 2] [0] Tryz.func92 Tryz.ntmps92 (fun d=>?_)
 refine Z43 ?_;refine Z30 ?_
 refine R.eqlNil jU (by kernel_rfl) (fun b hb=>?_)
 refine A2 [0,4] ?_
 refine A4 (fun ht4=>?_) (fun ht4=>?_)
 ·have hl0:l=[]:=by simpa using hb ht4
  subst hl0
  refine Z2 ?_;refine Ts 2 2 false ?_;refine Z4 ?_;exact AL9
 refine Z3 ?_;refine Z42 ?_;refine A5 ?_
 refine Ep jU Tryz.type69 ?_ ?_ ?_
 ·simp [Tryz.t69];omega
 ·simp [Tryz.t69];omega
 refine Jv ?_;exact ALf

theorem ABw {Hp:List AObj} {y:Col} {n:Nat} (h:∀x∈Hp,ObjLow Hp.length x):∀x∈Hp++[AObj.cells 69 [],AObj.cells 69 (Ac y.name::A3 y.kind::List.replicate n AV.any)],ObjLow (Hp.length+2) x:=by
 intro x hx
 rcases Ei.1 hx with hx|hx
 ·exact L4 (by omega) (h x hx)
 simp only [B4,E2,or_false] at hx
 rcases hx with rfl|rfl
 ·intro z hz;cases hz
 intro z hz
 simp only [B4] at hz
 rcases hz with rfl|rfl|hz
 ·simp
 ·simp
 rw [List.eq_of_mem_replicate hz];simp
theorem APl (y:Col) (Hp:List AObj):ACallO Tryz.prog 92 [An [y]] Hp (fun r H'=>∃cc,1≤cc∧r=.sl (oid Hp.length 1) 2 1 cc∧H'=Hp++[.cells 69 [],.cells 69 (Ac y.name::A3 y.kind::List.replicate ((cc-1)*2) AV.any)]):=by
 refine ACallO.body [.tmp 2] [0] Tryz.func92 Tryz.ntmps92 (fun d=>?_)
 refine Z43 ?_;refine Z54 ?_
 refine Jx (fun hlow=>?_)
 refine A5 ?_
 refine R.eqlNil jU (by kernel_rfl) (fun b hb=>?_)
 refine A2 [0,4] ?_
 refine A4 (fun ht4=>?_) (fun ht4=>?_)
 ·exact absurd (hb ht4) (by simp)
 refine il ?_;refine R.buildObj0 (n:=0) jU Tryz.sizeOf69 ?_;refine A5 ?_
 refine R.appendObj (k:=2) (n:=1) jU Tryz.type69 (show [C0 y]≠[] by simp) ?_ ?_ (fun cc hcc=>?_)
 ·simp [Tryz.t69]
 ·simp
 have e0:Nr [C0 y]++List.replicate ((cc-[C0 y].length)*2) AV.any=Ac y.name::A3 y.kind::List.replicate ((cc-1)*2) AV.any:=rfl
 rw [e0]
 clear e0
 refine A5 ?_;refine Z4 ?_;exact K.finO 2 (A9 (t:=2)) ⟨cc,hcc,rfl,rfl⟩ (hlow:=by simp [oid]) (hobj:=ABw hlow)

theorem AMq (c:List Col) (hc:OkCols c) (m:Mov) (h:OkMov m) (h3:(m.kind==3)=false) (Hp:List AObj):AFun Tryz.prog 164 [An c,Jo m] Hp (An (Ck c m)):=by
 refine Ae [.tmp 4] [0,1] Tryz.func164 Tryz.ntmps164 (fun d=>?_)
 refine zo ?_;refine Z1 ?_;refine Aa Tryz.call92 (c92 m.give h.gives2 _) ?_;refine A5 ?_;refine A2 [0,3,5] ?_;refine Z31 ?_;refine A2 [0,3,5,12] ?_
 refine A4 (fun ht12=>?_) (fun ht12=>?_)
 ·rw [h3] at ht12;cases ht12
 refine Z98 ?_;refine Z11 ?_;exact A8 (Ak A9) ⟨by rw [AF6 h3]<;>rfl,rfl⟩

theorem AMr (c:List Col) (hc:OkCols c) (m:Mov) (h:OkMov m) (h3:(m.kind==3)=true) (s:Str) (y:Col) (ht:m.take=[s]) (hg:m.give=[y]) (Hp:List AObj):AFun Tryz.prog 164 [An c,Jo m] Hp (An (Ck c m)):=by
 have hgv:=AF7 (c:=c) h3 ht hg
 have hgy:=ABu (c:=c) h3 ht hg
 obtain ⟨kd,tk,gv,ah,bk⟩:=m
 simp only at ht hg h3
 subst ht hg
 refine Ae [.tmp 4] [0,1] Tryz.func164 Tryz.ntmps164 (fun d=>?_)
 refine zo ?_;refine Z1 ?_;refine R.callO Tryz.call92 (APl y _) ?_
 rintro _ _ ⟨cc,hcc,rfl,rfl⟩
 refine ⟨[.cells 69 [],.cells 69 (Ac y.name::A3 y.kind::List.replicate ((cc-1)*2) AV.any)],by simp,?_⟩
 simp only [Gs,D9]
 refine A5 ?_;refine A2 [0,3,5] ?_;refine Z31 ?_;refine A2 [0,3,5,12] ?_
 refine A4 (fun ht12=>?_) (fun ht12=>?_)
 ·refine Z15 ?_
  refine A5 (h:=Ai (0) (Ac s) (fun _=>rfl)) (hr:=?_)
  refine A5 ?_;refine Aa Tryz.call60 (c60 c hc s _) ?_;refine A5 ?_;refine A2 [0,5,6] ?_;refine Z1 ?_;refine A2 [0,5,6,20] ?_
  refine A4 (fun ht20=>?_) (fun ht20=>?_)
  ·have hf:¬Aw s c<0:=by simp at ht20;omega
   obtain ⟨jj,hjj,hjc⟩:=Fl hf
   refine Z49 ?_
   refine A5 (h:=Ai ((Aw s c).toNat) (C0 (c.getD (Aw s c).toNat ⟨[],0⟩)) (fun _=>rx hf)) (hr:=?_)
   refine Z0 ?_;refine R.indexAddrSl (n:=1) 0 jU Tryz.sizeOf69 (by decide) ?_
   refine A5 (h:=Q.fieldAddrPtr (hc:=rfl)) (hr:=?_)
   refine R.storeOwn (y:=A3 (c.getD (Aw s c).toNat ⟨[],0⟩).kind) (ys:=[A3 (c.getD (Aw s c).toNat ⟨[],0⟩).kind]) (n:=1) (cs:=Ac y.name::A3 y.kind::List.replicate ((cc-1)*2) AV.any) (cs':=Ac y.name::A3 (c.getD (Aw s c).toNat ⟨[],0⟩).kind::List.replicate ((cc-1)*2) AV.any) (t':=69) jS ?_ (hc:=rfl) (hput:=rfl) (hfit:=by simp)
   refine A2 [5] ?_;refine Gg ?_;refine Ez ?_;refine R.freeze (k:=2) (n:=1) 5 1 [C0 ⟨y.name,(c.getD (Aw s c).toNat ⟨[],0⟩).kind⟩] hcc rfl rfl (ki [⟨y.name,(c.getD (Aw s c).toNat ⟨[],0⟩).kind⟩]) (kj [⟨y.name,(c.getD (Aw s c).toNat ⟨[],0⟩).kind⟩]) (Y3 [⟨y.name,(c.getD (Aw s c).toNat ⟨[],0⟩).kind⟩]) ?_;refine Z0 ?_;exact AKe
  have hf:Aw s c<0:=by simp at ht20;omega
  refine il ?_;refine R.freeze (k:=2) (n:=1) 5 1 [C0 ⟨y.name,y.kind⟩] hcc rfl rfl (ki [⟨y.name,y.kind⟩]) (kj [⟨y.name,y.kind⟩]) (Y3 [⟨y.name,y.kind⟩]) ?_;refine Z0 ?_;exact AKe
 rw [h3] at ht12;cases ht12

/-- What a move must have before it is turned. -/
structure MvOk (m:Mov):Prop where
 ok:OkMov m
 ahead:m.ahead.length=m.give.length
 back:m.back.length=m.take.length
 one:(m.kind==3)=true→m.take.length=1∧m.give.length=1
theorem AF8 {m:Mov} (h:OkMov m) (hc:Gn m=true):MvOk m:=⟨h,(J6 hc).1,(J6 hc).2,fun h3=>Y0 hc (by rw [h3];rfl)⟩
theorem APm (c:List Col) (hc:OkCols c) (m:Mov) (h:MvOk m) (Hp:List AObj):AFun Tryz.prog 164 [An c,Jo m] Hp (An (Ck c m)):=by
 cases h3:m.kind==3 with
 | false=>exact AMq c hc m h.ok h3 Hp
 | true =>
  obtain ⟨h1,h2⟩:=h.one h3
  obtain ⟨s,hs⟩:=ABv h1
  obtain ⟨y,hy⟩:=ABv h2
  exact AMr c hc m h.ok h3 s y hs hy Hp
theorem km {c:List Col} {m:Mov} (h:OkMov m):OkCols (Ck c m):=by
 refine ⟨by rw [Ml];exact I7 h.gives2 (by decide),fun y hy=>?_⟩
 unfold Ck at hy
 split at hy
 ·split at hy
  ·exact h.gives.2 y hy
  cases hg:m.give with
  | nil=>rw [hg] at hy;cases hy
  | cons z r =>
   rw [hg] at hy
   rcases B4.1 hy with rfl|hy
   ·exact h.gives.2 z (by rw [hg];exact Gk)
   exact h.gives.2 y (by rw [hg];exact Hm _ hy)
 exact h.gives.2 y hy
theorem kn {c give:List Col} {take:List Str} (hc:OkCols c) (hg:OkCols give) (hg2:give.length≤1000000):OkCols (Ea c take give).1:=by
 have h0:OkCols ([]:List Col):=⟨by decide,fun y hy=>by cases hy⟩
 unfold Ea
 split
 ·exact h0
 rename_i hr
 split
 ·exact h0
 split
 ·exact h0
 split
 ·exact h0
 split
 ·exact h0
 exact AB6 hc (by simpa using hr) hg hg2 rfl
theorem oi {c give:List Col} {take:List Str} (h:((Ea c take give).2 != 0)=false):∀s∈take,¬Aw s c<0:=by
 have ht:Id c take=true:=by
  unfold Ea at h
  split at h
  ·cases h
  split at h
  ·cases h
  rename_i ht
  simpa using ht
 intro s hs hf
 obtain ⟨j,hj⟩:=C8 hs
 have:=takenM_true.1 ht j s hj
 unfold Po at this
 rw [show decide (Aw s c<0)=true by simpa using hf] at this
 simp at this
theorem we {over:List Col} {l:List Expr} {w:List Col} {x:Nat} (hl:x<l.length) (hw:x<w.length):
  F1 over (l.drop x) (w.drop x)=if fw l[x] over w[x].kind != 0 then fw l[x] over w[x].kind else F1 over (l.drop (x+1)) (w.drop (x+1)):=by
 rw [I4 hl,I4 hw]
 rfl
theorem ABx {over:List Col} {l:List Expr} {w:List Col} {x:Nat} (hl:l.length≤x):F1 over (l.drop x) (w.drop x)=0:=by
 rw [List.drop_eq_nil_of_le hl]
 cases w.drop x<;>rfl
theorem Pq {α β:Type} {f:α→β} {l:List α} {x:Nat} (h:x<l.length):(l.take (x+1)).map f=(l.take x).map f++[f l[x]]:=by
 rw [J8 h,Bq];rfl
theorem AF9 {c:List Col} {m:Mov} (h:((Ea c m.take (Ck c m)).2 != 0)=true):By c m=([],(Ea c m.take (Ck c m)).2):=if_pos h
theorem AFa {c:List Col} {m:Mov} (h:((Ea c m.take (Ck c m)).2 != 0)=false) (h2:(F1 c m.ahead (Ck c m) != 0)=true):By c m=([],F1 c m.ahead (Ck c m)):=by
 unfold By;rw [if_neg (by rw [h];simp),if_pos h2]
theorem AFb {c:List Col} {m:Mov} (h:((Ea c m.take (Ck c m)).2 != 0)=false) (h2:(F1 c m.ahead (Ck c m) != 0)=false) (h3:(F1 (Ea c m.take (Ck c m)).1 m.back (Nh c m) != 0)=true):By c m=([],F1 (Ea c m.take (Ck c m)).1 m.back (Nh c m)):=by
 unfold By;rw [if_neg (by rw [h];simp),if_neg (by rw [h2];simp),if_pos h3]
theorem AFc {c:List Col} {m:Mov} (h:((Ea c m.take (Ck c m)).2 != 0)=false) (h2:(F1 c m.ahead (Ck c m) != 0)=false) (h3:(F1 (Ea c m.take (Ck c m)).1 m.back (Nh c m) != 0)=false):By c m=((Ea c m.take (Ck c m)).1,0):=by
 unfold By;rw [if_neg (by rw [h];simp),if_neg (by rw [h2];simp),if_neg (by rw [h3];simp)]
theorem AMs (l:List Expr) (h:OkEs l) (w:List Col) (hw:w.length=l.length) (c:List Col) (hc:OkCols c) (Hp:List AObj):AFun Tryz.prog 166 [Bo l,An w,An c] Hp (A3 (F1 c l w)):=by
 refine Ae [.tmp 6] [0,1,2] Tryz.func166 Tryz.ntmps166 (fun d=>?_)
 refine Z2 ?_;refine A2 [0,1,2] ?_;refine Z31 ?_;refine A2 [1,2,11,12,13] ?_
 refine Bf (α:=Nat) (fun x=>⟨37,A6 1 (An w) (A6 2 (An c) (A6 11 (Bo l) (A6 12 (A3 (l.length:Nat)) (A6 13 (A3 (x:Nat)) (fun _=>.any))))),Hp,[],[],none⟩) (fun x=>x≤l.length∧F1 c l w=F1 c (l.drop x) (w.drop x)) (fun x=>l.length-x) (0) ⟨Ar _,rfl⟩ (Bj (by simp)) rfl (fun x hx=>?_)
 refine Z2 ?_;refine A2 [1,2,11,12,13,14] ?_
 refine Cr (fun ht14=>?_) (fun ht14=>?_)
 ·have hlt:x<l.length:=by simpa using ht14
  have hlw:x<w.length:=by omega
  have hlen:=h.len
  have hst:=we (over:=c) hlt hlw
  refine Rz ?_
  refine A5 (h:=Ai (x) (A7 l[x]) (fun _=>B6 hlt)) (hr:=?_)
  refine um ?_;refine A2 [1,2,7,8,11,12,13] ?_;refine Z7 ?_;refine Aa Tryz.call62 (c62 61 l[x] (h.ok _ (Be hlt)) (by decide) c hc _) ?_;refine Z81 ?_;refine A2 [1,2,7,8,10,11,12,13] ?_;refine Z1 ?_;refine A2 [1,2,7,8,10,11,12,13,25] ?_
  refine A4 (fun ht25=>?_) (fun ht25=>?_)
  ·have he:fw l[x] c w[x].kind=(Ie l[x] c).2:=if_pos ht25
   have hm:F1 c l w=(Ie l[x] c).2:=by rw [hx.2,hst,he,if_pos ht25]
   refine Z1 ?_;refine ie ?_;exact mt
  refine Z3 ?_;refine Dt [0,0,0,0,12,28,60,127,255] 7 Aj (by kernel_rfl) ?_;refine Ti ?_
  refine Aq (h:=Ai (x) (C0 w[x]) (fun _=>B6 hlw)) (hr:=?_)
  refine Z92 ?_;refine Aa Tryz.call63 (c63 61 l[x] (h.ok _ (Be hlt)) (by decide) c hc w[x].kind _) ?_;refine A5 ?_;refine A2 [1,2,11,12,13,35] ?_
  refine A4 (fun ht35=>?_) (fun ht35=>?_)
  ·have he:fw l[x] c w[x].kind=10:=by unfold fw;rw [if_neg (by rw [ht25];simp),if_pos ht35]
   have hm:F1 c l w=10:=by rw [hx.2,hst,he];rfl
   refine Z2 ?_;refine Z72 ?_;exact mt
  have he:fw l[x] c w[x].kind=0:=by unfold fw;rw [if_neg (by rw [ht25];simp),if_neg (by rw [ht35];simp)]
  have hnx:F1 c l w=F1 c (l.drop (x+1)) (w.drop (x+1)):=by rw [hx.2,hst,he];rfl
  refine Z73 ?_;refine A2 [1,2,11,12,13] ?_;refine Bg (x+1) ⟨hlt,hnx⟩ (by omega) ?_
  exact Di (own:=[]) (fun _=>.refl _) (by repeat (first|exact Bc|refine Bb (by first|(simp [or_imp,forall_and];done)|exact D3) ?_)) (by simp) (by simp)
 have hxe:l.length≤x:=by simpa using ht14
 have hm:F1 c l w=0:=by rw [hx.2,ABx hxe]
 refine n5 ?_;refine Z72 ?_;exact uw

theorem APn (c:List Col) (hc:OkCols c) (m:Mov) (h:OkMov m) (hf:∀s∈m.take,¬Aw s c<0) (Hp:List AObj):AFun Tryz.prog 167 [An c,Jo m] Hp (An (Nh c m)):=by
 refine Ae [.tmp 4] [0,1] Tryz.func167 Tryz.ntmps167 (fun d=>?_)
 refine zo ?_;refine Z2 ?_;refine A2 [0,3,5] ?_;refine Z54 ?_;refine Qu 5 2 ?_;refine Z57 ?_;refine A2 [0,5,9,10,11] ?_
 refine Bf (α:=Nat) (fun x=>⟨26,A6 0 (An c) (A6 5 (.slice true 2 (((m.take.take x).map fun s=>c.getD (Aw s c).toNat ⟨[],0⟩).map C0)) (A6 9 (Fg m.take) (A6 10 (A3 (m.take.length:Nat)) (A6 11 (A3 (x:Nat)) (fun _=>.any))))),Hp,[],[],none⟩) (fun x=>x≤m.take.length) (fun x=>m.take.length-x) (0) (Ar _) (Bj (by simp)) rfl (fun x hx=>?_)
 refine Z2 ?_;refine A2 [0,5,9,10,11,12] ?_
 refine Cr (fun ht12=>?_) (fun ht12=>?_)
 ·have hlt:x<m.take.length:=by simpa using ht12
  have htk:=h.takes
  have hfx:=hf _ (Be hlt)
  obtain ⟨jj,hjj,hjc⟩:=Fl hfx
  refine Z76 ?_
  refine A5 (h:=Ai (x) (Ac m.take[x]) (fun _=>B6 hlt)) (hr:=?_)
  refine Z0 ?_;refine A2 [0,5,7,9,10,11] ?_;refine ue ?_;refine Z13 ?_;refine Aa Tryz.call60 (c60 c hc m.take[x] _) ?_
  refine A5 (h:=Ai ((Aw m.take[x] c).toNat) (C0 (c.getD (Aw m.take[x] c).toNat ⟨[],0⟩)) (fun _=>rx hfx)) (hr:=?_)
  refine Z80 ?_
  refine Ep jU Tryz.type69 ?_ ?_ ?_
  ·simp only [Ao,Cy,Bi,Cb,Tryz.t69];omega
  ·simp only [Ao,Cy,Bi,Cb,Tryz.t69];omega
  refine Jv ?_;refine A2 [0,5,9,10,11] ?_;refine Ry ?_;refine A2 [0,5,9,10,11] ?_
  refine Bg (x+1) hlt (by omega) (Dn ?_)
  rw [Pq hlt,Bq]
  rfl
 have hxe:m.take.length≤x:=by simpa using ht12
 refine Z28 ?_;refine ii ?_;exact A8 (Ak A9) ⟨by unfold Nh;rw [Eo hxe]<;>rfl,rfl⟩ (hlow:=Em)

theorem APo (c:List Col) (hc:OkCols c) (m:Mov) (h:MvOk m) (Hp:List AObj):AFun Tryz.prog 128 [An c,Jo m] Hp (.tup [An (By c m).1,A3 (By c m).2]):=by
 refine Ae [.tmp 4,.tmp 5] [0,1] Tryz.func128 Tryz.ntmps128 (fun d=>?_)
 refine Z15 ?_;refine Nv ?_;refine Z1 ?_;refine Aa Tryz.call164 (APm c hc m h _) ?_;refine A5 ?_;refine A2 [0,3,6] ?_;refine Ez ?_
 have hg:=km (c:=c) h.ok
 have hg2:(Ck c m).length≤1000000:=by rw [Ml];exact h.ok.gives2
 refine Z57 ?_;refine Aa Tryz.call165 (APk c hc m.take h.ok.takes (Ck c m) hg hg2 _) ?_;refine Z81 ?_;refine A2 [0,3,6,7,8] ?_;refine Z7 ?_;refine A2 [0,3,6,7,8,23] ?_
 refine A4 (fun ht23=>?_) (fun ht23=>?_)
 ·have hm:=AF9 ht23
  exact AE6
 refine Z3 ?_;refine Z83 ?_;refine Aa Tryz.call166 (AMs m.ahead h.ok.ahead (Ck c m) (by rw [Ml,h.ahead]) c hc _) ?_;refine A5 ?_;refine A2 [0,3,7,9] ?_;refine Z1 ?_;refine A2 [0,3,7,9,31] ?_
 refine A4 (fun ht31=>?_) (fun ht31=>?_)
 ·have hm:=AFa ht23 ht31
  exact AE6
 refine Z3 ?_;refine Jw ?_;refine Dt [0,1,0,0,12,0,63,127] 6 Aj (by kernel_rfl) ?_;refine Ti ?_;refine Dl Tryz.call167 (APn c hc m h.ok (oi ht23) _) ?_;refine uk ?_;refine Aa Tryz.call166 (AMs m.back h.ok.back (Nh c m) (by rw [Nh,Ao,h.back]) (Ea c m.take (Ck c m)).1 (kn hc hg hg2) _) ?_;refine A5 ?_;refine A2 [7,10] ?_;refine Z1 ?_;refine A2 [7,10,41] ?_
 refine A4 (fun ht41=>?_) (fun ht41=>?_)
 ·have hm:=AFb ht23 ht31 ht41
  exact AE6
 have hm:=AFc ht23 ht31 ht41
 refine Qy ?_;exact AKu

def P3 {α:Type} (p:α→Bool) (l:List α):Int:=if l.any p then (l.findIdx p:Int) else -1
theorem ABy {α:Type} {p:α→Bool} {l:List α} {i:Nat} (h:i<l.length) (hn:p l[i]=true) (hp:∀(j:Nat) (y:α),j<i→l[j]? = some y→p y=false):(i:Int)=P3 p l:=by
 unfold P3
 rw [if_pos (H9.2 ⟨_,Be h,hn⟩)]
 congr 1
 refine (mc h |>.2 ⟨hn,fun j hj=>?_⟩).symm
 exact hp j (l[j]'(by omega)) hj (Ab (by omega))
theorem ol {α:Type} {p:α→Bool} {l:List α} (h:l.any p=false):(-1:Int)=P3 p l:=by
 unfold P3
 rw [if_neg (by rw [h];simp)]
theorem wg {α:Type} (p:α→Bool) (l:List α):decide (0≤P3 p l)=l.any p:=by
 unfold P3
 cases l.any p<;>simp
def P4 (s:Str):Bool := !(Dw s)
def Dx (e:Expr):Bool := !(Ay e)
theorem ABz {m:Mov} (h:(((m.ahead.length:Int) != (m.give.length:Int)) || ((m.back.length:Int) != (m.take.length:Int)))=true):Gn m=false:=if_pos h
theorem AC0 {m:Mov} (h:(((m.ahead.length:Int) != (m.give.length:Int)) || ((m.back.length:Int) != (m.take.length:Int)))=false):Gn m=if m.kind==1 then ((m.take.length:Int)==0)&&((m.give.length:Int)==1)
 else if m.kind==2 then ((m.take.length:Int)==1)&&((m.give.length:Int)==0)
 else if (m.kind==3) || (m.kind==6) then ((m.take.length:Int)==1)&&((m.give.length:Int)==1)
 else if m.kind==4 then ((m.take.length:Int)==1)&&decide ((1:Int)<(m.give.length:Int))
 else if m.kind==5 then decide ((1:Int)<(m.take.length:Int))&&((m.give.length:Int)==1)
 else false:=if_neg (by rw [h];simp)
theorem APp (m:Mov) (Hp:List AObj):AFun Tryz.prog 206 [Jo m] Hp (Az (Gn m)):=by
 refine Ae [.tmp 2] [0] Tryz.func206 Tryz.ntmps206 (fun d=>?_)
 refine Z93 ?_;refine Dt [0,1,3,0,8,24,7,127] 7 Aj (by kernel_rfl) ?_;refine Ti ?_;refine Z33 ?_;refine Ht ?_;refine A5 ?_;refine A2 [1,3,4] ?_;refine Z54 ?_
 simp only [Ao]
 refine Z57 ?_;refine Z77 ?_;refine Z48 ?_;refine A2 [1,3,4,22] ?_
 refine A4 (fun ht22=>?_) (fun ht22=>?_)
 ·simp only [Ao] at ht22
  have hm:=ABz ht22
  exact AE5
 simp only [Ao] at ht22
 have hn:=AC0 ht22
 refine Zi ?_;refine A2 [3,4,24] ?_;refine Vf ?_;refine A2 [3,4,24,25] ?_
 refine A4 (fun ht25=>?_) (fun ht25=>?_)
 ·refine eh ?_;refine my ?_;exact A8 (Ak A9) ⟨by rw [hn];first|(simp only [ht22,ht25,hk3,hk6,Kr,F6,Kq,Qg,if_true,if_false,Bt,↓reduceIte]<;>rfl)|(simp only [ht22,ht25,hk3,Kr,F6,Kq,if_true,if_false,Bt,↓reduceIte]<;>rfl)|(simp only [ht22,ht25,if_true,if_false,Bt,↓reduceIte]<;>rfl),rfl⟩
 refine Z1 ?_;refine A2 [3,4,24,33] ?_
 refine A4 (fun ht33=>?_) (fun ht33=>?_)
 ·refine eh ?_;refine my ?_;exact A8 (Ak A9) ⟨by rw [hn];first|(simp only [ht22,ht25,ht33,hk3,hk6,Kr,F6,Kq,Qg,if_true,if_false,Bt,↓reduceIte]<;>rfl)|(simp only [ht22,ht25,ht33,hk3,Kr,F6,Kq,if_true,if_false,Bt,↓reduceIte]<;>rfl)|(simp only [ht22,ht25,ht33,if_true,if_false,Bt,↓reduceIte]<;>rfl),rfl⟩
 refine Z7 ?_;refine A2 [3,4,24,41] ?_
 refine A4 (fun ht41=>?_) (fun ht41=>?_)
 ·have hk3:=ht41
  refine Z3 ?_
  refine A4 (fun ht41=>?_) (fun ht41=>?_)
  ·refine eh ?_;refine Z65 ?_;exact Z50
  rw [hk3] at ht41;cases ht41
 have hk3:=ht41
 refine Z22 ?_;refine A2 [3,4,24,41] ?_;refine Gg ?_
 refine A4 (fun ht41=>?_) (fun ht41=>?_)
 ·have hk6:=ht41
  refine eh ?_;refine Z65 ?_;exact Z50
 have hk6:=ht41
 refine Z1 ?_;refine A2 [3,4,24,50] ?_
 refine A4 (fun ht50=>?_) (fun ht50=>?_)
 ·refine eh ?_;refine my ?_;exact A8 (Ak A9) ⟨by rw [hn];first|(simp only [ht22,ht25,ht33,ht41,ht41,ht50,hk3,hk6,Kr,F6,Kq,Qg,if_true,if_false,Bt,↓reduceIte]<;>rfl)|(simp only [ht22,ht25,ht33,ht41,ht41,ht50,hk3,Kr,F6,Kq,if_true,if_false,Bt,↓reduceIte]<;>rfl)|(simp only [ht22,ht25,ht33,ht41,ht41,ht50,if_true,if_false,Bt,↓reduceIte]<;>rfl),rfl⟩
 refine Z1 ?_;refine A2 [3,4,58] ?_
 refine A4 (fun ht58=>?_) (fun ht58=>?_)
 ·refine eh ?_;refine my ?_;exact ALr
 refine Z19 ?_;refine Z58 ?_;exact ALr

theorem APq (s:Str) (hs:s.length≤1048576) (Hp:List AObj):AFun Tryz.prog 208 [Ac s] Hp (Az (P4 s)):=by
 refine Ae [.tmp 2] [0] Tryz.func208 Tryz.ntmps208 (fun d=>?_)
 refine Z43 ?_;refine Z2 ?_;exact ALg

theorem APr (e:Expr) (hok:okE 61 e) (Hp:List AObj):AFun Tryz.prog 207 [A7 e] Hp (Az (Dx e)):=by
 refine Ae [.tmp 2] [0] Tryz.func207 Tryz.ntmps207 (fun d=>?_)
 refine Z93 ?_;refine Z2 ?_;exact AHp

theorem APs (e:Expr) (hok:okE 61 e) (Hp:List AObj):AFun Tryz.prog 160 [A7 e] Hp (Az (Dx e)):=by
 refine Ae [.tmp 2] [0] Tryz.func160 Tryz.ntmps160 (fun d=>?_)
 refine Z93 ?_;refine Z2 ?_;exact AHp

theorem APt (l:List Str) (hl:l.length≤1048576) (hn:∀s∈l,s.length≤1048576) (Hp:List AObj):AFun Tryz.prog 106 [Fg l,.fn (.func 208) [] []] Hp (A3 (P3 P4 l)):=by
 refine Ae [.tmp 4] [0,1] Tryz.func106 Tryz.ntmps106 (fun d=>?_)
 refine eg ?_
 refine Bf (α:=Nat) (fun x=>⟨19,A6 0 (Fg l) (A6 1 (.fn (.func 208) [] []) (A6 7 (A3 l.length) (A6 8 (A3 (x:Nat)) (fun _=>.any)))),Hp,[],[],none⟩) (fun x=>x≤l.length∧∀(j:Nat) y,j<x→l[j]? = some y→P4 y=false) (fun x=>l.length-x) (0) ⟨Ar _,fun j y h=>by omega⟩ (Bj (by simp)) rfl (fun x hx=>?_)
 refine ea ?_
 refine Cr (fun ht9=>?_) (fun ht9=>?_)
 ·have hlt:x<l.length:=by simpa using ht9
  refine ee ?_
  refine A5 (h:=Ai (x) (Ac l[x]) (fun _=>B6 hlt)) (hr:=?_)
  refine A5 ?_;refine Mz Tryz.call208 (APq l[x] (hn _ (Be hlt)) _) ?_;refine en ?_
  refine A4 (fun ht16=>?_) (fun ht16=>?_)
  ·exact zh
  exact zl
 have hxe:l.length≤x:=by simpa using ht9
 exact zn

theorem c58 (l:List Str) (hl:l.length≤1048576) (hn:∀s∈l,s.length≤1048576) (Hp:List AObj):AFun Tryz.prog 58 [Fg l,.fn (.func 208) [] []] Hp (Az (l.any P4)):=by
 refine Ae [.tmp 4] [0,1] Tryz.func58 Tryz.ntmps58 (fun d=>?_)
 refine el ?_;refine Aa Tryz.call106 (APt l hl hn _) ?_;exact zp

theorem AMt (l:List Expr) (hl:l.length≤1048576) (hn:∀e∈l,okE 61 e) (Hp:List AObj):AFun Tryz.prog 98 [Bo l,.fn (.func 207) [] []] Hp (A3 (P3 Dx l)):=by
 refine Ae [.tmp 4] [0,1] Tryz.func98 Tryz.ntmps98 (fun d=>?_)
 refine eg ?_
 refine Bf (α:=Nat) (fun x=>⟨19,A6 0 (Bo l) (A6 1 (.fn (.func 207) [] []) (A6 7 (A3 l.length) (A6 8 (A3 (x:Nat)) (fun _=>.any)))),Hp,[],[],none⟩) (fun x=>x≤l.length∧∀(j:Nat) y,j<x→l[j]? = some y→Dx y=false) (fun x=>l.length-x) (0) ⟨Ar _,fun j y h=>by omega⟩ (Bj (by simp)) rfl (fun x hx=>?_)
 refine ea ?_
 refine Cr (fun ht9=>?_) (fun ht9=>?_)
 ·have hlt:x<l.length:=by simpa using ht9
  refine ee ?_
  refine A5 (h:=Ai (x) (A7 l[x]) (fun _=>B6 hlt)) (hr:=?_)
  refine A5 ?_;refine Mz Tryz.call207 (APr l[x] (hn _ (Be hlt)) _) ?_;refine en ?_
  refine A4 (fun ht16=>?_) (fun ht16=>?_)
  ·exact zh
  exact zl
 have hxe:l.length≤x:=by simpa using ht9
 exact zn

theorem AH6 (l:List Expr) (hl:l.length≤1048576) (hn:∀e∈l,okE 61 e) (Hp:List AObj):AFun Tryz.prog 51 [Bo l,.fn (.func 207) [] []] Hp (Az (l.any Dx)):=by
 refine Ae [.tmp 4] [0,1] Tryz.func51 Tryz.ntmps51 (fun d=>?_)
 refine el ?_;refine Aa Tryz.call98 (AMt l hl hn _) ?_;exact zp

theorem AMu (l:List Expr) (hl:l.length≤1048576) (hn:∀e∈l,okE 61 e) (Hp:List AObj):AFun Tryz.prog 98 [Bo l,.fn (.func 160) [] []] Hp (A3 (P3 Dx l)):=by
 refine Ae [.tmp 4] [0,1] Tryz.func98 Tryz.ntmps98 (fun d=>?_)
 refine eg ?_
 refine Bf (α:=Nat) (fun x=>⟨19,A6 0 (Bo l) (A6 1 (.fn (.func 160) [] []) (A6 7 (A3 l.length) (A6 8 (A3 (x:Nat)) (fun _=>.any)))),Hp,[],[],none⟩) (fun x=>x≤l.length∧∀(j:Nat) y,j<x→l[j]? = some y→Dx y=false) (fun x=>l.length-x) (0) ⟨Ar _,fun j y h=>by omega⟩ (Bj (by simp)) rfl (fun x hx=>?_)
 refine ea ?_
 refine Cr (fun ht9=>?_) (fun ht9=>?_)
 ·have hlt:x<l.length:=by simpa using ht9
  refine ee ?_
  refine A5 (h:=Ai (x) (A7 l[x]) (fun _=>B6 hlt)) (hr:=?_)
  refine A5 ?_;refine Mz Tryz.call160 (APs l[x] (hn _ (Be hlt)) _) ?_;refine en ?_
  refine A4 (fun ht16=>?_) (fun ht16=>?_)
  ·exact zh
  exact zl
 have hxe:l.length≤x:=by simpa using ht9
 exact zn

theorem AMv (l:List Expr) (hl:l.length≤1048576) (hn:∀e∈l,okE 61 e) (Hp:List AObj):AFun Tryz.prog 51 [Bo l,.fn (.func 160) [] []] Hp (Az (l.any Dx)):=by
 refine Ae [.tmp 4] [0,1] Tryz.func51 Tryz.ntmps51 (fun d=>?_)
 refine el ?_;refine Aa Tryz.call98 (AMu l hl hn _) ?_;exact zp

theorem AFd (s:Str) (Hp:List AObj):AFun Tryz.prog 209 [Ac s] Hp (A7 (Cm s)):=by
 refine Ae [.cell 2 27] [0] Tryz.func209 Tryz.ntmps209 (fun d=>?_)
 refine Z63 ?_;refine Z2 ?_;refine AE4 ?_;refine Z4 ?_;exact A8 (Ak (B3 jA jS)) ⟨by rw [Al];rfl,rfl⟩

theorem APu (l:List Expr) (hl:l.length≤1048576) (hn:∀e∈l,okE 61 e) (Hp:List AObj):AFun Tryz.prog 123 [Bo l] Hp (Az (l.any Dx)):=by
 refine Ae [.tmp 2] [0] Tryz.func123 Tryz.ntmps123 (fun d=>?_)
 refine Z43 ?_;refine Z2 ?_;refine Aa Tryz.call51 (AMv l hl hn _) ?_;refine A5 ?_;exact ADw

theorem ko {m:Mov} {c:Col}:(((!(Dw c.name)) || (!((Cw c.kind==[])==(m.kind==3)))) || ((m.kind==3)&&(c.kind != 0))) = !P1 m c:=by
 unfold P1
 cases Dw c.name<;>cases (Cw c.kind==([]:Str))<;>cases (m.kind==3)<;>cases (c.kind != 0)<;>rfl
theorem AIw {m:Mov} (h:(!(Gn m))=true):K6 m=false:=by
 have:Gn m=false:=by simpa using h
 unfold K6;rw [this];rfl
theorem AIx {m:Mov} {c:Col} (hc:c∈m.give) (h:P1 m c=false):K6 m=false:=by
 have:m.give.all (P1 m)=false:=List.all_eq_false.2 ⟨c,hc,by rw [h];simp⟩
 unfold K6;rw [this];simp
theorem AIy {m:Mov} (h:((m.take.any P4 || m.ahead.any Dx) || m.back.any Dx)=true):K6 m=false:=by
 unfold K6
 rw [show P4=fun s => !(Dw s) from rfl,show Dx=fun e => !(Ay e) from rfl,Lx,Lx,Lx] at h
 cases h1:m.take.all Dw<;>cases h2:m.ahead.all Ay<;>cases h3:m.back.all Ay<;>simp_all
theorem AFe {m:Mov} (h1:Gn m=true) (h2:m.give.all (P1 m)=true) (h:((m.take.any P4 || m.ahead.any Dx) || m.back.any Dx)=false):K6 m=Rg m:=by
 unfold K6
 rw [show P4=fun s => !(Dw s) from rfl,show Dx=fun e => !(Ay e) from rfl,Lx,Lx,Lx] at h
 rw [h1,h2]
 cases h1:m.take.all Dw<;>cases h2:m.ahead.all Ay<;>cases h3:m.back.all Ay<;>simp_all
theorem V3 {α β:Type} {f:α→β} {l:List α} {d:α} (h:0<l.length):(l.map f)[0]? = some (f (l.getD 0 d)):=by
 rw [Bz,Ab h,Bw,Ab h]
 rfl
theorem Sn {α:Type} {l:List α} {d:α} (h:0<l.length):l.getD 0 d∈l:=by
 rw [Bw,Ab h]
 exact Be h
theorem AIz {m:Mov} (h:(m.kind==3)=true):Rg m=(eqE (m.ahead.getD 0 Au) (Cm (m.take.getD 0 []))&&eqE (m.back.getD 0 Au) (Cm (m.give.getD 0 ⟨[],0⟩).name)):=if_pos h
theorem AJ0 {m:Mov} (h:(m.kind==3)=false) (h6:(m.kind==6)=true):Rg m=(m.take.getD 0 []==(m.give.getD 0 ⟨[],0⟩).name):=by unfold Rg;rw [if_neg (by rw [h];simp),if_pos h6]
theorem AJ1 {m:Mov} (h:(m.kind==3)=false) (h6:(m.kind==6)=false):Rg m=true:=by unfold Rg;rw [if_neg (by rw [h];simp),if_neg (by rw [h6];simp)]
theorem APv (m:Mov) (h:OkMov m) (Hp:List AObj):AFun Tryz.prog 163 [Jo m] Hp (Az (K6 m)):=by
 refine Ae [.tmp 2] [0] Tryz.func163 Tryz.ntmps163 (fun d=>?_)
 refine Z93 ?_;refine Z30 ?_;refine Aa Tryz.call206 (APp m _) ?_;refine A5 ?_;refine A2 [1,8] ?_
 refine A4 (fun ht8=>?_) (fun ht8=>?_)
 ·have hm:=AIw ht8
  refine Z58 ?_;exact Z46
 have hct:Gn m=true:=by simpa using ht8
 refine Z3 ?_;refine Z83 ?_;refine A2 [1,10,11,12] ?_
 refine Bf (α:=Nat) (fun x=>⟨95,A6 1 (.ro (Ng m)) (A6 10 (An m.give) (A6 11 (A3 (m.give.length:Nat)) (A6 12 (A3 (x:Nat)) (fun _=>.any)))),Hp,[],[],none⟩) (fun x=>x≤m.give.length∧∀(j:Nat) (y:Col),j<x→m.give[j]? = some y→(!P1 m y)=false) (fun x=>m.give.length-x) (0) ⟨Ar _,fun j y h=>by omega⟩ (Bj (by simp)) rfl (fun x hx=>?_)
 refine Z2 ?_;refine A2 [1,10,11,12,13] ?_
 refine Cr (fun ht13=>?_) (fun ht13=>?_)
 ·have hlt:x<m.give.length:=by simpa using ht13
  have hgl:=h.gives2
  refine Z76 ?_
  refine A5 (h:=Ai (x) (C0 m.give[x]) (fun _=>B6 hlt)) (hr:=?_)
  refine Qw ?_;refine A2 [1,4,10,11,12] ?_;refine Dt [0,1,3,7,15,31,63,127,255,31,543,1567,4095,8191,16383,32767,65535,131071,262143,524287,1048575,2097151,4194303,8388607] 12 Aj (by kernel_rfl) ?_;refine Z8 ?_;refine Dl Tryz.call105 (AA8 m.give[x].name (h.gives.2 _ (Be hlt)) _) ?_;refine Z8 ?_;refine Z87 ?_;refine H.call Tryz.call97 (fun hB=>c97 m.give[x].kind _) ?_;refine Z87 ?_;refine Z87 ?_;refine Ht ?_;refine Cd ?_;refine Z77 ?_;refine Pw ?_;refine A5 ?_;refine A2 [1,10,11,12,39] ?_
  refine A4 (fun ht39=>?_) (fun ht39=>?_)
  ·rw [ko] at ht39
   have hm:=AIx (Be hlt) (by simpa using ht39)
   refine Z58 ?_;refine Z32 ?_;exact Z46
  rw [ko] at ht39
  refine Z73 ?_;refine A2 [1,10,11,12] ?_;refine Bg (x+1) ⟨hlt,El hlt hx.2 ht39⟩ (by omega) ?_
  exact Di (own:=[]) (fun _=>.refl _) (by repeat (first|exact Bc|refine Bb (by first|(simp [or_imp,forall_and];done)|exact Em|exact low_ro.2 Sl) ?_)) (by simp) (by simp)
 have hxe:m.give.length≤x:=by simpa using ht13
 have hga:m.give.all (P1 m)=true:=by have:=ke hxe hx.2;rw [Lx] at this;simpa using this
 refine n5 ?_;refine A2 [1,5] ?_;refine Z7 ?_;refine Aa Tryz.call58 (c58 m.take h.takes h.names _) ?_;refine A5 ?_;refine Z69 ?_;refine C3 Tryz.call51 (fun hB=>AH6 m.ahead h.ahead.len h.ahead.ok _) ?_;refine Zg ?_;refine C3 Tryz.call51 (fun hB=>AH6 m.back h.back.len h.back.ok _) ?_;refine A5 ?_;refine A2 [1,55] ?_
 refine A4 (fun ht55=>?_) (fun ht55=>?_)
 ·have hm:=AIy ht55
  refine Z58 ?_;exact Z46
 have hm0:=AFe hct hga ht55
 refine Zi ?_;refine A2 [1,57] ?_;refine Vf ?_;refine A2 [1,57,58] ?_
 refine A4 (fun ht58=>?_) (fun ht58=>?_)
 ·obtain ⟨hl1,hl2⟩:=Y0 hct (by rw [ht58];simp)
  obtain ⟨hl3,hl4⟩:=J6 hct
  have g1:=V3 (f:=A7) (l:=m.ahead) (d:=Au) (by omega)
  have g2:=V3 (f:=A7) (l:=m.back) (d:=Au) (by omega)
  have g3:=V3 (f:=Ac) (l:=m.take) (d:=[]) (by omega)
  have g4:=V3 (f:=C0) (l:=m.give) (d:=⟨[],0⟩) (by omega)
  have ok1:=h.ahead.ok _ (Sn (l:=m.ahead) (d:=Au) (by omega))
  have ok2:=h.back.ok _ (Sn (l:=m.back) (d:=Au) (by omega))
  have hm:=hm0.trans (AIz ht58)
  refine Dt [0,1,3,7,0,16,48,112,240,511,1023,2047,4095,8191,16383,2047,34815,100351,231423,493567,1017855,2097151,4194303,8388607] 21 Aj (by kernel_rfl) ?_;refine Z8 ?_
  refine Aq (h:=Ai (0) (A7 (m.ahead.getD 0 Au)) (fun _=>g1)) (hr:=?_)
  refine Z33 ?_
  refine Aq (h:=Ai (0) (Ac (m.take.getD 0 [])) (fun _=>g3)) (hr:=?_)
  refine Aq ?_;refine Dl Tryz.call209 (AFd (m.take.getD 0 []) _) ?_;refine Dl Tryz.call109 (AIu 61 (m.ahead.getD 0 Au) ok1 (Cm (m.take.getD 0 [])) _) ?_;refine Aq ?_;refine Z87 ?_
  refine H.go (h:=Ai (0) (A7 (m.back.getD 0 Au)) (fun _=>g2)) (hr:=?_)
  refine Z87 ?_;refine H.go ?_
  refine H.go (h:=Ai (0) (C0 (m.give.getD 0 ⟨[],0⟩)) (fun _=>g4)) (hr:=?_)
  refine Z87 ?_;refine H.call Tryz.call209 (fun hB=>AFd (m.give.getD 0 ⟨[],0⟩).name _) ?_;refine Ht ?_;refine C3 Tryz.call109 (fun hB=>AIu 61 (m.back.getD 0 Au) ok2 (Cm (m.give.getD 0 ⟨[],0⟩).name) _) ?_;exact AKz
 refine Z1 ?_;refine A2 [1,83] ?_
 refine A4 (fun ht83=>?_) (fun ht83=>?_)
 ·obtain ⟨hl1,hl2⟩:=Y0 hct (by rw [ht83];simp)
  obtain ⟨hl3,hl4⟩:=J6 hct
  have g1:=V3 (f:=A7) (l:=m.ahead) (d:=Au) (by omega)
  have g2:=V3 (f:=A7) (l:=m.back) (d:=Au) (by omega)
  have g3:=V3 (f:=Ac) (l:=m.take) (d:=[]) (by omega)
  have g4:=V3 (f:=C0) (l:=m.give) (d:=⟨[],0⟩) (by omega)
  have ok1:=h.ahead.ok _ (Sn (l:=m.ahead) (d:=Au) (by omega))
  have ok2:=h.back.ok _ (Sn (l:=m.back) (d:=Au) (by omega))
  have hm:=hm0.trans (AJ0 ht58 ht83)
  refine Dt [0,1,3,7,0,16,48,112,240,511,1023] 9 Aj (by kernel_rfl) ?_;refine Z8 ?_
  refine Aq (h:=Ai (0) (Ac (m.take.getD 0 [])) (fun _=>g3)) (hr:=?_)
  refine Z33 ?_
  refine Aq (h:=Ai (0) (C0 (m.give.getD 0 ⟨[],0⟩)) (fun _=>g4)) (hr:=?_)
  refine Z92 ?_;exact AKz
 have hm:=hm0.trans (AJ1 ht58 ht83)
 refine Z19 ?_;refine Z58 ?_;exact AA0

def wh (m:Mov):Bool := !(K6 m)
theorem AFf (l:List Mov):(decide ((l.length:Int)≤8) && !(l.any wh))=og l:=by
 unfold og
 rw [show wh=fun m => !(K6 m) from rfl,Lx]
 simp
theorem APw (m:Mov) (h:OkMov m) (Hp:List AObj):AFun Tryz.prog 162 [Jo m] Hp (Az (wh m)):=by
 refine Ae [.tmp 2] [0] Tryz.func162 Tryz.ntmps162 (fun d=>?_)
 refine Z93 ?_;refine Z2 ?_;refine Aa Tryz.call163 (APv m h _) ?_;exact Z99

theorem APx (l:List Mov) (h:OkMovs l) (Hp:List AObj):AFun Tryz.prog 205 [Gm l,.fn (.func 162) [] []] Hp (A3 (P3 wh l)):=by
 refine Ae [.tmp 4] [0,1] Tryz.func205 Tryz.ntmps205 (fun d=>?_)
 refine eg ?_
 refine Bf (α:=Nat) (fun x=>⟨19,A6 0 (Gm l) (A6 1 (.fn (.func 162) [] []) (A6 7 (A3 l.length) (A6 8 (A3 (x:Nat)) (fun _=>.any)))),Hp,[],[],none⟩) (fun x=>x≤l.length∧∀(j:Nat) (y:Mov),j<x→l[j]? = some y→wh y=false) (fun x=>l.length-x) (0) ⟨Ar _,fun j y h=>by omega⟩ (Bj (by simp)) rfl (fun x hx=>?_)
 refine ea ?_
 refine Cr (fun ht9=>?_) (fun ht9=>?_)
 ·have hlt:x<l.length:=by simpa using ht9
  have hlen:=h.len
  refine ee ?_
  refine A5 (h:=Ai (x) (Jo l[x]) (fun _=>B6 hlt)) (hr:=?_)
  refine A5 ?_;refine Mz Tryz.call162 (APw l[x] (h.each _ (Be hlt)) _) ?_;refine en ?_
  refine A4 (fun ht16=>?_) (fun ht16=>?_)
  ·exact zh
  exact zl
 have hxe:l.length≤x:=by simpa using ht9
 exact zn

theorem APy (l:List Mov) (h:OkMovs l) (Hp:List AObj):AFun Tryz.prog 161 [Gm l,.fn (.func 162) [] []] Hp (Az (l.any wh)):=by
 refine Ae [.tmp 4] [0,1] Tryz.func161 Tryz.ntmps161 (fun d=>?_)
 refine el ?_;refine Aa Tryz.call205 (APx l h _) ?_;exact zp

theorem APz (l:List Mov) (h:OkMovs l) (Hp:List AObj):AFun Tryz.prog 126 [Gm l] Hp (Az (og l)):=by
 refine Ae [.tmp 2] [0] Tryz.func126 Tryz.ntmps126 (fun d=>?_)
 refine Z43 ?_;refine un ?_;refine C3 Tryz.call161 (fun hB=>APy l h _) ?_;refine Cd ?_;refine Z65 ?_;exact A8 (Ak A9) ⟨by rw [←AFf,Ao],rfl⟩

theorem c79 (c:List Col) (hc:OkCols c) (l:List Mov) (h:OkMovs l) (Hp:List AObj):AFun Tryz.prog 79 [An c,Gm l] Hp (Az (Ke c l)):=by
 refine Ae [.tmp 4] [0,1] Tryz.func79 Tryz.ntmps79 (fun d=>?_)
 refine Z36 ?_;refine Z2 ?_;refine Aa Tryz.call125 (AMi c hc _) ?_;refine A5 ?_;refine Cd ?_;refine C3 Tryz.call126 (fun hB=>APz l h _) ?_;refine Z0 ?_;refine Z11 ?_;exact A8 (Ak A9) ⟨by unfold Ke;rw [Mh],rfl⟩

theorem wi {Hp:List AObj} {c:List Col} (h:∀x∈Hp,ObjLow Hp.length x):∀x∈Hp++[AObj.cells 30 [An c]],ObjLow (Hp.length+1) x:=by
 intro x hx
 rcases Ei.1 hx with hx|hx
 ·exact L4 (by omega) (h x hx)
 rw [B7.1 hx]
 intro z hz
 rw [B7.1 hz]
 exact Em
theorem c80 (c:List Col) (l:List Mov) (Hp:List AObj):ACallO Tryz.prog 80 [An c,Gm l] Hp (fun r H'=>r=.fn (.func 127) [] [.ro [Gm l],.ptr (oid Hp.length 0) 0]∧H'=Hp++[.cells 30 [An c]]):=by
 refine ACallO.body [.tmp 4] [0,1] Tryz.func80 Tryz.ntmps80 (fun d=>?_)
 refine zr ?_;refine Z0 ?_;refine Kc ?_;refine Ez ?_
 refine Jx (fun hlow=>?_)
 refine AK8 ?_;refine Z11 ?_;exact K.finO 1 (A9 (t:=4)) ⟨rfl,rfl⟩ (hlow:=by simp [oid,or_imp,forall_and];exact ⟨fun m _ a _=>Ah _ a,fun m _ a _=>Ah _ a⟩) (hobj:=wi hlow)

theorem AMw (l oc:Nat) (ms:List Mov) (hm:∀m∈ms,MvOk m) (hml:ms.length≤1048576) (C:Nat→List Col) (hC:∀k,OkCols (C k)) (U T:Nat→List AObj) (N:Nat→Prop) (Z:List AObj→Prop) (hlen:∀k,(U k).length=(U 0).length) (hlenW:∀k,(T k).length=(U 0).length) (hll:l<(U 0).length) (hol:oc<(U 0).length)
  (hlw:∀k,∀x∈U k,ObjLow (U 0).length x) (hlW:∀k,∀x∈T k,ObjLow (U 0).length x) (h0:N 0) (hc:∀k,(U k)[oc]? = some (.cells 30 [An (C k)])) (hcW:∀k,(T k)[oc]? = some (.cells 30 [An (C k)]))
  (hn:∀k m,ms[k]? = some m→(By (C k) m).2=0→(T k).set oc (.cells 30 [An (By (C k) m).1])=U (k+1))
  (hy:∀k m X,ms[k]? = some m→N k→AYield Tryz.prog l [An (By (C k) m).1,A3 (By (C k) m).2] (U k++X) (fun b H'=>((By (C k) m).2≠0∧∃V,H'=V++X∧V.length=(U 0).length∧(∀x∈V,ObjLow (U 0).length x)∧Z V)∨((By (C k) m).2=0∧b=true∧N (k+1)∧H'=T k++X)))
  (hR:N ms.length→Z (U ms.length)):ACall Tryz.prog 127 [.yield l,.ro [Gm ms],.ptr oc 0] (U 0) (fun _ H'=>Z H'):=by
 refine Ae [] [0,1,2] Tryz.func127 Tryz.ntmps127 (fun d=>?_)
 refine Z15 ?_;refine A2 [0,2,8,9,10] ?_
 refine Bf (α:=Nat) (fun x=>⟨31,A6 0 (.yield l) (A6 2 (.ptr oc 0) (A6 8 (Gm ms) (A6 9 (A3 ms.length) (A6 10 (A3 (x:Nat)) (fun _=>.any))))),U x,[],[],none⟩) (fun x=>x≤ms.length∧N x) (fun x=>ms.length-x) (0) ⟨Ar _,h0⟩ (Bj (by simp)) rfl (fun x hx=>?_)
 refine Z2 ?_;refine A2 [0,2,8,9,10,11] ?_
 refine Cr (fun ht11=>?_) (fun ht11=>?_)
 ·have hlt:x<ms.length:=by simpa using ht11
  refine Z76 ?_
  refine A5 (h:=Ai (x) (Jo ms[x]) (fun _=>B6 hlt)) (hr:=?_)
  refine Qw ?_;refine A2 [0,2,5,8,9,10] ?_;refine Ez ?_
  refine A5 (h:=B8 (hc x)) (hr:=?_)
  refine A5 ?_;refine Aa Tryz.call128 (APo (C x) (hC x) ms[x] (hm _ (Be hlt)) _) ?_;refine Z81 ?_;refine A2 [0,2,6,7,8,9,10] ?_;refine Z31 ?_
  refine R.yield (l:=l) (args:=[An (By (C x) ms[x]).1,A3 (By (C x) ms[x]).2]) (hy x ms[x] _ (Ab hlt) hx.2) ?_
  intro b V O hV hb
  have hVO:O=[AObj.cells 80 (Ng ms[x])]∧(((By (C x) ms[x]).2≠0∧V.length=(U 0).length∧(∀y∈V,ObjLow (U 0).length y)∧Z V)∨((By (C x) ms[x]).2=0∧b=true∧N (x+1)∧V=T x)):=by
   rcases hb with ⟨h1,V',h2,h3,h4,h5⟩|⟨h1,h2,h3,h4⟩
   ·obtain ⟨rfl,rfl⟩:=I3 h2 (by rw [hV,hlen x,h3])
    exact ⟨rfl,.inl ⟨h1,h3,h4,h5⟩⟩
   have h6:=I3 h4 (by rw [hV,hlen x,hlenW x])
   exact ⟨h6.2,.inr ⟨h1,h2,h3,h6.1⟩⟩
  obtain ⟨rfl,hVO⟩:=hVO
  have hVl:V.length=(U 0).length:=by rw [hV,hlen x]
  have hVw:∀y∈V,ObjLow (U 0).length y:=by
   rcases hVO with ⟨_,_,h,_⟩|⟨_,_,_,rfl⟩
   ·exact h
   exact hlW _
  refine ⟨fun _=>by rw [hVl];exact hVw,fun o ho=>(by cases ho),?_⟩
  refine Z35 ?_;refine A5 ?_;refine A2 [0,2,6,8,9,10,28] ?_
  refine A4 (fun ht28=>?_) (fun ht28=>?_)
  ·have hZ:Z V:=by
    rcases hVO with ⟨_,_,_,h⟩|⟨h1,h2,_,_⟩
    ·exact h
    rw [h1,h2] at ht28;simp at ht28
   refine Z34 ?_;refine Z32 ?_;exact A8 .nores (hp:=hZ)
  have hVn:(By (C x) ms[x]).2=0∧N (x+1)∧V=T x:=by
   rcases hVO with ⟨h1,_,_,_⟩|⟨h1,_,h3,h4⟩
   ·simp [h1] at ht28
   exact ⟨h1,h3,h4⟩
  obtain ⟨hz,hN,rfl⟩:=hVn
  have hnx:=hn x _ (Ab hlt) hz
  refine Z3 ?_;refine Z44 ?_
  refine Cq jS (hcW x) ?_ ?_
  ·first|exact Em|(simp [or_imp,forall_and];done)
  refine A2 [0,2,8,9,10] ?_;refine Ry ?_;refine A2 [0,2,8,9,10] ?_;refine AEb ?_
  rw [hnx]
  exact Di (own:=[]) (fun _=>.refl _) (by repeat (first|exact Bc|refine Bb (by first|(simp [or_imp,forall_and];done)|exact Sm|(have:=hlen (x+1);simp;omega)) ?_)) (by simp) (by simp)
 have hxe:x=ms.length:=by have:=hx.1;simp at ht11;omega
 exact AHn

/-! The columns on the way through moves. -/
def colsAt (c:List Col) (ms:List Mov):Nat→List Col
 | 0=>c
 | k+1=>match ms[k]? with|some m=>(By (colsAt c ms k) m).1|none=>colsAt c ms k
def Cv (c:List Col) (ms:List Mov):Nat→List (List Col)
 | 0=>[c]
 | k+1=>Cv c ms k++[colsAt c ms (k+1)]
def NS (c:List Col) (ms:List Mov) (k:Nat):Prop:=Ca c ms=((Cv c ms k).dropLast++(Ca (colsAt c ms k) (ms.drop k)).1,(Ca (colsAt c ms k) (ms.drop k)).2)
theorem ry (c:List Col) (ms:List Mov) (k:Nat):(Cv c ms k).dropLast++[colsAt c ms k]=Cv c ms k:=by
 cases k with
 | zero=>rfl
 | succ k=>simp [Cv]
theorem H5 {c:List Col} {ms:List Mov} {k:Nat} {m:Mov} (h:ms[k]? = some m):colsAt c ms (k+1)=(By (colsAt c ms k) m).1:=by rw [colsAt,h]
theorem Lf {ms:List Mov} {k:Nat} {m:Mov} (hk:ms[k]? = some m):ms.drop k=m::ms.drop (k+1):=by
 obtain ⟨h1,h2⟩:=Ad.1 hk
 rw [I4 h1,h2]
theorem AJ2 {c:List Col} {ms:List Mov}:NS c ms 0:=rfl
theorem fx {c:List Col} {ms:List Mov} {k:Nat} {m:Mov} (hk:ms[k]? = some m) (h:NS c ms k) (he:(By (colsAt c ms k) m).2=0):NS c ms (k+1):=by
 unfold NS at h ⊢
 rw [h,Lf hk]
 have e:Ca (colsAt c ms k) (m::ms.drop (k+1))=(colsAt c ms k::(Ca (By (colsAt c ms k) m).1 (ms.drop (k+1))).1,(Ca (By (colsAt c ms k) m).1 (ms.drop (k+1))).2):=by
  rw [Ca,if_neg (by rw [he];simp)]
 have e2:(Cv c ms (k+1)).dropLast=Cv c ms k:=by simp [Cv]
 rw [e,e2,H5 hk]
 have e3:=ry c ms k
 refine Prod.ext ?_ rfl
 show (Cv c ms k).dropLast++(colsAt c ms k::_)=Cv c ms k++_
 conv=>rhs;rw [←e3]
 simp
theorem g0 {c:List Col} {ms:List Mov} {k:Nat} {m:Mov} (hk:ms[k]? = some m) (h:NS c ms k) (he:(By (colsAt c ms k) m).2≠0):(Ca c ms).2=(By (colsAt c ms k) m).2:=by
 unfold NS at h
 rw [h,Lf hk,Ca,if_pos (by simpa using he)]
theorem oo {c:List Col} {ms:List Mov} (h:NS c ms ms.length):Ca c ms=(Cv c ms ms.length,0):=by
 unfold NS at h
 rw [h,W4,Ca]
 exact Prod.ext (ry c ms ms.length) rfl
theorem AC1 {c:List Col} {m:Mov} (hc:OkCols c) (h:OkMov m):OkCols (By c m).1:=by
 have h0:OkCols ([]:List Col):=⟨by decide,fun y hy=>by cases hy⟩
 unfold By
 split
 ·exact h0
 split
 ·exact h0
 split
 ·exact h0
 exact kn hc (km h) (by rw [Ml];exact h.gives2)
theorem Gc {c:List Col} {ms:List Mov} (hc:OkCols c) (h:∀m∈ms,OkMov m):∀k,OkCols (colsAt c ms k)
 | 0=>hc
 | k+1=>by
  rw [colsAt]
  cases hk:ms[k]? with
  | none=>exact Gc hc h k
  | some m=>exact AC1 (Gc hc h k) (h m (B2 hk))
theorem Jp (c:List Col) (ms:List Mov):∀k,(Cv c ms k).length=k+1
 | 0=>rfl
 | k+1=>by rw [Cv,Av,Jp c ms k];rfl
theorem AC2 {c:List Col} {ms:List Mov} (h:Ke c ms=true) (hk:OkMovs ms):(∀m∈ms,MvOk m)∧ms.length≤8:=by
 unfold Ke og at h
 simp only [At,decide_eq_true_eq,B0] at h
 exact ⟨fun m hm=>AF8 (hk.each m hm) (U7 (h.2.2 m hm)),by omega⟩
theorem bo {c:List Col} {ms:List Mov} (h:Ke c ms=false):Cn c ms=([],1):=by
 have:Hd c ms=([],1):=if_neg (by rw [h];simp)
 unfold Cn
 rw [this];rfl
theorem Y4 {c:List Col} {ms:List Mov} (h:Ke c ms=true) (he:(Ca c ms).2≠0):Cn c ms=([],(Ca c ms).2):=by
 have:Hd c ms=Ca c ms:=if_pos h
 unfold Cn
 rw [this,if_pos (by simpa using he)]
theorem bq {c:List Col} {ms:List Mov} {o:List (List Col)} (h:Ke c ms=true) (he:Ca c ms=(o,0)):Cn c ms=(o,0):=by
 have:Hd c ms=Ca c ms:=if_pos h
 unfold Cn
 rw [this,he];rfl
abbrev Mc (l:List (List Col)):AV:=.slice false 1 (l.map An)
theorem Mm {n k:Nat} {o:Bool} {l:List (List Col)}:Low n (.slice o k (l.map An)):=low_slice.2 fun y hy=>by
 obtain ⟨m,_,rfl⟩:=C2.1 hy
 exact Em
theorem AJ3 {U:List AObj} {i j:Nat} {x y:AObj} (h:U[i]? = some x) (hne:j≠i):(U.set j y)[i]? = some x:=by rw [Bh hne];exact h
theorem wj {n k:Nat} {o:Bool} {l:List (List Col)} {c:List Col}:Low n (.slice o k (l.map An++[An c])):=by
 have:=Mm (n:=n) (k:=k) (o:=o) (l:=l++[c])
 rwa [Bq] at this
theorem c46 (c:List Col) (hc:OkCols c) (hc2:c.length≤1000000) (l:List Mov) (h:OkMovs l) (Hp:List AObj):AFun Tryz.prog 46 [An c,Gm l] Hp (.tup [Mc (Cn c l).1,A3 (Cn c l).2]):=by
 refine Ae [.cell 4 41,.cell 5 38] [0,1,7,8] Tryz.func46 Tryz.ntmps46 (fun d=>?_)
 refine zq ?_;refine A2 [0,1,4,5,7,8] ?_;refine Z7 ?_;refine Aa Tryz.call79 (c79 c hc l h _) ?_;refine A5 ?_;refine A2 [0,1,4,5,7,8,12] ?_
 refine A4 (fun ht12=>?_) (fun ht12=>?_)
 ·have hm:=bo (by simpa using ht12)
  refine zg ?_;refine Kz 0 1 ?_;refine Fw ?_;refine Z10 ?_;exact ADq
 have hmay:Ke c l=true:=by simpa using ht12
 obtain ⟨hmv,hl8⟩:=AC2 hmay h
 refine Qz ?_;refine Aa Tryz.call92 (c92 c hc2 _) ?_;refine Tj ?_;refine R0 ?_;refine Wj jS ?_;refine A2 [0,1,4,5,6,7,8] ?_;refine Z54 ?_
 refine Jx (fun hlow=>?_)
 refine Z0 ?_;refine R.callO Tryz.call80 (c80 c l _) ?_
 rintro _ _ ⟨rfl,rfl⟩
 refine ⟨[.cells 30 [An c]],by simp,?_⟩
 rw [show oid (Hp++[AObj.cells 41 [AV.nil],AObj.cells 38 [A3 0],AObj.cells 41 [AV.slice true 1 [An c]]]).length 0=oid Hp.length 3 by simp [oid]]
 simp only [Dk,D9]
 refine A2 [4,5,6,7,8,18] ?_;refine Jy ?_
 refine L0 (m:=4) Tryz.call127 (fun FR as' bd' hFR has hbd=>?_)
 have hFRl:∀s,Low (Hp.length+6) (FR s):=by
  intro s
  rw [hFR]
  refine M3 ?_
  revert s
  repeat (first|exact Bc|refine Bb (by first|(simp [oid,or_imp,forall_and];done)|(simp [oid,or_imp,forall_and];exact ⟨fun m _ a _=>Ah _ a,fun m _ a _=>Ah _ a⟩)|(simp [oid,or_imp,forall_and]<;>omega)) ?_)
 have hOl:∀{e:Int} {o:List (List Col)} {q:List Col} {lp:AObj},ObjLow (Hp.length+6) lp→∀x∈Hp++[AObj.cells 41 [AV.nil],AObj.cells 38 [A3 e],AObj.cells 41 [AV.slice true 1 ((o).map An)],AObj.cells 30 [An (q)],AObj.defs,lp],ObjLow (Hp.length+6) x:=by
  intro e o q lp hlp x hx
  refine Ic (fun x hx=>L4 (by omega) (hlow x hx)) (fun x hx=>?_) x hx
  simp only [B4,E2,or_false] at hx
  rcases hx with rfl|rfl|rfl|rfl|rfl|rfl
  ·intro y hy;rw [B7.1 hy];simp
  ·intro y hy;rw [B7.1 hy];simp
  ·intro y hy;rw [B7.1 hy];exact Mm
  ·intro y hy;rw [B7.1 hy];exact Em
  ·trivial
  exact hlp
 refine ⟨_,AMw (oid Hp.length 5) (oid Hp.length 3) l hmv (by omega) (colsAt c l) (Gc hc fun m hm=>h.each m hm) (fun k=>Hp++[AObj.cells 41 [AV.nil],AObj.cells 38 [A3 0],AObj.cells 41 [AV.slice true 1 ((Cv c l k).map An)],AObj.cells 30 [An (colsAt c l k)],AObj.defs,AObj.loop LoopState.ready none FR 29 #[19,20] as' bd' (oid Hp.length 4)]) (fun k=>Hp++[AObj.cells 41 [AV.nil],AObj.cells 38 [A3 0],AObj.cells 41 [AV.slice true 1 ((Cv c l (k+1)).map An)],AObj.cells 30 [An (colsAt c l k)],AObj.defs,AObj.loop LoopState.ready none FR 29 #[19,20] as' bd' (oid Hp.length 4)]) (NS c l) (fun V=>(∃(o:List (List Col)) (q:List Col),V=Hp++[AObj.cells 41 [AV.nil],AObj.cells 38 [A3 0],AObj.cells 41 [AV.slice true 1 ((o).map An)],AObj.cells 30 [An (q)],AObj.defs,AObj.loop LoopState.ready none FR 29 #[19,20] as' bd' (oid Hp.length 4)]∧Ca c l=(o,0))∨(∃(e:Int) (o:List (List Col)) (q:List Col),V=Hp++[AObj.cells 41 [AV.nil],AObj.cells 38 [A3 e],AObj.cells 41 [AV.slice true 1 ((o).map An)],AObj.cells 30 [An (q)],AObj.defs,AObj.loop LoopState.done (some Code.ret) FR 29 #[19,20] as' bd' (oid Hp.length 4)]∧e≠0∧(Ca c l).2=e)) (fun k=>by simp) (fun k=>by simp) (by simp [oid]) (by simp [oid]) (fun k=>(fun x hx=>by rw [Av];exact hOl (lp:=AObj.loop LoopState.ready none FR 29 #[19,20] as' bd' (oid Hp.length 4)) (by exact ⟨hFRl,by simp [oid]⟩) x hx)) (fun k=>(fun x hx=>by rw [Av];exact hOl (lp:=AObj.loop LoopState.ready none FR 29 #[19,20] as' bd' (oid Hp.length 4)) (by exact ⟨hFRl,by simp [oid]⟩) x hx)) AJ2 (fun k=>by rw [As];rfl) (fun k=>by rw [As];rfl) (fun k m hk he=>by rw [Cp];simp only [H5 hk];rfl) (fun k m X hk hN=>?_) (fun hN=>.inl ⟨_,_,rfl,oo hN⟩),?_⟩
 ·generalize hV:Hp++[AObj.cells 41 [AV.nil],AObj.cells 38 [A3 0],AObj.cells 41 [AV.slice true 1 ((Cv c l k).map An)],AObj.cells 30 [An (colsAt c l k)],AObj.defs,AObj.loop LoopState.ready none FR 29 #[19,20] as' bd' (oid Hp.length 4)]++X=V
  have hL:V[oid Hp.length 5]? = some (AObj.loop LoopState.ready none FR 29 #[19,20] as' bd' (oid Hp.length 4)):=by rw [←hV,Ax,As];rfl
  have hA0:V[oid Hp.length 2]? = some (AObj.cells 41 [AV.slice true 1 ((Cv c l k).map An)]):=by rw [←hV,Ax,As];rfl
  have hB0:V[oid Hp.length 0]? = some (AObj.cells 41 [AV.nil]):=by rw [←hV,Ax,As];rfl
  have hC0:V[oid Hp.length 1]? = some (AObj.cells 38 [A3 0]):=by rw [←hV,Ax,As];rfl
  refine Iy (pd:=none) (fr:=FR) (sz:=29) (ps:=#[19,20]) (df:=oid Hp.length 4) (asg:=as') (bd:=bd') hL rfl (by decide) (fun d=>?_)
  subst hFR has hbd
  refine Fd [4,5,6,19,20] ?_;refine Z2 ?_;refine A2 [4,5,6,7,20] ?_;refine Z44 ?_;refine A2 [4,5,6,7,8] ?_
  refine ⟨rfl,none,hL,?_⟩
  generalize hbz:(AObj.loop LoopState.busy _ _ _ _ _ _ _)=bz
  have hA:(V.set (oid Hp.length 5) bz)[oid Hp.length 2]? = some (AObj.cells 41 [AV.slice true 1 ((Cv c l k).map An)]):=by rw [Bh (Bv (by decide))];exact hA0
  have hB:(V.set (oid Hp.length 5) bz)[oid Hp.length 0]? = some (AObj.cells 41 [AV.nil]):=by rw [Bh (Bv (by decide))];exact hB0
  have hC:(V.set (oid Hp.length 5) bz)[oid Hp.length 1]? = some (AObj.cells 38 [A3 0]):=by rw [Bh (Bv (by decide))];exact hC0
  refine mw ?_;refine A2 [4,5,6,7,8,22] ?_
  refine A4 (fun ht22=>?_) (fun ht22=>?_)
  ·have he:(By (colsAt c l k) m).2≠0:=by simpa using ht22
   refine Z2 ?_
   refine Cq jS hB ?_ ?_
   ·simp
   refine Cq jS (AJ3 hC (Bv (by decide))) ?_ ?_
   ·simp
   refine uj ?_
   subst hbz
   refine ut ?_
   refine .inl ⟨he,Hp++[AObj.cells 41 [AV.nil],AObj.cells 38 [A3 (By (colsAt c l k) m).2],AObj.cells 41 [AV.slice true 1 ((Cv c l k).map An)],AObj.cells 30 [An (colsAt c l k)],AObj.defs,_],?_,by simp,(fun x hx=>by rw [Av];exact hOl (lp:=_) (by exact ⟨hFRl,by simp [oid]⟩) x hx),.inr ⟨_,_,_,rfl,he,g0 hk hN he⟩⟩
   subst hV
   simp only [Ax,Cp,Dk,D9,List.set_cons_succ,List.set_cons_zero]
  have he:(By (colsAt c l k) m).2=0:=by simpa using ht22
  refine Z3 ?_;refine Gf ?_;refine AE2 ?_
  refine Ep jU Tryz.type30 ?_ ?_ ?_
  ·have hol:=Jp c l k;have hkl:=(Ad.1 hk).1;simp [Tryz.t30];omega
  ·have hol:=Jp c l k;have hkl:=(Ad.1 hk).1;simp [Tryz.t30];omega
  refine Fv jS (getset hA) ?_ ?_
  ·exact wj
  refine Z91 ?_
  subst hbz
  refine zw ?_
  refine .inr ⟨he,rfl,fx hk hN he,?_⟩
  subst hV
  simp only [Ax,Cp,Dk,D9,List.set_cons_succ,List.set_cons_zero]
  rw [Cv,H5 hk,Bq]
  rfl
 rintro r H' (⟨o,q,rfl,hrun⟩|⟨e,o,q,rfl,hne,hrun⟩)
 ·refine ⟨Hp,_,_,_,rfl,rfl,fun h=>h,?_,rfl,by simp,?_⟩
  ·intro o ho
   have:o=oid Hp.length 4:=by simpa using ho
   subst this
   rw [As]
   rfl
  refine Z12 ?_;refine mu ?_;refine Z10 ?_;exact A8 (B1 (Dm jA) (Dm jA)) ⟨by rw [bq hmay hrun],rfl⟩ (hlow:=by simp only [Vp,B4,E2,or_false];rintro y (rfl|rfl);exact Mm;simp)
 refine ⟨Hp,_,_,_,rfl,rfl,fun h=>h,?_,rfl,by simp,?_⟩
 ·intro o ho
  have:o=oid Hp.length 4:=by simpa using ho
  subst this
  rw [As]
  rfl
 refine Wm 0 1 ?_;refine Zf ?_;exact A8 (B1 (Dm jA) (Dm jA)) ⟨by rw [Y4 hmay (by rw [hrun];exact hne),hrun];rfl,rfl⟩

theorem wl (c:List Col) (ms:List Mov):(Ca c ms).1≠[]:=by
 cases ms with
 | nil=>simp [Ca]
 | cons m r =>
  rw [Ca]
  split<;>simp
theorem Y5:∀(c:List Col) (ms:List Mov),(Ca c ms).1.length≤ms.length+1
 | c,[]=>by simp [Ca]
 | c,m::r=>by
  rw [Ca]
  split
  ·simp
  have:=Y5 (By c m).1 r
  simp only [Bi]
  omega
theorem wm {c:List Col} {ms:List Mov} (h:((Cn c ms).2 != 0)=false):(Cn c ms).1≠[]∧(Cn c ms).1.length≤9:=by
 unfold Cn at h ⊢
 by_cases h1:((Hd c ms).2 != 0)=true
 ·rw [if_pos h1] at h
  rw [h1] at h;cases h
 rw [if_neg h1]
 by_cases h2:Ke c ms=true
 ·have e:Hd c ms=Ca c ms:=if_pos h2
  rw [e]
  have h3:ms.length≤8:=by
   unfold Ke og at h2
   simp only [At,decide_eq_true_eq] at h2
   omega
  have:=Y5 c ms
  exact ⟨wl c ms,by omega⟩
 have e:Hd c ms=([],1):=if_neg h2
 rw [e] at h1
 exact absurd rfl h1
theorem AC3 {l:List (List Col)} (h:l≠[]):(l.map An)[l.length-1]? = some (An (l.getLastD [])):=by
 have h1:0<l.length:=List.length_pos_iff.2 h
 rw [Bz,Ab (by omega),←List.getLast_eq_getElem (h:=h),ym,List.getLast?_eq_some_getLast h]
 rfl
theorem c21 (c:List Col) (hc:OkCols c) (hc2:c.length≤1000000) (l:List Mov) (h:OkMovs l) (Hp:List AObj):AFun Tryz.prog 21 [An c,Gm l] Hp (.tup [An (E5 c l).1,A3 (E5 c l).2]):=by
 refine Ae [.tmp 4,.tmp 5] [0,1] Tryz.func21 Tryz.ntmps21 (fun d=>?_)
 refine ec ?_;refine AHz ?_;refine Z81 ?_;refine A2 [6,7] ?_;refine Z7 ?_;refine A2 [6,7,15] ?_
 refine A4 (fun ht15=>?_) (fun ht15=>?_)
 ·have hm:E5 c l=([],(Cn c l).2):=if_pos ht15
  exact AE6
 have hm:E5 c l=((Cn c l).1.getLastD [],0):=if_neg (by rw [ht15];simp)
 obtain ⟨hne,hl9⟩:=wm ht15
 have hl0:0<(Cn c l).1.length:=List.length_pos_iff.2 hne
 refine Qy ?_
 rw [Ao]
 refine A5 (h:=Q.sub64 (h1:=fun _=>by omega) (h2:=fun _=>by omega)) (hr:=?_)
 refine A5 (h:=Ai (((Cn c l).1.length-1)) (An ((Cn c l).1.getLastD [])) (fun _=>AC3 hne)) (hr:=?_)
 refine Z13 ?_;exact AKu

theorem ACall.argLe {P:Program} {g:FuncId} {args args':List AV} {H:List AObj} {post:AV→List AObj→Prop} (h:ACall P g args' H post) (hl:args.length=args'.length) (hle:∀(i:Nat) (y y':AV),args[i]? = some y→args'[i]? = some y'→Le y y'):ACall P g args H post:=
 fun d G w vs h1 h2 h3 h4=>h d G w vs (h1.trans hl) (fun i y u hy hu=>by
  have hi:i<args.length:=by rw [hl];exact (Ad.1 hy).1
  exact (h2 i _ u (Ab hi) hu).le (hle i _ y (Ab hi) hy)) h3 h4
theorem wn (s:Str):Le (.agg [A3 2,Ac s,A3 0,A3 0,Ac [],.nil]) (A7 (Cm s)):=by
 rw [Al]
 refine .agg _ _ rfl (fun y hy=>?_) (fun i y y' hy hy'=>?_)
 ·simp only [E4,B4,E2,or_false] at hy
  rcases hy with rfl|rfl|rfl|rfl|rfl|rfl<;>rfl
 match i with
 | 0=>simp at hy;subst hy;simp [E4,Cm] at hy';subst hy';exact .inl rfl
 | 1=>simp at hy;subst hy;simp [E4,Cm] at hy';subst hy';exact .inl rfl
 | 2=>simp at hy;subst hy;simp [E4,Cm] at hy';subst hy';exact .inl rfl
 | 3=>simp at hy;subst hy;simp [E4,Cm] at hy';subst hy';exact .inl rfl
 | 4=>simp at hy;subst hy;simp [E4,Cm] at hy';subst hy';exact .inl rfl
 | 5=>simp at hy;subst hy;simp [E4,Cm] at hy';subst hy';exact .inr ⟨rfl,6,rfl⟩
 | i+6=>simp at hy
theorem wo {n k:Nat} {o:Bool} {l:List Str}:Low n (.slice o k (l.map Ac)):=by simp [or_imp,forall_and]
def Dy (c:List Col):List Expr:=c.map fun x=>Cm x.name
theorem Lg {n k:Nat} {o:Bool} {a:List Expr} {e:Expr}:Low n (.slice o k (a.map A7++[A7 e])):=low_slice.2 fun y hy=>by
 rcases Ei.1 hy with h|h
 ·obtain ⟨m,_,rfl⟩:=C2.1 h
  exact Ah _ _
 rw [B7.1 h]
 exact Ah _ _
theorem Dz {n k:Nat} {o:Bool} {a:List Expr}:Low n (.slice o k (a.map A7)):=low_slice.2 fun y hy=>by
 obtain ⟨m,_,rfl⟩:=C2.1 hy
 exact Ah _ _
theorem c74 (c:List Col) (hc:c.length≤1048576) (Hp:List AObj):AFun Tryz.prog 74 [An c] Hp (Bo (Dy c)):=by
 refine Ae [.tmp 2] [0] Tryz.func74 Tryz.ntmps74 (fun d=>?_)
 refine Z43 ?_;refine Z2 ?_;refine Nv ?_;refine Z54 ?_;refine Qu 3 6 ?_;refine Z13 ?_;refine A2 [3,6,7,8] ?_
 refine Bf (α:=Nat) (fun x=>⟨20,A6 3 (.slice true 6 (((c.take x).map fun y=>Cm y.name).map A7)) (A6 6 (An c) (A6 7 (A3 (c.length:Nat)) (A6 8 (A3 (x:Nat)) (fun _=>.any)))),Hp,[],[],none⟩) (fun x=>x≤c.length) (fun x=>c.length-x) (0) (Ar _) (Bj (by simp)) rfl (fun x hx=>?_)
 refine Z2 ?_;refine A2 [3,6,7,8,9] ?_
 refine Cr (fun ht9=>?_) (fun ht9=>?_)
 ·have hlt:x<c.length:=by simpa using ht9
  refine Z76 ?_
  refine A5 (h:=Ai (x) (C0 c[x]) (fun _=>B6 hlt)) (hr:=?_)
  refine Qw ?_;refine A2 [3,5,6,7,8] ?_;refine ue ?_;refine Z0 ?_;refine uu ?_;refine R.wk 15 _ (wn c[x].name) ?_;refine Tj ?_
  refine Ep jU Tryz.type27 ?_ ?_ ?_
  ·simp only [Ao,Cy,Bi,Cb,Tryz.t27];omega
  ·simp only [Ao,Cy,Bi,Cb,Tryz.t27];omega
  refine Jv ?_;refine A2 [3,6,7,8] ?_;refine Ry ?_;refine A2 [3,6,7,8] ?_;refine Bg (x+1) hlt (by omega) ?_
  rw [Pq hlt,Bq]
  exact Di (own:=[]) (fun _=>.refl _) (by repeat (first|exact Bc|refine Bb (by first|(simp [or_imp,forall_and];done)|exact Lg|exact Em) ?_)) (by simp) (by simp)
 have hxe:c.length≤x:=by simpa using ht9
 refine Z28 ?_;refine Z1 ?_;refine Z4 ?_;exact A8 (Ak A9) ⟨by unfold Dy;rw [Eo hxe],rfl⟩ (hlow:=Dz)

/-! fuse: trees in columns' places. -/
mutual
def putF (c:List Col) (l:List Expr):Expr→Option Expr
 | .mk o t v k=>if o==2 then (if Aw t c<0 then none else some (l.getD (Aw t c).toNat Au)) else (G8 c l k).map fun k'=>.mk o t v k'
def G8 (c:List Col) (l:List Expr):List Expr→Option (List Expr)
  | []=>some []
  | e::r=>match putF c l e with
    | none=>none
    | some y=>(G8 c l r).map fun s=>y::s
 end
/-- fuse.Over. -/
def Da (x:Expr) (c:List Col) (l:List Expr):Expr×Int:=
 if (((!(Ay x)) || l.any Dx) || !(Ip c)) || ((c.length:Int) != (l.length:Int)) then (Au,1)
 else match putF c l x with
  | none=>(Au,9)
  | some y=>if Ay y then (y,0) else (Au,3)
/-- fuse.over: the trees, till one goes wrong. -/
def C1 (c:List Col) (by_:List Expr):List Expr→List Expr×Int
 | []=>([],0)
 | x::r=>if (Da x c by_).2 != 0 then ([],(Da x c by_).2) else if (C1 c by_ r).2 != 0 then ([],(C1 c by_ r).2) else ((Da x c by_).1::(C1 c by_ r).1,0)
/-- fuse.stay. -/
def Eb (take:List Str):List Col→List Expr→List Expr
 | y::c,x::l=>if take.contains y.name then Eb take c l else x::Eb take c l
 | _,_=>[]
theorem Mn {take:List Str}:∀{c:List Col} {l:List Expr},c.length=l.length→(Eb take c l).length=(Eg c take).length
 | [],[],_=>rfl
 | [],_::_,h=>by simp at h
 | _::_,[],h=>by simp at h
 | y::c,x::l,h=>by
  have ih:=Mn (take:=take) (c:=c) (l:=l) (by simpa using h)
  unfold Eb Eg
  by_cases hc:take.contains y.name=true
  ·rw [if_pos hc]
   simp only [O0,hc,Kp,Bt,if_false]
   exact ih
  rw [if_neg hc]
  have hc':take.contains y.name=false:=by simpa using hc
  simp only [O0,hc',lv,if_true,Bi]
  exact congrArg (·+1) ih
theorem Lh {c:List Col} {by_:List Expr}:∀(l:List Expr),(C1 c by_ l).2=0→(C1 c by_ l).1.length=l.length
 | [],_=>rfl
 | x::r,h=>by
  unfold C1 at h ⊢
  split at h
  ·rename_i h1
   exact absurd h (by simpa using h1)
  rename_i h1
  rw [if_neg h1]
  split at h
  ·rename_i h2
   exact absurd h (by simpa using h2)
  rename_i h2
  rw [if_neg h2]
  have:=Lh (c:=c) (by_:=by_) r (by simpa using h2)
  simp [this]
set_option maxRecDepth 8000
/-! How long a print is. -/
theorem AC4 {t:Str} (h:0≤N7 t):t.length≤3:=by
 rcases jq t with hm|⟨hm,_⟩
 ·have h3:(levels.flatten.all fun s=>decide (s.length≤3))=true:=by kernel_rfl
  exact of_decide_eq_true (B0.1 h3 t hm)
 omega
theorem ot {t:Str} {n:Nat} (h:Cf t=(n:Int)):t.length≤6:=by
 rcases Rd h with ⟨e,_⟩|⟨e,_⟩|⟨e,_⟩|⟨e,_⟩|⟨e,_⟩|⟨e,_⟩|⟨e,_⟩|⟨e,_⟩<;>rw [e]<;>decide
set_option maxRecDepth 4000
theorem ou {e:Expr} (h:Ew e=true):e.text.length≤16∧e.kids.length≤8:=by
 cases L7 h with
 | val v hp h0=>exact ⟨by simp [Ox,Expr.text],by simp [Ox,Expr.kids]⟩
 | name t ht =>
  refine ⟨?_,by simp [Cm,Expr.kids]⟩
  show t.length≤16
  cases t with
  | nil=>simp
  | cons c r =>
   simp only [Q6,At,decide_eq_true_eq] at ht
   exact ht.1.1.1
 | neg a=>exact ⟨by simp [Ll,Expr.text],by simp [Ll,Expr.kids]⟩
 | no a=>exact ⟨by simp [Ll,Expr.text],by simp [Ll,Expr.kids]⟩
 | bin t a b ht=>exact ⟨by have:=AC4 ht;show t.length≤16;omega,by simp [N8,Expr.kids]⟩
 | call t k ha =>
  refine ⟨by have:=ot ha;show t.length≤16;omega,?_⟩
  show k.length≤8
  rcases Rd ha with ⟨_,e⟩|⟨_,e⟩|⟨_,e⟩|⟨_,e⟩|⟨_,e⟩|⟨_,e⟩|⟨_,e⟩|⟨_,e⟩<;>omega
theorem br:∀{l:List Expr} {y:Expr},y∈l→depthE y≤Ou l
 | a::r,y,h=>by
  rw [Ou]
  rcases B4.1 h with rfl|h
  ·omega
  have:=br h
  omega
theorem rz:∀(n:Nat) (e:Expr),depthE e≤n→E0 Ew e=true→okE n e
 | 0,e,h,_=>by rw [az] at h;omega
 | n+1,e,h,hn=>by
  rw [Jf,At] at hn
  rw [az] at h
  have hs:=ou hn.1
  refine ⟨by omega,by omega,fun y hy=>rz n y (by have:=br hy;omega) ((Fh _ _).1 hn.2 y hy)⟩
theorem U8 {e:Expr} (h:Fi e=true):okE 30 e∧sizeE e≤300:=by
 have h1:=Re h
 unfold Fi at h
 simp only [At,decide_eq_true_eq] at h
 exact ⟨rz 30 e h.1.1 h1,h.1.2⟩
def kp (c:List Col) (l:List Expr) (e:Expr):Expr:=(putF c l e).getD Au
theorem bt {c:List Col} {l:List Expr}:∀{k:List Expr},(∀(j:Nat) (y:Expr),k[j]? = some y→(!(putF c l y).isSome)=false)→G8 c l k=some (k.map (kp c l))
 | [],_=>rfl
 | e::r,h=>by
  have h1:=h 0 e rfl
  have h2:=bt (c:=c) (l:=l) (k:=r) (fun j y hy=>h (j+1) y hy)
  rw [G8]
  cases he:putF c l e with
  | none=>rw [he] at h1;cases h1
  | some z=>rw [h2,Br,show kp c l e=z by unfold kp;rw [he];rfl];rfl
theorem bu {c:List Col} {l:List Expr}:∀{k:List Expr} {e:Expr},e∈k→putF c l e=none→G8 c l k=none
 | a::r,e,hm,h=>by
  rw [G8]
  rcases B4.1 hm with rfl|hm
  ·rw [h]
  have:=bu hm h
  cases ha:putF c l a with
  | none=>rfl
  | some z=>rw [this];rfl
theorem Y6 {c:List Col} {l:List Expr} {x:Expr} (h:(x.op==2)=true):putF c l x=if Aw x.text c<0 then none else some (l.getD (Aw x.text c).toNat Au):=by
 cases x;rw [putF];exact if_pos h
theorem Y7 {c:List Col} {l:List Expr} {x:Expr} (h:(x.op==2)=false):putF c l x=(G8 c l x.kids).map fun k'=>.mk x.op x.text x.val k':=by
 cases x;rw [putF];exact if_neg (fun e=>Bool.false_ne_true (h.symm.trans e))
theorem kq {c:List Col} {l:List Expr} {s:Str} (hl:c.length=l.length) (hf:¬Aw s c<0):(l.map A7)[(Aw s c).toNat]? = some (A7 (l.getD (Aw s c).toNat Au))∧(Aw s c).toNat<l.length∧0≤Aw s c:=by
 obtain ⟨j,hj,hjl⟩:=Fl hf
 rw [hj,Int.toNat_natCast]
 refine ⟨?_,by omega,by omega⟩
 rw [Bz,Ab (by omega),Bw,Ab (by omega)]
 rfl
theorem AQ0 (c:List Col) (hc:OkCols c) (l:List Expr) (hl:c.length=l.length):∀(n:Nat) (x:Expr),okE n x→∀Hp:List AObj,AFun Tryz.prog 124 [A7 x,An c,Bo l] Hp (.tup [A7 ((putF c l x).getD Au),Az (putF c l x).isSome]):=by
 intro n
 induction n with
 | zero=>exact fun e h=>h.elim
 | succ n ih =>
 intro x hok Hp
 refine Ae [.cell 6 27,.tmp 7] [0,1,2] Tryz.func124 Tryz.ntmps124 (fun d=>?_)
 refine zr ?_;refine uc ?_;refine Z31 ?_;refine A2 [1,2,3,6,16] ?_
 refine A4 (fun ht16=>?_) (fun ht16=>?_)
 ·have hpn:=Y6 (c:=c) (l:=l) ht16
  refine Z15 ?_;refine Aa Tryz.call60 (c60 c hc x.text _) ?_;refine A5 ?_;refine A2 [2,6,8] ?_;refine Z7 ?_;refine A2 [2,6,8,22] ?_
  refine A4 (fun ht22=>?_) (fun ht22=>?_)
  ·have hm:putF c l x=none:=by rw [hpn,if_pos (by simpa using ht22)]
   refine Ez ?_;refine Z26 ?_;refine Gw 1 5 6 ?_;refine ib ?_;refine C9 ?_;refine C9 ?_;exact ALs
  have hneg:¬Aw x.text c<0:=by simpa using ht22
  have hm:putF c l x=some (l.getD (Aw x.text c).toNat Au):=by rw [hpn,if_neg hneg]
  refine Z98 ?_
  obtain ⟨_,hg1,hg2⟩:=kq hl hneg
  refine A5 (h:=Ai ((Aw x.text c).toNat) (A7 (l.getD (Aw x.text c).toNat Au)) (fun _=>(kq hl hneg).1)) (hr:=?_)
  refine ul ?_;exact A8 (B1 (B3 jA jS) A9) ⟨by rw [hm];show _=AV.tup [A7 (l.getD _ Au),Az true];rw [Al]<;>rfl,rfl⟩ (hlow:=by simp [or_imp,forall_and,Ah])
 have hpk:=Y7 (c:=c) (l:=l) ht16
 refine Qy ?_;refine A2 [1,2,3,6,9] ?_;refine Z89 ?_;refine A2 [1,2,3,6,9] ?_;refine Z54 ?_;refine Gw 0 5 6 ?_;refine Z13 ?_;refine A2 [1,2,3,6,31,32,33] ?_
 refine Bf (α:=Nat) (fun i=>⟨55,A6 1 (An c) (A6 2 (Bo l) (A6 3 (.ptr (oid Hp.length 0) 0) (A6 6 (.ptr (oid Hp.length 1) 0) (A6 31 (.slice false 6 (x.kids.map A7)) (A6 32 (A3 (x.kids.length:Nat)) (A6 33 (A3 (i:Nat)) (fun _=>.any))))))),Hp,[.cells 27 [A3 x.op,Ac x.text,A3 x.val.kind,A3 x.val.n,Ac x.val.s,.slice true 6 (((x.kids.take i).map (kp c l)).map A7)],.cells 27 [A3 0,Ac [],A3 0,A3 0,Ac [],.nil]],[],none⟩) (fun i=>i≤x.kids.length∧∀(j:Nat) (y:Expr),j<i→x.kids[j]? = some y→(!(putF c l y).isSome)=false) (fun i=>x.kids.length-i) (0) ⟨Ar _,fun j y h=>by omega⟩ (Bj (by simp)) rfl (fun i hi=>?_)
 refine Z2 ?_;refine A2 [1,2,3,6,31,32,33,34] ?_
 refine Cr (fun ht34=>?_) (fun ht34=>?_)
 ·have hlt:i<x.kids.length:=by simpa using ht34
  have hkl:=hok.2.1
  refine Z76 ?_
  refine A5 (h:=Ai (i) (A7 x.kids[i]) (fun _=>B6 hlt)) (hr:=?_)
  refine Qw ?_;refine A2 [1,2,3,6,11,31,32,33] ?_;refine Z15 ?_;refine Aa Tryz.call124 (ih x.kids[i] (hok.2.2 _ (Be hlt)) _) ?_;refine Pv ?_;refine A2 [1,2,3,6,12,13,31,32,33] ?_;refine Z7 ?_;refine A2 [1,2,3,6,12,31,32,33,45] ?_
  refine A4 (fun ht45=>?_) (fun ht45=>?_)
  ·have hm:putF c l x=none:=by rw [hpk,bu (Be hlt) (by simpa using ht45)];rfl
   refine Ez ?_;refine Z26 ?_;refine Gw 1 5 6 ?_;refine ib ?_;refine C9 ?_;refine Z62 ?_;exact ALs
  refine Z3 ?_;refine Z44 ?_;refine Wi jA ?_;refine Z80 ?_
  refine Ep jU Tryz.type27 ?_ ?_ ?_
  ·simp only [Ao,Cy,Bi,Cb,Tryz.t27];omega
  ·simp only [Ao,Cy,Bi,Cb,Tryz.t27];omega
  refine AE3 ?_;refine A2 [1,2,3,6,31,32,33] ?_;refine Ry ?_;refine A2 [1,2,3,6,31,32,33] ?_;refine Bg (i+1) ⟨hlt,El hlt hi.2 ht45⟩ (by omega) ?_
  have hlo:=fun m=>ABk (n:=m) (x:=x) (o:=true) (l:=(x.kids.take i).map (kp c l)++[kp c l x.kids[i]])
  simp only [Bq,Br,Ec,Al] at hlo
  simp only [show Tryz.t27.size=6 from rfl]
  rw [Pq hlt,Bq,Br,Ec,Al]
  exact Di (fun _=>.refl _) (by repeat (first|exact Bc|refine Bb (by first|exact Dz|exact Em|(simp [oid,Ah];done)|(simp [oid]<;>omega)) ?_)) (APc (hlo _) fj) (by simp)
 have hxe:x.kids.length≤i:=by simpa using ht34
 have hm:putF c l x=some (.mk x.op x.text x.val (x.kids.map (kp c l))):=by rw [hpk,bt (fun j y hy=>hi.2 j y (by have:=(Ad.1 hy).1;omega) hy)];rfl
 refine n5 ?_;refine Z68 ?_;exact A8 (B1 (B3 jA jS) A9) ⟨by rw [hm];show _=AV.tup [A7 (.mk x.op x.text x.val (x.kids.map (kp c l))),Az true];rw [Xy,Eo hxe],rfl⟩ (hlow:=by simp [or_imp,forall_and];intro y hy;obtain ⟨e,_,rfl⟩:=C2.1 (Mq hy);exact Ah _ _)

theorem Rh {c:List Col} {l:List Expr}:∀{k s:List Expr},G8 c l k=some s→s.length=k.length∧∀y∈s,∃e∈k,putF c l e=some y
 | [],s,h=>by
  rw [G8] at h
  injection h with h
  subst h
  exact ⟨rfl,fun y hy=>by cases hy⟩
 | a::r,s,h=>by
  rw [G8] at h
  cases ha:putF c l a with
  | none=>rw [ha] at h;cases h
  | some z =>
   rw [ha] at h
   simp only at h
   cases hr:G8 c l r with
   | none=>rw [hr] at h;cases h
   | some t =>
    rw [hr] at h
    injection h with h
    subst h
    obtain ⟨h1,h2⟩:=Rh hr
    refine ⟨by simp [h1],fun y hy=>?_⟩
    rcases B4.1 hy with rfl|hy
    ·exact ⟨a,Gk,ha⟩
    obtain ⟨e,he,hp⟩:=h2 y hy
    exact ⟨e,Hm _ he,hp⟩
theorem s6 {c:List Col} {l:List Expr} {m:Nat} (hl:∀e∈l,okE (m+1) e) (hc:c.length=l.length):∀(n:Nat) (x y:Expr),okE n x→putF c l x=some y→okE (m+1+n) y
 | 0,x,y,h,_=>h.elim
 | n+1,x,y,h,hp=>by
  cases h2:x.op==2 with
  | true =>
   rw [Y6 h2] at hp
   split at hp
   ·cases hp
   rename_i hf
   injection hp with hp
   subst hp
   obtain ⟨j,hj,hjl⟩:=Fl hf
   rw [hj,Int.toNat_natCast,Bw,Ab (by omega)]
   exact Hc (by omega) (hl _ (Be (by omega)))
  | false =>
   rw [Y7 h2] at hp
   cases hk:G8 c l x.kids with
   | none=>rw [hk] at hp;cases hp
   | some s =>
    rw [hk] at hp
    injection hp with hp
    subst hp
    obtain ⟨h3,h4⟩:=Rh hk
    refine ⟨h.1,by show s.length≤_;rw [h3];exact h.2.1,fun z hz=>?_⟩
    obtain ⟨e,he,hpe⟩:=h4 z hz
    exact s6 hl hc n e z (h.2.2 e he) hpe
theorem AJ4 {x:Expr} {c:List Col} {l:List Expr} (h:((((!(Ay x)) || l.any Dx) || !(Ip c)) || ((c.length:Int) != (l.length:Int)))=true):Da x c l=(Au,1):=if_pos h
theorem AJ5 {x:Expr} {c:List Col} {l:List Expr} (h:((((!(Ay x)) || l.any Dx) || !(Ip c)) || ((c.length:Int) != (l.length:Int)))=false):Da x c l=match putF c l x with
  | none=>(Au,9)
  | some y=>if Ay y then (y,0) else (Au,3):=if_neg (by rw [h];simp)
theorem c78 (x:Expr) (hok:okE 61 x) (c:List Col) (hc:OkCols c) (l:List Expr) (hll:l.length≤1048576) (hlo:∀e∈l,okE 61 e) (Hp:List AObj):AFun Tryz.prog 78 [A7 x,An c,Bo l] Hp (.tup [A7 (Da x c l).1,A3 (Da x c l).2]):=by
 refine Ae [.cell 6 27,.tmp 7] [0,1,2] Tryz.func78 Tryz.ntmps78 (fun d=>?_)
 refine Z2 ?_;refine uc ?_;refine Z30 ?_;refine Aa Tryz.call96 (c96 61 x hok (by decide) _) ?_;refine Qx ?_;refine C3 Tryz.call123 (fun hB=>APu l hll hlo _) ?_;refine Qx ?_;refine C3 Tryz.call50 (fun hB=>c50 c hc _) ?_;refine Cd ?_;refine Z77 ?_;refine Z48 ?_;refine A2 [1,2,3,6,28] ?_
 refine A4 (fun ht28=>?_) (fun ht28=>?_)
 ·simp only [Ao] at ht28
  have hm:=AJ4 ht28
  refine Ez ?_;refine AE4 ?_;refine ib ?_;refine C9 ?_;exact ALt
 simp only [Ao] at ht28
 have hm0:=AJ5 ht28
 have hcl:c.length=l.length:=by simp only [E1,bne_eq_false_iff_eq] at ht28;have:=ht28.2;omega
 refine Qy ?_;refine Aa Tryz.call124 (AQ0 c hc l hcl 61 x hok _) ?_;refine Pv ?_;refine A2 [6,8,9] ?_;refine ip ?_;refine A2 [6,8,37] ?_
 refine A4 (fun ht37=>?_) (fun ht37=>?_)
 ·have hp:putF c l x=none:=by simpa using ht37
  have hm:Da x c l=(Au,9):=by rw [hm0,hp]
  refine Ez ?_;refine AE4 ?_;refine ib ?_;exact AK5
 obtain ⟨y,hp⟩:∃y,putF c l x=some y:=by
  cases h:putF c l x with
  | none=>rw [h] at ht37;cases ht37
  | some y=>exact ⟨y,rfl⟩
 have hyo:okE 122 ((putF c l x).getD Au):=by rw [hp];exact s6 (m:=60) hlo hcl 61 x y hok hp
 refine Z2 ?_;refine Aa Tryz.call96 (c96 122 ((putF c l x).getD Au) hyo (by decide) _) ?_;refine Z0 ?_;refine A2 [6,8,41] ?_
 refine A4 (fun ht41=>?_) (fun ht41=>?_)
 ·have hm:Da x c l=(Au,3):=by
   rw [hp] at ht41
   rw [hm0,hp]
   exact if_neg (by simpa using ht41)
  refine Ez ?_;refine AE4 ?_;refine ib ?_;exact AK5
 have hm:Da x c l=(y,0):=by
  rw [hp] at ht41
  rw [hm0,hp]
  exact if_pos (by simpa using ht41)
 refine Z19 ?_;refine Z2 ?_;refine Z68 ?_;exact A8 (B1 (B3 jA jS) A9) ⟨by rw [hm,hp];show _=AV.tup [A7 y,A3 0];rw [Al];rfl,rfl⟩ (hlow:=by simp [or_imp,forall_and,Ah])

/-! fuse.Forth and plan.Text. -/
def C7 (c:List Col) (ms:List Mov):Nat→List Expr
 | 0=>Dy c
 | k+1=>match ms[k]? with
  | some m=>Eb m.take (colsAt c ms k) (C7 c ms k)++(C1 (colsAt c ms k) (C7 c ms k) m.ahead).1
  | none=>C7 c ms k
def K2 (c:List Col) (t:List Expr):List Mov→List Expr×Int
 | []=>(t,0)
 | m::r=>if (C1 c t m.ahead).2 != 0 then ([],(C1 c t m.ahead).2) else K2 (By c m).1 (Eb m.take c t++(C1 c t m.ahead).1) r
/-- fuse.Forth. -/
def F3 (c:List Col) (l:List Mov):List Expr×Int:=if (Cn c l).2 != 0 then ([],1) else K2 c (Dy c) l
def Md (c:List Col) (ms:List Mov) (k:Nat):Prop:=K2 c (Dy c) ms=K2 (colsAt c ms k) (C7 c ms k) (ms.drop k)
theorem AMx {c:List Col} {ms:List Mov}:Md c ms 0:=rfl
theorem s7 {c:List Col} {ms:List Mov} {k:Nat} {m:Mov} (hk:ms[k]? = some m) (h:Md c ms k) (he:((C1 (colsAt c ms k) (C7 c ms k) m.ahead).2 != 0)=false):Md c ms (k+1):=by
 unfold Md at h ⊢
 rw [h,Lf hk,K2,if_neg (by rw [he];simp),H5 hk,C7,hk]
theorem AC5 {c:List Col} {ms:List Mov} {k:Nat} {m:Mov} (hk:ms[k]? = some m) (h:Md c ms k) (he:((C1 (colsAt c ms k) (C7 c ms k) m.ahead).2 != 0)=true):K2 c (Dy c) ms=([],(C1 (colsAt c ms k) (C7 c ms k) m.ahead).2):=by
 unfold Md at h
 rw [h,Lf hk,K2,if_pos he]
theorem AC6 {c:List Col} {ms:List Mov} (h:Md c ms ms.length):K2 c (Dy c) ms=(C7 c ms ms.length,0):=by
 unfold Md at h
 rw [h,W4,K2]
/-- Trees that may be walked, printed and put again. -/
structure TOk (t:List Expr):Prop where
 ok:∀e∈t,okE 61 e
 rng:∀e∈t,E0 Hb e=true
theorem Pr {take:List Str}:∀{c:List Col} {l:List Expr},∀e∈Eb take c l,e∈l
 | [],[],e,h=>by cases h
 | [],_::_,e,h=>by cases h
 | _::_,[],e,h=>by cases h
 | y::c,x::l,e,h=>by
  unfold Eb at h
  split at h
  ·exact Hm _ (Pr e h)
  rcases B4.1 h with rfl|h
  ·exact Gk
  exact Hm _ (Pr e h)
theorem kr {c:List Col} {l:List Expr} (hl:∀e∈l,E0 Hb e=true) (hc:c.length=l.length):∀(n:Nat) (x y:Expr),okE n x→E0 Hb x=true→putF c l x=some y→E0 Hb y=true
 | 0,x,y,h,_,_=>h.elim
 | n+1,x,y,h,hr,hp=>by
  cases h2:x.op==2 with
  | true =>
   rw [Y6 h2] at hp
   split at hp
   ·cases hp
   rename_i hf
   injection hp with hp
   subst hp
   obtain ⟨j,hj,hjl⟩:=Fl hf
   rw [hj,Int.toNat_natCast,Bw,Ab (by omega)]
   exact hl _ (Be (by omega))
  | false =>
   rw [Y7 h2] at hp
   cases hk:G8 c l x.kids with
   | none=>rw [hk] at hp;cases hp
   | some s =>
    rw [hk] at hp
    injection hp with hp
    subst hp
    obtain ⟨h3,h4⟩:=Rh hk
    rw [Jf,At] at hr
    rw [Jf,At]
    refine ⟨hr.1,(Fh _ _).2 fun z hz=>?_⟩
    obtain ⟨e,he,hpe⟩:=h4 z hz
    exact kr hl hc n e z (h.2.2 e he) ((Fh _ _).1 hr.2 e he) hpe
theorem Y8 {x:Expr} {c:List Col} {l:List Expr} (hx:okE 61 x) (hr:E0 Hb x=true) (ht:TOk l) (he:(Da x c l).2=0):okE 61 (Da x c l).1∧E0 Hb (Da x c l).1=true∧Ay (Da x c l).1=true:=by
 unfold Da at he ⊢
 split at he
 ·exact absurd (show (1:Int)=0 from he) (by decide)
 rename_i h1
 rw [if_neg h1]
 have hcl:c.length=l.length:=by
  simp only [Qf,E1,bne_eq_false_iff_eq] at h1
  have:=h1.2
  omega
 cases hp:putF c l x with
 | none=>rw [hp] at he;exact absurd (show (9:Int)=0 from he) (by decide)
 | some y =>
  rw [hp] at he
  simp only at he ⊢
  split at he
  ·rename_i h2
   rw [if_pos h2]
   have h3:Fi y=true:=by rw [←Fx];exact h2
   exact ⟨Hc (by decide) (U8 h3).1,kr ht.rng hcl 61 x y hx hr hp,h2⟩
  exact absurd (show (3:Int)=0 from he) (by decide)
theorem Ps {c:List Col} {t:List Expr} (ht:TOk t):∀(l:List Expr),(∀e∈l,okE 61 e)→(∀e∈l,E0 Hb e=true)→(C1 c t l).2=0→TOk (C1 c t l).1
 | [],_,_,_=>⟨fun e h=>(Ej h).elim,fun e h=>(Ej h).elim⟩
 | x::r,h1,h2,he=>by
  unfold C1 at he ⊢
  split at he
  ·rename_i h3
   exact absurd he (by simpa using h3)
  rename_i h3
  rw [if_neg h3]
  split at he
  ·rename_i h4
   exact absurd he (by simpa using h4)
  rename_i h4
  rw [if_neg h4]
  have ih:=Ps (c:=c) ht r (fun e he=>h1 e (Hm _ he)) (fun e he=>h2 e (Hm _ he)) (by simpa using h4)
  have hx:=Y8 (c:=c) (h1 x Gk) (h2 x Gk) ht (by simpa using h3)
  refine ⟨fun e he=>?_,fun e he=>?_⟩
  ·rcases B4.1 he with rfl|he
   ·exact hx.1
   exact ih.ok e he
  rcases B4.1 he with rfl|he
  ·exact hx.2.1
  exact ih.rng e he
theorem g7 {c:List Col} (hc:OkCols c):TOk (Dy c):=by
 refine ⟨fun e he=>?_,fun e he=>?_⟩
 ·obtain ⟨y,hy,rfl⟩:=C2.1 he
  exact ⟨hc.2 y hy,by simp [Cm,Expr.kids],fun z hz=>by simp [Cm,Expr.kids] at hz⟩
 obtain ⟨y,hy,rfl⟩:=C2.1 he
 rfl
/-- What holds of the trees behind k moves, if all went well till there. -/
theorem s8 {c:List Col} {ms:List Mov} {k:Nat} {m:Mov} (hk:ms[k]? = some m) (hm:OkMov m) (h:TOk (C7 c ms k)) (he:((C1 (colsAt c ms k) (C7 c ms k) m.ahead).2 != 0)=false):TOk (C7 c ms (k+1)):=by
 have h1:=Ps (c:=colsAt c ms k) h m.ahead hm.ahead.ok hm.ahead.rng (by simpa using he)
 rw [C7,hk]
 refine ⟨fun e he=>?_,fun e he=>?_⟩
 ·rcases Ei.1 he with he|he
  ·exact h.ok e (Pr e he)
  exact h1.ok e he
 rcases Ei.1 he with he|he
 ·exact h.rng e (Pr e he)
 exact h1.rng e he
theorem kt {c:List Col} {m:Mov} (h:(By c m).2=0):(By c m).1=Eg c m.take++Ck c m∧Ci c=true∧Ci (By c m).1=true:=by
 unfold By at h ⊢
 split at h
 ·rename_i h1
  exact absurd h (by simpa using h1)
 rename_i h1
 rw [if_neg h1]
 split at h
 ·rename_i h2
  exact absurd h (by simpa using h2)
 rename_i h2
 rw [if_neg h2]
 split at h
 ·rename_i h3
  exact absurd h (by simpa using h3)
 rename_i h3
 rw [if_neg h3]
 obtain ⟨a,_,b,d,e⟩:=AEw (by simpa using h1:(Ea c m.take (Ck c m)).2=0)
 rw [e]
 refine ⟨rfl,a,?_⟩
 unfold Ci
 rw [b,W3]
 refine decide_eq_true ?_
 show ((Eg c m.take++Ck c m).length:Int)≤12
 omega
theorem ku {c:List Col} {ms:List Mov} {k:Nat} {m:Mov} (hk:ms[k]? = some m) (hm:K6 m=true) (ht:(By (colsAt c ms k) m).2=0) (h:(C7 c ms k).length=(colsAt c ms k).length) (he:((C1 (colsAt c ms k) (C7 c ms k) m.ahead).2 != 0)=false):(C7 c ms (k+1)).length=(colsAt c ms (k+1)).length:=by
 rw [C7,H5 hk,hk]
 show (Eb _ _ _++_).length=_
 rw [(kt ht).1,Av,Av,Ml,Mn h.symm,Lh _ (by simpa using he),(J6 (U7 hm)).1]
/-! The text. -/
theorem Ni {n k:Nat} {o:Bool} {a:List Expr} {e:Expr}:Low n (.slice o k (a.map A7++[.agg (E4 e)])):=by
 have:=Lg (n:=n) (k:=k) (o:=o) (a:=a) (e:=e)
 rwa [Al] at this
theorem bv {c:List Col} {t:List Expr}:∀{l:List Expr},(∀(j:Nat) (y:Expr),l[j]? = some y→((Da y c t).2 != 0)=false)→C1 c t l=(l.map (fun e=>(Da e c t).1),0)
 | [],_=>rfl
 | x::r,h=>by
  have h1:=h 0 x rfl
  have ih:=bv (c:=c) (t:=t) (l:=r) (fun j y hy=>h (j+1) y hy)
  rw [C1,if_neg (by rw [h1];simp),if_neg (by rw [ih];simp),ih]
  rfl
theorem bw {c:List Col} {t:List Expr}:∀{l:List Expr} {x:Nat} {y:Expr},(∀(j:Nat) (z:Expr),j<x→l[j]? = some z→((Da z c t).2 != 0)=false)→l[x]? = some y→((Da y c t).2 != 0)=true→C1 c t l=([],(Da y c t).2)
 | [],_,_,_,h,_=>by simp at h
 | a::r,0,y,h0,h,h1=>by
  have:a=y:=by simpa using h
  subst this
  rw [C1,if_pos h1]
 | a::r,x+1,y,h0,h,h1=>by
  have h2:=h0 0 a (by omega) rfl
  have ih:=bw (c:=c) (t:=t) (l:=r) (x:=x) (y:=y) (fun j z hj hz=>h0 (j+1) z (by omega) hz) (by simpa using h) h1
  rw [C1,if_neg (by rw [h2];simp),if_pos (by rw [ih];exact h1),ih]
theorem c75 (l:List Expr) (hl:l.length≤1048576) (hlo:∀e∈l,okE 61 e) (c:List Col) (hc:OkCols c) (by_:List Expr) (hbl:by_.length≤1048576) (hbo:∀e∈by_,okE 61 e) (Hp:List AObj):AFun Tryz.prog 75 [Bo l,An c,Bo by_] Hp (.tup [Bo (C1 c by_ l).1,A3 (C1 c by_ l).2]):=by
 refine Ae [.tmp 6,.tmp 7] [0,1,2] Tryz.func75 Tryz.ntmps75 (fun d=>?_)
 refine Z1 ?_;refine A2 [0,1,2] ?_;refine Z2 ?_;refine A2 [0,1,2,8] ?_;refine Z54 ?_;refine Qu 8 6 ?_;refine Z13 ?_;refine A2 [1,2,8,13,14,15] ?_
 refine Bf (α:=Nat) (fun x=>⟨35,A6 1 (An c) (A6 2 (Bo by_) (A6 8 (.slice true 6 (((l.take x).map (fun e=>(Da e c by_).1)).map A7)) (A6 13 (Bo l) (A6 14 (A3 (l.length:Nat)) (A6 15 (A3 (x:Nat)) (fun _=>.any)))))),Hp,[],[],none⟩) (fun x=>x≤l.length∧∀(j:Nat) (y:Expr),j<x→l[j]? = some y→((Da y c by_).2 != 0)=false) (fun x=>l.length-x) (0) ⟨Ar _,fun j y h=>by omega⟩ (Bj (by simp)) rfl (fun x hx=>?_)
 refine Z2 ?_;refine A2 [1,2,8,13,14,15,16] ?_
 refine Cr (fun ht16=>?_) (fun ht16=>?_)
 ·have hlt:x<l.length:=by simpa using ht16
  refine Z76 ?_
  refine A5 (h:=Ai (x) (A7 l[x]) (fun _=>B6 hlt)) (hr:=?_)
  refine Qw ?_;refine A2 [1,2,8,10,13,14,15] ?_;refine Z15 ?_;refine Aa Tryz.call78 (c78 l[x] (hlo _ (Be hlt)) c hc by_ hbl hbo _) ?_;refine Pv ?_;refine A2 [1,2,8,11,12,13,14,15] ?_;refine Z7 ?_;refine A2 [1,2,8,11,12,13,14,15,27] ?_
  refine A4 (fun ht27=>?_) (fun ht27=>?_)
  ·have hm:=bw hx.2 (Ab hlt) ht27
   refine Z1 ?_;refine Ts 6 6 false ?_;refine ib ?_;refine C9 ?_;refine Z32 ?_;exact Z40
  refine Z3 ?_;refine ue ?_;refine Z80 ?_
  refine Ep jU Tryz.type27 ?_ ?_ ?_
  ·simp only [Ao,Cy,Bi,Cb,Tryz.t27];omega
  ·simp only [Ao,Cy,Bi,Cb,Tryz.t27];omega
  refine Jv ?_;refine A2 [1,2,8,13,14,15] ?_;refine Ry ?_;refine A2 [1,2,8,13,14,15] ?_;refine Bg (x+1) ⟨hlt,El hlt hx.2 ht27⟩ (by omega) ?_
  rw [Pq hlt,Bq]
  rw [Br,Ec,Al]
  simp only [show Tryz.t27.size=6 from rfl]
  exact Di (own:=[]) (fun _=>.refl _) (by repeat (first|exact Bc|refine Bb (by first|(simp [or_imp,forall_and];done)|exact Ni|exact Dz|exact Em) ?_)) (by simp) (by simp)
 have hxe:l.length≤x:=by simpa using ht16
 have hm:C1 c by_ l=(l.map (fun e=>(Da e c by_).1),0):=bv fun j y hy=>hx.2 j y (by have:=(Ad.1 hy).1;omega) hy
 refine Z28 ?_;refine Z15 ?_;refine Z17 ?_;exact A8 (B1 A9 A9) ⟨by rw [hm,Eo hxe],rfl⟩ (hlow:=by simp only [Vp,B4,E2,or_false];rintro y (rfl|rfl);exact Dz;simp)

theorem c76 (m:Mov) (c:List Col) (l:List Expr) (Hp:List AObj):AFun Tryz.prog 76 [Jo m,An c,Bo l] Hp (.fn (.func 122) [] [.ro [An c],.ro (Ng m),.ro [Bo l]]):=by
 refine Ae [.tmp 6] [0,1,2] Tryz.func76 Tryz.ntmps76 (fun d=>?_)
 refine Z23 ?_;refine A2 [3,4,5] ?_;refine mx ?_;refine Z72 ?_;exact A8 (Ak A9) (hlow:=by simp [or_imp,forall_and,Ah])

theorem ov {take:List Str} {c:List Col} {l:List Expr} {k:Nat} {y:Col} (hcl:c.length=l.length) (hy:c[k]? = some y) (h:take.contains y.name=true):Eb take (c.take (k+1)) (l.take (k+1))=Eb take (c.take k) (l.take k):=by
 induction c generalizing l k with
 | nil=>simp at hy
 | cons a r ih =>
  cases l with
  | nil=>simp at hcl
  | cons b s =>
   cases k with
   | zero =>
    have:a=y:=by simpa using hy
    subst this
    simp only [List.take_succ_cons,List.take_zero]
    rw [Eb,if_pos h]
   | succ k =>
    have ih':=ih (l:=s) (k:=k) (by simpa using hcl) (by simpa using hy)
    rw [List.take_succ_cons,List.take_succ_cons,List.take_succ_cons,List.take_succ_cons,Eb,Eb,ih']
theorem AC7 {take:List Str} {c:List Col} {l:List Expr} {k:Nat} {y:Col} {e:Expr} (hcl:c.length=l.length) (hy:c[k]? = some y) (he:l[k]? = some e) (h:take.contains y.name=false):Eb take (c.take (k+1)) (l.take (k+1))=Eb take (c.take k) (l.take k)++[e]:=by
 induction c generalizing l k with
 | nil=>simp at hy
 | cons a r ih =>
  cases l with
  | nil=>simp at hcl
  | cons b s =>
   cases k with
   | zero =>
    have h1:a=y:=by simpa using hy
    have h2:b=e:=by simpa using he
    subst h1
    subst h2
    simp only [List.take_succ_cons,List.take_zero]
    rw [Eb,if_neg (by rw [h];simp)]
    rfl
   | succ k =>
    have ih':=ih (l:=s) (k:=k) (by simpa using hcl) (by simpa using hy) (by simpa using he)
    rw [List.take_succ_cons,List.take_succ_cons,List.take_succ_cons,List.take_succ_cons,Eb,Eb,ih']
    split<;>rfl
theorem ow {n:Nat} {m:Mov}:Low n (.ro (Ng m)):=by
 refine .ro _ fun y hy=>?_
 simp only [B4,E2,or_false] at hy
 rcases hy with rfl|rfl|rfl|rfl|rfl
 ·exact .v _
 ·exact wo
 ·exact Em
 ·exact Dz
 exact Dz
theorem AQ1 (l0:Nat) (m:Mov) (c:List Col) (l:List Expr) (hc:c.length≤1048576) (hcl:c.length=l.length) (ht:m.take.length≤1048576) (U:Nat→List AObj) (hlen:∀k,(U k).length=(U 0).length) (hll:l0<(U 0).length)
  (hlw:∀k,∀x∈U k,ObjLow (U 0).length x) (hn:∀k y,c[k]? = some y→m.take.contains y.name=true→U (k+1)=U k)
  (hy:∀k y e X,c[k]? = some y→l[k]? = some e→m.take.contains y.name=false→AYield Tryz.prog l0 [A7 e] (U k++X) (fun b H'=>b=true∧H'=U (k+1)++X)):ACall Tryz.prog 122 [.yield l0,.ro [An c],.ro (Ng m),.ro [Bo l]] (U 0) (fun _ H'=>H'=U c.length):=by
 refine Ae [] [0,1,2,3] Tryz.func122 Tryz.ntmps122 (fun d=>?_)
 refine Z15 ?_;refine A2 [0,2,3,7,8,9] ?_
 refine Bf (α:=Nat) (fun x=>⟨30,A6 0 (.yield l0) (A6 2 (.ro (Ng m)) (A6 3 (.ro [Bo l]) (A6 7 (An c) (A6 8 (A3 (c.length:Nat)) (A6 9 (A3 (x:Nat)) (fun _=>.any)))))),U x,[],[],none⟩) (fun x=>x≤c.length) (fun x=>c.length-x) (0) (Ar _) (Bj (by simp)) rfl (fun x hx=>?_)
 refine Z2 ?_;refine A2 [0,2,3,7,8,9,10] ?_
 refine Cr (fun ht10=>?_) (fun ht10=>?_)
 ·have hlt:x<c.length:=by simpa using ht10
  have hle:x<l.length:=by omega
  refine Rz ?_
  refine A5 (h:=Ai (x) (C0 c[x]) (fun _=>B6 hlt)) (hr:=?_)
  refine um ?_;refine A2 [0,2,3,5,6,7,8,9] ?_;refine Z23 ?_;refine Aa Tryz.call95 (c95 m.take _ ht _) ?_;refine Zg ?_
  refine Cd (h:=Ai (x) (A7 l[x]) (fun _=>B6 hle)) (hr:=?_)
  refine Cd ?_
  refine G.yield (l:=l0) (C:=((!m.take.contains c[x].name)==true)) (args:=[A7 l[x]]) (fun hC=>hy x c[x] _ _ (Ab hlt) (Ab hle) (by simpa using hC)) ?_
  intro b V O hV hb hb0
  have hVO:V=U (x+1)∧O=[AObj.cells 69 [Ac c[x].name,A3 c[x].kind]]∧(m.take.contains c[x].name=false→b=true):=by
   cases hcn:m.take.contains c[x].name with
   | true =>
    obtain ⟨h1,h2⟩:=hb0 (by rw [hcn];rfl)
    exact ⟨h1.trans (hn x c[x] (Ab hlt) hcn).symm,h2,fun e=>by cases e⟩
   | false =>
    obtain ⟨h1,h2⟩:=hb (by rw [hcn];rfl)
    have h3:=I3 h2 (by rw [hV,hlen x,hlen (x+1)])
    exact ⟨h3.1,h3.2,fun _=>h1⟩
  obtain ⟨rfl,rfl,hbt⟩:=hVO
  refine ⟨fun _=>by rw [hlen (x+1)];exact hlw (x+1),fun o ho=>(by cases ho),?_⟩
  refine Z48 ?_;refine A2 [0,2,3,7,8,9,28] ?_
  refine A4 (fun ht28=>?_) (fun ht28=>?_)
  ·exfalso
   have hcf:m.take.contains c[x].name=false:=by simp at ht28 ⊢;exact ht28.1
   rw [hbt hcf] at ht28
   simp at ht28
  refine Z73 ?_;refine A2 [0,2,3,7,8,9] ?_;refine Bg (x+1) hlt (by omega) ?_
  exact Di (own:=[]) (fun _=>.refl _) (by repeat (first|exact Bc|refine Bb (by first|(simp [or_imp,forall_and];done)|exact ow|(simp [or_imp,forall_and,Ah];done)|(have:=hlen (x+1);simp;omega)) ?_)) (by simp) (by simp)
 have hxe:x=c.length:=by simp at ht10;omega
 exact ALd

/-! ONE LINE EACH. -/
theorem oy {c:List Col} {ms:List Mov} (he:(Ca c ms).2=0):∀k,k≤ms.length→NS c ms k
 | 0,_=>AJ2
 | k+1,h=>by
  have ih:=oy he k (by omega)
  have hk:ms[k]? = some ms[k]:=Ab (by omega)
  by_cases ht:(By (colsAt c ms k) ms[k]).2=0
  ·exact fx hk ih ht
  exact absurd ((g0 hk ih ht).symm.trans he) ht
theorem g8 {c:List Col} {ms:List Mov} (he:(Ca c ms).2=0) {k:Nat} {m:Mov} (hk:ms[k]? = some m):(By (colsAt c ms k) m).2=0:=by
 have hl:=(Ad.1 hk).1
 by_cases ht:(By (colsAt c ms k) m).2=0
 ·exact ht
 exact absurd ((g0 hk (oy he k (by omega)) ht).symm.trans he) ht
theorem Jq {c:List Col} {ms:List Mov}:∀{n k:Nat},k≤n→(Cv c ms n)[k]? = some (colsAt c ms k)
 | 0,k,h=>by
  have:k=0:=by omega
  subst this;rfl
 | n+1,k,h=>by
  have hl:=Jp c ms n
  rw [Cv]
  by_cases e:k=n+1
  ·subst e
   rw [Ds (by omega),hl,Vn]
   rfl
  rw [Dr (by omega)]
  exact Jq (by omega)
theorem U9 {c:List Col} {ms:List Mov} (h:Ke c ms=true):∀m∈ms,K6 m=true:=by
 unfold Ke og at h
 simp only [At,B0] at h
 exact h.2.2
/-- What a sound migration comes to. -/
theorem Nj {c:List Col} {ms:List Mov} (h:((Cn c ms).2 != 0)=false):Ke c ms=true∧(Ca c ms).2=0∧Cn c ms=(Cv c ms ms.length,0):=by
 cases hm:Ke c ms with
 | false=>rw [bo hm] at h;cases h
 | true =>
  by_cases he:(Ca c ms).2=0
  ·have e:=oo (oy he ms.length (Am _))
   exact ⟨rfl,he,bq hm e⟩
  rw [Y4 hm he] at h
  exact absurd (by simpa using h) he
theorem Ua {c:List Col} {ms:List Mov} (h:((Cn c ms).2 != 0)=false):E5 c ms=(colsAt c ms ms.length,0):=by
 obtain ⟨_,_,e⟩:=Nj h
 unfold E5
 rw [if_neg (by rw [h];simp),e]
 show ((Cv c ms ms.length).getLastD [],_)=_
 rw [ym,List.getLast?_eq_getElem?,Jp]
 have:=Jq (c:=c) (ms:=ms) (n:=ms.length) (Am _)
 rw [show ms.length+1-1=ms.length from rfl,this]
 rfl
theorem AC8 {n:Nat} {m:Mov} {t:TypeId}:ObjLow n (.cells t (Ng m)):=Sl
theorem AC9 {c:List Col} {l:List Mov} (h:((Cn c l).2 != 0)=true):F3 c l=([],1):=if_pos h
theorem bx {c:List Col} {l:List Mov} (h:((Cn c l).2 != 0)=false):F3 c l=K2 c (Dy c) l:=if_neg (by rw [h];simp)
theorem ACa {c:List Col} {ms:List Mov} {k:Nat} {m:Mov} (h:ms[k]? = some m):Bo (C7 c ms (k+1))=.slice false 6 ((Eb m.take (colsAt c ms k) (C7 c ms k)).map A7++(C1 (colsAt c ms k) (C7 c ms k) m.ahead).1.map A7):=by
 rw [C7,h,←Bq]
theorem c32 (c:List Col) (hc:OkCols c) (hc2:c.length≤1000000) (l:List Mov) (h:OkMovs l) (Hp:List AObj):AFun Tryz.prog 32 [An c,Gm l] Hp (.tup [Bo (F3 c l).1,A3 (F3 c l).2]):=by
 refine Ae [.tmp 4,.tmp 5] [0,1] Tryz.func32 Tryz.ntmps32 (fun d=>?_)
 refine ec ?_;refine AHz ?_;refine Z81 ?_;refine A2 [0,1,6,7] ?_;refine Z7 ?_;refine A2 [0,1,6,22] ?_
 refine A4 (fun ht22=>?_) (fun ht22=>?_)
 ·have hm:=AC9 ht22
  refine Z2 ?_;refine Ts 4 6 false ?_;exact AKy
 have hm:=bx ht22
 obtain ⟨hmay,hst,hss⟩:=Nj ht22
 have hmvo:=U9 hmay
 rw [hss]
 refine Qz ?_;refine Aa Tryz.call74 (c74 c (by omega) _) ?_;refine A5 ?_;refine A2 [1,6,8] ?_;refine Z31 ?_;refine A2 [6,8,25,26,27] ?_
 refine AW.loopG (α:=Nat×List AObj×List Nat) (fun s=>⟨65,A6 6 (Mc (Cv c l l.length)) (A6 8 (Bo (C7 c l s.1)) (A6 25 (Gm l) (A6 26 (A3 (l.length:Nat)) (A6 27 (A3 (s.1:Nat)) (fun _=>.any))))),Hp,s.2.1,s.2.2,none⟩) (fun s=>s.1≤l.length∧Md c l s.1∧TOk (C7 c l s.1)∧(C7 c l s.1).length=(colsAt c l s.1).length∧(∀x∈s.2.1,ObjLow (Hp.length+s.2.1.length) x)∧∀o∈s.2.2,(Hp++s.2.1)[o]? = some .defs) (fun s=>l.length-s.1) ((0,[],[])) ⟨Ar _,AMx,g7 hc,by simp [C7,Dy,colsAt],(fun x hx=>(Ej hx).elim),fun o ho=>(Ej ho).elim⟩ (Bj (by simp [C7])) rfl (fun s hs=>?_)
 obtain ⟨k,O,Df⟩:=s
 obtain ⟨hk0,hnf,hTo,hTl,hOo,hDo⟩:=hs
 dsimp only at hk0 hnf hTo hTl hOo hDo ⊢
 refine Z2 ?_;refine A2 [6,8,25,26,27,28] ?_
 refine Cr (fun ht28=>?_) (fun ht28=>?_)
 ·have hlt:k<l.length:=by simpa using ht28
  have hll:=h.len
  have hmk:l[k]? = some l[k]:=Ab hlt
  have hmo:=h.each _ (Be hlt)
  have hCo:=Gc hc (fun m hm=>h.each m hm) k
  refine Rz ?_
  refine A5 (h:=Ai (k) (Jo l[k]) (fun _=>B6 hlt)) (hr:=?_)
  refine A5 ?_;refine R.alloc (n:=O.length) (ho:=rfl) jZ ?_;refine A5 ?_
  refine R.storeOwn (n:=O.length+0) (ho:=oat.trans rfl) (hset:=by rw [z9]<;>simp only [List.set_cons_succ,List.set_cons_zero]<;>rfl) jS ?_
  refine A2 [6,8,9,10,25,26,27] ?_;refine Dt [0,1,0,0,12,28,0,127,255,511,511,1023,4095] 12 Aj (by kernel_rfl) ?_;refine Aq ?_
  refine Aq (h:=Q.loadOwn (n:=O.length+0) (ho:=oat.trans rfl)) (hr:=?_)
  refine Z8 ?_
  refine Aq (h:=Ai (k) (An (colsAt c l k)) (fun _=>wd (Jq (by omega)))) (hr:=?_)
  refine Z8 ?_
  refine Dl Tryz.call75 (c75 l[k].ahead hmo.ahead.len hmo.ahead.ok (colsAt c l k) hCo (C7 c l k) (by have:=hCo.1;omega) hTo.ok _) ?_
  refine Z8 ?_;refine Z92 ?_;refine A5 ?_;refine A2 [6,8,9,10,11,12,25,26,27] ?_;refine Z7 ?_;refine A2 [6,8,9,10,11,12,25,26,27,44] ?_
  refine A4 (fun ht44=>?_) (fun ht44=>?_)
  ·have hm2:=AC5 hmk hnf ht44
   refine Z1 ?_;refine Ts 4 6 false ?_;refine A5 ?_;refine Z10 ?_;refine C9 ?_;refine Z5 ?_;refine K.lgR ?_;refine C9 ?_;exact A8 (B1 A9 A9) ⟨by rw [hm,hm2]<;>rfl,rfl⟩
  refine il ?_
  refine R.alloc (n:=O.length+1) (hn:=by simp) (ho:=by simp only [Ax,Dk,D9]<;>rfl) jZ ?_
  refine Kz (O.length+1) 6 ?_ (ho:=oat.trans rfl) (hset:=by rw [z9]<;>simp only [List.set_cons_succ,List.set_cons_zero]<;>rfl)
  refine Jx (fun hlow=>?_)
  refine A2 [6,8,9,10,11,13,25,26,27] ?_;refine Jw ?_;refine Dt [0,0,0,6,14,0,63] 6 Aj (by kernel_rfl) ?_
  refine Aq (h:=Q.loadOwnN (n:=O.length+0) (ho:=oat.trans rfl)) (hr:=?_)
  refine Z8 ?_
  refine Aq (h:=Ai (k) (An (colsAt c l k)) (fun _=>wd (Jq (by omega)))) (hr:=?_)
  refine Z92 ?_;refine Aa Tryz.call76 (c76 l[k] (colsAt c l k) (C7 c l k) _) ?_;refine A2 [6,11,13,25,26,27,52] ?_;refine Jy ?_
  refine L0 (m:=O.length+2) (hm:=by simp) (ha:=rfl) Tryz.call122 (fun FR as' bd' hFR has hbd=>?_)
  generalize hCd:colsAt c l k=C at *
  generalize hTd:C7 c l k=T at *
  generalize hmd:l[k]=m at *
  have hFRl:∀s,Low (Hp.length+(O.length+4)) (FR s):=by
   intro s
   rw [hFR]
   refine M3 ?_
   revert s
   repeat (first|exact Bc|refine Bb (by first|exact Dz|exact Mm|exact Sm|(simp [oid,or_imp,forall_and,Ah];done)|(simp [oid,or_imp,forall_and]<;>try omega)) ?_)
  have hstl:∀q,(Eb m.take (C.take q) (T.take q)).length≤1048576:=fun q=>by
   have h1:=Mn (take:=m.take) (c:=C.take q) (l:=T.take q) (by simp [hTl])
   have h2:=Jm (C.take q) m.take
   have h3:=hCo.1
   rw [Cy] at h2
   omega
  have hOl:∀{j:Nat} {o:Bool} {lp:AObj},ObjLow (Hp.length+(O.length+4)) lp→∀x∈O++[AObj.cells 80 (Ng m),AObj.cells 25 [AV.slice o 6 ((Eb m.take (C.take j) (T.take j)).map A7)],AObj.defs,lp],ObjLow (Hp.length+(O.length+4)) x:=by
   intro j o lp hlp x hx
   rcases Ei.1 hx with hx|hx
   ·exact L4 (by omega) (hOo x hx)
   simp only [B4,E2,or_false] at hx
   rcases hx with rfl|rfl|rfl|rfl
   ·exact AC8
   ·intro y hy
    rw [B7.1 hy]
    exact Dz
   ·trivial
   exact hlp
  refine ⟨_,ACall.heapEq (by rw [Ax];rfl) (AQ1 (oid Hp.length (O.length+3)) m C T hCo.1 hTl.symm hmo.takes (fun j=>Hp++(O++[AObj.cells 80 (Ng m),AObj.cells 25 [AV.slice true 6 ((Eb m.take (C.take j) (T.take j)).map A7)],AObj.defs,AObj.loop LoopState.ready none FR 65 #[53] as' bd' (oid Hp.length (O.length+2))])) (fun j=>by simp) (by simp [oid]) (fun j x hx=>?_) (fun j y hk hcn=>by simp only [ov hTl.symm hk hcn]) (fun q y e X hk hke hcn=>?_)),?_⟩
  ·have:=Ic (fun x hx=>L4 (by omega) (hlow x hx)) (hOl (o:=true) (lp:=AObj.loop LoopState.ready none FR 65 #[53] as' bd' (oid Hp.length (O.length+2))) ⟨hFRl,by simp [oid]⟩) x hx
   simpa using this
  ·generalize hV:Hp++(O++[AObj.cells 80 (Ng m),AObj.cells 25 [AV.slice true 6 ((Eb m.take (C.take q) (T.take q)).map A7)],AObj.defs,AObj.loop LoopState.ready none FR 65 #[53] as' bd' (oid Hp.length (O.length+2))])++X=V
   have hL:V[(oid Hp.length (O.length+3))]? = some (AObj.loop LoopState.ready none FR 65 #[53] as' bd' (oid Hp.length (O.length+2))):=by rw [←hV,Ax,Ax,Rx];rfl
   have hA0:V[(oid Hp.length (O.length+1))]? = some (AObj.cells 25 [AV.slice true 6 ((Eb m.take (C.take q) (T.take q)).map A7)]):=by rw [←hV,Ax,Ax,Rx];rfl
   refine Iy (pd:=none) (fr:=FR) (sz:=65) (ps:=#[53]) (df:=(oid Hp.length (O.length+2))) (asg:=as') (bd:=bd') hL rfl (by decide) (fun d=>?_)
   subst hFR has hbd
   refine Fd [13,53] ?_;refine Gf ?_;refine Z14 ?_;refine A2 [13,14] ?_
   refine ⟨rfl,none,hL,?_⟩
   generalize hbz:(AObj.loop LoopState.busy _ _ _ _ _ _ _)=bz
   have hA:(V.set (oid Hp.length (O.length+3)) bz)[(oid Hp.length (O.length+1))]? = some (AObj.cells 25 [AV.slice true 6 ((Eb m.take (C.take q) (T.take q)).map A7)]):=by rw [Bh (Bv (by omega))];exact hA0
   refine Jy ?_
   refine W.drawT0 [0,0,1,0,15,31,63,31] [0] [.s [54] (some 0) [] [],.q 3 [] []] (fun B=>(V.set (oid Hp.length (O.length+3)) bz).set (oid Hp.length (O.length+1)) (if B 0=true then AObj.cells 25 [AV.slice false 6 ((Eb m.take (C.take q) (T.take q)).map A7)] else AObj.cells 25 [AV.slice true 6 ((Eb m.take (C.take q) (T.take q)).map A7)])) (fun _=>[.cells 27 (E4 e)]) Aj (by kernel_rfl) (by simp only [Bt,if_false];exact Ce hA) rfl (fun B=>by simp) ?_
   refine Of (o:=(oid Hp.length (O.length+1))) (t':=25) (cs:=[.slice true 6 ((Eb m.take (C.take q) (T.take q)).map A7)]) (cs':=[.slice false 6 ((Eb m.take (C.take q) (T.take q)).map A7)]) Tryz.isAgg25 (fun B hB=>⟨by simp only [hB];exact getset hA,by simp only [upd,if_true,Bu],rfl⟩) ?_
   apply Y.q
   ·intro B hT hF
    refine Z8 ?_;exact Z38
   case hTF=>decide
   refine Y.appendPut3 (tn:=[0]) (U:=(V.set (oid Hp.length (O.length+3)) bz).set (oid Hp.length (O.length+1)) (AObj.cells 25 [AV.slice false 6 ((Eb m.take (C.take q) (T.take q)).map A7)])) (O:=[.cells 27 (E4 e)]) (o:=(oid Hp.length (O.length+1))) (t':=25) (cs:=[.slice false 6 ((Eb m.take (C.take q) (T.take q)).map A7)]) (by kernel_rfl) jU Tryz.type27 Tryz.sizeOf27 Tryz.sizeOf25 (Ag (getset hA)) ?_ ?_ ?_
   ·have:=hstl q;simp [Tryz.t27];omega
   ·have:=hstl q;simp [Tryz.t27];omega
   refine Fv jS (getset hA) ?_ ?_
   ·exact Ni
   refine Z91 ?_
   subst hbz
   refine K.rdN (i9 hL (Bv (by omega)) (Bv (by omega))) ?_
   refine ⟨rfl,?_⟩
   subst hV
   simp only [Ax,za,Dk,D9,List.set_cons_succ,List.set_cons_zero]
   rw [AC7 hTl.symm hk hke hcn,Bq,Br,Ec,Al]
  rintro r H' rfl
  simp only [Lq,hTl ▸ Lq]
  refine ⟨Hp,_,_,_,rfl,rfl,fun h=>h,?_,(oat (i:=3)).trans rfl,by simp,?_⟩
  ·intro o ho
   rcases B4.1 ho with rfl|ho
   ·rw [Rx]
    rfl
   rw [←Ax]
   exact Ag (hDo o ho)
  refine Z12 ?_;refine Gf ?_
  refine ARun.ownEq (O++[AObj.cells 80 (Ng m),AObj.cells 25 [AV.slice true 6 ((Eb m.take C T).map A7)],AObj.defs,AObj.loop LoopState.exhausted none FR 65 #[53] as' bd' (oid Hp.length (O.length+2))]) (by rw [show O.length+2+1=O.length+3 from rfl,z9]<;>rfl) ?_
  refine Wi (n:=O.length+1) (ho:=oat.trans rfl) (hset:=by rw [z9]<;>simp only [List.set_cons_succ,List.set_cons_zero]<;>rfl) jA ?_
  refine A5 ?_
  refine Ep jU Tryz.type27 ?_ ?_ ?_
  ·have h1:=Mn (take:=m.take) hTl.symm;have h2:=Jm C m.take;have h3:=hCo.1;have h4:=Lh (c:=C) (by_:=T) m.ahead (by simpa using ht44);have h5:=hmo.ahead.len;simp only [Ao,Tryz.t27];omega
  ·have h1:=Mn (take:=m.take) hTl.symm;have h2:=Jm C m.take;have h3:=hCo.1;have h4:=Lh (c:=C) (by_:=T) m.ahead (by simpa using ht44);have h5:=hmo.ahead.len;simp only [Ao,Tryz.t27];omega
  refine R.wk 62 _ (.strip true 6 _) ?_;refine A5 ?_;refine A2 [6,8,25,26,27] ?_;refine Ry ?_;refine A2 [6,8,25,26,27] ?_
  have hlp:ObjLow (Hp.length+(O.length+4)) (AObj.loop LoopState.exhausted none FR 65 #[53] as' bd' (oid Hp.length (O.length+2))):=⟨hFRl,by simp [oid]⟩
  have hOn:=hOl (j:=C.length) (o:=false) hlp
  have hse:Eb m.take (C.take C.length) (T.take C.length)=Eb m.take C T:=by rw [Lq,Eo (by omega)]
  rw [hse] at hOn
  refine K.lgN (k+1,O++[AObj.cells 80 (Ng m),AObj.cells 25 [AV.slice false 6 ((Eb m.take C T).map A7)],AObj.defs,AObj.loop LoopState.exhausted none FR 65 #[53] as' bd' (oid Hp.length (O.length+2))],(oid Hp.length (O.length+2))::Df) ⟨hlt,?_,?_,?_,?_,?_⟩ (by dsimp only;omega) (Dn ?_) (by simp)
  ·subst hCd hTd hmd;exact s7 hmk hnf ht44
  ·subst hCd hTd hmd;exact s8 hmk hmo hTo ht44
  ·subst hCd hTd hmd;exact ku hmk (hmvo _ (Be hlt)) (g8 hst hmk) hTl ht44
  ·simpa using hOn
  ·intro o ho
   rcases B4.1 ho with rfl|ho
   ·dsimp only;rw [Rx];rfl
   dsimp only;rw [←Ax];exact Ag (hDo o ho)
  dsimp only
  rw [ACa hmk,hCd,hTd]
  rfl
 have hke:k=l.length:=by simp at ht28;omega
 subst hke
 have hm2:=AC6 hnf
 refine K.lgE ?_;refine Gg ?_;refine Z15 ?_;refine Z10 ?_;exact A8 (B1 A9 A9) ⟨by rw [hm,hm2],rfl⟩ (hlow:=by simp only [Vp,B4,E2,or_false];rintro y (rfl|rfl);exact Dz;simp)

/-! slices.Backward of moves. -/
theorem AQ2 (l0:Nat) (ms:List Mov) (hml:ms.length≤1048576) (U:Nat→List AObj) (N:Nat→Prop) (Z:List AObj→Prop) (hlen:∀k,(U k).length=(U 0).length) (hll:l0<(U 0).length)
  (hlw:∀k,∀x∈U k,ObjLow (U 0).length x) (h0:N 0)
  (hy:∀k m X,k<ms.length→ms[ms.length-1-k]? = some m→N k→AYield Tryz.prog l0 [A3 ((ms.length-1-k:Nat):Int),Jo m] (U k++X) (fun b H'=>(b=true∧N (k+1)∧H'=U (k+1)++X)∨(b=false∧∃V,H'=V++X∧V.length=(U 0).length∧(∀x∈V,ObjLow (U 0).length x)∧Z V)))
  (hR:N ms.length→Z (U ms.length)):ACall Tryz.prog 129 [.yield l0,.ro [Gm ms]] (U 0) (fun _ H'=>Z H'):=by
 refine Ae [] [0,1] Tryz.func129 Tryz.ntmps129 (fun d=>?_)
 refine Z1 ?_
 refine A5 (h:=Q.sub64 (h2:=fun _=>by simp only [Ao];omega)) (hr:=?_)
 refine A5 ?_;refine A2 [0,1,3] ?_
 refine Bf (α:=Nat×Int) (fun s=>⟨19,A6 0 (.yield l0) (A6 1 (.ro [Gm ms]) (A6 3 (A3 s.2) (fun _=>.any))),U s.1,[],[],none⟩) (fun s=>s.1≤ms.length∧N s.1∧s.2=(ms.length:Int)-1-(s.1:Int)) (fun s=>ms.length-s.1) ((0,(ms.length:Int)-1)) ⟨Ar _,h0,by simp⟩ (Bj (by simp)) rfl (fun s hs=>?_)
 obtain ⟨x,i⟩:=s
 obtain ⟨hx,hN,hi⟩:=hs
 dsimp only at hx hN hi ⊢
 refine Z7 ?_;refine A2 [0,1,3,8] ?_
 refine A4 (fun ht8=>?_) (fun ht8=>?_)
 ·have hlt:x<ms.length:=by simp at ht8;omega
  have hlt2:ms.length-1-x<ms.length:=by omega
  have hi2:i=((ms.length-1-x:Nat):Int):=by omega
  subst hi2
  refine Oh ?_;refine Z23 ?_
  refine A5 (h:=Ai (ms.length-1-x) (Jo ms[ms.length-1-x]) (fun _=>B6 hlt2)) (hr:=?_)
  refine A5 ?_
  refine R.yield (l:=l0) (args:=[A3 ((ms.length-1-x:Nat):Int),Jo ms[ms.length-1-x]]) (hy x ms[ms.length-1-x] _ hlt (Ab hlt2) hN) ?_
  intro b V O hV hb
  have hVO:O=[]∧((b=true∧N (x+1)∧V=U (x+1))∨(b=false∧V.length=(U 0).length∧(∀y∈V,ObjLow (U 0).length y)∧Z V)):=by
   rcases hb with ⟨h1,h2,h3⟩|⟨h1,V',h2,h3,h4,h5⟩
   ·have h6:=I3 h3 (by rw [hV,hlen x,hlen (x+1)])
    exact ⟨h6.2,.inl ⟨h1,h2,h6.1⟩⟩
   obtain ⟨rfl,rfl⟩:=I3 h2 (by rw [hV,hlen x,h3])
   exact ⟨rfl,.inr ⟨h1,h3,h4,h5⟩⟩
  obtain ⟨rfl,hVO⟩:=hVO
  have hVl:V.length=(U 0).length:=by rw [hV,hlen x]
  have hVw:∀y∈V,ObjLow (U 0).length y:=by
   rcases hVO with ⟨_,_,rfl⟩|⟨_,_,h,_⟩
   ·exact hlw _
   exact h
  refine ⟨fun _=>by rw [hVl];exact hVw,fun o ho=>(by cases ho),?_⟩
  refine A5 ?_;refine A2 [0,1,3,18] ?_
  refine A4 (fun ht18=>?_) (fun ht18=>?_)
  ·have hZ:Z V:=by
    rcases hVO with ⟨h1,_,_⟩|⟨_,_,_,h⟩
    ·rw [h1] at ht18;cases ht18
    exact h
   refine Fs ?_;refine Z32 ?_;exact A8 .nores (hp:=hZ)
  have hVn:N (x+1)∧V=U (x+1):=by
   rcases hVO with ⟨_,h2,h3⟩|⟨h1,_,_,_⟩
   ·exact ⟨h2,h3⟩
   rw [h1] at ht18;cases ht18
  obtain ⟨hN1,rfl⟩:=hVn
  refine ef ?_;refine A2 [0,1,3] ?_
  refine Bg (x+1,((ms.length-1-x:Nat):Int)-1) ⟨hlt,hN1,by dsimp only;omega⟩ (by dsimp only;omega) ?_
  exact Dn rfl
 have hxe:x=ms.length:=by simp at ht8;omega
 refine Z59 ?_;refine K.lpE ?_;exact Es .nores (hp:=by rw [hxe];exact hR (hxe ▸ hN))

theorem c81 (l:List Mov) (Hp:List AObj):AFun Tryz.prog 81 [Gm l] Hp (.fn (.func 129) [] [.ro [Gm l]]):=by
 refine Ae [.tmp 2] [0] Tryz.func81 Tryz.ntmps81 (fun d=>?_)
 refine Z93 ?_;refine mx ?_;refine Z4 ?_;exact A8 (Ak A9) ⟨rfl,rfl⟩ (hlow:=by simp [or_imp,forall_and];exact ⟨fun m _ a _=>Ah _ a,fun m _ a _=>Ah _ a⟩)

/-! fuse.Back: the trees of all columns ahead. -/
def Ub:Mov:=⟨0,[],[],[],[]⟩
def Ri (c:List Col) (ms:List Mov) (i:Nat) (t:List Expr):List Expr×Int:=C1 (colsAt c ms (i+1)) t (ms.getD i Ub).back
def Qa (take:List Str) (was t:List Expr) (d:List Col) (x:Col):Expr:=if 0≤Px x.name take then was.getD (Px x.name take).toNat Au else t.getD (Aw x.name d).toNat Au
def Jr (c:List Col) (take:List Str) (was t:List Expr) (d:List Col):List Expr:=c.map (Qa take was t d)
def P5 (c:List Col) (ms:List Mov):Nat→List Expr→List Expr×Int
 | 0,t=>(t,0)
 | i+1,t=>if (Ri c ms i t).2 != 0 then ([],(Ri c ms i t).2) else P5 c ms i (Jr (colsAt c ms i) (ms.getD i Ub).take (Ri c ms i t).1 t (colsAt c ms (i+1)))
def Iu (c:List Col) (l:List Mov):List Expr×Int:=if (Cn c l).2 != 0 then ([],1) else P5 c l l.length (Dy (colsAt c l l.length))
def Co (c:List Col) (ms:List Mov):Nat→List Expr
 | 0=>Dy (colsAt c ms ms.length)
 | k+1=>Jr (colsAt c ms (ms.length-1-k)) (ms.getD (ms.length-1-k) Ub).take (Ri c ms (ms.length-1-k) (Co c ms k)).1 (Co c ms k) (colsAt c ms (ms.length-1-k+1))
theorem AFg {c:List Col} {l:List Mov} (h:((Cn c l).2 != 0)=true):Iu c l=([],1):=if_pos h
theorem So {c:List Col} {l:List Mov} (h:((Cn c l).2 != 0)=false):Iu c l=P5 c l l.length (Dy (colsAt c l l.length)):=if_neg (by rw [h];simp)
theorem s9 {l:List Expr} {n:Nat}:l.getD n Au∈l∨l.getD n Au=Au:=by
 rw [Bw]
 cases h:l[n]? with
 | none=>exact .inr rfl
 | some e=>exact .inl (B2 h)
theorem sa {take:List Str} {was t:List Expr} {d:List Col} {x:Col}:Qa take was t d x∈was∨Qa take was t d x∈t∨Qa take was t d x=Au:=by
 unfold Qa
 split
 ·rcases s9 (l:=was) (n:=(Px x.name take).toNat) with h|h
  ·exact .inl h
  exact .inr (.inr h)
 rcases s9 (l:=t) (n:=(Aw x.name d).toNat) with h|h
 ·exact .inr (.inl h)
 exact .inr (.inr h)
theorem kv {c d:List Col} {take:List Str} {was t:List Expr} (hw:TOk was) (ht:TOk t):TOk (Jr c take was t d):=by
 have h0:okE 61 Au:=⟨by simp [Au,Expr.text],by simp [Au,Expr.kids],fun z hz=>by simp [Au,Expr.kids] at hz⟩
 refine ⟨fun e he=>?_,fun e he=>?_⟩<;>obtain ⟨x,_,rfl⟩:=C2.1 he<;>rcases sa (take:=take) (was:=was) (t:=t) (d:=d) (x:=x) with h|h|h
 ·exact hw.ok _ h
 ·exact ht.ok _ h
 ·rw [h];exact h0
 ·exact hw.rng _ h
 ·exact ht.rng _ h
 rw [h];rfl
/-- Where the way back stands behind k moves. -/
structure BackAt (c:List Col) (ms:List Mov) (k:Nat):Prop where
 eq:P5 c ms ms.length (Dy (colsAt c ms ms.length))=P5 c ms (ms.length-k) (Co c ms k)
 ok:TOk (Co c ms k)
 len:(Co c ms k).length=(colsAt c ms (ms.length-k)).length
theorem BackAt.zero {c:List Col} {ms:List Mov} (hc:OkCols (colsAt c ms ms.length)):BackAt c ms 0:=⟨rfl,g7 hc,by simp [Co,Dy]⟩
theorem BackAt.err {c:List Col} {ms:List Mov} {k:Nat} (h:BackAt c ms k) (hk:k<ms.length) (he:((Ri c ms (ms.length-1-k) (Co c ms k)).2 != 0)=true):P5 c ms ms.length (Dy (colsAt c ms ms.length))=([],(Ri c ms (ms.length-1-k) (Co c ms k)).2):=by
 rw [h.eq,show ms.length-k=ms.length-1-k+1 by omega,P5,if_pos he]
theorem BackAt.next {c:List Col} {ms:List Mov} {k:Nat} (h:BackAt c ms k) (hk:k<ms.length) (hm:OkMov (ms.getD (ms.length-1-k) Ub)) (he:((Ri c ms (ms.length-1-k) (Co c ms k)).2 != 0)=false):BackAt c ms (k+1):=by
 refine ⟨?_,?_,?_⟩
 ·rw [h.eq,show ms.length-k=ms.length-1-k+1 by omega,P5,if_neg (by rw [he];simp),show ms.length-(k+1)=ms.length-1-k by omega]
  rfl
 ·exact kv (Ps h.ok _ hm.back.ok hm.back.rng (bne_eq_false_iff_eq.1 he)) h.ok
 rw [Co,Jr,Ao,show ms.length-(k+1)=ms.length-1-k by omega]
theorem BackAt.fin {c:List Col} {ms:List Mov} (h:BackAt c ms ms.length):P5 c ms ms.length (Dy (colsAt c ms ms.length))=(Co c ms ms.length,0):=by
 have:=h.eq
 rw [Vn] at this
 exact this
theorem AJ6 {v:Str} {l:List Str} (h:0≤Px v l):∃j:Nat,Px v l=j∧j<l.length:=by
 unfold Px at h ⊢
 cases hf:l.findIdx? (·==v) with
 | none=>rw [hf] at h;exact absurd h (by decide)
 | some i=>exact ⟨i,rfl,(Qi.1 hf).1⟩
theorem AFh {nm:Str} {c:List Col} {y:Col} (h:y∈c) (hn:y.name=nm):∃j:Nat,Aw nm c=j∧j<c.length:=by
 unfold Aw
 cases hf:c.findIdx? (fun y=>y.name==nm) with
 | none =>
  rw [Tb] at hf
  have:=hf y h
  rw [hn] at this
  simp at this
 | some i=>exact ⟨i,rfl,(Qi.1 hf).1⟩
/-- A column that is not taken is there behind the move. -/
theorem AMy {c:List Col} {m:Mov} {y:Col} (ht:(By c m).2=0) (hy:y∈c) (hn:¬0≤Px y.name m.take):∃j:Nat,Aw y.name (By c m).1=j∧j<(By c m).1.length:=by
 refine AFh (y:=y) ?_ rfl
 rw [(kt ht).1]
 refine d8 _ ?_
 unfold Eg
 rw [d9]
 refine ⟨hy,?_⟩
 rw [←rk,decide_eq_false hn]
 rfl
theorem kw {c d:List Col} {take:List Str} {was t:List Expr} {z:Nat} (h:z<c.length):(Jr c take was t d).take (z+1)=(Jr c take was t d).take z++[Qa take was t d c[z]]:=by
 have hl:z<(Jr c take was t d).length:=by rw [Jr,Ao];exact h
 rw [J8 hl]
 simp [Jr]
theorem kx {n k:Nat} {o:Bool} {l:List Expr}:∀z∈[AV.slice o k (l.map A7)],Low n z:=fun z hz=>by rw [B7.1 hz];exact Dz
theorem AMz {l:List Expr} {j:Nat} (h:j<l.length):(l.map A7)[j]? = some (A7 (l.getD j Au)):=by
 rw [Bz,Ab h,Bw,Ab h];rfl
theorem c35 (c:List Col) (hc:OkCols c) (hc2:c.length≤1000000) (l:List Mov) (h:OkMovs l) (Hp:List AObj):AFun Tryz.prog 35 [An c,Gm l] Hp (.tup [Bo (Iu c l).1,A3 (Iu c l).2]):=by
 refine Ae [.cell 4 25,.cell 5 38] [0,1] Tryz.func35 Tryz.ntmps35 (fun d=>?_)
 refine zq ?_;refine A2 [0,1,4,5] ?_;refine AHz ?_;refine Pv ?_;refine A2 [1,4,5,6,7] ?_;refine Z7 ?_;refine A2 [1,4,5,6,24] ?_
 refine A4 (fun ht24=>?_) (fun ht24=>?_)
 ·have hm:=AFg ht24
  refine zg ?_;refine Kz 0 6 ?_;refine Fw ?_;refine Z10 ?_;exact AKk
 have hm:=So ht24
 obtain ⟨hmay,hst,hss⟩:=Nj ht24
 have hmvo:=U9 hmay
 have hcn:=Gc hc (fun m hm=>h.each m hm) l.length
 have hlen:=h.len
 have hol:((Cv c l l.length).map An).length=l.length+1:=by rw [Ao,Jp]
 rw [hss]
 refine Zh ?_
 refine A5 (h:=Ai (l.length) (An (colsAt c l l.length)) (fun _=>wd (Jq (Am _)))) (hr:=?_)
 refine A5 ?_;refine Aa Tryz.call74 (c74 (colsAt c l l.length) hcn.len _) ?_;refine Z14 ?_;refine A2 [1,4,5,6,8] ?_;refine Z54 ?_
 refine Jx (fun hlow=>?_)
 refine A5 ?_;refine Aa Tryz.call81 (c81 l _) ?_;refine A2 [4,5,6,8,33] ?_;refine Jy ?_
 refine L0 (m:=4) Tryz.call129 (fun FR as' bd' hFR has hbd=>?_)
 have hFRl:∀s,Low (Hp.length+6) (FR s):=by
  intro s
  rw [hFR]
  refine M3 ?_
  revert s
  repeat (first|exact Bc|refine Bb (by first|(simp [oid,or_imp,forall_and];done)|(simp [oid,or_imp,forall_and];exact ⟨fun m _ a _=>Ah _ a,fun m _ a _=>Ah _ a⟩)|(simp [oid,or_imp,forall_and]<;>omega)) ?_)
 have hOl:∀{e:Int} {t:List Expr} {lp:AObj},ObjLow (Hp.length+6) lp→∀x∈Hp++[AObj.cells 25 [AV.nil],AObj.cells 38 [A3 e],AObj.cells 41 [Mc (Cv c l l.length)],AObj.cells 25 [Bo (t)],AObj.defs,lp],ObjLow (Hp.length+6) x:=by
  intro e t lp hlp x hx
  refine Ic (fun x hx=>L4 (by omega) (hlow x hx)) (fun x hx=>?_) x hx
  simp only [B4,E2,or_false] at hx
  rcases hx with rfl|rfl|rfl|rfl|rfl|rfl
  ·intro y hy;rw [B7.1 hy];simp
  ·intro y hy;rw [B7.1 hy];simp
  ·intro y hy;rw [B7.1 hy];exact Mm
  ·intro y hy;rw [B7.1 hy];exact Dz
  ·trivial
  exact hlp
 refine ⟨_,AQ2 (oid Hp.length 5) l h.len (fun k=>Hp++[AObj.cells 25 [AV.nil],AObj.cells 38 [A3 0],AObj.cells 41 [Mc (Cv c l l.length)],AObj.cells 25 [Bo (Co c l k)],AObj.defs,AObj.loop LoopState.ready none FR 91 #[34,35] as' bd' (oid Hp.length 4)]) (BackAt c l) (fun V=>(∃t,V=Hp++[AObj.cells 25 [AV.nil],AObj.cells 38 [A3 0],AObj.cells 41 [Mc (Cv c l l.length)],AObj.cells 25 [Bo (t)],AObj.defs,AObj.loop LoopState.ready none FR 91 #[34,35] as' bd' (oid Hp.length 4)]∧Iu c l=(t,0))∨(∃(e:Int) (t:List Expr),V=Hp++[AObj.cells 25 [AV.nil],AObj.cells 38 [A3 e],AObj.cells 41 [Mc (Cv c l l.length)],AObj.cells 25 [Bo (t)],AObj.defs,AObj.loop LoopState.done (some Code.ret) FR 91 #[34,35] as' bd' (oid Hp.length 4)]∧Iu c l=([],e))) (fun k=>by simp) (by simp [oid]) (fun k=>(fun x hx=>by rw [Av];exact hOl (lp:=AObj.loop LoopState.ready none FR 91 #[34,35] as' bd' (oid Hp.length 4)) (by exact ⟨hFRl,by simp [oid]⟩) x hx)) (.zero hcn) (fun k m X hk hm hN=>?_) (fun hN=>.inl ⟨_,rfl,by rw [So (by simpa using ht24),hN.fin]⟩),?_⟩
 ·generalize hV:Hp++[AObj.cells 25 [AV.nil],AObj.cells 38 [A3 0],AObj.cells 41 [Mc (Cv c l l.length)],AObj.cells 25 [Bo (Co c l k)],AObj.defs,AObj.loop LoopState.ready none FR 91 #[34,35] as' bd' (oid Hp.length 4)]++X=V
  have hL:V[oid Hp.length 5]? = some (AObj.loop LoopState.ready none FR 91 #[34,35] as' bd' (oid Hp.length 4)):=by rw [←hV,Ax,As];rfl
  have hA0:V[oid Hp.length 0]? = some (AObj.cells 25 [AV.nil]):=by rw [←hV,Ax,As];rfl
  have hB0:V[oid Hp.length 1]? = some (AObj.cells 38 [A3 0]):=by rw [←hV,Ax,As];rfl
  have hS0:V[oid Hp.length 2]? = some (AObj.cells 41 [Mc (Cv c l l.length)]):=by rw [←hV,Ax,As];rfl
  have hZ0:V[oid Hp.length 3]? = some (AObj.cells 25 [Bo (Co c l k)]):=by rw [←hV,Ax,As];rfl
  refine Iy (pd:=none) (fr:=FR) (sz:=91) (ps:=#[34,35]) (df:=oid Hp.length 4) (asg:=as') (bd:=bd') hL rfl (by decide) (fun d=>?_)
  subst hFR has hbd
  refine Fd [4,5,6,8,34,35] ?_
  have hgm:l.getD (l.length-1-k) Ub=m:=by rw [Bw,hm];rfl
  have hmo:=h.each m (B2 hm)
  have hmv:=hmvo m (B2 hm)
  have htn:=g8 hst hm
  have hcn:=H5 (c:=c) hm
  have hCo:=Gc hc (fun m hm=>h.each m hm) (l.length-1-k+1)
  have hCi:=Gc hc (fun m hm=>h.each m hm) (l.length-1-k)
  have herr:=hN.err hk
  have hnxt:=hN.next hk (by rw [hgm];exact hmo)
  have htb:Co c l (k+1)=Jr (colsAt c l (l.length-1-k)) m.take (Ri c l (l.length-1-k) (Co c l k)).1 (Co c l k) (colsAt c l (l.length-1-k+1)):=by rw [Co,hgm]
  have hwe:Ri c l (l.length-1-k) (Co c l k)=C1 (colsAt c l (l.length-1-k+1)) (Co c l k) m.back:=by unfold Ri;rw [hgm]
  rw [hwe] at herr hnxt htb
  have htl:(Co c l k).length=(colsAt c l (l.length-1-k+1)).length:=by rw [hN.len,show l.length-k=l.length-1-k+1 by omega]
  have hik:l.length-1-k<l.length:=by omega
  generalize l.length-1-k=i at *
  refine Z2 ?_;refine A2 [4,5,6,8,9,35] ?_;refine Gf ?_;refine Z14 ?_;refine A2 [4,5,6,8,9,10] ?_
  refine ⟨rfl,none,hL,?_⟩
  generalize hbz:(AObj.loop LoopState.busy _ _ _ _ _ _ _)=bz
  have hA:(V.set (oid Hp.length 5) bz)[oid Hp.length 0]? = some (AObj.cells 25 [AV.nil]):=by rw [Bh (Bv (by decide))];exact hA0
  have hB:(V.set (oid Hp.length 5) bz)[oid Hp.length 1]? = some (AObj.cells 38 [A3 0]):=by rw [Bh (Bv (by decide))];exact hB0
  have hS:(V.set (oid Hp.length 5) bz)[oid Hp.length 2]? = some (AObj.cells 41 [Mc (Cv c l l.length)]):=by rw [Bh (Bv (by decide))];exact hS0
  have hZ:(V.set (oid Hp.length 5) bz)[oid Hp.length 3]? = some (AObj.cells 25 [Bo (Co c l k)]):=by rw [Bh (Bv (by decide))];exact hZ0
  refine Jy ?_;refine Dt [0,1,0,0,8,28,60,0,255,511,1023,1023,2047,8191] 13 Aj (by kernel_rfl) ?_;refine Z8 ?_
  refine Aq (h:=B8 hS) (hr:=?_)
  refine Z8 ?_
  refine Aq (h:=Ai ((i+1)) (An (colsAt c l (i+1))) (fun _=>wd (Jq (by omega)))) (hr:=?_)
  refine Aq ?_
  refine Aq (h:=B8 hZ) (hr:=?_)
  refine Dl Tryz.call75 (c75 m.back hmo.back.len hmo.back.ok (colsAt c l (i+1)) hCo (Co c l k) (by have:=hCo.len;omega) hN.ok.ok _) ?_
  refine Z8 ?_;refine Z92 ?_;refine A5 ?_;refine A2 [4,5,6,8,9,10,11,12] ?_;refine Z7 ?_;refine A2 [4,5,6,8,9,10,11,12,49] ?_
  refine A4 (fun ht49=>?_) (fun ht49=>?_)
  ·have herr:=herr ht49
   refine Z2 ?_
   refine Cq jS hA ?_ ?_
   ·simp
   refine Cq jS (AJ3 hB (Bv (by decide))) ?_ ?_
   ·simp
   refine uj ?_
   subst hbz
   refine ut ?_
   refine .inr ⟨rfl,Hp++[AObj.cells 25 [AV.nil],AObj.cells 38 [A3 (C1 (colsAt c l (i+1)) (Co c l k) m.back).2],AObj.cells 41 [Mc (Cv c l l.length)],AObj.cells 25 [Bo (Co c l k)],AObj.defs,_],?_,by simp,(fun x hx=>by rw [Av];exact hOl (lp:=_) (by exact ⟨hFRl,by simp [oid]⟩) x hx),.inr ⟨_,_,rfl,by rw [So (by simpa using ht24)];exact herr⟩⟩
   subst hV
   simp only [Ax,Cp,Dk,D9,List.set_cons_succ,List.set_cons_zero]
  have hB1:=hnxt ht49
  have hwl:(C1 (colsAt c l (i+1)) (Co c l k) m.back).1.length=m.take.length:=(Lh m.back (by simpa using ht49)).trans (J6 (U7 hmv)).2
  refine Qz ?_;refine A2 [6,8,9,10,11,13] ?_;refine Z54 ?_;refine Qu 13 6 ?_
  refine A5 (h:=B8 hS) (hr:=?_)
  refine A5 ?_
  refine A5 (h:=Ai (i) (An (colsAt c l i)) (fun _=>wd (Jq (by omega)))) (hr:=?_)
  refine Z13 ?_;refine AEc ?_
  refine Bf (α:=Nat) (fun z=>⟨91,A6 6 (.ptr (oid Hp.length 2) 0) (A6 8 (.ptr (oid Hp.length 3) 0) (A6 9 (A3 (i:Nat)) (A6 10 (.ptr (oid V.length 0) 0) (A6 11 (Bo (C1 (colsAt c l (i+1)) (Co c l k) m.back).1) (A6 13 (.slice true 6 (((Jr (colsAt c l i) m.take (C1 (colsAt c l (i+1)) (Co c l k) m.back).1 (Co c l k) (colsAt c l (i+1))).take z).map A7)) (A6 54 (An (colsAt c l i)) (A6 55 (A3 ((colsAt c l i).length:Nat)) (A6 56 (A3 (z:Nat)) (fun _=>.any))))))))),(V.set (oid Hp.length 5) bz),[AObj.cells 80 (Ng m)],[],some _⟩) (fun z=>z≤(colsAt c l i).length) (fun z=>(colsAt c l i).length-z) (0) (Ar _) (Bj (by simp<;>rfl)) rfl (fun z hz=>?_)
  refine Z2 ?_;refine A2 [6,8,9,10,11,13,54,55,56,57] ?_
  refine Cr (fun ht57=>?_) (fun ht57=>?_)
  ·have hz2:z<(colsAt c l i).length:=by simpa using ht57
   have hnl:((Jr (colsAt c l i) m.take (C1 (colsAt c l (i+1)) (Co c l k) m.back).1 (Co c l k) (colsAt c l (i+1))).take z).length≤z:=List.length_take_le _ _
   have hcl:=hCi.len
   refine Z76 ?_
   refine A5 (h:=Ai (z) (C0 (colsAt c l i)[z]) (fun _=>B6 hz2)) (hr:=?_)
   refine Qw ?_;refine A2 [6,8,9,10,11,13,15,54,55,56] ?_;refine Z83 ?_;refine Aa Tryz.call82 (c82 m.take (colsAt c l i)[z].name hmo.takes _) ?_;refine A5 ?_;refine A2 [6,8,9,10,11,13,15,16,54,55,56] ?_;refine Z1 ?_;refine A2 [6,8,9,10,11,13,15,16,54,55,56,66] ?_
   refine A4 (fun ht66=>?_) (fun ht66=>?_)
   ·obtain ⟨j,hj,hjl⟩:=AJ6 (by simpa using ht66)
    have hpk:Qa m.take (C1 (colsAt c l (i+1)) (Co c l k) m.back).1 (Co c l k) (colsAt c l (i+1)) (colsAt c l i)[z]=(C1 (colsAt c l (i+1)) (Co c l k) m.back).1.getD j Au:=by unfold Qa;rw [if_pos (by rw [hj];omega),hj];rfl
    refine Ez ?_;refine R.moveT ?_;refine Z0 ?_
    refine A5 (h:=Ai (j) (A7 ((C1 (colsAt c l (i+1)) (Co c l k) m.back).1.getD j Au)) (fun _=>AMz (by omega))) (hr:=?_)
    refine Z80 ?_
    refine Ep jU Tryz.type27 ?_ ?_ ?_
    ·simp only [Ao,Av,Bi,Cb,Tryz.t27];omega
    ·simp only [Ao,Av,Bi,Cb,Tryz.t27];omega
    refine Jv ?_;refine AEc ?_;refine Z59 ?_;refine K.blE ?_;refine Gg ?_;refine Z22 ?_;refine ALe ?_
    rw [kw hz2,hpk,Bq]
    simp only [Br,Ec,Al]
    exact Di (own:=[AObj.cells 80 (Ng m)]) (fun _=>.refl _) (by repeat (first|exact Bc|refine Bb (by first|(simp [oid,or_imp,forall_and];done)|exact Dz|exact Lg|exact Ni|exact Em|(simp [oid,←hV];done)|(simp [oid,←hV];omega)) ?_)) (by intro x hx;rw [B7.1 hx];exact Sl) (by simp)
   have hjn:¬0≤Px (colsAt c l i)[z].name m.take:=by simpa using ht66
   obtain ⟨j,hj,hjl⟩:=AMy htn (Be hz2) hjn
   rw [←hcn] at hj hjl
   have hpk:Qa m.take (C1 (colsAt c l (i+1)) (Co c l k) m.back).1 (Co c l k) (colsAt c l (i+1)) (colsAt c l i)[z]=(Co c l k).getD j Au:=by unfold Qa;rw [if_neg hjn,hj];rfl
   refine Z3 ?_;refine Qt [0,0,0,0,8,28,60,0,128,508,1022,2046,4094,8191,16383] [] [.s [13,74] none [] [],.q 12 [] []] (fun _=>(V.set (oid Hp.length 5) bz)) (fun _=>[AObj.cells 80 (Ng m),AObj.cells 69 [Ac (colsAt c l i)[z].name,A3 (colsAt c l i)[z].kind]]) Aj (by kernel_rfl) rfl rfl (fun _=>rfl) ?_;refine Y.moveT ?_
   apply Y.q
   ·intro B hT hF
    refine Aq (h:=B8 hZ) (hr:=?_)
    refine Aq (h:=B8 hS) (hr:=?_)
    refine Z8 ?_
    refine Aq (h:=Ai ((i+1)) (An (colsAt c l (i+1))) (fun _=>wd (Jq (by omega)))) (hr:=?_)
    refine Z33 ?_;refine Dl Tryz.call60 (c60 (colsAt c l (i+1)) hCo (colsAt c l i)[z].name _) ?_
    refine Aq (h:=Ai (j) (A7 ((Co c l k).getD j Au)) (fun _=>AMz (by omega))) (hr:=?_)
    exact mv
   case hTF=>decide
   refine Ed (tn:=[])  ?_
   refine Ep jU Tryz.type27 ?_ ?_ ?_
   ·simp only [Ao,Av,Bi,Cb,Tryz.t27];omega
   ·simp only [Ao,Av,Bi,Cb,Tryz.t27];omega
   refine Jv ?_;refine AEc ?_;refine Ry ?_;refine ALe ?_
   rw [kw hz2,hpk,Bq]
   simp only [Br,Ec,Al]
   exact Di (own:=[AObj.cells 80 (Ng m)]) (fun _=>.refl _) (by repeat (first|exact Bc|refine Bb (by first|(simp [oid,or_imp,forall_and];done)|exact Dz|exact Lg|exact Ni|exact Em|(simp [oid,←hV];done)|(simp [oid,←hV];omega)) ?_)) (by intro x hx;rw [B7.1 hx];exact Sl) (by simp)
  have hze:(colsAt c l i).length≤z:=by simpa using ht57
  refine Z28 ?_;refine Z44 ?_
  refine Cq jS hZ ?_ ?_
  ·exact kx
  refine Z91 ?_
  subst hbz
  refine zz ?_
  refine .inl ⟨rfl,hB1,?_⟩
  subst hV
  simp only [Ax,Cp,Dk,D9,List.set_cons_succ,List.set_cons_zero]
  rw [htb,Eo (by rw [Jr,Ao];exact hze)]
 rintro r H' (⟨t,rfl,hrun⟩|⟨e,t,rfl,hrun⟩)
 ·refine ⟨Hp,_,_,_,rfl,rfl,fun h=>h,?_,rfl,by simp,?_⟩
  ·intro o ho
   have:o=oid Hp.length 4:=by simpa using ho
   subst this
   rw [As]
   rfl
  refine Z12 ?_;refine mu ?_;refine Z10 ?_;exact A8 (B1 (Dm jA) (Dm jA)) ⟨by rw [hrun],rfl⟩ (hlow:=by simp only [Vp,B4,E2,or_false];rintro y (rfl|rfl);exact Dz;simp)
 refine ⟨Hp,_,_,_,rfl,rfl,fun h=>h,?_,rfl,by simp,?_⟩
 ·intro o ho
  have:o=oid Hp.length 4:=by simpa using ho
  subst this
  rw [As]
  rfl
 refine Wm 0 6 ?_;refine Zf ?_;exact A8 (B1 (Dm jA) (Dm jA)) ⟨by rw [hrun];rfl,rfl⟩

/-- sound.Check. -/
def Fz (c:List Col) (l:List Mov):Int×Int:=if Ke c l then (((Ca c l).1.length-1:Nat),(Ca c l).2) else (0,1)
theorem AFi {c:List Col} {ms:List Mov} {k:Nat} {m:Mov} (hk:ms[k]? = some m) (h:NS c ms k) (he:(By (colsAt c ms k) m).2≠0):(Ca c ms).1.length=k+1:=by
 unfold NS at h
 rw [h,Lf hk,Ca,if_pos (by simpa using he)]
 have:=Jp c ms k
 simp [this]
theorem wp {c:List Col} {l:List Mov} (h:Ke c l=false):Fz c l=(0,1):=if_neg (by rw [h];simp)
theorem wq {c:List Col} {l:List Mov} (h:Ke c l=true) (hr:Ca c l=(Cv c l l.length,0)):Fz c l=((l.length:Int),0):=by
 unfold Fz
 rw [if_pos h,hr]
 simp only [Jp]
 rfl
theorem oz {c:List Col} {l:List Mov} {n:Nat} {e:Int} (h:Ke c l=true) (h1:(Ca c l).1.length=n+1) (h2:(Ca c l).2=e):Fz c l=((n:Int),e):=by
 unfold Fz
 rw [if_pos h,h1,h2]
 rfl
theorem c34 (c:List Col) (hc:OkCols c) (hc2:c.length≤1000000) (l:List Mov) (h:OkMovs l) (Hp:List AObj):AFun Tryz.prog 34 [An c,Gm l] Hp (.tup [A3 (Fz c l).1,A3 (Fz c l).2]):=by
 refine Ae [.cell 4 3,.cell 5 38] [0,1] Tryz.func34 Tryz.ntmps34 (fun d=>?_)
 refine zq ?_;refine A2 [0,1,4,5] ?_;refine Z7 ?_;refine Aa Tryz.call79 (c79 c hc l h _) ?_;refine A5 ?_;refine A2 [0,1,4,5,12] ?_
 refine A4 (fun ht12=>?_) (fun ht12=>?_)
 ·have hm:=wp (by simpa using ht12)
  refine zg ?_;refine Fw ?_;refine Z10 ?_;exact AKk
 have hmay:Ke c l=true:=by simpa using ht12
 obtain ⟨hmv,hl8⟩:=AC2 hmay h
 refine Z3 ?_;refine Ze ?_;refine A2 [0,1,4,5,6] ?_;refine Z54 ?_
 refine Jx (fun hlow=>?_)
 refine Z0 ?_;refine R.callO Tryz.call80 (c80 c l _) ?_
 rintro _ _ ⟨rfl,rfl⟩
 refine ⟨[.cells 30 [An c]],by simp,?_⟩
 rw [show oid (Hp++[AObj.cells 3 [A3 0],AObj.cells 38 [A3 0],AObj.cells 3 [A3 0]]).length 0=oid Hp.length 3 by simp [oid]]
 simp only [Dk,D9]
 refine A2 [4,5,6,15] ?_;refine Jy ?_
 refine L0 (m:=4) Tryz.call127 (fun FR as' bd' hFR has hbd=>?_)
 have hFRl:∀s,Low (Hp.length+6) (FR s):=by
  intro s
  rw [hFR]
  refine M3 ?_
  revert s
  repeat (first|exact Bc|refine Bb (by first|(simp [oid,or_imp,forall_and];done)|(simp [oid,or_imp,forall_and];exact ⟨fun m _ a _=>Ah _ a,fun m _ a _=>Ah _ a⟩)|(simp [oid,or_imp,forall_and]<;>omega)) ?_)
 have hOl:∀{n e k:Int} {q:List Col} {lp:AObj},ObjLow (Hp.length+6) lp→∀x∈Hp++[AObj.cells 3 [A3 n],AObj.cells 38 [A3 e],AObj.cells 3 [A3 k],AObj.cells 30 [An (q)],AObj.defs,lp],ObjLow (Hp.length+6) x:=by
  intro n e k q lp hlp x hx
  refine Ic (fun x hx=>L4 (by omega) (hlow x hx)) (fun x hx=>?_) x hx
  simp only [B4,E2,or_false] at hx
  rcases hx with rfl|rfl|rfl|rfl|rfl|rfl
  ·intro y hy;rw [B7.1 hy];simp
  ·intro y hy;rw [B7.1 hy];simp
  ·intro y hy;rw [B7.1 hy];simp
  ·intro y hy;rw [B7.1 hy];exact Em
  ·trivial
  exact hlp
 refine ⟨_,AMw (oid Hp.length 5) (oid Hp.length 3) l hmv (by omega) (colsAt c l) (Gc hc fun m hm=>h.each m hm) (fun k=>Hp++[AObj.cells 3 [A3 0],AObj.cells 38 [A3 0],AObj.cells 3 [A3 (k:Int)],AObj.cells 30 [An (colsAt c l k)],AObj.defs,AObj.loop LoopState.ready none FR 25 #[16,17] as' bd' (oid Hp.length 4)]) (fun k=>Hp++[AObj.cells 3 [A3 0],AObj.cells 38 [A3 0],AObj.cells 3 [A3 ((k+1:Nat):Int)],AObj.cells 30 [An (colsAt c l k)],AObj.defs,AObj.loop LoopState.ready none FR 25 #[16,17] as' bd' (oid Hp.length 4)]) (NS c l) (fun V=>(∃(q:List Col),V=Hp++[AObj.cells 3 [A3 0],AObj.cells 38 [A3 0],AObj.cells 3 [A3 (l.length:Int)],AObj.cells 30 [An (q)],AObj.defs,AObj.loop LoopState.ready none FR 25 #[16,17] as' bd' (oid Hp.length 4)]∧Ca c l=(Cv c l l.length,0))∨(∃(e:Int) (n:Nat) (q:List Col),V=Hp++[AObj.cells 3 [A3 (n:Int)],AObj.cells 38 [A3 e],AObj.cells 3 [A3 (n:Int)],AObj.cells 30 [An (q)],AObj.defs,AObj.loop LoopState.done (some Code.ret) FR 25 #[16,17] as' bd' (oid Hp.length 4)]∧e≠0∧(Ca c l).2=e∧(Ca c l).1.length=n+1)) (fun k=>by simp) (fun k=>by simp) (by simp [oid]) (by simp [oid]) (fun k=>(fun x hx=>by rw [Av];exact hOl (lp:=AObj.loop LoopState.ready none FR 25 #[16,17] as' bd' (oid Hp.length 4)) (by exact ⟨hFRl,by simp [oid]⟩) x hx)) (fun k=>(fun x hx=>by rw [Av];exact hOl (lp:=AObj.loop LoopState.ready none FR 25 #[16,17] as' bd' (oid Hp.length 4)) (by exact ⟨hFRl,by simp [oid]⟩) x hx)) AJ2 (fun k=>by rw [As];rfl) (fun k=>by rw [As];rfl) (fun k m hk he=>by rw [Cp];simp only [H5 hk];rfl) (fun k m X hk hN=>?_) (fun hN=>.inl ⟨_,rfl,oo hN⟩),?_⟩
 ·generalize hV:Hp++[AObj.cells 3 [A3 0],AObj.cells 38 [A3 0],AObj.cells 3 [A3 (k:Int)],AObj.cells 30 [An (colsAt c l k)],AObj.defs,AObj.loop LoopState.ready none FR 25 #[16,17] as' bd' (oid Hp.length 4)]++X=V
  have hL:V[oid Hp.length 5]? = some (AObj.loop LoopState.ready none FR 25 #[16,17] as' bd' (oid Hp.length 4)):=by rw [←hV,Ax,As];rfl
  have hA0:V[oid Hp.length 2]? = some (AObj.cells 3 [A3 (k:Int)]):=by rw [←hV,Ax,As];rfl
  have hB0:V[oid Hp.length 0]? = some (AObj.cells 3 [A3 0]):=by rw [←hV,Ax,As];rfl
  have hC0:V[oid Hp.length 1]? = some (AObj.cells 38 [A3 0]):=by rw [←hV,Ax,As];rfl
  refine Iy (pd:=none) (fr:=FR) (sz:=25) (ps:=#[16,17]) (df:=oid Hp.length 4) (asg:=as') (bd:=bd') hL rfl (by decide) (fun d=>?_)
  subst hFR has hbd
  refine Fd [4,5,6,17] ?_;refine Z44 ?_;refine A2 [4,5,6,8] ?_
  refine ⟨rfl,none,hL,?_⟩
  generalize hbz:(AObj.loop LoopState.busy _ _ _ _ _ _ _)=bz
  have hA:(V.set (oid Hp.length 5) bz)[oid Hp.length 2]? = some (AObj.cells 3 [A3 (k:Int)]):=by rw [Bh (Bv (by decide))];exact hA0
  have hB:(V.set (oid Hp.length 5) bz)[oid Hp.length 0]? = some (AObj.cells 3 [A3 0]):=by rw [Bh (Bv (by decide))];exact hB0
  have hC:(V.set (oid Hp.length 5) bz)[oid Hp.length 1]? = some (AObj.cells 38 [A3 0]):=by rw [Bh (Bv (by decide))];exact hC0
  refine mw ?_;refine A2 [4,5,6,8,19] ?_
  refine A4 (fun ht19=>?_) (fun ht19=>?_)
  ·have he:(By (colsAt c l k) m).2≠0:=by simpa using ht19
   refine Ez ?_
   refine A5 (h:=B8 hA) (hr:=?_)
   refine A5 ?_
   refine Cq jS hB ?_ ?_
   ·simp
   refine Cq jS (AJ3 hC (Bv (by decide))) ?_ ?_
   ·simp
   refine uj ?_
   subst hbz
   refine ut ?_
   refine .inl ⟨he,Hp++[AObj.cells 3 [A3 (k:Int)],AObj.cells 38 [A3 (By (colsAt c l k) m).2],AObj.cells 3 [A3 (k:Int)],AObj.cells 30 [An (colsAt c l k)],AObj.defs,_],?_,by simp,(fun x hx=>by rw [Av];exact hOl (lp:=_) (by exact ⟨hFRl,by simp [oid]⟩) x hx),.inr ⟨_,_,_,rfl,he,g0 hk hN he,AFi hk hN he⟩⟩
   subst hV
   simp only [Ax,Cp,Dk,D9,List.set_cons_succ,List.set_cons_zero]
  have he:(By (colsAt c l k) m).2=0:=by simpa using ht19
  refine Z3 ?_;refine Gf ?_
  refine A5 (h:=B8 hA) (hr:=?_)
  refine A5 (h:=Qp (h2:=fun _=>by have hkl:=(Ad.1 hk).1;omega)) (hr:=?_)
  refine Cq jS hA ?_ ?_
  ·simp
  refine Z91 ?_
  subst hbz
  refine zz ?_
  refine .inr ⟨he,rfl,fx hk hN he,?_⟩
  subst hV
  simp only [Ax,Cp,Dk,D9,List.set_cons_succ,List.set_cons_zero]
  rfl
 rintro r H' (⟨q,rfl,hrun⟩|⟨e,n,q,rfl,hne,hrun,hlen⟩)
 ·refine ⟨Hp,_,_,_,rfl,rfl,fun h=>h,?_,rfl,by simp,?_⟩
  ·intro o ho
   have:o=oid Hp.length 4:=by simpa using ho
   subst this
   rw [As]
   rfl
  refine Z12 ?_;refine mu ?_;refine Z10 ?_;exact A8 (B1 (Dm jA) (Dm jA)) ⟨by rw [wq hmay hrun],rfl⟩
 refine ⟨Hp,_,_,_,rfl,rfl,fun h=>h,?_,rfl,by simp,?_⟩
 ·intro o ho
  have:o=oid Hp.length 4:=by simpa using ho
  subst this
  rw [As]
  rfl
 refine Zf ?_;exact A8 (B1 (Dm jA) (Dm jA)) ⟨by rw [oz hmay hlen hrun],rfl⟩

end Go.SX.Nb
namespace Go.SX
variable [GI:GlobInv]
open Classical
section
variable {P:Program} {d:Nat} {st:St} {ty:TypeId} {pos:String} {aft:Array Edge} {gd:Option (Nat×Bool)}
/-- A variable of its own, not laid yet. -/
theorem AOp.allocP {t:TypeId} {z:Value} {k s:Nat} (hz:∀w,(zeroValue t).run P w=.ok z w) (hk:z.cells.size=k) (hs:s<st.sz):
  AOp P d ⟨some s,.alloc t,ty,pos,aft,gd⟩ st (·=st.set s (.cellp k)):=by
 subst hk
 intro G a w h Q'
 let G':Gh:={ G with tag:=fun b o=>if b=w.heap.size∧o<z.cells.size then .tail (.slot d s) else G.tag b o }
 have hfree:∀o,G.tag w.heap.size o=.free:=fun o=>I9 h.tags _ o (Am _)
 have hne:∀b o,G.tag b o≠.free→¬(b=w.heap.size∧o<z.cells.size):=fun b o hb hc=>by rw [hc.1] at hb;exact hb (hfree o)
 have hkeep:∀b o,G.tag b o≠.free→G'.tag b o=G.tag b o:=fun b o hb=>by simp only [G'];rw [if_neg (hne b o hb)]
 have hcell:∀b o,G.tag b o≠.free→(w.alloc (.cells z.cells t)).cell? ⟨b,o,none⟩=w.cell? ⟨b,o,none⟩:=fun b o hb=>by
  refine World.cell?_alloc_old _ _ _ ?_
  show b≠w.heap.size
  rintro rfl
  exact hb (hfree o)
 have T:Turn G w G' (w.alloc (.cells z.cells t)):=by
  refine ⟨fun b o hb=>⟨by rw [hkeep b o (by rw [hb];simp)];exact hb,hcell b o (by rw [hb];simp)⟩,fun b o L hb=>by rw [hkeep b o (by rw [hb];simp)];exact hb,fun b o i hb=>by rw [hkeep b o (by rw [hb];simp)];exact hb,Am _,fun o ho=>rfl,rfl,rfl,rfl,by simp,dg _ (fun b o hb=>.inl (by simp only [G'];rw [if_neg (by omega)])) (fun i hi=>.inl ⟨hi,rfl⟩)⟩
 have h1:StRel d G' st a (w.alloc (.cells z.cells t)):=by
  refine h.turn (U:=st.up) (O:=st.own) T ⟨fun i x hx=>T.objRel ?_ ?_ (h.heap.obj i x hx) (fun b hb=>?_),h.heap.n,h.heap.inj⟩ rfl h.defsAt ⟨fun b o hb=>?_,fun b o i hb=>?_,fun b o L hb=>?_,h.tags.globKeep T.old⟩ h.low
  ·rw [h.heap.n];exact (Ad.1 hx).1
  ·have:=(h.heap.obj i x hx).blt
   show (w.heap.push _)[G.blk i]? = _
   rw [Pz,if_neg (by omega)]
  ·have:=hb.lt
   show (w.heap.push _)[b]? = _
   rw [Pz,if_neg (by omega)]
  ·simp only [G'] at hb
   split at hb
   ·rename_i hc
    obtain ⟨rfl,hlt⟩:=hc
    exact ⟨z.cells[o],by rw [World.cell?_alloc_new];exact E9 hlt⟩
   rw [hcell b o hb]
   exact h.tags.ex b o hb
  ·simp only [G'] at hb
   split at hb
   ·cases hb
   rw [World.frozen?_alloc_old]
   ·exact h.tags.obj b o i hb
   show b≠w.heap.size
   rintro rfl
   rw [hfree] at hb;cases hb
  simp only [G'] at hb
  split at hb
  ·rename_i hc
   obtain ⟨rfl,hlt⟩:=hc
   exact World.frozen?_alloc_new _ _ _ _
  rw [World.frozen?_alloc_old]
  ·exact h.tags.tail b o L hb
  show b≠w.heap.size
  rintro rfl
  rw [hfree] at hb;cases hb
 have hrun:(execOp a.eval (⟨some s,.alloc t,ty,pos,aft,gd⟩:Oper)).run P w=.ok (.value (.pointer (some ⟨w.heap.size,0,none⟩))) (w.alloc (.cells z.cells t)):=by
  simp [execOp,Instr.alloc,hz,newVar,newRow]
 refine D7 (by intro c h;cases h) hrun ⟨G',_,h1.put (s:=s) (y:=.cellp z.cells.size) hs ?_,T.keep d,rfl,rfl,rfl,rfl⟩
 exact .cellp _ _ _ ⟨_,rfl,fun o ho=>by simp [G',ho]⟩

/-- It is laid: from now on nobody writes it. -/
theorem AOp.storeP {t:TypeId} {x:Operand} {r k:Nat} {y:AV} (hsz:∀w,(sizeOf t).run P w=.ok k w) (hf:st.fr r=.cellp k) (hx:st.ev x=y) (hk:y.cells.length=k) (hk0:0<k) (h1:y.cells.all AV.one=true):
  AOp P d ⟨none,.store t (.tmp r) x,ty,pos,aft,gd⟩ st (·=st.set r (.ro y.cells)):=by
 intro G a w h Q'
 have hone:∀c∈y.cells,c.one=true:=fun c hc=>B0.1 h1 c hc
 obtain ⟨hc,hcc⟩:=(hx ▸ h.eval x).cells hone
 have hsl:=h.slots r
 rw [hf] at hsl
 generalize hv:a.tmps.getD r undef=v at hsl
 cases hsl with
 | cellp l k b ho =>
  obtain ⟨L,hL,ht⟩:=ho
  injection hL with hL
  subst hL
  let us:=(a.eval x).cells.toList
  have hul:us.length=k:=by simp only [us,Array.length_toList];omega
  have huone:∀u∈us,u.oneCell'=true:=fun u hu=>by
   obtain ⟨j,hj⟩:=C8 hu
   have hj':(a.eval x).cells[j]? = some u:=by rw [←T5];exact hj
   have hlt:j<y.cells.length:=by rw [←hc];exact (Nn.1 hj').1
   exact (hcc j _ u (Ab hlt) hj').one (hone _ (Be hlt))
  have hrun0:=run_storeCells_cells (P:=P) b 0 us 0 w (fun j hj=>by
    obtain ⟨u,hu⟩:=h.tags.ex b j (by rw [ht j (by omega)];simp)
    simp only [Nat.add_zero,Bl];rw [hu];rfl) (fun j hj=>by simpa using h.tags.tail _ _ _ (ht j (by omega))) huone
  simp only [Nat.add_zero] at hrun0
  let W:=w.setCells b 0 us
  let G':Gh:={ G with tag:=fun b' o=>if b'=b∧o<k then .fix else G.tag b' o }
  have htag:∀b' o,G.tag b' o≠.tail (.slot d r)→G'.tag b' o=G.tag b' o:=fun b' o hb=>by
   simp only [G']
   rw [if_neg]
   rintro ⟨rfl,ho⟩
   exact hb (ht o ho)
  have hout:∀b' o,¬(b'=b∧o<k)→W.cell? ⟨b',o,none⟩=w.cell? ⟨b',o,none⟩:=fun b' o hn =>
   World.cell?_setCells_out _ us 0 w ⟨b',o,none⟩ (fun hb _=>by
    simp only at hb ⊢
    exact .inr (Vl fun h''=>hn ⟨hb,by omega⟩))
  have hcell:∀b' o,G.tag b' o≠.tail (.slot d r)→W.cell? ⟨b',o,none⟩=w.cell? ⟨b',o,none⟩:=fun b' o hb=>hout b' o (fun hn=>hb (by rw [hn.1];exact ht o hn.2))
  have hnb:∀i,i<G.n→G.blk i≠b:=Np h.heap h.tags (ht 0 hk0)
  have hheap:∀b',b'≠b→W.heap[b']? = w.heap[b']? := fun b' hb=>Ev _ _ _ _ _ hb
  have hsize:W.heap.size=w.heap.size:=Eu _ _ _ _
  have hstill:Still G w G' W:=Mv (fun b' hb'=>hheap b' (fun e=>No (ht 0 hk0) (e ▸ hb'))) (J9 hsize.symm) (fun b' o _=>by
   by_cases hc:b'=b∧o<k
   ·exact .inr ⟨_,by rw [hc.1];exact ht o hc.2⟩
   exact .inl (by simp only [G'];rw [if_neg hc])) (fun i hi=>.inl ⟨hi,rfl⟩)
  have hfix:∀b' o,G.tag b' o=.fix→G'.tag b' o=.fix∧W.cell? ⟨b',o,none⟩=w.cell? ⟨b',o,none⟩:=fun b' o hb=>⟨by rw [htag b' o (by rw [hb];simp)];exact hb,hcell b' o (by rw [hb];simp)⟩
  have htail:∀b' o L,L≠.slot d r→G.tag b' o=.tail L→G'.tag b' o=.tail L:=fun b' o L hL hb=>by
   rw [htag b' o (by rw [hb];intro e;injection e with e;exact hL e)];exact hb
  have hobj:∀b' o i,G.tag b' o=.obj i→G'.tag b' o=.obj i:=fun b' o i hb=>by rw [htag b' o (by rw [hb];simp)];exact hb
  have hrep:∀{l:Option Loc} {z:AV} {u:Value},l≠some (.slot d r)→Rep G w l z u→Rep G' W l z u:=fun hl hz =>
   hz.mono (G':=G') hfix (Am _) (fun _ _=>rfl) (fun L hL b' o ht'=>htail b' o L (fun e=>hl (by rw [hL,e])) ht')
  have hkeep:Keep d G w G' W:=⟨hfix,fun b' o e s he ht'=>htail b' o _ (by rintro ⟨⟩;omega) ht',Am _,fun _ _=>rfl,Hw _ _ _ _,Ga _ _ _ _,F9 _ _ _ _,J9 hsize.symm,hstill⟩
  have hvec:∀j u,us[j]? = some u→W.cell? ⟨b,j,none⟩=some u:=fun j u hu=>by
   have hj:=(Ad.1 hu).1
   have hex:∃u',w.cell? ⟨b,j,none⟩=some u':=h.tags.ex b j (by rw [ht j (by omega)];simp)
   obtain ⟨u',hu'⟩:=hex
   have hbk:∃vs e fz,w.heap[b]? = some (.cells vs e fz):=by
    simp only [World.cell?] at hu'
    split at hu'
    ·rename_i vs e fz hb;exact ⟨vs,e,fz,hb⟩
    cases hu'
   obtain ⟨vs,e,fz,hbk⟩:=hbk
   have hlen:0+us.length≤vs.size:=by
    rw [hul,Bl]
    rcases Bk vs.size k with h'|h'
    ·exfalso
     obtain ⟨u2,hu2⟩:=h.tags.ex b vs.size (by rw [ht _ h'];simp)
     simp [World.cell?,hbk] at hu2
    exact h'
   obtain ⟨vs',b1,b2,b3⟩:=Kv b e fz us 0 w vs hbk hlen
   have b3':=b3 j
   rw [if_pos (by omega)] at b3'
   show (w.setCells b 0 us).cell? ⟨b,j,none⟩=some u
   simp only [World.cell?,b1]
   rw [b3',Nat.sub_zero]
   exact hu
  have hst:StRel d G' (st.set r (.ro y.cells)) a W:=by
   refine ⟨h.size,fun s=>?_,⟨fun i z hz=>?_,h.heap.n,h.heap.inj⟩,h.defs,h.defsAt,h.defsNodup,h.defsGe,⟨fun b' o hb=>?_,fun b' o i hb=>?_,fun b' o L hb=>?_,h.tags.globKeep hstill⟩,h.rnd,h.low,h.top⟩
   ·show Rep G' W _ (A6 r (.ro y.cells) st.fr s) _
    unfold A6
    by_cases hs:s=r
    ·subst hs
     rw [if_pos rfl,hv]
     refine .ro _ _ ⟨b,0,none⟩ (fun j=>(a.eval x).cells.getD j undef) rfl hone (fun j c hj=>?_) (fun j c hj=>?_)
     all_goals
      have hlt:j<y.cells.length:=(Ad.1 hj).1
      have hu:(a.eval x).cells[j]? = some ((a.eval x).cells[j]'(by omega)):=E9 _
      have e1:(a.eval x).cells.getD j undef=(a.eval x).cells[j]'(by omega):=by rw [Jg,hu];rfl
      rw [e1]
     ·refine ⟨by simp only [G',Bl];rw [if_pos ⟨trivial,by omega⟩],?_⟩
      rw [Bl]
      exact hvec j _ (by simp only [us];rw [T5];exact hu)
     exact hrep (by simp) (hcc j c _ hj hu)
    rw [if_neg hs]
    exact hrep (by simp;exact fun e=>hs e) (h.slots s)
   ·have hob:=h.heap.obj i z hz
    have hi:i<G.n:=by rw [h.heap.n];exact (Ad.1 hz).1
    have hb:=hheap (G.blk i) (hnb i hi)
    cases z with
    | cells t cs =>
     obtain ⟨vs,a1,a2,a3,a4⟩:=hob
     exact ⟨vs,hb.trans a1,a2,fun j y u p q=>hrep (by simp) (a3 j y u p q),fun j hj=>hobj _ _ _ (a4 j hj)⟩
    | loop sta pd fr sz ps asg bd df =>
     obtain ⟨fn,tmps,a1,a2,a3,a4⟩:=hob
     exact ⟨fn,tmps,hb.trans a1,a2,fun s=>hrep (by simp) (a3 s),a4⟩
    | defs=>exact hb.trans hob
    | dead=>exact hb.trans hob
    | bld t e bs=>exact BldRel.turn hob rfl (fun b' o ho=>hobj b' o i ho) hb (fun b' ha=>hheap b' (fun e=>by
      have:=ha.tag h.tags (o:=0) (by rw [e,ht 0 hk0];simp)
      rw [e,ht 0 hk0] at this;cases this))
    | gone =>
     obtain ⟨vs,t,fz,a1,a2⟩:=hob
     exact ⟨vs,t,fz,hb.trans a1,fun j hj=>(hfix _ _ (a2 j hj)).1⟩
   ·by_cases hc:b'=b∧o<k
    ·obtain ⟨rfl,ho⟩:=hc
     exact ⟨us[o]'(by omega),hvec o _ (Ab _)⟩
    rw [hout b' o hc]
    simp only [G',if_neg hc] at hb
    exact h.tags.ex b' o hb
   ·rw [World.frozen?_setCells]
    simp only [G'] at hb
    split at hb
    ·cases hb
    exact h.tags.obj b' o i hb
   rw [World.frozen?_setCells]
   simp only [G'] at hb
   split at hb
   ·cases hb
   exact h.tags.tail b' o L hb
  have hrun:(execOp a.eval (⟨none,.store t (.tmp r) x,ty,pos,aft,gd⟩:Oper)).run P w=.ok .skip W:=
   Gu hsz (show a.eval (.tmp r)=_ from hv) (by omega) hrun0
  exact H3 (by intro c h;cases h) hrun ⟨G',_,hst,hkeep,rfl,rfl,rfl,rfl⟩
end
section
variable {P:Program} {d:Nat} {sz:Nat} {dfs:List Nat} {rnd:Option Nat} {l0:List Oper} {up own:(Nat→Bool)→List AObj} {KP:List PanicEntry→St→Prop} {E:List Oper→(Nat→AV)→Prop} {S:List SegY} {l:List Oper} {fr:Nat→AV} {ty:TypeId} {pos:String} {aft:Array Edge} {s:Nat} {T F:List Nat}
theorem Y.allocP {t:TypeId} {z:Value} {k:Nat} (hz:∀w,(zeroValue t).run P w=.ok z w) (h:ChainY P d l0 sz up own dfs rnd KP E S l (A6 s (.cellp k) fr)) (hk:z.cells.size=k:=by rfl) (hs:Nat.blt s sz=true:=by rfl):
  ChainY P d l0 sz up own dfs rnd KP E (.s [s] none T F::S) (⟨some s,.alloc t,ty,pos,aft,none⟩::l) fr:=by
 refine ⟨_,l,[(s,.cellp k)],rfl,⟨rfl,rfl,fun B f _ _ _ hf=>.of ?_⟩,h⟩
 exact AOp.allocP (st:=⟨sz,f,up B,own B,dfs,rnd⟩) hz hk (by simpa using hs)
theorem Y.storeP {t:TypeId} {x:Operand} {r k:Nat} {y:AV} {ys:List AV} (hsz:∀w,(Go.sizeOf t).run P w=.ok k w) (h:ChainY P d l0 sz up own dfs rnd KP E S l (A6 r (.ro ys) fr))
  (hf:fr r=.cellp k:=by exact sL0) (hx:B5 fr x=y:=by exact sL0) (hc:y.cells=ys:=by exact sL0)
  (hk:ys.length=k:=by rfl) (hk0:0<k:=by decide) (h1:ys.all AV.one=true:=by exact sL2):
  ChainY P d l0 sz up own dfs rnd KP E (.s [r] none T F::S) (⟨none,.store t (.tmp r) x,ty,pos,aft,none⟩::l) fr:=by
 subst hc
 refine ⟨_,l,[(r,.ro y.cells)],rfl,⟨rfl,rfl,fun B f _ _ _ hfr=>.of ?_⟩,h⟩
 have e:f r=fr r:=hfr r (by simp [lk,Wa,Op.operands])
 have ex:B5 f x=y:=by rw [agr hfr (by simp [Op.operands])];exact hx
 exact AOp.storeP (st:=⟨sz,f,up B,own B,dfs,rnd⟩) hsz (e.trans hf) ex hk hk0 h1
end
end Go.SX
