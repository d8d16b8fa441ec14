/- On the way (part 7). -/
import Derived.Lib.ParseIntBTie
import Derived.Shelf.Strings.Builder1
import Derived.Lib.ItoaLen
import Derived.Test.YtofbdcbjpdpllaaGreatDoorImageNamesCardSaidPart6
set_option linter.all false
namespace Go.SX.Nb
open Go Go.SX Go.Proofs
variable [ErrAt]
set_option maxRecDepth 4000
theorem c93 (l:List Col) (hl:l.length≤1000000) (Hp:List AObj):AFun Tryz.prog 93 [Aq l] Hp (Aq l):=by
 refine Ah [.tmp 2] [0] Tryz.func93 Tryz.ntmps93 (fun d=>?_)
 refine Z46 ?_;refine Z35 ?_
 refine R.eqlNil jU (by kernel_rfl) (fun b hb=>?_)
 refine A2 [0,4] ?_
 refine A3 (fun ht4=>?_) (fun ht4=>?_)
 ·have hl0:l=[]:=by simpa using hb ht4
  subst hl0
  refine Z2 ?_;refine R7 2 2 false ?_;refine Z4 ?_;exact ADw
 refine bt ?_;refine Pq ?_;refine A5 ?_
 refine G8 jU Tryz.type41 ?_ ?_ ?_
 ·simp [Tryz.t41];omega
 ·simp [Tryz.t41];omega
 refine J0 ?_;exact ADy

theorem vo {Hp:List AObj} {y:Col} {n:Nat} (h:∀x∈Hp,ObjLow Hp.length x):∀x∈Hp++[AObj.cells 41 [],AObj.cells 41 (Ad y.name::A4 y.kind::List.replicate n AV.any)],ObjLow (Hp.length+2) x:=by
 intro x hx
 rcases Dp.1 hx with hx|hx
 ·exact Ra (by omega) (h x hx)
 simp only [Bg,Fq,or_false] at hx
 rcases hx with rfl|rfl
 ·intro z hz;cases hz
 intro z hz
 simp only [Bg] at hz
 rcases hz with rfl|rfl|hz
 ·simp
 ·simp
 rw [List.eq_of_mem_replicate hz];simp
theorem AH4 (y:Col) (Hp:List AObj):ACallO Tryz.prog 93 [Aq [y]] Hp (fun r H'=>∃cc,1≤cc∧r=.sl (oid Hp.length 1) 2 1 cc∧H'=Hp++[.cells 41 [],.cells 41 (Ad y.name::A4 y.kind::List.replicate ((cc-1)*2) AV.any)]):=by
 refine ACallO.body [.tmp 2] [0] Tryz.func93 Tryz.ntmps93 (fun d=>?_)
 refine Z46 ?_;refine Z64 ?_
 refine My (fun hlow=>?_)
 refine A5 ?_
 refine R.eqlNil jU (by kernel_rfl) (fun b hb=>?_)
 refine A2 [0,4] ?_
 refine A3 (fun ht4=>?_) (fun ht4=>?_)
 ·exact absurd (hb ht4) (by simp)
 refine bt ?_;refine R.buildObj0 (n:=0) jU Tryz.sizeOf41 ?_;refine A5 ?_
 refine R.appendObj (k:=2) (n:=1) jU Tryz.type41 (show [Bs y]≠[] by simp) ?_ ?_ (fun cc hcc=>?_)
 ·simp [Tryz.t41]
 ·simp
 have e0:Mc [Bs y]++List.replicate ((cc-[Bs y].length)*2) AV.any=Ad y.name::A4 y.kind::List.replicate ((cc-1)*2) AV.any:=rfl
 rw [e0]
 clear e0
 refine A5 ?_;refine Z4 ?_;exact K.finO 2 (A6 (t:=2)) ⟨cc,hcc,rfl,rfl⟩ (hlow:=by simp [oid]) (hobj:=vo hlow)

theorem AF4 (c:List Col) (hc:OkCols c) (m:Mov) (h:OkMov m) (h3:(m.kind==3)=false) (Hp:List AObj):AFun Tryz.prog 185 [Aq c,Gn m] Hp (Aq (B7 c m)):=by
 refine Ah [.tmp 4] [0,1] Tryz.func185 Tryz.ntmps185 (fun d=>?_)
 refine sj ?_;refine Z1 ?_;refine A9 Tryz.call93 (c93 m.give h.gives2 _) ?_;refine A5 ?_;refine A2 [0,3,5] ?_;refine Z32 ?_;refine A2 [0,3,5,12] ?_
 refine A3 (fun ht12=>?_) (fun ht12=>?_)
 ·rw [h3] at ht12;cases ht12
 refine Wk ?_;refine Z23 ?_;exact A8 (Aj A6) ⟨by rw [zo h3]<;>rfl,rfl⟩

theorem AF5 (c:List Col) (hc:OkCols c) (m:Mov) (h:OkMov m) (h3:(m.kind==3)=true) (s:Str) (y:Col) (ht:m.take=[s]) (hg:m.give=[y]) (Hp:List AObj):AFun Tryz.prog 185 [Aq c,Gn m] Hp (Aq (B7 c m)):=by
 have hgv:=zp (c:=c) h3 ht hg
 have hgy:=vm (c:=c) h3 ht hg
 obtain ⟨kd,tk,gv,ah,bk⟩:=m
 simp only at ht hg h3
 subst ht hg
 refine Ah [.tmp 4] [0,1] Tryz.func185 Tryz.ntmps185 (fun d=>?_)
 refine sj ?_;refine Z1 ?_;refine R.callO Tryz.call93 (AH4 y _) ?_
 rintro _ _ ⟨cc,hcc,rfl,rfl⟩
 refine ⟨[.cells 41 [],.cells 41 (Ad y.name::A4 y.kind::List.replicate ((cc-1)*2) AV.any)],by simp,?_⟩
 simp only [Gx,Ek]
 refine A5 ?_;refine A2 [0,3,5] ?_;refine Z32 ?_;refine A2 [0,3,5,12] ?_
 refine A3 (fun ht12=>?_) (fun ht12=>?_)
 ·refine Z13 ?_
  refine A5 (h:=Ak (0) (Ad s) (fun _=>rfl)) (hr:=?_)
  refine A5 ?_;refine A9 Tryz.call58 (c58 c hc s _) ?_;refine A5 ?_;refine A2 [0,5,6] ?_;refine Z1 ?_;refine A2 [0,5,6,20] ?_
  refine A3 (fun ht20=>?_) (fun ht20=>?_)
  ·have hf:¬Be s c<0:=by simp at ht20;omega
   obtain ⟨jj,hjj,hjc⟩:=Nd hf
   refine bu ?_
   refine A5 (h:=Ak ((Be s c).toNat) (Bs (c.getD (Be s c).toNat ⟨[],0⟩)) (fun _=>lb hf)) (hr:=?_)
   refine Z0 ?_;refine R.indexAddrSl (n:=1) 0 jU Tryz.sizeOf41 (by decide) ?_
   refine A5 (h:=Q.fieldAddrPtr (hc:=rfl)) (hr:=?_)
   refine R.storeOwn (y:=A4 (c.getD (Be s c).toNat ⟨[],0⟩).kind) (ys:=[A4 (c.getD (Be s c).toNat ⟨[],0⟩).kind]) (n:=1) (cs:=Ad y.name::A4 y.kind::List.replicate ((cc-1)*2) AV.any) (cs':=Ad y.name::A4 (c.getD (Be s c).toNat ⟨[],0⟩).kind::List.replicate ((cc-1)*2) AV.any) (t':=41) jS ?_ (hc:=rfl) (hput:=rfl) (hfit:=by simp)
   refine A2 [5] ?_;refine Gm ?_;refine E5 ?_;refine R.freeze (k:=2) (n:=1) 5 1 [Bs ⟨y.name,(c.getD (Be s c).toNat ⟨[],0⟩).kind⟩] hcc rfl rfl (di [⟨y.name,(c.getD (Be s c).toNat ⟨[],0⟩).kind⟩]) (dj [⟨y.name,(c.getD (Be s c).toNat ⟨[],0⟩).kind⟩]) (Vg [⟨y.name,(c.getD (Be s c).toNat ⟨[],0⟩).kind⟩]) ?_;refine Z0 ?_;exact AD7
  have hf:Be s c<0:=by simp at ht20;omega
  refine bt ?_;refine R.freeze (k:=2) (n:=1) 5 1 [Bs ⟨y.name,y.kind⟩] hcc rfl rfl (di [⟨y.name,y.kind⟩]) (dj [⟨y.name,y.kind⟩]) (Vg [⟨y.name,y.kind⟩]) ?_;refine Z0 ?_;exact AD7
 rw [h3] at ht12;cases ht12

/-- What a move must have before it is turned. -/
structure MvOk (m:Mov):Prop where
 ok:OkMov m
 ahead:m.ahead.length=m.give.length
 back:m.back.length=m.take.length
 one:(m.kind==3)=true→m.take.length=1∧m.give.length=1
theorem zq {m:Mov} (h:OkMov m) (hc:Fx m=true):MvOk m:=⟨h,(Ib hc).1,(Ib hc).2,fun h3=>Ve hc (by rw [h3];rfl)⟩
theorem AH5 (c:List Col) (hc:OkCols c) (m:Mov) (h:MvOk m) (Hp:List AObj):AFun Tryz.prog 185 [Aq c,Gn m] Hp (Aq (B7 c m)):=by
 cases h3:m.kind==3 with
 | false=>exact AF4 c hc m h.ok h3 Hp
 | true =>
  obtain ⟨h1,h2⟩:=h.one h3
  obtain ⟨s,hs⟩:=vn h1
  obtain ⟨y,hy⟩:=vn h2
  exact AF5 c hc m h.ok h3 s y hs hy Hp
theorem dk {c:List Col} {m:Mov} (h:OkMov m):OkCols (B7 c m):=by
 refine ⟨by rw [Jh];exact Ij h.gives2 (by decide),fun y hy=>?_⟩
 unfold B7 at hy
 split at hy
 ·split at hy
  ·exact h.gives.2 y hy
  cases hg:m.give with
  | nil=>rw [hg] at hy;cases hy
  | cons z r =>
   rw [hg] at hy
   rcases Bg.1 hy with rfl|hy
   ·exact h.gives.2 z (by rw [hg];exact K6)
   exact h.gives.2 y (by rw [hg];exact T0 _ hy)
 exact h.gives.2 y hy
theorem dl {c give:List Col} {take:List Str} (hc:OkCols c) (hg:OkCols give) (hg2:give.length≤1000000):OkCols (D6 c take give).1:=by
 have h0:OkCols ([]:List Col):=⟨by decide,fun y hy=>by cases hy⟩
 unfold D6
 split
 ·exact h0
 rename_i hr
 split
 ·exact h0
 split
 ·exact h0
 split
 ·exact h0
 split
 ·exact h0
 exact ur hc (by simpa using hr) hg hg2 rfl
theorem iz {c give:List Col} {take:List Str} (h:((D6 c take give).2 != 0)=false):∀s∈take,¬Be s c<0:=by
 have ht:Hl c take=true:=by
  unfold D6 at h
  split at h
  ·cases h
  split at h
  ·cases h
  rename_i ht
  simpa using ht
 intro s hs hf
 obtain ⟨j,hj⟩:=Cc hs
 have:=takenM_true.1 ht j s hj
 unfold O0 at this
 rw [show decide (Be s c<0)=true by simpa using hf] at this
 simp at this
theorem oy {over:List Col} {l:List Expr} {w:List Col} {x:Nat} (hl:x<l.length) (hw:x<w.length):
  Cu over (l.drop x) (w.drop x)=if Q8 l[x] over w[x].kind != 0 then Q8 l[x] over w[x].kind else Cu over (l.drop (x+1)) (w.drop (x+1)):=by
 rw [Ha hl,Ha hw]
 rfl
theorem vp {over:List Col} {l:List Expr} {w:List Col} {x:Nat} (hl:l.length≤x):Cu over (l.drop x) (w.drop x)=0:=by
 rw [List.drop_eq_nil_of_le hl]
 cases w.drop x<;>rfl
theorem Xz {α β:Type} {f:α→β} {l:List α} {x:Nat} (h:x<l.length):(l.take (x+1)).map f=(l.take x).map f++[f l[x]]:=by
 rw [Kb h,C8];rfl
theorem lc {c:List Col} {m:Mov} (h:((D6 c m.take (B7 c m)).2 != 0)=true):Bb c m=([],(D6 c m.take (B7 c m)).2):=if_pos h
theorem lf {c:List Col} {m:Mov} (h:((D6 c m.take (B7 c m)).2 != 0)=false) (h2:(Cu c m.ahead (B7 c m) != 0)=true):Bb c m=([],Cu c m.ahead (B7 c m)):=by
 unfold Bb;rw [if_neg (by rw [h];simp),if_pos h2]
theorem lg {c:List Col} {m:Mov} (h:((D6 c m.take (B7 c m)).2 != 0)=false) (h2:(Cu c m.ahead (B7 c m) != 0)=false) (h3:(Cu (D6 c m.take (B7 c m)).1 m.back (Ia c m) != 0)=true):Bb c m=([],Cu (D6 c m.take (B7 c m)).1 m.back (Ia c m)):=by
 unfold Bb;rw [if_neg (by rw [h];simp),if_neg (by rw [h2];simp),if_pos h3]
theorem lh {c:List Col} {m:Mov} (h:((D6 c m.take (B7 c m)).2 != 0)=false) (h2:(Cu c m.ahead (B7 c m) != 0)=false) (h3:(Cu (D6 c m.take (B7 c m)).1 m.back (Ia c m) != 0)=false):Bb c m=((D6 c m.take (B7 c m)).1,0):=by
 unfold Bb;rw [if_neg (by rw [h];simp),if_neg (by rw [h2];simp),if_neg (by rw [h3];simp)]
theorem AF6 (l:List Expr) (h:OkEs l) (w:List Col) (hw:w.length=l.length) (c:List Col) (hc:OkCols c) (Hp:List AObj):AFun Tryz.prog 187 [M2 l,Aq w,Aq c] Hp (A4 (Cu c l w)):=by
 refine Ah [.tmp 6] [0,1,2] Tryz.func187 Tryz.ntmps187 (fun d=>?_)
 refine Z2 ?_;refine U8 ?_;refine Z32 ?_;refine A2 [1,2,11,12,13] ?_
 refine D7 (α:=Nat) (fun x=>⟨37,A7 1 (Aq w) (A7 2 (Aq c) (A7 11 (M2 l) (A7 12 (A4 (l.length:Nat)) (A7 13 (A4 (x:Nat)) (fun _=>.any))))),Hp,[],[],none⟩) (fun x=>x≤l.length∧Cu c l w=Cu c (l.drop x) (w.drop x)) (fun x=>l.length-x) (0) ⟨Av _,rfl⟩ (Cp (by simp)) rfl (fun x hx=>?_)
 refine Z2 ?_;refine A2 [1,2,11,12,13,14] ?_
 refine Dl (fun ht14=>?_) (fun ht14=>?_)
 ·have hlt:x<l.length:=by simpa using ht14
  have hlw:x<w.length:=by omega
  have hlen:=h.len
  have hst:=oy (over:=c) hlt hlw
  refine Z83 ?_
  refine A5 (h:=Ak (x) (Ac l[x]) (fun _=>Bk hlt)) (hr:=?_)
  refine ge ?_;refine A2 [1,2,7,8,11,12,13] ?_;refine Z29 ?_;refine A9 Tryz.call13 (c13 61 l[x] (h.ok _ (Cl hlt)) (by decide) c hc _) ?_;refine Z63 ?_;refine A2 [1,2,7,8,10,11,12,13] ?_;refine Z1 ?_;refine A2 [1,2,7,8,10,11,12,13,25] ?_
  refine A3 (fun ht25=>?_) (fun ht25=>?_)
  ·have he:Q8 l[x] c w[x].kind=(H6 l[x] c).2:=if_pos ht25
   have hm:Cu c l w=(H6 l[x] c).2:=by rw [hx.2,hst,he,if_pos ht25]
   refine Z1 ?_;refine Z50 ?_;refine Bz ?_;exact gc
  refine Z6 ?_;refine Eb [0,0,0,0,12,28,60,127,255] 7 Al (by kernel_rfl) ?_;refine Zk ?_
  refine An (h:=Ak (x) (Bs w[x]) (fun _=>Bk hlw)) (hr:=?_)
  refine Z80 ?_;refine A9 Tryz.call244 (AH3 61 l[x] (h.ok _ (Cl hlt)) (by decide) c hc w[x].kind _) ?_;refine A5 ?_;refine A2 [1,2,11,12,13,35] ?_
  refine A3 (fun ht35=>?_) (fun ht35=>?_)
  ·have he:Q8 l[x] c w[x].kind=10:=by unfold Q8;rw [if_neg (by rw [ht25];simp),if_pos ht35]
   have hm:Cu c l w=10:=by rw [hx.2,hst,he];rfl
   refine Zn ?_;exact gc
  have he:Q8 l[x] c w[x].kind=0:=by unfold Q8;rw [if_neg (by rw [ht25];simp),if_neg (by rw [ht35];simp)]
  have hnx:Cu c l w=Cu c (l.drop (x+1)) (w.drop (x+1)):=by rw [hx.2,hst,he];rfl
  refine Z58 ?_;refine A2 [1,2,11,12,13] ?_;refine Bp (x+1) ⟨hlt,hnx⟩ (by omega) ?_
  exact Dk (own:=[]) (fun _=>.refl _) (by repeat (first|exact Bj|refine Bi (by first|(simp [or_imp,forall_and];done)|exact Ej) ?_)) (by simp) (by simp)
 have hxe:l.length≤x:=by simpa using ht14
 have hm:Cu c l w=0:=by rw [hx.2,vp hxe]
 refine Z33 ?_;refine Zn ?_;exact ni

theorem AH6 (c:List Col) (hc:OkCols c) (m:Mov) (h:OkMov m) (hf:∀s∈m.take,¬Be s c<0) (Hp:List AObj):AFun Tryz.prog 188 [Aq c,Gn m] Hp (Aq (Ia c m)):=by
 refine Ah [.tmp 4] [0,1] Tryz.func188 Tryz.ntmps188 (fun d=>?_)
 refine sj ?_;refine Z2 ?_;refine A2 [0,3,5] ?_;refine Z64 ?_;refine Ov 5 2 ?_;refine Z74 ?_;refine A2 [0,5,9,10,11] ?_
 refine D7 (α:=Nat) (fun x=>⟨26,A7 0 (Aq c) (A7 5 (.slice true 2 (((m.take.take x).map fun s=>c.getD (Be s c).toNat ⟨[],0⟩).map Bs)) (A7 9 (Ft m.take) (A7 10 (A4 (m.take.length:Nat)) (A7 11 (A4 (x:Nat)) (fun _=>.any))))),Hp,[],[],none⟩) (fun x=>x≤m.take.length) (fun x=>m.take.length-x) (0) (Av _) (Cp (by simp)) rfl (fun x hx=>?_)
 refine Z2 ?_;refine A2 [0,5,9,10,11,12] ?_
 refine Dl (fun ht12=>?_) (fun ht12=>?_)
 ·have hlt:x<m.take.length:=by simpa using ht12
  have htk:=h.takes
  have hfx:=hf _ (Cl hlt)
  obtain ⟨jj,hjj,hjc⟩:=Nd hfx
  refine Z88 ?_
  refine A5 (h:=Ak (x) (Ad m.take[x]) (fun _=>Bk hlt)) (hr:=?_)
  refine Z0 ?_;refine A2 [0,5,7,9,10,11] ?_;refine mz ?_;refine Z28 ?_;refine A9 Tryz.call58 (c58 c hc m.take[x] _) ?_
  refine A5 (h:=Ak ((Be m.take[x] c).toNat) (Bs (c.getD (Be m.take[x] c).toNat ⟨[],0⟩)) (fun _=>lb hfx)) (hr:=?_)
  refine Z71 ?_
  refine G8 jU Tryz.type41 ?_ ?_ ?_
  ·simp only [Aw,Cn,Bh,Cm,Tryz.t41];omega
  ·simp only [Aw,Cn,Bh,Cm,Tryz.t41];omega
  refine J0 ?_;refine A2 [0,5,9,10,11] ?_;refine Sr ?_;refine A2 [0,5,9,10,11] ?_
  refine Bp (x+1) hlt (by omega) (Ea ?_)
  rw [Xz hlt,C8]
  rfl
 have hxe:m.take.length≤x:=by simpa using ht12
 refine Z33 ?_;refine nb ?_;exact A8 (Aj A6) ⟨by unfold Ia;rw [Gu hxe]<;>rfl,rfl⟩ (hlow:=Dw)

theorem AH7 (c:List Col) (hc:OkCols c) (m:Mov) (h:MvOk m) (Hp:List AObj):AFun Tryz.prog 144 [Aq c,Gn m] Hp (.tup [Aq (Bb c m).1,A4 (Bb c m).2]):=by
 refine Ah [.tmp 4,.tmp 5] [0,1] Tryz.func144 Tryz.ntmps144 (fun d=>?_)
 refine Z13 ?_;refine A2 [0,3] ?_;refine Z1 ?_;refine A9 Tryz.call185 (AH5 c hc m h _) ?_;refine A5 ?_;refine A2 [0,3,6] ?_;refine E5 ?_
 have hg:=dk (c:=c) h.ok
 have hg2:(B7 c m).length≤1000000:=by rw [Jh];exact h.ok.gives2
 refine Z74 ?_;refine A9 Tryz.call186 (AH2 c hc m.take h.ok.takes (B7 c m) hg hg2 _) ?_;refine Z63 ?_;refine A2 [0,3,6,7,8] ?_;refine Z29 ?_;refine A2 [0,3,6,7,8,23] ?_
 refine A3 (fun ht23=>?_) (fun ht23=>?_)
 ·have hm:=lc ht23
  refine Z1 ?_;refine R7 4 2 false ?_;refine n8 ?_;exact Z41
 refine Z6 ?_;refine Z55 ?_;refine A9 Tryz.call187 (AF6 m.ahead h.ok.ahead (B7 c m) (by rw [Jh,h.ahead]) c hc _) ?_;refine A5 ?_;refine A2 [0,3,7,9] ?_;refine Z1 ?_;refine A2 [0,3,7,9,31] ?_
 refine A3 (fun ht31=>?_) (fun ht31=>?_)
 ·have hm:=lf ht23 ht31
  refine Z1 ?_;refine R7 4 2 false ?_;refine n8 ?_;exact Z41
 refine Z6 ?_;refine Jt ?_;refine Eb [0,1,0,0,12,0,63,127] 6 Al (by kernel_rfl) ?_;refine Zk ?_;refine E1 Tryz.call188 (AH6 c hc m h.ok (iz ht23) _) ?_;refine An ?_;refine Gl ?_;refine A9 Tryz.call187 (AF6 m.back h.ok.back (Ia c m) (by rw [Ia,Aw,h.back]) (D6 c m.take (B7 c m)).1 (dl hc hg hg2) _) ?_;refine A5 ?_;refine A2 [7,10] ?_;refine Z1 ?_;refine A2 [7,10,41] ?_
 refine A3 (fun ht41=>?_) (fun ht41=>?_)
 ·have hm:=lg ht23 ht31 ht41
  refine Z1 ?_;refine R7 4 2 false ?_;refine n8 ?_;exact Z41
 have hm:=lh ht23 ht31 ht41
 refine Su ?_;refine Z11 ?_;exact ABi

def Q9 {α:Type} (p:α→Bool) (l:List α):Int:=if l.any p then (l.findIdx p:Int) else -1
theorem vq {α:Type} {p:α→Bool} {l:List α} {i:Nat} (h:i<l.length) (hn:p l[i]=true) (hp:∀(j:Nat) (y:α),j<i→l[j]? = some y→p y=false):(i:Int)=Q9 p l:=by
 unfold Q9
 rw [if_pos (Ok.2 ⟨_,Cl h,hn⟩)]
 congr 1
 refine (List.findIdx_eq h |>.2 ⟨hn,fun j hj=>?_⟩).symm
 exact hp j (l[j]'(by omega)) hj (Aa (by omega))
theorem j4 {α:Type} {p:α→Bool} {l:List α} (h:l.any p=false):(-1:Int)=Q9 p l:=by
 unfold Q9
 rw [if_neg (by rw [h];simp)]
theorem oz {α:Type} (p:α→Bool) (l:List α):decide (0≤Q9 p l)=l.any p:=by
 unfold Q9
 cases l.any p<;>simp
def Nf (s:Str):Bool := !(E2 s)
def Kx (e:Expr):Bool := !(B6 e)
theorem vr {m:Mov} (h:(((m.ahead.length:Int) != (m.give.length:Int)) || ((m.back.length:Int) != (m.take.length:Int)))=true):Fx m=false:=if_pos h
theorem vt {m:Mov} (h:(((m.ahead.length:Int) != (m.give.length:Int)) || ((m.back.length:Int) != (m.take.length:Int)))=false):Fx m=if m.kind==1 then ((m.take.length:Int)==0)&&((m.give.length:Int)==1)
 else if m.kind==2 then ((m.take.length:Int)==1)&&((m.give.length:Int)==0)
 else if (m.kind==3) || (m.kind==6) then ((m.take.length:Int)==1)&&((m.give.length:Int)==1)
 else if m.kind==4 then ((m.take.length:Int)==1)&&decide ((1:Int)<(m.give.length:Int))
 else if m.kind==5 then decide ((1:Int)<(m.take.length:Int))&&((m.give.length:Int)==1)
 else false:=if_neg (by rw [h];simp)
theorem AH8 (m:Mov) (Hp:List AObj):AFun Tryz.prog 235 [Gn m] Hp (Bm (Fx m)):=by
 refine Ah [.tmp 2] [0] Tryz.func235 Tryz.ntmps235 (fun d=>?_)
 refine Wf ?_;refine Eb [0,1,3,0,8,24,7,127] 7 Al (by kernel_rfl) ?_;refine Zk ?_;refine Z39 ?_;refine Gl ?_;refine A5 ?_;refine A2 [1,3,4] ?_;refine Z64 ?_
 simp only [Aw]
 refine Z74 ?_;refine Z59 ?_;refine Wh ?_;refine A2 [1,3,4,22] ?_
 refine A3 (fun ht22=>?_) (fun ht22=>?_)
 ·simp only [Aw] at ht22
  have hm:=vr ht22
  refine Z61 ?_;exact Z27
 simp only [Aw] at ht22
 have hn:=vt ht22
 refine Z6 ?_;refine Z29 ?_;refine A2 [3,4,24] ?_;refine Z92 ?_;refine A2 [3,4,24,25] ?_
 refine A3 (fun ht25=>?_) (fun ht25=>?_)
 ·refine na ?_;refine Z5 ?_;exact A8 (Aj A6) ⟨by rw [hn];first|(simp only [ht22,ht25,hk3,hk6,Jm,F5,Kq,Oi,if_true,if_false,B2,↓reduceIte]<;>rfl)|(simp only [ht22,ht25,hk3,Jm,F5,Kq,if_true,if_false,B2,↓reduceIte]<;>rfl)|(simp only [ht22,ht25,if_true,if_false,B2,↓reduceIte]<;>rfl),rfl⟩
 refine Z1 ?_;refine A2 [3,4,24,33] ?_
 refine A3 (fun ht33=>?_) (fun ht33=>?_)
 ·refine na ?_;refine Z5 ?_;exact A8 (Aj A6) ⟨by rw [hn];first|(simp only [ht22,ht25,ht33,hk3,hk6,Jm,F5,Kq,Oi,if_true,if_false,B2,↓reduceIte]<;>rfl)|(simp only [ht22,ht25,ht33,hk3,Jm,F5,Kq,if_true,if_false,B2,↓reduceIte]<;>rfl)|(simp only [ht22,ht25,ht33,if_true,if_false,B2,↓reduceIte]<;>rfl),rfl⟩
 refine Z29 ?_;refine A2 [3,4,24,41] ?_
 refine A3 (fun ht41=>?_) (fun ht41=>?_)
 ·have hk3:=ht41
  refine Z6 ?_
  refine A3 (fun ht41=>?_) (fun ht41=>?_)
  ·refine na ?_;exact Z40
  rw [hk3] at ht41;cases ht41
 have hk3:=ht41
 refine Z20 ?_;refine A2 [3,4,24,41] ?_;refine Gm ?_
 refine A3 (fun ht41=>?_) (fun ht41=>?_)
 ·have hk6:=ht41
  refine na ?_;exact Z40
 have hk6:=ht41
 refine Z1 ?_;refine A2 [3,4,24,50] ?_
 refine A3 (fun ht50=>?_) (fun ht50=>?_)
 ·refine na ?_;refine Z5 ?_;exact A8 (Aj A6) ⟨by rw [hn];first|(simp only [ht22,ht25,ht33,ht41,ht41,ht50,hk3,hk6,Jm,F5,Kq,Oi,if_true,if_false,B2,↓reduceIte]<;>rfl)|(simp only [ht22,ht25,ht33,ht41,ht41,ht50,hk3,Jm,F5,Kq,if_true,if_false,B2,↓reduceIte]<;>rfl)|(simp only [ht22,ht25,ht33,ht41,ht41,ht50,if_true,if_false,B2,↓reduceIte]<;>rfl),rfl⟩
 refine Z1 ?_;refine A2 [3,4,58] ?_
 refine A3 (fun ht58=>?_) (fun ht58=>?_)
 ·refine na ?_;refine Z5 ?_;exact AE8
 refine Z17 ?_;refine Z61 ?_;exact AE8

theorem AH9 (s:Str) (hs:s.length≤1048576) (Hp:List AObj):AFun Tryz.prog 238 [Ad s] Hp (Bm (Nf s)):=by
 refine Ah [.tmp 2] [0] Tryz.func238 Tryz.ntmps238 (fun d=>?_)
 refine Z46 ?_;refine Z2 ?_;refine A9 Tryz.call40 (c40 s hs _) ?_;exact sa

theorem AHa (e:Expr) (hok:okE 61 e) (Hp:List AObj):AFun Tryz.prog 236 [Ac e] Hp (Bm (Kx e)):=by
 refine Ah [.tmp 2] [0] Tryz.func236 Tryz.ntmps236 (fun d=>?_)
 refine Wf ?_;refine Z2 ?_;refine A9 Tryz.call38 (c38 61 e hok (by decide) _) ?_;exact sa

theorem AHb (l:List Str) (hl:l.length≤1048576) (hn:∀s∈l,s.length≤1048576) (Hp:List AObj):AFun Tryz.prog 284 [Ft l,.fn (.func 238) [] []] Hp (A4 (Q9 Nf l)):=by
 refine Ah [.tmp 4] [0,1] Tryz.func284 Tryz.ntmps284 (fun d=>?_)
 refine Z53 ?_;refine sd ?_
 refine D7 (α:=Nat) (fun x=>⟨19,A7 0 (Ft l) (A7 1 (.fn (.func 238) [] []) (A7 7 (A4 l.length) (A7 8 (A4 (x:Nat)) (fun _=>.any)))),Hp,[],[],none⟩) (fun x=>x≤l.length∧∀(j:Nat) y,j<x→l[j]? = some y→Nf y=false) (fun x=>l.length-x) (0) ⟨Av _,fun j y h=>by omega⟩ (Cp (by simp)) rfl (fun x hx=>?_)
 refine sc ?_
 refine Dl (fun ht9=>?_) (fun ht9=>?_)
 ·have hlt:x<l.length:=by simpa using ht9
  refine Zm ?_;refine sb ?_
  refine A5 (h:=Ak (x) (Ad l[x]) (fun _=>Bk hlt)) (hr:=?_)
  refine A5 ?_;refine R.callV Tryz.call238 (AH9 l[x] (hn _ (Cl hlt)) _) ?_;refine so ?_
  refine A3 (fun ht16=>?_) (fun ht16=>?_)
  ·refine nb ?_;exact AB6
  refine Z58 ?_;exact Z81
 have hxe:l.length≤x:=by simpa using ht9
 refine Z33 ?_;exact Z97

theorem AHc (l:List Str) (hl:l.length≤1048576) (hn:∀s∈l,s.length≤1048576) (Hp:List AObj):AFun Tryz.prog 237 [Ft l,.fn (.func 238) [] []] Hp (Bm (l.any Nf)):=by
 refine Ah [.tmp 4] [0,1] Tryz.func237 Tryz.ntmps237 (fun d=>?_)
 refine Z53 ?_;refine Z1 ?_;refine A9 Tryz.call284 (AHb l hl hn _) ?_;refine Z0 ?_;exact AB8

theorem AF7 (l:List Expr) (hl:l.length≤1048576) (hn:∀e∈l,okE 61 e) (Hp:List AObj):AFun Tryz.prog 251 [M2 l,.fn (.func 236) [] []] Hp (A4 (Q9 Kx l)):=by
 refine Ah [.tmp 4] [0,1] Tryz.func251 Tryz.ntmps251 (fun d=>?_)
 refine Z53 ?_;refine sd ?_
 refine D7 (α:=Nat) (fun x=>⟨19,A7 0 (M2 l) (A7 1 (.fn (.func 236) [] []) (A7 7 (A4 l.length) (A7 8 (A4 (x:Nat)) (fun _=>.any)))),Hp,[],[],none⟩) (fun x=>x≤l.length∧∀(j:Nat) y,j<x→l[j]? = some y→Kx y=false) (fun x=>l.length-x) (0) ⟨Av _,fun j y h=>by omega⟩ (Cp (by simp)) rfl (fun x hx=>?_)
 refine sc ?_
 refine Dl (fun ht9=>?_) (fun ht9=>?_)
 ·have hlt:x<l.length:=by simpa using ht9
  refine Zm ?_;refine sb ?_
  refine A5 (h:=Ak (x) (Ac l[x]) (fun _=>Bk hlt)) (hr:=?_)
  refine A5 ?_;refine R.callV Tryz.call236 (AHa l[x] (hn _ (Cl hlt)) _) ?_;refine so ?_
  refine A3 (fun ht16=>?_) (fun ht16=>?_)
  ·refine nb ?_;exact AB6
  refine Z58 ?_;exact Z81
 have hxe:l.length≤x:=by simpa using ht9
 refine Z33 ?_;exact Z97

theorem AAv (l:List Expr) (hl:l.length≤1048576) (hn:∀e∈l,okE 61 e) (Hp:List AObj):AFun Tryz.prog 197 [M2 l,.fn (.func 236) [] []] Hp (Bm (l.any Kx)):=by
 refine Ah [.tmp 4] [0,1] Tryz.func197 Tryz.ntmps197 (fun d=>?_)
 refine Z53 ?_;refine Z1 ?_;refine A9 Tryz.call251 (AF7 l hl hn _) ?_;refine Z0 ?_;exact AB8

theorem zr (s:Str) (Hp:List AObj):AFun Tryz.prog 240 [Ad s] Hp (Ac (Cr s)):=by
 refine Ah [.cell 2 26] [0] Tryz.func240 Tryz.ntmps240 (fun d=>?_)
 refine Z47 ?_;refine Z2 ?_;refine ADj ?_;refine Ow 0 5 6 ?_;refine Z4 ?_;exact A8 (Aj (B8 jA jS)) ⟨by rw [Am];rfl,rfl⟩

theorem dm {m:Mov} {c:Col}:(((!(E2 c.name)) || (!((Cf c.kind==[])==(m.kind==3)))) || ((m.kind==3)&&(c.kind != 0))) = !Nc m c:=by
 unfold Nc
 cases E2 c.name<;>cases (Cf c.kind==([]:Str))<;>cases (m.kind==3)<;>cases (c.kind != 0)<;>rfl
theorem ACb {m:Mov} (h:(!(Fx m))=true):Hm m=false:=by
 have:Fx m=false:=by simpa using h
 unfold Hm;rw [this];rfl
theorem ACc {m:Mov} {c:Col} (hc:c∈m.give) (h:Nc m c=false):Hm m=false:=by
 have:m.give.all (Nc m)=false:=List.all_eq_false.2 ⟨c,hc,by rw [h];simp⟩
 unfold Hm;rw [this];simp
theorem ACd {m:Mov} (h:((m.take.any Nf || m.ahead.any Kx) || m.back.any Kx)=true):Hm m=false:=by
 unfold Hm
 rw [show Nf=fun s => !(E2 s) from rfl,show Kx=fun e => !(B6 e) from rfl,Kl,Kl,Kl] at h
 cases h1:m.take.all E2<;>cases h2:m.ahead.all B6<;>cases h3:m.back.all B6<;>simp_all
theorem zt {m:Mov} (h1:Fx m=true) (h2:m.give.all (Nc m)=true) (h:((m.take.any Nf || m.ahead.any Kx) || m.back.any Kx)=false):Hm m=P5 m:=by
 unfold Hm
 rw [show Nf=fun s => !(E2 s) from rfl,show Kx=fun e => !(B6 e) from rfl,Kl,Kl,Kl] at h
 rw [h1,h2]
 cases h1:m.take.all E2<;>cases h2:m.ahead.all B6<;>cases h3:m.back.all B6<;>simp_all
theorem Sh {α β:Type} {f:α→β} {l:List α} {d:α} (h:0<l.length):(l.map f)[0]? = some (f (l.getD 0 d)):=by
 rw [C9,Aa h,Cz,Aa h]
 rfl
theorem Qa {α:Type} {l:List α} {d:α} (h:0<l.length):l.getD 0 d∈l:=by
 rw [Cz,Aa h]
 exact Cl h
theorem ACe {m:Mov} (h:(m.kind==3)=true):P5 m=(eqE (m.ahead.getD 0 B4) (Cr (m.take.getD 0 []))&&eqE (m.back.getD 0 B4) (Cr (m.give.getD 0 ⟨[],0⟩).name)):=if_pos h
theorem ACf {m:Mov} (h:(m.kind==3)=false) (h6:(m.kind==6)=true):P5 m=(m.take.getD 0 []==(m.give.getD 0 ⟨[],0⟩).name):=by unfold P5;rw [if_neg (by rw [h];simp),if_pos h6]
theorem ACg {m:Mov} (h:(m.kind==3)=false) (h6:(m.kind==6)=false):P5 m=true:=by unfold P5;rw [if_neg (by rw [h];simp),if_neg (by rw [h6];simp)]
theorem AHd (m:Mov) (h:OkMov m) (Hp:List AObj):AFun Tryz.prog 184 [Gn m] Hp (Bm (Hm m)):=by
 refine Ah [.tmp 2] [0] Tryz.func184 Tryz.ntmps184 (fun d=>?_)
 refine Wf ?_;refine Z35 ?_;refine A9 Tryz.call235 (AH8 m _) ?_;refine A5 ?_;refine A2 [1,8] ?_
 refine A3 (fun ht8=>?_) (fun ht8=>?_)
 ·have hm:=ACb ht8
  refine Z61 ?_;exact Z86
 have hct:Fx m=true:=by simpa using ht8
 refine Z6 ?_;refine Z55 ?_;refine A2 [1,10,11,12] ?_
 refine D7 (α:=Nat) (fun x=>⟨95,A7 1 (.ro (af m)) (A7 10 (Aq m.give) (A7 11 (A4 (m.give.length:Nat)) (A7 12 (A4 (x:Nat)) (fun _=>.any)))),Hp,[],[],none⟩) (fun x=>x≤m.give.length∧∀(j:Nat) (y:Col),j<x→m.give[j]? = some y→(!Nc m y)=false) (fun x=>m.give.length-x) (0) ⟨Av _,fun j y h=>by omega⟩ (Cp (by simp)) rfl (fun x hx=>?_)
 refine Z2 ?_;refine A2 [1,10,11,12,13] ?_
 refine Dl (fun ht13=>?_) (fun ht13=>?_)
 ·have hlt:x<m.give.length:=by simpa using ht13
  have hgl:=h.gives2
  refine Z88 ?_
  refine A5 (h:=Ak (x) (Bs m.give[x]) (fun _=>Bk hlt)) (hr:=?_)
  refine Wg ?_;refine A2 [1,4,10,11,12] ?_;refine Eb [0,1,3,7,15,31,63,127,255,31,543,1567,4095,8191,16383,32767,65535,131071,262143,524287,1048575,2097151,4194303,8388607] 12 Al (by kernel_rfl) ?_;refine Z12 ?_;refine E1 Tryz.call40 (c40 m.give[x].name (h.gives.2 _ (Cl hlt)) _) ?_;refine Z12 ?_;refine Z69 ?_;refine H.call Tryz.call76 (fun hB=>c76 m.give[x].kind _) ?_;refine Z69 ?_;refine Z69 ?_;refine Gl ?_;refine Ci ?_;refine Z59 ?_;refine Wi ?_;refine U7 ?_;refine A2 [1,10,11,12,39] ?_
  refine A3 (fun ht39=>?_) (fun ht39=>?_)
  ·rw [dm] at ht39
   have hm:=ACc (Cl hlt) (by simpa using ht39)
   refine Z61 ?_;refine Z62 ?_;exact nj
  rw [dm] at ht39
  refine Z58 ?_;refine A2 [1,10,11,12] ?_;refine Bp (x+1) ⟨hlt,Gc hlt hx.2 ht39⟩ (by omega) ?_
  exact Dk (own:=[]) (fun _=>.refl _) (by repeat (first|exact Bj|refine Bi (by first|(simp [or_imp,forall_and];done)|exact Dw|exact low_ro.2 Kk) ?_)) (by simp) (by simp)
 have hxe:m.give.length≤x:=by simpa using ht13
 have hga:m.give.all (Nc m)=true:=by have:=dg hxe hx.2;rw [Kl] at this;simpa using this
 refine Z33 ?_;refine Z2 ?_;refine A2 [1,5] ?_;refine Z29 ?_;refine A9 Tryz.call237 (AHc m.take h.takes h.names _) ?_;refine A5 ?_;refine Z34 ?_;refine Cd Tryz.call197 (fun hB=>AAv m.ahead h.ahead.len h.ahead.ok _) ?_;refine Z0 ?_;refine Z34 ?_;refine Cd Tryz.call197 (fun hB=>AAv m.back h.back.len h.back.ok _) ?_;refine A5 ?_;refine A2 [1,55] ?_
 refine A3 (fun ht55=>?_) (fun ht55=>?_)
 ·have hm:=ACd ht55
  refine Z61 ?_;exact Z86
 have hm0:=zt hct hga ht55
 refine Z6 ?_;refine Z29 ?_;refine A2 [1,57] ?_;refine Z92 ?_;refine A2 [1,57,58] ?_
 refine A3 (fun ht58=>?_) (fun ht58=>?_)
 ·obtain ⟨hl1,hl2⟩:=Ve hct (by rw [ht58];simp)
  obtain ⟨hl3,hl4⟩:=Ib hct
  have g1:=Sh (f:=Ac) (l:=m.ahead) (d:=B4) (by omega)
  have g2:=Sh (f:=Ac) (l:=m.back) (d:=B4) (by omega)
  have g3:=Sh (f:=Ad) (l:=m.take) (d:=[]) (by omega)
  have g4:=Sh (f:=Bs) (l:=m.give) (d:=⟨[],0⟩) (by omega)
  have ok1:=h.ahead.ok _ (Qa (l:=m.ahead) (d:=B4) (by omega))
  have ok2:=h.back.ok _ (Qa (l:=m.back) (d:=B4) (by omega))
  have hm:=hm0.trans (ACe ht58)
  refine Eb [0,1,3,7,0,16,48,112,240,511,1023,2047,4095,8191,16383,2047,34815,100351,231423,493567,1017855,2097151,4194303,8388607] 21 Al (by kernel_rfl) ?_;refine Z12 ?_
  refine An (h:=Ak (0) (Ac (m.ahead.getD 0 B4)) (fun _=>g1)) (hr:=?_)
  refine Z39 ?_
  refine An (h:=Ak (0) (Ad (m.take.getD 0 [])) (fun _=>g3)) (hr:=?_)
  refine An ?_;refine E1 Tryz.call240 (zr (m.take.getD 0 []) _) ?_;refine E1 Tryz.call239 (AF2 61 (m.ahead.getD 0 B4) ok1 (Cr (m.take.getD 0 [])) _) ?_;refine An ?_;refine Z69 ?_
  refine Fl (h:=Ak (0) (Ac (m.back.getD 0 B4)) (fun _=>g2)) (hr:=?_)
  refine Z69 ?_;refine Fl ?_
  refine Fl (h:=Ak (0) (Bs (m.give.getD 0 ⟨[],0⟩)) (fun _=>g4)) (hr:=?_)
  refine Z69 ?_;refine H.call Tryz.call240 (fun hB=>zr (m.give.getD 0 ⟨[],0⟩).name _) ?_;refine Gl ?_;refine Cd Tryz.call239 (fun hB=>AF2 61 (m.back.getD 0 B4) ok2 (Cr (m.give.getD 0 ⟨[],0⟩).name) _) ?_;refine Z57 ?_;exact ADo
 refine Z1 ?_;refine A2 [1,83] ?_
 refine A3 (fun ht83=>?_) (fun ht83=>?_)
 ·obtain ⟨hl1,hl2⟩:=Ve hct (by rw [ht83];simp)
  obtain ⟨hl3,hl4⟩:=Ib hct
  have g1:=Sh (f:=Ac) (l:=m.ahead) (d:=B4) (by omega)
  have g2:=Sh (f:=Ac) (l:=m.back) (d:=B4) (by omega)
  have g3:=Sh (f:=Ad) (l:=m.take) (d:=[]) (by omega)
  have g4:=Sh (f:=Bs) (l:=m.give) (d:=⟨[],0⟩) (by omega)
  have ok1:=h.ahead.ok _ (Qa (l:=m.ahead) (d:=B4) (by omega))
  have ok2:=h.back.ok _ (Qa (l:=m.back) (d:=B4) (by omega))
  have hm:=hm0.trans (ACf ht58 ht83)
  refine Eb [0,1,3,7,0,16,48,112,240,511,1023] 9 Al (by kernel_rfl) ?_;refine Z12 ?_
  refine An (h:=Ak (0) (Ad (m.take.getD 0 [])) (fun _=>g3)) (hr:=?_)
  refine Z39 ?_
  refine An (h:=Ak (0) (Bs (m.give.getD 0 ⟨[],0⟩)) (fun _=>g4)) (hr:=?_)
  refine Z80 ?_;refine Z57 ?_;exact ADo
 have hm:=hm0.trans (ACg ht58 ht83)
 refine Z17 ?_;refine Z61 ?_;exact nj

def p8 (m:Mov):Bool := !(Hm m)
theorem zu (l:List Mov):(decide ((l.length:Int)≤8) && !(l.any p8))=ou l:=by
 unfold ou
 rw [show p8=fun m => !(Hm m) from rfl,Kl]
 simp
theorem AHe (m:Mov) (h:OkMov m) (Hp:List AObj):AFun Tryz.prog 183 [Gn m] Hp (Bm (p8 m)):=by
 refine Ah [.tmp 2] [0] Tryz.func183 Tryz.ntmps183 (fun d=>?_)
 refine Wf ?_;refine Z2 ?_;refine A9 Tryz.call184 (AHd m h _) ?_;exact sa

theorem AHf (l:List Mov) (h:OkMovs l) (Hp:List AObj):AFun Tryz.prog 234 [Fw l,.fn (.func 183) [] []] Hp (A4 (Q9 p8 l)):=by
 refine Ah [.tmp 4] [0,1] Tryz.func234 Tryz.ntmps234 (fun d=>?_)
 refine Z53 ?_;refine sd ?_
 refine D7 (α:=Nat) (fun x=>⟨19,A7 0 (Fw l) (A7 1 (.fn (.func 183) [] []) (A7 7 (A4 l.length) (A7 8 (A4 (x:Nat)) (fun _=>.any)))),Hp,[],[],none⟩) (fun x=>x≤l.length∧∀(j:Nat) (y:Mov),j<x→l[j]? = some y→p8 y=false) (fun x=>l.length-x) (0) ⟨Av _,fun j y h=>by omega⟩ (Cp (by simp)) rfl (fun x hx=>?_)
 refine sc ?_
 refine Dl (fun ht9=>?_) (fun ht9=>?_)
 ·have hlt:x<l.length:=by simpa using ht9
  have hlen:=h.len
  refine Zm ?_;refine sb ?_
  refine A5 (h:=Ak (x) (Gn l[x]) (fun _=>Bk hlt)) (hr:=?_)
  refine A5 ?_;refine R.callV Tryz.call183 (AHe l[x] (h.each _ (Cl hlt)) _) ?_;refine so ?_
  refine A3 (fun ht16=>?_) (fun ht16=>?_)
  ·refine nb ?_;exact AB6
  refine Z58 ?_;exact Z81
 have hxe:l.length≤x:=by simpa using ht9
 refine Z33 ?_;exact Z97

theorem AHg (l:List Mov) (h:OkMovs l) (Hp:List AObj):AFun Tryz.prog 182 [Fw l,.fn (.func 183) [] []] Hp (Bm (l.any p8)):=by
 refine Ah [.tmp 4] [0,1] Tryz.func182 Tryz.ntmps182 (fun d=>?_)
 refine Z53 ?_;refine Z1 ?_;refine A9 Tryz.call234 (AHf l h _) ?_;refine Z0 ?_;exact AB8

theorem AHh (l:List Mov) (h:OkMovs l) (Hp:List AObj):AFun Tryz.prog 142 [Fw l] Hp (Bm (ou l)):=by
 refine Ah [.tmp 2] [0] Tryz.func142 Tryz.ntmps142 (fun d=>?_)
 refine Z46 ?_;refine nd ?_;refine Cd Tryz.call182 (fun hB=>AHg l h _) ?_;refine Ci ?_;refine Z57 ?_;exact A8 (Aj A6) ⟨by rw [←zu,Aw],rfl⟩

theorem c92 (c:List Col) (hc:OkCols c) (l:List Mov) (h:OkMovs l) (Hp:List AObj):AFun Tryz.prog 92 [Aq c,Fw l] Hp (Bm (Rl c l)):=by
 refine Ah [.tmp 4] [0,1] Tryz.func92 Tryz.ntmps92 (fun d=>?_)
 refine Z53 ?_;refine Z2 ?_;refine A9 Tryz.call57 (c57 c hc _) ?_;refine A5 ?_;refine Ci ?_;refine Cd Tryz.call142 (fun hB=>AHh l h _) ?_;refine Z0 ?_;refine Z23 ?_;exact A8 (Aj A6) ⟨by unfold Rl;rw [N4],rfl⟩

theorem p9 {Hp:List AObj} {c:List Col} (h:∀x∈Hp,ObjLow Hp.length x):∀x∈Hp++[AObj.cells 27 [Aq c]],ObjLow (Hp.length+1) x:=by
 intro x hx
 rcases Dp.1 hx with hx|hx
 ·exact Ra (by omega) (h x hx)
 rw [Az.1 hx]
 intro z hz
 rw [Az.1 hz]
 exact Dw
theorem c94 (c:List Col) (l:List Mov) (Hp:List AObj):ACallO Tryz.prog 94 [Aq c,Fw l] Hp (fun r H'=>r=.fn (.func 143) [] [.ro [Fw l],.ptr (oid Hp.length 0) 0]∧H'=Hp++[.cells 27 [Aq c]]):=by
 refine ACallO.body [.tmp 4] [0,1] Tryz.func94 Tryz.ntmps94 (fun d=>?_)
 refine E5 ?_;refine R.box ?_;refine Z0 ?_;refine Ju ?_;refine E5 ?_
 refine My (fun hlow=>?_)
 refine sk ?_;refine Z23 ?_;exact K.finO 1 (A6 (t:=4)) ⟨rfl,rfl⟩ (hlow:=by simp [oid,or_imp,forall_and];exact ⟨fun m _ a _=>As _ a,fun m _ a _=>As _ a⟩) (hobj:=p9 hlow)

theorem c143 (l oc:Nat) (ms:List Mov) (hm:∀m∈ms,MvOk m) (hml:ms.length≤1048576) (C:Nat→List Col) (hC:∀k,OkCols (C k)) (U T:Nat→List AObj) (N:Nat→Prop) (Z:List AObj→Prop) (hlen:∀k,(U k).length=(U 0).length) (hlenW:∀k,(T k).length=(U 0).length) (hll:l<(U 0).length) (hol:oc<(U 0).length)
  (hlw:∀k,∀x∈U k,ObjLow (U 0).length x) (hlW:∀k,∀x∈T k,ObjLow (U 0).length x) (h0:N 0) (hc:∀k,(U k)[oc]? = some (.cells 27 [Aq (C k)])) (hcW:∀k,(T k)[oc]? = some (.cells 27 [Aq (C k)]))
  (hn:∀k m,ms[k]? = some m→(Bb (C k) m).2=0→(T k).set oc (.cells 27 [Aq (Bb (C k) m).1])=U (k+1))
  (hy:∀k m X,ms[k]? = some m→N k→AYield Tryz.prog l [Aq (Bb (C k) m).1,A4 (Bb (C k) m).2] (U k++X) (fun b H'=>((Bb (C k) m).2≠0∧∃V,H'=V++X∧V.length=(U 0).length∧(∀x∈V,ObjLow (U 0).length x)∧Z V)∨((Bb (C k) m).2=0∧b=true∧N (k+1)∧H'=T k++X)))
  (hR:N ms.length→Z (U ms.length)):ACall Tryz.prog 143 [.yield l,.ro [Fw ms],.ptr oc 0] (U 0) (fun _ H'=>Z H'):=by
 refine Ah [] [0,1,2] Tryz.func143 Tryz.ntmps143 (fun d=>?_)
 refine Z13 ?_;refine A2 [0,2,8,9,10] ?_
 refine D7 (α:=Nat) (fun x=>⟨31,A7 0 (.yield l) (A7 2 (.ptr oc 0) (A7 8 (Fw ms) (A7 9 (A4 ms.length) (A7 10 (A4 (x:Nat)) (fun _=>.any))))),U x,[],[],none⟩) (fun x=>x≤ms.length∧N x) (fun x=>ms.length-x) (0) ⟨Av _,h0⟩ (Cp (by simp)) rfl (fun x hx=>?_)
 refine Z2 ?_;refine A2 [0,2,8,9,10,11] ?_
 refine Dl (fun ht11=>?_) (fun ht11=>?_)
 ·have hlt:x<ms.length:=by simpa using ht11
  refine Z88 ?_
  refine A5 (h:=Ak (x) (Gn ms[x]) (fun _=>Bk hlt)) (hr:=?_)
  refine Wg ?_;refine A2 [0,2,5,8,9,10] ?_;refine E5 ?_
  refine A5 (h:=Bw (hc x)) (hr:=?_)
  refine A5 ?_;refine A9 Tryz.call144 (AH7 (C x) (hC x) ms[x] (hm _ (Cl hlt)) _) ?_;refine Z63 ?_;refine A2 [0,2,6,7,8,9,10] ?_;refine Z32 ?_
  refine R.yield (l:=l) (args:=[Aq (Bb (C x) ms[x]).1,A4 (Bb (C x) ms[x]).2]) (hy x ms[x] _ (Aa hlt) hx.2) ?_
  intro b V O hV hb
  have hVO:O=[AObj.cells 48 (af ms[x])]∧(((Bb (C x) ms[x]).2≠0∧V.length=(U 0).length∧(∀y∈V,ObjLow (U 0).length y)∧Z V)∨((Bb (C x) ms[x]).2=0∧b=true∧N (x+1)∧V=T x)):=by
   rcases hb with ⟨h1,V',h2,h3,h4,h5⟩|⟨h1,h2,h3,h4⟩
   ·obtain ⟨rfl,rfl⟩:=Ql h2 (by rw [hV,hlen x,h3])
    exact ⟨rfl,.inl ⟨h1,h3,h4,h5⟩⟩
   have h6:=Ql h4 (by rw [hV,hlen x,hlenW x])
   exact ⟨h6.2,.inr ⟨h1,h2,h3,h6.1⟩⟩
  obtain ⟨rfl,hVO⟩:=hVO
  have hVl:V.length=(U 0).length:=by rw [hV,hlen x]
  have hVw:∀y∈V,ObjLow (U 0).length y:=by
   rcases hVO with ⟨_,_,h,_⟩|⟨_,_,_,rfl⟩
   ·exact h
   exact hlW _
  refine ⟨fun _=>by rw [hVl];exact hVw,fun o ho=>(by cases ho),?_⟩
  refine Z59 ?_;refine A5 ?_;refine A2 [0,2,6,8,9,10,28] ?_
  refine A3 (fun ht28=>?_) (fun ht28=>?_)
  ·have hZ:Z V:=by
    rcases hVO with ⟨_,_,_,h⟩|⟨h1,h2,_,_⟩
    ·exact h
    rw [h1,h2] at ht28;simp at ht28
   refine Z98 ?_;refine Z38 ?_;exact A8 .nores (hp:=hZ)
  have hVn:(Bb (C x) ms[x]).2=0∧N (x+1)∧V=T x:=by
   rcases hVO with ⟨h1,_,_,_⟩|⟨h1,_,h3,h4⟩
   ·simp [h1] at ht28
   exact ⟨h1,h3,h4⟩
  obtain ⟨hz,hN,rfl⟩:=hVn
  have hnx:=hn x _ (Aa hlt) hz
  refine Z6 ?_;refine Z77 ?_
  refine Ez jS (hcW x) ?_ ?_
  ·first|exact Dw|(simp [or_imp,forall_and];done)
  refine A2 [0,2,8,9,10] ?_;refine Sr ?_;refine A2 [0,2,8,9,10] ?_;refine Bp (x+1) ⟨hlt,hN⟩ (by omega) ?_
  rw [hnx]
  exact Dk (own:=[]) (fun _=>.refl _) (by repeat (first|exact Bj|refine Bi (by first|(simp [or_imp,forall_and];done)|exact Gr|(have:=hlen (x+1);simp;omega)) ?_)) (by simp) (by simp)
 have hxe:x=ms.length:=by have:=hx.1;simp at ht11;omega
 refine K.lpE ?_;exact F0 .nores (hp:=by rw [hxe];exact hR (hxe ▸ hx.2))

/-! The columns on the way through moves. -/
def colsAt (c:List Col) (ms:List Mov):Nat→List Col
 | 0=>c
 | k+1=>match ms[k]? with|some m=>(Bb (colsAt c ms k) m).1|none=>colsAt c ms k
def Cv (c:List Col) (ms:List Mov):Nat→List (List Col)
 | 0=>[c]
 | k+1=>Cv c ms k++[colsAt c ms (k+1)]
def NS (c:List Col) (ms:List Mov) (k:Nat):Prop:=Dh c ms=((Cv c ms k).dropLast++(Dh (colsAt c ms k) (ms.drop k)).1,(Dh (colsAt c ms k) (ms.drop k)).2)
theorem li (c:List Col) (ms:List Mov) (k:Nat):(Cv c ms k).dropLast++[colsAt c ms k]=Cv c ms k:=by
 cases k with
 | zero=>rfl
 | succ k=>simp [Cv]
theorem H7 {c:List Col} {ms:List Mov} {k:Nat} {m:Mov} (h:ms[k]? = some m):colsAt c ms (k+1)=(Bb (colsAt c ms k) m).1:=by rw [colsAt,h]
theorem dn {ms:List Mov} {k:Nat} {m:Mov} (hk:ms[k]? = some m):ms.drop k=m::ms.drop (k+1):=by
 obtain ⟨h1,h2⟩:=Ab.1 hk
 rw [Ha h1,h2]
theorem AF8 {c:List Col} {ms:List Mov}:NS c ms 0:=rfl
theorem lj {c:List Col} {ms:List Mov} {k:Nat} {m:Mov} (hk:ms[k]? = some m) (h:NS c ms k) (he:(Bb (colsAt c ms k) m).2=0):NS c ms (k+1):=by
 unfold NS at h ⊢
 rw [h,dn hk]
 have e:Dh (colsAt c ms k) (m::ms.drop (k+1))=(colsAt c ms k::(Dh (Bb (colsAt c ms k) m).1 (ms.drop (k+1))).1,(Dh (Bb (colsAt c ms k) m).1 (ms.drop (k+1))).2):=by
  rw [Dh,if_neg (by rw [he];simp)]
 have e2:(Cv c ms (k+1)).dropLast=Cv c ms k:=by simp [Cv]
 rw [e,e2,H7 hk]
 have e3:=li c ms k
 refine Lo ?_ rfl
 show (Cv c ms k).dropLast++(colsAt c ms k::_)=Cv c ms k++_
 conv=>rhs;rw [←e3]
 simp
theorem j5 {c:List Col} {ms:List Mov} {k:Nat} {m:Mov} (hk:ms[k]? = some m) (h:NS c ms k) (he:(Bb (colsAt c ms k) m).2≠0):(Dh c ms).2=(Bb (colsAt c ms k) m).2:=by
 unfold NS at h
 rw [h,dn hk,Dh,if_pos (by simpa using he)]
theorem vu {c:List Col} {ms:List Mov} (h:NS c ms ms.length):Dh c ms=(Cv c ms ms.length,0):=by
 unfold NS at h
 rw [h,List.drop_length,Dh]
 exact Lo (li c ms ms.length) rfl
theorem vw {c:List Col} {m:Mov} (hc:OkCols c) (h:OkMov m):OkCols (Bb c m).1:=by
 have h0:OkCols ([]:List Col):=⟨by decide,fun y hy=>by cases hy⟩
 unfold Bb
 split
 ·exact h0
 split
 ·exact h0
 split
 ·exact h0
 exact dl hc (dk h) (by rw [Jh];exact h.gives2)
theorem Gf {c:List Col} {ms:List Mov} (hc:OkCols c) (h:∀m∈ms,OkMov m):∀k,OkCols (colsAt c ms k)
 | 0=>hc
 | k+1=>by
  rw [colsAt]
  cases hk:ms[k]? with
  | none=>exact Gf hc h k
  | some m=>exact vw (Gf hc h k) (h m (Ar hk))
theorem L8 (c:List Col) (ms:List Mov):∀k,(Cv c ms k).length=k+1
 | 0=>rfl
 | k+1=>by rw [Cv,Ap,L8 c ms k];rfl
theorem ACh {c:List Col} {ms:List Mov} (h:Rl c ms=true) (hk:OkMovs ms):(∀m∈ms,MvOk m)∧ms.length≤8:=by
 unfold Rl ou at h
 simp only [Ao,decide_eq_true_eq,At] at h
 exact ⟨fun m hm=>zq (hk.each m hm) (Rm (h.2.2 m hm)),by omega⟩
theorem Y0 {c:List Col} {ms:List Mov} (h:Rl c ms=false):Db c ms=([],1):=by
 have:P6 c ms=([],1):=if_neg (by rw [h];simp)
 unfold Db
 rw [this];rfl
theorem Vh {c:List Col} {ms:List Mov} (h:Rl c ms=true) (he:(Dh c ms).2≠0):Db c ms=([],(Dh c ms).2):=by
 have:P6 c ms=Dh c ms:=if_pos h
 unfold Db
 rw [this,if_pos (by simpa using he)]
theorem Y1 {c:List Col} {ms:List Mov} {o:List (List Col)} (h:Rl c ms=true) (he:Dh c ms=(o,0)):Db c ms=(o,0):=by
 have:P6 c ms=Dh c ms:=if_pos h
 unfold Db
 rw [this,he];rfl
abbrev Ky (l:List (List Col)):AV:=.slice false 1 (l.map Aq)
theorem Fi {n k:Nat} {o:Bool} {l:List (List Col)}:Low n (.slice o k (l.map Aq)):=low_slice.2 fun y hy=>by
 obtain ⟨m,_,rfl⟩:=C1.1 hy
 exact Dw
theorem ag {U:List AObj} {i j:Nat} {x y:AObj} (h:U[i]? = some x) (hne:j≠i):(U.set j y)[i]? = some x:=by rw [Dg hne];exact h
theorem pc {n k:Nat} {o:Bool} {l:List (List Col)} {c:List Col}:Low n (.slice o k (l.map Aq++[Aq c])):=by
 have:=Fi (n:=n) (k:=k) (o:=o) (l:=l++[c])
 rwa [C8] at this
theorem c48 (c:List Col) (hc:OkCols c) (hc2:c.length≤1000000) (l:List Mov) (h:OkMovs l) (Hp:List AObj):AFun Tryz.prog 48 [Aq c,Fw l] Hp (.tup [Ky (Db c l).1,A4 (Db c l).2]):=by
 refine Ah [.cell 4 59,.cell 5 35] [0,1,7,8] Tryz.func48 Tryz.ntmps48 (fun d=>?_)
 refine Z25 ?_;refine O6 ?_;refine A2 [0,1,4,5,7,8] ?_;refine Z29 ?_;refine A9 Tryz.call92 (c92 c hc l h _) ?_;refine A5 ?_;refine A2 [0,1,4,5,7,8,12] ?_
 refine A3 (fun ht12=>?_) (fun ht12=>?_)
 ·have hm:=Y0 (by simpa using ht12)
  refine E5 ?_;refine H9 ?_;refine U5 0 1 ?_;refine H9 ?_;refine Z11 ?_;refine Bz ?_;exact A8 (B9 (Fm jA) (Fm jA)) ⟨by rw [hm];rfl,rfl⟩
 have hmay:Rl c l=true:=by simpa using ht12
 obtain ⟨hmv,hl8⟩:=ACh hmay h
 refine Z96 ?_;refine A9 Tryz.call93 (c93 c hc2 _) ?_;refine Pq ?_;refine O6 ?_;refine Zd jS ?_;refine A2 [0,1,4,5,6,7,8] ?_;refine Z64 ?_
 refine My (fun hlow=>?_)
 refine Z0 ?_;refine R.callO Tryz.call94 (c94 c l _) ?_
 rintro _ _ ⟨rfl,rfl⟩
 refine ⟨[.cells 27 [Aq c]],by simp,?_⟩
 rw [show oid (Hp++[AObj.cells 59 [AV.nil],AObj.cells 35 [A4 0],AObj.cells 59 [AV.slice true 1 [Aq c]]]).length 0=oid Hp.length 3 by simp [oid]]
 simp only [Ef,Ek]
 refine A2 [4,5,6,7,8,18] ?_;refine Jv ?_
 refine Ox (m:=4) Tryz.call143 (fun FR as' bd' hFR has hbd=>?_)
 have hFRl:∀s,Low (Hp.length+6) (FR s):=by
  intro s
  rw [hFR]
  refine Qt ?_
  revert s
  repeat (first|exact Bj|refine Bi (by first|(simp [oid,or_imp,forall_and];done)|(simp [oid,or_imp,forall_and];exact ⟨fun m _ a _=>As _ a,fun m _ a _=>As _ a⟩)|(simp [oid,or_imp,forall_and]<;>omega)) ?_)
 have hOl:∀{e:Int} {o:List (List Col)} {q:List Col} {lp:AObj},ObjLow (Hp.length+6) lp→∀x∈Hp++[AObj.cells 59 [AV.nil],AObj.cells 35 [A4 e],AObj.cells 59 [AV.slice true 1 ((o).map Aq)],AObj.cells 27 [Aq (q)],AObj.defs,lp],ObjLow (Hp.length+6) x:=by
  intro e o q lp hlp x hx
  refine M0 (fun x hx=>Ra (by omega) (hlow x hx)) (fun x hx=>?_) x hx
  simp only [Bg,Fq,or_false] at hx
  rcases hx with rfl|rfl|rfl|rfl|rfl|rfl
  ·intro y hy;rw [Az.1 hy];simp
  ·intro y hy;rw [Az.1 hy];simp
  ·intro y hy;rw [Az.1 hy];exact Fi
  ·intro y hy;rw [Az.1 hy];exact Dw
  ·trivial
  exact hlp
 refine ⟨_,c143 (oid Hp.length 5) (oid Hp.length 3) l hmv (by omega) (colsAt c l) (Gf hc fun m hm=>h.each m hm) (fun k=>Hp++[AObj.cells 59 [AV.nil],AObj.cells 35 [A4 0],AObj.cells 59 [AV.slice true 1 ((Cv c l k).map Aq)],AObj.cells 27 [Aq (colsAt c l k)],AObj.defs,AObj.loop LoopState.ready none FR 29 #[19,20] as' bd' (oid Hp.length 4)]) (fun k=>Hp++[AObj.cells 59 [AV.nil],AObj.cells 35 [A4 0],AObj.cells 59 [AV.slice true 1 ((Cv c l (k+1)).map Aq)],AObj.cells 27 [Aq (colsAt c l k)],AObj.defs,AObj.loop LoopState.ready none FR 29 #[19,20] as' bd' (oid Hp.length 4)]) (NS c l) (fun V=>(∃(o:List (List Col)) (q:List Col),V=Hp++[AObj.cells 59 [AV.nil],AObj.cells 35 [A4 0],AObj.cells 59 [AV.slice true 1 ((o).map Aq)],AObj.cells 27 [Aq (q)],AObj.defs,AObj.loop LoopState.ready none FR 29 #[19,20] as' bd' (oid Hp.length 4)]∧Dh c l=(o,0))∨(∃(e:Int) (o:List (List Col)) (q:List Col),V=Hp++[AObj.cells 59 [AV.nil],AObj.cells 35 [A4 e],AObj.cells 59 [AV.slice true 1 ((o).map Aq)],AObj.cells 27 [Aq (q)],AObj.defs,AObj.loop LoopState.done (some Code.ret) FR 29 #[19,20] as' bd' (oid Hp.length 4)]∧e≠0∧(Dh c l).2=e)) (fun k=>by simp) (fun k=>by simp) (by simp [oid]) (by simp [oid]) (fun k=>(fun x hx=>by rw [Ap];exact hOl (lp:=AObj.loop LoopState.ready none FR 29 #[19,20] as' bd' (oid Hp.length 4)) (by exact ⟨hFRl,by simp [oid]⟩) x hx)) (fun k=>(fun x hx=>by rw [Ap];exact hOl (lp:=AObj.loop LoopState.ready none FR 29 #[19,20] as' bd' (oid Hp.length 4)) (by exact ⟨hFRl,by simp [oid]⟩) x hx)) AF8 (fun k=>by rw [Bd];rfl) (fun k=>by rw [Bd];rfl) (fun k m hk he=>by rw [Fs];simp only [H7 hk];rfl) (fun k m X hk hN=>?_) (fun hN=>.inl ⟨_,_,rfl,vu hN⟩),?_⟩
 ·generalize hV:Hp++[AObj.cells 59 [AV.nil],AObj.cells 35 [A4 0],AObj.cells 59 [AV.slice true 1 ((Cv c l k).map Aq)],AObj.cells 27 [Aq (colsAt c l k)],AObj.defs,AObj.loop LoopState.ready none FR 29 #[19,20] as' bd' (oid Hp.length 4)]++X=V
  have hL:V[oid Hp.length 5]? = some (AObj.loop LoopState.ready none FR 29 #[19,20] as' bd' (oid Hp.length 4)):=by rw [←hV,Bo,Bd];rfl
  have hA0:V[oid Hp.length 2]? = some (AObj.cells 59 [AV.slice true 1 ((Cv c l k).map Aq)]):=by rw [←hV,Bo,Bd];rfl
  have hB0:V[oid Hp.length 0]? = some (AObj.cells 59 [AV.nil]):=by rw [←hV,Bo,Bd];rfl
  have hC0:V[oid Hp.length 1]? = some (AObj.cells 35 [A4 0]):=by rw [←hV,Bo,Bd];rfl
  refine Oq (pd:=none) (fr:=FR) (sz:=29) (ps:=#[19,20]) (df:=oid Hp.length 4) (asg:=as') (bd:=bd') hL rfl (by decide) (fun d=>?_)
  subst hFR has hbd
  refine Ku [4,5,6,19,20] ?_;refine Z2 ?_;refine A2 [4,5,6,7,20] ?_;refine Z77 ?_;refine A2 [4,5,6,7,8] ?_
  refine ⟨rfl,none,hL,?_⟩
  generalize hbz:(AObj.loop LoopState.busy _ _ _ _ _ _ _)=bz
  have hA:(V.set (oid Hp.length 5) bz)[oid Hp.length 2]? = some (AObj.cells 59 [AV.slice true 1 ((Cv c l k).map Aq)]):=by rw [Dg (C3 (by decide))];exact hA0
  have hB:(V.set (oid Hp.length 5) bz)[oid Hp.length 0]? = some (AObj.cells 59 [AV.nil]):=by rw [Dg (C3 (by decide))];exact hB0
  have hC:(V.set (oid Hp.length 5) bz)[oid Hp.length 1]? = some (AObj.cells 35 [A4 0]):=by rw [Dg (C3 (by decide))];exact hC0
  refine Jv ?_;refine Z29 ?_;refine A2 [4,5,6,7,8,22] ?_
  refine A3 (fun ht22=>?_) (fun ht22=>?_)
  ·have he:(Bb (colsAt c l k) m).2≠0:=by simpa using ht22
   refine Z2 ?_
   refine Ez jS hB ?_ ?_
   ·simp
   refine Ez jS (ag hC (C3 (by decide))) ?_ ?_
   ·simp
   refine A2 [] ?_;refine Z98 ?_;refine K.blR ?_
   subst hbz
   refine K.rdR (ka hL (C3 (by decide)) (C3 (by decide))) ?_
   refine .inl ⟨he,Hp++[AObj.cells 59 [AV.nil],AObj.cells 35 [A4 (Bb (colsAt c l k) m).2],AObj.cells 59 [AV.slice true 1 ((Cv c l k).map Aq)],AObj.cells 27 [Aq (colsAt c l k)],AObj.defs,_],?_,by simp,(fun x hx=>by rw [Ap];exact hOl (lp:=_) (by exact ⟨hFRl,by simp [oid]⟩) x hx),.inr ⟨_,_,_,rfl,he,j5 hk hN he⟩⟩
   subst hV
   simp only [Bo,Fs,Ef,Ek,List.set_cons_succ,List.set_cons_zero]
  have he:(Bb (colsAt c l k) m).2=0:=by simpa using ht22
  refine Z6 ?_;refine He ?_;refine R.loadUpT jA hA ?_;refine Z71 ?_
  refine G8 jU Tryz.type27 ?_ ?_ ?_
  ·have hol:=L8 c l k;have hkl:=(Ab.1 hk).1;simp [Tryz.t27];omega
  ·have hol:=L8 c l k;have hkl:=(Ab.1 hk).1;simp [Tryz.t27];omega
  refine Gz jS (getset hA) ?_ ?_
  ·exact pc
  refine Z84 ?_
  subst hbz
  refine y9 ?_
  refine .inr ⟨he,rfl,lj hk hN he,?_⟩
  subst hV
  simp only [Bo,Fs,Ef,Ek,List.set_cons_succ,List.set_cons_zero]
  rw [Cv,H7 hk,C8]
  rfl
 rintro r H' (⟨o,q,rfl,hrun⟩|⟨e,o,q,rfl,hne,hrun⟩)
 ·refine ⟨Hp,_,_,_,rfl,rfl,fun h=>h,?_,rfl,by simp,?_⟩
  ·intro o ho
   have:o=oid Hp.length 4:=by simpa using ho
   subst this
   rw [Bd]
   rfl
  refine Z14 ?_;refine Z2 ?_;refine H9 ?_;refine H9 ?_;refine Z11 ?_;exact A8 (B9 (Fm jA) (Fm jA)) ⟨by rw [Y1 hmay hrun],rfl⟩ (hlow:=by simp only [k9,Bg,Fq,or_false];rintro y (rfl|rfl);exact Fi;simp)
 refine ⟨Hp,_,_,_,rfl,rfl,fun h=>h,?_,rfl,by simp,?_⟩
 ·intro o ho
  have:o=oid Hp.length 4:=by simpa using ho
  subst this
  rw [Bd]
  rfl
 refine W.nilOwn 0 1 ?_;refine Ep ?_;refine Z5 ?_;exact A8 (B9 (Fm jA) (Fm jA)) ⟨by rw [Vh hmay (by rw [hrun];exact hne),hrun];rfl,rfl⟩

theorem Vi:∀(c:List Col) (ms:List Mov),(Dh c ms).1.length≤ms.length+1
 | c,[]=>by simp [Dh]
 | c,m::r=>by
  rw [Dh]
  split
  ·simp
  have:=Vi (Bb c m).1 r
  simp only [Bh]
  omega
theorem j6 {n k:Nat} {o:Bool} {a:List Expr} {e:Expr}:Low n (.slice o k (a.map Ac++[Ac e])):=low_slice.2 fun y hy=>by
 rcases Dp.1 hy with h|h
 ·obtain ⟨m,_,rfl⟩:=C1.1 h
  exact As _ _
 rw [Az.1 h]
 exact As _ _
theorem Ic {n k:Nat} {o:Bool} {a:List Expr}:Low n (.slice o k (a.map Ac)):=low_slice.2 fun y hy=>by
 obtain ⟨m,_,rfl⟩:=C1.1 hy
 exact As _ _
/-! fuse: trees in columns' places. -/
mutual
def putF (c:List Col) (l:List Expr):Expr→Option Expr
 | .mk o t v k=>if o==2 then (if Be t c<0 then none else some (l.getD (Be t c).toNat B4)) else (AAw c l k).map fun k'=>.mk o t v k'
def AAw (c:List Col) (l:List Expr):List Expr→Option (List Expr)
  | []=>some []
  | e::r=>match putF c l e with
    | none=>none
    | some y=>(AAw c l r).map fun s=>y::s
 end
theorem ai (o:Int) (t:Str) (v:Val) (k:List Expr):Ac (.mk o t v k)=.agg [A4 o,.v (sv t),A4 v.kind,A4 v.n,.v (sv v.s),.slice false 6 (k.map Ac)]:=by rw [Am];rfl
set_option maxRecDepth 8000
/-! The words of a print. -/
/-! What a tree comes to: eval's model. -/
abbrev Rs:=Val×Int
def Cw (e:Int):Rs:=(noV,e)
def Wv (s:Str):Val:=⟨2,0,s.take 200⟩
def H3 (x:Int×Int):Rs:=if x.2 != 0 then Cw x.2 else (⟨1,x.1,[]⟩,0)
def j7 (a b:Int):Int×Int:=if decide (X5 .i64 (Rz .i64 a (IntKind.i64.wrap (a+b))) (Rz .i64 b (IntKind.i64.wrap (a+b)))<0) then (0,4) else (IntKind.i64.wrap (a+b),0)
def M3 (a b:Int):Int×Int:=if decide (X5 .i64 (Rz .i64 a b) (Rz .i64 a (IntKind.i64.wrap (a-b)))<0) then (0,4) else (IntKind.i64.wrap (a-b),0)
def Si (a:Int):Int:=if decide (a<0) then IntKind.u64.wrap (0-IntKind.u64.wrap a) else IntKind.u64.wrap a
def D5:List Val→List Int→Bool
 | _,[]=>true
 | [],_::_=>false
 | v::vs,k::ks=>(v.kind==k)&&D5 vs ks
def Ng (a b:Val):Rs:=if !D5 [a,b] [2,2] then Cw 10 else if decide ((200:Int)<(a.s.length:Int)+(b.s.length:Int)) then Cw 3 else (Wv (a.s++b.s),0)
def Ay (r:Rs):Rs:=if (r.2==0)&&(r.1.kind != 0)&&(r.1.kind != 3) then Cw 10 else r
def Hn (strong:Val) (a b:Rs):Rs:=if ((Ay a).2 != 0) || ((Ay a).1==strong) then Ay a else if (((Ay b).2 != 0) || ((Ay b).1==strong)) || ((Ay a).1.kind != 0) then Ay b else ((Ay a).1,0)
def ifW:Str:=[105,102]
def Rn:Str:=[110,118,108]
def Bx:Str:=[105,115,110,117,108,108]
def Ed (t:Str) (a b c:Rs):Rs:=
 if t==ifW then (if (Ay a).2 != 0 then Cw (Ay a).2 else if (Ay a).1==Ht true then b else c)
 else if a.2 != 0 then Cw a.2 else if t==Bx then (Ht (a.1.kind==0),0) else if a.1.kind != 0 then (a.1,0) else b
def Kz (strict:List Val→Rs) (l:List Rs):Rs:=match l.find? (fun q=>q.2 != 0) with|some q=>Cw q.2|none=>if l.any (fun q=>q.1.kind==0) then (noV,0) else strict (l.map (·.1))
def Hw (c:List Col) (l:List Val) (t:Str):Rs:=if Be t c<0 then Cw 9 else (l.getD (Be t c).toNat noV,0)
def orW:Str:=[111,114]
def aj:Str:=[97,110,100]
/-- A node, of what its kids come to; what a strict node comes to is a parameter. -/
def L9 (strict:Int→Str→List Val→Rs) (c:List Col) (l:List Val) (o:Int) (t:Str) (v:Val) (ks:List Rs):Rs:=
 if o==1 then (v,0) else if o==2 then Hw c l t
 else if (o==5)&&(t==orW) then Hn (Ht true) (ks.getD 0 (noV,0)) (ks.getD 1 (noV,0))
 else if (o==5)&&(t==aj) then Hn (Ht false) (ks.getD 0 (noV,0)) (ks.getD 1 (noV,0))
 else if (o==6)&&(((t==ifW) || (t==Rn)) || (t==Bx)) then Ed t (ks.getD 0 (noV,0)) (ks.getD 1 (noV,0)) (ks.getD 2 (noV,0))
 else Kz (strict o t) ks
mutual
def Ee (strict:Int→Str→List Val→Rs) (c:List Col) (l:List Val):Expr→Rs
 | .mk o t v k=>L9 strict c l o t v (Oe strict c l k)
def Oe (strict:Int→Str→List Val→Rs) (c:List Col) (l:List Val):List Expr→List Rs
  | []=>[]
  | e::r=>Ee strict c l e::Oe strict c l r
 end
theorem Ji (f:Int→Str→List Val→Rs) (c:List Col) (l:List Val):∀k,Oe f c l k=k.map (Ee f c l)
 | []=>rfl
 | e::r=>by rw [Oe,Ji f c l r];rfl
theorem Vj (f:Int→Str→List Val→Rs) (c:List Col) (l:List Val) (e:Expr):Ee f c l e=L9 f c l e.op e.text e.val (e.kids.map (Ee f c l)):=by cases e;rw [Ee,Ji];rfl
def F3 (c:List Col) (l:List Val):Bool:=(Pw c&&(l.length==c.length))&&(l.zip c).all fun p=>Dm p.1&&((p.1.kind==0) || (p.1.kind==p.2.kind))
/-- eval.Eval. -/
def Y2 (f:Int→Str→List Val→Rs) (x:Expr) (c:List Col) (l:List Val):Rs:=if (!(B6 x)) || !(F3 c l) then Cw 1 else Ee f c l x
/-! A tree in a column's place comes to what its value would there. -/
mutual
theorem eval_put {f:Int→Str→List Val→Rs} {c:List Col} {l m:List Val} {s:Str} {y:Expr} (hs:Hw c m s=Ee f c l y) (ho:∀t,t≠s→Hw c m t=Hw c l t):∀x:Expr,Ee f c l (ABz s y x)=Ee f c m x
 | .mk o t v k=>by
  rw [ABz]
  split
  ·rename_i h
   rw [Ao,beq_iff_eq,beq_iff_eq] at h
   obtain ⟨rfl,rfl⟩:=h
   rw [←hs,Ee]
   rfl
  rename_i h
  rw [Ee,Ee,Y3 hs ho k]
  unfold L9
  by_cases h2:(o==2)=true
  ·have:t≠s:=fun e=>h (by rw [h2,e];simp)
   rw [ho t this]
  rw [if_neg h2,if_neg h2]
theorem Y3 {f:Int→Str→List Val→Rs} {c:List Col} {l m:List Val} {s:Str} {y:Expr} (hs:Hw c m s=Ee f c l y) (ho:∀t,t≠s→Hw c m t=Hw c l t):∀k:List Expr,Oe f c l (yn s y k)=Oe f c m k
  | []=>rfl
  | e::r=>by rw [yn,Oe,Oe,eval_put hs ho e,Y3 hs ho r]
 end
/-! Who is not named plays no part. -/
/-! What a strict node comes to. -/
def Vk (a b:Int):Int×Int:=
 let p:=Si a*Si b
 let below:=decide (a<0) != decide (b<0)
 if decide (0<p / 18446744073709551616) || decide ((if below then 9223372036854775808 else 9223372036854775807)<p % 18446744073709551616) then (0,4)
 else if below then (IntKind.i64.wrap (IntKind.u64.wrap (0-p % 18446744073709551616)),0) else (IntKind.i64.wrap (p % 18446744073709551616),0)
def j8 (a b:Int):Int×Int:=if b==0 then (0,5) else if (a == -9223372036854775808)&&(b == -1) then (0,4) else (IntKind.i64.wrap (a.tdiv b),0)
def Ww (a b:Int):Int×Int:=if b==0 then (0,5) else if b == -1 then (0,0) else (IntKind.i64.wrap (a.tmod b),0)
def Id (t:Str) (a b:Int):Int×Int:=if t==[43] then j7 a b else if t==[45] then M3 a b else if t==[42] then Vk a b else if t==[47] then j8 a b else Ww a b
def H8 (t:Str) (c:Int):Bool×Bool:=if t==[61] then (c==0,true) else if t==[33,61] then (c != 0,true) else if t==[60] then (decide (c<0),true) else if t==[60,61] then (decide (c≤0),true) else if t==[62] then (decide (0<c),true) else if t==[62,61] then (decide (0≤c),true) else (false,false)
def Mf (a b:Int):Int:=if decide (a<b) then -1 else if decide (b<a) then 1 else 0
def orI:List Int→Int
 | []=>0
 | a::r=>if a != 0 then a else orI r
def dp (a b:Val):Int:=if (!(Dm a)) || !(Dm b) then 0 else orI [Mf a.kind b.kind,Mf a.n b.n,Lib.compareBytes a.s b.s]
def La (t:Str) (a b:Val):Rs:=if (H8 t (dp a b)).2 then (if a.kind != b.kind then Cw 10 else (Ht (H8 t (dp a b)).1,0)) else if t==[38] then Ng a b else if !D5 [a,b] [1,1] then Cw 10 else H3 (Id t a.n b.n)
def Hy (t:Str) (v:Val):Rs:=if (t==[115,116,114])&&(v.kind==1) then (Wv (Lib.itoa v.n),0) else if (t==[108,101,110])&&(v.kind==2) then (⟨1,v.s.length,[]⟩,0) else if (t==[110,117,109])&&(v.kind==2) then H3 (Ca v.s) else Cw 10
def Nh (t:Str) (s:Str) (n:Int):Val:=if t==[108,101,102,116] then Wv (s.take (max 0 (min n s.length)).toNat) else Wv (s.drop (s.length-(max 0 (min n s.length)).toNat))
def B0 (o:Int) (t:Str) (l:List Val):Rs:=
 if o==5 then La t (l.getD 0 noV) (l.getD 1 noV) else if (o==3)&&D5 l [1] then H3 (M3 0 (l.getD 0 noV).n) else if (o==4)&&D5 l [3] then (Ht ((l.getD 0 noV).n==0),0)
 else if o != 6 then Cw 10 else if (l.length:Int)==1 then Hy t (l.getD 0 noV) else if !D5 l [2,1] then Cw 10 else (Nh t (l.getD 0 noV).s (l.getD 1 noV).n,0)
abbrev By (c:List Col) (l:List Val) (e:Expr):Rs:=Ee B0 c l e
abbrev Dt (x:Expr) (c:List Col) (l:List Val):Rs:=Y2 B0 x c l
/-! Values are plain, and their numbers have 64 bits. -/
structure Fine (v:Val):Prop where
 plain:Dm v=true
 lo : -9223372036854775808≤v.n
 hi:v.n≤9223372036854775807
theorem Km:Fine noV:=⟨rfl,by decide,by decide⟩
theorem Ro (b:Bool):Fine (Ht b):=by cases b<;>exact ⟨rfl,by decide,by decide⟩
theorem dq {n:Int} (h0 : -9223372036854775808≤n) (h1:n≤9223372036854775807):Fine ⟨1,n,[]⟩:=⟨rfl,h0,h1⟩
theorem Vl (s:Str):Fine (Wv s):=⟨by
 unfold Dm Wv
 simp only [show ((2:Int)==0)=false from rfl,show ((2:Int)==1)=false from rfl,show ((2:Int)==2)=true from rfl,B2,if_false,if_true,show ((0:Int)==0)=true from rfl,Oj,decide_eq_true_eq,Cn]
 omega,by show -9223372036854775808≤(0:Int);decide,by show (0:Int)≤9223372036854775807;decide⟩
theorem Fine.len {v:Val} (h:Fine v):v.s.length≤200:=by
 have h:=h.plain
 unfold Dm at h
 split at h
 ·simp only [Ao,beq_iff_eq] at h;rw [h.2];exact Av _
 split at h
 ·rw [beq_iff_eq] at h;rw [h];exact Av _
 split at h
 ·simp only [Ao,decide_eq_true_eq] at h;omega
 simp only [Ao,beq_iff_eq] at h;rw [h.1.1.2];exact Av _
theorem P7 {x:Int×Int} (h0:x.2=0 → -9223372036854775808≤x.1) (h1:x.2=0→x.1≤9223372036854775807):Fine (H3 x).1:=by
 unfold H3
 split
 ·exact Km
 rename_i h
 have h:x.2=0:=by simpa using h
 exact dq (h0 h) (h1 h)
theorem Vm (e:Int):Fine (Cw e).1:=Km
theorem M4 (n:Int) : -9223372036854775808≤IntKind.i64.wrap n∧IntKind.i64.wrap n≤9223372036854775807:=by rw [IntKind.wrap_i64];omega
theorem vz (a b:Int):Fine (H3 (M3 a b)).1:=by
 refine P7 (fun _=>?_) (fun _=>?_)<;>unfold M3<;>split
 ·show -9223372036854775808≤(0:Int);decide
 ·exact (M4 _).1
 ·show (0:Int)≤9223372036854775807;decide
 exact (M4 _).2
theorem dr (t:Str) (a b:Int) : -9223372036854775808≤(Id t a b).1∧(Id t a b).1≤9223372036854775807:=by
 have z : -9223372036854775808≤(0:Int)∧(0:Int)≤9223372036854775807:=by decide
 unfold Id
 split
 ·unfold j7;split;exact z;exact M4 _
 split
 ·unfold M3;split;exact z;exact M4 _
 split
 ·unfold Vk
  simp only
  repeat' split
  all_goals first|exact z|exact M4 _
 split
 ·unfold j8;split;exact z;split;exact z;exact M4 _
 unfold Ww;split;exact z;split;exact z;exact M4 _
theorem w4 {t:Str} {a b:Val}:Fine (La t a b).1:=by
 unfold La
 split
 ·split
  ·exact Wl
  exact Ro _
 split
 ·unfold Ng
  split
  ·exact Wl
  split
  ·exact Wl
  exact Vl _
 split
 ·exact Wl
 exact P7 (fun _=>(dr _ _ _).1) (fun _=>(dr _ _ _).2)
theorem w5 (s:Str) : -9223372036854775808≤(Ca s).1∧(Ca s).1≤9223372036854775807:=by
 unfold Ca
 split
 ·decide
 split
 ·rename_i v h
  have:=Lib.parseIntB_bounds h
  simp only [show ((2 ^ (64-1):Nat):Int)=9223372036854775808 by decide] at this
  show -9223372036854775808≤v∧v≤9223372036854775807
  omega
 ·decide
 decide
theorem w6 {t:Str} {v:Val} (h:Fine v):Fine (Hy t v).1:=by
 unfold Hy
 split
 ·exact Vl _
 split
 ·have:=h.len
  exact dq (by omega) (by omega)
 split
 ·exact P7 (fun _=>(w5 _).1) (fun _=>(w5 _).2)
 exact Wl
theorem dt {o:Int} {t:Str} {l:List Val} (h:∀v∈l,Fine v):Fine (B0 o t l).1:=by
 have h0:Fine (l.getD 0 noV):=by cases l with|nil=>exact Km|cons a r=>exact h a K6
 unfold B0
 split
 ·exact w4
 split
 ·exact vz _ _
 split
 ·exact Ro _
 split
 ·exact Wl
 split
 ·exact w6 h0
 split
 ·exact Wl
 unfold Nh
 split<;>exact Vl _
theorem P8 {r:Rs} (h:Fine r.1):Fine (Ay r).1:=by
 unfold Ay
 split
 ·exact Wl
 exact h
theorem Vn {s:Val} {a b:Rs} (ha:Fine a.1) (hb:Fine b.1):Fine (Hn s a b).1:=by
 unfold Hn
 split
 ·exact P8 ha
 split
 ·exact P8 hb
 exact P8 ha
theorem pe {t:Str} {a b c:Rs} (ha:Fine a.1) (hb:Fine b.1) (hc:Fine c.1):Fine (Ed t a b c).1:=by
 unfold Ed
 repeat' split
 all_goals first|exact Vm _|exact hb|exact hc|exact ha|exact Ro _
theorem w7 {f:List Val→Rs} {l:List Rs} (hf:∀k:List Val,(∀v∈k,Fine v)→Fine (f k).1) (h:∀r∈l,Fine r.1):Fine (Kz f l).1:=by
 unfold Kz
 split
 ·exact Wl
 split
 ·exact Km
 refine hf _ fun v hv=>?_
 obtain ⟨r,hr,rfl⟩:=C1.1 hv
 exact h r hr
theorem pg {c:List Col} {l:List Val} (h:∀v∈l,Fine v) (t:Str):Fine (Hw c l t).1:=by
 unfold Hw
 split
 ·exact Wl
 show Fine (l.getD _ noV)
 rw [Cz]
 cases hg:l[(Be t c).toNat]? with
 | none=>exact Km
 | some v=>exact h v (Ar hg)
def Lc (e:Expr):Bool := !(e.op==1) || Dm e.val
theorem Ie {k:List Rs} (h:∀r∈k,Fine r.1) (i:Nat):Fine (k.getD i (noV,0)).1:=by
 rw [Cz]
 cases hg:k[i]? with
 | none=>exact Km
 | some r=>exact h r (Ar hg)
mutual
theorem Rp {c:List Col} {l:List Val} (h:∀v∈l,Fine v):∀e:Expr,Et Lc e=true→Et M1 e=true→Fine (By c l e).1
 | .mk o t v k,h1,h2=>by
  rw [Et,Ao] at h1 h2
  have hk:=Vo (c:=c) h k h1.2 h2.2
  rw [By,Ee]
  unfold L9
  split
  ·rename_i ho
   have p:=h1.1
   unfold Lc at p
   rw [show (Expr.mk o t v k).op=o from rfl,ho] at p
   have q:=h2.1
   unfold M1 at q
   simp only [Ao,decide_eq_true_eq] at q
   exact ⟨by show Dm (Expr.mk o t v k).val=true;simpa using p,q.1,q.2⟩
  split
  ·exact pg h t
  split
  ·exact Vn (Ie hk 0) (Ie hk 1)
  split
  ·exact Vn (Ie hk 0) (Ie hk 1)
  split
  ·exact pe (Ie hk 0) (Ie hk 1) (Ie hk 2)
  exact w7 (fun _ hl=>dt hl) hk
theorem Vo {c:List Col} {l:List Val} (h:∀v∈l,Fine v):∀k:List Expr,N7 Lc k=true→N7 M1 k=true→∀r∈Oe B0 c l k,Fine r.1
  | [],_,_=>fun r hr=>by cases hr
  | e::k,h1,h2=>by
    rw [N7,Ao] at h1 h2
    intro r hr
    rw [Oe] at hr
    rcases Bg.1 hr with rfl|hr
    · exact Rp h e h1.1 h2.1
    exact Vo h k h1.2 h2.2 r hr
 end
/-! A text between marks. -/
theorem w8 {x:Expr} {c:List Col} (h:(H6 x c).2=0):B6 x=true∧Iw c=true∧H6 x c=Bf c x:=by
 unfold H6 at h ⊢
 split at h
 ·cases h
 rename_i h1
 rw [if_neg h1]
 simp only [Dj,Hz,not_or,Tk] at h1
 exact ⟨h1.1,by rw [←Ny];exact h1.2,rfl⟩
set_option maxRecDepth 4000
set_option maxRecDepth 8000
/-! Who decides decides: the law's sources, columns and truths. -/
/-! Rows. -/
theorem row_iff {c:List Col} {l:List Val}:F3 c l=true↔Iw c=true∧l.length=c.length∧∀(i:Nat) (v:Val) (y:Col),l[i]? = some v→c[i]? = some y→Dm v=true∧(v.kind=0∨v.kind=y.kind):=by
 unfold F3
 rw [Ao,Ao,Ny,beq_iff_eq,At,and_assoc]
 refine and_congr_right fun _=>and_congr_right fun hl=>⟨fun h i v y hv hy=>?_,fun h p hp=>?_⟩
 ·have:=h (v,y) (Ar (i:=i) (by rw [Qr];exact ⟨hv,hy⟩))
  simpa using this
 obtain ⟨i,hi⟩:=Cc hp
 rw [Qr] at hi
 have:=h i p.1 p.2 hi.1 hi.2
 simpa using this
theorem zv {x:Expr} {c:List Col} {l:List Val} (h1:B6 x=true) (h2:F3 c l=true):Dt x c l=By c l x:=by
 unfold Dt Y2
 rw [h1,h2]
 rfl
/-! Rows that differ in what is not named. -/
/-! Who has a kind comes to it. -/
/-- What a tree of this kind may come to. -/
structure KOk (k:Int) (r:Rs):Prop where
 kind:r.2=0→r.1.kind=k∨r.1.kind=0
 err:r.2≠0→r.2=4∨r.2=5∨r.2=6∨r.2=3
theorem KOk.null (k:Int):KOk k (noV,0):=⟨fun _=>.inr rfl,fun h=>absurd rfl h⟩
theorem KOk.val {k:Int} {v:Val} (h:v.kind=k):KOk k (v,0):=⟨fun _=>.inl h,fun h=>absurd rfl h⟩
theorem KOk.wrong {k e:Int} (h:e=4∨e=5∨e=6∨e=3):KOk k (Cw e):=⟨fun h0=>by rw [show e=0 from h0] at h;omega,fun _=>h⟩
theorem KOk.whole {x:Int×Int} (h:x.2≠0→x.2=4∨x.2=5∨x.2=6∨x.2=3):KOk 1 (H3 x):=by
 unfold H3
 split
 ·rename_i h1;exact .wrong (h (by simpa using h1))
 exact .val rfl
theorem KOk.mono {k k':Int} {r:Rs} (h:KOk k r) (hk:k=k'∨k=0):KOk k' r:=⟨fun h0=>by have:=h.kind h0;omega,h.err⟩
theorem Sj {α:Type} {g:α→Int} {r:α→Rs} {l:List α} (h:∀y∈l,KOk (g y) (r y)) {k:Int} {f:List Val→Rs} (hs:∀vs:List Val,vs.map (·.kind)=l.map g→(∀v∈vs,v.kind≠0)→KOk k (f vs)):KOk k (Kz f (l.map r)):=by
 unfold Kz
 split
 ·rename_i q hq
  have h1:=Yk hq
  obtain ⟨y,hy,rfl⟩:=C1.1 (List.mem_of_find?_eq_some hq)
  exact .wrong ((h y hy).err (by simpa using h1))
 rename_i hq
 have h0:∀y∈l,(r y).2=0:=fun y hy=>by
  have:=Ll.1 hq (r y) (Yn hy)
  simpa using this
 split
 ·exact .null k
 rename_i hn
 have hnn:∀y∈l,(r y).1.kind≠0:=fun y hy e=>hn (by rw [Ok];exact ⟨r y,Yn hy,by simpa using e⟩)
 refine hs _ ?_ ?_
 ·rw [Ig,Ig]
  refine Pd fun y hy=>?_
  have:=(h y hy).kind (h0 y hy)
  have:=hnn y hy
  show (r y).1.kind=g y
  omega
 intro v hv
 rw [Ig] at hv
 obtain ⟨y,hy,rfl⟩:=C1.1 hv
 exact hnn y hy
theorem Qb {a b:Int} (h:(Fu a b).2=true):((a=0∧(Fu a b).1=b)∨(a≠0∧(b=0∨b=a)∧(Fu a b).1=a)):=by
 unfold Fu at h ⊢
 split
 ·rename_i e;exact .inl ⟨by simpa using e,rfl⟩
 rename_i e
 rw [if_neg e] at h
 split
 ·rename_i e2
  exact .inr ⟨by simpa using e,by simp only [Dj,beq_iff_eq] at e2;omega,rfl⟩
 rename_i e2
 rw [if_neg e2] at h
 cases h
theorem ACi {s:Sign} {ks:List Int} (h:(Sv s ks).2=0):∃c,Gq s.kids ks 0=some c∧(Sv s ks).1=if s.own == -1 then c else s.own:=by
 unfold Sv at h ⊢
 cases hk:Gq s.kids ks 0 with
 | none=>rw [hk] at h;cases h
 | some c=>exact ⟨c,rfl,by simp only;split<;>rfl⟩
/-- One kid, of a kind. -/
theorem ph {w k0 c:Int} (h1:(w == -2)=false) (h2:(w == -1)=false) (h3:w≠0) (h:Gq [w] [k0] 0=some c):k0=0∨k0=w:=by
 rw [Gq,h1,h2] at h
 simp only [B2,if_false] at h
 split at h
 ·rename_i hm;have:=Qb hm;omega
 cases h
theorem pi {w w' k0 k1 c:Int} (h1:(w == -2)=false) (h2:(w == -1)=false) (h3:w≠0) (h1':(w' == -2)=false) (h2':(w' == -1)=false) (h3':w'≠0) (h:Gq [w,w'] [k0,k1] 0=some c):(k0=0∨k0=w)∧(k1=0∨k1=w'):=by
 rw [Gq,h1,h2] at h
 simp only [B2,if_false] at h
 split at h
 ·rename_i hm
  rw [Gq,h1',h2'] at h
  simp only [B2,if_false] at h
  split at h
  ·rename_i hm';have:=Qb hm;have:=Qb hm';omega
  cases h
 cases h
/-- Two kids of one kind, whichever. -/
theorem ak {k0 k1 c c0:Int} (h:Gq [-1, -1] [k0,k1] c0=some c) (h0:c0=0):(k0=0∨k0=c)∧(k1=0∨k1=c)∧(k0≠0→k1≠0→k0=k1):=by
 subst h0
 rw [Gq] at h
 simp only [show ((-1:Int) == -2)=false from rfl,show ((-1:Int) == -1)=true from rfl,B2,if_false,if_true] at h
 split at h
 ·rename_i hm
  rw [Gq] at h
  simp only [show ((-1:Int) == -2)=false from rfl,show ((-1:Int) == -1)=true from rfl,B2,if_false,if_true] at h
  split at h
  ·rename_i hm'
   rw [Gq] at h
   injection h with h
   have a:=Qb hm
   have b:=Qb hm'
   omega
  cases h
 cases h
theorem O1 {c:List Col} {o:Int} {t:Str} {v:Val} {k:List Expr} (h:(Bf c (.mk o t v k)).2=0) (h1:(o==1)=false) (h2:(o==2)=false):
  (∀y∈k,(Bf c y).2=0)∧∃m,Gq (K4 o t).kids (k.map fun y=>(Bf c y).1) 0=some m∧(Bf c (.mk o t v k)).1=if (K4 o t).own == -1 then m else (K4 o t).own:=by
 rw [Bf] at h ⊢
 have hk:=uv h h1 h2
 rw [Ri] at hk h ⊢
 have hk':∀y∈k,(Bf c y).2=0:=fun y hy=>hk _ (Yn hy)
 refine ⟨hk',?_⟩
 have e:Oc c o t v (k.map (Bf c))=Sv (K4 o t) (k.map fun y=>(Bf c y).1):=by
  unfold Oc
  rw [h1,h2]
  have:(k.map (Bf c)).find? (fun q=>q.2 != 0)=none:=Ll.2 fun q hq=>by simpa using hk q hq
  simp only [B2,if_false,this,Ig]
  rfl
 rw [e] at h ⊢
 exact ACi h
theorem pj (t:Str) (a b:Int):(Id t a b).2≠0→(Id t a b).2=4∨(Id t a b).2=5∨(Id t a b).2=6∨(Id t a b).2=3:=by
 unfold Id j7 M3 Vk j8 Ww
 simp only
 repeat' split
 all_goals simp
theorem zw (a b:Int):(M3 a b).2≠0→(M3 a b).2=4∨(M3 a b).2=5∨(M3 a b).2=6∨(M3 a b).2=3:=by
 unfold M3
 repeat' split
 all_goals simp
theorem zx (s:Str):(Ca s).2≠0→(Ca s).2=4∨(Ca s).2=5∨(Ca s).2=6∨(Ca s).2=3:=by
 unfold Ca
 repeat' split
 all_goals simp
theorem ACj {a b:Val} (ha:a.kind=2) (hb:b.kind=2):KOk 2 (Ng a b):=by
 unfold Ng
 rw [show D5 [a,b] [2,2]=true by simp [D5,ha,hb]]
 simp only [Kp,B2,if_false]
 split
 ·exact .wrong (by omega)
 exact .val rfl
/-- A mark of two values of the kinds that its sign asks for. -/
theorem AF9 {t:Str} {a b:Val} (ht:t∈[[61],[33,61],[60],[60,61],[62],[62,61],[43],[45],[38],[42],[47],[37]]) {m:Int} (hf:Gq (Dr t).kids [a.kind,b.kind] 0=some m) (ha:a.kind≠0) (hb:b.kind≠0):
  KOk (if (Dr t).own == -1 then m else (Dr t).own) (La t a b):=by
 have hcmp:∀t:Str,(H8 t (dp a b)).2=true→Dr t=⟨[-1, -1],3⟩→Gq (Dr t).kids [a.kind,b.kind] 0=some m→KOk (if (Dr t).own == -1 then m else (Dr t).own) (La t a b):=fun t h1 h2 hf=>by
  rw [h2] at hf ⊢
  have:=ak hf rfl
  have e:a.kind=b.kind:=this.2.2 ha hb
  unfold La
  rw [h1,if_pos rfl,e]
  simp only [bne_self_eq_false,B2,if_false]
  exact .val rfl
 have har:∀t:Str,(H8 t (dp a b)).2=false→(t==[38])=false→Dr t=⟨[1,1],1⟩→Gq (Dr t).kids [a.kind,b.kind] 0=some m→KOk (if (Dr t).own == -1 then m else (Dr t).own) (La t a b):=fun t h1 h2 h3 hf=>by
  rw [h3] at hf ⊢
  have:=pi rfl rfl (by decide) rfl rfl (by decide) hf
  unfold La
  rw [h1,h2,show D5 [a,b] [1,1]=true by simp [D5];omega]
  exact KOk.whole (pj _ _ _)
 simp only [Bg,Hc,or_false] at ht
 rcases ht with rfl|rfl|rfl|rfl|rfl|rfl|rfl|rfl|rfl|rfl|rfl|rfl
 ·exact nk
 ·exact nk
 ·exact nk
 ·exact nk
 ·exact nk
 ·exact nk
 ·exact sx
 ·exact sx
 ·have h3:Dr [38]=⟨[2,2],2⟩:=rfl
  rw [h3] at hf ⊢
  have:=pi rfl rfl (by decide) rfl rfl (by decide) hf
  exact ACj (by omega) (by omega)
 ·exact sx
 ·exact sx
 exact sx
theorem al {r:Rs} (h:KOk 3 r):Ay r=r:=by
 unfold Ay
 split
 ·rename_i e
  simp only [Ao,beq_iff_eq,bne_iff_ne] at e
  have:=h.kind e.1.1
  omega
 rfl
theorem ll {s:Val} {a b:Rs} (ha:KOk 3 a) (hb:KOk 3 b):KOk 3 (Hn s a b):=by
 unfold Hn
 rw [al ha,al hb]
 split
 ·exact ha
 rename_i h1
 split
 ·exact hb
 simp only [Dj,bne_iff_ne,not_or,Decidable.not_not] at h1
 exact ⟨fun _=>ha.kind h1.1,fun h=>absurd rfl h⟩
theorem Vp {t:Str} {n:Nat} (h:C4 t=(n:Int)):(t=[108,101,110]∧n=1)∨(t=[115,116,114]∧n=1)∨(t=[110,117,109]∧n=1)∨(t=Bx∧n=1)∨(t=Rn∧n=2)∨(t=[108,101,102,116]∧n=2)∨(t=[114,105,103,104,116]∧n=2)∨(t=ifW∧n=3):=by
 by_cases hm:t∈arityList.map (·.1)
 ·have ha:∀s∈arityList.map (·.1),(s=[108,101,110]∧C4 s=1)∨(s=[115,116,114]∧C4 s=1)∨(s=[110,117,109]∧C4 s=1)∨(s=Bx∧C4 s=1)∨(s=Rn∧C4 s=2)∨(s=[108,101,102,116]∧C4 s=2)∨(s=[114,105,103,104,116]∧C4 s=2)∨(s=ifW∧C4 s=3):=by
   have:((arityList.map (·.1)).all fun s=>decide ((s=[108,101,110]∧C4 s=1)∨(s=[115,116,114]∧C4 s=1)∨(s=[110,117,109]∧C4 s=1)∨(s=Bx∧C4 s=1)∨(s=Rn∧C4 s=2)∨(s=[108,101,102,116]∧C4 s=2)∨(s=[114,105,103,104,116]∧C4 s=2)∨(s=ifW∧C4 s=3)))=true:=by kernel_rfl
   exact fun s hs=>of_decide_eq_true (At.1 this s hs)
  have:=ha t hm
  rw [h] at this
  rcases this with ⟨e,h2⟩|⟨e,h2⟩|⟨e,h2⟩|⟨e,h2⟩|⟨e,h2⟩|⟨e,h2⟩|⟨e,h2⟩|⟨e,h2⟩
  ·exact .inl ⟨e,by omega⟩
  ·exact .inr (.inl ⟨e,by omega⟩)
  ·exact .inr (.inr (.inl ⟨e,by omega⟩))
  ·exact .inr (.inr (.inr (.inl ⟨e,by omega⟩)))
  ·exact .inr (.inr (.inr (.inr (.inl ⟨e,by omega⟩))))
  ·exact .inr (.inr (.inr (.inr (.inr (.inl ⟨e,by omega⟩)))))
  ·exact .inr (.inr (.inr (.inr (.inr (.inr (.inl ⟨e,by omega⟩))))))
  exact .inr (.inr (.inr (.inr (.inr (.inr (.inr ⟨e,by omega⟩))))))
 have h1:C4 t = -1:=by
  unfold C4
  rw [Ll.2 fun p hp=>by
   simp only [beq_iff_eq]
   rintro rfl
   exact hm (C1.2 ⟨p,hp,rfl⟩)]
 omega
theorem Tf {k:List Expr} (h:k.length=1):∃a,k=[a]:=by match k,h with|[a],_=>exact ⟨a,rfl⟩
theorem O2 {k:List Expr} (h:k.length=2):∃a b,k=[a,b]:=by match k,h with|[a,b],_=>exact ⟨a,b,rfl⟩
theorem pk {k:List Expr} (h:k.length=3):∃a b c,k=[a,b,c]:=by match k,h with|[a,b,c],_=>exact ⟨a,b,c,rfl⟩
theorem Ld {vs:List Val} {k:Int} (h:vs.map (·.kind)=[k]):∃v,vs=[v]∧v.kind=k:=by
 match vs,h with
 | [v],h=>exact ⟨v,rfl,by simpa using h⟩
theorem Rq {vs:List Val} {k k':Int} (h:vs.map (·.kind)=[k,k']):∃v v',vs=[v,v']∧v.kind=k∧v'.kind=k':=by
 match vs,h with
 | [v,v'],h=>exact ⟨v,v',rfl,by simpa using h⟩
theorem lm {c:List Col} {l:List Val} (hl:F3 c l=true):∀(n:Nat) (e:Expr),sizeE e≤n→Et Es e=true→(Bf c e).2=0→KOk (Bf c e).1 (By c l e)
 | 0,e,hn,_,_=>by have:=N2 e;omega
 | n+1,e,hn,hnd,hk=>by
  have hnd0:=hnd
  rw [Nz,Ao] at hnd0
  have ih:∀y∈e.kids,(Bf c y).2=0→KOk (Bf c y).1 (By c l y):=fun y hy h0=>lm hl n y (ot hn hy) ((Hi _ _).1 hnd0.2 y hy) h0
  obtain ⟨r1,r2,r3⟩:=row_iff.1 hl
  have hNC:=P4 hnd0.1
  cases hNC with
  | val v hp h0 =>
   have:Bf c (O7 v)=(v.kind,0):=by rw [O7,Bf];rfl
   rw [this]
   exact .val rfl
  | name t ht =>
   have e1:Bf c (Cr t)=Q6 c t:=by rw [Cr,Bf];rfl
   have e2:By c l (Cr t)=Hw c l t:=by rw [By,Cr,Ee];rfl
   rw [e1] at hk ⊢
   rw [e2]
   unfold Q6 at hk ⊢
   unfold Hw
   split at hk
   ·cases hk
   rename_i hf
   rw [if_neg hf,if_neg hf]
   obtain ⟨j,z,hj,hz,hfj⟩:=find_mem.1 hf
   have hjl:j<l.length:=by rw [r2];exact (Ab.1 hj).1
   have:=r3 j l[j] z (Aa hjl) hj
   rw [hfj,Int.toNat_natCast,Cz,Cz,hj,Aa hjl]
   exact ⟨fun _=>by show l[j].kind=z.kind∨l[j].kind=0;omega,fun h=>absurd rfl h⟩
  | neg a =>
   rw [L7] at hk ⊢
   obtain ⟨hky,m,hf,ho⟩:=O1 hk rfl rfl
   rw [ho,By,Ee,Ji]
   have hs:K4 3 []=⟨[1],1⟩:=rfl
   rw [hs] at hf ⊢
   have hm:=ph rfl rfl (by decide) hf
   show KOk 1 (Kz (B0 3 []) ([a].map (Ee B0 c l)))
   refine Sj (g:=fun y=>(Bf c y).1) (fun y hy=>ih y hy (hky y hy)) (fun vs hvs hnz=>?_)
   obtain ⟨v,rfl,hv⟩:=Ld hvs
   have hv0:=hnz v (by simp)
   have hv1:v.kind=1:=by omega
   unfold B0
   rw [show D5 [v] [1]=true by simp [D5,hv1]]
   exact KOk.whole (zw _ _)
  | no a =>
   rw [L7] at hk ⊢
   obtain ⟨hky,m,hf,ho⟩:=O1 hk rfl rfl
   rw [ho,By,Ee,Ji]
   have hs:K4 4 []=⟨[3],3⟩:=rfl
   rw [hs] at hf ⊢
   have hm:=ph rfl rfl (by decide) hf
   show KOk 3 (Kz (B0 4 []) ([a].map (Ee B0 c l)))
   refine Sj (g:=fun y=>(Bf c y).1) (fun y hy=>ih y hy (hky y hy)) (fun vs hvs hnz=>?_)
   obtain ⟨v,rfl,hv⟩:=Ld hvs
   have hv0:=hnz v (by simp)
   have hv1:v.kind=3:=by omega
   unfold B0
   rw [show D5 [v] [3]=true by simp [D5,hv1]]
   exact KOk.val rfl
  | bin t a b ht =>
   rw [L6] at hk ⊢
   obtain ⟨hky,m,hf,ho⟩:=O1 hk rfl rfl
   have ha:=ih a (by simp [L6,Expr.kids]) (hky a (by simp))
   have hb:=ih b (by simp [L6,Expr.kids]) (hky b (by simp))
   rw [ho,By,Ee,Ji]
   rw [show K4 5 t=Dr t from rfl] at hf ⊢
   have hmem:t∈levels.flatten:=by
    rcases dc t with h|h
    ·exact h
    omega
   by_cases h1:(t==orW)=true
   ·have e:t=orW:=by simpa using h1
    subst e
    rw [show Dr orW=⟨[3,3],3⟩ from rfl] at hf ⊢
    have hm:((Bf c a).1=0∨(Bf c a).1=3)∧((Bf c b).1=0∨(Bf c b).1=3):=pi rfl rfl (by decide) rfl rfl (by decide) hf
    exact ll (ha.mono (by omega)) (hb.mono (by omega))
   by_cases h2:(t==aj)=true
   ·have e:t=aj:=by simpa using h2
    subst e
    rw [show Dr aj=⟨[3,3],3⟩ from rfl] at hf ⊢
    have hm:((Bf c a).1=0∨(Bf c a).1=3)∧((Bf c b).1=0∨(Bf c b).1=3):=pi rfl rfl (by decide) rfl rfl (by decide) hf
    exact ll (ha.mono (by omega)) (hb.mono (by omega))
   have e:L9 B0 c l 5 t noV ([a,b].map (Ee B0 c l))=Kz (B0 5 t) ([a,b].map (Ee B0 c l)):=by
    unfold L9
    rw [show (t==orW)=false by simpa using h1,show (t==aj)=false by simpa using h2]
    rfl
   rw [e]
   have hm12:t∈[[61],[33,61],[60],[60,61],[62],[62,61],[43],[45],[38],[42],[47],[37]]:=by
    have h1':t≠orW:=by simpa using h1
    have h2':t≠aj:=by simpa using h2
    simp only [levels,List.flatten_cons,List.flatten_nil,Ef,Ek,Gx,Bg,Hc,or_false] at hmem ⊢
    rcases hmem with h|h|h
    ·exact absurd h h1'
    ·exact absurd h h2'
    exact h
   refine Sj (g:=fun y=>(Bf c y).1) (fun y hy=>ih y hy (hky y hy)) (fun vs hvs hnz=>?_)
   obtain ⟨v,v',rfl,hv,hv'⟩:=Rq hvs
   have hf':Gq (Dr t).kids [v.kind,v'.kind] 0=some m:=by rw [hv,hv'];exact hf
   exact AF9 hm12 hf' (hnz v (by simp)) (hnz v' (by simp))
  | call t k ht =>
   obtain ⟨hky,m,hf,ho⟩:=O1 hk rfl rfl
   rw [ho,By,Ee,Ji]
   rw [show K4 6 t=Ev t from rfl] at hf ⊢
   rcases Vp ht with ⟨rfl,hn1⟩|⟨rfl,hn1⟩|⟨rfl,hn1⟩|⟨rfl,hn1⟩|⟨rfl,hn1⟩|⟨rfl,hn1⟩|⟨rfl,hn1⟩|⟨rfl,hn1⟩
   ·obtain ⟨a,rfl⟩:=Tf hn1
    have hs:Ev [108,101,110]=⟨[2],1⟩:=rfl
    rw [hs] at hf ⊢
    have hm:=ph rfl rfl (by decide) hf
    show KOk 1 (Kz (B0 6 [108,101,110]) ([a].map (Ee B0 c l)))
    refine Sj (g:=fun y=>(Bf c y).1) (fun y hy=>ih y hy (hky y hy)) (fun vs hvs hnz=>?_)
    obtain ⟨v,rfl,hv⟩:=Ld hvs
    have hv0:=hnz v (by simp)
    have hv1:v.kind=2:=by omega
    show KOk 1 (Hy [108,101,110] v)
    unfold Hy
    rw [hv1]
    exact KOk.val rfl
   ·obtain ⟨a,rfl⟩:=Tf hn1
    have hs:Ev [115,116,114]=⟨[1],2⟩:=rfl
    rw [hs] at hf ⊢
    have hm:=ph rfl rfl (by decide) hf
    show KOk 2 (Kz (B0 6 [115,116,114]) ([a].map (Ee B0 c l)))
    refine Sj (g:=fun y=>(Bf c y).1) (fun y hy=>ih y hy (hky y hy)) (fun vs hvs hnz=>?_)
    obtain ⟨v,rfl,hv⟩:=Ld hvs
    have hv0:=hnz v (by simp)
    have hv1:v.kind=1:=by omega
    show KOk 2 (Hy [115,116,114] v)
    unfold Hy
    rw [hv1]
    exact KOk.val rfl
   ·obtain ⟨a,rfl⟩:=Tf hn1
    have hs:Ev [110,117,109]=⟨[2],1⟩:=rfl
    rw [hs] at hf ⊢
    have hm:=ph rfl rfl (by decide) hf
    show KOk 1 (Kz (B0 6 [110,117,109]) ([a].map (Ee B0 c l)))
    refine Sj (g:=fun y=>(Bf c y).1) (fun y hy=>ih y hy (hky y hy)) (fun vs hvs hnz=>?_)
    obtain ⟨v,rfl,hv⟩:=Ld hvs
    have hv0:=hnz v (by simp)
    have hv1:v.kind=2:=by omega
    show KOk 1 (Hy [110,117,109] v)
    unfold Hy
    rw [hv1]
    exact KOk.whole (zx _)
   ·obtain ⟨a,rfl⟩:=Tf hn1
    have ha:=ih a (by simp [Expr.kids]) (hky a (by simp))
    have hs:Ev Bx=⟨[-2],3⟩:=rfl
    rw [hs]
    show KOk 3 (Ed Bx (By c l a) (noV,0) (noV,0))
    unfold Ed
    rw [show (Bx==ifW)=false from rfl,show (Bx==Bx)=true from rfl]
    simp only [B2,if_false,if_true]
    split
    ·rename_i h;exact .wrong (ha.err (by simpa using h))
    exact .val rfl
   ·obtain ⟨a,b,rfl⟩:=O2 hn1
    have ha:=ih a (by simp [Expr.kids]) (hky a (by simp))
    have hb:=ih b (by simp [Expr.kids]) (hky b (by simp))
    have hs:Ev Rn=⟨[-1, -1], -1⟩:=rfl
    rw [hs] at hf ⊢
    have hm:((Bf c a).1=0∨(Bf c a).1=m)∧((Bf c b).1=0∨(Bf c b).1=m)∧((Bf c a).1≠0→(Bf c b).1≠0→(Bf c a).1=(Bf c b).1):=ak hf rfl
    show KOk m (Ed Rn (By c l a) (By c l b) (noV,0))
    unfold Ed
    rw [show (Rn==ifW)=false from rfl,show (Rn==Bx)=false from rfl]
    simp only [B2,if_false]
    split
    ·rename_i h;exact .wrong (ha.err (by simpa using h))
    rename_i h
    split
    ·rename_i h2
     have:=ha.kind (by simpa using h)
     have h2:(By c l a).1.kind≠0:=by simpa using h2
     exact .val (by omega)
    exact hb.mono (by omega)
   ·obtain ⟨a,b,rfl⟩:=O2 hn1
    have hs:Ev [108,101,102,116]=⟨[2,1],2⟩:=rfl
    rw [hs] at hf ⊢
    have hm:=pi rfl rfl (by decide) rfl rfl (by decide) hf
    show KOk 2 (Kz (B0 6 [108,101,102,116]) ([a,b].map (Ee B0 c l)))
    refine Sj (g:=fun y=>(Bf c y).1) (fun y hy=>ih y hy (hky y hy)) (fun vs hvs hnz=>?_)
    obtain ⟨v,v',rfl,hv,hv'⟩:=Rq hvs
    have hv0:=hnz v (by simp)
    have hv0':=hnz v' (by simp)
    have hv1:v.kind=2:=by omega
    have hv1':v'.kind=1:=by omega
    unfold B0
    rw [show D5 [v,v'] [2,1]=true by simp [D5,hv1,hv1']]
    exact KOk.val rfl
   ·obtain ⟨a,b,rfl⟩:=O2 hn1
    have hs:Ev [114,105,103,104,116]=⟨[2,1],2⟩:=rfl
    rw [hs] at hf ⊢
    have hm:=pi rfl rfl (by decide) rfl rfl (by decide) hf
    show KOk 2 (Kz (B0 6 [114,105,103,104,116]) ([a,b].map (Ee B0 c l)))
    refine Sj (g:=fun y=>(Bf c y).1) (fun y hy=>ih y hy (hky y hy)) (fun vs hvs hnz=>?_)
    obtain ⟨v,v',rfl,hv,hv'⟩:=Rq hvs
    have hv0:=hnz v (by simp)
    have hv0':=hnz v' (by simp)
    have hv1:v.kind=2:=by omega
    have hv1':v'.kind=1:=by omega
    unfold B0
    rw [show D5 [v,v'] [2,1]=true by simp [D5,hv1,hv1']]
    exact KOk.val rfl
   obtain ⟨a,b,d,rfl⟩:=pk hn1
   have ha:=ih a (by simp [Expr.kids]) (hky a (by simp))
   have hb:=ih b (by simp [Expr.kids]) (hky b (by simp))
   have hd:=ih d (by simp [Expr.kids]) (hky d (by simp))
   have hs:Ev ifW=⟨[3, -1, -1], -1⟩:=rfl
   rw [hs] at hf ⊢
   have hf':Gq [3] [(Bf c a).1] 0=some 0∧Gq [-1, -1] [(Bf c b).1,(Bf c d).1] 0=some m:=by
    simp only [Bt,Eu] at hf
    rw [Gq] at hf
    simp only [show ((3:Int) == -2)=false from rfl,show ((3:Int) == -1)=false from rfl,B2,if_false] at hf
    split at hf
    ·rename_i hm
     refine ⟨?_,hf⟩
     rw [Gq]
     simp only [show ((3:Int) == -2)=false from rfl,show ((3:Int) == -1)=false from rfl,B2,if_false,hm,if_true]
     rw [Gq]
    cases hf
   have hm1:=ph rfl rfl (by decide) hf'.1
   have hm:=ak hf'.2 rfl
   show KOk m (Ed ifW (By c l a) (By c l b) (By c l d))
   unfold Ed
   rw [show (ifW==ifW)=true from rfl,if_pos rfl,al (ha.mono (by omega))]
   split
   ·rename_i h;exact .wrong (ha.err (by simpa using h))
   split
   ·exact hb.mono (by omega)
   exact hd.mono (by omega)
/-! The print of a tree, and its words. -/
/-! What was parsed nests no deeper than may be. -/
/-! What nests too deep is told to be too deep. -/
def F2 (l:List Tok) (x:Expr):Prop:=∀(k:Nat) (S:PS) (rest:List TK),(k=0∨k=1∨k=4∨k=5)→k≤vd x→S.code=0→S.nest≤30→30<S.nest+l8 x→seg l S.i=Vb x++rest→v8 (k+1) rest→(Fv l (ofL k) (pf l (fam l S.nest) (k+1)) S).2.code=18
/-! What was parsed is right, where the words are the lexer's. -/
/-! The lexer's words. -/
/-! The parse laws where nothing is too deep. -/
/-! The parser from a word on, and of a source. -/
/-! Other trees have other words, and other prints. -/
/-! The laws of printing. -/
theorem j9 {x:Expr} (h:L5 x=true):Et Es x=true:=by
 unfold L5 at h
 rw [Ao] at h
 exact h.2
set_option maxRecDepth 4000
end Go.SX.Nb
namespace Go.Proofs
open Go.Shelf Go.RowKit

section
variable {P:Program} (w:World)

end

section
variable {P:Program} {ρ:Ren}

set_option maxHeartbeats 1000000 in
set_option maxRecDepth 100000 in
set_option maxHeartbeats 1000000 in
set_option maxRecDepth 100000 in
set_option maxHeartbeats 2000000 in
set_option maxRecDepth 100000 in
set_option maxHeartbeats 2000000 in
set_option maxRecDepth 100000 in
end
end Go.Proofs

namespace Go.SX.Nb
open Go Go.SX Go.Proofs Go.Shelf
variable [ErrAt]
set_option maxRecDepth 8000
/-! show's builder. -/
end Go.SX.Nb
namespace Go.SX.Nb
open Go Go.SX Go.Proofs
variable [ErrAt]
set_option maxRecDepth 4000
set_option maxRecDepth 8000
/-! How long a print is. -/
set_option maxRecDepth 4000
abbrev xo (own:Bool) (t:Str) (ks:List Expr):AObj:=.cells 26 [A4 6,Ad t,A4 0,A4 0,Ad [],.slice own 6 (ks.map Ac)]
theorem ACk {n:Nat} {own:Bool} {t:Str} {ks:List Expr}:ObjLow n (xo own t ks):=by
 show ∀z∈[A4 6,Ad t,A4 0,A4 0,Ad [],AV.slice own 6 (ks.map Ac)],Low n z
 intro z hz
 simp only [Bg,Hc,or_false] at hz
 rcases hz with rfl|rfl|rfl|rfl|rfl|rfl
 all_goals first|exact Ej|simp
theorem zy:Du (.agg #[.int .i64 0,.string ⟨#[]⟩,.int .i64 0,.int .i64 0,.string ⟨#[]⟩,.slice none 0 0])=.agg [A4 0,Ad [],A4 0,A4 0,Ad [],.nil]:=rfl
attribute [go_sem] zy
theorem gA {Hp:List AObj} {o ox:Nat} {z A B:AObj} (ho:Hp[o]? = some z) (hne:ox≠o):((Hp.set o A).set ox B)[o]? = some A:=by rw [List.getElem?_set_ne hne];exact getset ho
theorem gB {Hp:List AObj} {o ox:Nat} {z A B:AObj} (hox:Hp[ox]? = some z):((Hp.set o A).set ox B)[ox]? = some B:=by
 have:=(List.getElem?_eq_some_iff.1 hox).1
 simp [this]
theorem w9 {Hp:List AObj} {o ox:Nat} {A A' B:AObj} (hne:ox≠o):((Hp.set o A).set ox B).set o A'=(Hp.set o A').set ox B:=by rw [List.set_comm _ _ hne,List.set_set]
theorem P9 (ks:List Expr) (x:Expr):ks.map Ac++[.agg [.v (.int .i64 x.op),.v (sv x.text),.v (.int .i64 x.val.kind),.v (.int .i64 x.val.n),.v (sv x.val.s),.slice false 6 (x.kids.map Ac)]]=(ks++[x]).map Ac:=by rw [List.map_append,List.map_cons,List.map_nil,Am x]
theorem AHi (l:List Tok) (S:PS) (t:Str) (Dv:Fam) (o ox:Nat) (Hp:List AObj) (hne:ox≠o) (ho:Hp[o]? = some (pr l S)) (hox:Hp[ox]? = some (xo true t [])) (hi:S.i<l.length) (hl:TokEnd l) (hll:l.length≤1048576) (hf:Eh l S.nest Dv.ei) (hcf:PC 114 l Dv.ei S.nest):ACall Tryz.prog 351 [.ptr ox 0,.ro [.ptr o 0]] Hp (fun r H'=>r=Ac (.mk 6 t noV (Hu l Dv.ei S).1)∧H'=(Hp.set o (pr l (Hu l Dv.ei S).2)).set ox (xo true t (Hu l Dv.ei S).1)):=by
 have hoxl:=(List.getElem?_eq_some_iff.1 hox).1
 have hol:=(List.getElem?_eq_some_iff.1 ho).1
 refine ACall.body [.cell 2 26] [0,1] Tryz.func351 Tryz.ntmps351 (fun d=>?_)
 refine Z25 ?_;refine U8 ?_
 refine W.drawT [0,1,0,4,3,0,63,127,255,127,639] [1,3] [.q 1 [] [0],.s [4] (some 0) [] [],.q 1 [] [1],.s [6] (some 1) [] [],.q 2 [] []] (fun B=>(Hp.set o (if B 1=true then pr l (Dv.ei S).2 else pr l S)).set ox (if B 0=true then xo false t [] else xo true t [])) (fun _=>[Kw]) Al (by kernel_rfl) (by simp only [Bool.false_eq_true,if_false];rw [Hg ho,Hg hox]) rfl (fun B=>by simp) ?_
 apply Y.q
 ·intro B hT hF
  exact Z72
 case hTF=>decide
 refine Y.loadUpT (o:=ox) (t':=26) (cs:=[A4 6,Ad t,A4 0,A4 0,Ad [],.slice true 6 ([].map Ac)]) (cs':=[A4 6,Ad t,A4 0,A4 0,Ad [],.slice false 6 ([].map Ac)]) Tryz.isAgg24 (fun B hB=>⟨by simp only [hB];exact gB hox,by simp [upd,List.set_set]<;>rfl,rfl⟩) ?_
 apply Y.q
 ·intro B hT hF
  exact Z72
 case hTF=>decide
 refine Y.callUp (r:=Ac (Dv.ei S).1) (o:=o) (x0:=pr l S) (x:=pr l (Dv.ei S).2) Tryz.call114 (fun B hT hF hB=>⟨by simp only [hB];exact gA ho hne,?_,rfl,D4,?_⟩) ?_
 ·simp only [upd,hB,Nat.reduceEqDiff,if_false,if_true,Bool.false_eq_true]
  exact (w9 hne).symm
 ·simp only [hB]
  exact hcf o _ S (Ag (gA ho hne)) hi rfl
 apply Y.q
 ·intro B hT hF
  exact xw
 case hTF=>decide
 refine Y.appendPut (tn:=[1,3]) (U:=(Hp.set o (pr l (Dv.ei S).2)).set ox (xo false t [])) (O:=[Kw]) (o:=ox) (t':=26) (cs:=[A4 6,Ad t,A4 0,A4 0,Ad [],.slice false 6 ([].map Ac)]) (by kernel_rfl) jU Tryz.type26 Tryz.sizeOf26 Tryz.sizeOf24 jU (Ag (gB hox)) ?_ ?_ ?_ (hfsz:=Tryz.sizeOf24)
 ·simp [Tryz.t26]
 ·simp [Tryz.t26]
 refine R.go ?_
 refine R.storeUpT jS (gB hox) ?_ ?_
 ·first|(rw [P9];exact Ej)|(have:=Ej (n:=((Hp.set o (pr l (Dv.ei S).2)).set ox (xo false t [])).length) (k:=6) (o:=true) (l:=[(Dv.ei S).1]);simp only [List.map_cons,List.map_nil,Am] at this;exact this)
 refine U8 ?_;refine W.seq ?_
 refine AW.loopC (α:=List Expr×PS) (fun r=>⟨34,A7 0 (.ptr ox 0) (A7 1 (.ro [.ptr o 0]) (A7 2 (.ptr (oid Hp.length 0) 0) (fun _=>.any))),(Hp.set o (pr l r.2)).set ox (xo true t r.1),[Kw],[],none⟩) (fun r=>ArgsAt l Dv.ei S r) (fun r=>l.length-r.2.i) (([(Dv.ei S).1],(Dv.ei S).2)) (.start (hf S hi rfl)) (StLe.of_eq (by simp [List.set_set,xo,Am])) rfl (fun r hx=>?_)
 refine Z55 ?_
 refine R.go (h:=Q.loadUp (gA ho hne)) (hr:=?_)
 refine bw ?_;refine G.call Tryz.call203 (fun hB=>d9 l r.2 V5 o _ (Ag (gA ho hne)) hx.fact.lt hl (by decide)) ?_;refine R.go ?_;refine R.fin [0,1,2,21] ?_
 refine W.cond (fun ht21=>?_) (fun ht21=>?_)
 ·have hon:=hx.on hl ht21 hf
  have hle:=hon.2.1.le
  have hlt0:=hx.fact.lt
  refine Z6 ?_;refine Jv ?_;refine Z2 ?_;refine R.callUp Tryz.call204 (gA ho hne) (by simp) D4 (ux l r.2 o _ (Ag (gA ho hne)) hx.fact.lt hll) ?_;refine U8 ?_
  refine W.drawT0 [0,1,0,4,3,0,63,127,255,127,639] [1,3] [.q 1 [] [0],.s [25] (some 0) [] [],.q 1 [] [1],.s [27] (some 1) [] [],.q 2 [] []] (fun B=>(Hp.set o (if B 1=true then pr l (Dv.ei (Ai r.2)).2 else pr l (Ai r.2))).set ox (if B 0=true then xo false t r.1 else xo true t r.1)) (fun _=>[Kw]) Al (by kernel_rfl) (by simp only [Bool.false_eq_true,if_false];exact (w9 hne).symm) rfl (fun B=>by simp) ?_
  apply Y.q
  ·intro B hT hF
   exact Z72
  case hTF=>decide
  refine Y.loadUpT (o:=ox) (t':=26) (cs:=[A4 6,Ad t,A4 0,A4 0,Ad [],.slice true 6 (r.1.map Ac)]) (cs':=[A4 6,Ad t,A4 0,A4 0,Ad [],.slice false 6 (r.1.map Ac)]) Tryz.isAgg24 (fun B hB=>⟨by simp only [hB];exact gB hox,by simp [upd,List.set_set]<;>rfl,rfl⟩) ?_
  apply Y.q
  ·intro B hT hF
   exact Z72
  case hTF=>decide
  refine Y.callUp (r:=Ac (Dv.ei (Ai r.2)).1) (o:=o) (x0:=pr l (Ai r.2)) (x:=pr l (Dv.ei (Ai r.2)).2) Tryz.call114 (fun B hT hF hB=>⟨by simp only [hB];exact gA ho hne,?_,rfl,D4,?_⟩) ?_
  ·simp only [upd,hB,Nat.reduceEqDiff,if_false,if_true,Bool.false_eq_true]
   exact (w9 hne).symm
  ·simp only [hB]
   exact hcf o _ (Ai r.2) (Ag (gA ho hne)) hon.1 hx.fact.nest
  apply Y.q
  ·intro B hT hF
   exact xw
  case hTF=>decide
  refine Y.appendPut (tn:=[1,3]) (U:=(Hp.set o (pr l (Dv.ei (Ai r.2)).2)).set ox (xo false t r.1)) (O:=[Kw]) (o:=ox) (t':=26) (cs:=[A4 6,Ad t,A4 0,A4 0,Ad [],.slice false 6 (r.1.map Ac)]) (by kernel_rfl) jU Tryz.type26 Tryz.sizeOf26 Tryz.sizeOf24 jU (Ag (gB hox)) ?_ ?_ ?_ (hfsz:=Tryz.sizeOf24)
  ·have:=hx.fact.len;have:=hx.fact.lt;simp only [List.length_map,Tryz.t26];omega
  ·have:=hx.fact.len;have:=hx.fact.lt;simp only [List.length_map,Tryz.t26];omega
  refine R.go ?_
  refine R.storeUpT jS (gB hox) ?_ ?_
  ·first|(rw [P9];exact Ej)|(have:=Ej (n:=((Hp.set o (pr l (Dv.ei S).2)).set ox (xo false t [])).length) (k:=6) (o:=true) (l:=[(Dv.ei S).1]);simp only [List.map_cons,List.map_nil,Am] at this;exact this)
  refine U8 ?_;refine K.blN ?_
  refine K.lpN (r.1++[(Dv.ei (Ai r.2)).1],(Dv.ei (Ai r.2)).2) hon.2.2 (by show l.length-(Dv.ei (Ai r.2)).2.i<l.length-r.2.i;have:r.2.i+1≤(Dv.ei (Ai r.2)).2.i:=hle;omega) (StCut.of_eq ?_)
  simp only [show Tryz.t26.size=6 from rfl,P9,List.set_set]
 have hout:=hx.out (by rw [ht21];simp)
 refine Wj ?_;refine E5 ?_
 refine R.go (h:=Q.loadUpN (gB hox)) (hr:=?_)
 refine Z9 ?_;exact K.fin (V.one (V.cellN jA jS)) ⟨by rw [hout,ai];rfl,by rw [hout]⟩ (hlow:=by have:=As Hp.length (.mk 6 t noV r.1);rw [ai] at this;simpa using this)

/-- within, with the function that gathers a call's kids. -/
theorem AFa (l:List Tok) (S:PS) (a:Int) (t:Str) (Dv:Fam) (o:Nat) (Hp:List AObj) (A0 A1:AObj) (l0:ObjLow 0 A0) (ho:Hp[o]? = some (pr l S)) (hi:S.i<l.length) (hl:TokEnd l) (hll:l.length≤1048576) (hnl:S.nest≤30) (hd:DeepC l Dv S.nest):
  ACall Tryz.prog 256 [.ptr o 0,A4 a,.fn (.func 351) [] [.ptr (oid Hp.length 2) 0,.ro [.ptr o 0]]] (Hp++[A0,A1,xo true t []]) (fun r H'=>r=Ac (if S.nest=30 then B4 else .mk 6 t noV (Sg l a Dv.ei S).1)∧H'=Hp.set o (pr l (Sg l a Dv.ei S).2)++[A0,A1,xo true t (Sg l a Dv.ei S).1]):=by
 have hlt:=(Ab.1 ho).1
 have ho':(Hp++[A0,A1,xo true t []])[o]? = some (pr l S):=Ag ho
 by_cases h30:S.nest=30
 ·refine (zc l S a 351 [] [.ptr (oid Hp.length 2) 0,.ro [.ptr o 0]] B4 (Dd S) o (Hp++[A0,A1,xo true t []]) ((Hp++[A0,A1,xo true t []]).set o (pr l (Dd S))) ho' (by omega) Tryz.call351 (by simp) (getset ho') rfl (fun h=>h) (fun h=>absurd h30 h)).mono fun r H' h=>?_
  have e:Sg l a Dv.ei S=([],E8 18 a S):=if_pos (by rw [h30];rfl)
  rw [e,if_pos h30]
  obtain ⟨h1,h2⟩:=h.1 h30
  exact ⟨h1,by rw [h2,J8 _ _ hlt]⟩
 have hq:=V7 (S:=Dd S) hl hi (hd.ei h30).1
 refine (zc l S a 351 [] [.ptr (oid Hp.length 2) 0,.ro [.ptr o 0]] (.mk 6 t noV (Hu l Dv.ei (Dd S)).1) (Hu l Dv.ei (Dd S)).2 o (Hp++[A0,A1,xo true t []]) (Hp.set o (pr l (Hu l Dv.ei (Dd S)).2)++[A0,A1,xo true t (Hu l Dv.ei (Dd S)).1]) ho' (by omega) Tryz.call351 (by simp) (Ag (getset ho)) hq.nest (fun h y hy=>?_) (fun _ own=>?_)).mono fun r H' h=>?_
 ·rw [J8 _ _ hlt] at h
  rcases Dp.1 hy with hy|hy
  ·rcases K7 hy with h1|h1
   ·obtain ⟨i,hi',rfl⟩:=Qs h1
    by_cases hio:i=o
    ·subst hio
     have:Hp[i]=pr l S:=by rw [Aa hi'] at ho;injection ho
     rw [this];exact D4
    refine h _ (Ym _ ?_)
    rw [jq]
    exact ⟨i,by rw [Dg (Ne.symm hio),Aa hi']⟩
   rw [h1];exact D4
  simp only [Bg,Hc,or_false] at hy
  rcases hy with rfl|rfl|rfl
  ·exact h _ (Pf _ (by simp))
  ·exact h _ (Pf _ (by simp))
  exact ACk
 ·have hoid:oid Hp.length 2≠o:=by unfold oid;omega
  have e1:(Hp++[A0,A1,xo true t []]).set o (pr l (Dd S))++own=(Hp.set o (pr l (Dd S))++[A0,A1,xo true t []])++own:=by rw [J8 _ _ hlt]
  rw [e1]
  have g1:((Hp.set o (pr l (Dd S))++[A0,A1,xo true t []])++own)[o]? = some (pr l (Dd S)):=Ag (Ag (getset ho))
  have g2:((Hp.set o (pr l (Dd S))++[A0,A1,xo true t []])++own)[oid Hp.length 2]? = some (xo true t []):=Ag (by
   have:=Bd (U:=Hp.set o (pr l (Dd S))) (O:=[A0,A1,xo true t []]) (n:=2)
   rw [Cy] at this
   exact this)
  refine (AHi l (Dd S) t Dv o (oid Hp.length 2) _ hoid g1 g2 hi hl hll (hd.ei h30).1 (hd.ei h30).2).mono fun r H' h=>⟨h.1,h.2.trans ?_⟩
  rw [Bo,J8 _ _ (by simpa using hlt),D8]
  have:=Fs (U:=Hp.set o (pr l (Hu l Dv.ei (Dd S)).2)) (O:=[A0,A1,xo true t []]++own) (n:=2) (x:=xo true t (Hu l Dv.ei (Dd S)).1)
  rw [Cy] at this
  rw [this]
  simp
 have e:Sg l a Dv.ei S=((Hu l Dv.ei (Dd S)).1,Xr (Hu l Dv.ei (Dd S)).2):=if_neg (by
  show ¬(((S.nest:Int)==30)=true)
  simp
  omega)
 rw [e,if_neg h30]
 obtain ⟨h1,h2⟩:=h.2 h30
 exact ⟨h1,by rw [h2,J8 _ _ (by simpa using hlt),D8]⟩
theorem AHj (l:List Tok) (S:PS) (Dv:Fam) (t:Tok) (o:Nat) (Hp:List AObj) (ho:Hp[o]? = some (pr l S)) (hi:(Ai S).i<l.length) (hl:TokEnd l) (hll:l.length≤1048576) (hnl:S.nest≤30) (hd:DeepC l Dv S.nest):ACall Tryz.prog 349 [.ptr o 0,Jy t] Hp (fun r H'=>r=Ac (Hv l Dv t S).1∧H'=Hp.set o (pr l (Hv l Dv t S).2)):=by
 have hi0:S.i<l.length:=by have:S.i+1<l.length:=hi;omega
 have hol:=(Ab.1 ho).1
 have hkf:KFact l (Ai S) (Do l Dv S):=V8 hl _ hi (fun h=>(hd.ei h).1)
 refine Ah [.cell 4 26] [0,1] Tryz.func349 Tryz.ntmps349 (fun d=>?_)
 refine Z1 ?_;refine O6 ?_;refine A2 [2,3,4] ?_;refine Z1 ?_;refine A9 Tryz.call126 (ABq t.text _) ?_;refine A5 ?_;refine A2 [2,3,4,5] ?_;refine Z29 ?_;refine A2 [2,3,4,5,12] ?_
 refine A3 (fun ht12=>?_) (fun ht12=>?_)
 ·have hlt0:C4 t.text<0:=by simpa using ht12
  have e:Hv l Dv t S=(B4,E8 9 t.at_ S):=if_pos hlt0
  refine Z13 ?_;refine D9 Tryz.call116 ho (by simp) D4 (oi l S 9 t.at_ o _ (Ag ho)) ?_;refine H9 ?_;refine Z23 ?_;exact Z66
 have hge:¬C4 t.text<0:=by simpa using ht12
 refine Z96 ?_;refine D9 Tryz.call204 ho (by simp) D4 (ux l S o _ (Ag ho) hi0 hll) ?_;refine Z18 ?_;refine A2 [2,3,4,5,6] ?_;refine AB7 ?_;refine Z18 ?_;refine A2 [2,3,4,5,6,7] ?_;refine E5 ?_;refine Ow 2 5 6 ?_;refine Z28 ?_;refine I3 ?_
 refine I4 (up':=(Hp.set o (pr l (Ai S))).set o (pr l (Do l Dv S).2)) (own':=[Kw,.cells 113 [A4 (Af l S.i).kind,Ad (Af l S.i).text,A4 (Af l S.i).at_],xo true t.text (Do l Dv S).1]) Tryz.call256 (by have:=AFa l (Ai S) (Af l S.i).at_ t.text Dv o (Hp.set o (pr l (Ai S))) Kw (.cells 113 [A4 (Af l S.i).kind,Ad (Af l S.i).text,A4 (Af l S.i).at_]) l5 (getset ho) hi hl hll hnl hd;rw [Cy] at this;exact this) (by simp) (fun h=>ze h D4) ?_
 refine A2 [2,3,4,5,7] ?_;refine Z2 ?_;refine D9 Tryz.call350 (getset (getset ho)) (by simp) D4 (AEv l (Do l Dv S).2 Fa o _ (Ag (getset (getset ho))) hkf.lt hll) ?_;refine A2 [2,3,4,5,7] ?_;refine Z55 ?_
 refine A5 (h:=Bw (getset (getset (getset ho)))) (hr:=?_)
 refine Z59 ?_;refine Wh ?_;refine A2 [2,3,4,7,41] ?_
 refine A3 (fun ht41=>?_) (fun ht41=>?_)
 ·have e:Hv l Dv t S=(B4,E8 8 t.at_ (Fe l Fa (Do l Dv S).2)):=by
   unfold Hv
   rw [if_neg hge,if_pos (by have:=ht41;simp only [Aw] at this;exact this)]
  refine Z13 ?_;refine D9 Tryz.call116 (getset (getset (getset ho))) (by simp) D4 (oi l (Fe l Fa (Do l Dv S).2) 8 t.at_ o _ (Ag (getset (getset (getset ho))))) ?_;refine H9 ?_;refine Z23 ?_;refine Bz ?_;exact A8 (Aj (B8 jA jS)) ⟨by rw [e,Am],by rw [e,D8,D8,D8]⟩ (hlow:=low_agg _)
 have e:Hv l Dv t S=(.mk 6 t.text noV (Do l Dv S).1,(Fe l Fa (Do l Dv S).2)):=by
  unfold Hv
  rw [if_neg hge,if_neg (by have:=ht41;simp only [Aw] at this;rw [Ko] at this;exact this)]
 refine Z96 ?_;refine H9 ?_;refine Z23 ?_;exact A8 (Aj (B8 jA jS)) ⟨by rw [e,ai];rfl,by rw [e,D8,D8]⟩ (hlow:=by have:=As Hp.length (.mk 6 t.text noV (Do l Dv S).1);rw [ai] at this;simpa using this)

theorem pl {l:List Tok} (hl:TokEnd l) (hll:l.length≤1048576) (n:Nat) (Dv:Fam) (hn:n≤30) (hd:DeepC l Dv n):da l Dv n:=fun o Hp S t ho hi hS _ _=>by
 subst hS
 exact AHj l S Dv t o Hp ho hi hl hll hn hd
/-! fuse.Forth and plan.Text. -/
theorem K5 {c:List Col} {m:Mov} (h:(Bb c m).2=0):(Bb c m).1=D3 c m.take++B7 c m∧E6 c=true∧E6 (Bb c m).1=true:=by
 unfold Bb at h ⊢
 split at h
 ·rename_i h1
  exact absurd h (by simpa using h1)
 rename_i h1
 rw [if_neg h1]
 split at h
 ·rename_i h2
  exact absurd h (by simpa using h2)
 rename_i h2
 rw [if_neg h2]
 split at h
 ·rename_i h3
  exact absurd h (by simpa using h3)
 rename_i h3
 rw [if_neg h3]
 obtain ⟨a,_,b,d,e⟩:=z8 (by simpa using h1:(D6 c m.take (B7 c m)).2=0)
 rw [e]
 refine ⟨rfl,a,?_⟩
 unfold E6
 rw [b,Ti]
 refine decide_eq_true ?_
 show ((D3 c m.take++B7 c m).length:Int)≤12
 omega
/-! The text. -/
/-! ONE LINE EACH. -/
theorem ja {c:List Col} {ms:List Mov} (he:(Dh c ms).2=0):∀k,k≤ms.length→NS c ms k
 | 0,_=>AF8
 | k+1,h=>by
  have ih:=ja he k (by omega)
  have hk:ms[k]? = some ms[k]:=Aa (by omega)
  by_cases ht:(Bb (colsAt c ms k) ms[k]).2=0
  ·exact lj hk ih ht
  exact absurd ((j5 hk ih ht).symm.trans he) ht
theorem O3 {c:List Col} {ms:List Mov} (he:(Dh c ms).2=0) {k:Nat} {m:Mov} (hk:ms[k]? = some m):(Bb (colsAt c ms k) m).2=0:=by
 have hl:=(Ab.1 hk).1
 by_cases ht:(Bb (colsAt c ms k) m).2=0
 ·exact ht
 exact absurd ((j5 hk (ja he k (by omega)) ht).symm.trans he) ht
theorem Ni {c:List Col} {ms:List Mov}:∀{n k:Nat},k≤n→(Cv c ms n)[k]? = some (colsAt c ms k)
 | 0,k,h=>by
  have:k=0:=by omega
  subst this;rfl
 | n+1,k,h=>by
  have hl:=L8 c ms n
  rw [Cv]
  by_cases e:k=n+1
  ·subst e
   rw [Ck (by omega),hl,Kd]
   rfl
  rw [Cg (by omega)]
  exact Ni (by omega)
theorem Lf {c:List Col} {ms:List Mov} (h:Rl c ms=true):∀m∈ms,Hm m=true:=by
 unfold Rl ou at h
 simp only [Ao,At] at h
 exact h.2.2
/-- What a sound migration comes to. -/
theorem H4 {c:List Col} {ms:List Mov} (h:((Db c ms).2 != 0)=false):Rl c ms=true∧(Dh c ms).2=0∧Db c ms=(Cv c ms ms.length,0):=by
 cases hm:Rl c ms with
 | false=>rw [Y0 hm] at h;cases h
 | true =>
  by_cases he:(Dh c ms).2=0
  ·have e:=vu (ja he ms.length (Ae _))
   exact ⟨rfl,he,Y1 hm e⟩
  rw [Vh hm he] at h
  exact absurd (by simpa using h) he
/-! SoundJoins: one behind the other, in one. -/
/-! image: rows forth and back. -/
/-- image.reckon. -/
def Au (c:List Col) (row:List Val):List Expr→List Val×Int
 | []=>([],0)
 | x::r=>if (Dt x c row).2 != 0 then ([],(Dt x c row).2) else if (Au c row r).2 != 0 then ([],(Au c row r).2) else ((Dt x c row).1::(Au c row r).1,0)
theorem Vq {c:List Col} {row:List Val}:∀{l:List Expr},(∀(j:Nat) (y:Expr),l[j]? = some y→((Dt y c row).2 != 0)=false)→Au c row l=(l.map (fun e=>(Dt e c row).1),0)
 | [],_=>rfl
 | x::r,h=>by
  rw [Au,Vq (l:=r) (fun j y hy=>h (j+1) y hy),if_neg (by rw [h 0 x rfl];simp),if_neg (by simp)]
  rfl
theorem Vr {c:List Col} {row:List Val}:∀{l:List Expr} {x:Nat} {y:Expr},(∀(j:Nat) (z:Expr),j<x→l[j]? = some z→((Dt z c row).2 != 0)=false)→l[x]? = some y→((Dt y c row).2 != 0)=true→Au c row l=([],(Dt y c row).2)
 | [],_,_,_,h,_=>by simp at h
 | a::r,0,y,_,h,h1=>by
  have:a=y:=by simpa using h
  subst this
  rw [Au,if_pos h1]
 | a::r,x+1,y,h0,h,h1=>by
  rw [Au,if_neg (by rw [h0 0 a (by omega) rfl];simp),Vr (l:=r) (x:=x) (fun j z hj hz=>h0 (j+1) z (by omega) hz) (by simpa using h) h1,if_pos h1]
theorem pm {e:Expr} (h:Es e=true):Lc e=true:=by
 unfold Lc
 rw [ct] at h
 cases hk:(e.op==1) with
 | false=>rfl
 | true =>
  show Dm e.val=true
  have e1:e.op=1:=by simpa using hk
  cases e with
  | mk o t v k =>
   have e1:o=1:=e1
   subst e1
   rw [Vc] at h
   simp at h
   exact h.1.1.1
mutual
theorem du:∀e:Expr,Et Es e=true→Et Lc e=true
 | .mk o t v k,h=>by
  rw [Nz,Ao] at h ⊢
  exact ⟨pm h.1,Y4 k h.2⟩
theorem Y4:∀k:List Expr,N7 Es k=true→N7 Lc k=true
 | [],_=>rfl
 | e::r,h=>by
  rw [N7,Ao] at h ⊢
  exact ⟨du e h.1,Y4 r h.2⟩
end
theorem wc {x:Expr} {c:List Col} {row:List Val} (hf:∀v∈row,Fine v) (hr:Et M1 x=true):Fine (Dt x c row).1:=by
 show Fine (Y2 B0 x c row).1
 unfold Y2
 split
 ·exact Km
 rename_i h
 simp only [Dj,Hz,not_or,Tk] at h
 exact Rp hf x (du x (j9 (by rw [←Py];exact h.1))) hr
theorem Nj {c:List Col} {row:List Val} (hf:∀v∈row,Fine v):∀{l:List Expr},(∀e∈l,Et M1 e=true)→∀v∈(Au c row l).1,Fine v
 | [],_,v,h=>by cases h
 | x::r,hr,v,h=>by
  rw [Au] at h
  split at h
  ·cases h
  split at h
  ·cases h
  rcases Bg.1 h with rfl|h
  ·exact wc hf (hr x K6)
  exact Nj hf (fun e he=>hr e (.tail _ he)) v h
theorem M5 {c:List Col} {row:List Val}:∀{l:List Expr},(Au c row l).2=0→(Au c row l).1.length=l.length
 | [],_=>rfl
 | x::r,h=>by
  rw [Au] at h ⊢
  split at h
  ·rename_i h1
   rw [show (Dt x c row).2=0 from h] at h1
   cases h1
  rename_i h1
  rw [if_neg h1]
  split at h
  ·rename_i h2
   rw [show (Au c row r).2=0 from h] at h2
   cases h2
  rename_i h2
  rw [if_neg h2]
  simp only [Bh]
  rw [M5 (l:=r) (by simpa using h2)]
/-- What is not taken. -/
def E3 (take:List Str) (c:List Col) (row:List Val):List Val:=((c.zip row).filter fun p => !take.contains p.1.name).map (·.2)
theorem Vs:∀{c:List Col} {row:List Val} {x:Nat} (hc:x<c.length) (hr:x<row.length),(c.take (x+1)).zip row=(c.take x).zip row++[(c[x],row[x])]
 | y::c,v::row,0,_,_=>by simp
 | y::c,v::row,x+1,hc,hr=>by
  simp only [List.take_succ_cons,List.zip_cons_cons,Ef,List.getElem_cons_succ]
  rw [Vs (by simpa using hc) (by simpa using hr)]
 | [],_,_,hc,_=>by simp at hc
 | _::_,[],_,_,hr=>by simp at hr
theorem zz {take:List Str} {c:List Col} {row:List Val} {x:Nat} (hc:x<c.length) (hr:x<row.length) (h:take.contains c[x].name=false):E3 take (c.take (x+1)) row=E3 take (c.take x) row++[row[x]]:=by
 unfold E3
 have hb:(fun p:Col×Val => !take.contains p.1.name) (c[x],row[x])=true:=by show (!take.contains c[x].name)=true;rw [h];rfl
 rw [Vs hc hr,Yj,C8,List.filter_cons_of_pos (p:=fun p:Col×Val => !take.contains p.1.name) hb]
 rfl
theorem wd {take:List Str} {c:List Col} {row:List Val} {x:Nat} (hc:x<c.length) (hr:x<row.length) (h:take.contains c[x].name=true):E3 take (c.take (x+1)) row=E3 take (c.take x) row:=by
 unfold E3
 have hb:¬(fun p:Col×Val => !take.contains p.1.name) (c[x],row[x])=true:=by show ¬(!take.contains c[x].name)=true;rw [h];simp
 rw [Vs hc hr,Yj,C8,List.filter_cons_of_neg (p:=fun p:Col×Val => !take.contains p.1.name) hb]
 simp
theorem Nk {take:List Str}:∀{c:List Col} {row:List Val},row.length=c.length→(E3 take c row).length=(D3 c take).length
 | [],[],_=>rfl
 | y::c,v::row,h=>by
  have ih:=Nk (take:=take) (c:=c) (row:=row) (by simpa using h)
  unfold E3 D3 at ih ⊢
  rw [List.zip_cons_cons,Lk,Lk]
  cases hc:take.contains y.name<;>simp [hc] at ih ⊢<;>exact ih
 | [],_::_,h=>by simp at h
 | _::_,[],h=>by simp at h
theorem we {take:List Str} {c:List Col} {row:List Val} {v:Val} (h:v∈E3 take c row):v∈row:=by
 unfold E3 at h
 obtain ⟨p,hp,rfl⟩:=C1.1 h
 exact (Yp (T3.1 hp).1).2
/-- image.forth. -/
def Bn (c:List Col) (m:Mov) (row:List Val):List Val×Int:=if (Au c row m.ahead).2 != 0 then ([],(Au c row m.ahead).2) else (E3 m.take c row++(Au c row m.ahead).1,0)
/-- What a column ahead was. -/
def Qc (take:List Str) (was row:List Val) (d:List Col) (x:Col):Val:=if 0≤J2 x.name take then was.getD (J2 x.name take).toNat noV else row.getD (Be x.name d).toNat noV
/-- image.back. -/
def C0 (a d:List Col) (m:Mov) (row:List Val):List Val×Int:=if (Au d row m.back).2 != 0 then ([],(Au d row m.back).2) else (a.map (Qc m.take (Au d row m.back).1 row d),0)
/-- The row behind k moves. -/
def fwM (c:List Col) (l:List Mov) (row:List Val):Nat→List Val×Int
 | 0=>(row,0)
 | k+1=>if (fwM c l row k).2 != 0 then ([],(fwM c l row k).2) else match l[k]? with
  | none=>fwM c l row k
  | some m=>Bn (colsAt c l k) m (fwM c l row k).1
/-- The row ahead of the last k moves. -/
def bkM (c:List Col) (l:List Mov) (row:List Val):Nat→List Val×Int
 | 0=>(row,0)
 | k+1=>if (bkM c l row k).2 != 0 then ([],(bkM c l row k).2) else match l[l.length-1-k]? with
  | none=>bkM c l row k
  | some m=>C0 (colsAt c l (l.length-1-k)) (colsAt c l (l.length-1-k+1)) m (bkM c l row k).1
/-- image.Forth. -/
def Bq (c:List Col) (l:List Mov) (row:List Val):List Val×Int:=if ((Db c l).2 != 0) || !F3 c row then ([],1) else fwM c l row l.length
/-- image.Back. -/
def Dx (c:List Col) (l:List Mov) (row:List Val):List Val×Int:=if ((Db c l).2 != 0) || !F3 (colsAt c l l.length) row then ([],1) else bkM c l row l.length
/-- image.Old. -/
def Wx (c:List Col) (l:List Mov) (row:List Val):List Val×Int:=if (Dx c l row).2 != 0 then ([],(Dx c l row).2) else if (Bq c l (Dx c l row).1).2 != 0 then ([],(Bq c l (Dx c l row).1).2) else if !decide ((Bq c l (Dx c l row).1).1=row) then ([],14) else ((Dx c l row).1,0)
/-- image.Faithful. -/
def Vt (c:List Col) (l:List Mov) (row:List Val):Bool:=if (Bq c l row).2 != 0 then false else ((Dx c l (Bq c l row).1).2==0)&&decide ((Dx c l (Bq c l row).1).1=row)
/-- A row that may be walked: as long as its columns are many, its values fine. -/
structure RowI (c:List Col) (row:List Val):Prop where
 len:row.length=c.length
 fine:∀v∈row,Fine v
theorem Nl {c:List Col} {row:List Val} (h:F3 c row=true) (hr:∀v∈row, -9223372036854775808≤v.n∧v.n≤9223372036854775807):RowI c row:=by
 unfold F3 at h
 simp only [Ao,beq_iff_eq,At] at h
 refine ⟨h.1.2,fun v hv=>⟨?_,(hr v hv).1,(hr v hv).2⟩⟩
 obtain ⟨j,hj,rfl⟩:=Qs hv
 have hj2:j<c.length:=by omega
 have:=h.2 (row[j],c[j]) (Ar (i:=j) (by rw [Qr];exact ⟨Aa hj,Aa hj2⟩))
 exact this.1
theorem Rr {c:List Col} {m:Mov} {row:List Val} (ht:(Bb c m).2=0) (hm:Hm m=true) (hg:∀e∈m.ahead,Et M1 e=true) (h:RowI c row) (hf:(Bn c m row).2=0):RowI (Bb c m).1 (Bn c m row).1:=by
 unfold Bn at hf ⊢
 split at hf
 ·rename_i h1
  rw [show (Au c row m.ahead).2=0 from hf] at h1
  cases h1
 rename_i h1
 rw [if_neg h1]
 have hl:=M5 (c:=c) (row:=row) (l:=m.ahead) (by simpa using h1)
 refine ⟨?_,fun v hv=>?_⟩
 ·rw [(K5 ht).1,Ap,Ap,Nk h.len,hl,Jh,(Ib (Rm hm)).1]
 rcases Dp.1 hv with h2|h2
 ·exact h.fine v (we h2)
 exact Nj h.fine hg v h2
theorem Y5 {row:List Val} (h:∀v∈row,Fine v) (n:Nat):Fine (row.getD n noV):=by
 rw [Cz]
 cases hn:row[n]? with
 | none=>exact Km
 | some v=>exact h v (Ar hn)
theorem wg {a d:List Col} {m:Mov} {row:List Val} (hg:∀e∈m.back,Et M1 e=true) (h:RowI d row) (hf:(C0 a d m row).2=0):RowI a (C0 a d m row).1:=by
 unfold C0 at hf ⊢
 split at hf
 ·rename_i h1
  rw [show (Au d row m.back).2=0 from hf] at h1
  cases h1
 rename_i h1
 rw [if_neg h1]
 refine ⟨Aw _,fun v hv=>?_⟩
 obtain ⟨x,_,rfl⟩:=C1.1 hv
 unfold Qc
 split
 ·exact Y5 (Nj h.fine hg) _
 exact Y5 h.fine _
theorem O4 {c:List Col} {l:List Mov} {row:List Val} {k:Nat} {m:Mov} (hk:l[k]? = some m) (h:(fwM c l row k).2=0):fwM c l row (k+1)=Bn (colsAt c l k) m (fwM c l row k).1:=by
 rw [fwM,if_neg (by rw [h];simp),hk]
theorem Qd {c:List Col} {l:List Mov} {row:List Val} {k:Nat} {m:Mov} (hk:l[l.length-1-k]? = some m) (h:(bkM c l row k).2=0):bkM c l row (k+1)=C0 (colsAt c l (l.length-1-k)) (colsAt c l (l.length-1-k+1)) m (bkM c l row k).1:=by
 rw [bkM,if_neg (by rw [h];simp),hk]
theorem am {c:List Col} {l:List Mov} {row:List Val} {k:Nat} (h:(fwM c l row k).2≠0):∀n,k<n→fwM c l row n=([],(fwM c l row k).2)
 | 0,hn=>by omega
 | n+1,hn=>by
  by_cases hk:k=n
  ·subst hk
   rw [fwM,if_pos (by simpa using h)]
  rw [fwM,am h n (by omega),if_pos (by simpa using h)]
theorem jb {c:List Col} {l:List Mov} {row:List Val} {k:Nat} (h:(bkM c l row k).2≠0):∀n,k<n→bkM c l row n=([],(bkM c l row k).2)
 | 0,hn=>by omega
 | n+1,hn=>by
  by_cases hk:k=n
  ·subst hk
   rw [bkM,if_pos (by simpa using h)]
  rw [bkM,jb h n (by omega),if_pos (by simpa using h)]
theorem jc {c:List Col} {m:Mov} {row:List Val} (h:(Bn c m row).2≠0):(Bn c m row).1=[]:=by
 unfold Bn at h ⊢
 split
 ·rfl
 rename_i h1
 rw [if_neg h1] at h
 exact absurd rfl h
theorem Y6 {a d:List Col} {m:Mov} {row:List Val} (h:(C0 a d m row).2≠0):(C0 a d m row).1=[]:=by
 unfold C0 at h ⊢
 split
 ·rfl
 rename_i h1
 rw [if_neg h1] at h
 exact absurd rfl h
/-- A failing move ends it. -/
theorem AA0 {c:List Col} {l:List Mov} {row:List Val} {k:Nat} {m:Mov} (hk:l[k]? = some m) (h:(fwM c l row k).2=0) (hb:(Bn (colsAt c l k) m (fwM c l row k).1).2≠0):fwM c l row l.length=([],(Bn (colsAt c l k) m (fwM c l row k).1).2):=by
 have e:=O4 hk h
 have hl:=(Ab.1 hk).1
 by_cases h1:k+1=l.length
 ·rw [←h1,e]
  exact Lo (jc hb) rfl
 have:=am (c:=c) (l:=l) (row:=row) (k:=k+1) (by rw [e];exact hb) l.length (by omega)
 rw [this,e]
theorem AA1 {c:List Col} {l:List Mov} {row:List Val} {k:Nat} {m:Mov} (hl:k<l.length) (hk:l[l.length-1-k]? = some m) (h:(bkM c l row k).2=0) (hb:(C0 (colsAt c l (l.length-1-k)) (colsAt c l (l.length-1-k+1)) m (bkM c l row k).1).2≠0):bkM c l row l.length=([],(C0 (colsAt c l (l.length-1-k)) (colsAt c l (l.length-1-k+1)) m (bkM c l row k).1).2):=by
 have e:=Qd hk h
 by_cases h1:k+1=l.length
 ·rw [h1] at e
  rw [e]
  exact Lo (Y6 hb) rfl
 have:=jb (c:=c) (l:=l) (row:=row) (k:=k+1) (by rw [e];exact hb) l.length (by omega)
 rw [this,e]
abbrev Rt (r:Rs):AV:=.tup [Ba r.1,A4 r.2]
abbrev ln (l:List Int):AV:=.slice false 1 (l.map A4)
abbrev Vu (c:List Col) (l:List Val):AV:=.agg [Aq c,Br l]
theorem c43 (e:Int) (Hp:List AObj):AFun Tryz.prog 43 [A4 e] Hp (Rt (Cw e)):=by
 refine Ah [.cell 2 23,.tmp 3] [0] Tryz.func43 Tryz.ntmps43 (fun d=>?_)
 refine bv ?_;refine A2 [0,2] ?_;refine ABf ?_;refine A5 ?_;refine Ss ?_;exact A8 (B9 (B8 jA jS) A6)

theorem c175 (n e:Int) (Hp:List AObj):AFun Tryz.prog 175 [A4 n,A4 e] Hp (Rt (H3 (n,e))):=by
 refine Ah [.cell 4 23,.tmp 5] [0,1] Tryz.func175 Tryz.ntmps175 (fun d=>?_)
 refine bv ?_;refine A2 [0,1,4] ?_;refine Z29 ?_;refine A2 [0,1,4,7] ?_
 refine A3 (fun ht7=>?_) (fun ht7=>?_)
 ·have hw:H3 (n,e)=Cw e:=if_pos ht7
  refine Z2 ?_;refine Z43 ?_;refine Z36 ?_;refine Bz ?_;exact AE9
 have hw:H3 (n,e)=(⟨1,n,[]⟩,0):=if_neg (by rw [ht7];simp)
 refine Z96 ?_;refine A9 Tryz.call221 (ABs _ _) ?_;refine Z36 ?_;exact AE9

theorem dv {vs:List Val} {ks:List Int} (hl:ks.length≤vs.length) {x:Nat} (hk:x<ks.length) (hx:D5 vs ks=D5 (vs.drop x) (ks.drop x)):D5 vs ks=((vs[x].kind==ks[x])&&D5 (vs.drop (x+1)) (ks.drop (x+1))):=by
 rw [hx,Ha hk,Ha (show x<vs.length by omega),D5]
theorem wh (vs:List Val) (ks:List Int) (hks:ks.length≤vs.length) (hk2:ks.length≤1048576) (Hp:List AObj):AFun Tryz.prog 174 [Br vs,ln ks] Hp (Bm (D5 vs ks)):=by
 refine Ah [.tmp 4] [0,1] Tryz.func174 Tryz.ntmps174 (fun d=>?_)
 refine Z53 ?_;refine Z32 ?_;refine A2 [0,7,8,9] ?_
 refine D7 (α:=Nat) (fun x=>⟨22,A7 0 (Br vs) (A7 7 (ln ks) (A7 8 (A4 (ks.length:Nat)) (A7 9 (A4 (x:Nat)) (fun _=>.any)))),Hp,[],[],none⟩) (fun x=>x≤ks.length∧D5 vs ks=D5 (vs.drop x) (ks.drop x)) (fun x=>ks.length-x) (0) ⟨Av _,rfl⟩ (Cp (by simp)) rfl (fun x hx=>?_)
 refine Z2 ?_;refine A2 [0,7,8,9,10] ?_
 refine Dl (fun ht10=>?_) (fun ht10=>?_)
 ·have hlt:x<ks.length:=by simpa using ht10
  have hls:x<vs.length:=by omega
  have hst:=dv hks hlt hx.2
  refine Z83 ?_
  refine A5 (h:=Ak (x) (A4 ks[x]) (fun _=>Bk hlt)) (hr:=?_)
  refine Z28 ?_;refine A2 [0,5,6,7,8,9] ?_;refine Z1 ?_
  refine A5 (h:=Ak (x) (Ba vs[x]) (fun _=>Bk hls)) (hr:=?_)
  refine Z74 ?_;refine A2 [0,7,8,9,20] ?_
  refine A3 (fun ht20=>?_) (fun ht20=>?_)
  ·have hm:D5 vs ks=false:=by rw [hst];simp only [bne_iff_ne,ne_eq] at ht20;simp [ht20]
   refine Z73 ?_;exact gc
  have hn:D5 vs ks=D5 (vs.drop (x+1)) (ks.drop (x+1)):=by rw [hst];simp only [bne_eq_false_iff_eq] at ht20;simp [ht20]
  refine Z58 ?_;refine A2 [0,7,8,9] ?_;exact ADd
 have hxe:ks.length≤x:=by simpa using ht10
 have hm:D5 vs ks=true:=by rw [hx.2,ew hxe];cases vs.drop x<;>rfl
 refine Z33 ?_;exact Z99

theorem AHk (t:Str) (c:Int) (Hp:List AObj):AFun Tryz.prog 217 [Ad t,A4 c] Hp (.tup [Bm (H8 t c).1,Bm (H8 t c).2]):=by
 refine Ah [.tmp 4,.tmp 5] [0,1] Tryz.func217 Tryz.ntmps217 (fun d=>?_)
 refine gb ?_;refine Z35 ?_;refine A2 [1,6] ?_;refine Z92 ?_;refine A2 [1,6,7] ?_
 refine A3 (fun ht7=>?_) (fun ht7=>?_)
 ·exact n5
 refine Z1 ?_;refine A2 [1,6,11] ?_
 refine A3 (fun ht11=>?_) (fun ht11=>?_)
 ·exact n5
 refine Z1 ?_;refine A2 [1,6,15] ?_
 refine A3 (fun ht15=>?_) (fun ht15=>?_)
 ·exact n5
 refine Z1 ?_;refine A2 [1,6,19] ?_
 refine A3 (fun ht19=>?_) (fun ht19=>?_)
 ·exact n5
 refine Z1 ?_;refine A2 [1,6,23] ?_
 refine A3 (fun ht23=>?_) (fun ht23=>?_)
 ·exact n5
 refine Z1 ?_;refine A2 [1,27] ?_
 refine A3 (fun ht27=>?_) (fun ht27=>?_)
 ·exact n5
 refine Z17 ?_;refine Z95 ?_;exact AEa

theorem AFb (a b:Int) (Hp:List AObj):AFun Tryz.prog 222 [A4 a,A4 b] Hp (.tup [A4 (M3 a b).1,A4 (M3 a b).2]):=by
 refine Ah [.tmp 4,.tmp 5] [0,1] Tryz.func222 Tryz.ntmps222 (fun d=>?_)
 refine gb ?_;refine Z1 ?_
 refine A5 (h:=Q.sub) (hr:=?_)
 refine A5 ?_;refine A2 [0,1,6] ?_;refine Z29 ?_;refine R.xor ?_;refine Z0 ?_;refine R.xor ?_;refine R.and ?_;refine A5 ?_;refine A2 [6,17] ?_
 refine A3 (fun ht17=>?_) (fun ht17=>?_)
 ·have hm:M3 a b=(0,4):=if_pos ht17
  refine Z95 ?_;exact ADn
 have hm:M3 a b=(IntKind.i64.wrap (a-b),0):=if_neg (by rw [ht17];simp)
 refine Su ?_;exact ABc

theorem AHl (a b:Int) (Hp:List AObj):AFun Tryz.prog 273 [A4 a,A4 b] Hp (.tup [A4 (j7 a b).1,A4 (j7 a b).2]):=by
 refine Ah [.tmp 4,.tmp 5] [0,1] Tryz.func273 Tryz.ntmps273 (fun d=>?_)
 refine gb ?_;refine Z1 ?_
 refine A5 (h:=Q.add) (hr:=?_)
 refine A5 ?_;refine A2 [0,1,6] ?_;refine Z29 ?_;refine R.xor ?_;refine Z0 ?_;refine R.xor ?_;refine R.and ?_;refine A5 ?_;refine A2 [6,17] ?_
 refine A3 (fun ht17=>?_) (fun ht17=>?_)
 ·have hm:j7 a b=(0,4):=if_pos ht17
  refine Z95 ?_;exact ADn
 have hm:j7 a b=(IntKind.i64.wrap (a+b),0):=if_neg (by rw [ht17];simp)
 refine Su ?_;exact ABc

theorem AHm (a:Int) (Hp:List AObj):AFun Tryz.prog 176 [A4 a] Hp (.tup [A4 (M3 0 a).1,A4 (M3 0 a).2]):=by
 refine Ah [.tmp 2,.tmp 3] [0] Tryz.func176 Tryz.ntmps176 (fun d=>?_)
 refine Z1 ?_;refine A2 [0] ?_;refine Z2 ?_;refine A9 Tryz.call222 (AFb _ _ _) ?_;refine Z74 ?_;refine Z42 ?_;exact A8 (B9 A6 A6)

theorem AFc (a:Int) (Hp:List AObj):AFun Tryz.prog 305 [A4 a] Hp (tc (Si a)):=by
 refine Ah [.tmp 2] [0] Tryz.func305 Tryz.ntmps305 (fun d=>?_)
 refine Z46 ?_;refine Z29 ?_;refine A2 [0,4] ?_
 refine A3 (fun ht4=>?_) (fun ht4=>?_)
 ·have hm:Si a=IntKind.u64.wrap (0-IntKind.u64.wrap a):=if_pos ht4
  refine Z19 ?_;refine Z4 ?_;exact Z27
 have hm:Si a=IntKind.u64.wrap a:=if_neg (by rw [ht4];simp)
 refine Su ?_;exact ADu

theorem ACl (n:Int):0≤IntKind.u64.wrap n∧IntKind.u64.wrap n<18446744073709551616:=by rw [IntKind.wrap_u64];omega
theorem wi (a:Int):0≤Si a∧Si a<18446744073709551616:=by
 unfold Si
 split<;>exact ACl _
theorem AHn (x y:Int) (hx:0≤x∧x<18446744073709551616) (hy:0≤y∧y<18446744073709551616) (Hp:List AObj):AFun Tryz.prog 304 [tc x,tc y] Hp (.tup [tc (x*y / 18446744073709551616),tc (x*y % 18446744073709551616)]):=by
 obtain ⟨m,rfl⟩:=er hx.1
 obtain ⟨n,rfl⟩:=er hy.1
 refine Kg (xs:=[.int .u64 m,.int .u64 n]) (v:=.tuple #[.int .u64 ((m*n / 18446744073709551616:Nat):Int),.int .u64 ((m*n % 18446744073709551616:Nat):Int)]) (fun G w=>Lq rfl (fun i y u hy hu=>?_)) (fun w hg=>?_)
 ·match i with
  | 0=>simp at hy hu;subst hy;subst hu;exact .v _ _
  | 1=>simp at hy hu;subst hy;subst hu;exact .v _ _
  | i+2=>simp at hy
 refine (Any.bits_Mul64 Tryz.lays264 m n (by omega) (by omega) w).mono ?_
 rintro e w' ⟨rfl,rfl⟩
 exact ⟨rfl,Go.RowKit.Below.refl _ _⟩
theorem AHo (s t:Str) (Hp:List AObj):AFun Tryz.prog 272 [Ad s,Ad t] Hp (A4 (Lib.compareBytes s t)):=by
 refine Kg (xs:=[sv s,sv t]) (v:=.int .i64 (Lib.compareBytes s t)) (fun G w=>.v _ _) (fun w hg=>?_)
 refine (Any.strings_Compare Tryz.lays106 ⟨s.toArray⟩ ⟨t.toArray⟩ w).mono ?_
 rintro e w' ⟨rfl,rfl⟩
 exact ⟨rfl,Go.RowKit.Below.refl _ _⟩
theorem AHp (a b:Int) (Hp:List AObj):AFun Tryz.prog 274 [A4 a,A4 b] Hp (.tup [A4 (Vk a b).1,A4 (Vk a b).2]):=by
 refine Ah [.tmp 4,.tmp 5] [0,1] Tryz.func274 Tryz.ntmps274 (fun d=>?_)
 refine gb ?_;refine Z2 ?_;refine A9 Tryz.call305 (AFc _ _) ?_;refine A5 ?_;refine A9 Tryz.call305 (AFc _ _) ?_;refine A9 Tryz.call304 (AHn _ _ (wi a) (wi b) _) ?_;refine Z63 ?_;refine A2 [0,1,6,7] ?_;refine Z19 ?_;refine Z0 ?_;refine A2 [6,7,8] ?_;refine Z2 ?_;refine A2 [6,7,8,9] ?_;refine Z35 ?_;refine A2 [6,7,8,9,23] ?_
 refine A3 (fun ht23=>?_) (fun ht23=>?_)
 ·refine Z77 ?_
  refine A5 (h:=Q.add) (hr:=?_)
  refine A5 ?_;refine A2 [6,7,8,9] ?_;refine Gm ?_;refine Zl ?_;refine Z85 ?_;refine A2 [7,8,26] ?_
  refine A3 (fun ht26=>?_) (fun ht26=>?_)
  ·refine Z95 ?_;refine Z5 ?_
   exact A8 (B9 A6 A6) ⟨by
    have w1:IntKind.u64.wrap 9223372036854775808=9223372036854775808:=rfl
    simp_all [Vk]
    try first|(rw [if_pos ht26];simp;done)|(rw [if_neg (by omega)];simp;done),rfl⟩
  refine Z1 ?_;refine A2 [7,34] ?_
  refine A3 (fun ht34=>?_) (fun ht34=>?_)
  ·refine Z19 ?_;refine n8 ?_;refine Z5 ?_
   exact A8 (B9 A6 A6) ⟨by
    have w1:IntKind.u64.wrap 9223372036854775808=9223372036854775808:=rfl
    simp_all [Vk]
    try first|(rw [if_pos ht26];simp;done)|(rw [if_neg (by omega)];simp;done),rfl⟩
  refine Z17 ?_;refine xq ?_
  exact A8 (B9 A6 A6) ⟨by
   have w1:IntKind.u64.wrap 9223372036854775808=9223372036854775808:=rfl
   simp_all [Vk]
   try first|(rw [if_pos ht26];simp;done)|(rw [if_neg (by omega)];simp;done),rfl⟩
 refine Z6 ?_;refine Zl ?_;refine Z85 ?_;refine A2 [7,8,26] ?_
 refine A3 (fun ht26=>?_) (fun ht26=>?_)
 ·refine Z95 ?_;refine Z5 ?_
  exact A8 (B9 A6 A6) ⟨by
   have w1:IntKind.u64.wrap 9223372036854775808=9223372036854775808:=rfl
   simp_all [Vk]
   try first|(rw [if_pos ht26];simp;done)|(rw [if_neg (by omega)];simp;done),rfl⟩
 refine Z1 ?_;refine A2 [7,34] ?_
 refine A3 (fun ht34=>?_) (fun ht34=>?_)
 ·refine Z19 ?_;refine n8 ?_;refine Z5 ?_
  exact A8 (B9 A6 A6) ⟨by
   have w1:IntKind.u64.wrap 9223372036854775808=9223372036854775808:=rfl
   simp_all [Vk]
   try first|(rw [if_pos ht26];simp;done)|(rw [if_neg (by omega)];simp;done),rfl⟩
 refine Z17 ?_;refine xq ?_
 exact A8 (B9 A6 A6) ⟨by
  have w1:IntKind.u64.wrap 9223372036854775808=9223372036854775808:=rfl
  simp_all [Vk]
  try first|(rw [if_pos ht26];simp;done)|(rw [if_neg (by omega)];simp;done),rfl⟩

theorem AHq (a b:Int) (Hp:List AObj):AFun Tryz.prog 275 [A4 a,A4 b] Hp (.tup [A4 (j8 a b).1,A4 (j8 a b).2]):=by
 refine Ah [.tmp 4,.tmp 5] [0,1] Tryz.func275 Tryz.ntmps275 (fun d=>?_)
 refine gb ?_;refine Zl ?_;refine A2 [0,1,6] ?_
 refine A3 (fun ht6=>?_) (fun ht6=>?_)
 ·refine Z95 ?_;exact ADg
 refine Z13 ?_;refine Z10 ?_;refine Z0 ?_;refine A2 [0,1,9] ?_
 refine A3 (fun ht9=>?_) (fun ht9=>?_)
 ·refine Z95 ?_;exact ADg
 refine Z17 ?_;refine Z1 ?_
 refine A5 (h:=Q.quo (h0:=fun _=>by simpa using ht6)) (hr:=?_)
 refine Z0 ?_;refine Z11 ?_;exact A8 (B9 A6 A6) ⟨by simp_all [j8]<;>(rw [if_neg (by rintro ⟨rfl,rfl⟩;simp_all)];exact ⟨rfl,rfl⟩),rfl⟩

theorem pq {a b:Int} (ha : -9223372036854775808≤a∧a≤9223372036854775807):IntKind.i64.wrap (a.tmod b)=a.tmod b:=by
 have h1:(a.tmod b).natAbs≤a.natAbs:=by rw [Int.natAbs_tmod];exact Nat.mod_le _ _
 rw [IntKind.wrap_i64]
 rcases Int.le_total 0 a with h|h
 ·have:=Int.tmod_nonneg b h
  omega
 have h2:=Int.tmod_nonneg b (show 0 ≤ -a by omega)
 rw [Int.neg_tmod] at h2
 omega
theorem AHr (a b:Int) (ha : -9223372036854775808≤a∧a≤9223372036854775807) (Hp:List AObj):AFun Tryz.prog 276 [A4 a,A4 b] Hp (.tup [A4 (Ww a b).1,A4 (Ww a b).2]):=by
 refine Ah [.tmp 4,.tmp 5] [0,1] Tryz.func276 Tryz.ntmps276 (fun d=>?_)
 refine gb ?_;refine Z35 ?_;refine A2 [0,1,6] ?_;refine Z92 ?_;refine A2 [0,1,6,7] ?_
 refine A3 (fun ht7=>?_) (fun ht7=>?_)
 ·have hm:Ww a b=(0,5):=if_pos ht7
  refine Z95 ?_;exact ADq
 refine Z1 ?_;refine A2 [0,1,9] ?_
 refine A3 (fun ht9=>?_) (fun ht9=>?_)
 ·have hm:Ww a b=(0,0):=by unfold Ww;rw [if_neg (by rw [ht7];simp),if_pos ht9]
  refine Z95 ?_;exact ADq
 have hm:Ww a b=(a.tmod b,0):=by unfold Ww;rw [if_neg (by rw [ht7];simp),if_neg (by rw [ht9];simp),pq ha]
 refine Z17 ?_;refine Z1 ?_
 refine A5 (h:=Q.rem (h0:=fun _=>by simpa using ht7)) (hr:=?_)
 refine Z0 ?_;exact ABc

theorem AFd (a:Int) (Hp:List AObj):AFun Tryz.prog 301 [A4 a] Hp (Bm false):=by
 refine Ah [.tmp 2] [0] Tryz.func301 Tryz.ntmps301 (fun d=>?_)
 refine Z46 ?_;refine Z19 ?_;exact ADx

theorem AFe (a:Int) (Hp:List AObj):AFun Tryz.prog 302 [A4 a] Hp (Bm false):=by
 refine Ah [.tmp 2] [0] Tryz.func302 Tryz.ntmps302 (fun d=>?_)
 refine Z46 ?_;refine Z19 ?_;exact ADx

theorem AHs (a b:Int) (Hp:List AObj):AFun Tryz.prog 270 [A4 a,A4 b] Hp (A4 (Mf a b)):=by
 refine Ah [.tmp 4] [0,1] Tryz.func270 Tryz.ntmps270 (fun d=>?_)
 refine Z53 ?_;refine Z2 ?_;refine A9 Tryz.call301 (AFd _ _) ?_;refine A5 ?_;refine A2 [0,1,5] ?_;refine Z2 ?_;refine A9 Tryz.call301 (AFd _ _) ?_;refine A5 ?_;refine A2 [0,1,5,6] ?_;refine Z35 ?_;refine A2 [0,1,6,11] ?_
 refine A3 (fun ht11=>?_) (fun ht11=>?_)
 ·cases ht11
 refine bx ?_;refine A2 [0,1,13] ?_
 refine A3 (fun ht13=>?_) (fun ht13=>?_)
 ·cases ht13
 refine gg ?_;refine A2 [0,1,16] ?_
 refine A3 (fun ht16=>?_) (fun ht16=>?_)
 ·have hm:Mf a b = -1:=if_pos ht16
  exact n6
 refine gg ?_;refine A2 [19] ?_
 refine A3 (fun ht19=>?_) (fun ht19=>?_)
 ·have hm:Mf a b=1:=by unfold Mf;rw [if_neg (by rw [ht16];simp),if_pos ht19]
  exact n6
 have hm:Mf a b=0:=by unfold Mf;rw [if_neg (by rw [ht16];simp),if_neg (by rw [ht19];simp)]
 refine Z6 ?_;exact Z99

theorem AHt (a b:Int) (Hp:List AObj):AFun Tryz.prog 271 [A4 a,A4 b] Hp (A4 (Mf a b)):=by
 refine Ah [.tmp 4] [0,1] Tryz.func271 Tryz.ntmps271 (fun d=>?_)
 refine Z53 ?_;refine Z2 ?_;refine A9 Tryz.call302 (AFe _ _) ?_;refine A5 ?_;refine A2 [0,1,5] ?_;refine Z2 ?_;refine A9 Tryz.call302 (AFe _ _) ?_;refine A5 ?_;refine A2 [0,1,5,6] ?_;refine Z35 ?_;refine A2 [0,1,6,11] ?_
 refine A3 (fun ht11=>?_) (fun ht11=>?_)
 ·cases ht11
 refine bx ?_;refine A2 [0,1,13] ?_
 refine A3 (fun ht13=>?_) (fun ht13=>?_)
 ·cases ht13
 refine gg ?_;refine A2 [0,1,16] ?_
 refine A3 (fun ht16=>?_) (fun ht16=>?_)
 ·have hm:Mf a b = -1:=if_pos ht16
  exact n6
 refine gg ?_;refine A2 [19] ?_
 refine A3 (fun ht19=>?_) (fun ht19=>?_)
 ·have hm:Mf a b=1:=by unfold Mf;rw [if_neg (by rw [ht16];simp),if_pos ht19]
  exact n6
 have hm:Mf a b=0:=by unfold Mf;rw [if_neg (by rw [ht16];simp),if_neg (by rw [ht19];simp)]
 refine Z6 ?_;exact Z99

theorem wj {l:List Int} {x:Nat} (h:x<l.length) (hx:orI l=orI (l.drop x)):orI l=if l[x] != 0 then l[x] else orI (l.drop (x+1)):=by rw [hx,Ha h,orI]
theorem AHu (l:List Int) (hl:l.length≤1048576) (Hp:List AObj):AFun Tryz.prog 269 [ln l] Hp (A4 (orI l)):=by
 refine Ah [.tmp 2] [0] Tryz.func269 Tryz.ntmps269 (fun d=>?_)
 refine Z46 ?_;refine Z2 ?_;refine A2 [0,3] ?_;refine Z32 ?_;refine A2 [3,6,7,8] ?_
 refine D7 (α:=Nat) (fun x=>⟨18,A7 3 (A4 0) (A7 6 (ln l) (A7 7 (A4 (l.length:Nat)) (A7 8 (A4 (x:Nat)) (fun _=>.any)))),Hp,[],[],none⟩) (fun x=>x≤l.length∧orI l=orI (l.drop x)) (fun x=>l.length-x) (0) ⟨Av _,rfl⟩ (Cp (by simp)) rfl (fun x hx=>?_)
 refine Z2 ?_;refine A2 [3,6,7,8,9] ?_
 refine Dl (fun ht9=>?_) (fun ht9=>?_)
 ·have hlt:x<l.length:=by simpa using ht9
  have hst:=wj hlt hx.2
  refine Z88 ?_
  refine A5 (h:=Ak (x) (A4 l[x]) (fun _=>Bk hlt)) (hr:=?_)
  refine Z0 ?_;refine A2 [3,5,6,7,8] ?_;refine Z13 ?_;refine A2 [3,5,6,7,8,14] ?_
  refine A3 (fun ht14=>?_) (fun ht14=>?_)
  ·have hm:orI l=l[x]:=by rw [hst,if_pos ht14]
   refine Z1 ?_;refine Z4 ?_;exact gc
  have hn:orI l=orI (l.drop (x+1)):=by rw [hst,if_neg (by rw [ht14];simp)]
  refine Z58 ?_;refine A2 [3,6,7,8] ?_;exact ADd
 have hxe:l.length≤x:=by simpa using ht9
 have hm:orI l=0:=by rw [hx.2,ew hxe];rfl
 refine Z33 ?_;refine Z1 ?_;exact ADu

theorem AHv (a b:Val) (Hp:List AObj):AFun Tryz.prog 218 [Ba a,Ba b] Hp (A4 (dp a b)):=by
 refine Ah [.tmp 4] [0,1] Tryz.func218 Tryz.ntmps218 (fun d=>?_)
 refine Z13 ?_;refine Ju ?_;refine Z35 ?_;refine A9 Tryz.call37 (c37 a _) ?_;refine bw ?_;refine Cd Tryz.call37 (fun hB=>c37 b _) ?_;refine U6 ?_;refine A2 [2,3,12] ?_
 refine A3 (fun ht12=>?_) (fun ht12=>?_)
 ·have hm:dp a b=0:=if_pos ht12
  exact n6
 have hm:dp a b=orI [Mf a.kind b.kind,Mf a.n b.n,Lib.compareBytes a.s b.s]:=if_neg (by rw [ht12];simp)
 refine Z6 ?_;refine Eb [0,1,0,4,15,0,32,0,128,511,0,1024,0,4096,16383,32767,65535,131071] 14 Al (by kernel_rfl) ?_;refine Zk ?_;refine E1 Tryz.call270 (AHs _ _ _) ?_;refine Zk ?_;refine E1 Tryz.call271 (AHt _ _ _) ?_;refine Z12 ?_;refine Z80 ?_;refine A9 Tryz.call272 (AHo _ _ _) ?_;refine Pq ?_;refine A9 Tryz.call269 (AHu [Mf a.kind b.kind,Mf a.n b.n,Lib.compareBytes a.s b.s] (by simp) _) ?_;refine A5 ?_;refine Z23 ?_;exact ni

theorem AHw (t:Str) (a b:Int) (ha : -9223372036854775808≤a∧a≤9223372036854775807) (Hp:List AObj):AFun Tryz.prog 220 [Ad t,A4 a,A4 b] Hp (Rt (H3 (Id t a b))):=by
 refine Ah [.cell 6 23,.tmp 7] [0,1,2] Tryz.func220 Tryz.ntmps220 (fun d=>?_)
 refine bv ?_;refine A2 [0,1,2,6] ?_;refine Z35 ?_;refine A2 [1,2,6,8] ?_;refine Z92 ?_;refine A2 [1,2,6,8,9] ?_
 refine A3 (fun ht9=>?_) (fun ht9=>?_)
 ·refine Z1 ?_;refine A9 Tryz.call273 (AHl _ _ _) ?_;exact xy
 refine Z1 ?_;refine A2 [1,2,6,8,19] ?_
 refine A3 (fun ht19=>?_) (fun ht19=>?_)
 ·refine Z1 ?_;refine A9 Tryz.call222 (AFb _ _ _) ?_;exact xy
 refine Z1 ?_;refine A2 [1,2,6,8,29] ?_
 refine A3 (fun ht29=>?_) (fun ht29=>?_)
 ·refine Z1 ?_;refine A9 Tryz.call274 (AHp _ _ _) ?_;exact xy
 refine Z1 ?_;refine A2 [1,2,6,39] ?_
 refine A3 (fun ht39=>?_) (fun ht39=>?_)
 ·refine Z1 ?_;refine A9 Tryz.call275 (AHq _ _ _) ?_;exact xy
 refine Z17 ?_;refine Z1 ?_;refine A9 Tryz.call276 (AHr _ _ ha _) ?_;refine xv ?_;refine my ?_;exact AEb

theorem AHx (a b:Val) (fa:Fine a) (fb:Fine b) (Hp:List AObj):AFun Tryz.prog 219 [.slice false 3 [Ba a,Ba b]] Hp (Rt (Ng a b)):=by
 refine Ah [.cell 2 23,.tmp 3] [0] Tryz.func219 Tryz.ntmps219 (fun d=>?_)
 refine bv ?_;refine A2 [0,2] ?_;refine Z83 ?_;refine Qz jU jS jZ ?_;refine A9 Tryz.call174 (wh [a,b] [2,2] (by simp) (by simp) _) ?_;refine Z0 ?_;refine A2 [0,2,4] ?_
 refine A3 (fun ht4=>?_) (fun ht4=>?_)
 ·have hm:Ng a b=Cw 10:=if_pos ht4
  refine We ?_;refine Ss ?_;exact Z16
 have hla:=fa.len
 have hlb:=fb.len
 refine Eb [0,1,3,7,15,0,32,96,224,480,1023,2047,4095] 10 Al (by kernel_rfl) ?_;refine An ?_
 refine An (h:=Ak (0) (Ba a) (fun _=>show ([Ba a,Ba b]:List AV)[0]? = some (Ba a) from rfl)) (hr:=?_)
 refine Zk ?_
 refine An (h:=Ak (1) (Ba b) (fun _=>show ([Ba a,Ba b]:List AV)[1]? = some (Ba b) from rfl)) (hr:=?_)
 refine Z39 ?_;refine Gl ?_
 refine A5 (h:=Q.add64 (h1:=fun _=>by omega) (h2:=fun _=>by omega)) (hr:=?_)
 refine Z0 ?_;refine A2 [0,2,12] ?_
 refine A3 (fun ht12=>?_) (fun ht12=>?_)
 ·have hm:Ng a b=Cw 3:=by unfold Ng;rw [if_neg (by rw [ht4];simp),if_pos ht12]
  refine We ?_;refine Ss ?_;exact Z16
 have hm:Ng a b=(Wv (a.s++b.s),0):=by unfold Ng;rw [if_neg (by rw [ht4];simp),if_neg (by rw [ht12];simp)]
 refine Z17 ?_;refine Eb [0,1,3,7,0,16,48,112,255,511,1023,2047] 8 Al (by kernel_rfl) ?_;refine An ?_
 refine An (h:=Ak (0) (Ba a) (fun _=>show ([Ba a,Ba b]:List AV)[0]? = some (Ba a) from rfl)) (hr:=?_)
 refine Z39 ?_
 refine An (h:=Ak (1) (Ba b) (fun _=>show ([Ba a,Ba b]:List AV)[1]? = some (Ba b) from rfl)) (hr:=?_)
 refine Z80 ?_
 refine A5 (h:=Q.sadd (hl:=fun _=>by omega)) (hr:=?_)
 refine A9 Tryz.call223 (nt _ _) ?_;refine Ss ?_;exact sy

theorem c173 (t:Str) (a b:Val) (fa:Fine a) (fb:Fine b) (Hp:List AObj):AFun Tryz.prog 173 [Ad t,.slice false 3 [Ba a,Ba b]] Hp (Rt (La t a b)):=by
 refine Ah [.cell 4 23,.tmp 5] [0,1] Tryz.func173 Tryz.ntmps173 (fun d=>?_)
 refine bv ?_;refine A2 [0,1,4] ?_;refine Jt ?_;refine Eb [0,0,2,6,0,16,48,126,255,511,1023,1023,2047,8191] 13 Al (by kernel_rfl) ?_;refine Z12 ?_
 refine An (h:=Ak (0) (Ba a) (fun _=>show ([Ba a,Ba b]:List AV)[0]? = some (Ba a) from rfl)) (hr:=?_)
 refine Z12 ?_
 refine An (h:=Ak (1) (Ba b) (fun _=>show ([Ba a,Ba b]:List AV)[1]? = some (Ba b) from rfl)) (hr:=?_)
 refine An ?_;refine E1 Tryz.call218 (AHv _ _ _) ?_;refine E1 Tryz.call217 (AHk _ _ _) ?_;refine Z12 ?_;refine Z80 ?_;refine A5 ?_;refine A2 [0,1,4,6,7] ?_;refine Z2 ?_;refine A2 [0,1,4,6,20] ?_
 refine A3 (fun ht20=>?_) (fun ht20=>?_)
 ·refine Jt ?_;refine Eb [0,1,3,7,0,16,48,112,255] 8 Al (by kernel_rfl) ?_;refine An ?_
  refine An (h:=Ak (0) (Ba a) (fun _=>show ([Ba a,Ba b]:List AV)[0]? = some (Ba a) from rfl)) (hr:=?_)
  refine Z39 ?_
  refine An (h:=Ak (1) (Ba b) (fun _=>show ([Ba a,Ba b]:List AV)[1]? = some (Ba b) from rfl)) (hr:=?_)
  refine Z80 ?_;refine A5 ?_;refine A2 [4,6,29] ?_
  refine A3 (fun ht29=>?_) (fun ht29=>?_)
  ·have hm:La t a b=Cw 10:=by unfold La;rw [if_pos ht20,if_pos ht29]
   refine We ?_;refine Z36 ?_;refine Bz ?_;exact Z26
  have hm:La t a b=(Ht (H8 t (dp a b)).1,0):=by unfold La;rw [if_pos ht20,if_neg (by rw [ht29];simp)]
  refine Z96 ?_;refine A9 Tryz.call88 (c88 _ _) ?_;exact n7
 refine Z6 ?_;refine Z29 ?_;refine A2 [0,1,4,36] ?_
 refine A3 (fun ht36=>?_) (fun ht36=>?_)
 ·have hm:La t a b=Ng a b:=by unfold La;rw [if_neg (by rw [ht20];simp),if_pos ht36]
  refine Z2 ?_;refine A9 Tryz.call219 (AHx a b fa fb _) ?_;refine Z0 ?_;exact n7
 refine bx ?_;refine Qz jU jS jZ ?_;refine A9 Tryz.call174 (wh [a,b] [1,1] (by simp) (by simp) _) ?_;refine A5 ?_;refine A2 [0,1,4,44] ?_
 refine A3 (fun ht44=>?_) (fun ht44=>?_)
 ·have hm:La t a b=Cw 10:=by unfold La;rw [if_neg (by rw [ht20];simp),if_neg (by rw [ht36];simp),if_pos ht44]
  refine We ?_;exact n7
 have hm:La t a b=H3 (Id t a.n b.n):=by unfold La;rw [if_neg (by rw [ht20];simp),if_neg (by rw [ht36];simp),if_neg (by rw [ht44];simp)]
 refine Z6 ?_;refine Eb [0,0,2,6,14,0,32,96,224,511,1023,1023,4095,8191] 12 Al (by kernel_rfl) ?_;refine Z12 ?_
 refine An (h:=Ak (0) (Ba a) (fun _=>show ([Ba a,Ba b]:List AV)[0]? = some (Ba a) from rfl)) (hr:=?_)
 refine Z39 ?_
 refine An (h:=Ak (1) (Ba b) (fun _=>show ([Ba a,Ba b]:List AV)[1]? = some (Ba b) from rfl)) (hr:=?_)
 refine Z12 ?_;refine E1 Tryz.call220 (AHw _ _ _ ⟨fa.lo,fa.hi⟩ _) ?_;refine Z80 ?_;exact Z45

theorem ACm (s:Str) (n:Int):∃k:Nat,(if (0:Int)<(if (s.length:Int)<n then (s.length:Int) else n) then (if (s.length:Int)<n then (s.length:Int) else n) else 0)=(k:Int)∧k≤s.length∧k=(max 0 (min n s.length)).toNat:=by
 refine ⟨(max 0 (min n s.length)).toNat,?_,?_,rfl⟩<;>repeat' split
 all_goals omega
theorem AHy (t s:Str) (n:Int) (hs:s.length≤1048576) (Hp:List AObj):AFun Tryz.prog 178 [Ad t,Ad s,A4 n] Hp (Ba (Nh t s n)):=by
 refine Ah [.cell 6 23] [0,1,2] Tryz.func178 Tryz.ntmps178 (fun d=>?_)
 refine xu ?_;refine Z13 ?_;refine R.minI ?_;refine R.maxI ?_
 obtain ⟨k,hk,hks,hke⟩:=ACm s n
 simp only [hk]
 refine A5 ?_;refine A2 [0,1,6,7] ?_;refine Z29 ?_;refine A2 [1,6,7,14] ?_
 refine A3 (fun ht14=>?_) (fun ht14=>?_)
 ·have hm:Nh t s n=Wv (s.take k):=by unfold Nh;rw [if_pos ht14,←hke]
  refine Z1 ?_
  refine A5 (h:=Jr k (fun _=>Av _) (fun _=>hks)) (hr:=?_)
  refine A9 Tryz.call223 (nt _ _) ?_;refine ga ?_;refine Bz ?_;exact AEc
 have hm:Nh t s n=Wv (s.drop (s.length-k)):=by unfold Nh;rw [if_neg (by rw [ht14];simp),←hke]
 refine Z6 ?_;refine Z19 ?_
 refine A5 (h:=Q.sub64 (h1:=fun _=>by omega) (h2:=fun _=>by omega)) (hr:=?_)
 refine A5 (h:=Q.scutL (s.length-k) (fun _=>show s.length-k≤s.length by omega) (fun _=>Ae _)) (hr:=?_)
 refine A9 Tryz.call223 (nt _ _) ?_;refine ga ?_;exact AEc

theorem AHz (t:Str) (v:Val) (h:Fine v) (Hp:List AObj):AFun Tryz.prog 177 [Ad t,Ba v] Hp (Rt (Hy t v)):=by
 have hlen:=h.len
 refine Ah [.cell 4 23,.tmp 5] [0,1] Tryz.func177 Tryz.ntmps177 (fun d=>?_)
 refine Z2 ?_;refine Z60 ?_;refine A2 [0,3,4] ?_;refine Zl ?_;refine Z85 ?_;refine A2 [0,3,4,6] ?_
 refine A3 (fun ht6=>?_) (fun ht6=>?_)
 ·have hm:Hy t v=(Wv (Lib.itoa v.n),0):=if_pos ht6
  refine Z1 ?_;refine A9 Tryz.call160 (AEr _ h.lo h.hi _) ?_;refine A9 Tryz.call223 (nt _ _) ?_;exact Z75
 refine Z13 ?_;refine Z85 ?_;refine A2 [0,3,4,18] ?_
 refine A3 (fun ht18=>?_) (fun ht18=>?_)
 ·have hm:Hy t v=(⟨1,v.s.length,[]⟩,0):=by unfold Hy;rw [if_neg (by rw [ht6];simp),if_pos ht18]
  refine Z13 ?_;refine A9 Tryz.call221 (ABs _ _) ?_;exact Z75
 refine Z13 ?_;refine Z85 ?_;refine A2 [3,4,30] ?_
 refine A3 (fun ht30=>?_) (fun ht30=>?_)
 ·have hm:Hy t v=H3 (Ca v.s):=by unfold Hy;rw [if_neg (by rw [ht6];simp),if_neg (by rw [ht18];simp),if_pos ht30]
  refine Z1 ?_;refine A9 Tryz.call224 (AEq v.s (by omega) _) ?_;refine xv ?_;exact Z75
 have hm:Hy t v=Cw 10:=by unfold Hy;rw [if_neg (by rw [ht6];simp),if_neg (by rw [ht18];simp),if_neg (by rw [ht30];simp)]
 refine Z17 ?_;refine We ?_;exact Z45

theorem AA2 {vs:List Val} (h:0<vs.length):vs.getD 0 noV=vs[0]:=by rw [Cz,Aa h];rfl
/-- As many values as a node asks for. -/
structure ArgsOk (o:Int) (vs:List Val):Prop where
 two:o=5→∃a b,vs=[a,b]
 one:o=3∨o=4→vs.length=1
 call:o=6→vs.length=1∨∃a b,vs=[a,b]
 fine:∀v∈vs,Fine v
theorem AI0 (e:Expr) (vs:List Val) (h:ArgsOk e.op vs) (Hp:List AObj):AFun Tryz.prog 137 [Ac e,Br vs] Hp (Rt (B0 e.op e.text vs)):=by
 refine Ah [.cell 4 23,.tmp 5] [0,1] Tryz.func137 Tryz.ntmps137 (fun d=>?_)
 refine Z2 ?_;refine Z60 ?_;refine A2 [1,2,4] ?_;refine Z21 ?_;refine Z19 ?_;refine A2 [1,2,4,6] ?_
 refine A3 (fun ht6=>?_) (fun ht6=>?_)
 ·obtain ⟨a,b,rfl⟩:=h.two (by simpa using ht6)
  have hm:B0 e.op e.text [a,b]=La e.text a b:=if_pos ht6
  refine Z13 ?_;refine A9 Tryz.call173 (c173 e.text a b (h.fine a (by simp)) (h.fine b (by simp)) _) ?_;refine Z0 ?_;exact Z75
 refine nd ?_;refine G.buildSl jU jS jZ ?_
 refine Cd Tryz.call174 (C:=((e.op==3)==true)) (fun hB=>wh vs [1] (by have:=h.one (.inl (by simpa using hB));simp [this]) (by simp) _) ?_
 refine Z0 ?_;refine A2 [1,2,4,16] ?_
 refine A3 (fun ht16=>?_) (fun ht16=>?_)
 ·have hm0:((e.op==3)&&D5 vs [1])=true:=ht16
  have hop:e.op=3:=by simp only [Ao,beq_iff_eq] at hm0;exact hm0.1
  have hln:=h.one (.inl hop)
  have hg0:(vs.map Ba)[0]? = some (Ba (vs.getD 0 noV)):=by rw [AA2 (by omega)];exact Bk (by omega)
  have hm:B0 e.op e.text vs=H3 (M3 0 (vs.getD 0 noV).n):=by unfold B0;rw [if_neg (by rw [ht6];simp),if_pos ht16]
  refine Z2 ?_
  refine A5 (h:=Ak (0) (Ba (vs.getD 0 noV)) (fun _=>hg0)) (hr:=?_)
  refine Z0 ?_;refine A9 Tryz.call176 (AHm _ _) ?_;refine xv ?_;exact Z75
 refine nd ?_;refine G.buildSl jU jS jZ ?_
 refine Cd Tryz.call174 (C:=((e.op==4)==true)) (fun hB=>wh vs [3] (by have:=h.one (.inr (by simpa using hB));simp [this]) (by simp) _) ?_
 refine Z0 ?_;refine A2 [1,2,4,35] ?_
 refine A3 (fun ht35=>?_) (fun ht35=>?_)
 ·have hm0:((e.op==4)&&D5 vs [3])=true:=ht35
  have hop:e.op=4:=by simp only [Ao,beq_iff_eq] at hm0;exact hm0.1
  have hln:=h.one (.inr hop)
  have hg0:(vs.map Ba)[0]? = some (Ba (vs.getD 0 noV)):=by rw [AA2 (by omega)];exact Bk (by omega)
  have hm:B0 e.op e.text vs=(Ht ((vs.getD 0 noV).n==0),0):=by unfold B0;rw [if_neg (by rw [ht6];simp),if_neg (by rw [ht16];simp),if_pos ht35]
  refine Z2 ?_
  refine A5 (h:=Ak (0) (Ba (vs.getD 0 noV)) (fun _=>hg0)) (hr:=?_)
  refine Z28 ?_;refine A9 Tryz.call88 (c88 _ _) ?_;exact Z75
 refine Z19 ?_;refine A2 [1,2,4,50] ?_
 refine A3 (fun ht50=>?_) (fun ht50=>?_)
 ·have hm:B0 e.op e.text vs=Cw 10:=by unfold B0;rw [if_neg (by rw [ht6];simp),if_neg (by rw [ht16];simp),if_neg (by rw [ht35];simp),if_pos ht50]
  refine We ?_;exact Z75
 have hop:e.op=6:=by simpa using ht50
 have hcl:=h.call hop
 refine Z19 ?_;refine A2 [1,2,4,57] ?_
 refine A3 (fun ht57=>?_) (fun ht57=>?_)
 ·rw [Aw] at ht57
  have hln:vs.length=1:=by have:=ht57;simp only [beq_iff_eq] at this;omega
  have hg0:(vs.map Ba)[0]? = some (Ba (vs.getD 0 noV)):=by rw [AA2 (by omega)];exact Bk (by omega)
  have hf0:Fine (vs.getD 0 noV):=by rw [AA2 (by omega)];exact h.fine _ (Cl _)
  have hm:B0 e.op e.text vs=Hy e.text (vs.getD 0 noV):=by unfold B0;rw [if_neg (by rw [ht6];simp),if_neg (by rw [ht16];simp),if_neg (by rw [ht35];simp),if_neg (by rw [ht50];simp),if_pos ht57]
  refine Eb [0,1,0,4,12,31,63,63,255,511] 8 Al (by kernel_rfl) ?_;refine Z39 ?_
  refine An (h:=Ak (0) (Ba (vs.getD 0 noV)) (fun _=>hg0)) (hr:=?_)
  refine An ?_;refine E1 Tryz.call177 (AHz _ _ hf0 _) ?_;refine Z80 ?_;exact Z75
 rw [Aw] at ht57
 obtain ⟨a,b,rfl⟩:∃a b,vs=[a,b]:=by
  rcases hcl with h1|h1
  ·exfalso
   have:=ht57
   rw [h1] at this
   simp at this
  exact h1
 refine Z2 ?_;refine Qz jU jS jZ ?_;refine A9 Tryz.call174 (wh [a,b] [2,1] (by simp) (by simp) _) ?_;refine Z0 ?_;refine A2 [1,2,4,69] ?_
 refine A3 (fun ht69=>?_) (fun ht69=>?_)
 ·have hm:B0 e.op e.text [a,b]=Cw 10:=by unfold B0;rw [if_neg (by rw [ht6];simp),if_neg (by rw [ht16];simp),if_neg (by rw [ht35];simp),if_neg (by rw [ht50];simp),if_neg (by rw [ht57];simp),if_pos ht69]
  refine We ?_;exact Z75
 have hm:B0 e.op e.text [a,b]=(Nh e.text a.s b.n,0):=by unfold B0;rw [if_neg (by rw [ht6];simp),if_neg (by rw [ht16];simp),if_neg (by rw [ht35];simp),if_neg (by rw [ht50];simp),if_neg (by rw [ht57];simp),if_neg (by rw [ht69];simp)];rfl
 refine Z17 ?_;refine Eb [0,1,0,4,12,28,0,64,192,448,1023,2047,4095] 10 Al (by kernel_rfl) ?_;refine Z39 ?_
 refine An (h:=Ak (0) (Ba a) (fun _=>show ([Ba a,Ba b]:List AV)[0]? = some (Ba a) from rfl)) (hr:=?_)
 refine Z39 ?_
 refine An (h:=Ak (1) (Ba b) (fun _=>show ([Ba a,Ba b]:List AV)[1]? = some (Ba b) from rfl)) (hr:=?_)
 refine Z80 ?_
 refine A9 Tryz.call178 (AHy e.text a.s b.n (by have:=(h.fine a (by simp)).len;omega) _) ?_
 exact Z45

theorem O5 (a b:Val):((a.kind==b.kind&&a.n==b.n)&&a.s==b.s)=(a==b):=by
 obtain ⟨k,n,s⟩:=a
 obtain ⟨k',n',s'⟩:=b
 by_cases h:(⟨k,n,s⟩:Val)=⟨k',n',s'⟩
 ·injection h with h1 h2 h3
  subst h1;subst h2;subst h3
  simp
 have:((⟨k,n,s⟩:Val)==⟨k',n',s'⟩)=false:=by simpa using h
 rw [this]
 simp only [rc,beq_eq_false_iff_ne]
 by_cases h1:k=k'
 ·by_cases h2:n=n'
  ·right
   rintro rfl
   exact h (by rw [h1,h2])
  exact .inl (.inr h2)
 exact .inl (.inl h1)
/-- What eval answers for a tree, over any heap. -/
abbrev Jd (c:List Col) (l:List Val) (e:Expr) (r:Rs):Prop:=∀Hp,AFun Tryz.prog 44 [Vu c l,Ac e] Hp (Rt r)
theorem AFf (c:List Col) (l:List Val) (x:Expr) (r:Rs) (h:Jd c l x r) (Hp:List AObj):AFun Tryz.prog 136 [Vu c l,Ac x] Hp (Rt (Ay r)):=by
 refine Ah [.cell 4 23,.tmp 5] [0,1] Tryz.func136 Tryz.ntmps136 (fun d=>?_)
 refine Z1 ?_;refine y7 ?_;refine Z1 ?_;refine A9 Tryz.call44 (h _) ?_;refine n9 ?_;refine A2 [4,6,7] ?_;refine Z32 ?_;refine Z85 ?_;refine Wh ?_;refine A2 [4,6,7,25] ?_
 refine A3 (fun ht25=>?_) (fun ht25=>?_)
 ·have hm:Ay r=Cw 10:=if_pos ht25
  refine We ?_;exact n7
 have hm:Ay r=r:=if_neg (by rw [ht25];simp)
 refine Wk ?_;exact Z45

theorem c87 (c:List Col) (l:List Val) (x k0 k1:Expr) (s:Val) (ra rb:Rs) (h0:(x.kids.map Ac)[0]? = some (Ac k0)) (h1:(x.kids.map Ac)[1]? = some (Ac k1)) (ha:Jd c l k0 ra) (hb:Jd c l k1 rb) (Hp:List AObj):AFun Tryz.prog 87 [Vu c l,Ac x,Ba s] Hp (Rt (Hn s ra rb)):=by
 refine Ah [.cell 6 23,.tmp 7] [0,1,2] Tryz.func87 Tryz.ntmps87 (fun d=>?_)
 refine Z13 ?_;refine Z60 ?_;refine A2 [3,4,5,6] ?_;refine H0 [0,0,2,6,14,31,63,127,127,0,767,2047] [9,10] [.q 9 [] [],.s [8] (some 0) [] [1],.s [] (some 1) [0] []] (fun _=>Hp) (fun B=>if B 0=true then [.cells 23 [A4 0,A4 0,Ad []],(if B 1=true then .cells 23 [A4 (Ay ra).1.kind,A4 (Ay ra).1.n,Ad (Ay ra).1.s] else .cells 23 [A4 0,A4 0,Ad []]:AObj)] else [.cells 23 [A4 0,A4 0,Ad []]]) Al (by kernel_rfl) rfl rfl (fun _=>rfl) ?_
 apply Y.q
 ·intro B hT hF
  refine Z39 ?_
  refine An (h:=Ak (0) (Ac k0) (fun _=>h0)) (hr:=?_)
  refine An ?_;exact ADs
 case hTF=>decide
 refine Z49 ?_;refine AD4 ?_;refine A2 [3,4,5,6,8,9] ?_;refine Z32 ?_;refine Z10 ?_
 refine Ci (h:=Mt Wm (fun w=>Im (Ay ra).1.kind (Ay ra).1.n s.kind s.n (Ay ra).1.s s.s w)) (hr:=?_)
 refine A5 ?_;refine A2 [3,4,5,6,8,9,26] ?_
 refine A3 (fun ht26=>?_) (fun ht26=>?_)
 ·rw [O5] at ht26
  have hm:Hn s ra rb=Ay ra:=if_pos ht26
  refine Z1 ?_;refine my ?_;exact Z26
 rw [O5] at ht26
 refine Z6 ?_;refine H0 [0,0,2,6,14,31,63,127,127,0,767,2047] [9,10] [.q 9 [] [],.s [10] (some 0) [] [1],.s [] (some 1) [0] []] (fun _=>Hp) (fun B=>if B 0=true then [.cells 23 [A4 0,A4 0,Ad []],.cells 23 [A4 (Ay ra).1.kind,A4 (Ay ra).1.n,Ad (Ay ra).1.s],(if B 1=true then .cells 23 [A4 (Ay rb).1.kind,A4 (Ay rb).1.n,Ad (Ay rb).1.s] else .cells 23 [A4 0,A4 0,Ad []]:AObj)] else [.cells 23 [A4 0,A4 0,Ad []],.cells 23 [A4 (Ay ra).1.kind,A4 (Ay ra).1.n,Ad (Ay ra).1.s]]) Al (by kernel_rfl) rfl rfl (fun _=>rfl) ?_
 apply Y.q
 ·intro B hT hF
  refine Z39 ?_
  refine An (h:=Ak (1) (Ac k1) (fun _=>h1)) (hr:=?_)
  refine An ?_;refine E1 Tryz.call136 (AFf c l k1 rb hb _) ?_;exact xp
 case hTF=>decide
 refine Y.alloc (zs:=[A4 0,A4 0,Ad []]) (n:=2) (u:=Hp.length) Tryz.zeroValue23 (fun B hT hF hB=>⟨rfl,by simp [hB],by simp [upd,hB,hF 1 (by simp)],rfl⟩) ?_;refine Y.storeOwnT (u:=Hp.length) (n:=2) (t':=23) (cs:=[A4 0,A4 0,Ad []]) (cs':=[A4 (Ay rb).1.kind,A4 (Ay rb).1.n,Ad (Ay rb).1.s]) Tryz.sizeOf23 (fun B hT hF hB=>⟨rfl,by simp [hT 0 (by simp),hB],by simp [upd,hT 0 (by simp),hB],rfl⟩) ?_;refine Fo (tn:=[9,10]) (O:=[.cells 23 [A4 0,A4 0,Ad []],.cells 23 [A4 (Ay ra).1.kind,A4 (Ay ra).1.n,Ad (Ay ra).1.s],.cells 23 [A4 (Ay rb).1.kind,A4 (Ay rb).1.n,Ad (Ay rb).1.s]]) ?_;refine A5 ?_;refine A2 [5,6,8,9,10] ?_;refine Z32 ?_;refine Z10 ?_
 refine Ci (h:=Mt Wm (fun w=>Im (Ay rb).1.kind (Ay rb).1.n s.kind s.n (Ay rb).1.s s.s w)) (hr:=?_)
 refine Z0 ?_;refine Wh ?_;refine A2 [6,8,9,10,49] ?_
 refine A3 (fun ht49=>?_) (fun ht49=>?_)
 ·rw [O5] at ht49
  have hm:Hn s ra rb=Ay rb:=by unfold Hn;rw [if_neg (by rw [ht26];simp),if_pos ht49]
  refine Z1 ?_;refine my ?_;exact Z26
 rw [O5] at ht49
 have hm:Hn s ra rb=((Ay ra).1,0):=by unfold Hn;rw [if_neg (by rw [ht26];simp),if_neg (by rw [ht49];simp)]
 refine Z96 ?_;exact ADb

theorem c89 (c:List Col) (l:List Val) (x k0 k1 k2:Expr) (ra rb d2:Rs) (h0:(x.kids.map Ac)[0]? = some (Ac k0)) (h1:(x.text==Bx)=false→(x.kids.map Ac)[1]? = some (Ac k1)) (h2:(x.text==ifW)=true→(x.kids.map Ac)[2]? = some (Ac k2)) (ha:Jd c l k0 ra) (hb:(x.text==Bx)=false→Jd c l k1 rb) (hd:(x.text==ifW)=true→Jd c l k2 d2) (Hp:List AObj):AFun Tryz.prog 89 [Vu c l,Ac x] Hp (Rt (Ed x.text ra rb d2)):=by
 refine Ah [.cell 4 23,.tmp 5] [0,1] Tryz.func89 Tryz.ntmps89 (fun d=>?_)
 refine Z1 ?_;refine y7 ?_;refine Z32 ?_;refine A2 [2,3,4,12] ?_
 refine A3 (fun ht12=>?_) (fun ht12=>?_)
 ·have hni:(x.text==Bx)=false:=by
   have e:x.text=ifW:=by simpa [ifW] using ht12
   rw [e];rfl
  have hc:Ed x.text ra rb d2=(if (Ay ra).2 != 0 then Cw (Ay ra).2 else if (Ay ra).1==Ht true then rb else d2):=if_pos ht12
  refine H0 [0,0,2,6,14,31,63,127,127,0,767,2047] [9,10] [.q 9 [] [],.s [6] (some 0) [] [1],.s [] (some 1) [0] []] (fun _=>Hp) (fun B=>if B 0=true then [.cells 23 [A4 0,A4 0,Ad []],(if B 1=true then .cells 23 [A4 (Ay ra).1.kind,A4 (Ay ra).1.n,Ad (Ay ra).1.s] else .cells 23 [A4 0,A4 0,Ad []]:AObj)] else [.cells 23 [A4 0,A4 0,Ad []]]) Al (by kernel_rfl) rfl rfl (fun _=>rfl) ?_
  apply Y.q
  ·intro B hT hF
   refine Z39 ?_
   refine An (h:=Ak (0) (Ac k0) (fun _=>h0)) (hr:=?_)
   refine An ?_;exact ADs
  case hTF=>decide
  refine Z49 ?_;refine AD4 ?_;refine A2 [2,3,4,6,7] ?_;refine Zl ?_;refine A2 [2,3,4,6,7,22] ?_
  refine A3 (fun ht22=>?_) (fun ht22=>?_)
  ·have hm:Ed x.text ra rb d2=Cw (Ay ra).2:=by rw [hc,if_pos ht22]
   refine Z2 ?_;refine Z43 ?_;refine Z36 ?_;refine Z5 ?_;exact Z26
  refine Eb [0,0,3,7] 2 Al (by kernel_rfl) ?_;refine An ?_;refine E1 Tryz.call88 (c88 true _) ?_;refine Gl ?_
  refine A5 (h:=Mt Wm (fun w=>Im (Ay ra).1.kind (Ay ra).1.n 3 1 (Ay ra).1.s [] w)) (hr:=?_)
  refine A5 ?_;refine A2 [2,3,4,29] ?_
  refine A3 (fun ht29=>?_) (fun ht29=>?_)
  ·rw [O5 (Ay ra).1 ⟨3,1,[]⟩] at ht29
   have ht29b:((Ay ra).1==Ht true)=true:=ht29
   have hm:Ed x.text ra rb d2=rb:=by rw [hc,if_neg (by rw [ht22];simp),if_pos ht29b]
   refine ABa ?_
   refine An (h:=Ak (1) (Ac k1) (fun _=>h1 hni)) (hr:=?_)
   refine An ?_;refine E1 Tryz.call44 (hb hni _) ?_;refine Z80 ?_;refine Z36 ?_;refine Z5 ?_;exact Z26
  rw [O5 (Ay ra).1 ⟨3,1,[]⟩] at ht29
  have hm:Ed x.text ra rb d2=d2:=by rw [hc,if_neg (by rw [ht22];simp),if_neg (by show ¬((Ay ra).1==⟨3,1,[]⟩)=true;rw [ht29];simp)]
  refine Z17 ?_;refine ABa ?_
  refine An (h:=Ak (2) (Ac k2) (fun _=>h2 ht12)) (hr:=?_)
  refine An ?_;refine E1 Tryz.call44 (hd ht12 _) ?_;refine Z80 ?_;exact n7
 have hc:Ed x.text ra rb d2=(if ra.2 != 0 then Cw ra.2 else if x.text==Bx then (Ht (ra.1.kind==0),0) else if ra.1.kind != 0 then (ra.1,0) else rb):=if_neg (by show ¬(x.text==ifW)=true;rw [show (x.text==ifW)=false from ht12];simp)
 refine Z6 ?_;refine H0 [0,0,2,6,14,31,63,127,127,0,767,2047] [9,10] [.q 9 [] [],.s [8] (some 0) [] [1],.s [] (some 1) [0] []] (fun _=>Hp) (fun B=>if B 0=true then [.cells 23 [A4 0,A4 0,Ad []],(if B 1=true then .cells 23 [A4 ra.1.kind,A4 ra.1.n,Ad ra.1.s] else .cells 23 [A4 0,A4 0,Ad []]:AObj)] else [.cells 23 [A4 0,A4 0,Ad []]]) Al (by kernel_rfl) rfl rfl (fun _=>rfl) ?_
 apply Y.q
 ·intro B hT hF
  refine Z39 ?_
  refine An (h:=Ak (0) (Ac k0) (fun _=>h0)) (hr:=?_)
  refine An ?_;refine E1 Tryz.call44 (ha _) ?_;exact xp
 case hTF=>decide
 refine AEd ?_;refine Y.storeOwnT (u:=Hp.length) (n:=1) (t':=23) (cs:=[A4 0,A4 0,Ad []]) (cs':=[A4 ra.1.kind,A4 ra.1.n,Ad ra.1.s]) Tryz.sizeOf23 (fun B hT hF hB=>⟨rfl,by simp [hT 0 (by simp),hB],by simp [upd,hT 0 (by simp),hB],rfl⟩) ?_;refine Fo (tn:=[9,10]) (O:=[.cells 23 [A4 0,A4 0,Ad []],.cells 23 [A4 ra.1.kind,A4 ra.1.n,Ad ra.1.s]]) ?_;refine A5 ?_;refine A2 [2,3,4,8,9] ?_;refine Zl ?_;refine A2 [2,3,4,8,9,58] ?_
 refine A3 (fun ht58=>?_) (fun ht58=>?_)
 ·have hm:Ed x.text ra rb d2=Cw ra.2:=by rw [hc,if_pos ht58]
  refine Z2 ?_;refine Z43 ?_;exact Z75
 refine Z19 ?_;refine A2 [2,3,4,8,65] ?_
 refine A3 (fun ht65=>?_) (fun ht65=>?_)
 ·have hm:Ed x.text ra rb d2=(Ht (ra.1.kind==0),0):=by rw [hc,if_neg (by rw [ht58];simp),if_pos (show (x.text==Bx)=true from ht65)]
  refine Z13 ?_;refine A9 Tryz.call88 (c88 _ _) ?_;exact Z75
 refine Z19 ?_;refine A2 [2,3,4,8,73] ?_
 refine A3 (fun ht73=>?_) (fun ht73=>?_)
 ·have hm:Ed x.text ra rb d2=(ra.1,0):=by rw [hc,if_neg (by rw [ht58];simp),if_neg (by show ¬(x.text==Bx)=true;rw [show (x.text==Bx)=false from ht65];simp),if_pos ht73]
  refine Z2 ?_;exact Z75
 have hm:Ed x.text ra rb d2=rb:=by rw [hc,if_neg (by rw [ht58];simp),if_neg (by show ¬(x.text==Bx)=true;rw [show (x.text==Bx)=false from ht65];simp),if_neg (by rw [ht73];simp)]
 refine Z17 ?_;refine ABa ?_
 refine An (h:=Ak (1) (Ac k1) (fun _=>h1 ht65)) (hr:=?_)
 refine An ?_;refine E1 Tryz.call44 (hb ht65 _) ?_;refine Z80 ?_;exact Z45

/-- The first fault of those that were asked. -/
structure AllAt (f:Expr→Rs) (k:List Expr) (x:Nat):Prop where
 le:x≤k.length
 ok:∀(j:Nat) (y:Expr),j<x→k[j]? = some y→((f y).2 != 0)=false
theorem AllAt.bad {f:Expr→Rs} {k:List Expr} {x:Nat} (h:AllAt f k x) (hx:x<k.length) (hb:((f k[x]).2 != 0)=true) (g:List Val→Rs):Kz g (k.map f)=Cw (f k[x]).2:=by
 unfold Kz
 have:(k.map f).find? (fun q=>q.2 != 0)=some ((k.map f)[x]'(by simpa using hx)):=Zr (by simpa using hx) (by simpa using hb) (fun j y hj hy=>by
  rw [C9,Dq] at hy
  obtain ⟨z,hz,rfl⟩:=hy
  exact h.ok j z hj hz)
 rw [this]
 simp
theorem AllAt.all {f:Expr→Rs} {k:List Expr} {x:Nat} (h:AllAt f k x) (hx:k.length≤x) (g:List Val→Rs):Kz g (k.map f)=if (k.take x).any (fun y=>(f y).1.kind==0) then (noV,0) else g ((k.take x).map fun y=>(f y).1):=by
 unfold Kz
 have:(k.map f).find? (fun q=>q.2 != 0)=none:=R2 (fun j y hy=>by
  rw [C9,Dq] at hy
  obtain ⟨z,hz,rfl⟩:=hy
  exact h.ok j z (by have:=(Ab.1 hz).1;omega) hz)
 rw [this,Gu hx]
 simp only [List.any_map,Ig]
 rfl
theorem AllAt.next {f:Expr→Rs} {k:List Expr} {x:Nat} (h:AllAt f k x) (hx:x<k.length) (hb:((f k[x]).2 != 0)=false):AllAt f k (x+1):=⟨hx,Gc hx h.ok hb⟩
theorem wl (f:Expr→Bool) (k:List Expr) {x:Nat} (h:x<k.length):(k.take (x+1)).any f=((k.take x).any f || f k[x]):=by rw [Kb h,List.any_append];simp
theorem pt (f:Expr→Val) (l:List Expr) {x:Nat} (h:x<l.length):((l.take x).map f).map Ba++[Ba (f l[x])]=((l.take (x+1)).map f).map Ba:=by rw [Kb h,C8,C8];rfl
theorem dw {n k:Nat} {own:Bool} {l:List Val}:Low n (.slice own k (l.map Ba)):=low_slice.2 fun y hy=>by
 obtain ⟨z,_,rfl⟩:=C1.1 hy
 simp [or_imp,forall_and]
theorem c90 (c:List Col) (l:List Val) (e:Expr) (hk:e.kids.length≤1048576) (hev:∀y∈e.kids,Jd c l y (By c l y)) (hargs:((∀y∈e.kids,(By c l y).2=0)→ArgsOk e.op (e.kids.map fun y=>(By c l y).1))) (Hp:List AObj):AFun Tryz.prog 90 [Vu c l,Ac e] Hp (Rt (Kz (B0 e.op e.text) (e.kids.map (By c l)))):=by
 refine Ah [.cell 4 23,.tmp 5] [0,1] Tryz.func90 Tryz.ntmps90 (fun d=>?_)
 refine Z1 ?_;refine y7 ?_;refine Z2 ?_;refine A2 [2,3,4,6] ?_;refine E5 ?_;refine Ov 6 3 ?_;refine A5 ?_;refine A2 [2,3,4,6,7] ?_;refine Z55 ?_;refine A2 [2,3,4,6,7,13,14,15] ?_
 refine D7 (α:=Nat) (fun x=>⟨49,A7 2 (.ro [Aq c,Br l]) (A7 3 (.ro (Fd e)) (A7 4 (.ptr (oid Hp.length 0) 0) (A7 6 (.slice true 3 (((e.kids.take x).map fun y=>(By c l y).1).map Ba)) (A7 7 (Bm ((e.kids.take x).any fun y=>(By c l y).1.kind==0)) (A7 13 (.slice false 6 (e.kids.map Ac)) (A7 14 (A4 (e.kids.length:Nat)) (A7 15 (A4 (x:Nat)) (fun _=>.any)))))))),Hp,[.cells 23 [A4 0,A4 0,Ad []]],[],none⟩) (fun x=>AllAt (By c l) e.kids x) (fun x=>e.kids.length-x) (0) ⟨Av _,fun j y h=>by omega⟩ (Cp (by simp)) rfl (fun x hx=>?_)
 refine Z2 ?_;refine A2 [2,3,4,6,7,13,14,15,16] ?_
 refine Dl (fun ht16=>?_) (fun ht16=>?_)
 ·have hlt:x<e.kids.length:=by simpa using ht16
  refine Z88 ?_
  refine A5 (h:=Ak (x) (Ac e.kids[x]) (fun _=>Bk hlt)) (hr:=?_)
  refine Wg ?_;refine A2 [2,3,4,6,7,9,13,14,15] ?_;refine Z1 ?_;refine A9 Tryz.call44 (hev _ (Cl hlt) _) ?_;refine n9 ?_;refine A2 [2,3,4,6,7,10,11,13,14,15] ?_;refine Z29 ?_;refine A2 [2,3,4,6,7,10,11,13,14,15,26] ?_
  refine A3 (fun ht26=>?_) (fun ht26=>?_)
  ·have hm:=hx.bad hlt ht26 (B0 e.op e.text)
   refine Z2 ?_;refine Z43 ?_;refine Z36 ?_;refine Bz ?_;refine Z38 ?_;exact Z26
  refine Wk ?_;refine Z85 ?_;refine A2 [2,3,4,6,7,10,13,14,15] ?_;refine mz ?_;refine Z71 ?_
  refine G8 jU Tryz.type23 ?_ ?_ ?_
  ·simp only [Aw,Cn,Bh,Cm,Tryz.t23];omega
  ·simp only [Aw,Cn,Bh,Cm,Tryz.t23];omega
  refine J0 ?_;refine A2 [2,3,4,6,7,13,14,15] ?_;refine Sr ?_;refine A2 [2,3,4,6,7,13,14,15] ?_;refine Bp (x+1) (hx.next hlt ht26) (by omega) ?_
  simp only [show Tryz.t23.size=3 from rfl,wl _ _ hlt]
  have hvs:((e.kids.take x).map fun y=>(By c l y).1).map Ba++[.agg [.v (.int .i64 (By c l e.kids[x]).1.kind),.v (.int .i64 (By c l e.kids[x]).1.n),.v (sv (By c l e.kids[x]).1.s)]]=((e.kids.take (x+1)).map fun y=>(By c l y).1).map Ba:=pt _ _ hlt
  simp only [hvs]
  exact Dk (own:=[.cells 23 [A4 0,A4 0,Ad []]]) (fun _=>.refl _) (by repeat (first|exact Bj|refine Bi (by first|exact Ej|exact dw|exact l9|(simp [or_imp,forall_and,oid]<;>omega)) ?_)) (by intro y hy;rw [Az.1 hy];intro z hz;simp only [Bg,Hc,or_false] at hz;rcases hz with rfl|rfl|rfl<;>simp) (by simp)
 have hxe:e.kids.length≤x:=by simpa using ht16
 have ha:=hx.all hxe (B0 e.op e.text)
 have htk:e.kids.take x=e.kids:=Gu hxe
 have h00:∀y∈e.kids,(By c l y).2=0:=fun y hy=>by
  obtain ⟨j,hj⟩:=Cc hy
  have:=hx.ok j y (by have:=(Ab.1 hj).1;omega) hj
  simpa using this
 have hao:=hargs h00
 rw [←htk] at hao
 refine Z33 ?_;refine Z35 ?_;refine A2 [3,4,6,42] ?_
 refine A3 (fun ht42=>?_) (fun ht42=>?_)
 ·have hm:Kz (B0 e.op e.text) (e.kids.map (By c l))=(noV,0):=by rw [ha,if_pos ht42]
  refine ABf ?_;exact n7
 have hm:Kz (B0 e.op e.text) (e.kids.map (By c l))=B0 e.op e.text ((e.kids.take x).map fun y=>(By c l y).1):=by rw [ha,if_neg (by rw [ht42];simp)]
 refine Wk ?_;refine A9 Tryz.call137 (AI0 e _ hao _) ?_;refine Z0 ?_;exact Z45

theorem Y7 {e:Expr} (h:Es e=true):(e.op=5→e.kids.length=2)∧(e.op=3∨e.op=4→e.kids.length=1)∧(e.op=6→C4 e.text=(e.kids.length:Int))∧(e.op=1∨e.op=2∨e.op=3∨e.op=4∨e.op=5∨e.op=6):=by
 cases P4 h with
 | val v hp h0=>simp [O7,Expr.op]
 | name t ht=>simp [Cr,Expr.op]
 | neg a=>simp [L7,Expr.op,Expr.kids]
 | no a=>simp [L7,Expr.op,Expr.kids]
 | bin t a b ht=>simp [L6,Expr.op,Expr.kids]
 | call t k ht=>simpa [Expr.op,Expr.kids,Expr.text] using ht
theorem Gs {k:List Expr} {i:Nat} (h:i<k.length):(k.map Ac)[i]? = some (Ac (k.getD i B4))∧k.getD i B4∈k∧∀(f:Expr→Rs) (d:Rs),(k.map f).getD i d=f (k.getD i B4):=by
 have e:k.getD i B4=k[i]:=by rw [Cz,Aa h];rfl
 rw [e]
 refine ⟨by simp [h],Cl h,fun f d=>?_⟩
 rw [Cz,C9,Aa h]
 rfl
theorem an {c:List Col} {l:List Val} {e:Expr} (h1:(e.op==1)=false) (h2:(e.op==2)=false) (h3:((e.op==5)&&(e.text==orW))=false) (h4:((e.op==5)&&(e.text==aj))=false) (h5:((e.op==6)&&(((e.text==ifW) || (e.text==Rn)) || (e.text==Bx)))=false):By c l e=Kz (B0 e.op e.text) (e.kids.map (By c l)):=by
 rw [By,Vj]
 unfold L9
 rw [h1,h2,h3,h4,h5]
 rfl
theorem AA3 {c:List Col} {l:List Val} (hf:∀v∈l,Fine v) {e:Expr} (hnd:Et Es e=true) (hrg:Et M1 e=true) (hv:Et Lc e=true) (h5:((e.op==6)&&(((e.text==ifW) || (e.text==Rn)) || (e.text==Bx)))=false):ArgsOk e.op (e.kids.map fun y=>(By c l y).1):=by
 rw [Nz,Ao] at hnd hrg hv
 obtain ⟨k5,k34,k6,_⟩:=Y7 hnd.1
 refine ⟨fun h=>?_,fun h=>by rw [Aw];exact k34 h,fun h=>?_,fun v hv'=>?_⟩
 ·obtain ⟨a,b,e⟩:=O2 (k5 h)
  rw [e]
  exact ⟨_,_,rfl⟩
 ·rw [Aw]
  rw [h] at h5
  simp only [beq_self_eq_true,Oj,Eo,beq_eq_false_iff_ne] at h5
  rcases Vp (k6 h) with ⟨_,h⟩|⟨_,h⟩|⟨_,h⟩|⟨e,_⟩|⟨e,_⟩|⟨_,h⟩|⟨_,h⟩|⟨e,_⟩
  ·exact .inl h
  ·exact .inl h
  ·exact .inl h
  ·exact absurd e h5.2
  ·exact absurd e h5.1.2
  ·obtain ⟨a,b,e⟩:=O2 h
   rw [e]
   exact .inr ⟨_,_,rfl⟩
  ·obtain ⟨a,b,e⟩:=O2 h
   rw [e]
   exact .inr ⟨_,_,rfl⟩
  exact absurd e h5.1.1
 obtain ⟨y,hy,rfl⟩:=C1.1 hv'
 exact Rp hf y ((Hi _ _).1 hv.2 y hy) ((Hi _ _).1 hrg.2 y hy)
theorem Sk (a b d:Rs):Ed Bx a b d=Ed Bx a (noV,0) (noV,0):=by
 unfold Ed
 rw [show (Bx==ifW)=false from rfl,show (Bx==Bx)=true from rfl]
 rfl
theorem jd {t:Str} (h:(t==ifW)=false) (a b d d':Rs):Ed t a b d=Ed t a b d':=by
 unfold Ed
 rw [h]
 rfl
theorem dx {t:Str} (h:(t==Bx)=true) (a b b' d d':Rs):Ed t a b d=Ed t a b' d':=by
 have e:t=Bx:=by simpa using h
 subst e
 rw [Sk,Sk a b' d']
theorem pu {t:Str} {k:List Expr} {f:Expr→Rs} {a:Rs} (h1:(t==Bx)=false→1<k.length) (h2:(t==ifW)=true→2<k.length):Ed t a ((k.map f).getD 1 (noV,0)) ((k.map f).getD 2 (noV,0))=Ed t a (f (k.getD 1 B4)) (f (k.getD 2 B4)):=by
 cases hn:t==Bx with
 | true=>exact dx hn _ _ _ _ _
 | false =>
  rw [(Gs (h1 hn)).2.2]
  cases hi:t==ifW with
  | true=>rw [(Gs (h2 hi)).2.2]
  | false=>exact jd hi _ _ _ _
theorem c44 (c:List Col) (l:List Val) (hc:OkCols c) (hl:l.length=c.length) (hf:∀v∈l,Fine v):∀(n:Nat) (e:Expr),okE n e→Et Es e=true→Et M1 e=true→Et Lc e=true→Jd c l e (By c l e):=by
 intro n
 induction n with
 | zero=>exact fun e h=>h.elim
 | succ n ih =>
 intro e hok hnd hrg hvo Hp
 have hnd0:=hnd
 have hrg0:=hrg
 have hvo0:=hvo
 rw [Nz,Ao] at hnd0 hrg0 hvo0
 have hev:∀y∈e.kids,Jd c l y (By c l y):=fun y hy=>ih y (hok.2.2 y hy) ((Hi _ _).1 hnd0.2 y hy) ((Hi _ _).1 hrg0.2 y hy) ((Hi _ _).1 hvo0.2 y hy)
 obtain ⟨k5,k34,k6,_⟩:=Y7 hnd0.1
 have hev0:By c l e=L9 B0 c l e.op e.text e.val (e.kids.map (By c l)):=Vj _ _ _ _
 refine Ah [.cell 4 23,.tmp 5] [0,1] Tryz.func44 Tryz.ntmps44 (fun d=>?_)
 refine Z1 ?_;refine y7 ?_;refine Z21 ?_;refine Z19 ?_;refine A2 [2,3,4,7] ?_
 refine A3 (fun ht7=>?_) (fun ht7=>?_)
 ·have hm:By c l e=(e.val,0):=by rw [hev0];unfold L9;rw [if_pos ht7]
  refine Z1 ?_;exact Z75
 refine Z19 ?_;refine A2 [2,3,4,13] ?_
 refine A3 (fun ht13=>?_) (fun ht13=>?_)
 ·have hm0:By c l e=Hw c l e.text:=by rw [hev0];unfold L9;rw [if_neg (by rw [ht7];simp),if_pos ht13]
  refine Z19 ?_;refine A9 Tryz.call58 (c58 c hc e.text _) ?_;refine A5 ?_;refine A2 [2,4,6] ?_;refine Z29 ?_;refine A2 [2,4,6,23] ?_
  refine A3 (fun ht23=>?_) (fun ht23=>?_)
  ·have hm:By c l e=Cw 9:=by rw [hm0];exact if_pos (by simpa using ht23)
   refine We ?_;refine Z36 ?_;refine Bz ?_;exact Z16
  have hneg:¬(Be e.text c<0):=by simpa using ht23
  obtain ⟨j,hj,hjc⟩:=Nd hneg
  have hjl:j<l.length:=by omega
  have hm:By c l e=(l[j],0):=by
   rw [hm0]
   unfold Hw
   rw [if_neg hneg,hj,Int.toNat_natCast,Cz,Aa hjl]
   rfl
  rw [hj]
  refine Su ?_
  refine A5 (h:=Ak (j) (Ba l[j]) (fun _=>Bk hjl)) (hr:=?_)
  refine A5 ?_;exact Z75
 refine Z19 ?_;refine Z85 ?_;refine A2 [2,3,4,32] ?_
 refine A3 (fun ht32=>?_) (fun ht32=>?_)
 ·have h32:((e.op==5)&&(e.text==orW))=true:=ht32
  have hop:e.op=5:=by simp only [Ao,beq_iff_eq] at h32;exact h32.1
  have hkl:=k5 hop
  have hm:By c l e=Hn (Ht true) (By c l (e.kids.getD 0 B4)) (By c l (e.kids.getD 1 B4)):=by rw [hev0];unfold L9;rw [if_neg (by rw [ht7];simp),if_neg (by rw [ht13];simp),if_pos h32,(Gs (by omega)).2.2,(Gs (by omega)).2.2]
  refine ADz ?_;refine E1 Tryz.call88 (c88 _ _) ?_;refine E1 Tryz.call87 (c87 c l e (e.kids.getD 0 B4) (e.kids.getD 1 B4) (Ht true) _ _ (Gs (by omega)).1 (Gs (by omega)).1 (hev _ (Gs (by omega)).2.1) (hev _ (Gs (by omega)).2.1) _) ?_;refine Z80 ?_;exact Z75
 have h32:((e.op==5)&&(e.text==orW))=false:=ht32
 refine Z19 ?_;refine Z85 ?_;refine A2 [2,3,4,47] ?_
 refine A3 (fun ht47=>?_) (fun ht47=>?_)
 ·have h47:((e.op==5)&&(e.text==aj))=true:=ht47
  have hop:e.op=5:=by simp only [Ao,beq_iff_eq] at h47;exact h47.1
  have hkl:=k5 hop
  have hm:By c l e=Hn (Ht false) (By c l (e.kids.getD 0 B4)) (By c l (e.kids.getD 1 B4)):=by rw [hev0];unfold L9;rw [if_neg (by rw [ht7];simp),if_neg (by rw [ht13];simp),if_neg (by rw [h32];simp),if_pos h47,(Gs (by omega)).2.2,(Gs (by omega)).2.2]
  refine ADz ?_;refine E1 Tryz.call88 (c88 _ _) ?_;refine E1 Tryz.call87 (c87 c l e (e.kids.getD 0 B4) (e.kids.getD 1 B4) (Ht false) _ _ (Gs (by omega)).1 (Gs (by omega)).1 (hev _ (Gs (by omega)).2.1) (hev _ (Gs (by omega)).2.1) _) ?_;refine Z80 ?_;exact Z75
 have h47:((e.op==5)&&(e.text==aj))=false:=ht47
 refine Z19 ?_;refine Wi ?_;refine Wi ?_;refine Z10 ?_;refine Z85 ?_;refine A2 [2,3,4,62] ?_
 refine A3 (fun ht62=>?_) (fun ht62=>?_)
 ·have h62:((e.op==6)&&(((e.text==ifW) || (e.text==Rn)) || (e.text==Bx)))=true:=ht62
  obtain ⟨hkl,hl1,hl2⟩:0<e.kids.length∧((e.text==Bx)=false→1<e.kids.length)∧((e.text==ifW)=true→2<e.kids.length):=by
   have h:=h62
   simp only [Ao,Dj,beq_iff_eq] at h
   have ha:=k6 h.1
   rcases h.2 with (h1|h1)|h1
   ·rw [h1] at ha ⊢
    have:e.kids.length=3:=by
     have:C4 ifW=3:=by kernel_rfl
     omega
    exact ⟨by omega,fun _=>by omega,fun _=>by omega⟩
   ·rw [h1] at ha ⊢
    have:e.kids.length=2:=by
     have:C4 Rn=2:=by kernel_rfl
     omega
    exact ⟨by omega,fun _=>by omega,fun h=>absurd h (by decide)⟩
   rw [h1] at ha ⊢
   have:e.kids.length=1:=by
    have:C4 Bx=1:=by kernel_rfl
    omega
   exact ⟨by omega,fun h=>absurd h (by decide),fun h=>absurd h (by decide)⟩
  have hm:By c l e=Ed e.text (By c l (e.kids.getD 0 B4)) (By c l (e.kids.getD 1 B4)) (By c l (e.kids.getD 2 B4)):=by
   rw [hev0]
   unfold L9
   rw [if_neg (by rw [ht7];simp),if_neg (by rw [ht13];simp),if_neg (by rw [h32];simp),if_neg (by rw [h47];simp),if_pos h62,(Gs hkl).2.2]
   exact pu hl1 hl2
  refine Z1 ?_;refine A9 Tryz.call89 (c89 c l e (e.kids.getD 0 B4) (e.kids.getD 1 B4) (e.kids.getD 2 B4) _ _ _ (Gs (by omega)).1 (fun h=>(Gs (hl1 h)).1) (fun h=>(Gs (hl2 h)).1) (hev _ (Gs (by omega)).2.1) (fun h=>hev _ (Gs (hl1 h)).2.1) (fun h=>hev _ (Gs (hl2 h)).2.1) _) ?_;refine Z0 ?_;exact Z75
 have h62:((e.op==6)&&(((e.text==ifW) || (e.text==Rn)) || (e.text==Bx)))=false:=ht62
 have hm:=an (c:=c) (l:=l) ht7 ht13 h32 h47 h62
 refine Z17 ?_;refine Z1 ?_;refine A9 Tryz.call90 (c90 c l e hok.2.1 hev (fun _=>AA3 hf hnd hrg hvo h62) _) ?_;refine Z0 ?_;exact Z45

def Of (l:List Val):Bool:=decide ((50:Int)<(l.length:Int)) || l.any fun v=>decide ((400:Int)<(v.s.length:Int))
theorem c11 (l:List Val) (Hp:List AObj):AFun Tryz.prog 11 [Br l] Hp (Bm (Of l)):=by
 refine Ah [.tmp 2] [0] Tryz.func11 Tryz.ntmps11 (fun d=>?_)
 refine Z46 ?_;refine Z32 ?_;refine A2 [0,6] ?_
 refine A3 (fun ht6=>?_) (fun ht6=>?_)
 ·rw [Aw] at ht6
  have hm:Of l=true:=by unfold Of;rw [ht6];rfl
  refine Z61 ?_;exact Z27
 rw [Aw] at ht6
 have hl50:l.length≤50:=by simp at ht6;omega
 refine bx ?_;refine A2 [0,3] ?_
 refine D7 (α:=Nat) (fun x=>⟨20,A7 0 (Br l) (A7 3 (A4 (x:Nat)) (fun _=>.any)),Hp,[],[],none⟩) (fun x=>x≤l.length∧∀(j:Nat) (v:Val),j<x→l[j]? = some v→decide ((400:Int)<(v.s.length:Int))=false) (fun x=>l.length-x) (0) ⟨Av _,fun j v h=>by omega⟩ (Cp (by simp)) rfl (fun x hx=>?_)
 refine Z55 ?_;refine A2 [0,3,10] ?_
 refine A3 (fun ht10=>?_) (fun ht10=>?_)
 ·have hlt:x<l.length:=by simpa using ht10
  refine Z6 ?_;refine Zm ?_
  refine A5 (h:=Ak (x) (Ba l[x]) (fun _=>Bk hlt)) (hr:=?_)
  refine Z74 ?_;refine A2 [0,3,19] ?_
  refine A3 (fun ht19=>?_) (fun ht19=>?_)
  ·have hm:Of l=true:=by unfold Of;rw [Dj];exact .inr (Ok.2 ⟨l[x],Cl hlt,ht19⟩)
   refine Z61 ?_;exact gc
  refine Z17 ?_;refine Z77 ?_
  refine A5 (h:=Q.add64 (h1:=fun _=>by omega) (h2:=fun _=>by omega)) (hr:=?_)
  refine sg ?_;exact AD8
 have hxe:l.length≤x:=by simpa using ht10
 have hm:Of l=false:=by
  unfold Of
  rw [ht6,F5,Li]
  intro v hv
  obtain ⟨j,hj⟩:=Cc hv
  have:=hx.2 j v (by have:=(Ab.1 hj).1;omega) hj
  rw [this]
  simp
 refine Wj ?_;exact ADt

structure RowAt (c:List Col) (l:List Val) (x:Nat):Prop where
 le:x≤l.length
 ok:∀(i:Nat) (v:Val) (y:Col),i<x→l[i]? = some v→c[i]? = some y→Dm v=true∧(v.kind=0∨v.kind=y.kind)
theorem RowAt.next {c:List Col} {l:List Val} {x:Nat} (h:RowAt c l x) (hl:x<l.length) (hc:x<c.length) (hb:((!(Dm l[x])) || ((l[x].kind != 0)&&(l[x].kind != c[x].kind)))=false):RowAt c l (x+1):=⟨hl,fun i v y hi hv hy=>by
 rcases B3 i x with h'|h'
 ·exact h.ok i v y h' hv hy
 have e:i=x:=by omega
 subst e
 rw [Aa hl] at hv
 rw [Aa hc] at hy
 injection hv with hv
 injection hy with hy
 subst hv
 subst hy
 simp only [Eo,Mg,rc,bne_eq_false_iff_eq] at hb
 exact ⟨hb.1,hb.2⟩⟩
theorem RowAt.bad {c:List Col} {l:List Val} {x:Nat} (hl:x<l.length) (hc:x<c.length) (hb:((!(Dm l[x])) || ((l[x].kind != 0)&&(l[x].kind != c[x].kind)))=true):F3 c l=false:=by
 cases h:F3 c l with
 | false=>rfl
 | true =>
  obtain ⟨h1,h2⟩:=(row_iff.1 h).2.2 x l[x] c[x] (Aa hl) (Aa hc)
  rw [h1] at hb
  simp only [Kp,F5,Ao,bne_iff_ne] at hb
  omega
theorem c12 (c:List Col) (hc:OkCols c) (l:List Val) (hll:l.length≤1048576) (Hp:List AObj):AFun Tryz.prog 12 [Aq c,Br l] Hp (Bm (F3 c l)):=by
 refine Ah [.tmp 4] [0,1] Tryz.func12 Tryz.ntmps12 (fun d=>?_)
 refine Z53 ?_;refine Z35 ?_;refine A9 Tryz.call36 (c36 c hc _) ?_;refine Z59 ?_;refine Wh ?_;refine A2 [0,1,16] ?_
 refine A3 (fun ht16=>?_) (fun ht16=>?_)
 ·have hm:F3 c l=false:=by
   simp only [Aw,Dj,Hz,bne_iff_ne,ne_eq] at ht16
   unfold F3
   rcases ht16 with h|h
   ·rw [h];rfl
   rw [show (l.length==c.length)=false by simpa using (show l.length≠c.length by omega)];simp
  exact n6
 have hcl:Pw c=true∧l.length=c.length:=by
  simp only [Aw,Eo,Mg,bne_eq_false_iff_eq] at ht16
  exact ⟨ht16.1,by omega⟩
 refine gg ?_;refine A2 [0,17,18,19] ?_
 refine D7 (α:=Nat) (fun x=>⟨43,A7 0 (Aq c) (A7 17 (Br l) (A7 18 (A4 (l.length:Nat)) (A7 19 (A4 (x:Nat)) (fun _=>.any)))),Hp,[],[],none⟩) (fun x=>RowAt c l x) (fun x=>l.length-x) (0) ⟨Av _,fun i v y h=>by omega⟩ (Cp (by simp)) rfl (fun x hx=>?_)
 refine Z2 ?_;refine A2 [0,17,18,19,20] ?_
 refine Dl (fun ht20=>?_) (fun ht20=>?_)
 ·have hlt:x<l.length:=by simpa using ht20
  have hlc:x<c.length:=by omega
  refine Z83 ?_
  refine A5 (h:=Ak (x) (Ba l[x]) (fun _=>Bk hlt)) (hr:=?_)
  refine ge ?_;refine A2 [0,5,6,17,18,19] ?_;refine Eb [0,1,3,7,15,31,63,127,255,511,255,255,3327,7423,15615,32767,65535,131071] 15 Al (by kernel_rfl) ?_;refine An ?_;refine E1 Tryz.call37 (c37 _ _) ?_;refine Z12 ?_;refine Z69 ?_;refine Z69 ?_;refine Z69 ?_;refine Z69 ?_
  refine Fl (h:=Ak (x) (Bs c[x]) (fun _=>Bk hlc)) (hr:=?_)
  refine Z69 ?_;refine Gl ?_;refine U7 ?_;refine A2 [0,17,18,19,41] ?_
  refine A3 (fun ht41=>?_) (fun ht41=>?_)
  ·have hm:=RowAt.bad hlt hlc ht41
   refine Z73 ?_;exact gc
  refine Z58 ?_;refine A2 [0,17,18,19] ?_;refine Bp (x+1) (hx.next hlt hlc ht41) (by omega) ?_
  exact Dk (own:=[]) (fun _=>.refl _) (by repeat (first|exact Bj|refine Bi (by first|exact dw|exact low_cols|(simp [or_imp,forall_and];done)) ?_)) (by simp) (by simp)
 have hxe:l.length≤x:=by simpa using ht20
 have hm:F3 c l=true:=row_iff.2 ⟨by rw [←Ny];exact hcl.1,hcl.2,fun i v y hv hy=>hx.ok i v y (by have:=(Ab.1 hv).1;omega) hv hy⟩
 refine Z33 ?_;exact Z99

theorem wm {e:Expr} (h:Es e=true):Lc e=true:=by
 unfold Lc
 cases P4 h with
 | val v hp h0=>simpa [O7,Expr.op,Expr.val] using hp
 | name t ht=>rfl
 | neg a=>rfl
 | no a=>rfl
 | bin t a b ht=>rfl
 | call t k ht=>rfl
mutual
theorem lq:∀e:Expr,Et Es e=true→Et Lc e=true
 | .mk o t v k,h=>by
  rw [Et,Ao] at h ⊢
  exact ⟨wm h.1,dy k h.2⟩
theorem dy:∀k:List Expr,N7 Es k=true→N7 Lc k=true
  | [],_=>rfl
  | e::r,h=>by
    rw [N7,Ao] at h ⊢
    exact ⟨lq e h.1,dy r h.2⟩
 end
theorem wn {c:List Col} {l:List Val} (h:F3 c l=true) (hr:∀v∈l, -9223372036854775808≤v.n∧v.n≤9223372036854775807):∀v∈l,Fine v:=fun v hv=>by
 obtain ⟨i,hi⟩:=Cc hv
 obtain ⟨_,h2,h3⟩:=row_iff.1 h
 have hil:=(Ab.1 hi).1
 exact ⟨(h3 i v _ hi (Aa (show i<c.length by omega))).1,(hr v hv).1,(hr v hv).2⟩
theorem c15 (n:Nat) (x:Expr) (hok:okE n x) (hn:n≤1048576) (hrg:Et M1 x=true) (c:List Col) (hc:OkCols c) (l:List Val) (hll:l.length≤1048576) (hlr:∀v∈l, -9223372036854775808≤v.n∧v.n≤9223372036854775807) (Hp:List AObj):AFun Tryz.prog 15 [Ac x,Aq c,Br l] Hp (Rt (Dt x c l)):=by
 refine Ah [.cell 6 23,.tmp 7] [0,1,2] Tryz.func15 Tryz.ntmps15 (fun d=>?_)
 refine Z2 ?_;refine Z60 ?_;refine A2 [1,2,3,6] ?_;refine Z35 ?_;refine A9 Tryz.call38 (c38 n x hok hn _) ?_;refine Z59 ?_;refine Cd Tryz.call12 (fun hB=>c12 c hc l hll _) ?_;refine U6 ?_;refine A2 [1,2,3,6,16] ?_
 refine A3 (fun ht16=>?_) (fun ht16=>?_)
 ·have hm:Dt x c l=Cw 1:=if_pos ht16
  refine We ?_;refine my ?_;exact Z26
 have hm:Dt x c l=By c l x:=if_neg (by rw [ht16];simp)
 have hrr:B6 x=true∧F3 c l=true:=by simpa using ht16
 obtain ⟨hr,hrow⟩:=hrr
 refine Wk ?_;refine Zo ?_;refine A5 ?_;refine A9 Tryz.call44 (c44 c l hc (row_iff.1 hrow).2.1 (wn hrow hlr) n x hok (Kj hr) hrg (lq x (Kj hr)) _) ?_;refine Z0 ?_;exact ADb

theorem pv {x:Expr} {c:List Col} {l:List Val} (hk:(H6 x c).2=0) (hrow:F3 c l=true):KOk (H6 x c).1 (Dt x c l):=by
 obtain ⟨h1,h2,h3⟩:=w8 hk
 rw [h3] at hk ⊢
 rw [zv h1 hrow]
 exact lm hrow (sizeE x) x (Ae _) (Kj h1) hk
theorem wo {l:List Val} (h:Of l=false):l.length≤1048576:=by
 unfold Of at h
 simp only [Eo,decide_eq_false_iff_not] at h
 omega
theorem Dy {n k:Nat} {o:Bool} {l:List Val}:Low n (.slice o k (l.map Ba)):=by simp [or_imp,forall_and]
theorem Jj {n k:Nat} {o:Bool} {l:List Val} {v:Val}:Low n (.slice o k (l.map Ba++[Ba v])):=by simp [or_imp,forall_and]
theorem AAx {l:List Val} {j:Nat} (h:j<l.length):(l.map Ba)[j]? = some (Ba (l.getD j noV)):=by
 rw [C9,Aa h,Cz,Aa h];rfl
theorem Nm {l:List Val} (h:∀v∈l,Fine v):∀v∈l, -9223372036854775808≤v.n∧v.n≤9223372036854775807:=fun v hv=>⟨(h v hv).lo,(h v hv).hi⟩
theorem Y8 {c:List Col} {row:List Val}:∀{l:List Expr},(Au c row l).1.length≤l.length
 | []=>Ae _
 | x::r=>by
  rw [Au]
  repeat' split
  ·exact gi
  ·exact gi
  have:=Y8 (c:=c) (row:=row) (l:=r)
  simp only [Bh]
  omega
theorem lr {take:List Str} {c:List Col} {row:List Val}:(E3 take c row).length≤c.length:=by
 unfold E3
 rw [Aw]
 refine Ij (jp _ _) ?_
 rw [Sz]
 omega
theorem ls {v:Str} {l:List Str} (h:0≤J2 v l):∃j:Nat,J2 v l=j∧j<l.length:=by
 unfold J2 at h ⊢
 cases hf:l.findIdx? (·==v) with
 | none=>rw [hf] at h;exact absurd h (by decide)
 | some i=>exact ⟨i,rfl,(Mh.1 hf).1⟩
theorem wp {nm:Str} {c:List Col} {y:Col} (h:y∈c) (hn:y.name=nm):∃j:Nat,Be nm c=j∧j<c.length:=by
 unfold Be
 cases hf:c.findIdx? (fun y=>y.name==nm) with
 | none =>
  rw [Qq] at hf
  have:=hf y h
  rw [hn] at this
  simp at this
 | some i=>exact ⟨i,rfl,(Mh.1 hf).1⟩
/-- A column that is not taken is there behind the move. -/
theorem ACn {c:List Col} {m:Mov} {y:Col} (ht:(Bb c m).2=0) (hy:y∈c) (hn:¬0≤J2 y.name m.take):∃j:Nat,Be y.name (Bb c m).1=j∧j<(Bb c m).1.length:=by
 refine wp (y:=y) ?_ rfl
 rw [(K5 ht).1]
 refine Ym _ ?_
 unfold D3
 rw [T3]
 refine ⟨hy,?_⟩
 rw [←ae,decide_eq_false hn]
 rfl
theorem c51 (a b:List Val) (ha:a.length≤1048576) (Hp:List AObj):AFun Tryz.prog 51 [Br a,Br b] Hp (Bm (decide (a=b))):=by
 refine Ah [.tmp 4] [0,1] Tryz.func51 Tryz.ntmps51 (fun d=>?_)
 refine Z53 ?_;refine Z55 ?_;refine A5 ?_;refine A2 [0,1,10] ?_
 refine A3 (fun ht10=>?_) (fun ht10=>?_)
 ·refine Z73 ?_;refine Bz ?_;exact A8 (Aj A6) ⟨by rw [AEm (by simpa using ht10)],rfl⟩
 refine gg ?_;refine A2 [0,1,12,13] ?_
 refine D7 (α:=Nat) (fun x=>⟨26,A7 0 (Br a) (A7 1 (Br b) (A7 12 (A4 (a.length:Nat)) (A7 13 (A4 (x:Nat)) (fun _=>.any)))),Hp,[],[],none⟩) (fun x=>x≤a.length∧∀(j:Nat) (y:Val),j<x→a[j]? = some y→b[j]? = some y) (fun x=>a.length-x) (0) (by simp) (Cp (by simp)) rfl (fun x hx=>?_)
 refine Z2 ?_;refine A2 [0,1,12,13,14] ?_
 refine Dl (fun ht14=>?_) (fun ht14=>?_)
 ·have hlt:x<a.length:=by simpa using ht14
  have hlb:x<b.length:=by have:=ABn ht10;omega
  refine Zm ?_;refine A2 [0,1,5,12,13] ?_;refine W.draw [0,0,3,7,0,0,48,112,255] 8 Al (by kernel_rfl) ?_;refine Z12 ?_
  refine An (h:=Ak (x) (Ba a[x]) (fun _=>Bk hlt)) (hr:=?_)
  refine Z39 ?_
  refine An (h:=Ak (x) (Ba b[x]) (fun _=>Bk hlb)) (hr:=?_)
  refine An ?_;refine Gl ?_
  refine A5 (h:=Q.neqAgg Wm (Im a[x].kind a[x].n b[x].kind b[x].n a[x].s b[x].s)) (hr:=?_)
  refine A2 [0,1,12,13,24] ?_
  refine A3 (fun ht24=>?_) (fun ht24=>?_)
  ·rw [kc] at ht24
   refine Z73 ?_;refine Z62 ?_;exact A8 (Aj A6) ⟨by rw [AG0 hlt hlb (by simpa using ht24)],rfl⟩
  rw [kc] at ht24
  refine Z58 ?_;refine A2 [0,1,12,13] ?_
  exact Bp (x+1) ⟨hlt,Lx (p:=fun j y=>b[j]? = some y) hlt hx.2 (by rw [Aa hlb];simpa using (Eq.symm (by simpa using ht24):b[x]=a[x]))⟩ (by omega) (Ea rfl)
 have hxe:a.length≤x:=by simpa using ht14
 refine Z33 ?_;refine Z73 ?_;exact A8 (Aj A6) ⟨by rw [AEo (by simpa using ht10) (Nv hxe hx.2)],rfl⟩

theorem c49 (l:List Val) (hl:l.length≤1048576) (Hp:List AObj):AFun Tryz.prog 49 [Br l] Hp (Br l):=by
 refine Ah [.tmp 2] [0] Tryz.func49 Tryz.ntmps49 (fun d=>?_)
 refine Z46 ?_;refine Z35 ?_
 refine R.eqlNil jU (by kernel_rfl) (fun b hb=>?_)
 refine A2 [0,4] ?_
 refine A3 (fun ht4=>?_) (fun ht4=>?_)
 ·have hl0:l=[]:=by simpa using hb ht4
  subst hl0
  refine Z2 ?_;refine R7 2 3 false ?_;refine Z4 ?_;exact ADw
 refine bt ?_;refine Pq ?_;refine A5 ?_
 refine G8 jU Tryz.type23 ?_ ?_ ?_
 ·simp [Tryz.t23];omega
 ·simp [Tryz.t23];omega
 refine J0 ?_;exact ADy

theorem c95 (c:List Col) (hc:OkCols c) (row:List Val) (hf:∀v∈row,Fine v) (hrl:row.length≤1048576) (l:List Expr) (h:OkEs l) (Hp:List AObj):AFun Tryz.prog 95 [M2 l,Aq c,Br row] Hp (.tup [Br (Au c row l).1,A4 (Au c row l).2]):=by
 refine Ah [.tmp 6,.tmp 7] [0,1,2] Tryz.func95 Tryz.ntmps95 (fun d=>?_)
 refine Z1 ?_;refine U8 ?_;refine Z2 ?_;refine A2 [0,1,2,8] ?_;refine Z64 ?_
 have hlen:=h.len
 refine Ov 8 3 ?_;refine Z28 ?_;refine A2 [1,2,8,13,14,15] ?_
 refine D7 (α:=Nat) (fun x=>⟨35,A7 1 (Aq c) (A7 2 (Br row) (A7 8 (.slice true 3 (((l.take x).map fun e=>(Dt e c row).1).map Ba)) (A7 13 (M2 l) (A7 14 (A4 (l.length:Nat)) (A7 15 (A4 (x:Nat)) (fun _=>.any)))))),Hp,[],[],none⟩) (fun x=>x≤l.length∧∀(j:Nat) (y:Expr),j<x→l[j]? = some y→((Dt y c row).2 != 0)=false) (fun x=>l.length-x) (0) ⟨Av _,fun j y h=>by omega⟩ (Cp (by simp)) rfl (fun x hx=>?_)
 refine Z2 ?_;refine A2 [1,2,8,13,14,15,16] ?_
 refine Dl (fun ht16=>?_) (fun ht16=>?_)
 ·have hlt:x<l.length:=by simpa using ht16
  refine Z88 ?_
  refine A5 (h:=Ak (x) (Ac l[x]) (fun _=>Bk hlt)) (hr:=?_)
  refine Wg ?_;refine A2 [1,2,8,10,13,14,15] ?_;refine Z13 ?_;refine A9 Tryz.call15 (c15 61 l[x] (h.ok _ (Cl hlt)) (by decide) (h.rng _ (Cl hlt)) c hc row hrl (Nm hf) _) ?_;refine n9 ?_;refine A2 [1,2,8,11,12,13,14,15] ?_;refine Z29 ?_;refine A2 [1,2,8,11,12,13,14,15,27] ?_
  refine A3 (fun ht27=>?_) (fun ht27=>?_)
  ·have hm:=Vr hx.2 (Aa hlt) ht27
   refine Z1 ?_;refine g9 ?_;refine Bz ?_;refine Z38 ?_;exact Z41
  refine Z6 ?_;refine mz ?_;refine Z71 ?_
  refine G8 jU Tryz.type23 ?_ ?_ ?_
  ·simp only [Aw,Cn,Ap,Bh,Cm,Tryz.t23];omega
  ·simp only [Aw,Cn,Ap,Bh,Cm,Tryz.t23];omega
  refine J0 ?_;refine A2 [1,2,8,13,14,15] ?_;refine Sr ?_;refine A2 [1,2,8,13,14,15] ?_;refine Bp (x+1) ⟨hlt,Gc hlt hx.2 ht27⟩ (by omega) ?_
  rw [Xz hlt,C8,Bt,Eu]
  exact Dk (own:=[]) (fun _=>.refl _) (by repeat (first|exact Bj|refine Bi (by first|exact Ic|exact Dy|exact Jj|exact Gr|exact Dw|exact Fi|exact Low.ro _ Kk|(simp [or_imp,forall_and];done)) ?_)) (by simp) (by simp)
 have hxe:l.length≤x:=by simpa using ht16
 have hm:=Vq (c:=c) (row:=row) fun j y hy=>hx.2 j y (by have:=(Ab.1 hy).1;omega) hy
 rw [Gu hxe]
 refine Z33 ?_;refine Z13 ?_;refine Z30 ?_;exact A8 (B9 A6 A6) ⟨by rw [hm],rfl⟩ (hlow:=by simpa using (Dy (n:=Hp.length) (k:=3) (o:=false) (l:=l.map fun e=>(Dt e c row).1)))

theorem c50 (c:List Col) (hc:OkCols c) (m:Mov) (h:OkMov m) (row:List Val) (hf:∀v∈row,Fine v) (hl:row.length=c.length) (Hp:List AObj):AFun Tryz.prog 50 [Aq c,Gn m,Br row] Hp (.tup [Br (Bn c m row).1,A4 (Bn c m row).2]):=by
 have hcl:=hc.len
 have hrk:=Y8 (c:=c) (row:=row) (l:=m.ahead)
 have hal:=h.ahead.len
 refine Ah [.tmp 6,.tmp 7] [0,1,2] Tryz.func50 Tryz.ntmps50 (fun d=>?_)
 refine Z13 ?_;refine A2 [0,2,4] ?_;refine Z19 ?_;refine A9 Tryz.call95 (c95 c hc row hf (by omega) m.ahead h.ahead _) ?_;refine Z63 ?_;refine A2 [0,2,4,8,9] ?_;refine Z29 ?_;refine A2 [0,2,4,8,9,22] ?_
 refine A3 (fun ht22=>?_) (fun ht22=>?_)
 ·have hm:Bn c m row=([],(Au c row m.ahead).2):=if_pos ht22
  refine Z1 ?_;refine g9 ?_;exact Z41
 have hm:Bn c m row=(E3 m.take c row++(Au c row m.ahead).1,0):=if_neg (by rw [ht22];simp)
 refine Z96 ?_;refine A2 [0,2,4,8,10] ?_;refine Z64 ?_;refine Ov 10 3 ?_;refine Z28 ?_;refine A2 [2,4,8,10,24,25,26] ?_
 refine D7 (α:=Nat) (fun x=>⟨48,A7 2 (Br row) (A7 4 (.ro (af m)) (A7 8 (Br (Au c row m.ahead).1) (A7 10 (.slice true 3 ((E3 m.take (c.take x) row).map Ba)) (A7 24 (Aq c) (A7 25 (A4 (c.length:Nat)) (A7 26 (A4 (x:Nat)) (fun _=>.any))))))),Hp,[],[],none⟩) (fun x=>x≤c.length) (fun x=>c.length-x) (0) (Av _) (Cp (by simp [E3])) rfl (fun x hx=>?_)
 refine Z2 ?_;refine A2 [2,4,8,10,24,25,26,27] ?_
 refine Dl (fun ht27=>?_) (fun ht27=>?_)
 ·have hlt:x<c.length:=by simpa using ht27
  have hxr:x<row.length:=by omega
  have hkl:=lr (take:=m.take) (c:=c.take x) (row:=row)
  rw [Cn] at hkl
  refine Z83 ?_
  refine A5 (h:=Ak (x) (Bs c[x]) (fun _=>Bk hlt)) (hr:=?_)
  refine ge ?_;refine A2 [2,4,8,10,11,12,24,25,26] ?_;refine Z19 ?_;refine A9 Tryz.call96 (c96 m.take c[x].name h.takes _) ?_;refine A5 ?_;refine A2 [2,4,8,10,11,24,25,26,36] ?_
  refine A3 (fun ht36=>?_) (fun ht36=>?_)
  ·have hk:=zz hlt hxr (by simpa using ht36)
   refine mz ?_;refine Z0 ?_
   refine A5 (h:=Ak (x) (Ba row[x]) (fun _=>Bk hxr)) (hr:=?_)
   refine Z71 ?_
   refine G8 jU Tryz.type23 ?_ ?_ ?_
   ·simp only [Aw,Cn,Ap,Bh,Cm,Tryz.t23];omega
   ·simp only [Aw,Cn,Ap,Bh,Cm,Tryz.t23];omega
   refine J0 ?_;refine A2 [2,4,8,10,24,25,26] ?_;refine Sr ?_;refine A2 [2,4,8,10,24,25,26] ?_;refine su ?_
   simp only [hk,C8,Bt,Eu]
   exact Dk (own:=[]) (fun _=>.refl _) (by repeat (first|exact Bj|refine Bi (by first|exact Ic|exact Dy|exact Jj|exact Gr|exact Dw|exact Fi|exact Low.ro _ Kk|(simp [or_imp,forall_and];done)) ?_)) (by simp) (by simp)
  have hk:=wd hlt hxr (by simpa using ht36)
  refine Z58 ?_;refine A2 [2,4,8,10,24,25,26] ?_;refine su ?_
  simp only [hk,C8,Bt,Eu]
  exact Dk (own:=[]) (fun _=>.refl _) (by repeat (first|exact Bj|refine Bi (by first|exact Ic|exact Dy|exact Jj|exact Gr|exact Dw|exact Fi|exact Low.ro _ Kk|(simp [or_imp,forall_and];done)) ?_)) (by simp) (by simp)
 have hxe:c.length≤x:=by simpa using ht27
 rw [Gu hxe]
 have hkl:=lr (take:=m.take) (c:=c) (row:=row)
 refine Z33 ?_;refine E5 ?_;refine R.moveT ?_;refine A5 ?_
 refine G8 jU Tryz.type23 ?_ ?_ ?_
 ·simp only [Aw,Cn,Ap,Bh,Cm,Tryz.t23];omega
 ·simp only [Aw,Cn,Ap,Bh,Cm,Tryz.t23];omega
 refine J0 ?_;refine Z94 ?_;exact A8 (B9 A6 A6) ⟨by rw [hm,←C8]<;>rfl,rfl⟩ (hlow:=by rw [←C8];simpa using (Dy (n:=Hp.length) (k:=3) (o:=false) (l:=E3 m.take c row++(Au c row m.ahead).1)))

theorem c68 (a dd:List Col) (ha:a.length≤1048576) (hd:OkCols dd) (m:Mov) (h:OkMov m) (hb:m.back.length=m.take.length) (hs:∀y∈a,¬0≤J2 y.name m.take→∃j:Nat,Be y.name dd=j∧j<dd.length) (row:List Val) (hf:∀v∈row,Fine v) (hl:row.length=dd.length) (Hp:List AObj):AFun Tryz.prog 68 [Aq a,Aq dd,Gn m,Br row] Hp (.tup [Br (C0 a dd m row).1,A4 (C0 a dd m row).2]):=by
 have hdl:=hd.len
 refine Ah [.tmp 8,.tmp 9] [0,1,2,3] Tryz.func68 Tryz.ntmps68 (fun d=>?_)
 refine Z13 ?_;refine A2 [0,1,3,6] ?_;refine Z19 ?_;refine A9 Tryz.call95 (c95 dd hd row hf (by omega) m.back h.back _) ?_;refine Z63 ?_;refine A2 [0,1,3,6,10,11] ?_;refine Z29 ?_;refine A2 [0,1,3,6,10,11,25] ?_
 refine A3 (fun ht25=>?_) (fun ht25=>?_)
 ·have hm:C0 a dd m row=([],(Au dd row m.back).2):=if_pos ht25
  refine Z1 ?_;refine R7 8 3 false ?_;refine A5 ?_;refine A2 [8,9] ?_;refine Ep ?_;exact Z41
 have hm:C0 a dd m row=((a.map (Qc m.take (Au dd row m.back).1 row dd)),0):=if_neg (by rw [ht25];simp)
 have hwl:=M5 (c:=dd) (row:=row) (l:=m.back) (by simpa using ht25)
 refine Z96 ?_;refine A2 [0,1,3,6,10,12] ?_;refine Z64 ?_;refine Ov 12 3 ?_;refine Z28 ?_;refine t6 ?_
 refine D7 (α:=Nat) (fun x=>⟨59,A7 1 (Aq dd) (A7 3 (Br row) (A7 6 (.ro (af m)) (A7 10 (Br (Au dd row m.back).1) (A7 12 (.slice true 3 (((a.map (Qc m.take (Au dd row m.back).1 row dd)).take x).map Ba)) (A7 27 (Aq a) (A7 28 (A4 (a.length:Nat)) (A7 29 (A4 (x:Nat)) (fun _=>.any)))))))),Hp,[],[],none⟩) (fun x=>x≤a.length) (fun x=>a.length-x) (0) (Av _) (Cp (by simp)) rfl (fun x hx=>?_)
 refine Z2 ?_;refine A2 [1,3,6,10,12,27,28,29,30] ?_
 refine Dl (fun ht30=>?_) (fun ht30=>?_)
 ·have hlt:x<a.length:=by simpa using ht30
  have hol:((a.map (Qc m.take (Au dd row m.back).1 row dd)).take x).length≤x:=List.length_take_le _ _
  have hon:(a.map (Qc m.take (Au dd row m.back).1 row dd)).take (x+1)=(a.map (Qc m.take (Au dd row m.back).1 row dd)).take x++[Qc m.take (Au dd row m.back).1 row dd a[x]]:=by
   rw [Kb (by rw [Aw];exact hlt),Mi]
  refine Z88 ?_
  refine A5 (h:=Ak (x) (Bs a[x]) (fun _=>Bk hlt)) (hr:=?_)
  refine Wg ?_;refine A2 [1,3,6,10,12,14,27,28,29] ?_;refine Z55 ?_;refine A9 Tryz.call70 (c70 m.take a[x].name h.takes _) ?_;refine A5 ?_;refine A2 [1,3,6,10,12,14,15,27,28,29] ?_;refine Z1 ?_;refine A2 [1,3,6,10,12,14,15,27,28,29,39] ?_
  refine A3 (fun ht39=>?_) (fun ht39=>?_)
  ·have hj0:0≤J2 a[x].name m.take:=by simpa using ht39
   obtain ⟨j,hj,hjl⟩:=ls hj0
   have hw:Qc m.take (Au dd row m.back).1 row dd a[x]=(Au dd row m.back).1.getD j noV:=by unfold Qc;rw [if_pos hj0,hj];rfl
   refine E5 ?_;refine R.moveT ?_;refine Z0 ?_
   refine A5 (h:=Ak (j) (Ba ((Au dd row m.back).1.getD j noV)) (fun _=>AAx (by omega))) (hr:=?_)
   refine Z71 ?_
   refine G8 jU Tryz.type23 ?_ ?_ ?_
   ·simp only [Aw,Cn,Ap,Bh,Cm,Tryz.t23];omega
   ·simp only [Aw,Cn,Ap,Bh,Cm,Tryz.t23];omega
   refine J0 ?_;refine t6 ?_;refine Z70 ?_;refine K.blE ?_;refine Gm ?_;refine Z20 ?_;refine t6 ?_;refine su ?_
   rw [hon,hw,C8,Bt,Eu]
   exact Dk (own:=[]) (fun _=>.refl _) (by repeat (first|exact Bj|refine Bi (by first|exact Ic|exact Dy|exact Jj|exact Gr|exact Dw|exact Fi|exact Low.ro _ Kk|(simp [or_imp,forall_and];done)) ?_)) (by simp) (by simp)
  have hjn:¬0≤J2 a[x].name m.take:=by simpa using ht39
  obtain ⟨j,hj,hjl⟩:=hs a[x] (Cl hlt) hjn
  have hw:Qc m.take (Au dd row m.back).1 row dd a[x]=row.getD j noV:=by unfold Qc;rw [if_neg hjn,hj];rfl
  refine Z6 ?_;refine mz ?_;refine Z74 ?_;refine A9 Tryz.call58 (c58 dd hd a[x].name _) ?_
  refine A5 (h:=Ak (j) (Ba (row.getD j noV)) (fun _=>AAx (by omega))) (hr:=?_)
  refine Z71 ?_
  refine G8 jU Tryz.type23 ?_ ?_ ?_
  ·simp only [Aw,Cn,Ap,Bh,Cm,Tryz.t23];omega
  ·simp only [Aw,Cn,Ap,Bh,Cm,Tryz.t23];omega
  refine J0 ?_;refine t6 ?_;refine Sr ?_;refine t6 ?_;refine su ?_
  rw [hon,hw,C8,Bt,Eu]
  exact Dk (own:=[]) (fun _=>.refl _) (by repeat (first|exact Bj|refine Bi (by first|exact Ic|exact Dy|exact Jj|exact Gr|exact Dw|exact Fi|exact Low.ro _ Kk|(simp [or_imp,forall_and];done)) ?_)) (by simp) (by simp)
 have hxe:a.length≤x:=by simpa using ht30
 rw [Gu (by rw [Aw];exact hxe)]
 refine Z33 ?_;refine Z13 ?_;refine A2 [8,9] ?_;refine Ep ?_;exact A8 (B9 A6 A6) ⟨by rw [hm],rfl⟩ (hlow:=by simpa using (Dy (n:=Hp.length) (k:=3) (o:=false) (l:=(a.map (Qc m.take (Au dd row m.back).1 row dd)))))

theorem c17 (c:List Col) (hc:OkCols c) (hc2:c.length≤1000000) (l:List Mov) (h:OkMovs l) (row:List Val) (hrr:∀v∈row, -9223372036854775808≤v.n∧v.n≤9223372036854775807) (hrl:row.length≤1048576) (Hp:List AObj):AFun Tryz.prog 17 [Aq c,Fw l,Br row] Hp (.tup [Br (Bq c l row).1,A4 (Bq c l row).2]):=by
 refine Ah [.tmp 6,.tmp 7] [0,1,2] Tryz.func17 Tryz.ntmps17 (fun d=>?_)
 refine Z1 ?_;refine U8 ?_;refine Z1 ?_;refine A9 Tryz.call48 (c48 c hc hc2 l h _) ?_;refine Z63 ?_;refine A2 [0,1,2,8,9] ?_;refine Z32 ?_;refine Z10 ?_;refine Cd Tryz.call12 (fun hB=>c12 c hc row hrl _) ?_;refine U6 ?_;refine A2 [1,2,8,26] ?_
 refine A3 (fun ht26=>?_) (fun ht26=>?_)
 ·have hm:Bq c l row=([],1):=if_pos ht26
  refine Z2 ?_;refine g9 ?_;exact Z41
 have hm0:Bq c l row=fwM c l row l.length:=if_neg (by rw [ht26];simp)
 have h26:((Db c l).2 != 0)=false∧F3 c row=true:=by simpa using ht26
 obtain ⟨hmay,hst,hss⟩:=H4 h26.1
 have hR0:=Nl h26.2 hrr
 have hmvo:=Lf hmay
 have hlen:=h.len
 rw [hss]
 refine Z96 ?_;refine A9 Tryz.call49 (c49 row hrl _) ?_;refine A5 ?_;refine A2 [1,8,10] ?_;refine Z32 ?_;refine A2 [8,10,29,30,31] ?_
 refine D7 (α:=Nat) (fun x=>⟨51,A7 8 (Ky (Cv c l l.length)) (A7 10 (Br (fwM c l row x).1) (A7 29 (Fw l) (A7 30 (A4 (l.length:Nat)) (A7 31 (A4 (x:Nat)) (fun _=>.any))))),Hp,[],[],none⟩) (fun x=>x≤l.length∧(fwM c l row x).2=0∧RowI (colsAt c l x) (fwM c l row x).1) (fun x=>l.length-x) (0) ⟨Av _,rfl,hR0⟩ (Cp (by simp [fwM])) rfl (fun x hx=>?_)
 refine Z2 ?_;refine A2 [8,10,29,30,31,32] ?_
 refine Dl (fun ht32=>?_) (fun ht32=>?_)
 ·have hlt:x<l.length:=by simpa using ht32
  obtain ⟨hxl,hfx,hR⟩:=hx
  obtain ⟨m,hm⟩:∃m,m=l[x]:=⟨_,rfl⟩
  have hml:l[x]? = some m:=by rw [hm];exact Aa hlt
  have hmx:(l.map Gn)[x]? = some (Gn m):=by rw [hm];exact Bk hlt
  have hmo:=h.each m (Ar hml)
  have hmv:=hmvo m (Ar hml)
  have hCx:=Gf hc (fun m hm=>h.each m hm) x
  have htn:=O3 hst hml
  refine Z83 ?_
  refine A5 (h:=Ak (x) (Gn m) (fun _=>hmx)) (hr:=?_)
  refine ge ?_;refine A2 [8,10,11,12,29,30,31] ?_;refine W.draw [0,0,3,7,0,0,63,127,255,255,511,2047] 11 Al (by kernel_rfl) ?_;refine Z12 ?_
  refine An (h:=Ak (x) (Aq (colsAt c l x)) (fun _=>zn (Ni (by omega)))) (hr:=?_)
  refine Z39 ?_;refine E1 Tryz.call50 (c50 (colsAt c l x) hCx m hmo (fwM c l row x).1 hR.fine hR.len _) ?_;refine Z12 ?_;refine Z80 ?_;refine A5 ?_;refine A2 [8,9,10,29,30,31] ?_;refine Z1 ?_;refine A2 [8,9,10,29,30,31,47] ?_
  refine A3 (fun ht47=>?_) (fun ht47=>?_)
  ·have hm2:Bq c l row=([],(Bn (colsAt c l x) m (fwM c l row x).1).2):=by rw [hm0];exact AA0 hml hfx (by simpa using ht47)
   refine Z1 ?_;refine g9 ?_;refine Z62 ?_;exact A8 (B9 A6 A6) ⟨by rw [hm2]<;>rfl,rfl⟩
  have hnx:=O4 hml hfx
  have hok:(Bn (colsAt c l x) m (fwM c l row x).1).2=0:=by simpa using ht47
  have hRn:=Rr htn hmv (fun e he=>hmo.ahead.rng e he) hR hok
  refine Z58 ?_;refine A2 [8,10,29,30,31] ?_
  refine Bp (x+1) ⟨hlt,by rw [hnx];exact hok,by rw [hnx,H7 hml];exact hRn⟩ (by omega) ?_
  rw [hnx]
  exact Dk (own:=[]) (fun _=>.refl _) (by repeat (first|exact Bj|refine Bi (by first|exact Ic|exact Dy|exact Jj|exact Gr|exact Dw|exact Fi|exact Low.ro _ Kk|(simp [or_imp,forall_and];done)) ?_)) (by simp) (by simp)
 have hxe:x=l.length:=by simp at ht32;have:=hx.1;omega
 subst hxe
 have hm1:Bq c l row=((fwM c l row l.length).1,0):=by rw [hm0];exact Lo rfl hx.2.1
 refine Z33 ?_;refine Z13 ?_;refine Z30 ?_;exact A8 (B9 A6 A6) ⟨by rw [hm1],rfl⟩ (hlow:=by simpa using (Dy (n:=Hp.length) (k:=3) (o:=false) (l:=(fwM c l row l.length).1)))

/-! slices.Backward of moves. -/
theorem AI1 (l0:Nat) (ms:List Mov) (hml:ms.length≤1048576) (U:Nat→List AObj) (N:Nat→Prop) (Z:List AObj→Prop) (hlen:∀k,(U k).length=(U 0).length) (hll:l0<(U 0).length)
  (hlw:∀k,∀x∈U k,ObjLow (U 0).length x) (h0:N 0)
  (hy:∀k m X,k<ms.length→ms[ms.length-1-k]? = some m→N k→AYield Tryz.prog l0 [A4 ((ms.length-1-k:Nat):Int),Gn m] (U k++X) (fun b H'=>(b=true∧N (k+1)∧H'=U (k+1)++X)∨(b=false∧∃V,H'=V++X∧V.length=(U 0).length∧(∀x∈V,ObjLow (U 0).length x)∧Z V)))
  (hR:N ms.length→Z (U ms.length)):ACall Tryz.prog 112 [.yield l0,.ro [Fw ms]] (U 0) (fun _ H'=>Z H'):=by
 refine Ah [] [0,1] Tryz.func112 Tryz.ntmps112 (fun d=>?_)
 refine Z1 ?_
 refine A5 (h:=Q.sub64 (h2:=fun _=>by simp only [Aw];omega)) (hr:=?_)
 refine A5 ?_;refine A2 [0,1,3] ?_
 refine D7 (α:=Nat×Int) (fun s=>⟨19,A7 0 (.yield l0) (A7 1 (.ro [Fw ms]) (A7 3 (A4 s.2) (fun _=>.any))),U s.1,[],[],none⟩) (fun s=>s.1≤ms.length∧N s.1∧s.2=(ms.length:Int)-1-(s.1:Int)) (fun s=>ms.length-s.1) ((0,(ms.length:Int)-1)) ⟨Av _,h0,by simp⟩ (Cp (by simp)) rfl (fun s hs=>?_)
 obtain ⟨x,i⟩:=s
 obtain ⟨hx,hN,hi⟩:=hs
 dsimp only at hx hN hi ⊢
 refine Z29 ?_;refine A2 [0,1,3,8] ?_
 refine A3 (fun ht8=>?_) (fun ht8=>?_)
 ·have hlt:x<ms.length:=by simp at ht8;omega
  have hlt2:ms.length-1-x<ms.length:=by omega
  have hi2:i=((ms.length-1-x:Nat):Int):=by omega
  subst hi2
  refine Z6 ?_;refine Z21 ?_;refine Z19 ?_
  refine A5 (h:=Ak (ms.length-1-x) (Gn ms[ms.length-1-x]) (fun _=>Bk hlt2)) (hr:=?_)
  refine A5 ?_
  refine R.yield (l:=l0) (args:=[A4 ((ms.length-1-x:Nat):Int),Gn ms[ms.length-1-x]]) (hy x ms[ms.length-1-x] _ hlt (Aa hlt2) hN) ?_
  intro b V O hV hb
  have hVO:O=[]∧((b=true∧N (x+1)∧V=U (x+1))∨(b=false∧V.length=(U 0).length∧(∀y∈V,ObjLow (U 0).length y)∧Z V)):=by
   rcases hb with ⟨h1,h2,h3⟩|⟨h1,V',h2,h3,h4,h5⟩
   ·have h6:=Ql h3 (by rw [hV,hlen x,hlen (x+1)])
    exact ⟨h6.2,.inl ⟨h1,h2,h6.1⟩⟩
   obtain ⟨rfl,rfl⟩:=Ql h2 (by rw [hV,hlen x,h3])
   exact ⟨rfl,.inr ⟨h1,h3,h4,h5⟩⟩
  obtain ⟨rfl,hVO⟩:=hVO
  have hVl:V.length=(U 0).length:=by rw [hV,hlen x]
  have hVw:∀y∈V,ObjLow (U 0).length y:=by
   rcases hVO with ⟨_,_,rfl⟩|⟨_,_,h,_⟩
   ·exact hlw _
   exact h
  refine ⟨fun _=>by rw [hVl];exact hVw,fun o ho=>(by cases ho),?_⟩
  refine A5 ?_;refine A2 [0,1,3,18] ?_
  refine A3 (fun ht18=>?_) (fun ht18=>?_)
  ·have hZ:Z V:=by
    rcases hVO with ⟨h1,_,_⟩|⟨_,_,_,h⟩
    ·rw [h1] at ht18;cases ht18
    exact h
   refine Ep ?_;refine Z38 ?_;exact A8 .nores (hp:=hZ)
  have hVn:N (x+1)∧V=U (x+1):=by
   rcases hVO with ⟨_,h2,h3⟩|⟨h1,_,_,_⟩
   ·exact ⟨h2,h3⟩
   rw [h1] at ht18;cases ht18
  obtain ⟨hN1,rfl⟩:=hVn
  refine Z58 ?_;refine A5 ?_;refine A2 [0,1,3] ?_
  refine Bp (x+1,((ms.length-1-x:Nat):Int)-1) ⟨hlt,hN1,by dsimp only;omega⟩ (by dsimp only;omega) ?_
  exact Ea rfl
 have hxe:x=ms.length:=by simp at ht8;omega
 refine Z70 ?_;refine K.lpE ?_;exact F0 .nores (hp:=by rw [hxe];exact hR (hxe ▸ hN))

theorem c69 (l:List Mov) (Hp:List AObj):AFun Tryz.prog 69 [Fw l] Hp (.fn (.func 112) [] [.ro [Fw l]]):=by
 refine Ah [.tmp 2] [0] Tryz.func69 Tryz.ntmps69 (fun d=>?_)
 refine Wf ?_;refine E5 ?_;refine sk ?_;exact AD3

theorem Vw {n k:Nat} {o:Bool} {l:List Val}:∀z∈[AV.slice o k (l.map Ba)],Low n z:=fun z hz=>by rw [Az.1 hz];exact Dy
/-- Where the way back stands behind k moves. -/
structure BkAt (c:List Col) (l:List Mov) (row:List Val) (k:Nat):Prop where
 ok:(bkM c l row k).2=0
 row:RowI (colsAt c l (l.length-k)) (bkM c l row k).1
theorem BkAt.zero {c:List Col} {l:List Mov} {row:List Val} (h:RowI (colsAt c l l.length) row):BkAt c l row 0:=⟨rfl,h⟩
theorem BkAt.fin {c:List Col} {l:List Mov} {row:List Val} (h:BkAt c l row l.length):bkM c l row l.length=((bkM c l row l.length).1,0):=Lo rfl h.ok
theorem BkAt.next {c:List Col} {l:List Mov} {row:List Val} {k:Nat} {m:Mov} (h:BkAt c l row k) (hk:k<l.length) (hm:l[l.length-1-k]? = some m) (hg:∀e∈m.back,Et M1 e=true) (he:(C0 (colsAt c l (l.length-1-k)) (colsAt c l (l.length-1-k+1)) m (bkM c l row k).1).2=0):BkAt c l row (k+1):=by
 have e:=Qd hm h.ok
 have hr:=h.row
 rw [show l.length-k=l.length-1-k+1 by omega] at hr
 refine ⟨by rw [e];exact he,?_⟩
 rw [e,show l.length-(k+1)=l.length-1-k by omega]
 exact wg hg hr he
theorem Ru {c:List Col} {l:List Mov} {row:List Val} (h:(((Db c l).2 != 0) || !F3 (colsAt c l l.length) row)=false):Dx c l row=bkM c l row l.length:=if_neg (by rw [h];simp)
theorem AFg {U:List AObj} {l a b c e:Nat} {x y X Y Z T:AObj} (h:U[l]? = some x) (ha:a≠l) (hb:b≠l) (hc:c≠l) (he:e≠l):(((((U.set l y).set a X).set b Y).set c Z).set e T)[l]? = some y:=by rw [Dg he];exact AD2 h ha hb hc
theorem pw (c:List Col) (l:List Mov):(Db c l).1.length≤l.length+1:=by
 unfold Db P6
 repeat' split
 all_goals first|exact Av _|exact Vi c l
theorem Y9 {c:List Col} {l:List Mov} (h:((Db c l).2 != 0)=false):((Db c l).1.map Aq)[l.length]? = some (Aq (colsAt c l l.length))∧((((Db c l).1.map Aq).length:Nat):Int)-1=((l.length:Nat):Int):=by
 obtain ⟨_,_,hss⟩:=H4 h
 rw [hss]
 refine ⟨zn (Ni (Ae _)),?_⟩
 rw [Aw,L8]
 omega
theorem c67 (l:List Mov) (Hp:List AObj):AFun Tryz.prog 67 [Fw l] Hp (.fn (.func 112) [] [.ro [Fw l]]):=by
 refine Ah [.tmp 2] [0] Tryz.func67 Tryz.ntmps67 (fun d=>?_)
 refine Z46 ?_;refine Z2 ?_;refine A9 Tryz.call69 (c69 l _) ?_;refine A5 ?_;exact AD3

theorem c31 (c:List Col) (hc:OkCols c) (hc2:c.length≤1000000) (l:List Mov) (h:OkMovs l) (row:List Val) (hrr:∀v∈row, -9223372036854775808≤v.n∧v.n≤9223372036854775807) (hrl:row.length≤1048576) (Hp:List AObj):AFun Tryz.prog 31 [Aq c,Fw l,Br row] Hp (.tup [Br (Dx c l row).1,A4 (Dx c l row).2]):=by
 refine Ah [.cell 6 28,.cell 7 35] [0,1,2] Tryz.func31 Tryz.ntmps31 (fun d=>?_)
 refine Z25 ?_;refine O6 ?_;refine A2 [0,1,2,6,7] ?_;refine Z1 ?_;refine A9 Tryz.call48 (c48 c hc hc2 l h _) ?_;refine AD6 ?_;refine Z18 ?_;refine H9 ?_;refine A2 [1,2,6,7,8,9] ?_;refine Z64 ?_
 have hlen:=h.len
 have hsl:((Db c l).1.map Aq).length≤2000000:=by rw [Aw];have:=pw c l;omega
 have hcn:=Gf hc (fun m hm=>h.each m hm) l.length
 refine Z28 ?_;refine Wi ?_
 refine Ci (h:=Ak (l.length) (Aq (colsAt c l l.length)) (fun hB=>(Y9 (by simpa using hB)).1) (hn:=fun hB=>(Y9 (by simpa using hB)).2)) (hr:=?_)
 refine Z10 ?_;refine Cd Tryz.call12 (fun hB=>c12 (colsAt c l l.length) hcn row hrl _) ?_;refine U6 ?_;refine A2 [1,2,6,7,8,9,31] ?_
 refine A3 (fun ht31=>?_) (fun ht31=>?_)
 ·have hm:Dx c l row=([],1):=if_pos ht31
  refine E5 ?_;refine H9 ?_;refine U5 0 3 ?_;refine H9 ?_;refine Z30 ?_;refine Bz ?_;exact A8 (B9 (Fm jA) (Fm jA)) ⟨by rw [hm]<;>rfl,rfl⟩
 have hm:=Ru ht31
 have h31:((Db c l).2 != 0)=false∧F3 (colsAt c l l.length) row=true:=by simpa using ht31
 obtain ⟨hmay,hst,hss⟩:=H4 h31.1
 have hmvo:=Lf hmay
 have hlen:=h.len
 have hR0:=Nl h31.2 hrr
 have hol:((Cv c l l.length).map Aq).length=l.length+1:=by rw [Aw,L8]
 rw [hss]
 refine Z96 ?_;refine A9 Tryz.call49 (c49 row hrl _) ?_;refine Z18 ?_;refine A2 [1,6,7,8,9,10] ?_;refine Z64 ?_
 refine My (fun hlow=>?_)
 refine A5 ?_;refine A9 Tryz.call67 (c67 l _) ?_;refine A2 [6,7,8,9,10,35] ?_;refine Jv ?_
 refine Ox (m:=5) Tryz.call112 (fun FR as' bd' hFR has hbd=>?_)
 have hFRl:∀s,Low (Hp.length+7) (FR s):=by
  intro s
  rw [hFR]
  refine Qt ?_
  revert s
  repeat (first|exact Bj|refine Bi (by first|(simp [oid,or_imp,forall_and];done)|exact Gr|exact Dw|exact Dy|(simp [oid,or_imp,forall_and];exact ⟨fun m _ a _=>As _ a,fun m _ a _=>As _ a⟩)|(simp [oid,or_imp,forall_and]<;>omega)) ?_)
 have hOl:∀{e e2:Int} {t:List Val} {lp:AObj},ObjLow (Hp.length+7) lp→∀x∈Hp++[AObj.cells 28 [AV.nil],AObj.cells 35 [A4 e],AObj.cells 59 [Ky (Cv c l l.length)],AObj.cells 35 [A4 e2],AObj.cells 28 [Br (t)],AObj.defs,lp],ObjLow (Hp.length+7) x:=by
  intro e e2 t lp hlp x hx
  refine M0 (fun x hx=>Ra (by omega) (hlow x hx)) (fun x hx=>?_) x hx
  simp only [Bg,Fq,or_false] at hx
  rcases hx with rfl|rfl|rfl|rfl|rfl|rfl|rfl
  ·intro y hy;rw [Az.1 hy];simp
  ·intro y hy;rw [Az.1 hy];simp
  ·intro y hy;rw [Az.1 hy];exact Fi
  ·intro y hy;rw [Az.1 hy];simp
  ·exact Vw
  ·trivial
  exact hlp
 refine ⟨_,AI1 (oid Hp.length 6) l h.len (fun k=>Hp++[AObj.cells 28 [AV.nil],AObj.cells 35 [A4 0],AObj.cells 59 [Ky (Cv c l l.length)],AObj.cells 35 [A4 0],AObj.cells 28 [Br ((bkM c l row k).1)],AObj.defs,AObj.loop LoopState.ready none FR 57 #[36,37] as' bd' (oid Hp.length 5)]) (BkAt c l row) (fun V=>(∃t,V=Hp++[AObj.cells 28 [AV.nil],AObj.cells 35 [A4 0],AObj.cells 59 [Ky (Cv c l l.length)],AObj.cells 35 [A4 0],AObj.cells 28 [Br (t)],AObj.defs,AObj.loop LoopState.ready none FR 57 #[36,37] as' bd' (oid Hp.length 5)]∧Dx c l row=(t,0)∧RowI c t)∨(∃(e:Int) (t:List Val),V=Hp++[AObj.cells 28 [AV.nil],AObj.cells 35 [A4 e],AObj.cells 59 [Ky (Cv c l l.length)],AObj.cells 35 [A4 e],AObj.cells 28 [Br (t)],AObj.defs,AObj.loop LoopState.done (some Code.ret) FR 57 #[36,37] as' bd' (oid Hp.length 5)]∧Dx c l row=([],e))) (fun k=>by simp) (by simp [oid]) (fun k=>(fun x hx=>by rw [Ap];exact hOl (lp:=AObj.loop LoopState.ready none FR 57 #[36,37] as' bd' (oid Hp.length 5)) (by exact ⟨hFRl,by simp [oid]⟩) x hx)) (.zero hR0) (fun k m X hk hm hN=>?_) (fun hN=>.inl ⟨_,rfl,by rw [Ru ht31];exact hN.fin,by have:=hN.row;rw [Kd] at this;exact this⟩),?_⟩
 ·generalize hV:Hp++[AObj.cells 28 [AV.nil],AObj.cells 35 [A4 0],AObj.cells 59 [Ky (Cv c l l.length)],AObj.cells 35 [A4 0],AObj.cells 28 [Br ((bkM c l row k).1)],AObj.defs,AObj.loop LoopState.ready none FR 57 #[36,37] as' bd' (oid Hp.length 5)]++X=V
  have hL:V[oid Hp.length 6]? = some (AObj.loop LoopState.ready none FR 57 #[36,37] as' bd' (oid Hp.length 5)):=by rw [←hV,Bo,Bd];rfl
  have hA0:V[oid Hp.length 0]? = some (AObj.cells 28 [AV.nil]):=by rw [←hV,Bo,Bd];rfl
  have hB0:V[oid Hp.length 1]? = some (AObj.cells 35 [A4 0]):=by rw [←hV,Bo,Bd];rfl
  have hS0:V[oid Hp.length 2]? = some (AObj.cells 59 [Ky (Cv c l l.length)]):=by rw [←hV,Bo,Bd];rfl
  have hE0:V[oid Hp.length 3]? = some (AObj.cells 35 [A4 0]):=by rw [←hV,Bo,Bd];rfl
  have hZ0:V[oid Hp.length 4]? = some (AObj.cells 28 [Br (bkM c l row k).1]):=by rw [←hV,Bo,Bd];rfl
  refine Oq (pd:=none) (fr:=FR) (sz:=57) (ps:=#[36,37]) (df:=oid Hp.length 5) (asg:=as') (bd:=bd') hL rfl (by decide) (fun d=>?_)
  subst hFR has hbd
  refine Ku [6,7,8,9,10,36,37] ?_
  have hmo:=h.each m (Ar hm)
  have hmv:=hmvo m (Ar hm)
  have htn:=O3 hst hm
  have hcn:=H7 (c:=c) hm
  have hCo:=Gf hc (fun m hm=>h.each m hm) (l.length-1-k+1)
  have hCi:=Gf hc (fun m hm=>h.each m hm) (l.length-1-k)
  have herr:=fun hb=>AA1 (row:=row) hk hm hN.ok hb
  have hnxt:=hN.next hk hm (fun e he=>hmo.back.rng e he)
  have htb:=Qd hm hN.ok
  have htl:=hN.row
  rw [show l.length-k=l.length-1-k+1 by omega] at htl
  have hik:l.length-1-k<l.length:=by omega
  have hsy:∀y∈colsAt c l (l.length-1-k),¬0≤J2 y.name m.take→∃j:Nat,Be y.name (colsAt c l (l.length-1-k+1))=j∧j<(colsAt c l (l.length-1-k+1)).length:=fun y hy hn=>by
   rw [hcn]
   exact ACn htn hy hn
  generalize l.length-1-k=i at *
  refine Z2 ?_;refine A2 [6,7,8,9,10,11,37] ?_;refine He ?_;refine Z18 ?_;refine A2 [6,7,8,9,10,11,12] ?_
  refine ⟨rfl,none,hL,?_⟩
  generalize hbz:(AObj.loop LoopState.busy _ _ _ _ _ _ _)=bz
  have hA:(V.set (oid Hp.length 6) bz)[oid Hp.length 0]? = some (AObj.cells 28 [AV.nil]):=by rw [Dg (C3 (by decide))];exact hA0
  have hB:(V.set (oid Hp.length 6) bz)[oid Hp.length 1]? = some (AObj.cells 35 [A4 0]):=by rw [Dg (C3 (by decide))];exact hB0
  have hS:(V.set (oid Hp.length 6) bz)[oid Hp.length 2]? = some (AObj.cells 59 [Ky (Cv c l l.length)]):=by rw [Dg (C3 (by decide))];exact hS0
  have hE:(V.set (oid Hp.length 6) bz)[oid Hp.length 3]? = some (AObj.cells 35 [A4 0]):=by rw [Dg (C3 (by decide))];exact hE0
  have hZ:(V.set (oid Hp.length 6) bz)[oid Hp.length 4]? = some (AObj.cells 28 [Br (bkM c l row k).1]):=by rw [Dg (C3 (by decide))];exact hZ0
  refine Jv ?_
  refine H0 [0,0,3,7,0,0,32,112,240,0,0,2047,4095,8191,8191,16383,65535] [15] [.q 14 [] [0],.q 1 [] [],.s [] (some 0) [] []] (fun B=>if B 0=true then ((V.set (oid Hp.length 6) bz).set (oid Hp.length 4) (AObj.cells 28 [Br (C0 (colsAt c l i) (colsAt c l (i+1)) m (bkM c l row k).1).1])) else (V.set (oid Hp.length 6) bz)) (fun _=>[AObj.cells 48 (af m)]) Al (by kernel_rfl) rfl rfl (fun B=>by split<;>simp) ?_
  apply Y.q
  ·intro B hT hF
   first|simp only [hF 0 (jr 0),B2,if_false]|skip
   refine An (h:=Bw hS) (hr:=?_)
   refine An ?_
   refine An (h:=Ak (i) (Aq (colsAt c l i)) (fun _=>zn (Ni (by omega)))) (hr:=?_)
   refine An ?_
   refine An (h:=Bw hS) (hr:=?_)
   refine Z12 ?_
   refine An (h:=Ak ((i+1)) (Aq (colsAt c l (i+1))) (fun _=>zn (Ni (by omega)))) (hr:=?_)
   refine Z12 ?_
   refine An (h:=Bw hZ) (hr:=?_)
   refine E1 Tryz.call68 (c68 (colsAt c l i) (colsAt c l (i+1)) hCi.len hCo m hmo (Ib (Rm hmv)).2 hsy (bkM c l row k).1 htl.fine htl.len _) ?_;exact Z68
  case hTF=>decide
  apply Y.q
  ·intro B hT hF
   first|simp only [hF 0 (jr 0),B2,if_false]|skip
   exact Z72
  case hTF=>decide
  refine Y.storeUp (o:=oid Hp.length 4) (t':=28) (ys:=[Br (C0 (colsAt c l i) (colsAt c l (i+1)) m (bkM c l row k).1).1]) (cs:=[Br (bkM c l row k).1]) (cs':=[Br (C0 (colsAt c l i) (colsAt c l (i+1)) m (bkM c l row k).1).1]) Tryz.sizeOf28 (fun B hB=>⟨by simp only [hB];exact hZ,by simp [upd,hB],rfl,Vw⟩) ?_
  refine Fo (tn:=[15]) (U:=((V.set (oid Hp.length 6) bz).set (oid Hp.length 4) (AObj.cells 28 [Br (C0 (colsAt c l i) (colsAt c l (i+1)) m (bkM c l row k).1).1]))) ?_
  refine Ez jS (ag hE (C3 (by decide))) ?_ ?_
  ·simp
  refine A2 [6,7,9] ?_;refine E5 ?_
  have hE2:(((V.set (oid Hp.length 6) bz).set (oid Hp.length 4) (AObj.cells 28 [Br (C0 (colsAt c l i) (colsAt c l (i+1)) m (bkM c l row k).1).1])).set (oid Hp.length 3) (AObj.cells 35 [A4 (C0 (colsAt c l i) (colsAt c l (i+1)) m (bkM c l row k).1).2]))[oid Hp.length 3]? = some (AObj.cells 35 [A4 (C0 (colsAt c l i) (colsAt c l (i+1)) m (bkM c l row k).1).2]):=getset (ag hE (C3 (by decide)))
  refine A5 (h:=Bw hE2) (hr:=?_)
  refine A5 ?_;refine A2 [6,7,9,54] ?_
  refine A3 (fun ht54=>?_) (fun ht54=>?_)
  ·have herr:=herr (by simpa using ht54)
   refine H0 [0,0,3] [1] [.q 1 [] [],.s [] (some 0) [] []] (fun B=>if B 0=true then ((((V.set (oid Hp.length 6) bz).set (oid Hp.length 4) (AObj.cells 28 [Br (C0 (colsAt c l i) (colsAt c l (i+1)) m (bkM c l row k).1).1])).set (oid Hp.length 3) (AObj.cells 35 [A4 (C0 (colsAt c l i) (colsAt c l (i+1)) m (bkM c l row k).1).2])).set (oid Hp.length 0) (AObj.cells 28 [AV.nil])) else (((V.set (oid Hp.length 6) bz).set (oid Hp.length 4) (AObj.cells 28 [Br (C0 (colsAt c l i) (colsAt c l (i+1)) m (bkM c l row k).1).1])).set (oid Hp.length 3) (AObj.cells 35 [A4 (C0 (colsAt c l i) (colsAt c l (i+1)) m (bkM c l row k).1).2]))) (fun _=>[AObj.cells 48 (af m)]) Al (by kernel_rfl) rfl rfl (fun B=>by split<;>simp) ?_
   apply Y.q
   ·intro B hT hF
    refine An (h:=Bw (show (if B 0=true then ((((V.set (oid Hp.length 6) bz).set (oid Hp.length 4) (AObj.cells 28 [Br (C0 (colsAt c l i) (colsAt c l (i+1)) m (bkM c l row k).1).1])).set (oid Hp.length 3) (AObj.cells 35 [A4 (C0 (colsAt c l i) (colsAt c l (i+1)) m (bkM c l row k).1).2])).set (oid Hp.length 0) (AObj.cells 28 [AV.nil])) else (((V.set (oid Hp.length 6) bz).set (oid Hp.length 4) (AObj.cells 28 [Br (C0 (colsAt c l i) (colsAt c l (i+1)) m (bkM c l row k).1).1])).set (oid Hp.length 3) (AObj.cells 35 [A4 (C0 (colsAt c l i) (colsAt c l (i+1)) m (bkM c l row k).1).2])))[oid Hp.length 3]? = some (AObj.cells 35 [A4 (C0 (colsAt c l i) (colsAt c l (i+1)) m (bkM c l row k).1).2]) by split;exact ag hE2 (C3 (by decide));exact hE2)) (hr:=?_)
    exact Zp
   case hTF=>decide
   refine Y.storeUp (o:=oid Hp.length 0) (t':=28) (ys:=[.nil]) (cs:=[.nil]) (cs':=[.nil]) Tryz.sizeOf28 (fun B hB=>⟨by simp only [hB];exact ag (ag hA (C3 (by decide))) (C3 (by decide)),by simp [upd,hB],rfl,by simp⟩) ?_
   refine Fo (tn:=[1]) (U:=((((V.set (oid Hp.length 6) bz).set (oid Hp.length 4) (AObj.cells 28 [Br (C0 (colsAt c l i) (colsAt c l (i+1)) m (bkM c l row k).1).1])).set (oid Hp.length 3) (AObj.cells 35 [A4 (C0 (colsAt c l i) (colsAt c l (i+1)) m (bkM c l row k).1).2])).set (oid Hp.length 0) (AObj.cells 28 [AV.nil]))) ?_
   refine Ez jS (ag (ag (ag hB (C3 (by decide))) (C3 (by decide))) (C3 (by decide))) ?_ ?_
   ·simp
   refine A2 [] ?_;refine Ep ?_;refine K.blR ?_
   subst hbz
   refine K.rdR (AFg hL (C3 (by decide)) (C3 (by decide)) (C3 (by decide)) (C3 (by decide))) ?_
   refine .inr ⟨rfl,Hp++[AObj.cells 28 [AV.nil],AObj.cells 35 [A4 (C0 (colsAt c l i) (colsAt c l (i+1)) m (bkM c l row k).1).2],AObj.cells 59 [Ky (Cv c l l.length)],AObj.cells 35 [A4 (C0 (colsAt c l i) (colsAt c l (i+1)) m (bkM c l row k).1).2],AObj.cells 28 [Br ((C0 (colsAt c l i) (colsAt c l (i+1)) m (bkM c l row k).1).1)],AObj.defs,_],?_,by simp,(fun x hx=>by rw [Ap];exact hOl (lp:=_) (by exact ⟨hFRl,by simp [oid]⟩) x hx),.inr ⟨_,_,rfl,by rw [Ru ht31];exact herr⟩⟩
   subst hV
   simp only [Bo,Fs,Ef,Ek,List.set_cons_succ,List.set_cons_zero]
  have hB1:=hnxt (by simpa using ht54)
  refine Kt ?_;refine Lv ?_
  subst hbz
  refine y9 ?_
  refine .inl ⟨rfl,hB1,?_⟩
  subst hV
  simp only [Bo,Fs,Ef,Ek,List.set_cons_succ,List.set_cons_zero]
  rw [htb,show (C0 (colsAt c l i) (colsAt c l (i+1)) m (bkM c l row k).1).2=0 by simpa using ht54]
 rintro r H' (⟨t,rfl,hrun,_⟩|⟨e,t,rfl,hrun⟩)
 ·refine ⟨Hp,_,_,_,rfl,rfl,fun h=>h,?_,rfl,by simp,?_⟩
  ·intro o ho
   have:o=oid Hp.length 5:=by simpa using ho
   subst this
   rw [Bd]
   rfl
  refine Z14 ?_;refine Z2 ?_;refine H9 ?_;refine H9 ?_;refine Z30 ?_;exact A8 (B9 (Fm jA) (Fm jA)) ⟨by rw [hrun],rfl⟩ (hlow:=by simp only [k9,Bg,Fq,or_false];rintro y (rfl|rfl);exact Dy;simp)
 refine ⟨Hp,_,_,_,rfl,rfl,fun h=>h,?_,rfl,by simp,?_⟩
 ·intro o ho
  have:o=oid Hp.length 5:=by simpa using ho
  subst this
  rw [Bd]
  rfl
 refine W.nilOwn 0 3 ?_;refine Ep ?_;refine Z5 ?_;exact A8 (B9 (Fm jA) (Fm jA)) ⟨by rw [hrun];rfl,rfl⟩

/-! mig.Parse: the first fault is g8. -/
inductive PR (α:Type) where
 | ok (r:α) (i:Nat)
 | bad (e a:Int)
def PR.bind {α β:Type} (x:PR α) (f:α→Nat→PR β):PR β:=match x with
 | .ok r i=>f r i
 | .bad e a=>.bad e a
def Ya {α:Type} (L:List Tok) (i:Nat) (e:Int):PR α:=.bad e (Af L i).at_
def isP (L:List Tok) (s:Str) (i:Nat):Bool:=(((Af L i).kind==5) || ((Af L i).kind==2))&&((Af L i).text==s)
def Cs (L:List Tok) (s:Str) (i:Nat):PR Unit:=if isP L s i then .ok () (i+1) else Ya L i 8
def Gt (L:List Tok) (i:Nat):PR Str:=if (Af L i).kind != 1 then Ya L i 8 else .ok (Af L i).text (i+1)
def lu (L:List Tok) (nm:Str) (j:Nat):PR Col:=if ((Af L j).kind != 2) || (Sf (Af L j).text==0) then Ya L j 8 else .ok ⟨nm,Sf (Af L j).text⟩ (j+1)
def Je (L:List Tok) (i:Nat):PR Col:=(Gt L i).bind (lu L)
def Me (L:List Tok) (i:Nat):PR Expr:=if (atM L i).2.2.1 != 0 then .bad (atM L i).2.2.1 (atM L i).2.2.2 else .ok (atM L i).1 (atM L i).2.1.toNat
def Di (m:Mov) (c:Col):Mov:={ m with give:=m.give++[c] }
def lv (m:Mov) (x:Expr):Mov:={ m with ahead:=m.ahead++[x] }
def En (L:List Tok) (m:Mov) (i:Nat):PR Mov:=(Je L i).bind fun c j=>(Cs L [61] j).bind fun _ j=>(Me L j).bind fun x j=>.ok (lv (Di m c) x) j
def Sl (L:List Tok) (n:Int) (k:Nat) (i:Nat):Bool:=decide ((k:Int)<n) || ((n==0)&&(decide ((k:Int)<2) || isP L [44] i))
/-- Things with commas between, behind the first k. -/
def Qe (L:List Tok) (n:Int) (one:Mov→Nat→PR Mov):Nat→Nat→Mov→Nat→PR Mov
 | 0,_,m,i=>.ok m i
 | f+1,k,m,i=>if Sl L n k i then (Cs L [44] i).bind fun _ j=>(one m j).bind fun m j=>Qe L n one f (k+1) m j else .ok m i
def Ho (L:List Tok) (n:Int) (one:Mov→Nat→PR Mov) (m:Mov) (i:Nat):PR Mov:=(one m i).bind fun m j=>Qe L n one (L.length+1) 1 m j
def wq:Str:=[98,97,99,107]
def J6:Str:=[105,110,116,111]
def toW:Str:=[116,111]
def lw (m:Mov) (x:Expr):Mov:={ m with back:=m.back++[x] }
def Sm (L:List Tok) (m:Mov) (i:Nat):PR Mov:=(Me L i).bind fun x j=>.ok (lw m x) j
def Fg (L:List Tok) (m:Mov) (i:Nat):PR Mov:=(Cs L wq i).bind fun _ j=>Ho L m.take.length (Sm L) m j
def Jf (L:List Tok) (m:Mov) (i:Nat):PR Mov:=(Gt L i).bind fun s j=>(Cs L toW j).bind fun _ j=>(Gt L j).bind fun t j=>.ok ⟨m.kind,[s],[⟨t,0⟩],[Cr s],[Cr t]⟩ j
def takeS (m:Mov) (s:Str):Mov:={ m with take:=[s] }
def lx (m:Mov) (s:Str):Mov:={ m with take:=m.take++[s] }
def Qf (L:List Tok) (m:Mov) (i:Nat):PR Mov:=(Gt L i).bind fun s j=>.ok (lx m s) j
def Hq (L:List Tok) (m:Mov) (i:Nat):PR Mov:=
 if m.kind==1 then En L m i
 else if m.kind==2 then (Gt L i).bind fun s j=>Fg L (takeS m s) j
 else if m.kind==3 then Jf L m i
 else if m.kind==4 then (Gt L i).bind fun s j=>(Cs L J6 j).bind fun _ j=>(Ho L 0 (En L) (takeS m s) j).bind fun m j=>Fg L m j
 else if m.kind==5 then (Ho L 0 (Qf L) m i).bind fun m j=>(Cs L J6 j).bind fun _ j=>(En L m j).bind fun m j=>Fg L m j
 else if m.kind==6 then (En L m i).bind fun m j=>Fg L (takeS m (m.give.getD 0 ⟨[],0⟩).name) j
 else .ok m i
def migWords:List Str:=[[],[97,100,100],[100,114,111,112],[114,101,110,97,109,101],[115,112,108,105,116],[109,101,114,103,101],[114,101,116,121,112,101]]
def E7 (k:Int):Str:=if (decide (k<1) || decide (6<k))=true then [] else migWords.getD k.toNat []
def Gw (s:Str):Int:=if E7 1==s then 1 else if E7 2==s then 2 else if E7 3==s then 3 else if E7 4==s then 4 else if E7 5==s then 5 else if E7 6==s then 6 else 0
def Nn (L:List Tok) (i:Nat):PR Mov:=
 if ((Af L i).kind != 2) || (Gw (Af L i).text==0) then Ya L i 8
 else (Hq L ⟨Gw (Af L i).text,[],[],[],[]⟩ (i+1)).bind fun m j=>(Cs L [59] j).bind fun _ j=>.ok m j
/-- Moves, behind some. -/
def M6 (L:List Tok):Nat→List Mov→Nat→PR (List Mov)
 | 0,l,i=>.ok l i
 | f+1,l,i=>if (Af L i).kind != 0 then (if (l.length:Int)==8 then Ya L i 3 else (Nn L i).bind fun m j=>M6 L f (l++[m]) j) else .ok l i
def J3 (L:List Tok):PR (List Mov):=M6 L 9 [] 0
/-- The moves; the fault's code and place. -/
def Sy (s:Str):List Mov×Int×Int:=
 if (Ge s).2.1 != 0 then ([],(Ge s).2.1,(Ge s).2.2)
 else match J3 (Ge s).1 with
  | .ok l _=>(l,0,0)
  | .bad e a=>([],e,a)
end Go.SX.Nb
namespace Go.SX
variable [GI:GlobInv]
open Classical
section
variable {P:Program} {d:Nat}
variable {sz:Nat} {dfs:List Nat} {rnd:Option Nat} {l0:List Oper} {up own:(Nat→Bool)→List AObj} {KP:List PanicEntry→St→Prop} {E:List Oper→(Nat→AV)→Prop} {S:List SegY} {l:List Oper} {fr:Nat→AV} {ty:TypeId} {pos:String} {aft:Array Edge} {s:Nat} {T F:List Nat}
end
section
variable {P:Program} {d:Nat} {ops:Array Oper}
theorem AW.upEq {c:Code} {sz:Nat} {fr:Nat→AV} {up up' own:List AObj} {dfs:List Nat} {rnd:Option Nat} {K:Exit→St→Prop} (e:up=up') (h:AW P d c ⟨sz,fr,up',own,dfs,rnd⟩ K):AW P d c ⟨sz,fr,up,own,dfs,rnd⟩ K:=e ▸ h
end
end Go.SX
namespace Go.SX
def Pa:=@AW.upEq
end Go.SX
namespace Go.SX
variable [GI:GlobInv]
open Classical
section
variable {P:Program} {d:Nat} {st:St} {ty:TypeId} {pos:String} {aft:Array Edge} {gd:Option (Nat×Bool)}
/-- A variable of its own, not laid yet. -/
theorem AOp.allocP {t:TypeId} {z:Value} {k s:Nat} (hz:∀w,(zeroValue t).run P w=.ok z w) (hk:z.cells.size=k) (hs:s<st.sz):
  AOp P d ⟨some s,.alloc t,ty,pos,aft,gd⟩ st (·=st.set s (.cellp k)):=by
 subst hk
 intro G a w h Q'
 let G':Gh:={ G with tag:=fun b o=>if b=w.heap.size∧o<z.cells.size then .tail (.slot d s) else G.tag b o }
 have hfree:∀o,G.tag w.heap.size o=.free:=fun o=>F8 h.tags _ o (Ae _)
 have hne:∀b o,G.tag b o≠.free→¬(b=w.heap.size∧o<z.cells.size):=fun b o hb hc=>by rw [hc.1] at hb;exact hb (hfree o)
 have hkeep:∀b o,G.tag b o≠.free→G'.tag b o=G.tag b o:=fun b o hb=>by simp only [G'];rw [if_neg (hne b o hb)]
 have hcell:∀b o,G.tag b o≠.free→(w.alloc (.cells z.cells t)).cell? ⟨b,o,none⟩=w.cell? ⟨b,o,none⟩:=fun b o hb=>by
  refine World.cell?_alloc_old _ _ _ ?_
  show b≠w.heap.size
  rintro rfl
  exact hb (hfree o)
 have T:Turn G w G' (w.alloc (.cells z.cells t)):=by
  refine ⟨fun b o hb=>⟨by rw [hkeep b o (by rw [hb];simp)];exact hb,hcell b o (by rw [hb];simp)⟩,fun b o L hb=>by rw [hkeep b o (by rw [hb];simp)];exact hb,fun b o i hb=>by rw [hkeep b o (by rw [hb];simp)];exact hb,Ae _,fun o ho=>rfl,rfl,rfl,rfl,by simp,Yw _ (fun b o hb=>.inl (by simp only [G'];rw [if_neg (by omega)])) (fun i hi=>.inl ⟨hi,rfl⟩)⟩
 have h1:StRel d G' st a (w.alloc (.cells z.cells t)):=by
  refine h.turn (U:=st.up) (O:=st.own) T ⟨fun i x hx=>T.objRel ?_ ?_ (h.heap.obj i x hx) (fun b hb=>?_),h.heap.n,h.heap.inj⟩ rfl h.defsAt ⟨fun b o hb=>?_,fun b o i hb=>?_,fun b o L hb=>?_,h.tags.globKeep T.old⟩ h.low
  ·rw [h.heap.n];exact (Ab.1 hx).1
  ·have:=(h.heap.obj i x hx).blt
   show (w.heap.push _)[G.blk i]? = _
   rw [Ix,if_neg (by omega)]
  ·have:=hb.lt
   show (w.heap.push _)[b]? = _
   rw [Ix,if_neg (by omega)]
  ·simp only [G'] at hb
   split at hb
   ·rename_i hc
    obtain ⟨rfl,hlt⟩:=hc
    exact ⟨z.cells[o],by rw [World.cell?_alloc_new];exact Ds hlt⟩
   rw [hcell b o hb]
   exact h.tags.ex b o hb
  ·simp only [G'] at hb
   split at hb
   ·cases hb
   rw [World.frozen?_alloc_old]
   ·exact h.tags.obj b o i hb
   show b≠w.heap.size
   rintro rfl
   rw [hfree] at hb;cases hb
  simp only [G'] at hb
  split at hb
  ·rename_i hc
   obtain ⟨rfl,hlt⟩:=hc
   exact World.frozen?_alloc_new _ _ _ _
  rw [World.frozen?_alloc_old]
  ·exact h.tags.tail b o L hb
  show b≠w.heap.size
  rintro rfl
  rw [hfree] at hb;cases hb
 have hrun:(execOp a.eval (⟨some s,.alloc t,ty,pos,aft,gd⟩:Oper)).run P w=.ok (.value (.pointer (some ⟨w.heap.size,0,none⟩))) (w.alloc (.cells z.cells t)):=by
  simp [execOp,Instr.alloc,hz,newVar,newRow]
 refine Ch (by intro c h;cases h) hrun ⟨G',_,h1.put (s:=s) (y:=.cellp z.cells.size) hs ?_,T.keep d,rfl,rfl,rfl,rfl⟩
 exact .cellp _ _ _ ⟨_,rfl,fun o ho=>by simp [G',ho]⟩

/-- It is laid: from now on nobody writes it. -/
theorem AOp.storeP {t:TypeId} {x:Operand} {r k:Nat} {y:AV} (hsz:∀w,(sizeOf t).run P w=.ok k w) (hf:st.fr r=.cellp k) (hx:st.ev x=y) (hk:y.cells.length=k) (hk0:0<k) (h1:y.cells.all AV.one=true):
  AOp P d ⟨none,.store t (.tmp r) x,ty,pos,aft,gd⟩ st (·=st.set r (.ro y.cells)):=by
 intro G a w h Q'
 have hone:∀c∈y.cells,c.one=true:=fun c hc=>At.1 h1 c hc
 obtain ⟨hc,hcc⟩:=(hx ▸ h.eval x).cells hone
 have hsl:=h.slots r
 rw [hf] at hsl
 generalize hv:a.tmps.getD r undef=v at hsl
 cases hsl with
 | cellp l k b ho =>
  obtain ⟨L,hL,ht⟩:=ho
  injection hL with hL
  subst hL
  let us:=(a.eval x).cells.toList
  have hul:us.length=k:=by simp only [us,Array.length_toList];omega
  have huone:∀u∈us,u.oneCell'=true:=fun u hu=>by
   obtain ⟨j,hj⟩:=Cc hu
   have hj':(a.eval x).cells[j]? = some u:=by rw [←Oh];exact hj
   have hlt:j<y.cells.length:=by rw [←hc];exact (M9.1 hj').1
   exact (hcc j _ u (Aa hlt) hj').one (hone _ (Cl hlt))
  have hrun0:=run_storeCells_cells (P:=P) b 0 us 0 w (fun j hj=>by
    obtain ⟨u,hu⟩:=h.tags.ex b j (by rw [ht j (by omega)];simp)
    simp only [Nat.add_zero,B5];rw [hu];rfl) (fun j hj=>by simpa using h.tags.tail _ _ _ (ht j (by omega))) huone
  simp only [Nat.add_zero] at hrun0
  let W:=w.setCells b 0 us
  let G':Gh:={ G with tag:=fun b' o=>if b'=b∧o<k then .fix else G.tag b' o }
  have htag:∀b' o,G.tag b' o≠.tail (.slot d r)→G'.tag b' o=G.tag b' o:=fun b' o hb=>by
   simp only [G']
   rw [if_neg]
   rintro ⟨rfl,ho⟩
   exact hb (ht o ho)
  have hout:∀b' o,¬(b'=b∧o<k)→W.cell? ⟨b',o,none⟩=w.cell? ⟨b',o,none⟩:=fun b' o hn =>
   World.cell?_setCells_out _ us 0 w ⟨b',o,none⟩ (fun hb _=>by
    simp only at hb ⊢
    exact .inr (Ph fun h''=>hn ⟨hb,by omega⟩))
  have hcell:∀b' o,G.tag b' o≠.tail (.slot d r)→W.cell? ⟨b',o,none⟩=w.cell? ⟨b',o,none⟩:=fun b' o hb=>hout b' o (fun hn=>hb (by rw [hn.1];exact ht o hn.2))
  have hnb:∀i,i<G.n→G.blk i≠b:=Ma h.heap h.tags (ht 0 hk0)
  have hheap:∀b',b'≠b→W.heap[b']? = w.heap[b']? := fun b' hb=>Df _ _ _ _ _ hb
  have hsize:W.heap.size=w.heap.size:=De _ _ _ _
  have hstill:Still G w G' W:=Jn (fun b' hb'=>hheap b' (fun e=>Iy (ht 0 hk0) (e ▸ hb'))) (Ih hsize.symm) (fun b' o _=>by
   by_cases hc:b'=b∧o<k
   ·exact .inr ⟨_,by rw [hc.1];exact ht o hc.2⟩
   exact .inl (by simp only [G'];rw [if_neg hc])) (fun i hi=>.inl ⟨hi,rfl⟩)
  have hfix:∀b' o,G.tag b' o=.fix→G'.tag b' o=.fix∧W.cell? ⟨b',o,none⟩=w.cell? ⟨b',o,none⟩:=fun b' o hb=>⟨by rw [htag b' o (by rw [hb];simp)];exact hb,hcell b' o (by rw [hb];simp)⟩
  have htail:∀b' o L,L≠.slot d r→G.tag b' o=.tail L→G'.tag b' o=.tail L:=fun b' o L hL hb=>by
   rw [htag b' o (by rw [hb];intro e;injection e with e;exact hL e)];exact hb
  have hobj:∀b' o i,G.tag b' o=.obj i→G'.tag b' o=.obj i:=fun b' o i hb=>by rw [htag b' o (by rw [hb];simp)];exact hb
  have hrep:∀{l:Option Loc} {z:AV} {u:Value},l≠some (.slot d r)→Rep G w l z u→Rep G' W l z u:=fun hl hz =>
   hz.mono (G':=G') hfix (Ae _) (fun _ _=>rfl) (fun L hL b' o ht'=>htail b' o L (fun e=>hl (by rw [hL,e])) ht')
  have hkeep:Keep d G w G' W:=⟨hfix,fun b' o e s he ht'=>htail b' o _ (by rintro ⟨⟩;omega) ht',Ae _,fun _ _=>rfl,G5 _ _ _ _,Er _ _ _ _,E0 _ _ _ _,Ih hsize.symm,hstill⟩
  have hvec:∀j u,us[j]? = some u→W.cell? ⟨b,j,none⟩=some u:=fun j u hu=>by
   have hj:=(Ab.1 hu).1
   have hex:∃u',w.cell? ⟨b,j,none⟩=some u':=h.tags.ex b j (by rw [ht j (by omega)];simp)
   obtain ⟨u',hu'⟩:=hex
   have hbk:∃vs e fz,w.heap[b]? = some (.cells vs e fz):=by
    simp only [World.cell?] at hu'
    split at hu'
    ·rename_i vs e fz hb;exact ⟨vs,e,fz,hb⟩
    cases hu'
   obtain ⟨vs,e,fz,hbk⟩:=hbk
   have hlen:0+us.length≤vs.size:=by
    rw [hul,B5]
    rcases B3 vs.size k with h'|h'
    ·exfalso
     obtain ⟨u2,hu2⟩:=h.tags.ex b vs.size (by rw [ht _ h'];simp)
     simp [World.cell?,hbk] at hu2
    exact h'
   obtain ⟨vs',b1,b2,b3⟩:=Jp b e fz us 0 w vs hbk hlen
   have b3':=b3 j
   rw [if_pos (by omega)] at b3'
   show (w.setCells b 0 us).cell? ⟨b,j,none⟩=some u
   simp only [World.cell?,b1]
   rw [b3',Nat.sub_zero]
   exact hu
  have hst:StRel d G' (st.set r (.ro y.cells)) a W:=by
   refine ⟨h.size,fun s=>?_,⟨fun i z hz=>?_,h.heap.n,h.heap.inj⟩,h.defs,h.defsAt,h.defsNodup,h.defsGe,⟨fun b' o hb=>?_,fun b' o i hb=>?_,fun b' o L hb=>?_,h.tags.globKeep hstill⟩,h.rnd,h.low,h.top⟩
   ·show Rep G' W _ (A7 r (.ro y.cells) st.fr s) _
    unfold A7
    by_cases hs:s=r
    ·subst hs
     rw [if_pos rfl,hv]
     refine .ro _ _ ⟨b,0,none⟩ (fun j=>(a.eval x).cells.getD j undef) rfl hone (fun j c hj=>?_) (fun j c hj=>?_)
     all_goals
      have hlt:j<y.cells.length:=(Ab.1 hj).1
      have hu:(a.eval x).cells[j]? = some ((a.eval x).cells[j]'(by omega)):=Ds _
      have e1:(a.eval x).cells.getD j undef=(a.eval x).cells[j]'(by omega):=by rw [Iq,hu];rfl
      rw [e1]
     ·refine ⟨by simp only [G',B5];rw [if_pos ⟨trivial,by omega⟩],?_⟩
      rw [B5]
      exact hvec j _ (by simp only [us];rw [Oh];exact hu)
     exact hrep (by simp) (hcc j c _ hj hu)
    rw [if_neg hs]
    exact hrep (by simp;exact fun e=>hs e) (h.slots s)
   ·have hob:=h.heap.obj i z hz
    have hi:i<G.n:=by rw [h.heap.n];exact (Ab.1 hz).1
    have hb:=hheap (G.blk i) (hnb i hi)
    cases z with
    | cells t cs =>
     obtain ⟨vs,a1,a2,a3,a4⟩:=hob
     exact ⟨vs,hb.trans a1,a2,fun j y u p q=>hrep (by simp) (a3 j y u p q),fun j hj=>hobj _ _ _ (a4 j hj)⟩
    | loop sta pd fr sz ps asg bd df =>
     obtain ⟨fn,tmps,a1,a2,a3,a4⟩:=hob
     exact ⟨fn,tmps,hb.trans a1,a2,fun s=>hrep (by simp) (a3 s),a4⟩
    | defs=>exact hb.trans hob
    | dead=>exact hb.trans hob
    | bld t e bs=>exact BldRel.turn hob rfl (fun b' o ho=>hobj b' o i ho) hb (fun b' ha=>hheap b' (fun e=>by
      have:=ha.tag h.tags (o:=0) (by rw [e,ht 0 hk0];simp)
      rw [e,ht 0 hk0] at this;cases this))
    | gone =>
     obtain ⟨vs,t,fz,a1,a2⟩:=hob
     exact ⟨vs,t,fz,hb.trans a1,fun j hj=>(hfix _ _ (a2 j hj)).1⟩
   ·by_cases hc:b'=b∧o<k
    ·obtain ⟨rfl,ho⟩:=hc
     exact ⟨us[o]'(by omega),hvec o _ (Aa _)⟩
    rw [hout b' o hc]
    simp only [G',if_neg hc] at hb
    exact h.tags.ex b' o hb
   ·rw [World.frozen?_setCells]
    simp only [G'] at hb
    split at hb
    ·cases hb
    exact h.tags.obj b' o i hb
   rw [World.frozen?_setCells]
   simp only [G'] at hb
   split at hb
   ·cases hb
   exact h.tags.tail b' o L hb
  have hrun:(execOp a.eval (⟨none,.store t (.tmp r) x,ty,pos,aft,gd⟩:Oper)).run P w=.ok .skip W:=
   G7 hsz (show a.eval (.tmp r)=_ from hv) (by omega) hrun0
  exact Gb (by intro c h;cases h) hrun ⟨G',_,hst,hkeep,rfl,rfl,rfl,rfl⟩
end
section
variable {P:Program} {d:Nat} {sz:Nat} {dfs:List Nat} {rnd:Option Nat} {l0:List Oper} {up own:(Nat→Bool)→List AObj} {KP:List PanicEntry→St→Prop} {E:List Oper→(Nat→AV)→Prop} {S:List SegY} {l:List Oper} {fr:Nat→AV} {ty:TypeId} {pos:String} {aft:Array Edge} {s:Nat} {T F:List Nat}
theorem Y.allocP {t:TypeId} {z:Value} {k:Nat} (hz:∀w,(zeroValue t).run P w=.ok z w) (h:ChainY P d l0 sz up own dfs rnd KP E S l (A7 s (.cellp k) fr)) (hk:z.cells.size=k:=by rfl) (hs:Nat.blt s sz=true:=by rfl):
  ChainY P d l0 sz up own dfs rnd KP E (.s [s] none T F::S) (⟨some s,.alloc t,ty,pos,aft,none⟩::l) fr:=by
 refine ⟨_,l,[(s,.cellp k)],rfl,⟨rfl,rfl,fun B f _ _ _ hf=>.of ?_⟩,h⟩
 exact AOp.allocP (st:=⟨sz,f,up B,own B,dfs,rnd⟩) hz hk (by simpa using hs)
theorem Y.storeP {t:TypeId} {x:Operand} {r k:Nat} {y:AV} {ys:List AV} (hsz:∀w,(Go.sizeOf t).run P w=.ok k w) (h:ChainY P d l0 sz up own dfs rnd KP E S l (A7 r (.ro ys) fr))
  (hf:fr r=.cellp k:=by exact sL0) (hx:Ax fr x=y:=by exact sL0) (hc:y.cells=ys:=by exact sL0)
  (hk:ys.length=k:=by rfl) (hk0:0<k:=by decide) (h1:ys.all AV.one=true:=by exact sL2):
  ChainY P d l0 sz up own dfs rnd KP E (.s [r] none T F::S) (⟨none,.store t (.tmp r) x,ty,pos,aft,none⟩::l) fr:=by
 subst hc
 refine ⟨_,l,[(r,.ro y.cells)],rfl,⟨rfl,rfl,fun B f _ _ _ hfr=>.of ?_⟩,h⟩
 have e:f r=fr r:=hfr r (by simp [lk,Tt,Op.operands])
 have ex:Ax f x=y:=by rw [agr hfr (by simp [Op.operands])];exact hx
 exact AOp.storeP (st:=⟨sz,f,up B,own B,dfs,rnd⟩) hsz (e.trans hf) ex hk hk0 h1
end
end Go.SX
