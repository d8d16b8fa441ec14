/- Texts on the way to this: ImageJoins answers true for whatever it is handed: of any moves, cut in two at any place: a row forth through both parts, one behind the other, is the row forth; back likewise (up to 50 columns and values, 8 moves). (part 8) -/
import Derived.Lib.ParseIntBTie
import Derived.Shelf.Strings.Builder1
import Derived.Lib.ItoaLen
import Derived.Test.YthakapgmpcbbkaaGreatDoorImageJoinsCardSaidPart7
set_option linter.all false
namespace Go.SX.Nb
open Go Go.SX Go.Proofs
variable [ErrAt]
set_option maxRecDepth 4000
theorem c35 (l:List Col) (hl:l.length≤1000000) (Hp:List AObj):AFun Tryz.prog 35 [Ac l] Hp (Ac l):=by
 refine ACall.body [.tmp 2] [0] Tryz.func35 Tryz.ntmps35 (fun d=>?_)
 refine Z47 ?_;refine Z36 ?_
 refine R.eqlNil jU (by kernel_rfl) (fun b hb=>?_)
 refine R.fin [0,4] ?_
 refine W.cond (fun ht4=>?_) (fun ht4=>?_)
 ·have hl0:l=[]:=by simpa using hb ht4
  subst hl0
  refine Z2 ?_;refine R.nilTmp 2 2 false ?_;refine Z4 ?_;exact AA3
 refine Zd ?_;refine Lo ?_;refine R.go ?_
 refine R.append jU Tryz.type48 ?_ ?_ ?_
 ·simp [Tryz.t48];omega
 ·simp [Tryz.t48];omega
 refine R.assignT ?_;exact AA6

theorem p9 {Hp:List AObj} {y:Col} {n:Nat} (h:∀x∈Hp,ObjLow Hp.length x):∀x∈Hp++[AObj.cells 48 [],AObj.cells 48 (A9 y.name::A2 y.kind::List.replicate n AV.any)],ObjLow (Hp.length+2) x:=by
 intro x hx
 rcases List.mem_append.1 hx with hx|hx
 ·exact ObjLow.le (by omega) (h x hx)
 simp only [List.mem_cons,List.mem_nil_iff,or_false] at hx
 rcases hx with rfl|rfl
 ·intro z hz;cases hz
 intro z hz
 simp only [List.mem_cons] at hz
 rcases hz with rfl|rfl|hz
 ·simp
 ·simp
 rw [List.eq_of_mem_replicate hz];simp
theorem AD4 (y:Col) (Hp:List AObj):ACallO Tryz.prog 35 [Ac [y]] Hp (fun r H'=>∃cc,1≤cc∧r=.sl (oid Hp.length 1) 2 1 cc∧H'=Hp++[.cells 48 [],.cells 48 (A9 y.name::A2 y.kind::List.replicate ((cc-1)*2) AV.any)]):=by
 refine ACallO.body [.tmp 2] [0] Tryz.func35 Tryz.ntmps35 (fun d=>?_)
 refine Z47 ?_;refine Z66 ?_
 refine R.assumeLow (fun hlow=>?_)
 refine R.go ?_
 refine R.eqlNil jU (by kernel_rfl) (fun b hb=>?_)
 refine R.fin [0,4] ?_
 refine W.cond (fun ht4=>?_) (fun ht4=>?_)
 ·exact absurd (hb ht4) (by simp)
 refine Zd ?_;refine R.buildObj0 (n:=0) jU Tryz.sizeOf48 ?_;refine R.go ?_
 refine R.appendObj (k:=2) (n:=1) jU Tryz.type48 (show [B0 y]≠[] by simp) ?_ ?_ (fun cc hcc=>?_)
 ·simp [Tryz.t48]
 ·simp
 have e0:Jk [B0 y]++List.replicate ((cc-[B0 y].length)*2) AV.any=A9 y.name::A2 y.kind::List.replicate ((cc-1)*2) AV.any:=rfl
 rw [e0]
 clear e0
 refine R.go ?_;refine Z4 ?_;exact K.finO 2 (V.tmp (t:=2)) ⟨cc,hcc,rfl,rfl⟩ (hlow:=by simp [oid]) (hobj:=p9 hlow)

theorem ABb (c:List Col) (hc:OkCols c) (m:Mov) (h:OkMov m) (h3:(m.kind==3)=false) (Hp:List AObj):AFun Tryz.prog 80 [Ac c,E6 m] Hp (Ac (Aw c m)):=by
 refine ACall.body [.tmp 4] [0,1] Tryz.func80 Tryz.ntmps80 (fun d=>?_)
 refine m9 ?_;refine Z1 ?_;refine R.call Tryz.call35 (c35 m.give h.gives2 _) ?_;refine R.go ?_;refine R.fin [0,3,5] ?_;refine Z30 ?_;refine R.fin [0,3,5,12] ?_
 refine W.cond (fun ht12=>?_) (fun ht12=>?_)
 ·rw [h3] at ht12;cases ht12
 refine Sg ?_;refine Z22 ?_;exact K.fin (V.one V.tmp) ⟨by rw [u6 h3]<;>rfl,rfl⟩

theorem ABc (c:List Col) (hc:OkCols c) (m:Mov) (h:OkMov m) (h3:(m.kind==3)=true) (s:Str) (y:Col) (ht:m.take=[s]) (hg:m.give=[y]) (Hp:List AObj):AFun Tryz.prog 80 [Ac c,E6 m] Hp (Ac (Aw c m)):=by
 have hgv:=u7 (c:=c) h3 ht hg
 have hgy:=oz (c:=c) h3 ht hg
 obtain ⟨kd,tk,gv,ah,bk⟩:=m
 simp only at ht hg h3
 subst ht hg
 refine ACall.body [.tmp 4] [0,1] Tryz.func80 Tryz.ntmps80 (fun d=>?_)
 refine m9 ?_;refine Z1 ?_;refine R.callO Tryz.call35 (AD4 y _) ?_
 rintro _ _ ⟨cc,hcc,rfl,rfl⟩
 refine ⟨[.cells 48 [],.cells 48 (A9 y.name::A2 y.kind::List.replicate ((cc-1)*2) AV.any)],by simp,?_⟩
 simp only [List.append_nil,List.nil_append]
 refine R.go ?_;refine R.fin [0,3,5] ?_;refine Z30 ?_;refine R.fin [0,3,5,12] ?_
 refine W.cond (fun ht12=>?_) (fun ht12=>?_)
 ·refine Z13 ?_
  refine R.go (h:=Q.indexAddr (0) (A9 s) (fun _=>rfl)) (hr:=?_)
  refine R.go ?_;refine R.call Tryz.call58 (c58 c hc s _) ?_;refine R.go ?_;refine R.fin [0,5,6] ?_;refine Z1 ?_;refine R.fin [0,5,6,20] ?_
  refine W.cond (fun ht20=>?_) (fun ht20=>?_)
  ·have hf:¬B3 s c<0:=by simp at ht20;omega
   obtain ⟨jj,hjj,hjc⟩:=Kd hf
   refine Pc ?_
   refine R.go (h:=Q.indexAddr ((B3 s c).toNat) (B0 (c.getD (B3 s c).toNat ⟨[],0⟩)) (fun _=>di hf)) (hr:=?_)
   refine Z0 ?_;refine R.indexAddrSl (n:=1) 0 jU Tryz.sizeOf48 (by decide) ?_
   refine R.go (h:=Q.fieldAddrPtr (hc:=rfl)) (hr:=?_)
   refine R.storeOwn (y:=A2 (c.getD (B3 s c).toNat ⟨[],0⟩).kind) (ys:=[A2 (c.getD (B3 s c).toNat ⟨[],0⟩).kind]) (n:=1) (cs:=A9 y.name::A2 y.kind::List.replicate ((cc-1)*2) AV.any) (cs':=A9 y.name::A2 (c.getD (B3 s c).toNat ⟨[],0⟩).kind::List.replicate ((cc-1)*2) AV.any) (t':=48) jS ?_ (hc:=rfl) (hput:=rfl) (hfit:=by simp)
   refine R.fin [5] ?_;refine K.thN ?_;refine Cz ?_;refine R.freeze (k:=2) (n:=1) 5 1 [B0 ⟨y.name,(c.getD (B3 s c).toNat ⟨[],0⟩).kind⟩] hcc rfl rfl (Xq [⟨y.name,(c.getD (B3 s c).toNat ⟨[],0⟩).kind⟩]) (Xr [⟨y.name,(c.getD (B3 s c).toNat ⟨[],0⟩).kind⟩]) (Ri [⟨y.name,(c.getD (B3 s c).toNat ⟨[],0⟩).kind⟩]) ?_;refine Z0 ?_;exact ze
  have hf:B3 s c<0:=by simp at ht20;omega
  refine Zd ?_;refine R.freeze (k:=2) (n:=1) 5 1 [B0 ⟨y.name,y.kind⟩] hcc rfl rfl (Xq [⟨y.name,y.kind⟩]) (Xr [⟨y.name,y.kind⟩]) (Ri [⟨y.name,y.kind⟩]) ?_;refine Z0 ?_;exact ze
 rw [h3] at ht12;cases ht12

/-- What a move must have before it is turned. -/
structure MvOk (m:Mov):Prop where
 ok:OkMov m
 ahead:m.ahead.length=m.give.length
 back:m.back.length=m.take.length
 one:(m.kind==3)=true→m.take.length=1∧m.give.length=1
theorem u9 {m:Mov} (h:OkMov m) (hc:Db m=true):MvOk m:=⟨h,(F5 hc).1,(F5 hc).2,fun h3=>Rh hc (by rw [h3];rfl)⟩
theorem c80 (c:List Col) (hc:OkCols c) (m:Mov) (h:MvOk m) (Hp:List AObj):AFun Tryz.prog 80 [Ac c,E6 m] Hp (Ac (Aw c m)):=by
 cases h3:m.kind==3 with
 | false=>exact ABb c hc m h.ok h3 Hp
 | true =>
  obtain ⟨h1,h2⟩:=h.one h3
  obtain ⟨s,hs⟩:=p8 h1
  obtain ⟨y,hy⟩:=p8 h2
  exact ABc c hc m h.ok h3 s y hs hy Hp
theorem Xs {c:List Col} {m:Mov} (h:OkMov m):OkCols (Aw c m):=by
 refine ⟨by rw [Io];exact Nat.le_trans h.gives2 (by decide),fun y hy=>?_⟩
 unfold Aw at hy
 split at hy
 ·split at hy
  ·exact h.gives.2 y hy
  cases hg:m.give with
  | nil=>rw [hg] at hy;cases hy
  | cons z r =>
   rw [hg] at hy
   rcases List.mem_cons.1 hy with rfl|hy
   ·exact h.gives.2 z (by rw [hg];exact List.mem_cons_self)
   exact h.gives.2 y (by rw [hg];exact List.mem_cons_of_mem _ hy)
 exact h.gives.2 y hy
theorem Xt {c give:List Col} {take:List Str} (hc:OkCols c) (hg:OkCols give) (hg2:give.length≤1000000):OkCols (Ca c take give).1:=by
 have h0:OkCols ([]:List Col):=⟨by decide,fun y hy=>by cases hy⟩
 unfold Ca
 split
 ·exact h0
 rename_i hr
 split
 ·exact h0
 split
 ·exact h0
 split
 ·exact h0
 split
 ·exact h0
 exact nz hc (by simpa using hr) hg hg2 rfl
theorem b7 {c give:List Col} {take:List Str} (h:((Ca c take give).2 != 0)=false):∀s∈take,¬B3 s c<0:=by
 have ht:Fg c take=true:=by
  unfold Ca at h
  split at h
  ·cases h
  split at h
  ·cases h
  rename_i ht
  simpa using ht
 intro s hs hf
 obtain ⟨j,hj⟩:=List.getElem?_of_mem hs
 have:=takenM_true.1 ht j s hj
 unfold Kv at this
 rw [show decide (B3 s c<0)=true by simpa using hf] at this
 simp at this
theorem ji {over:List Col} {l:List Expr} {w:List Col} {x:Nat} (hl:x<l.length) (hw:x<w.length):
  Bz over (l.drop x) (w.drop x)=if Nz l[x] over w[x].kind != 0 then Nz l[x] over w[x].kind else Bz over (l.drop (x+1)) (w.drop (x+1)):=by
 rw [List.drop_eq_getElem_cons hl,List.drop_eq_getElem_cons hw]
 rfl
theorem pc {over:List Col} {l:List Expr} {w:List Col} {x:Nat} (hl:l.length≤x):Bz over (l.drop x) (w.drop x)=0:=by
 rw [List.drop_eq_nil_of_le hl]
 cases w.drop x<;>rfl
theorem Tv {α β:Type} {f:α→β} {l:List α} {x:Nat} (h:x<l.length):(l.take (x+1)).map f=(l.take x).map f++[f l[x]]:=by
 rw [List.take_succ_eq_append_getElem h,List.map_append];rfl
theorem dj {c:List Col} {m:Mov} (h:((Ca c m.take (Aw c m)).2 != 0)=true):Ay c m=([],(Ca c m.take (Aw c m)).2):=if_pos h
theorem dk {c:List Col} {m:Mov} (h:((Ca c m.take (Aw c m)).2 != 0)=false) (h2:(Bz c m.ahead (Aw c m) != 0)=true):Ay c m=([],Bz c m.ahead (Aw c m)):=by
 unfold Ay;rw [if_neg (by rw [h];simp),if_pos h2]
theorem dl {c:List Col} {m:Mov} (h:((Ca c m.take (Aw c m)).2 != 0)=false) (h2:(Bz c m.ahead (Aw c m) != 0)=false) (h3:(Bz (Ca c m.take (Aw c m)).1 m.back (F4 c m) != 0)=true):Ay c m=([],Bz (Ca c m.take (Aw c m)).1 m.back (F4 c m)):=by
 unfold Ay;rw [if_neg (by rw [h];simp),if_neg (by rw [h2];simp),if_pos h3]
theorem dm {c:List Col} {m:Mov} (h:((Ca c m.take (Aw c m)).2 != 0)=false) (h2:(Bz c m.ahead (Aw c m) != 0)=false) (h3:(Bz (Ca c m.take (Aw c m)).1 m.back (F4 c m) != 0)=false):Ay c m=((Ca c m.take (Aw c m)).1,0):=by
 unfold Ay;rw [if_neg (by rw [h];simp),if_neg (by rw [h2];simp),if_neg (by rw [h3];simp)]
theorem c82 (l:List Expr) (h:OkEs l) (w:List Col) (hw:w.length=l.length) (c:List Col) (hc:OkCols c) (Hp:List AObj):AFun Tryz.prog 82 [I9 l,Ac w,Ac c] Hp (A2 (Bz c l w)):=by
 refine ACall.body [.tmp 6] [0,1,2] Tryz.func82 Tryz.ntmps82 (fun d=>?_)
 refine Z2 ?_;refine Qa ?_;refine Z30 ?_;refine R.fin [1,2,11,12,13] ?_
 refine AW.loopC (α:=Nat) (fun x=>⟨37,A3 1 (Ac w) (A3 2 (Ac c) (A3 11 (I9 l) (A3 12 (A2 (l.length:Nat)) (A3 13 (A2 (x:Nat)) (fun _=>.any))))),Hp,[],[],none⟩) (fun x=>x≤l.length∧Bz c l w=Bz c (l.drop x) (w.drop x)) (fun x=>l.length-x) (0) ⟨Nat.zero_le _,rfl⟩ (StLe.of_eq (by simp)) rfl (fun x hx=>?_)
 refine Z2 ?_;refine R.fin [1,2,11,12,13,14] ?_
 refine W.condX (fun ht14=>?_) (fun ht14=>?_)
 ·have hlt:x<l.length:=by simpa using ht14
  have hlw:x<w.length:=by omega
  have hlen:=h.len
  have hst:=ji (over:=c) hlt hlw
  refine Ma ?_
  refine R.go (h:=Q.indexAddr (x) (A5 l[x]) (fun _=>An hlt)) (hr:=?_)
  refine Zf ?_;refine R.fin [1,2,7,8,11,12,13] ?_;refine Z31 ?_;refine R.call Tryz.call116 (ABa 61 l[x] (h.ok _ (List.getElem_mem hlt)) (by decide) c hc _) ?_;refine Z65 ?_;refine R.fin [1,2,7,8,10,11,12,13] ?_;refine Z1 ?_;refine R.fin [1,2,7,8,10,11,12,13,25] ?_
  refine W.cond (fun ht25=>?_) (fun ht25=>?_)
  ·have he:Nz l[x] c w[x].kind=(Fm l[x] c).2:=if_pos ht25
   have hm:Bz c l w=(Fm l[x] c).2:=by rw [hx.2,hst,he,if_pos ht25]
   refine Z1 ?_;refine Z60 ?_;refine K.thR ?_;exact Z91
  refine Z6 ?_;refine W.drawQ [0,0,0,0,12,28,60,127,255] 7 Aa (by kernel_rfl) ?_;refine Pe ?_
  refine D.go (h:=Q.indexAddr (x) (B0 w[x]) (fun _=>An hlw)) (hr:=?_)
  refine Z72 ?_;refine R.call Tryz.call117 (AD3 61 l[x] (h.ok _ (List.getElem_mem hlt)) (by decide) c hc w[x].kind _) ?_;refine R.go ?_;refine R.fin [1,2,11,12,13,35] ?_
  refine W.cond (fun ht35=>?_) (fun ht35=>?_)
  ·have he:Nz l[x] c w[x].kind=10:=by unfold Nz;rw [if_neg (by rw [ht25];simp),if_pos ht35]
   have hm:Bz c l w=10:=by rw [hx.2,hst,he];rfl
   refine Wn ?_;exact Z91
  have he:Nz l[x] c w[x].kind=0:=by unfold Nz;rw [if_neg (by rw [ht25];simp),if_neg (by rw [ht35];simp)]
  have hnx:Bz c l w=Bz c (l.drop (x+1)) (w.drop (x+1)):=by rw [hx.2,hst,he];rfl
  refine Z57 ?_;refine R.fin [1,2,11,12,13] ?_;refine K.lpN (x+1) ⟨hlt,hnx⟩ (by omega) ?_
  exact StCut.take (own:=[]) (fun _=>.refl _) (by repeat (first|exact Aq|refine Ap (by first|(simp [or_imp,forall_and];done)|exact Di) ?_)) (by simp) (by simp)
 have hxe:l.length≤x:=by simpa using ht14
 have hm:Bz c l w=0:=by rw [hx.2,pc hxe]
 refine Z35 ?_;refine Wn ?_;exact gx

theorem c83 (c:List Col) (hc:OkCols c) (m:Mov) (h:OkMov m) (hf:∀s∈m.take,¬B3 s c<0) (Hp:List AObj):AFun Tryz.prog 83 [Ac c,E6 m] Hp (Ac (F4 c m)):=by
 refine ACall.body [.tmp 4] [0,1] Tryz.func83 Tryz.ntmps83 (fun d=>?_)
 refine m9 ?_;refine Z2 ?_;refine R.fin [0,3,5] ?_;refine Z66 ?_;refine R.nilSl 5 2 ?_;refine Z73 ?_;refine R.fin [0,5,9,10,11] ?_
 refine AW.loopC (α:=Nat) (fun x=>⟨26,A3 0 (Ac c) (A3 5 (.slice true 2 (((m.take.take x).map fun s=>c.getD (B3 s c).toNat ⟨[],0⟩).map B0)) (A3 9 (Fe m.take) (A3 10 (A2 (m.take.length:Nat)) (A3 11 (A2 (x:Nat)) (fun _=>.any))))),Hp,[],[],none⟩) (fun x=>x≤m.take.length) (fun x=>m.take.length-x) (0) (Nat.zero_le _) (StLe.of_eq (by simp)) rfl (fun x hx=>?_)
 refine Z2 ?_;refine R.fin [0,5,9,10,11,12] ?_
 refine W.condX (fun ht12=>?_) (fun ht12=>?_)
 ·have hlt:x<m.take.length:=by simpa using ht12
  have htk:=h.takes
  have hfx:=hf _ (List.getElem_mem hlt)
  obtain ⟨jj,hjj,hjc⟩:=Kd hfx
  refine Z87 ?_
  refine R.go (h:=Q.indexAddr (x) (A9 m.take[x]) (fun _=>An hlt)) (hr:=?_)
  refine Z0 ?_;refine R.fin [0,5,7,9,10,11] ?_;refine Za ?_;refine Z29 ?_;refine R.call Tryz.call58 (c58 c hc m.take[x] _) ?_
  refine R.go (h:=Q.indexAddr ((B3 m.take[x] c).toNat) (B0 (c.getD (B3 m.take[x] c).toNat ⟨[],0⟩)) (fun _=>di hfx)) (hr:=?_)
  refine Z71 ?_
  refine R.append jU Tryz.type48 ?_ ?_ ?_
  ·simp only [List.length_map,List.length_take,List.length_cons,List.length_nil,Tryz.t48];omega
  ·simp only [List.length_map,List.length_take,List.length_cons,List.length_nil,Tryz.t48];omega
  refine R.assignT ?_;refine R.fin [0,5,9,10,11] ?_;refine Uz ?_;refine R.fin [0,5,9,10,11] ?_
  refine K.lpN (x+1) hlt (by omega) (StCut.of_eq ?_)
  rw [Tv hlt,List.map_append]
  rfl
 have hxe:m.take.length≤x:=by simpa using ht12
 refine Z35 ?_;refine gq ?_;exact K.fin (V.one V.tmp) ⟨by unfold F4;rw [List.take_of_length_le hxe]<;>rfl,rfl⟩ (hlow:=Ct)

theorem c55 (c:List Col) (hc:OkCols c) (m:Mov) (h:MvOk m) (Hp:List AObj):AFun Tryz.prog 55 [Ac c,E6 m] Hp (.tup [Ac (Ay c m).1,A2 (Ay c m).2]):=by
 refine ACall.body [.tmp 4,.tmp 5] [0,1] Tryz.func55 Tryz.ntmps55 (fun d=>?_)
 refine Z13 ?_;refine Mc ?_;refine Z1 ?_;refine R.call Tryz.call80 (c80 c hc m h _) ?_;refine R.go ?_;refine R.fin [0,3,6] ?_;refine Cz ?_
 have hg:=Xs (c:=c) h.ok
 have hg2:(Aw c m).length≤1000000:=by rw [Io];exact h.ok.gives2
 refine Z73 ?_;refine R.call Tryz.call81 (c81 c hc m.take h.ok.takes (Aw c m) hg hg2 _) ?_;refine Z65 ?_;refine R.fin [0,3,6,7,8] ?_;refine Z31 ?_;refine R.fin [0,3,6,7,8,23] ?_
 refine W.cond (fun ht23=>?_) (fun ht23=>?_)
 ·have hm:=dj ht23
  refine Z1 ?_;refine R.nilTmp 4 2 false ?_;refine R.go ?_;refine Z12 ?_;exact Z45
 refine Z6 ?_;refine Z48 ?_;refine R.call Tryz.call82 (c82 m.ahead h.ok.ahead (Aw c m) (by rw [Io,h.ahead]) c hc _) ?_;refine R.go ?_;refine R.fin [0,3,7,9] ?_;refine Z1 ?_;refine R.fin [0,3,7,9,31] ?_
 refine W.cond (fun ht31=>?_) (fun ht31=>?_)
 ·have hm:=dk ht23 ht31
  refine Z1 ?_;refine R.nilTmp 4 2 false ?_;refine R.go ?_;refine Z12 ?_;exact Z45
 refine Z6 ?_;refine W.seq ?_;refine W.drawQ [0,1,0,0,12,0,63,127] 6 Aa (by kernel_rfl) ?_;refine Pe ?_;refine D.call Tryz.call83 (c83 c hc m h.ok (b7 ht23) _) ?_;refine mc ?_;refine R.call Tryz.call82 (c82 m.back h.ok.back (F4 c m) (by rw [F4,List.length_map,h.back]) (Ca c m.take (Aw c m)).1 (Xt hc hg hg2) _) ?_;refine R.go ?_;refine R.fin [7,10] ?_;refine Z1 ?_;refine R.fin [7,10,41] ?_
 refine W.cond (fun ht41=>?_) (fun ht41=>?_)
 ·have hm:=dl ht23 ht31 ht41
  refine Z1 ?_;refine R.nilTmp 4 2 false ?_;refine R.go ?_;refine Z12 ?_;exact Z45
 have hm:=dm ht23 ht31 ht41
 refine Mb ?_;refine Z12 ?_;exact wu

def Mr {α:Type} (p:α→Bool) (l:List α):Int:=if l.any p then (l.findIdx p:Int) else -1
theorem pe {α:Type} {p:α→Bool} {l:List α} {i:Nat} (h:i<l.length) (hn:p l[i]=true) (hp:∀(j:Nat) (y:α),j<i→l[j]? = some y→p y=false):(i:Int)=Mr p l:=by
 unfold Mr
 rw [if_pos (List.any_eq_true.2 ⟨_,List.getElem_mem h,hn⟩)]
 congr 1
 refine (List.findIdx_eq h |>.2 ⟨hn,fun j hj=>?_⟩).symm
 exact hp j (l[j]'(by omega)) hj (List.getElem?_eq_getElem (by omega))
theorem b8 {α:Type} {p:α→Bool} {l:List α} (h:l.any p=false):(-1:Int)=Mr p l:=by
 unfold Mr
 rw [if_neg (by rw [h];simp)]
theorem jk {α:Type} (p:α→Bool) (l:List α):decide (0≤Mr p l)=l.any p:=by
 unfold Mr
 cases l.any p<;>simp
def Ke (s:Str):Bool := !(Cm s)
def Ia (e:Expr):Bool := !(Ax e)
theorem pg {m:Mov} (h:(((m.ahead.length:Int) != (m.give.length:Int)) || ((m.back.length:Int) != (m.take.length:Int)))=true):Db m=false:=if_pos h
theorem ph {m:Mov} (h:(((m.ahead.length:Int) != (m.give.length:Int)) || ((m.back.length:Int) != (m.take.length:Int)))=false):Db m=if m.kind==1 then ((m.take.length:Int)==0)&&((m.give.length:Int)==1)
 else if m.kind==2 then ((m.take.length:Int)==1)&&((m.give.length:Int)==0)
 else if (m.kind==3) || (m.kind==6) then ((m.take.length:Int)==1)&&((m.give.length:Int)==1)
 else if m.kind==4 then ((m.take.length:Int)==1)&&decide ((1:Int)<(m.give.length:Int))
 else if m.kind==5 then decide ((1:Int)<(m.take.length:Int))&&((m.give.length:Int)==1)
 else false:=if_neg (by rw [h];simp)
theorem AD5 (m:Mov) (Hp:List AObj):AFun Tryz.prog 105 [E6 m] Hp (At (Db m)):=by
 refine ACall.body [.tmp 2] [0] Tryz.func105 Tryz.ntmps105 (fun d=>?_)
 refine Z96 ?_;refine W.drawQ [0,1,3,0,8,24,7,127] 7 Aa (by kernel_rfl) ?_;refine Pe ?_;refine Z37 ?_;refine D.tail ?_;refine R.go ?_;refine R.fin [1,3,4] ?_;refine Z66 ?_
 simp only [List.length_map]
 refine Z73 ?_;refine Z62 ?_;refine V0 ?_;refine R.fin [1,3,4,22] ?_
 refine W.cond (fun ht22=>?_) (fun ht22=>?_)
 ·simp only [List.length_map] at ht22
  have hm:=pg ht22
  exact s8
 simp only [List.length_map] at ht22
 have hn:=ph ht22
 refine Z6 ?_;refine Z31 ?_;refine R.fin [3,4,24] ?_;refine Z90 ?_;refine R.fin [3,4,24,25] ?_
 refine W.cond (fun ht25=>?_) (fun ht25=>?_)
 ·refine Wp ?_;refine Ze ?_;exact K.fin (V.one V.tmp) ⟨by rw [hn];first|(simp only [ht22,ht25,hk3,hk6,Bool.true_or,Bool.false_or,Bool.or_true,Bool.or_false,if_true,if_false,Bool.false_eq_true,↓reduceIte]<;>rfl)|(simp only [ht22,ht25,hk3,Bool.true_or,Bool.false_or,Bool.or_true,if_true,if_false,Bool.false_eq_true,↓reduceIte]<;>rfl)|(simp only [ht22,ht25,if_true,if_false,Bool.false_eq_true,↓reduceIte]<;>rfl),rfl⟩
 refine Z1 ?_;refine R.fin [3,4,24,33] ?_
 refine W.cond (fun ht33=>?_) (fun ht33=>?_)
 ·refine Wp ?_;refine Ze ?_;exact K.fin (V.one V.tmp) ⟨by rw [hn];first|(simp only [ht22,ht25,ht33,hk3,hk6,Bool.true_or,Bool.false_or,Bool.or_true,Bool.or_false,if_true,if_false,Bool.false_eq_true,↓reduceIte]<;>rfl)|(simp only [ht22,ht25,ht33,hk3,Bool.true_or,Bool.false_or,Bool.or_true,if_true,if_false,Bool.false_eq_true,↓reduceIte]<;>rfl)|(simp only [ht22,ht25,ht33,if_true,if_false,Bool.false_eq_true,↓reduceIte]<;>rfl),rfl⟩
 refine Z31 ?_;refine R.fin [3,4,24,41] ?_
 refine W.cond (fun ht41=>?_) (fun ht41=>?_)
 ·have hk3:=ht41
  refine Z6 ?_
  refine W.cond (fun ht41=>?_) (fun ht41=>?_)
  ·refine Wp ?_;refine Z64 ?_;exact Z43
  rw [hk3] at ht41;cases ht41
 have hk3:=ht41
 refine Z20 ?_;refine R.fin [3,4,24,41] ?_;refine K.thN ?_
 refine W.cond (fun ht41=>?_) (fun ht41=>?_)
 ·have hk6:=ht41
  refine Wp ?_;refine Z64 ?_;exact Z43
 have hk6:=ht41
 refine Z1 ?_;refine R.fin [3,4,24,50] ?_
 refine W.cond (fun ht50=>?_) (fun ht50=>?_)
 ·refine Wp ?_;refine Ze ?_;exact K.fin (V.one V.tmp) ⟨by rw [hn];first|(simp only [ht22,ht25,ht33,ht41,ht41,ht50,hk3,hk6,Bool.true_or,Bool.false_or,Bool.or_true,Bool.or_false,if_true,if_false,Bool.false_eq_true,↓reduceIte]<;>rfl)|(simp only [ht22,ht25,ht33,ht41,ht41,ht50,hk3,Bool.true_or,Bool.false_or,Bool.or_true,if_true,if_false,Bool.false_eq_true,↓reduceIte]<;>rfl)|(simp only [ht22,ht25,ht33,ht41,ht41,ht50,if_true,if_false,Bool.false_eq_true,↓reduceIte]<;>rfl),rfl⟩
 refine Z1 ?_;refine R.fin [3,4,58] ?_
 refine W.cond (fun ht58=>?_) (fun ht58=>?_)
 ·refine Wp ?_;refine Ze ?_;exact AAf
 refine Z18 ?_;refine Z49 ?_;exact AAf

theorem AD6 (s:Str) (hs:s.length≤1048576) (Hp:List AObj):AFun Tryz.prog 109 [A9 s] Hp (At (Ke s)):=by
 refine ACall.body [.tmp 2] [0] Tryz.func109 Tryz.ntmps109 (fun d=>?_)
 refine Z47 ?_;refine Z2 ?_;refine R.call Tryz.call106 (mx s hs _) ?_;exact lu

theorem AD7 (e:Expr) (hok:okE 61 e) (Hp:List AObj):AFun Tryz.prog 107 [A5 e] Hp (At (Ia e)):=by
 refine ACall.body [.tmp 2] [0] Tryz.func107 Tryz.ntmps107 (fun d=>?_)
 refine Z96 ?_;refine Z2 ?_;refine R.call Tryz.call56 (c56 61 e hok (by decide) _) ?_;exact lu

theorem AD8 (l:List Str) (hl:l.length≤1048576) (hn:∀s∈l,s.length≤1048576) (Hp:List AObj):AFun Tryz.prog 146 [Fe l,.fn (.func 109) [] []] Hp (A2 (Mr Ke l)):=by
 refine ACall.body [.tmp 4] [0,1] Tryz.func146 Tryz.ntmps146 (fun d=>?_)
 refine Z51 ?_;refine ly ?_
 refine AW.loopC (α:=Nat) (fun x=>⟨19,A3 0 (Fe l) (A3 1 (.fn (.func 109) [] []) (A3 7 (A2 l.length) (A3 8 (A2 (x:Nat)) (fun _=>.any)))),Hp,[],[],none⟩) (fun x=>x≤l.length∧∀(j:Nat) y,j<x→l[j]? = some y→Ke y=false) (fun x=>l.length-x) (0) ⟨Nat.zero_le _,fun j y h=>by omega⟩ (StLe.of_eq (by simp)) rfl (fun x hx=>?_)
 refine lw ?_
 refine W.condX (fun ht9=>?_) (fun ht9=>?_)
 ·have hlt:x<l.length:=by simpa using ht9
  refine Z23 ?_;refine Z1 ?_;refine lv ?_
  refine R.go (h:=Q.indexAddr (x) (A9 l[x]) (fun _=>An hlt)) (hr:=?_)
  refine R.go ?_;refine R.callV Tryz.call109 (AD6 l[x] (hn _ (List.getElem_mem hlt)) _) ?_;refine me ?_
  refine W.cond (fun ht16=>?_) (fun ht16=>?_)
  ·refine gq ?_;exact w5
  refine Z57 ?_;exact Z82
 have hxe:l.length≤x:=by simpa using ht9
 refine Z35 ?_;exact vw

theorem AD9 (l:List Str) (hl:l.length≤1048576) (hn:∀s∈l,s.length≤1048576) (Hp:List AObj):AFun Tryz.prog 108 [Fe l,.fn (.func 109) [] []] Hp (At (l.any Ke)):=by
 refine ACall.body [.tmp 4] [0,1] Tryz.func108 Tryz.ntmps108 (fun d=>?_)
 refine Z51 ?_;refine Z1 ?_;refine R.call Tryz.call146 (AD8 l hl hn _) ?_;refine Z0 ?_;exact w8

theorem ABd (l:List Expr) (hl:l.length≤1048576) (hn:∀e∈l,okE 61 e) (Hp:List AObj):AFun Tryz.prog 147 [I9 l,.fn (.func 107) [] []] Hp (A2 (Mr Ia l)):=by
 refine ACall.body [.tmp 4] [0,1] Tryz.func147 Tryz.ntmps147 (fun d=>?_)
 refine Z51 ?_;refine ly ?_
 refine AW.loopC (α:=Nat) (fun x=>⟨19,A3 0 (I9 l) (A3 1 (.fn (.func 107) [] []) (A3 7 (A2 l.length) (A3 8 (A2 (x:Nat)) (fun _=>.any)))),Hp,[],[],none⟩) (fun x=>x≤l.length∧∀(j:Nat) y,j<x→l[j]? = some y→Ia y=false) (fun x=>l.length-x) (0) ⟨Nat.zero_le _,fun j y h=>by omega⟩ (StLe.of_eq (by simp)) rfl (fun x hx=>?_)
 refine lw ?_
 refine W.condX (fun ht9=>?_) (fun ht9=>?_)
 ·have hlt:x<l.length:=by simpa using ht9
  refine Z23 ?_;refine Z1 ?_;refine lv ?_
  refine R.go (h:=Q.indexAddr (x) (A5 l[x]) (fun _=>An hlt)) (hr:=?_)
  refine R.go ?_;refine R.callV Tryz.call107 (AD7 l[x] (hn _ (List.getElem_mem hlt)) _) ?_;refine me ?_
  refine W.cond (fun ht16=>?_) (fun ht16=>?_)
  ·refine gq ?_;exact w5
  refine Z57 ?_;exact Z82
 have hxe:l.length≤x:=by simpa using ht9
 refine Z35 ?_;exact vw

theorem vn (l:List Expr) (hl:l.length≤1048576) (hn:∀e∈l,okE 61 e) (Hp:List AObj):AFun Tryz.prog 110 [I9 l,.fn (.func 107) [] []] Hp (At (l.any Ia)):=by
 refine ACall.body [.tmp 4] [0,1] Tryz.func110 Tryz.ntmps110 (fun d=>?_)
 refine Z51 ?_;refine Z1 ?_;refine R.call Tryz.call147 (ABd l hl hn _) ?_;refine Z0 ?_;exact w8

theorem ua (s:Str) (Hp:List AObj):AFun Tryz.prog 112 [A9 s] Hp (A5 (Bv s)):=by
 refine ACall.body [.cell 2 103] [0] Tryz.func112 Tryz.ntmps112 (fun d=>?_)
 refine Z52 ?_;refine Z2 ?_;refine zr ?_;refine R.nilCell 0 5 6 ?_;refine Z4 ?_;exact K.fin (V.one (V.cellN jA jS)) ⟨by rw [Ab];rfl,rfl⟩

theorem Xu {m:Mov} {c:Col}:(((!(Cm c.name)) || (!((Bp c.kind==[])==(m.kind==3)))) || ((m.kind==3)&&(c.kind != 0))) = !Kc m c:=by
 unfold Kc
 cases Cm c.name<;>cases (Bp c.kind==([]:Str))<;>cases (m.kind==3)<;>cases (c.kind != 0)<;>rfl
theorem y7 {m:Mov} (h:(!(Db m))=true):Fo m=false:=by
 have:Db m=false:=by simpa using h
 unfold Fo;rw [this];rfl
theorem y8 {m:Mov} {c:Col} (hc:c∈m.give) (h:Kc m c=false):Fo m=false:=by
 have:m.give.all (Kc m)=false:=List.all_eq_false.2 ⟨c,hc,by rw [h];simp⟩
 unfold Fo;rw [this];simp
theorem y9 {m:Mov} (h:((m.take.any Ke || m.ahead.any Ia) || m.back.any Ia)=true):Fo m=false:=by
 unfold Fo
 rw [show Ke=fun s => !(Cm s) from rfl,show Ia=fun e => !(Ax e) from rfl,I0,I0,I0] at h
 cases h1:m.take.all Cm<;>cases h2:m.ahead.all Ax<;>cases h3:m.back.all Ax<;>simp_all
theorem ub {m:Mov} (h1:Db m=true) (h2:m.give.all (Kc m)=true) (h:((m.take.any Ke || m.ahead.any Ia) || m.back.any Ia)=false):Fo m=Fy m:=by
 unfold Fo
 rw [show Ke=fun s => !(Cm s) from rfl,show Ia=fun e => !(Ax e) from rfl,I0,I0,I0] at h
 rw [h1,h2]
 cases h1:m.take.all Cm<;>cases h2:m.ahead.all Ax<;>cases h3:m.back.all Ax<;>simp_all
theorem P2 {α β:Type} {f:α→β} {l:List α} {d:α} (h:0<l.length):(l.map f)[0]? = some (f (l.getD 0 d)):=by
 rw [List.getElem?_map,List.getElem?_eq_getElem h,List.getD_eq_getElem?_getD,List.getElem?_eq_getElem h]
 rfl
theorem Ms {α:Type} {l:List α} {d:α} (h:0<l.length):l.getD 0 d∈l:=by
 rw [List.getD_eq_getElem?_getD,List.getElem?_eq_getElem h]
 exact List.getElem_mem h
theorem yb {m:Mov} (h:(m.kind==3)=true):Fy m=(eqE (m.ahead.getD 0 Ak) (Bv (m.take.getD 0 []))&&eqE (m.back.getD 0 Ak) (Bv (m.give.getD 0 ⟨[],0⟩).name)):=if_pos h
theorem yd {m:Mov} (h:(m.kind==3)=false) (h6:(m.kind==6)=true):Fy m=(m.take.getD 0 []==(m.give.getD 0 ⟨[],0⟩).name):=by unfold Fy;rw [if_neg (by rw [h];simp),if_pos h6]
theorem ye {m:Mov} (h:(m.kind==3)=false) (h6:(m.kind==6)=false):Fy m=true:=by unfold Fy;rw [if_neg (by rw [h];simp),if_neg (by rw [h6];simp)]
theorem c79 (m:Mov) (h:OkMov m) (Hp:List AObj):AFun Tryz.prog 79 [E6 m] Hp (At (Fo m)):=by
 refine ACall.body [.tmp 2] [0] Tryz.func79 Tryz.ntmps79 (fun d=>?_)
 refine Z96 ?_;refine Z36 ?_;refine R.call Tryz.call105 (AD5 m _) ?_;refine R.go ?_;refine R.fin [1,8] ?_
 refine W.cond (fun ht8=>?_) (fun ht8=>?_)
 ·have hm:=y7 ht8
  refine Z49 ?_;exact wd
 have hct:Db m=true:=by simpa using ht8
 refine Z6 ?_;refine Z48 ?_;refine R.fin [1,10,11,12] ?_
 refine AW.loopC (α:=Nat) (fun x=>⟨95,A3 1 (.ro (Ny m)) (A3 10 (Ac m.give) (A3 11 (A2 (m.give.length:Nat)) (A3 12 (A2 (x:Nat)) (fun _=>.any)))),Hp,[],[],none⟩) (fun x=>x≤m.give.length∧∀(j:Nat) (y:Col),j<x→m.give[j]? = some y→(!Kc m y)=false) (fun x=>m.give.length-x) (0) ⟨Nat.zero_le _,fun j y h=>by omega⟩ (StLe.of_eq (by simp)) rfl (fun x hx=>?_)
 refine Z2 ?_;refine R.fin [1,10,11,12,13] ?_
 refine W.condX (fun ht13=>?_) (fun ht13=>?_)
 ·have hlt:x<m.give.length:=by simpa using ht13
  have hgl:=h.gives2
  refine Z87 ?_
  refine R.go (h:=Q.indexAddr (x) (B0 m.give[x]) (fun _=>An hlt)) (hr:=?_)
  refine Q8 ?_;refine R.fin [1,4,10,11,12] ?_;refine W.drawQ [0,1,3,7,15,31,63,127,255,31,543,1567,4095,8191,16383,32767,65535,131071,262143,524287,1048575,2097151,4194303,8388607] 12 Aa (by kernel_rfl) ?_;refine Z10 ?_;refine D.call Tryz.call106 (mx m.give[x].name (h.gives.2 _ (List.getElem_mem hlt)) _) ?_;refine Z10 ?_;refine Z75 ?_;refine H.call Tryz.call57 (fun hB=>c57 m.give[x].kind _) ?_;refine Z75 ?_;refine Z75 ?_;refine D.tail ?_;refine G.go ?_;refine Z62 ?_;refine Z95 ?_;refine Sf ?_;refine R.fin [1,10,11,12,39] ?_
  refine W.cond (fun ht39=>?_) (fun ht39=>?_)
  ·rw [Xu] at ht39
   have hm:=y8 (List.getElem_mem hlt) (by simpa using ht39)
   refine gk ?_;exact ml
  rw [Xu] at ht39
  refine Z57 ?_;refine R.fin [1,10,11,12] ?_;refine K.lpN (x+1) ⟨hlt,Cn hlt hx.2 ht39⟩ (by omega) ?_
  exact StCut.take (own:=[]) (fun _=>.refl _) (by repeat (first|exact Aq|refine Ap (by first|(simp [or_imp,forall_and];done)|exact Ct|exact low_ro.2 Vf) ?_)) (by simp) (by simp)
 have hxe:m.give.length≤x:=by simpa using ht13
 have hga:m.give.all (Kc m)=true:=by have:=Ip hxe hx.2;rw [I0] at this;simpa using this
 refine Z35 ?_;refine Z2 ?_;refine R.fin [1,5] ?_;refine Z31 ?_;refine R.call Tryz.call108 (AD9 m.take h.takes h.names _) ?_;refine R.go ?_;refine Z41 ?_;refine G.call Tryz.call110 (fun hB=>vn m.ahead h.ahead.len h.ahead.ok _) ?_;refine Z0 ?_;refine Z41 ?_;refine G.call Tryz.call110 (fun hB=>vn m.back h.back.len h.back.ok _) ?_;refine R.go ?_;refine R.fin [1,55] ?_
 refine W.cond (fun ht55=>?_) (fun ht55=>?_)
 ·have hm:=y9 ht55
  refine Z49 ?_;exact wd
 have hm0:=ub hct hga ht55
 refine Z6 ?_;refine Z31 ?_;refine R.fin [1,57] ?_;refine Z90 ?_;refine R.fin [1,57,58] ?_
 refine W.cond (fun ht58=>?_) (fun ht58=>?_)
 ·obtain ⟨hl1,hl2⟩:=Rh hct (by rw [ht58];simp)
  obtain ⟨hl3,hl4⟩:=F5 hct
  have g1:=P2 (f:=A5) (l:=m.ahead) (d:=Ak) (by omega)
  have g2:=P2 (f:=A5) (l:=m.back) (d:=Ak) (by omega)
  have g3:=P2 (f:=A9) (l:=m.take) (d:=[]) (by omega)
  have g4:=P2 (f:=B0) (l:=m.give) (d:=⟨[],0⟩) (by omega)
  have ok1:=h.ahead.ok _ (Ms (l:=m.ahead) (d:=Ak) (by omega))
  have ok2:=h.back.ok _ (Ms (l:=m.back) (d:=Ak) (by omega))
  have hm:=hm0.trans (yb ht58)
  refine W.drawQ [0,1,3,7,0,16,48,112,240,511,1023,2047,4095,8191,16383,2047,34815,100351,231423,493567,1017855,2097151,4194303,8388607] 21 Aa (by kernel_rfl) ?_;refine Z10 ?_
  refine D.go (h:=Q.indexAddr (0) (A5 (m.ahead.getD 0 Ak)) (fun _=>g1)) (hr:=?_)
  refine Z37 ?_
  refine D.go (h:=Q.indexAddr (0) (A9 (m.take.getD 0 [])) (fun _=>g3)) (hr:=?_)
  refine D.go ?_;refine D.call Tryz.call112 (ua (m.take.getD 0 []) _) ?_;refine D.call Tryz.call111 (AB8 61 (m.ahead.getD 0 Ak) ok1 (Bv (m.take.getD 0 [])) _) ?_;refine D.go ?_;refine Z75 ?_
  refine H.go (h:=Q.indexAddr (0) (A5 (m.back.getD 0 Ak)) (fun _=>g2)) (hr:=?_)
  refine Z75 ?_;refine H.go ?_
  refine H.go (h:=Q.indexAddr (0) (B0 (m.give.getD 0 ⟨[],0⟩)) (fun _=>g4)) (hr:=?_)
  refine Z75 ?_;refine H.call Tryz.call112 (fun hB=>ua (m.give.getD 0 ⟨[],0⟩).name _) ?_;refine D.tail ?_;refine G.call Tryz.call111 (fun hB=>AB8 61 (m.back.getD 0 Ak) ok2 (Bv (m.give.getD 0 ⟨[],0⟩).name) _) ?_;exact zv
 refine Z1 ?_;refine R.fin [1,83] ?_
 refine W.cond (fun ht83=>?_) (fun ht83=>?_)
 ·obtain ⟨hl1,hl2⟩:=Rh hct (by rw [ht83];simp)
  obtain ⟨hl3,hl4⟩:=F5 hct
  have g1:=P2 (f:=A5) (l:=m.ahead) (d:=Ak) (by omega)
  have g2:=P2 (f:=A5) (l:=m.back) (d:=Ak) (by omega)
  have g3:=P2 (f:=A9) (l:=m.take) (d:=[]) (by omega)
  have g4:=P2 (f:=B0) (l:=m.give) (d:=⟨[],0⟩) (by omega)
  have ok1:=h.ahead.ok _ (Ms (l:=m.ahead) (d:=Ak) (by omega))
  have ok2:=h.back.ok _ (Ms (l:=m.back) (d:=Ak) (by omega))
  have hm:=hm0.trans (yd ht58 ht83)
  refine W.drawQ [0,1,3,7,0,16,48,112,240,511,1023] 9 Aa (by kernel_rfl) ?_;refine Z10 ?_
  refine D.go (h:=Q.indexAddr (0) (A9 (m.take.getD 0 [])) (fun _=>g3)) (hr:=?_)
  refine Z37 ?_
  refine D.go (h:=Q.indexAddr (0) (B0 (m.give.getD 0 ⟨[],0⟩)) (fun _=>g4)) (hr:=?_)
  refine Z72 ?_;exact zv
 have hm:=hm0.trans (ye ht58 ht83)
 refine Z18 ?_;refine Z49 ?_;exact ml

def jl (m:Mov):Bool := !(Fo m)
theorem uc (l:List Mov):(decide ((l.length:Int)≤8) && !(l.any jl))=b6 l:=by
 unfold b6
 rw [show jl=fun m => !(Fo m) from rfl,I0]
 simp
theorem c78 (m:Mov) (h:OkMov m) (Hp:List AObj):AFun Tryz.prog 78 [E6 m] Hp (At (jl m)):=by
 refine ACall.body [.tmp 2] [0] Tryz.func78 Tryz.ntmps78 (fun d=>?_)
 refine Z96 ?_;refine Z2 ?_;refine R.call Tryz.call79 (c79 m h _) ?_;exact lu

theorem ADa (l:List Mov) (h:OkMovs l) (Hp:List AObj):AFun Tryz.prog 104 [D8 l,.fn (.func 78) [] []] Hp (A2 (Mr jl l)):=by
 refine ACall.body [.tmp 4] [0,1] Tryz.func104 Tryz.ntmps104 (fun d=>?_)
 refine Z51 ?_;refine ly ?_
 refine AW.loopC (α:=Nat) (fun x=>⟨19,A3 0 (D8 l) (A3 1 (.fn (.func 78) [] []) (A3 7 (A2 l.length) (A3 8 (A2 (x:Nat)) (fun _=>.any)))),Hp,[],[],none⟩) (fun x=>x≤l.length∧∀(j:Nat) (y:Mov),j<x→l[j]? = some y→jl y=false) (fun x=>l.length-x) (0) ⟨Nat.zero_le _,fun j y h=>by omega⟩ (StLe.of_eq (by simp)) rfl (fun x hx=>?_)
 refine lw ?_
 refine W.condX (fun ht9=>?_) (fun ht9=>?_)
 ·have hlt:x<l.length:=by simpa using ht9
  have hlen:=h.len
  refine Z23 ?_;refine Z1 ?_;refine lv ?_
  refine R.go (h:=Q.indexAddr (x) (E6 l[x]) (fun _=>An hlt)) (hr:=?_)
  refine R.go ?_;refine R.callV Tryz.call78 (c78 l[x] (h.each _ (List.getElem_mem hlt)) _) ?_;refine me ?_
  refine W.cond (fun ht16=>?_) (fun ht16=>?_)
  ·refine gq ?_;exact w5
  refine Z57 ?_;exact Z82
 have hxe:l.length≤x:=by simpa using ht9
 refine Z35 ?_;exact vw

theorem c77 (l:List Mov) (h:OkMovs l) (Hp:List AObj):AFun Tryz.prog 77 [D8 l,.fn (.func 78) [] []] Hp (At (l.any jl)):=by
 refine ACall.body [.tmp 4] [0,1] Tryz.func77 Tryz.ntmps77 (fun d=>?_)
 refine Z51 ?_;refine Z1 ?_;refine R.call Tryz.call104 (ADa l h _) ?_;refine Z0 ?_;exact w8

theorem c53 (l:List Mov) (h:OkMovs l) (Hp:List AObj):AFun Tryz.prog 53 [D8 l] Hp (At (b6 l)):=by
 refine ACall.body [.tmp 2] [0] Tryz.func53 Tryz.ntmps53 (fun d=>?_)
 refine Z47 ?_;refine gr ?_;refine G.call Tryz.call77 (fun hB=>c77 l h _) ?_;refine G.go ?_;refine Z64 ?_;exact K.fin (V.one V.tmp) ⟨by rw [←uc,List.length_map],rfl⟩

theorem c34 (c:List Col) (hc:OkCols c) (l:List Mov) (h:OkMovs l) (Hp:List AObj):AFun Tryz.prog 34 [Ac c,D8 l] Hp (At (Im c l)):=by
 refine ACall.body [.tmp 4] [0,1] Tryz.func34 Tryz.ntmps34 (fun d=>?_)
 refine Z51 ?_;refine Z2 ?_;refine R.call Tryz.call25 (c25 c hc _) ?_;refine R.go ?_;refine G.go ?_;refine G.call Tryz.call53 (fun hB=>c53 l h _) ?_;refine Z0 ?_;refine Z22 ?_;exact K.fin (V.one V.tmp) ⟨by unfold Im;rw [Ij],rfl⟩

theorem jm {Hp:List AObj} {c:List Col} (h:∀x∈Hp,ObjLow Hp.length x):∀x∈Hp++[AObj.cells 22 [Ac c]],ObjLow (Hp.length+1) x:=by
 intro x hx
 rcases List.mem_append.1 hx with hx|hx
 ·exact ObjLow.le (by omega) (h x hx)
 rw [List.mem_singleton.1 hx]
 intro z hz
 rw [List.mem_singleton.1 hz]
 exact Ct
theorem c36 (c:List Col) (l:List Mov) (Hp:List AObj):ACallO Tryz.prog 36 [Ac c,D8 l] Hp (fun r H'=>r=.fn (.func 54) [] [.ro [D8 l],.ptr (oid Hp.length 0) 0]∧H'=Hp++[.cells 22 [Ac c]]):=by
 refine ACallO.body [.tmp 4] [0,1] Tryz.func36 Tryz.ntmps36 (fun d=>?_)
 refine Cz ?_;refine R.box ?_;refine Z0 ?_;refine Hl ?_;refine Cz ?_
 refine R.assumeLow (fun hlow=>?_)
 refine ma ?_;refine Z22 ?_;exact K.finO 1 (V.tmp (t:=4)) ⟨rfl,rfl⟩ (hlow:=by simp [oid,or_imp,forall_and];exact ⟨fun m _ a _=>Ad _ a,fun m _ a _=>Ad _ a⟩) (hobj:=jm hlow)

theorem c54 (l oc:Nat) (ms:List Mov) (hm:∀m∈ms,MvOk m) (hml:ms.length≤1048576) (C:Nat→List Col) (hC:∀k,OkCols (C k)) (U T:Nat→List AObj) (N:Nat→Prop) (Z:List AObj→Prop) (hlen:∀k,(U k).length=(U 0).length) (hlenW:∀k,(T k).length=(U 0).length) (hll:l<(U 0).length) (hol:oc<(U 0).length)
  (hlw:∀k,∀x∈U k,ObjLow (U 0).length x) (hlW:∀k,∀x∈T k,ObjLow (U 0).length x) (h0:N 0) (hc:∀k,(U k)[oc]? = some (.cells 22 [Ac (C k)])) (hcW:∀k,(T k)[oc]? = some (.cells 22 [Ac (C k)]))
  (hn:∀k m,ms[k]? = some m→(Ay (C k) m).2=0→(T k).set oc (.cells 22 [Ac (Ay (C k) m).1])=U (k+1))
  (hy:∀k m X,ms[k]? = some m→N k→AYield Tryz.prog l [Ac (Ay (C k) m).1,A2 (Ay (C k) m).2] (U k++X) (fun b H'=>((Ay (C k) m).2≠0∧∃V,H'=V++X∧V.length=(U 0).length∧(∀x∈V,ObjLow (U 0).length x)∧Z V)∨((Ay (C k) m).2=0∧b=true∧N (k+1)∧H'=T k++X)))
  (hR:N ms.length→Z (U ms.length)):ACall Tryz.prog 54 [.yield l,.ro [D8 ms],.ptr oc 0] (U 0) (fun _ H'=>Z H'):=by
 refine ACall.body [] [0,1,2] Tryz.func54 Tryz.ntmps54 (fun d=>?_)
 refine Z13 ?_;refine R.fin [0,2,8,9,10] ?_
 refine AW.loopC (α:=Nat) (fun x=>⟨31,A3 0 (.yield l) (A3 2 (.ptr oc 0) (A3 8 (D8 ms) (A3 9 (A2 ms.length) (A3 10 (A2 (x:Nat)) (fun _=>.any))))),U x,[],[],none⟩) (fun x=>x≤ms.length∧N x) (fun x=>ms.length-x) (0) ⟨Nat.zero_le _,h0⟩ (StLe.of_eq (by simp)) rfl (fun x hx=>?_)
 refine Z2 ?_;refine R.fin [0,2,8,9,10,11] ?_
 refine W.condX (fun ht11=>?_) (fun ht11=>?_)
 ·have hlt:x<ms.length:=by simpa using ht11
  refine Z87 ?_
  refine R.go (h:=Q.indexAddr (x) (E6 ms[x]) (fun _=>An hlt)) (hr:=?_)
  refine Q8 ?_;refine R.fin [0,2,5,8,9,10] ?_;refine Cz ?_
  refine R.go (h:=Q.loadUp (hc x)) (hr:=?_)
  refine R.go ?_;refine R.call Tryz.call55 (c55 (C x) (hC x) ms[x] (hm _ (List.getElem_mem hlt)) _) ?_;refine Z65 ?_;refine R.fin [0,2,6,7,8,9,10] ?_;refine Z30 ?_
  refine R.yield (l:=l) (args:=[Ac (Ay (C x) ms[x]).1,A2 (Ay (C x) ms[x]).2]) (hy x ms[x] _ (List.getElem?_eq_getElem hlt) hx.2) ?_
  intro b V O hV hb
  have hVO:O=[AObj.cells 77 (Ny ms[x])]∧(((Ay (C x) ms[x]).2≠0∧V.length=(U 0).length∧(∀y∈V,ObjLow (U 0).length y)∧Z V)∨((Ay (C x) ms[x]).2=0∧b=true∧N (x+1)∧V=T x)):=by
   rcases hb with ⟨h1,V',h2,h3,h4,h5⟩|⟨h1,h2,h3,h4⟩
   ·obtain ⟨rfl,rfl⟩:=List.append_inj h2 (by rw [hV,hlen x,h3])
    exact ⟨rfl,.inl ⟨h1,h3,h4,h5⟩⟩
   have h6:=List.append_inj h4 (by rw [hV,hlen x,hlenW x])
   exact ⟨h6.2,.inr ⟨h1,h2,h3,h6.1⟩⟩
  obtain ⟨rfl,hVO⟩:=hVO
  have hVl:V.length=(U 0).length:=by rw [hV,hlen x]
  have hVw:∀y∈V,ObjLow (U 0).length y:=by
   rcases hVO with ⟨_,_,h,_⟩|⟨_,_,_,rfl⟩
   ·exact h
   exact hlW _
  refine ⟨fun _=>by rw [hVl];exact hVw,fun o ho=>(by cases ho),?_⟩
  refine Z62 ?_;refine R.go ?_;refine R.fin [0,2,6,8,9,10,28] ?_
  refine W.cond (fun ht28=>?_) (fun ht28=>?_)
  ·have hZ:Z V:=by
    rcases hVO with ⟨_,_,_,h⟩|⟨h1,h2,_,_⟩
    ·exact h
    rw [h1,h2] at ht28;simp at ht28
   refine Z84 ?_;refine Z34 ?_;exact K.fin .nores (hp:=hZ)
  have hVn:(Ay (C x) ms[x]).2=0∧N (x+1)∧V=T x:=by
   rcases hVO with ⟨h1,_,_,_⟩|⟨h1,_,h3,h4⟩
   ·simp [h1] at ht28
   exact ⟨h1,h3,h4⟩
  obtain ⟨hz,hN,rfl⟩:=hVn
  have hnx:=hn x _ (List.getElem?_eq_getElem hlt) hz
  refine Z6 ?_;refine Z81 ?_
  refine R.storeUp jS (hcW x) ?_ ?_
  ·first|exact Ct|(simp [or_imp,forall_and];done)
  refine R.fin [0,2,8,9,10] ?_;refine Uz ?_;refine R.fin [0,2,8,9,10] ?_;refine K.lpN (x+1) ⟨hlt,hN⟩ (by omega) ?_
  rw [hnx]
  exact StCut.take (own:=[]) (fun _=>.refl _) (by repeat (first|exact Aq|refine Ap (by first|(simp [or_imp,forall_and];done)|exact Eo|(have:=hlen (x+1);simp;omega)) ?_)) (by simp) (by simp)
 have hxe:x=ms.length:=by have:=hx.1;simp at ht11;omega
 refine K.lpE ?_;exact K.finN .nores (hp:=by rw [hxe];exact hR (hxe ▸ hx.2))

/-! The columns on the way through moves. -/
def colsAt (c:List Col) (ms:List Mov):Nat→List Col
 | 0=>c
 | k+1=>match ms[k]? with|some m=>(Ay (colsAt c ms k) m).1|none=>colsAt c ms k
def C0 (c:List Col) (ms:List Mov):Nat→List (List Col)
 | 0=>[c]
 | k+1=>C0 c ms k++[colsAt c ms (k+1)]
def NS (c:List Col) (ms:List Mov) (k:Nat):Prop:=Ci c ms=((C0 c ms k).dropLast++(Ci (colsAt c ms k) (ms.drop k)).1,(Ci (colsAt c ms k) (ms.drop k)).2)
theorem dn (c:List Col) (ms:List Mov) (k:Nat):(C0 c ms k).dropLast++[colsAt c ms k]=C0 c ms k:=by
 cases k with
 | zero=>rfl
 | succ k=>simp [C0]
theorem Ea {c:List Col} {ms:List Mov} {k:Nat} {m:Mov} (h:ms[k]? = some m):colsAt c ms (k+1)=(Ay (colsAt c ms k) m).1:=by rw [colsAt,h]
theorem Xv {ms:List Mov} {k:Nat} {m:Mov} (hk:ms[k]? = some m):ms.drop k=m::ms.drop (k+1):=by
 obtain ⟨h1,h2⟩:=List.getElem?_eq_some_iff.1 hk
 rw [List.drop_eq_getElem_cons h1,h2]
theorem yf {c:List Col} {ms:List Mov}:NS c ms 0:=rfl
theorem Vg {c:List Col} {ms:List Mov} {k:Nat} {m:Mov} (hk:ms[k]? = some m) (h:NS c ms k) (he:(Ay (colsAt c ms k) m).2=0):NS c ms (k+1):=by
 unfold NS at h ⊢
 rw [h,Xv hk]
 have e:Ci (colsAt c ms k) (m::ms.drop (k+1))=(colsAt c ms k::(Ci (Ay (colsAt c ms k) m).1 (ms.drop (k+1))).1,(Ci (Ay (colsAt c ms k) m).1 (ms.drop (k+1))).2):=by
  rw [Ci,if_neg (by rw [he];simp)]
 have e2:(C0 c ms (k+1)).dropLast=C0 c ms k:=by simp [C0]
 rw [e,e2,Ea hk]
 have e3:=dn c ms k
 refine Prod.ext ?_ rfl
 show (C0 c ms k).dropLast++(colsAt c ms k::_)=C0 c ms k++_
 conv=>rhs;rw [←e3]
 simp
theorem b9 {c:List Col} {ms:List Mov} {k:Nat} {m:Mov} (hk:ms[k]? = some m) (h:NS c ms k) (he:(Ay (colsAt c ms k) m).2≠0):(Ci c ms).2=(Ay (colsAt c ms k) m).2:=by
 unfold NS at h
 rw [h,Xv hk,Ci,if_pos (by simpa using he)]
theorem ba {c:List Col} {ms:List Mov} (h:NS c ms ms.length):Ci c ms=(C0 c ms ms.length,0):=by
 unfold NS at h
 rw [h,List.drop_length,Ci]
 exact Prod.ext (dn c ms ms.length) rfl
theorem pi {c:List Col} {m:Mov} (hc:OkCols c) (h:OkMov m):OkCols (Ay c m).1:=by
 have h0:OkCols ([]:List Col):=⟨by decide,fun y hy=>by cases hy⟩
 unfold Ay
 split
 ·exact h0
 split
 ·exact h0
 split
 ·exact h0
 exact Xt hc (Xs h) (by rw [Io];exact h.gives2)
theorem Cu {c:List Col} {ms:List Mov} (hc:OkCols c) (h:∀m∈ms,OkMov m):∀k,OkCols (colsAt c ms k)
 | 0=>hc
 | k+1=>by
  rw [colsAt]
  cases hk:ms[k]? with
  | none=>exact Cu hc h k
  | some m=>exact pi (Cu hc h k) (h m (List.mem_of_getElem? hk))
theorem Iq (c:List Col) (ms:List Mov):∀k,(C0 c ms k).length=k+1
 | 0=>rfl
 | k+1=>by rw [C0,List.length_append,Iq c ms k];rfl
theorem yg {c:List Col} {ms:List Mov} (h:Im c ms=true) (hk:OkMovs ms):(∀m∈ms,MvOk m)∧ms.length≤8:=by
 unfold Im b6 at h
 simp only [Bool.and_eq_true,decide_eq_true_eq,List.all_eq_true] at h
 exact ⟨fun m hm=>u9 (hk.each m hm) (Kx (h.2.2 m hm)),by omega⟩
theorem Tw {c:List Col} {ms:List Mov} (h:Im c ms=false):Bo c ms=([],1):=by
 have:Lw c ms=([],1):=if_neg (by rw [h];simp)
 unfold Bo
 rw [this];rfl
theorem Rj {c:List Col} {ms:List Mov} (h:Im c ms=true) (he:(Ci c ms).2≠0):Bo c ms=([],(Ci c ms).2):=by
 have:Lw c ms=Ci c ms:=if_pos h
 unfold Bo
 rw [this,if_pos (by simpa using he)]
theorem O0 {c:List Col} {ms:List Mov} {o:List (List Col)} (h:Im c ms=true) (he:Ci c ms=(o,0)):Bo c ms=(o,0):=by
 have:Lw c ms=Ci c ms:=if_pos h
 unfold Bo
 rw [this,he];rfl
abbrev Ib (l:List (List Col)):AV:=.slice false 1 (l.map Ac)
theorem Eb {n k:Nat} {o:Bool} {l:List (List Col)}:Low n (.slice o k (l.map Ac)):=low_slice.2 fun y hy=>by
 obtain ⟨m,_,rfl⟩:=List.mem_map.1 hy
 exact Ct
theorem Vh {U:List AObj} {i j:Nat} {x y:AObj} (h:U[i]? = some x) (hne:j≠i):(U.set j y)[i]? = some x:=by rw [List.getElem?_set_ne hne];exact h
theorem jn {n k:Nat} {o:Bool} {l:List (List Col)} {c:List Col}:Low n (.slice o k (l.map Ac++[Ac c])):=by
 have:=Eb (n:=n) (k:=k) (o:=o) (l:=l++[c])
 rwa [List.map_append] at this
theorem c12 (c:List Col) (hc:OkCols c) (hc2:c.length≤1000000) (l:List Mov) (h:OkMovs l) (Hp:List AObj):AFun Tryz.prog 12 [Ac c,D8 l] Hp (.tup [Ib (Bo c l).1,A2 (Bo c l).2]):=by
 refine ACall.body [.cell 4 39,.cell 5 26] [0,1,7,8] Tryz.func12 Tryz.ntmps12 (fun d=>?_)
 refine Z27 ?_;refine L3 ?_;refine R.fin [0,1,4,5,7,8] ?_;refine Z31 ?_;refine R.call Tryz.call34 (c34 c hc l h _) ?_;refine R.go ?_;refine R.fin [0,1,4,5,7,8,12] ?_
 refine W.cond (fun ht12=>?_) (fun ht12=>?_)
 ·have hm:=Tw (by simpa using ht12)
  refine Cz ?_;refine Fu ?_;refine R.nilOwn 0 1 ?_;refine Fu ?_;refine Wj ?_;exact K.fin (V.two (V.cell jA) (V.cell jA)) ⟨by rw [hm];rfl,rfl⟩
 have hmay:Im c l=true:=by simpa using ht12
 obtain ⟨hmv,hl8⟩:=yg hmay h
 refine Z99 ?_;refine R.call Tryz.call35 (c35 c hc2 _) ?_;refine Lo ?_;refine L3 ?_;refine R.storeOwnT jS ?_;refine R.fin [0,1,4,5,6,7,8] ?_;refine Z66 ?_
 refine R.assumeLow (fun hlow=>?_)
 refine Z0 ?_;refine R.callO Tryz.call36 (c36 c l _) ?_
 rintro _ _ ⟨rfl,rfl⟩
 refine ⟨[.cells 22 [Ac c]],by simp,?_⟩
 rw [show oid (Hp++[AObj.cells 39 [AV.nil],AObj.cells 26 [A2 0],AObj.cells 39 [AV.slice true 1 [Ac c]]]).length 0=oid Hp.length 3 by simp [oid]]
 simp only [List.cons_append,List.nil_append]
 refine R.fin [4,5,6,7,8,18] ?_;refine Gx ?_
 refine W.rangeV (m:=4) Tryz.call54 (fun FR as' bd' hFR has hbd=>?_)
 have hFRl:∀s,Low (Hp.length+6) (FR s):=by
  intro s
  rw [hFR]
  refine Low.strip ?_
  revert s
  repeat (first|exact Aq|refine Ap (by first|(simp [oid,or_imp,forall_and];done)|(simp [oid,or_imp,forall_and];exact ⟨fun m _ a _=>Ad _ a,fun m _ a _=>Ad _ a⟩)|(simp [oid,or_imp,forall_and]<;>omega)) ?_)
 have hOl:∀{e:Int} {o:List (List Col)} {q:List Col} {lp:AObj},ObjLow (Hp.length+6) lp→∀x∈Hp++[AObj.cells 39 [AV.nil],AObj.cells 26 [A2 e],AObj.cells 39 [AV.slice true 1 ((o).map Ac)],AObj.cells 22 [Ac (q)],AObj.defs,lp],ObjLow (Hp.length+6) x:=by
  intro e o q lp hlp x hx
  refine J9 (fun x hx=>ObjLow.le (by omega) (hlow x hx)) (fun x hx=>?_) x hx
  simp only [List.mem_cons,List.mem_nil_iff,or_false] at hx
  rcases hx with rfl|rfl|rfl|rfl|rfl|rfl
  ·intro y hy;rw [List.mem_singleton.1 hy];simp
  ·intro y hy;rw [List.mem_singleton.1 hy];simp
  ·intro y hy;rw [List.mem_singleton.1 hy];exact Eb
  ·intro y hy;rw [List.mem_singleton.1 hy];exact Ct
  ·trivial
  exact hlp
 refine ⟨_,c54 (oid Hp.length 5) (oid Hp.length 3) l hmv (by omega) (colsAt c l) (Cu hc fun m hm=>h.each m hm) (fun k=>Hp++[AObj.cells 39 [AV.nil],AObj.cells 26 [A2 0],AObj.cells 39 [AV.slice true 1 ((C0 c l k).map Ac)],AObj.cells 22 [Ac (colsAt c l k)],AObj.defs,AObj.loop LoopState.ready none FR 29 #[19,20] as' bd' (oid Hp.length 4)]) (fun k=>Hp++[AObj.cells 39 [AV.nil],AObj.cells 26 [A2 0],AObj.cells 39 [AV.slice true 1 ((C0 c l (k+1)).map Ac)],AObj.cells 22 [Ac (colsAt c l k)],AObj.defs,AObj.loop LoopState.ready none FR 29 #[19,20] as' bd' (oid Hp.length 4)]) (NS c l) (fun V=>(∃(o:List (List Col)) (q:List Col),V=Hp++[AObj.cells 39 [AV.nil],AObj.cells 26 [A2 0],AObj.cells 39 [AV.slice true 1 ((o).map Ac)],AObj.cells 22 [Ac (q)],AObj.defs,AObj.loop LoopState.ready none FR 29 #[19,20] as' bd' (oid Hp.length 4)]∧Ci c l=(o,0))∨(∃(e:Int) (o:List (List Col)) (q:List Col),V=Hp++[AObj.cells 39 [AV.nil],AObj.cells 26 [A2 e],AObj.cells 39 [AV.slice true 1 ((o).map Ac)],AObj.cells 22 [Ac (q)],AObj.defs,AObj.loop LoopState.done (some Code.ret) FR 29 #[19,20] as' bd' (oid Hp.length 4)]∧e≠0∧(Ci c l).2=e)) (fun k=>by simp) (fun k=>by simp) (by simp [oid]) (by simp [oid]) (fun k=>(fun x hx=>by rw [List.length_append];exact hOl (lp:=AObj.loop LoopState.ready none FR 29 #[19,20] as' bd' (oid Hp.length 4)) (by exact ⟨hFRl,by simp [oid]⟩) x hx)) (fun k=>(fun x hx=>by rw [List.length_append];exact hOl (lp:=AObj.loop LoopState.ready none FR 29 #[19,20] as' bd' (oid Hp.length 4)) (by exact ⟨hFRl,by simp [oid]⟩) x hx)) yf (fun k=>by rw [Ar];rfl) (fun k=>by rw [Ar];rfl) (fun k m hk he=>by rw [Ee];simp only [Ea hk];rfl) (fun k m X hk hN=>?_) (fun hN=>.inl ⟨_,_,rfl,ba hN⟩),?_⟩
 ·generalize hV:Hp++[AObj.cells 39 [AV.nil],AObj.cells 26 [A2 0],AObj.cells 39 [AV.slice true 1 ((C0 c l k).map Ac)],AObj.cells 22 [Ac (colsAt c l k)],AObj.defs,AObj.loop LoopState.ready none FR 29 #[19,20] as' bd' (oid Hp.length 4)]++X=V
  have hL:V[oid Hp.length 5]? = some (AObj.loop LoopState.ready none FR 29 #[19,20] as' bd' (oid Hp.length 4)):=by rw [←hV,List.append_assoc,Ar];rfl
  have hA0:V[oid Hp.length 2]? = some (AObj.cells 39 [AV.slice true 1 ((C0 c l k).map Ac)]):=by rw [←hV,List.append_assoc,Ar];rfl
  have hB0:V[oid Hp.length 0]? = some (AObj.cells 39 [AV.nil]):=by rw [←hV,List.append_assoc,Ar];rfl
  have hC0:V[oid Hp.length 1]? = some (AObj.cells 26 [A2 0]):=by rw [←hV,List.append_assoc,Ar];rfl
  refine AYield.ofRound (pd:=none) (fr:=FR) (sz:=29) (ps:=#[19,20]) (df:=oid Hp.length 4) (asg:=as') (bd:=bd') hL rfl (by decide) (fun d=>?_)
  subst hFR has hbd
  refine W.keep [4,5,6,19,20] ?_;refine Z2 ?_;refine R.fin [4,5,6,7,20] ?_;refine Z81 ?_;refine R.fin [4,5,6,7,8] ?_
  refine ⟨rfl,none,hL,?_⟩
  generalize hbz:(AObj.loop LoopState.busy _ _ _ _ _ _ _)=bz
  have hA:(V.set (oid Hp.length 5) bz)[oid Hp.length 2]? = some (AObj.cells 39 [AV.slice true 1 ((C0 c l k).map Ac)]):=by rw [List.getElem?_set_ne (Be (by decide))];exact hA0
  have hB:(V.set (oid Hp.length 5) bz)[oid Hp.length 0]? = some (AObj.cells 39 [AV.nil]):=by rw [List.getElem?_set_ne (Be (by decide))];exact hB0
  have hC:(V.set (oid Hp.length 5) bz)[oid Hp.length 1]? = some (AObj.cells 26 [A2 0]):=by rw [List.getElem?_set_ne (Be (by decide))];exact hC0
  refine Gx ?_;refine Z31 ?_;refine R.fin [4,5,6,7,8,22] ?_
  refine W.cond (fun ht22=>?_) (fun ht22=>?_)
  ·have he:(Ay (colsAt c l k) m).2≠0:=by simpa using ht22
   refine Z2 ?_
   refine R.storeUp jS hB ?_ ?_
   ·simp
   refine R.storeUp jS (Vh hC (Be (by decide))) ?_ ?_
   ·simp
   refine R.fin [] ?_;refine Z84 ?_;refine K.blR ?_
   subst hbz
   refine K.rdR (cd hL (Be (by decide)) (Be (by decide))) ?_
   refine .inl ⟨he,Hp++[AObj.cells 39 [AV.nil],AObj.cells 26 [A2 (Ay (colsAt c l k) m).2],AObj.cells 39 [AV.slice true 1 ((C0 c l k).map Ac)],AObj.cells 22 [Ac (colsAt c l k)],AObj.defs,_],?_,by simp,(fun x hx=>by rw [List.length_append];exact hOl (lp:=_) (by exact ⟨hFRl,by simp [oid]⟩) x hx),.inr ⟨_,_,_,rfl,he,b9 hk hN he⟩⟩
   subst hV
   simp only [List.append_assoc,Ee,List.cons_append,List.nil_append,List.set_cons_succ,List.set_cons_zero]
  have he:(Ay (colsAt c l k) m).2=0:=by simpa using ht22
  refine Z6 ?_;refine AW.region ?_;refine R.loadUpT jA hA ?_;refine Z71 ?_
  refine R.append jU Tryz.type22 ?_ ?_ ?_
  ·have hol:=Iq c l k;have hkl:=(List.getElem?_eq_some_iff.1 hk).1;simp [Tryz.t22];omega
  ·have hol:=Iq c l k;have hkl:=(List.getElem?_eq_some_iff.1 hk).1;simp [Tryz.t22];omega
  refine R.storeUpT jS (getset hA) ?_ ?_
  ·exact jn
  refine Z85 ?_
  subst hbz
  refine sb ?_
  refine .inr ⟨he,rfl,Vg hk hN he,?_⟩
  subst hV
  simp only [List.append_assoc,Ee,List.cons_append,List.nil_append,List.set_cons_succ,List.set_cons_zero]
  rw [C0,Ea hk,List.map_append]
  rfl
 rintro r H' (⟨o,q,rfl,hrun⟩|⟨e,o,q,rfl,hne,hrun⟩)
 ·refine ⟨Hp,_,_,_,rfl,rfl,fun h=>h,?_,rfl,by simp,?_⟩
  ·intro o ho
   have:o=oid Hp.length 4:=by simpa using ho
   subst this
   rw [Ar]
   rfl
  refine Z14 ?_;refine Z2 ?_;refine Fu ?_;refine Fu ?_;refine Z12 ?_;exact K.fin (V.two (V.cell jA) (V.cell jA)) ⟨by rw [O0 hmay hrun],rfl⟩ (hlow:=by simp only [cb,List.mem_cons,List.mem_nil_iff,or_false];rintro y (rfl|rfl);exact Eb;simp)
 refine ⟨Hp,_,_,_,rfl,rfl,fun h=>h,?_,rfl,by simp,?_⟩
 ·intro o ho
  have:o=oid Hp.length 4:=by simpa using ho
  subst this
  rw [Ar]
  rfl
 refine W.nilOwn 0 1 ?_;refine AW.ret ?_;refine Z5 ?_;exact K.fin (V.two (V.cell jA) (V.cell jA)) ⟨by rw [Rj hmay (by rw [hrun];exact hne),hrun];rfl,rfl⟩

theorem Rk:∀(c:List Col) (ms:List Mov),(Ci c ms).1.length≤ms.length+1
 | c,[]=>by simp [Ci]
 | c,m::r=>by
  rw [Ci]
  split
  ·simp
  have:=Rk (Ay c m).1 r
  simp only [List.length_cons]
  omega
theorem bb {n k:Nat} {o:Bool} {a:List Expr} {e:Expr}:Low n (.slice o k (a.map A5++[A5 e])):=low_slice.2 fun y hy=>by
 rcases List.mem_append.1 hy with h|h
 ·obtain ⟨m,_,rfl⟩:=List.mem_map.1 h
  exact Ad _ _
 rw [List.mem_singleton.1 h]
 exact Ad _ _
theorem Fz {n k:Nat} {o:Bool} {a:List Expr}:Low n (.slice o k (a.map A5)):=low_slice.2 fun y hy=>by
 obtain ⟨m,_,rfl⟩:=List.mem_map.1 hy
 exact Ad _ _
/-! fuse: trees in columns' places. -/
mutual
def putF (c:List Col) (l:List Expr):Expr→Option Expr
 | .mk o t v k=>if o==2 then (if B3 t c<0 then none else some (l.getD (B3 t c).toNat Ak)) else (vo c l k).map fun k'=>.mk o t v k'
def vo (c:List Col) (l:List Expr):List Expr→Option (List Expr)
  | []=>some []
  | e::r=>match putF c l e with
    | none=>none
    | some y=>(vo c l r).map fun s=>y::s
 end
theorem Vi (o:Int) (t:Str) (v:Val) (k:List Expr):A5 (.mk o t v k)=.agg [A2 o,.v (sv t),A2 v.kind,A2 v.n,.v (sv v.s),.slice false 6 (k.map A5)]:=by rw [Ab];rfl
set_option maxRecDepth 8000
/-! The words of a print. -/
theorem ud (c:UInt8) (of:Str):Jl [c] of=if of.contains c then 1 else 0:=by
 have e2:=Nr [c] of
 have e3:=Pm [c] of
 have hle:runN [c] of≤1:=Nat.sub_le _ _
 have hlen:(Bt [c] of).length=runN [c] of:=by unfold Bt;rw [List.length_take];simp;omega
 rw [e3,←hlen,e2,List.takeWhile_cons]
 cases of.contains c<;>rfl
/-! What a tree comes to: eval's model. -/
abbrev Rs:=Val×Int
def C1 (e:Int):Rs:=(noV,e)
def Sr (s:Str):Val:=⟨2,0,s.take 200⟩
def F7 (x:Int×Int):Rs:=if x.2 != 0 then C1 x.2 else (⟨1,x.1,[]⟩,0)
def Pg (a b:Int):Int×Int:=if decide (T0 .i64 (Og .i64 a (IntKind.i64.wrap (a+b))) (Og .i64 b (IntKind.i64.wrap (a+b)))<0) then (0,4) else (IntKind.i64.wrap (a+b),0)
def H3 (a b:Int):Int×Int:=if decide (T0 .i64 (Og .i64 a b) (Og .i64 a (IntKind.i64.wrap (a-b)))<0) then (0,4) else (IntKind.i64.wrap (a-b),0)
def P3 (a:Int):Int:=if decide (a<0) then IntKind.u64.wrap (0-IntKind.u64.wrap a) else IntKind.u64.wrap a
def C8:List Val→List Int→Bool
 | _,[]=>true
 | [],_::_=>false
 | v::vs,k::ks=>(v.kind==k)&&C8 vs ks
def Kf (a b:Val):Rs:=if !C8 [a,b] [2,2] then C1 10 else if decide ((200:Int)<(a.s.length:Int)+(b.s.length:Int)) then C1 3 else (Sr (a.s++b.s),0)
def Af (r:Rs):Rs:=if (r.2==0)&&(r.1.kind != 0)&&(r.1.kind != 3) then C1 10 else r
def Fj (strong:Val) (a b:Rs):Rs:=if ((Af a).2 != 0) || ((Af a).1==strong) then Af a else if (((Af b).2 != 0) || ((Af b).1==strong)) || ((Af a).1.kind != 0) then Af b else ((Af a).1,0)
def ifW:Str:=[105,102]
def O1:Str:=[110,118,108]
def B2:Str:=[105,115,110,117,108,108]
def Df (t:Str) (a b c:Rs):Rs:=
 if t==ifW then (if (Af a).2 != 0 then C1 (Af a).2 else if (Af a).1==Fl true then b else c)
 else if a.2 != 0 then C1 a.2 else if t==B2 then (Fl (a.1.kind==0),0) else if a.1.kind != 0 then (a.1,0) else b
def Ic (strict:List Val→Rs) (l:List Rs):Rs:=match l.find? (fun q=>q.2 != 0) with|some q=>C1 q.2|none=>if l.any (fun q=>q.1.kind==0) then (noV,0) else strict (l.map (·.1))
def Ir (c:List Col) (l:List Val) (t:Str):Rs:=if B3 t c<0 then C1 9 else (l.getD (B3 t c).toNat noV,0)
def orW:Str:=[111,114]
def Vj:Str:=[97,110,100]
/-- A node, of what its kids come to; what a strict node comes to is a parameter. -/
def Is (strict:Int→Str→List Val→Rs) (c:List Col) (l:List Val) (o:Int) (t:Str) (v:Val) (ks:List Rs):Rs:=
 if o==1 then (v,0) else if o==2 then Ir c l t
 else if (o==5)&&(t==orW) then Fj (Fl true) (ks.getD 0 (noV,0)) (ks.getD 1 (noV,0))
 else if (o==5)&&(t==Vj) then Fj (Fl false) (ks.getD 0 (noV,0)) (ks.getD 1 (noV,0))
 else if (o==6)&&(((t==ifW) || (t==O1)) || (t==B2)) then Df t (ks.getD 0 (noV,0)) (ks.getD 1 (noV,0)) (ks.getD 2 (noV,0))
 else Ic (strict o t) ks
mutual
def Dj (strict:Int→Str→List Val→Rs) (c:List Col) (l:List Val):Expr→Rs
 | .mk o t v k=>Is strict c l o t v (Lf strict c l k)
def Lf (strict:Int→Str→List Val→Rs) (c:List Col) (l:List Val):List Expr→List Rs
  | []=>[]
  | e::r=>Dj strict c l e::Lf strict c l r
 end
theorem Ha (f:Int→Str→List Val→Rs) (c:List Col) (l:List Val):∀k,Lf f c l k=k.map (Dj f c l)
 | []=>rfl
 | e::r=>by rw [Lf,Ha f c l r];rfl
theorem Xw (f:Int→Str→List Val→Rs) (c:List Col) (l:List Val) (e:Expr):Dj f c l e=Is f c l e.op e.text e.val (e.kids.map (Dj f c l)):=by cases e;rw [Dj,Ha];rfl
def E2 (c:List Col) (l:List Val):Bool:=(Mi c&&(l.length==c.length))&&(l.zip c).all fun p=>C5 p.1&&((p.1.kind==0) || (p.1.kind==p.2.kind))
/-- eval.Eval. -/
def dp (f:Int→Str→List Val→Rs) (x:Expr) (c:List Col) (l:List Val):Rs:=if (!(Ax x)) || !(E2 c l) then C1 1 else Dj f c l x
/-! A tree in a column's place comes to what its value would there. -/
mutual
theorem eval_put {f:Int→Str→List Val→Rs} {c:List Col} {l m:List Val} {s:Str} {y:Expr} (hs:Ir c m s=Dj f c l y) (ho:∀t,t≠s→Ir c m t=Ir c l t):∀x:Expr,Dj f c l (xk s y x)=Dj f c m x
 | .mk o t v k=>by
  rw [xk]
  split
  ·rename_i h
   rw [Bool.and_eq_true,beq_iff_eq,beq_iff_eq] at h
   obtain ⟨rfl,rfl⟩:=h
   rw [←hs,Dj]
   rfl
  rename_i h
  rw [Dj,Dj,Tx hs ho k]
  unfold Is
  by_cases h2:(o==2)=true
  ·have:t≠s:=fun e=>h (by rw [h2,e];simp)
   rw [ho t this]
  rw [if_neg h2,if_neg h2]
theorem Tx {f:Int→Str→List Val→Rs} {c:List Col} {l m:List Val} {s:Str} {y:Expr} (hs:Ir c m s=Dj f c l y) (ho:∀t,t≠s→Ir c m t=Ir c l t):∀k:List Expr,Lf f c l (ss s y k)=Lf f c m k
  | []=>rfl
  | e::r=>by rw [ss,Lf,Lf,eval_put hs ho e,Tx hs ho r]
 end
/-! Who is not named plays no part. -/
/-! What a strict node comes to. -/
def L4 (a b:Int):Int×Int:=
 let p:=P3 a*P3 b
 let below:=decide (a<0) != decide (b<0)
 if decide (0<p / 18446744073709551616) || decide ((if below then 9223372036854775808 else 9223372036854775807)<p % 18446744073709551616) then (0,4)
 else if below then (IntKind.i64.wrap (IntKind.u64.wrap (0-p % 18446744073709551616)),0) else (IntKind.i64.wrap (p % 18446744073709551616),0)
def Fk (a b:Int):Int×Int:=if b==0 then (0,5) else if (a == -9223372036854775808)&&(b == -1) then (0,4) else (IntKind.i64.wrap (a.tdiv b),0)
def Lx (a b:Int):Int×Int:=if b==0 then (0,5) else if b == -1 then (0,0) else (IntKind.i64.wrap (a.tmod b),0)
def Ai (t:Str) (a b:Int):Int×Int:=if t==[43] then Pg a b else if t==[45] then H3 a b else if t==[42] then L4 a b else if t==[47] then Fk a b else Lx a b
def A4 (t:Str) (c:Int):Bool×Bool:=if t==[61] then (c==0,true) else if t==[33,61] then (c != 0,true) else if t==[60] then (decide (c<0),true) else if t==[60,61] then (decide (c≤0),true) else if t==[62] then (decide (0<c),true) else if t==[62,61] then (decide (0≤c),true) else (false,false)
def Jp (a b:Int):Int:=if decide (a<b) then -1 else if decide (b<a) then 1 else 0
def orI:List Int→Int
 | []=>0
 | a::r=>if a != 0 then a else orI r
def Xx (a b:Val):Int:=if (!(C5 a)) || !(C5 b) then 0 else orI [Jp a.kind b.kind,Jp a.n b.n,Lib.compareBytes a.s b.s]
def It (t:Str) (a b:Val):Rs:=if (A4 t (Xx a b)).2 then (if a.kind != b.kind then C1 10 else (Fl (A4 t (Xx a b)).1,0)) else if t==[38] then Kf a b else if !C8 [a,b] [1,1] then C1 10 else F7 (Ai t a.n b.n)
def Fp (t:Str) (v:Val):Rs:=if (t==[115,116,114])&&(v.kind==1) then (Sr (Lib.itoa v.n),0) else if (t==[108,101,110])&&(v.kind==2) then (⟨1,v.s.length,[]⟩,0) else if (t==[110,117,109])&&(v.kind==2) then F7 (Bc v.s) else C1 10
def Kg (t:Str) (s:Str) (n:Int):Val:=if t==[108,101,102,116] then Sr (s.take (max 0 (min n s.length)).toNat) else Sr (s.drop (s.length-(max 0 (min n s.length)).toNat))
def Ah (o:Int) (t:Str) (l:List Val):Rs:=
 if o==5 then It t (l.getD 0 noV) (l.getD 1 noV) else if (o==3)&&C8 l [1] then F7 (H3 0 (l.getD 0 noV).n) else if (o==4)&&C8 l [3] then (Fl ((l.getD 0 noV).n==0),0)
 else if o != 6 then C1 10 else if (l.length:Int)==1 then Fp t (l.getD 0 noV) else if !C8 l [2,1] then C1 10 else (Kg t (l.getD 0 noV).s (l.getD 1 noV).n,0)
abbrev B6 (c:List Col) (l:List Val) (e:Expr):Rs:=Dj Ah c l e
abbrev Dt (x:Expr) (c:List Col) (l:List Val):Rs:=dp Ah x c l
/-! Values are plain, and their numbers have 64 bits. -/
structure Fine (v:Val):Prop where
 plain:C5 v=true
 lo : -9223372036854775808≤v.n
 hi:v.n≤9223372036854775807
theorem I1:Fine noV:=⟨rfl,by decide,by decide⟩
theorem O2 (b:Bool):Fine (Fl b):=by cases b<;>exact ⟨rfl,by decide,by decide⟩
theorem Xy {n:Int} (h0 : -9223372036854775808≤n) (h1:n≤9223372036854775807):Fine ⟨1,n,[]⟩:=⟨rfl,h0,h1⟩
theorem Mt (s:Str):Fine (Sr s):=⟨by
 unfold C5 Sr
 simp only [show ((2:Int)==0)=false from rfl,show ((2:Int)==1)=false from rfl,show ((2:Int)==2)=true from rfl,Bool.false_eq_true,if_false,if_true,show ((0:Int)==0)=true from rfl,Bool.true_and,decide_eq_true_eq,List.length_take]
 omega,by show -9223372036854775808≤(0:Int);decide,by show (0:Int)≤9223372036854775807;decide⟩
theorem Fine.len {v:Val} (h:Fine v):v.s.length≤200:=by
 have h:=h.plain
 unfold C5 at h
 split at h
 ·simp only [Bool.and_eq_true,beq_iff_eq] at h;rw [h.2];exact Nat.zero_le _
 split at h
 ·rw [beq_iff_eq] at h;rw [h];exact Nat.zero_le _
 split at h
 ·simp only [Bool.and_eq_true,decide_eq_true_eq] at h;omega
 simp only [Bool.and_eq_true,beq_iff_eq] at h;rw [h.1.1.2];exact Nat.zero_le _
theorem Ly {x:Int×Int} (h0:x.2=0 → -9223372036854775808≤x.1) (h1:x.2=0→x.1≤9223372036854775807):Fine (F7 x).1:=by
 unfold F7
 split
 ·exact I1
 rename_i h
 have h:x.2=0:=by simpa using h
 exact Xy (h0 h) (h1 h)
theorem Rl (e:Int):Fine (C1 e).1:=I1
theorem Je (n:Int) : -9223372036854775808≤IntKind.i64.wrap n∧IntKind.i64.wrap n≤9223372036854775807:=by rw [IntKind.wrap_i64];omega
theorem pj (a b:Int):Fine (F7 (H3 a b)).1:=by
 refine Ly (fun _=>?_) (fun _=>?_)<;>unfold H3<;>split
 ·show -9223372036854775808≤(0:Int);decide
 ·exact (Je _).1
 ·show (0:Int)≤9223372036854775807;decide
 exact (Je _).2
theorem Xz (t:Str) (a b:Int) : -9223372036854775808≤(Ai t a b).1∧(Ai t a b).1≤9223372036854775807:=by
 have z : -9223372036854775808≤(0:Int)∧(0:Int)≤9223372036854775807:=by decide
 unfold Ai
 split
 ·unfold Pg;split;exact z;exact Je _
 split
 ·unfold H3;split;exact z;exact Je _
 split
 ·unfold L4
  simp only
  repeat' split
  all_goals first|exact z|exact Je _
 split
 ·unfold Fk;split;exact z;split;exact z;exact Je _
 unfold Lx;split;exact z;split;exact z;exact Je _
theorem pk {t:Str} {a b:Val}:Fine (It t a b).1:=by
 unfold It
 split
 ·split
  ·exact Sh
  exact O2 _
 split
 ·unfold Kf
  split
  ·exact Sh
  split
  ·exact Sh
  exact Mt _
 split
 ·exact Sh
 exact Ly (fun _=>(Xz _ _ _).1) (fun _=>(Xz _ _ _).2)
theorem pl (s:Str) : -9223372036854775808≤(Bc s).1∧(Bc s).1≤9223372036854775807:=by
 unfold Bc
 split
 ·decide
 split
 ·rename_i v h
  have:=Lib.parseIntB_bounds h
  simp only [show ((2 ^ (64-1):Nat):Int)=9223372036854775808 by decide] at this
  show -9223372036854775808≤v∧v≤9223372036854775807
  omega
 ·decide
 decide
theorem pm {t:Str} {v:Val} (h:Fine v):Fine (Fp t v).1:=by
 unfold Fp
 split
 ·exact Mt _
 split
 ·have:=h.len
  exact Xy (by omega) (by omega)
 split
 ·exact Ly (fun _=>(pl _).1) (fun _=>(pl _).2)
 exact Sh
theorem Y0 {o:Int} {t:Str} {l:List Val} (h:∀v∈l,Fine v):Fine (Ah o t l).1:=by
 have h0:Fine (l.getD 0 noV):=by cases l with|nil=>exact I1|cons a r=>exact h a List.mem_cons_self
 unfold Ah
 split
 ·exact pk
 split
 ·exact pj _ _
 split
 ·exact O2 _
 split
 ·exact Sh
 split
 ·exact pm h0
 split
 ·exact Sh
 unfold Kg
 split<;>exact Mt _
theorem Lz {r:Rs} (h:Fine r.1):Fine (Af r).1:=by
 unfold Af
 split
 ·exact Sh
 exact h
theorem Rm {s:Val} {a b:Rs} (ha:Fine a.1) (hb:Fine b.1):Fine (Fj s a b).1:=by
 unfold Fj
 split
 ·exact Lz ha
 split
 ·exact Lz hb
 exact Lz ha
theorem jo {t:Str} {a b c:Rs} (ha:Fine a.1) (hb:Fine b.1) (hc:Fine c.1):Fine (Df t a b c).1:=by
 unfold Df
 repeat' split
 all_goals first|exact Rl _|exact hb|exact hc|exact ha|exact O2 _
theorem pq {f:List Val→Rs} {l:List Rs} (hf:∀k:List Val,(∀v∈k,Fine v)→Fine (f k).1) (h:∀r∈l,Fine r.1):Fine (Ic f l).1:=by
 unfold Ic
 split
 ·exact Sh
 split
 ·exact I1
 refine hf _ fun v hv=>?_
 obtain ⟨r,hr,rfl⟩:=List.mem_map.1 hv
 exact h r hr
theorem jp {c:List Col} {l:List Val} (h:∀v∈l,Fine v) (t:Str):Fine (Ir c l t).1:=by
 unfold Ir
 split
 ·exact Sh
 show Fine (l.getD _ noV)
 rw [List.getD_eq_getElem?_getD]
 cases hg:l[(B3 t c).toNat]? with
 | none=>exact I1
 | some v=>exact h v (List.mem_of_getElem? hg)
def Iu (e:Expr):Bool := !(e.op==1) || C5 e.val
theorem G5 {k:List Rs} (h:∀r∈k,Fine r.1) (i:Nat):Fine (k.getD i (noV,0)).1:=by
 rw [List.getD_eq_getElem?_getD]
 cases hg:k[i]? with
 | none=>exact I1
 | some r=>exact h r (List.mem_of_getElem? hg)
mutual
theorem O3 {c:List Col} {l:List Val} (h:∀v∈l,Fine v):∀e:Expr,Bn Iu e=true→Bn Do e=true→Fine (B6 c l e).1
 | .mk o t v k,h1,h2=>by
  rw [Bn,Bool.and_eq_true] at h1 h2
  have hk:=Rn (c:=c) h k h1.2 h2.2
  rw [B6,Dj]
  unfold Is
  split
  ·rename_i ho
   have p:=h1.1
   unfold Iu at p
   rw [show (Expr.mk o t v k).op=o from rfl,ho] at p
   have q:=h2.1
   unfold Do at q
   simp only [Bool.and_eq_true,decide_eq_true_eq] at q
   exact ⟨by show C5 (Expr.mk o t v k).val=true;simpa using p,q.1,q.2⟩
  split
  ·exact jp h t
  split
  ·exact Rm (G5 hk 0) (G5 hk 1)
  split
  ·exact Rm (G5 hk 0) (G5 hk 1)
  split
  ·exact jo (G5 hk 0) (G5 hk 1) (G5 hk 2)
  exact pq (fun _ hl=>Y0 hl) hk
theorem Rn {c:List Col} {l:List Val} (h:∀v∈l,Fine v):∀k:List Expr,Ik Iu k=true→Ik Do k=true→∀r∈Lf Ah c l k,Fine r.1
  | [],_,_=>fun r hr=>by cases hr
  | e::k,h1,h2=>by
    rw [Ik,Bool.and_eq_true] at h1 h2
    intro r hr
    rw [Lf] at hr
    rcases List.mem_cons.1 hr with rfl|hr
    · exact O3 h e h1.1 h2.1
    exact Rn h k h1.2 h2.2 r hr
 end
/-! A text between marks. -/
theorem pt {x:Expr} {c:List Col} (h:(Fm x c).2=0):Ax x=true∧Gj c=true∧Fm x c=As c x:=by
 unfold Fm at h ⊢
 split at h
 ·cases h
 rename_i h1
 rw [if_neg h1]
 simp only [Bool.or_eq_true,Bool.not_eq_true',not_or,Bool.not_eq_false] at h1
 exact ⟨h1.1,by rw [←Ku];exact h1.2,rfl⟩
set_option maxRecDepth 4000
set_option maxRecDepth 8000
/-! Who decides decides: the law's sources, columns and truths. -/
/-! Rows. -/
theorem row_iff {c:List Col} {l:List Val}:E2 c l=true↔Gj c=true∧l.length=c.length∧∀(i:Nat) (v:Val) (y:Col),l[i]? = some v→c[i]? = some y→C5 v=true∧(v.kind=0∨v.kind=y.kind):=by
 unfold E2
 rw [Bool.and_eq_true,Bool.and_eq_true,Ku,beq_iff_eq,List.all_eq_true,and_assoc]
 refine and_congr_right fun _=>and_congr_right fun hl=>⟨fun h i v y hv hy=>?_,fun h p hp=>?_⟩
 ·have:=h (v,y) (List.mem_of_getElem? (i:=i) (by rw [List.getElem?_zip_eq_some];exact ⟨hv,hy⟩))
  simpa using this
 obtain ⟨i,hi⟩:=List.getElem?_of_mem hp
 rw [List.getElem?_zip_eq_some] at hi
 have:=h i p.1 p.2 hi.1 hi.2
 simpa using this
theorem ue {x:Expr} {c:List Col} {l:List Val} (h1:Ax x=true) (h2:E2 c l=true):Dt x c l=B6 c l x:=by
 unfold Dt dp
 rw [h1,h2]
 rfl
/-! Rows that differ in what is not named. -/
/-! Who has a kind comes to it. -/
/-- What a tree of this kind may come to. -/
structure KOk (k:Int) (r:Rs):Prop where
 kind:r.2=0→r.1.kind=k∨r.1.kind=0
 err:r.2≠0→r.2=4∨r.2=5∨r.2=6∨r.2=3
theorem KOk.null (k:Int):KOk k (noV,0):=⟨fun _=>.inr rfl,fun h=>absurd rfl h⟩
theorem KOk.val {k:Int} {v:Val} (h:v.kind=k):KOk k (v,0):=⟨fun _=>.inl h,fun h=>absurd rfl h⟩
theorem KOk.wrong {k e:Int} (h:e=4∨e=5∨e=6∨e=3):KOk k (C1 e):=⟨fun h0=>by rw [show e=0 from h0] at h;omega,fun _=>h⟩
theorem KOk.whole {x:Int×Int} (h:x.2≠0→x.2=4∨x.2=5∨x.2=6∨x.2=3):KOk 1 (F7 x):=by
 unfold F7
 split
 ·rename_i h1;exact .wrong (h (by simpa using h1))
 exact .val rfl
theorem KOk.mono {k k':Int} {r:Rs} (h:KOk k r) (hk:k=k'∨k=0):KOk k' r:=⟨fun h0=>by have:=h.kind h0;omega,h.err⟩
theorem P4 {α:Type} {g:α→Int} {r:α→Rs} {l:List α} (h:∀y∈l,KOk (g y) (r y)) {k:Int} {f:List Val→Rs} (hs:∀vs:List Val,vs.map (·.kind)=l.map g→(∀v∈vs,v.kind≠0)→KOk k (f vs)):KOk k (Ic f (l.map r)):=by
 unfold Ic
 split
 ·rename_i q hq
  have h1:=List.find?_some hq
  obtain ⟨y,hy,rfl⟩:=List.mem_map.1 (List.mem_of_find?_eq_some hq)
  exact .wrong ((h y hy).err (by simpa using h1))
 rename_i hq
 have h0:∀y∈l,(r y).2=0:=fun y hy=>by
  have:=List.find?_eq_none.1 hq (r y) (List.mem_map_of_mem hy)
  simpa using this
 split
 ·exact .null k
 rename_i hn
 have hnn:∀y∈l,(r y).1.kind≠0:=fun y hy e=>hn (by rw [List.any_eq_true];exact ⟨r y,List.mem_map_of_mem hy,by simpa using e⟩)
 refine hs _ ?_ ?_
 ·rw [List.map_map,List.map_map]
  refine List.map_congr_left fun y hy=>?_
  have:=(h y hy).kind (h0 y hy)
  have:=hnn y hy
  show (r y).1.kind=g y
  omega
 intro v hv
 rw [List.map_map] at hv
 obtain ⟨y,hy,rfl⟩:=List.mem_map.1 hv
 exact hnn y hy
theorem Mu {a b:Int} (h:(Cc a b).2=true):((a=0∧(Cc a b).1=b)∨(a≠0∧(b=0∨b=a)∧(Cc a b).1=a)):=by
 unfold Cc at h ⊢
 split
 ·rename_i e;exact .inl ⟨by simpa using e,rfl⟩
 rename_i e
 rw [if_neg e] at h
 split
 ·rename_i e2
  exact .inr ⟨by simpa using e,by simp only [Bool.or_eq_true,beq_iff_eq] at e2;omega,rfl⟩
 rename_i e2
 rw [if_neg e2] at h
 cases h
theorem yh {s:Sign} {ks:List Int} (h:(Pf s ks).2=0):∃c,Ew s.kids ks 0=some c∧(Pf s ks).1=if s.own == -1 then c else s.own:=by
 unfold Pf at h ⊢
 cases hk:Ew s.kids ks 0 with
 | none=>rw [hk] at h;cases h
 | some c=>exact ⟨c,rfl,by simp only;split<;>rfl⟩
/-- One kid, of a kind. -/
theorem jq {w k0 c:Int} (h1:(w == -2)=false) (h2:(w == -1)=false) (h3:w≠0) (h:Ew [w] [k0] 0=some c):k0=0∨k0=w:=by
 rw [Ew,h1,h2] at h
 simp only [Bool.false_eq_true,if_false] at h
 split at h
 ·rename_i hm;have:=Mu hm;omega
 cases h
theorem jr {w w' k0 k1 c:Int} (h1:(w == -2)=false) (h2:(w == -1)=false) (h3:w≠0) (h1':(w' == -2)=false) (h2':(w' == -1)=false) (h3':w'≠0) (h:Ew [w,w'] [k0,k1] 0=some c):(k0=0∨k0=w)∧(k1=0∨k1=w'):=by
 rw [Ew,h1,h2] at h
 simp only [Bool.false_eq_true,if_false] at h
 split at h
 ·rename_i hm
  rw [Ew,h1',h2'] at h
  simp only [Bool.false_eq_true,if_false] at h
  split at h
  ·rename_i hm';have:=Mu hm;have:=Mu hm';omega
  cases h
 cases h
/-- Two kids of one kind, whichever. -/
theorem Vk {k0 k1 c c0:Int} (h:Ew [-1, -1] [k0,k1] c0=some c) (h0:c0=0):(k0=0∨k0=c)∧(k1=0∨k1=c)∧(k0≠0→k1≠0→k0=k1):=by
 subst h0
 rw [Ew] at h
 simp only [show ((-1:Int) == -2)=false from rfl,show ((-1:Int) == -1)=true from rfl,Bool.false_eq_true,if_false,if_true] at h
 split at h
 ·rename_i hm
  rw [Ew] at h
  simp only [show ((-1:Int) == -2)=false from rfl,show ((-1:Int) == -1)=true from rfl,Bool.false_eq_true,if_false,if_true] at h
  split at h
  ·rename_i hm'
   rw [Ew] at h
   injection h with h
   have a:=Mu hm
   have b:=Mu hm'
   omega
  cases h
 cases h
theorem Ky {c:List Col} {o:Int} {t:Str} {v:Val} {k:List Expr} (h:(As c (.mk o t v k)).2=0) (h1:(o==1)=false) (h2:(o==2)=false):
  (∀y∈k,(As c y).2=0)∧∃m,Ew (Bs o t).kids (k.map fun y=>(As c y).1) 0=some m∧(As c (.mk o t v k)).1=if (Bs o t).own == -1 then m else (Bs o t).own:=by
 rw [As] at h ⊢
 have hk:=o6 h h1 h2
 rw [Nu] at hk h ⊢
 have hk':∀y∈k,(As c y).2=0:=fun y hy=>hk _ (List.mem_map_of_mem hy)
 refine ⟨hk',?_⟩
 have e:La c o t v (k.map (As c))=Pf (Bs o t) (k.map fun y=>(As c y).1):=by
  unfold La
  rw [h1,h2]
  have:(k.map (As c)).find? (fun q=>q.2 != 0)=none:=List.find?_eq_none.2 fun q hq=>by simpa using hk q hq
  simp only [Bool.false_eq_true,if_false,this,List.map_map]
  rfl
 rw [e] at h ⊢
 exact yh h
theorem js (t:Str) (a b:Int):(Ai t a b).2≠0→(Ai t a b).2=4∨(Ai t a b).2=5∨(Ai t a b).2=6∨(Ai t a b).2=3:=by
 unfold Ai Pg H3 L4 Fk Lx
 simp only
 repeat' split
 all_goals simp
theorem uf (a b:Int):(H3 a b).2≠0→(H3 a b).2=4∨(H3 a b).2=5∨(H3 a b).2=6∨(H3 a b).2=3:=by
 unfold H3
 repeat' split
 all_goals simp
theorem ug (s:Str):(Bc s).2≠0→(Bc s).2=4∨(Bc s).2=5∨(Bc s).2=6∨(Bc s).2=3:=by
 unfold Bc
 repeat' split
 all_goals simp
theorem yi {a b:Val} (ha:a.kind=2) (hb:b.kind=2):KOk 2 (Kf a b):=by
 unfold Kf
 rw [show C8 [a,b] [2,2]=true by simp [C8,ha,hb]]
 simp only [Bool.not_true,Bool.false_eq_true,if_false]
 split
 ·exact .wrong (by omega)
 exact .val rfl
/-- A mark of two values of the kinds that its sign asks for. -/
theorem ABe {t:Str} {a b:Val} (ht:t∈[[61],[33,61],[60],[60,61],[62],[62,61],[43],[45],[38],[42],[47],[37]]) {m:Int} (hf:Ew (C9 t).kids [a.kind,b.kind] 0=some m) (ha:a.kind≠0) (hb:b.kind≠0):
  KOk (if (C9 t).own == -1 then m else (C9 t).own) (It t a b):=by
 have hcmp:∀t:Str,(A4 t (Xx a b)).2=true→C9 t=⟨[-1, -1],3⟩→Ew (C9 t).kids [a.kind,b.kind] 0=some m→KOk (if (C9 t).own == -1 then m else (C9 t).own) (It t a b):=fun t h1 h2 hf=>by
  rw [h2] at hf ⊢
  have:=Vk hf rfl
  have e:a.kind=b.kind:=this.2.2 ha hb
  unfold It
  rw [h1,if_pos rfl,e]
  simp only [bne_self_eq_false,Bool.false_eq_true,if_false]
  exact .val rfl
 have har:∀t:Str,(A4 t (Xx a b)).2=false→(t==[38])=false→C9 t=⟨[1,1],1⟩→Ew (C9 t).kids [a.kind,b.kind] 0=some m→KOk (if (C9 t).own == -1 then m else (C9 t).own) (It t a b):=fun t h1 h2 h3 hf=>by
  rw [h3] at hf ⊢
  have:=jr rfl rfl (by decide) rfl rfl (by decide) hf
  unfold It
  rw [h1,h2,show C8 [a,b] [1,1]=true by simp [C8];omega]
  exact KOk.whole (js _ _ _)
 simp only [List.mem_cons,List.not_mem_nil,or_false] at ht
 rcases ht with rfl|rfl|rfl|rfl|rfl|rfl|rfl|rfl|rfl|rfl|rfl|rfl
 ·exact gy
 ·exact gy
 ·exact gy
 ·exact gy
 ·exact gy
 ·exact gy
 ·exact mm
 ·exact mm
 ·have h3:C9 [38]=⟨[2,2],2⟩:=rfl
  rw [h3] at hf ⊢
  have:=jr rfl rfl (by decide) rfl rfl (by decide) hf
  exact yi (by omega) (by omega)
 ·exact mm
 ·exact mm
 exact mm
theorem Vl {r:Rs} (h:KOk 3 r):Af r=r:=by
 unfold Af
 split
 ·rename_i e
  simp only [Bool.and_eq_true,beq_iff_eq,bne_iff_ne] at e
  have:=h.kind e.1.1
  omega
 rfl
theorem dq {s:Val} {a b:Rs} (ha:KOk 3 a) (hb:KOk 3 b):KOk 3 (Fj s a b):=by
 unfold Fj
 rw [Vl ha,Vl hb]
 split
 ·exact ha
 rename_i h1
 split
 ·exact hb
 simp only [Bool.or_eq_true,bne_iff_ne,not_or,Decidable.not_not] at h1
 exact ⟨fun _=>ha.kind h1.1,fun h=>absurd rfl h⟩
theorem Jf {t:Str} {n:Nat} (h:B4 t=(n:Int)):(t=[108,101,110]∧n=1)∨(t=[115,116,114]∧n=1)∨(t=[110,117,109]∧n=1)∨(t=B2∧n=1)∨(t=O1∧n=2)∨(t=[108,101,102,116]∧n=2)∨(t=[114,105,103,104,116]∧n=2)∨(t=ifW∧n=3):=by
 by_cases hm:t∈arityList.map (·.1)
 ·have ha:∀s∈arityList.map (·.1),(s=[108,101,110]∧B4 s=1)∨(s=[115,116,114]∧B4 s=1)∨(s=[110,117,109]∧B4 s=1)∨(s=B2∧B4 s=1)∨(s=O1∧B4 s=2)∨(s=[108,101,102,116]∧B4 s=2)∨(s=[114,105,103,104,116]∧B4 s=2)∨(s=ifW∧B4 s=3):=by
   have:((arityList.map (·.1)).all fun s=>decide ((s=[108,101,110]∧B4 s=1)∨(s=[115,116,114]∧B4 s=1)∨(s=[110,117,109]∧B4 s=1)∨(s=B2∧B4 s=1)∨(s=O1∧B4 s=2)∨(s=[108,101,102,116]∧B4 s=2)∨(s=[114,105,103,104,116]∧B4 s=2)∨(s=ifW∧B4 s=3)))=true:=by kernel_rfl
   exact fun s hs=>of_decide_eq_true (List.all_eq_true.1 this s hs)
  have:=ha t hm
  rw [h] at this
  rcases this with ⟨e,h2⟩|⟨e,h2⟩|⟨e,h2⟩|⟨e,h2⟩|⟨e,h2⟩|⟨e,h2⟩|⟨e,h2⟩|⟨e,h2⟩
  ·exact .inl ⟨e,by omega⟩
  ·exact .inr (.inl ⟨e,by omega⟩)
  ·exact .inr (.inr (.inl ⟨e,by omega⟩))
  ·exact .inr (.inr (.inr (.inl ⟨e,by omega⟩)))
  ·exact .inr (.inr (.inr (.inr (.inl ⟨e,by omega⟩))))
  ·exact .inr (.inr (.inr (.inr (.inr (.inl ⟨e,by omega⟩)))))
  ·exact .inr (.inr (.inr (.inr (.inr (.inr (.inl ⟨e,by omega⟩))))))
  exact .inr (.inr (.inr (.inr (.inr (.inr (.inr ⟨e,by omega⟩))))))
 have h1:B4 t = -1:=by
  unfold B4
  rw [List.find?_eq_none.2 fun p hp=>by
   simp only [beq_iff_eq]
   rintro rfl
   exact hm (List.mem_map.2 ⟨p,hp,rfl⟩)]
 omega
theorem Pp {k:List Expr} (h:k.length=1):∃a,k=[a]:=by match k,h with|[a],_=>exact ⟨a,rfl⟩
theorem Kz {k:List Expr} (h:k.length=2):∃a b,k=[a,b]:=by match k,h with|[a,b],_=>exact ⟨a,b,rfl⟩
theorem jt {k:List Expr} (h:k.length=3):∃a b c,k=[a,b,c]:=by match k,h with|[a,b,c],_=>exact ⟨a,b,c,rfl⟩
theorem Iv {vs:List Val} {k:Int} (h:vs.map (·.kind)=[k]):∃v,vs=[v]∧v.kind=k:=by
 match vs,h with
 | [v],h=>exact ⟨v,rfl,by simpa using h⟩
theorem O4 {vs:List Val} {k k':Int} (h:vs.map (·.kind)=[k,k']):∃v v',vs=[v,v']∧v.kind=k∧v'.kind=k':=by
 match vs,h with
 | [v,v'],h=>exact ⟨v,v',rfl,by simpa using h⟩
theorem dr {c:List Col} {l:List Val} (hl:E2 c l=true):∀(n:Nat) (e:Expr),sizeE e≤n→Bn Bi e=true→(As c e).2=0→KOk (As c e).1 (B6 c l e)
 | 0,e,hn,_,_=>by have:=Mg e;omega
 | n+1,e,hn,hnd,hk=>by
  have hnd0:=hnd
  rw [E1,Bool.and_eq_true] at hnd0
  have ih:∀y∈e.kids,(As c y).2=0→KOk (As c y).1 (B6 c l y):=fun y hy h0=>dr hl n y (jd hn hy) ((Dn _ _).1 hnd0.2 y hy) h0
  obtain ⟨r1,r2,r3⟩:=row_iff.1 hl
  have hNC:=Jd hnd0.1
  cases hNC with
  | val v hp h0 =>
   have:As c (Gm v)=(v.kind,0):=by rw [Gm,As];rfl
   rw [this]
   exact .val rfl
  | name t ht =>
   have e1:As c (Bv t)=R6 c t:=by rw [Bv,As];rfl
   have e2:B6 c l (Bv t)=Ir c l t:=by rw [B6,Bv,Dj];rfl
   rw [e1] at hk ⊢
   rw [e2]
   unfold R6 at hk ⊢
   unfold Ir
   split at hk
   ·cases hk
   rename_i hf
   rw [if_neg hf,if_neg hf]
   obtain ⟨j,z,hj,hz,hfj⟩:=find_mem.1 hf
   have hjl:j<l.length:=by rw [r2];exact (List.getElem?_eq_some_iff.1 hj).1
   have:=r3 j l[j] z (List.getElem?_eq_getElem hjl) hj
   rw [hfj,Int.toNat_natCast,List.getD_eq_getElem?_getD,List.getD_eq_getElem?_getD,hj,List.getElem?_eq_getElem hjl]
   exact ⟨fun _=>by show l[j].kind=z.kind∨l[j].kind=0;omega,fun h=>absurd rfl h⟩
  | neg a =>
   rw [Dl] at hk ⊢
   obtain ⟨hky,m,hf,ho⟩:=Ky hk rfl rfl
   rw [ho,B6,Dj,Ha]
   have hs:Bs 3 []=⟨[1],1⟩:=rfl
   rw [hs] at hf ⊢
   have hm:=jq rfl rfl (by decide) hf
   show KOk 1 (Ic (Ah 3 []) ([a].map (Dj Ah c l)))
   refine P4 (g:=fun y=>(As c y).1) (fun y hy=>ih y hy (hky y hy)) (fun vs hvs hnz=>?_)
   obtain ⟨v,rfl,hv⟩:=Iv hvs
   have hv0:=hnz v (by simp)
   have hv1:v.kind=1:=by omega
   unfold Ah
   rw [show C8 [v] [1]=true by simp [C8,hv1]]
   exact KOk.whole (uf _ _)
  | no a =>
   rw [Dl] at hk ⊢
   obtain ⟨hky,m,hf,ho⟩:=Ky hk rfl rfl
   rw [ho,B6,Dj,Ha]
   have hs:Bs 4 []=⟨[3],3⟩:=rfl
   rw [hs] at hf ⊢
   have hm:=jq rfl rfl (by decide) hf
   show KOk 3 (Ic (Ah 4 []) ([a].map (Dj Ah c l)))
   refine P4 (g:=fun y=>(As c y).1) (fun y hy=>ih y hy (hky y hy)) (fun vs hvs hnz=>?_)
   obtain ⟨v,rfl,hv⟩:=Iv hvs
   have hv0:=hnz v (by simp)
   have hv1:v.kind=3:=by omega
   unfold Ah
   rw [show C8 [v] [3]=true by simp [C8,hv1]]
   exact KOk.val rfl
  | bin t a b ht =>
   rw [Eg] at hk ⊢
   obtain ⟨hky,m,hf,ho⟩:=Ky hk rfl rfl
   have ha:=ih a (by simp [Eg,Expr.kids]) (hky a (by simp))
   have hb:=ih b (by simp [Eg,Expr.kids]) (hky b (by simp))
   rw [ho,B6,Dj,Ha]
   rw [show Bs 5 t=C9 t from rfl] at hf ⊢
   have hmem:t∈levels.flatten:=by
    rcases Kb t with h|h
    ·exact h
    omega
   by_cases h1:(t==orW)=true
   ·have e:t=orW:=by simpa using h1
    subst e
    rw [show C9 orW=⟨[3,3],3⟩ from rfl] at hf ⊢
    have hm:((As c a).1=0∨(As c a).1=3)∧((As c b).1=0∨(As c b).1=3):=jr rfl rfl (by decide) rfl rfl (by decide) hf
    exact dq (ha.mono (by omega)) (hb.mono (by omega))
   by_cases h2:(t==Vj)=true
   ·have e:t=Vj:=by simpa using h2
    subst e
    rw [show C9 Vj=⟨[3,3],3⟩ from rfl] at hf ⊢
    have hm:((As c a).1=0∨(As c a).1=3)∧((As c b).1=0∨(As c b).1=3):=jr rfl rfl (by decide) rfl rfl (by decide) hf
    exact dq (ha.mono (by omega)) (hb.mono (by omega))
   have e:Is Ah c l 5 t noV ([a,b].map (Dj Ah c l))=Ic (Ah 5 t) ([a,b].map (Dj Ah c l)):=by
    unfold Is
    rw [show (t==orW)=false by simpa using h1,show (t==Vj)=false by simpa using h2]
    rfl
   rw [e]
   have hm12:t∈[[61],[33,61],[60],[60,61],[62],[62,61],[43],[45],[38],[42],[47],[37]]:=by
    have h1':t≠orW:=by simpa using h1
    have h2':t≠Vj:=by simpa using h2
    simp only [levels,List.flatten_cons,List.flatten_nil,List.cons_append,List.nil_append,List.append_nil,List.mem_cons,List.not_mem_nil,or_false] at hmem ⊢
    rcases hmem with h|h|h
    ·exact absurd h h1'
    ·exact absurd h h2'
    exact h
   refine P4 (g:=fun y=>(As c y).1) (fun y hy=>ih y hy (hky y hy)) (fun vs hvs hnz=>?_)
   obtain ⟨v,v',rfl,hv,hv'⟩:=O4 hvs
   have hf':Ew (C9 t).kids [v.kind,v'.kind] 0=some m:=by rw [hv,hv'];exact hf
   exact ABe hm12 hf' (hnz v (by simp)) (hnz v' (by simp))
  | call t k ht =>
   obtain ⟨hky,m,hf,ho⟩:=Ky hk rfl rfl
   rw [ho,B6,Dj,Ha]
   rw [show Bs 6 t=Cs t from rfl] at hf ⊢
   rcases Jf ht with ⟨rfl,hn1⟩|⟨rfl,hn1⟩|⟨rfl,hn1⟩|⟨rfl,hn1⟩|⟨rfl,hn1⟩|⟨rfl,hn1⟩|⟨rfl,hn1⟩|⟨rfl,hn1⟩
   ·obtain ⟨a,rfl⟩:=Pp hn1
    have hs:Cs [108,101,110]=⟨[2],1⟩:=rfl
    rw [hs] at hf ⊢
    have hm:=jq rfl rfl (by decide) hf
    show KOk 1 (Ic (Ah 6 [108,101,110]) ([a].map (Dj Ah c l)))
    refine P4 (g:=fun y=>(As c y).1) (fun y hy=>ih y hy (hky y hy)) (fun vs hvs hnz=>?_)
    obtain ⟨v,rfl,hv⟩:=Iv hvs
    have hv0:=hnz v (by simp)
    have hv1:v.kind=2:=by omega
    show KOk 1 (Fp [108,101,110] v)
    unfold Fp
    rw [hv1]
    exact KOk.val rfl
   ·obtain ⟨a,rfl⟩:=Pp hn1
    have hs:Cs [115,116,114]=⟨[1],2⟩:=rfl
    rw [hs] at hf ⊢
    have hm:=jq rfl rfl (by decide) hf
    show KOk 2 (Ic (Ah 6 [115,116,114]) ([a].map (Dj Ah c l)))
    refine P4 (g:=fun y=>(As c y).1) (fun y hy=>ih y hy (hky y hy)) (fun vs hvs hnz=>?_)
    obtain ⟨v,rfl,hv⟩:=Iv hvs
    have hv0:=hnz v (by simp)
    have hv1:v.kind=1:=by omega
    show KOk 2 (Fp [115,116,114] v)
    unfold Fp
    rw [hv1]
    exact KOk.val rfl
   ·obtain ⟨a,rfl⟩:=Pp hn1
    have hs:Cs [110,117,109]=⟨[2],1⟩:=rfl
    rw [hs] at hf ⊢
    have hm:=jq rfl rfl (by decide) hf
    show KOk 1 (Ic (Ah 6 [110,117,109]) ([a].map (Dj Ah c l)))
    refine P4 (g:=fun y=>(As c y).1) (fun y hy=>ih y hy (hky y hy)) (fun vs hvs hnz=>?_)
    obtain ⟨v,rfl,hv⟩:=Iv hvs
    have hv0:=hnz v (by simp)
    have hv1:v.kind=2:=by omega
    show KOk 1 (Fp [110,117,109] v)
    unfold Fp
    rw [hv1]
    exact KOk.whole (ug _)
   ·obtain ⟨a,rfl⟩:=Pp hn1
    have ha:=ih a (by simp [Expr.kids]) (hky a (by simp))
    have hs:Cs B2=⟨[-2],3⟩:=rfl
    rw [hs]
    show KOk 3 (Df B2 (B6 c l a) (noV,0) (noV,0))
    unfold Df
    rw [show (B2==ifW)=false from rfl,show (B2==B2)=true from rfl]
    simp only [Bool.false_eq_true,if_false,if_true]
    split
    ·rename_i h;exact .wrong (ha.err (by simpa using h))
    exact .val rfl
   ·obtain ⟨a,b,rfl⟩:=Kz hn1
    have ha:=ih a (by simp [Expr.kids]) (hky a (by simp))
    have hb:=ih b (by simp [Expr.kids]) (hky b (by simp))
    have hs:Cs O1=⟨[-1, -1], -1⟩:=rfl
    rw [hs] at hf ⊢
    have hm:((As c a).1=0∨(As c a).1=m)∧((As c b).1=0∨(As c b).1=m)∧((As c a).1≠0→(As c b).1≠0→(As c a).1=(As c b).1):=Vk hf rfl
    show KOk m (Df O1 (B6 c l a) (B6 c l b) (noV,0))
    unfold Df
    rw [show (O1==ifW)=false from rfl,show (O1==B2)=false from rfl]
    simp only [Bool.false_eq_true,if_false]
    split
    ·rename_i h;exact .wrong (ha.err (by simpa using h))
    rename_i h
    split
    ·rename_i h2
     have:=ha.kind (by simpa using h)
     have h2:(B6 c l a).1.kind≠0:=by simpa using h2
     exact .val (by omega)
    exact hb.mono (by omega)
   ·obtain ⟨a,b,rfl⟩:=Kz hn1
    have hs:Cs [108,101,102,116]=⟨[2,1],2⟩:=rfl
    rw [hs] at hf ⊢
    have hm:=jr rfl rfl (by decide) rfl rfl (by decide) hf
    show KOk 2 (Ic (Ah 6 [108,101,102,116]) ([a,b].map (Dj Ah c l)))
    refine P4 (g:=fun y=>(As c y).1) (fun y hy=>ih y hy (hky y hy)) (fun vs hvs hnz=>?_)
    obtain ⟨v,v',rfl,hv,hv'⟩:=O4 hvs
    have hv0:=hnz v (by simp)
    have hv0':=hnz v' (by simp)
    have hv1:v.kind=2:=by omega
    have hv1':v'.kind=1:=by omega
    unfold Ah
    rw [show C8 [v,v'] [2,1]=true by simp [C8,hv1,hv1']]
    exact KOk.val rfl
   ·obtain ⟨a,b,rfl⟩:=Kz hn1
    have hs:Cs [114,105,103,104,116]=⟨[2,1],2⟩:=rfl
    rw [hs] at hf ⊢
    have hm:=jr rfl rfl (by decide) rfl rfl (by decide) hf
    show KOk 2 (Ic (Ah 6 [114,105,103,104,116]) ([a,b].map (Dj Ah c l)))
    refine P4 (g:=fun y=>(As c y).1) (fun y hy=>ih y hy (hky y hy)) (fun vs hvs hnz=>?_)
    obtain ⟨v,v',rfl,hv,hv'⟩:=O4 hvs
    have hv0:=hnz v (by simp)
    have hv0':=hnz v' (by simp)
    have hv1:v.kind=2:=by omega
    have hv1':v'.kind=1:=by omega
    unfold Ah
    rw [show C8 [v,v'] [2,1]=true by simp [C8,hv1,hv1']]
    exact KOk.val rfl
   obtain ⟨a,b,d,rfl⟩:=jt hn1
   have ha:=ih a (by simp [Expr.kids]) (hky a (by simp))
   have hb:=ih b (by simp [Expr.kids]) (hky b (by simp))
   have hd:=ih d (by simp [Expr.kids]) (hky d (by simp))
   have hs:Cs ifW=⟨[3, -1, -1], -1⟩:=rfl
   rw [hs] at hf ⊢
   have hf':Ew [3] [(As c a).1] 0=some 0∧Ew [-1, -1] [(As c b).1,(As c d).1] 0=some m:=by
    simp only [List.map_cons,List.map_nil] at hf
    rw [Ew] at hf
    simp only [show ((3:Int) == -2)=false from rfl,show ((3:Int) == -1)=false from rfl,Bool.false_eq_true,if_false] at hf
    split at hf
    ·rename_i hm
     refine ⟨?_,hf⟩
     rw [Ew]
     simp only [show ((3:Int) == -2)=false from rfl,show ((3:Int) == -1)=false from rfl,Bool.false_eq_true,if_false,hm,if_true]
     rw [Ew]
    cases hf
   have hm1:=jq rfl rfl (by decide) hf'.1
   have hm:=Vk hf'.2 rfl
   show KOk m (Df ifW (B6 c l a) (B6 c l b) (B6 c l d))
   unfold Df
   rw [show (ifW==ifW)=true from rfl,if_pos rfl,Vl (ha.mono (by omega))]
   split
   ·rename_i h;exact .wrong (ha.err (by simpa using h))
   split
   ·exact hb.mono (by omega)
   exact hd.mono (by omega)
/-! The print of a tree, and its words. -/
/-! What was parsed nests no deeper than may be. -/
structure NB (N k:Nat) (r:Expr×PS):Prop where
 nest:r.2.nest=N
 need:r.2.code=0→N+Fi k r.1 (C7 r.1)≤30
def NF (N k:Nat) (f:PS→Expr×PS):Prop:=∀S:PS,S.nest=N→NB N k (f S)
theorem ju {k k':Nat} (h:k≤k') (x:Expr) (n:Nat):Fi k x n≤Fi k' x n:=by
 unfold Fi
 split
 ·split<;>omega
 rw [if_neg (by omega)];exact Nat.le_refl _
theorem Mv (k:Nat) (x:Expr) (n:Nat):n≤Fi k x n∧Fi k x n≤n+1:=by unfold Fi;split<;>omega
theorem NB.down {N k k':Nat} {r:Expr×PS} (h:NB N k' r) (hk:k≤k'):NB N k r:=⟨h.nest,fun h0=>by
 have:=h.need h0
 have:=ju hk r.1 (C7 r.1)
 omega⟩
theorem L0 (e a:Int) (S:PS):(Co e a S).nest=S.nest:=by unfold Co;split<;>rfl
theorem Hb {e a:Int} (he:e≠0) (S:PS):(Co e a S).code≠0:=by
 unfold Co
 split
 ·exact he
 rename_i h;simpa using h
theorem O5 (l:List Tok) (s:Str) (S:PS):(De l s S).nest=S.nest:=by
 unfold De
 split
 ·rfl
 split
 ·exact L0 _ _ _
 rfl
theorem Iw {l:List Tok} {s:Str} {S:PS} (h:(De l s S).code=0):S.code=0:=by
 unfold De at h
 split at h
 ·exact h
 rename_i h0;simpa using h0
theorem O6 {N k:Nat} {a:Int} {f:PS→Expr×PS} (hN:N≤30) (hf:N<30→NF (N+1) k f) {S:PS} (hS:S.nest=N):(Al a f S).2.nest=N∧((Al a f S).2.code=0→N+1+Fi k (Al a f S).1 (C7 (Al a f S).1)≤30):=by
 unfold Al
 split
 ·exact AAg
 rename_i h
 have hlt:N<30:=by simp at h;omega
 have:=hf hlt (Bj S) (by show S.nest+1=N+1;omega)
 refine ⟨?_,fun h0=>this.need h0⟩
 show (f (Bj S)).2.nest-1=N
 rw [this.nest]
 rfl
theorem dt {N:Nat} {l:List Tok} {f:PS→Expr×PS} (hf:NF N 0 f):∀(n:Nat) (r:List Expr×PS),r.2.nest=N→(r.2.code=0→∀y∈r.1,N+C7 y≤30)→(argsF l f n r).2.nest=N∧((argsF l f n r).2.code=0→∀y∈(argsF l f n r).1,N+C7 y≤30)
 | 0,r,h1,h2=>⟨h1,h2⟩
 | n+1,r,h1,h2=>by
  rw [argsF]
  split
  ·rename_i hc
   simp only [Bool.and_eq_true,beq_iff_eq] at hc
   have hq:=hf (A8 r.2) h1
   refine dt hf n _ hq.nest (fun h0 y hy=>?_)
   rcases List.mem_append.1 hy with hy|hy
   ·exact h2 hc.1 y hy
   rw [List.mem_singleton.1 hy]
   have:=hq.need h0
   have:=(Mv 0 (f (A8 r.2)).1 (C7 (f (A8 r.2)).1)).1
   omega
  exact ⟨h1,h2⟩
theorem uh {l:List Expr} {m:Nat} (h:∀y∈l,C7 y≤m):oe (Mq l)≤m:=by
 induction l with
 | nil=>exact Nat.zero_le _
 | cons a r ih =>
  rw [Mq,oe]
  have h1:=h a List.mem_cons_self
  have h2:=ih fun y hy=>h y (List.mem_cons_of_mem _ hy)
  omega
theorem ui {N:Nat} {l:List Tok} {a:Int} {f:PS→Expr×PS} (hN:N≤30) (hf:N<30→NF (N+1) 0 f) {S:PS} (hS:S.nest=N):(Hy l a f S).2.nest=N∧((Hy l a f S).2.code=0→∀y∈(Hy l a f S).1,N+1+C7 y≤30):=by
 unfold Hy
 split
 ·exact AAg
 rename_i h
 have hlt:N<30:=by simp at h;omega
 have hq:=hf hlt (Bj S) (by show S.nest+1=N+1;omega)
 obtain ⟨h1,h2⟩:=dt (l:=l) (hf hlt) l.length ([(f (Bj S)).1],(f (Bj S)).2) hq.nest (fun h0 y hy=>by
  rw [List.mem_singleton.1 hy]
  have:=hq.need h0
  have:=(Mv 0 (f (Bj S)).1 (C7 (f (Bj S)).1)).1
  omega)
 refine ⟨?_,h2⟩
 show (Fa l f (Bj S)).2.nest-1=N
 unfold Fa
 rw [h1]
 rfl
theorem uj {N:Nat} {l:List Tok} {D:Fam} (hN:N≤30) (hD:N<30→NF (N+1) 0 D.ei):NF N 7 (Ds l D):=fun S hS=>by
 have leaf:∀(x:Expr) (S':PS),S'.nest=N→C7 x=0→Jo x=7→NB N 7 (x,S'):=fun x S' h1 h2 h3=>⟨h1,fun _=>by
  show N+Fi 7 x (C7 x)≤30
  unfold Fi
  rw [h3,h2,if_pos (by decide)]
  omega⟩
 have bad:∀(x:Expr) (S':PS),S'.nest=N→S'.code≠0→NB N 7 (x,S'):=fun x S' h1 h2=>⟨h1,fun h=>absurd h h2⟩
 unfold Ds
 split
 ·rename_i h;exact bad _ _ hS (by simpa using h)
 split
 ·exact leaf _ _ hS (Xl _) (db _)
 split
 ·exact leaf _ _ hS (Xl _) (db _)
 split
 ·split
  ·unfold Fb
   split
   ·exact AAh
   have hk:=ui (l:=l) (a:=(A7 l (A8 S).i).at_) hN hD (show (A8 (A8 S)).nest=N from hS)
   split
   ·exact bad _ _ ((L0 _ _ _).trans ((O5 _ _ _).trans hk.1)) (Hb (by decide) _)
   refine ⟨(O5 _ _ _).trans hk.1,fun h0=>?_⟩
   have hkk:=hk.2 (Iw h0)
   show N+Fi 7 (.mk 6 _ noV (Br l D (A8 S)).1) (C7 (.mk 6 _ noV (Br l D (A8 S)).1))≤30
   rw [jc]
   unfold Fi
   rw [oi,if_pos (by decide)]
   by_cases hlt:N<30
   ·have:=uh (l:=(Br l D (A8 S)).1) (m:=30-N-1) (fun y hy=>by have:=hkk y hy;omega)
    omega
   exfalso
   have hc:=Iw h0
   unfold Br Hy at hc
   rw [if_pos (by show ((S.nest:Int)==30)=true;simp;omega)] at hc
   exact Hb (by decide) _ hc
  exact leaf _ _ hS (jb _) (oh _)
 split
 ·have hw:=O6 (a:=(A7 l S.i).at_) hN hD (show (A8 S).nest=N from hS)
  refine ⟨(O5 _ _ _).trans hw.1,fun h0=>?_⟩
  have h1:=hw.2 (Iw h0)
  have h2:=(Mv 0 (Al (A7 l S.i).at_ D.ei (A8 S)).1 (C7 (Al (A7 l S.i).at_ D.ei (A8 S)).1)).1
  have h3:=(Mv 7 (Al (A7 l S.i).at_ D.ei (A8 S)).1 (C7 (Al (A7 l S.i).at_ D.ei (A8 S)).1)).2
  show N+Fi 7 (Al (A7 l S.i).at_ D.ei (A8 S)).1 (C7 (Al (A7 l S.i).at_ D.ei (A8 S)).1)≤30
  omega
 exact AAh
theorem pu {N:Nat} {l:List Tok} {D:Fam} (hN:N≤30) (hD:N<30→NF (N+1) 0 D.ei) (hn:N<30→NF (N+1) 6 D.ne):NF N 6 (Jm l D):=fun S hS=>by
 unfold Jm
 split
 ·exact (uj hN hD S hS).down (by decide)
 have hw:=O6 (a:=(A7 l S.i).at_) hN hn (show (A8 S).nest=N from hS)
 refine ⟨hw.1,fun h0=>?_⟩
 have h1:=hw.2 h0
 show N+Fi 6 (Dl 3 (Al (A7 l S.i).at_ D.ne (A8 S)).1) _≤30
 unfold Fi
 rw [tx,if_pos (by decide),og]
 omega
theorem Jg {N k:Nat} {l:List Tok} {f:PS→Expr×PS} (hk:k=0∨k=1∨k=4∨k=5) (hf:NF N (k+1) f):NF N k (Dr l (ofL k) f):=by
 have hloop:∀(n:Nat) (r:Expr×PS),NB N k r→NB N k (Lc l (ofL k) f n r):=by
  intro n
  induction n with
  | zero=>exact fun r h=>h
  | succ n ih =>
   intro r h
   rw [Lc]
   split
   ·rename_i hc
    simp only [Bool.and_eq_true,beq_iff_eq] at hc
    have hq:=hf (A8 r.2) h.nest
    refine ih _ ⟨hq.nest,fun h0=>?_⟩
    have hlv:Cp (A7 l r.2.i).text=(k:Int):=by
     have hm:=hc.2
     unfold isM at hm
     rw [Bool.and_eq_true] at hm
     have:=hm.2
     rw [Jc (Xn hk)] at this
     simpa using this
    have h1:=h.need hc.1
    have h2:=hq.need h0
    have hfl:Nx k=k:=by unfold Nx;rw [if_neg (by omega)]
    show N+Fi k (Eg (A7 l r.2.i).text r.1 (f (A8 r.2)).1) (C7 (Eg (A7 l r.2.i).text r.1 (f (A8 r.2)).1))≤30
    rw [Xm,hlv]
    rw [show Fi k (Eg (A7 l r.2.i).text r.1 (f (A8 r.2)).1) _=_ from if_pos (by rw [dc,hlv];simp)]
    rw [Int.toNat_natCast,hfl]
    omega
   exact h
 exact fun S hS=>hloop _ _ ((hf S hS).down (Nat.le_succ k))
theorem pv {N:Nat} {l:List Tok} {D:Fam} (hf:NF N 4 (By l D)):NF N 3 (Cq l D):=fun S hS=>by
 unfold Cq
 split
 ·exact (hf S hS).down (by decide)
 rename_i hc
 simp only [Bool.or_eq_true,not_or,bne_iff_ne,ne_eq,Decidable.not_not,Bool.not_eq_true',Bool.not_eq_false] at hc
 have hx:=hf S hS
 have hq:=hf (A8 (By l D S).2) hx.nest
 refine ⟨hq.nest,fun h0=>?_⟩
 have hlv:Cp (A7 l (By l D S).2.i).text=((3:Nat):Int):=by
  have hm:=hc.2
  unfold isM at hm
  rw [Bool.and_eq_true] at hm
  have:=hm.2
  rw [show iz=ofL 3 from rfl,Jc (.inr (.inr (.inl rfl)))] at this
  simpa using this
 have h1:=hx.need hc.1
 have h2:=hq.need h0
 show N+Fi 3 (Eg (A7 l (By l D S).2.i).text (By l D S).1 (By l D (A8 (By l D S).2)).1) (C7 (Eg (A7 l (By l D S).2.i).text (By l D S).1 (By l D (A8 (By l D S).2)).1))≤30
 rw [Xm,hlv]
 rw [show Fi 3 (Eg (A7 l (By l D S).2.i).text (By l D S).1 (By l D (A8 (By l D S).2)).1) _=_ from if_pos (by rw [dc,hlv];simp)]
 rw [Int.toNat_natCast,show Nx 3=4 from rfl,show 3+1=4 from rfl]
 omega
theorem pw {N:Nat} {l:List Tok} {D:Fam} (hN:N≤30) (hf:NF N 3 (Cq l D)) (hn:N<30→NF (N+1) 2 D.no):NF N 2 (Jn l D):=fun S hS=>by
 unfold Jn
 split
 ·exact (hf S hS).down (by decide)
 have hw:=O6 (a:=(A7 l S.i).at_) hN hn (show (A8 S).nest=N from hS)
 refine ⟨hw.1,fun h0=>?_⟩
 have h1:=hw.2 h0
 show N+Fi 2 (Dl 4 (Al (A7 l S.i).at_ D.no (A8 S)).1) _≤30
 unfold Fi
 rw [xu,if_pos (by decide),tw]
 omega
theorem bc (l:List Tok):∀(d N:Nat),N+d=30→NF N 0 (Kw l (C3 l d))∧NF N 2 (Jn l (C3 l d))∧NF N 6 (Jm l (C3 l d))
 | d,N,h=>by
  have ih:N<30→NF (N+1) 0 (C3 l d).ei∧NF (N+1) 2 (C3 l d).no∧NF (N+1) 6 (C3 l d).ne:=fun hlt=>by
   match d,h with
   | 0,h=>omega
   | d+1,h=>exact bc l d (N+1) (by omega)
  have hneg:=pu (l:=l) (D:=C3 l d) (by omega) (fun h=>(ih h).1) (fun h=>(ih h).2.2)
  have hsum:NF N 4 (By l (C3 l d)):=Jg (k:=4) (by decide) (Jg (k:=5) (by decide) hneg)
  have hno:=pw (by omega) (pv hsum) (fun h=>(ih h).2.1)
  exact ⟨Jg (k:=0) (by decide) (Jg (k:=1) (by decide) hno),hno,hneg⟩
theorem jv:C7 Ak≤30:=by decide
/-! What nests too deep is told to be too deep. -/
def F2 (l:List Tok) (x:Expr):Prop:=∀(k:Nat) (S:PS) (rest:List TK),(k=0∨k=1∨k=4∨k=5)→k≤Jo x→S.code=0→S.nest≤30→30<S.nest+C7 x→seg l S.i=Re x++rest→od (k+1) rest→(Dr l (ofL k) (pf l (fam l S.nest) (k+1)) S).2.code=18
/-! What was parsed is right, where the words are the lexer's. -/
/-- What the lexer's words are. -/
structure WordOk (t:Tok):Prop where
 name:t.kind=1→Ff t.text=true
 num:t.kind=3→C5 (Dd t.text).1=true∧0≤(Dd t.text).1.n∧(Dd t.text).1.n≤9223372036854775807
def RB (r:Expr×PS):Prop:=r.2.code=0→Bn Bi r.1=true∧Bn Do r.1=true
def RF (N:Nat) (f:PS→Expr×PS):Prop:=∀S:PS,S.nest=N→RB (f S)
theorem px {t:Str} {x y:Expr} (ht:0≤Cp t):Bi (Eg t x y)=true:=by
 rw [Gl,Eg,En]
 simp [ht,show Gk noV=true from rfl]
theorem jx (x:Expr):Bi (Dl 3 x)=true:=by rw [Gl,Dl,En];simp [show Gk noV=true from rfl]
theorem jy (x:Expr):Bi (Dl 4 x)=true:=by rw [Gl,Dl,En];simp [show Gk noV=true from rfl]
theorem jz {v:Val} (h:C5 v=true) (h0:0≤v.n):Bi (Gm v)=true:=by rw [Gl,Gm,En];simp [h,h0]
theorem be {t:Str} (h:Ff t=true):Bi (Bv t)=true:=by rw [Gl,Bv,En];simp [h,show Gk ⟨0,0,[]⟩=true from rfl]
theorem k7 {t:Str} {k:List Expr} (h:B4 t=(k.length:Int)):Bi (.mk 6 t noV k)=true:=by rw [Gl,En];simp [h,show Gk noV=true from rfl]
theorem py {t:Str} {x y:Expr} (ht:0≤Cp t) (hx:Bn Bi x=true∧Bn Do x=true) (hy:Bn Bi y=true∧Bn Do y=true):Bn Bi (Eg t x y)=true∧Bn Do (Eg t x y)=true:=by
 rw [E1,E1]
 refine ⟨?_,?_⟩
 ·rw [px ht]
  show (true&&(Bn Bi x&&(Bn Bi y&&true)))=true
  rw [hx.1,hy.1];rfl
 show (Do (Eg t x y)&&(Bn Do x&&(Bn Do y&&true)))=true
 rw [hx.2,hy.2];rfl
theorem pz {o:Int} {x:Expr} (ho:Bi (Dl o x)=true) (hx:Bn Bi x=true∧Bn Do x=true):Bn Bi (Dl o x)=true∧Bn Do (Dl o x)=true:=by
 rw [E1,E1]
 refine ⟨?_,?_⟩
 ·rw [ho]
  show (true&&(Bn Bi x&&true))=true
  rw [hx.1];rfl
 show (Do (Dl o x)&&(Bn Do x&&true))=true
 rw [hx.2];rfl
theorem du {x:Expr} (hn:Bi x=true) (hr:Do x=true) (hk:x.kids=[]):Bn Bi x=true∧Bn Do x=true:=by
 rw [E1,E1,hk,hn,hr]
 exact ⟨rfl,rfl⟩
theorem O7 {N:Nat} {a:Int} {f:PS→Expr×PS} (hN:N≤30) (hf:N<30→RF (N+1) f) {S:PS} (hS:S.nest=N):RB (Al a f S):=by
 unfold Al
 split
 ·exact sc
 rename_i h
 exact hf (by simp at h;omega) (Bj S) (by show S.nest+1=N+1;omega)
theorem dv {N:Nat} {l:List Tok} {f:PS→Expr×PS} (hn:NF N 0 f) (hf:RF N f):∀(n:Nat) (r:List Expr×PS),r.2.nest=N→(r.2.code=0→∀y∈r.1,Bn Bi y=true∧Bn Do y=true)→((argsF l f n r).2.code=0→∀y∈(argsF l f n r).1,Bn Bi y=true∧Bn Do y=true)
 | 0,r,h1,h2=>h2
 | n+1,r,h1,h2=>by
  rw [argsF]
  split
  ·rename_i hc
   simp only [Bool.and_eq_true,beq_iff_eq] at hc
   refine dv hn hf n _ (hn (A8 r.2) h1).nest (fun h0 y hy=>?_)
   rcases List.mem_append.1 hy with hy|hy
   ·exact h2 hc.1 y hy
   rw [List.mem_singleton.1 hy]
   exact hf (A8 r.2) h1 h0
  exact h2
theorem uk {t:Str} (h:Gy t j5=true):C5 (Dd t).1=true∧0≤(Dd t).1.n∧(Dd t).1.n≤9223372036854775807:=by
 rw [xt] at h
 simp only [Bool.and_eq_true,litWords,List.contains_cons,List.contains_nil,Bool.or_false,Bool.or_eq_true,beq_iff_eq] at h
 rcases h.2 with rfl|rfl|rfl
 ·exact wv
 ·exact wv
 exact wv
theorem ul {v:Val} (h0:0≤v.n) (h1:v.n≤9223372036854775807):Do (Gm v)=true:=by
 show (decide (-9223372036854775808≤v.n)&&decide (v.n≤9223372036854775807))=true
 simp only [Bool.and_eq_true,decide_eq_true_eq]
 omega
theorem um {N:Nat} {l:List Tok} {D:Fam} (hw:∀i,WordOk (A7 l i)) (hN:N≤30) (hD:N<30→NF (N+1) 0 D.ei) (hR:N<30→RF (N+1) D.ei):RF N (Ds l D):=fun S hS=>by
 have val:∀(v:Val) (S':PS),C5 v=true→0≤v.n→v.n≤9223372036854775807→RB (Gm v,S'):=fun v S' h1 h2 h3 _=>du (jz h1 h2) (ul h2 h3) rfl
 unfold Ds
 split
 ·rename_i h;exact fun h0=>absurd h0 (by simpa using h)
 split
 ·rename_i h1 h2
  rw [Bool.or_eq_true] at h2
  rcases h2 with h2|h2
  ·obtain ⟨a,b,c⟩:=(hw S.i).num (by simpa using h2)
   exact val _ _ a b c
  unfold isM at h2
  rw [Bool.and_eq_true] at h2
  obtain ⟨a,b,c⟩:=uk h2.2
  exact val _ _ a b c
 split
 ·refine val _ _ ?_ (by show (0:Int)≤0;decide) (by show (0:Int)≤9223372036854775807;decide)
  exact (Mt _).plain
 split
 ·rename_i h1
  have hnm:=(hw S.i).name (by simpa using h1)
  split
  ·unfold Fb
   split
   ·exact sc
   split
   ·exact sc
   rename_i h2 h3
   intro h0
   have h0':(De l Dp (Br l D (A8 S)).2).code=0:=h0
   have hlen:((Br l D (A8 S)).1.length:Int)=B4 (A7 l S.i).text:=by
    rw [h0'] at h3
    simpa using h3
   have hc:=Iw h0'
   have hkids:∀y∈(Br l D (A8 S)).1,Bn Bi y=true∧Bn Do y=true:=by
    unfold Br Hy at hc ⊢
    by_cases h30:((A8 (A8 S)).nest:Int)==30
    ·rw [if_pos h30] at hc
     exact ww
    rw [if_neg h30] at hc ⊢
    have hlt:N<30:=by
     have:(A8 (A8 S)).nest=N:=hS
     rw [this] at h30
     simp at h30
     omega
    have hd:(Bj (A8 (A8 S))).nest=N+1:=by show S.nest+1=N+1;omega
    exact dv (l:=l) (hD hlt) (hR hlt) l.length ([(D.ei (Bj (A8 (A8 S)))).1],(D.ei (Bj (A8 (A8 S)))).2) (hD hlt _ hd).nest (fun h0 y hy=>by rw [List.mem_singleton.1 hy];exact hR hlt _ hd h0) hc
   show Bn Bi (.mk 6 _ noV _)=true∧Bn Do (.mk 6 _ noV _)=true
   rw [E1,E1,k7 hlen.symm]
   exact ⟨by rw [Bool.true_and];exact (Dn _ _).2 fun y hy=>(hkids y hy).1,by
    rw [Bool.and_eq_true]
    exact ⟨rfl,(Dn _ _).2 fun y hy=>(hkids y hy).2⟩⟩
  exact fun _=>du (be hnm) rfl rfl
 split
 ·intro h0
  exact O7 hN hR (show (A8 S).nest=N from hS) (Iw h0)
 exact sc
theorem Pq {N k:Nat} {l:List Tok} {f:PS→Expr×PS} (hk:k=0∨k=1∨k=4∨k=5) (hn:NF N (k+1) f) (hf:RF N f):RF N (Dr l (ofL k) f):=by
 have hloop:∀(n:Nat) (r:Expr×PS),r.2.nest=N→RB r→RB (Lc l (ofL k) f n r):=by
  intro n
  induction n with
  | zero=>exact fun r _ h=>h
  | succ n ih =>
   intro r hr h
   rw [Lc]
   split
   ·rename_i hc
    simp only [Bool.and_eq_true,beq_iff_eq] at hc
    refine ih _ (hn (A8 r.2) hr).nest (fun h0=>?_)
    have hlv:Cp (A7 l r.2.i).text=(k:Int):=by
     have hm:=hc.2
     unfold isM at hm
     rw [Bool.and_eq_true] at hm
     have:=hm.2
     rw [Jc (Xn hk)] at this
     simpa using this
    exact py (by omega) (h hc.1) (hf (A8 r.2) hr h0)
   exact h
 exact fun S hS=>hloop _ _ (hn S hS).nest (hf S hS)
theorem yj {N:Nat} {l:List Tok} {D:Fam} (hn:NF N 4 (By l D)) (hf:RF N (By l D)):RF N (Cq l D):=fun S hS=>by
 unfold Cq
 split
 ·exact hf S hS
 rename_i hc
 simp only [Bool.or_eq_true,not_or,bne_iff_ne,ne_eq,Decidable.not_not,Bool.not_eq_true',Bool.not_eq_false] at hc
 intro h0
 have hlv:Cp (A7 l (By l D S).2.i).text=((3:Nat):Int):=by
  have hm:=hc.2
  unfold isM at hm
  rw [Bool.and_eq_true] at hm
  have:=hm.2
  rw [show iz=ofL 3 from rfl,Jc (.inr (.inr (.inl rfl)))] at this
  simpa using this
 exact py (by omega) (hf S hS hc.1) (hf (A8 (By l D S).2) (hn S hS).nest h0)
theorem q8 (l:List Tok) (hw:∀i,WordOk (A7 l i)):∀(d N:Nat),N+d=30→RF N (Kw l (C3 l d))∧RF N (Jn l (C3 l d))∧RF N (Jm l (C3 l d))
 | d,N,h=>by
  have ihn:N<30→NF (N+1) 0 (C3 l d).ei∧NF (N+1) 2 (C3 l d).no∧NF (N+1) 6 (C3 l d).ne:=fun hlt=>by
   match d,h with
   | 0,h=>omega
   | d+1,h=>exact bc l d (N+1) (by omega)
  have ih:N<30→RF (N+1) (C3 l d).ei∧RF (N+1) (C3 l d).no∧RF (N+1) (C3 l d).ne:=fun hlt=>by
   match d,h with
   | 0,h=>omega
   | d+1,h=>exact q8 l hw d (N+1) (by omega)
  have hN:N≤30:=by omega
  have hnegN:=pu (l:=l) (D:=C3 l d) hN (fun h=>(ihn h).1) (fun h=>(ihn h).2.2)
  have hneg:RF N (Jm l (C3 l d)):=fun S hS=>by
   unfold Jm
   split
   ·exact um hw hN (fun h=>(ihn h).1) (fun h=>(ih h).1) S hS
   exact fun h0=>pz (jx _) (O7 hN (fun h=>(ih h).2.2) (show (A8 S).nest=N from hS) h0)
  have hprodN:NF N 5 (R8 l (C3 l d)):=Jg (k:=5) (by decide) hnegN
  have hprod:RF N (R8 l (C3 l d)):=Pq (k:=5) (by decide) hnegN hneg
  have hsumN:NF N 4 (By l (C3 l d)):=Jg (k:=4) (by decide) hprodN
  have hsum:RF N (By l (C3 l d)):=Pq (k:=4) (by decide) hprodN hprod
  have hcmpN:=pv hsumN
  have hcmp:=yj hsumN hsum
  have hnoN:=pw (l:=l) (D:=C3 l d) hN hcmpN (fun h=>(ihn h).2.1)
  have hno:RF N (Jn l (C3 l d)):=fun S hS=>by
   unfold Jn
   split
   ·exact hcmp S hS
   exact fun h0=>pz (jy _) (O7 hN (fun h=>(ih h).2.1) (show (A8 S).nest=N from hS) h0)
  have hboN:NF N 1 (R9 l (C3 l d)):=Jg (k:=1) (by decide) hnoN
  have hbo:RF N (R9 l (C3 l d)):=Pq (k:=1) (by decide) hnoN hno
  exact ⟨Pq (k:=0) (by decide) hboN hbo,hno,hneg⟩
/-! The lexer's words. -/
theorem q9 {c:UInt8} {r of:Str} (h:decide (0<Jl ((c::r).take 1) of)=true):of.contains c=true:=by
 rw [show (c::r).take 1=[c] from rfl,ud] at h
 cases hc:of.contains c with
 | true=>rfl
 | false=>rw [hc] at h;simp at h
theorem qb {q:Str} (h0:q≠[]) (ha:∀c∈q,digs.contains c=true) (he:(Dd q).2=0):C5 (Dd q).1=true∧0≤(Dd q).1.n∧(Dd q).1.n≤9223372036854775807:=by
 cases q with
 | nil=>exact absurd rfl h0
 | cons c r =>
 have hc:=ha c List.mem_cons_self
 have hn:=ol c hc
 have n1:((c::r:Str)==[110,117,108,108])=false:=by rw [beq_eq_false_iff_ne];intro e;injection e with e;exact hn.2.2.2.1 e
 have n2:((c::r:Str)==[116,114,117,101])=false:=by rw [beq_eq_false_iff_ne];intro e;injection e with e;exact hn.2.2.2.2.1 e
 have n3:((c::r:Str)==[102,97,108,115,101])=false:=by rw [beq_eq_false_iff_ne];intro e;injection e with e;exact hn.2.2.2.2.2 e
 have hq:Ot (c::r)=false:=by
  unfold Ot
  have:Lib.hasPrefix (c::r) [39]=false:=by simp [Lib.hasPrefix,List.isPrefixOf,Ne.symm hn.2.2.1]
  rw [this]
  simp
 unfold Dd at he ⊢
 rw [n1,n2,n3,hq] at he ⊢
 simp only [Bool.false_eq_true,if_false,Bool.or_self] at he ⊢
 split at he
 ·rename_i h1
  rw [if_pos h1]
  have hb:Fv (c::r)=false:=by
   cases hb:Fv (c::r) with
   | false=>rfl
   | true=>unfold Bc at h1;rw [hb] at h1;simp at h1
  unfold Bc at h1 ⊢
  rw [hb] at h1 ⊢
  simp only [Bool.false_eq_true,if_false] at h1 ⊢
  have h43:c.toNat≠43:=fun e=>hn.2.1 (UInt8.toNat_inj.1 (by rw [e];rfl))
  have h45:c.toNat≠45:=fun e=>hn.1 (UInt8.toNat_inj.1 (by rw [e];rfl))
  have hp:=Lib.parseIntB_plain 64 c r h43 h45
  cases hv:Lib.parseIntB 64 (c::r) with
  | ok v =>
   have hb:=Lib.parseIntB_bounds hv
   simp only [show ((2 ^ (64-1):Nat):Int)=9223372036854775808 by decide] at hb
   rw [hp] at hv
   have h0:0≤v:=by
    cases hu:Lib.parseUintB 64 (c::r) with
    | ok u =>
     rw [hu] at hv
     have e:Lib.signlessC (2 ^ (64-1)) (.ok u)=if 2 ^ (64-1)≤u then .range else .ok (u:Int):=rfl
     rw [e] at hv
     split at hv
     ·cases hv
     injection hv with hv
     omega
    | _=>rw [hu] at hv;cases hv
   exact ⟨rfl,h0,by show v≤9223372036854775807;omega⟩
  | _=>first|(rw [hv] at h1;simp at h1;done)|(exact ⟨rfl,Int.le_refl 0,by show (0:Int)≤9223372036854775807;decide⟩)
 rename_i h1
 split at he
 ·simp at he
 simp at he
theorem Y1 {p:UInt8→Bool}:∀{l:Str} {b:UInt8},b∈l.takeWhile p→p b=true
 | [],_,h=>by cases h
 | a::r,b,h=>by
  rw [List.takeWhile_cons] at h
  by_cases ha:p a=true
  ·rw [if_pos ha] at h
   rcases List.mem_cons.1 h with rfl|h
   ·exact ha
   exact Y1 h
  rw [if_neg ha] at h
  cases h
theorem k8 {s:Str} {n:Nat} (h0:s≠[]) (he:(B5 s).2.2.2=0):WordOk ⟨(B5 s).1,(B5 s).2.1,n⟩:=by
 cases s with
 | nil=>exact absurd rfl h0
 | cons c r =>
 unfold B5 at he ⊢
 by_cases h1:decide (0<Jl ((c::r).take 1) letters)=true
 ·rw [if_pos h1] at he
  simp only [if_pos h1]
  unfold K4 at he ⊢
  by_cases r1:E0 (Bt (c::r) tails)=true
  ·simp only [if_pos r1]
   exact Zj
  rw [if_neg r1] at he
  simp only [if_neg r1]
  by_cases r2:(!Cm (Bt (c::r) tails))=true
  ·rw [if_pos r2] at he;simp at he
  simp only [if_neg r2]
  exact ⟨fun _=>by rw [←El];simpa using r2,fun h=>by cases h⟩
 rw [if_neg h1] at he
 simp only [if_neg h1]
 by_cases h2:decide (0<Jl ((c::r).take 1) digs)=true
 ·rw [if_pos h2] at he
  simp only [if_pos h2]
  unfold Pn at he ⊢
  refine ⟨(fun h=>by cases h),fun _=>qb ?_ (fun b hb=>?_) he⟩
  ·show Bt (c::r) digs≠[]
   rw [Nr,List.takeWhile_cons,q9 h2]
   simp
  have hb:b∈Bt (c::r) digs:=hb
  rw [Nr] at hb
  exact Y1 hb
 rw [if_neg h2] at he
 simp only [if_neg h2]
 by_cases h3:((((c::r).getD 0 0).toNat:Int)==39)=true
 ·rw [if_pos h3] at he
  simp only [if_pos h3]
  unfold Gz at he ⊢
  split
  ·exact Zj
  split
  ·exact Zj
  exact Zj
 simp only [if_neg h3]
 unfold Ov
 split
 ·exact Zj
 split
 ·exact Zj
 exact Zj
theorem Y2:∀(f q:Nat) (s:Str),∀it∈F1 f q s,it.2=0→WordOk it.1
 | 0,_,_,it,h,_=>by cases h
 | f+1,q,s,it,h,h0=>by
  rw [F1] at h
  split at h
  ·cases h
  rename_i hs
  have hne:s≠[]:=by rintro rfl;exact hs rfl
  rcases List.mem_cons.1 h with rfl|h
  ·exact k8 hne h0
  split at h
  ·exact Y2 f _ _ it h h0
  cases h
theorem yk (n:Nat):WordOk ⟨0,[],n⟩:=⟨(fun h=>by cases h),(fun h=>by cases h)⟩
/-! The parse laws where nothing is too deep. -/
/-! The parser from a word on, and of a source. -/
/-! Other trees have other words, and other prints. -/
/-! The laws of printing. -/
theorem Ro {x:Expr} (h:Es x=true):Bn Bi x=true:=by
 unfold Es at h
 rw [Bool.and_eq_true] at h
 exact h.2
set_option maxRecDepth 4000
end Go.SX.Nb
namespace Go.Proofs
open Go.Shelf Go.RowKit

section
variable {P:Program} (w:World)

end

section
variable {P:Program} {ρ:Ren}

set_option maxHeartbeats 1000000 in
set_option maxRecDepth 100000 in
set_option maxHeartbeats 1000000 in
set_option maxRecDepth 100000 in
set_option maxHeartbeats 2000000 in
set_option maxRecDepth 100000 in
set_option maxHeartbeats 2000000 in
set_option maxRecDepth 100000 in
end
end Go.Proofs

namespace Go.SX.Nb
open Go Go.SX Go.Proofs Go.Shelf
variable [ErrAt]
set_option maxRecDepth 8000
/-! show's builder. -/
end Go.SX.Nb
namespace Go.SX.Nb
open Go Go.SX Go.Proofs
variable [ErrAt]
set_option maxRecDepth 4000
set_option maxRecDepth 8000
/-! How long a print is. -/
theorem qc {t:Str} (h:0≤Cp t):t.length≤3:=by
 rcases Kb t with hm|⟨hm,_⟩
 ·have h3:(levels.flatten.all fun s=>decide (s.length≤3))=true:=by kernel_rfl
  exact of_decide_eq_true (List.all_eq_true.1 h3 t hm)
 omega
theorem bf {t:Str} {n:Nat} (h:B4 t=(n:Int)):t.length≤6:=by
 rcases Jf h with ⟨e,_⟩|⟨e,_⟩|⟨e,_⟩|⟨e,_⟩|⟨e,_⟩|⟨e,_⟩|⟨e,_⟩|⟨e,_⟩<;>rw [e]<;>decide
set_option maxRecDepth 4000
abbrev xo (own:Bool) (t:Str) (ks:List Expr):AObj:=.cells 103 [A2 6,A9 t,A2 0,A2 0,A9 [],.slice own 6 (ks.map A5)]
theorem yl {n:Nat} {own:Bool} {t:Str} {ks:List Expr}:ObjLow n (xo own t ks):=by
 show ∀z∈[A2 6,A9 t,A2 0,A2 0,A9 [],AV.slice own 6 (ks.map A5)],Low n z
 intro z hz
 simp only [List.mem_cons,List.not_mem_nil,or_false] at hz
 rcases hz with rfl|rfl|rfl|rfl|rfl|rfl
 all_goals first|exact Di|simp
theorem un:D0 (.agg #[.int .i64 0,.string ⟨#[]⟩,.int .i64 0,.int .i64 0,.string ⟨#[]⟩,.slice none 0 0])=.agg [A2 0,A9 [],A2 0,A2 0,A9 [],.nil]:=rfl
attribute [go_sem] un
theorem gA {Hp:List AObj} {o ox:Nat} {z A B:AObj} (ho:Hp[o]? = some z) (hne:ox≠o):((Hp.set o A).set ox B)[o]? = some A:=by rw [List.getElem?_set_ne hne];exact getset ho
theorem gB {Hp:List AObj} {o ox:Nat} {z A B:AObj} (hox:Hp[ox]? = some z):((Hp.set o A).set ox B)[ox]? = some B:=by
 have:=(List.getElem?_eq_some_iff.1 hox).1
 simp [this]
theorem qd {Hp:List AObj} {o ox:Nat} {A A' B:AObj} (hne:ox≠o):((Hp.set o A).set ox B).set o A'=(Hp.set o A').set ox B:=by rw [List.set_comm _ _ hne,List.set_set]
theorem M0 (ks:List Expr) (x:Expr):ks.map A5++[.agg [.v (.int .i64 x.op),.v (sv x.text),.v (.int .i64 x.val.kind),.v (.int .i64 x.val.n),.v (sv x.val.s),.slice false 6 (x.kids.map A5)]]=(ks++[x]).map A5:=by rw [List.map_append,List.map_cons,List.map_nil,Ab x]
theorem ADb (l:List Tok) (S:PS) (t:Str) (Dv:Fam) (o ox:Nat) (Hp:List AObj) (hne:ox≠o) (ho:Hp[o]? = some (pr l S)) (hox:Hp[ox]? = some (xo true t [])) (hi:S.i<l.length) (hl:TokEnd l) (hll:l.length≤1048576) (hf:Dh l S.nest Dv.ei) (hcf:PC 213 l Dv.ei S.nest):ACall Tryz.prog 288 [.ptr ox 0,.ro [.ptr o 0]] Hp (fun r H'=>r=A5 (.mk 6 t noV (Fa l Dv.ei S).1)∧H'=(Hp.set o (pr l (Fa l Dv.ei S).2)).set ox (xo true t (Fa l Dv.ei S).1)):=by
 have hoxl:=(List.getElem?_eq_some_iff.1 hox).1
 have hol:=(List.getElem?_eq_some_iff.1 ho).1
 refine ACall.body [.cell 2 103] [0,1] Tryz.func288 Tryz.ntmps288 (fun d=>?_)
 refine Z27 ?_;refine Qa ?_
 refine W.drawT [0,1,0,4,3,0,63,127,255,127,639] [1,3] [.q 1 [] [0],.s [4] (some 0) [] [],.q 1 [] [1],.s [6] (some 1) [] [],.q 2 [] []] (fun B=>(Hp.set o (if B 1=true then pr l (Dv.ei S).2 else pr l S)).set ox (if B 0=true then xo false t [] else xo true t [])) (fun _=>[I8]) Aa (by kernel_rfl) (by simp only [Bool.false_eq_true,if_false];rw [Ej ho,Ej hox]) rfl (fun B=>by simp) ?_
 apply Y.q
 case h1 =>
  intro B hT hF
  exact Z68
 case hTF=>decide
 refine Y.loadUpT (o:=ox) (t':=103) (cs:=[A2 6,A9 t,A2 0,A2 0,A9 [],.slice true 6 ([].map A5)]) (cs':=[A2 6,A9 t,A2 0,A2 0,A9 [],.slice false 6 ([].map A5)]) Tryz.isAgg75 (fun B hB=>⟨by simp only [hB];exact gB hox,by simp [upd,List.set_set]<;>rfl,rfl⟩) ?_
 apply Y.q
 case h1 =>
  intro B hT hF
  exact Z68
 case hTF=>decide
 refine Y.callUp (r:=A5 (Dv.ei S).1) (o:=o) (x0:=pr l S) (x:=pr l (Dv.ei S).2) Tryz.call213 (fun B hT hF hB=>⟨by simp only [hB];exact gA ho hne,?_,rfl,C6,?_⟩) ?_
 ·simp only [upd,hB,Nat.reduceEqDiff,if_false,if_true,Bool.false_eq_true]
  exact (qd hne).symm
 ·simp only [hB]
  exact hcf o _ S (A6 (gA ho hne)) hi rfl
 apply Y.q
 case h1 =>
  intro B hT hF
  exact gg
 case hTF=>decide
 refine Y.appendPut (tn:=[1,3]) (U:=(Hp.set o (pr l (Dv.ei S).2)).set ox (xo false t [])) (O:=[I8]) (o:=ox) (t':=103) (cs:=[A2 6,A9 t,A2 0,A2 0,A9 [],.slice false 6 ([].map A5)]) (by kernel_rfl) jU Tryz.type103 Tryz.sizeOf103 Tryz.sizeOf75 jU (A6 (gB hox)) ?_ ?_ ?_ (hfsz:=Tryz.sizeOf75)
 ·simp [Tryz.t103]
 ·simp [Tryz.t103]
 refine R.go ?_
 refine R.storeUpT jS (gB hox) ?_ ?_
 ·first|(rw [M0];exact Di)|(have:=Di (n:=((Hp.set o (pr l (Dv.ei S).2)).set ox (xo false t [])).length) (k:=6) (o:=true) (l:=[(Dv.ei S).1]);simp only [List.map_cons,List.map_nil,Ab] at this;exact this)
 refine Qa ?_;refine W.seq ?_
 refine AW.loopC (α:=List Expr×PS) (fun r=>⟨34,A3 0 (.ptr ox 0) (A3 1 (.ro [.ptr o 0]) (A3 2 (.ptr (oid Hp.length 0) 0) (fun _=>.any))),(Hp.set o (pr l r.2)).set ox (xo true t r.1),[I8],[],none⟩) (fun r=>ArgsAt l Dv.ei S r) (fun r=>l.length-r.2.i) (([(Dv.ei S).1],(Dv.ei S).2)) (.start (hf S hi rfl)) (StLe.of_eq (by simp [List.set_set,xo,Ab])) rfl (fun r hx=>?_)
 refine Z48 ?_
 refine R.go (h:=Q.loadUp (gA ho hne)) (hr:=?_)
 refine V1 ?_;refine G.call Tryz.call251 (fun hB=>Xi l r.2 R7 o _ (A6 (gA ho hne)) hx.fact.lt hl (by decide)) ?_;refine R.go ?_;refine R.fin [0,1,2,21] ?_
 refine W.cond (fun ht21=>?_) (fun ht21=>?_)
 ·have hon:=hx.on hl ht21 hf
  have hle:=hon.2.1.le
  have hlt0:=hx.fact.lt
  refine Z6 ?_;refine Gx ?_;refine Z2 ?_;refine R.callUp Tryz.call252 (gA ho hne) (by simp) C6 (o8 l r.2 o _ (A6 (gA ho hne)) hx.fact.lt hll) ?_;refine Qa ?_
  refine W.drawT0 [0,1,0,4,3,0,63,127,255,127,639] [1,3] [.q 1 [] [0],.s [25] (some 0) [] [],.q 1 [] [1],.s [27] (some 1) [] [],.q 2 [] []] (fun B=>(Hp.set o (if B 1=true then pr l (Dv.ei (A8 r.2)).2 else pr l (A8 r.2))).set ox (if B 0=true then xo false t r.1 else xo true t r.1)) (fun _=>[I8]) Aa (by kernel_rfl) (by simp only [Bool.false_eq_true,if_false];exact (qd hne).symm) rfl (fun B=>by simp) ?_
  apply Y.q
  case h1 =>
   intro B hT hF
   exact Z68
  case hTF=>decide
  refine Y.loadUpT (o:=ox) (t':=103) (cs:=[A2 6,A9 t,A2 0,A2 0,A9 [],.slice true 6 (r.1.map A5)]) (cs':=[A2 6,A9 t,A2 0,A2 0,A9 [],.slice false 6 (r.1.map A5)]) Tryz.isAgg75 (fun B hB=>⟨by simp only [hB];exact gB hox,by simp [upd,List.set_set]<;>rfl,rfl⟩) ?_
  apply Y.q
  case h1 =>
   intro B hT hF
   exact Z68
  case hTF=>decide
  refine Y.callUp (r:=A5 (Dv.ei (A8 r.2)).1) (o:=o) (x0:=pr l (A8 r.2)) (x:=pr l (Dv.ei (A8 r.2)).2) Tryz.call213 (fun B hT hF hB=>⟨by simp only [hB];exact gA ho hne,?_,rfl,C6,?_⟩) ?_
  ·simp only [upd,hB,Nat.reduceEqDiff,if_false,if_true,Bool.false_eq_true]
   exact (qd hne).symm
  ·simp only [hB]
   exact hcf o _ (A8 r.2) (A6 (gA ho hne)) hon.1 hx.fact.nest
  apply Y.q
  case h1 =>
   intro B hT hF
   exact gg
  case hTF=>decide
  refine Y.appendPut (tn:=[1,3]) (U:=(Hp.set o (pr l (Dv.ei (A8 r.2)).2)).set ox (xo false t r.1)) (O:=[I8]) (o:=ox) (t':=103) (cs:=[A2 6,A9 t,A2 0,A2 0,A9 [],.slice false 6 (r.1.map A5)]) (by kernel_rfl) jU Tryz.type103 Tryz.sizeOf103 Tryz.sizeOf75 jU (A6 (gB hox)) ?_ ?_ ?_ (hfsz:=Tryz.sizeOf75)
  ·have:=hx.fact.len;have:=hx.fact.lt;simp only [List.length_map,Tryz.t103];omega
  ·have:=hx.fact.len;have:=hx.fact.lt;simp only [List.length_map,Tryz.t103];omega
  refine R.go ?_
  refine R.storeUpT jS (gB hox) ?_ ?_
  ·first|(rw [M0];exact Di)|(have:=Di (n:=((Hp.set o (pr l (Dv.ei S).2)).set ox (xo false t [])).length) (k:=6) (o:=true) (l:=[(Dv.ei S).1]);simp only [List.map_cons,List.map_nil,Ab] at this;exact this)
  refine Qa ?_;refine K.blN ?_
  refine K.lpN (r.1++[(Dv.ei (A8 r.2)).1],(Dv.ei (A8 r.2)).2) hon.2.2 (by show l.length-(Dv.ei (A8 r.2)).2.i<l.length-r.2.i;have:r.2.i+1≤(Dv.ei (A8 r.2)).2.i:=hle;omega) (StCut.of_eq ?_)
  simp only [show Tryz.t103.size=6 from rfl,M0,List.set_set]
 have hout:=hx.out (by rw [ht21];simp)
 refine Z98 ?_;refine Cz ?_
 refine R.go (h:=Q.loadUpN (gB hox)) (hr:=?_)
 refine Z11 ?_;exact K.fin (V.one (V.cellN jA jS)) ⟨by rw [hout,Vi];rfl,by rw [hout]⟩ (hlow:=by have:=Ad Hp.length (.mk 6 t noV r.1);rw [Vi] at this;simpa using this)

/-- within, with the function that gathers a call's kids. -/
theorem ABf (l:List Tok) (S:PS) (a:Int) (t:Str) (Dv:Fam) (o:Nat) (Hp:List AObj) (A0 A1:AObj) (l0:ObjLow 0 A0) (ho:Hp[o]? = some (pr l S)) (hi:S.i<l.length) (hl:TokEnd l) (hll:l.length≤1048576) (hnl:S.nest≤30) (hd:DeepC l Dv S.nest):
  ACall Tryz.prog 271 [.ptr o 0,A2 a,.fn (.func 288) [] [.ptr (oid Hp.length 2) 0,.ro [.ptr o 0]]] (Hp++[A0,A1,xo true t []]) (fun r H'=>r=A5 (if S.nest=30 then Ak else .mk 6 t noV (Hy l a Dv.ei S).1)∧H'=Hp.set o (pr l (Hy l a Dv.ei S).2)++[A0,A1,xo true t (Hy l a Dv.ei S).1]):=by
 have hlt:=(List.getElem?_eq_some_iff.1 ho).1
 have ho':(Hp++[A0,A1,xo true t []])[o]? = some (pr l S):=A6 ho
 by_cases h30:S.nest=30
 ·refine (th l S a 288 [] [.ptr (oid Hp.length 2) 0,.ro [.ptr o 0]] Ak (Bj S) o (Hp++[A0,A1,xo true t []]) ((Hp++[A0,A1,xo true t []]).set o (pr l (Bj S))) ho' (by omega) Tryz.call288 (by simp) (getset ho') rfl (fun h=>h) (fun h=>absurd h30 h)).mono fun r H' h=>?_
  have e:Hy l a Dv.ei S=([],Co 18 a S):=if_pos (by rw [h30];rfl)
  rw [e,if_pos h30]
  obtain ⟨h1,h2⟩:=h.1 h30
  exact ⟨h1,by rw [h2,List.set_append_left _ _ hlt]⟩
 have hq:=Rb (S:=Bj S) hl hi (hd.ei h30).1
 refine (th l S a 288 [] [.ptr (oid Hp.length 2) 0,.ro [.ptr o 0]] (.mk 6 t noV (Fa l Dv.ei (Bj S)).1) (Fa l Dv.ei (Bj S)).2 o (Hp++[A0,A1,xo true t []]) (Hp.set o (pr l (Fa l Dv.ei (Bj S)).2)++[A0,A1,xo true t (Fa l Dv.ei (Bj S)).1]) ho' (by omega) Tryz.call288 (by simp) (A6 (getset ho)) hq.nest (fun h y hy=>?_) (fun _ own=>?_)).mono fun r H' h=>?_
 ·rw [List.set_append_left _ _ hlt] at h
  rcases List.mem_append.1 hy with hy|hy
  ·rcases List.mem_or_eq_of_mem_set hy with h1|h1
   ·obtain ⟨i,hi',rfl⟩:=List.getElem_of_mem h1
    by_cases hio:i=o
    ·subst hio
     have:Hp[i]=pr l S:=by rw [List.getElem?_eq_getElem hi'] at ho;injection ho
     rw [this];exact C6
    refine h _ (List.mem_append_left _ ?_)
    rw [List.mem_iff_getElem?]
    exact ⟨i,by rw [List.getElem?_set_ne (Ne.symm hio),List.getElem?_eq_getElem hi']⟩
   rw [h1];exact C6
  simp only [List.mem_cons,List.not_mem_nil,or_false] at hy
  rcases hy with rfl|rfl|rfl
  ·exact h _ (List.mem_append_right _ (by simp))
  ·exact h _ (List.mem_append_right _ (by simp))
  exact yl
 ·have hoid:oid Hp.length 2≠o:=by unfold oid;omega
  have e1:(Hp++[A0,A1,xo true t []]).set o (pr l (Bj S))++own=(Hp.set o (pr l (Bj S))++[A0,A1,xo true t []])++own:=by rw [List.set_append_left _ _ hlt]
  rw [e1]
  have g1:((Hp.set o (pr l (Bj S))++[A0,A1,xo true t []])++own)[o]? = some (pr l (Bj S)):=A6 (A6 (getset ho))
  have g2:((Hp.set o (pr l (Bj S))++[A0,A1,xo true t []])++own)[oid Hp.length 2]? = some (xo true t []):=A6 (by
   have:=Ar (U:=Hp.set o (pr l (Bj S))) (O:=[A0,A1,xo true t []]) (n:=2)
   rw [List.length_set] at this
   exact this)
  refine (ADb l (Bj S) t Dv o (oid Hp.length 2) _ hoid g1 g2 hi hl hll (hd.ei h30).1 (hd.ei h30).2).mono fun r H' h=>⟨h.1,h.2.trans ?_⟩
  rw [List.append_assoc,List.set_append_left _ _ (by simpa using hlt),List.set_set]
  have:=Ee (U:=Hp.set o (pr l (Fa l Dv.ei (Bj S)).2)) (O:=[A0,A1,xo true t []]++own) (n:=2) (x:=xo true t (Fa l Dv.ei (Bj S)).1)
  rw [List.length_set] at this
  rw [this]
  simp
 have e:Hy l a Dv.ei S=((Fa l Dv.ei (Bj S)).1,To (Fa l Dv.ei (Bj S)).2):=if_neg (by
  show ¬(((S.nest:Int)==30)=true)
  simp
  omega)
 rw [e,if_neg h30]
 obtain ⟨h1,h2⟩:=h.2 h30
 exact ⟨h1,by rw [h2,List.set_append_left _ _ (by simpa using hlt),List.set_set]⟩
theorem ADc (l:List Tok) (S:PS) (Dv:Fam) (t:Tok) (o:Nat) (Hp:List AObj) (ho:Hp[o]? = some (pr l S)) (hi:(A8 S).i<l.length) (hl:TokEnd l) (hll:l.length≤1048576) (hnl:S.nest≤30) (hd:DeepC l Dv S.nest):ACall Tryz.prog 286 [.ptr o 0,H0 t] Hp (fun r H'=>r=A5 (Fb l Dv t S).1∧H'=Hp.set o (pr l (Fb l Dv t S).2)):=by
 have hi0:S.i<l.length:=by have:S.i+1<l.length:=hi;omega
 have hol:=(List.getElem?_eq_some_iff.1 ho).1
 have hkf:KFact l (A8 S) (Br l Dv S):=Rc hl _ hi (fun h=>(hd.ei h).1)
 refine ACall.body [.cell 4 103] [0,1] Tryz.func286 Tryz.ntmps286 (fun d=>?_)
 refine Z1 ?_;refine L3 ?_;refine R.fin [2,3,4] ?_;refine Z1 ?_;refine R.call Tryz.call121 (xb t.text _) ?_;refine R.go ?_;refine R.fin [2,3,4,5] ?_;refine Z31 ?_;refine R.fin [2,3,4,5,12] ?_
 refine W.cond (fun ht12=>?_) (fun ht12=>?_)
 ·have hlt0:B4 t.text<0:=by simpa using ht12
  have e:Fb l Dv t S=(Ak,Co 9 t.at_ S):=if_pos hlt0
  refine Z13 ?_;refine R.callUp Tryz.call215 ho (by simp) C6 (j8 l S 9 t.at_ o _ (A6 ho)) ?_;refine Fu ?_;refine Z22 ?_;exact Z70
 have hge:¬B4 t.text<0:=by simpa using ht12
 refine Z99 ?_;refine R.callUp Tryz.call252 ho (by simp) C6 (o8 l S o _ (A6 ho) hi0 hll) ?_;refine Z21 ?_;refine R.fin [2,3,4,5,6] ?_;refine w6 ?_;refine Z21 ?_;refine R.fin [2,3,4,5,6,7] ?_;refine Cz ?_;refine R.nilCell 2 5 6 ?_;refine Z29 ?_;refine R.makeFunc ?_
 refine R.callX (up':=(Hp.set o (pr l (A8 S))).set o (pr l (Br l Dv S).2)) (own':=[I8,.cells 130 [A2 (A7 l S.i).kind,A9 (A7 l S.i).text,A2 (A7 l S.i).at_],xo true t.text (Br l Dv S).1]) Tryz.call271 (by have:=ABf l (A8 S) (A7 l S.i).at_ t.text Dv o (Hp.set o (pr l (A8 S))) I8 (.cells 130 [A2 (A7 l S.i).kind,A9 (A7 l S.i).text,A2 (A7 l S.i).at_]) d8 (getset ho) hi hl hll hnl hd;rw [List.length_set] at this;exact this) (by simp) (fun h=>tm h C6) ?_
 refine R.fin [2,3,4,5,7] ?_;refine Z2 ?_;refine R.callUp Tryz.call287 (getset (getset ho)) (by simp) C6 (AB3 l (Br l Dv S).2 Dp o _ (A6 (getset (getset ho))) hkf.lt hll) ?_;refine R.fin [2,3,4,5,7] ?_;refine Z48 ?_
 refine R.go (h:=Q.loadUp (getset (getset (getset ho)))) (hr:=?_)
 refine Z62 ?_;refine V0 ?_;refine R.fin [2,3,4,7,41] ?_
 refine W.cond (fun ht41=>?_) (fun ht41=>?_)
 ·have e:Fb l Dv t S=(Ak,Co 8 t.at_ (De l Dp (Br l Dv S).2)):=by
   unfold Fb
   rw [if_neg hge,if_pos (by have:=ht41;simp only [List.length_map] at this;exact this)]
  refine Z13 ?_;refine R.callUp Tryz.call215 (getset (getset (getset ho))) (by simp) C6 (j8 l (De l Dp (Br l Dv S).2) 8 t.at_ o _ (A6 (getset (getset (getset ho))))) ?_;refine Fu ?_;refine Z22 ?_;refine K.thR ?_;exact K.fin (V.one (V.cellN jA jS)) ⟨by rw [e,Ab],by rw [e,List.set_set,List.set_set,List.set_set]⟩ (hlow:=low_agg _)
 have e:Fb l Dv t S=(.mk 6 t.text noV (Br l Dv S).1,(De l Dp (Br l Dv S).2)):=by
  unfold Fb
  rw [if_neg hge,if_neg (by have:=ht41;simp only [List.length_map] at this;rw [Bool.eq_false_iff] at this;exact this)]
 refine Z99 ?_;refine Fu ?_;refine Z22 ?_;exact K.fin (V.one (V.cellN jA jS)) ⟨by rw [e,Vi];rfl,by rw [e,List.set_set,List.set_set]⟩ (hlow:=by have:=Ad Hp.length (.mk 6 t.text noV (Br l Dv S).1);rw [Vi] at this;simpa using this)

theorem k9 {l:List Tok} (hl:TokEnd l) (hll:l.length≤1048576) (n:Nat) (Dv:Fam) (hn:n≤30) (hd:DeepC l Dv n):Xj l Dv n:=fun o Hp S t ho hi hS _ _=>by
 subst hS
 exact ADc l S Dv t o Hp ho hi hl hll hn hd
theorem bg {e:Expr} (h:Bi e=true):e.text.length≤16∧e.kids.length≤8:=by
 cases Jd h with
 | val v hp h0=>exact ⟨by simp [Gm,Expr.text],by simp [Gm,Expr.kids]⟩
 | name t ht =>
  refine ⟨?_,by simp [Bv,Expr.kids]⟩
  show t.length≤16
  cases t with
  | nil=>simp
  | cons c r =>
   simp only [Ff,Bool.and_eq_true,decide_eq_true_eq] at ht
   exact ht.1.1.1
 | neg a=>exact ⟨by simp [Dl,Expr.text],by simp [Dl,Expr.kids]⟩
 | no a=>exact ⟨by simp [Dl,Expr.text],by simp [Dl,Expr.kids]⟩
 | bin t a b ht=>exact ⟨by have:=qc ht;show t.length≤16;omega,by simp [Eg,Expr.kids]⟩
 | call t k ha =>
  refine ⟨by have:=bf ha;show t.length≤16;omega,?_⟩
  show k.length≤8
  rcases Jf ha with ⟨_,e⟩|⟨_,e⟩|⟨_,e⟩|⟨_,e⟩|⟨_,e⟩|⟨_,e⟩|⟨_,e⟩|⟨_,e⟩<;>omega
theorem Ty:∀{l:List Expr} {y:Expr},y∈l→depthE y≤K8 l
 | a::r,y,h=>by
  rw [K8]
  rcases List.mem_cons.1 h with rfl|h
  ·omega
  have:=Ty h
  omega
theorem dw:∀(n:Nat) (e:Expr),depthE e≤n→Bn Bi e=true→okE n e
 | 0,e,h,_=>by rw [Tk] at h;omega
 | n+1,e,h,hn=>by
  rw [E1,Bool.and_eq_true] at hn
  rw [Tk] at h
  have hs:=bg hn.1
  refine ⟨by omega,by omega,fun y hy=>dw n y (by have:=Ty hy;omega) ((Dn _ _).1 hn.2 y hy)⟩
theorem Tz {e:Expr} (h:Es e=true):okE 30 e∧sizeE e≤300:=by
 have h1:=Ro h
 unfold Es at h
 simp only [Bool.and_eq_true,decide_eq_true_eq] at h
 exact ⟨dw 30 e h.1.1 h1,h.1.2⟩
/-! fuse.Forth and plan.Text. -/
theorem Kh {c:List Col} {m:Mov} (h:(Ay c m).2=0):(Ay c m).1=Cf c m.take++Aw c m∧Cb c=true∧Cb (Ay c m).1=true:=by
 unfold Ay at h ⊢
 split at h
 ·rename_i h1
  exact wx
 rename_i h1
 rw [if_neg h1]
 split at h
 ·rename_i h2
  exact absurd h (by simpa using h2)
 rename_i h2
 rw [if_neg h2]
 split at h
 ·rename_i h3
  exact absurd h (by simpa using h3)
 rename_i h3
 rw [if_neg h3]
 obtain ⟨a,_,b,d,e⟩:=td (by simpa using h1:(Ca c m.take (Aw c m)).2=0)
 rw [e]
 refine ⟨rfl,a,?_⟩
 unfold Cb
 rw [b,Bool.and_true]
 refine decide_eq_true ?_
 show ((Cf c m.take++Aw c m).length:Int)≤12
 omega
/-! The text. -/
/-! ONE LINE EACH. -/
theorem bh {c:List Col} {ms:List Mov} (he:(Ci c ms).2=0):∀k,k≤ms.length→NS c ms k
 | 0,_=>yf
 | k+1,h=>by
  have ih:=bh he k (by omega)
  have hk:ms[k]? = some ms[k]:=List.getElem?_eq_getElem (by omega)
  by_cases ht:(Ay (colsAt c ms k) ms[k]).2=0
  ·exact Vg hk ih ht
  exact absurd ((b9 hk ih ht).symm.trans he) ht
theorem I2 {c:List Col} {ms:List Mov} (he:(Ci c ms).2=0) {k:Nat} {m:Mov} (hk:ms[k]? = some m):(Ay (colsAt c ms k) m).2=0:=by
 have hl:=(List.getElem?_eq_some_iff.1 hk).1
 by_cases ht:(Ay (colsAt c ms k) m).2=0
 ·exact ht
 exact absurd ((b9 hk (bh he k (by omega)) ht).symm.trans he) ht
theorem Hs {c:List Col} {ms:List Mov}:∀{n k:Nat},k≤n→(C0 c ms n)[k]? = some (colsAt c ms k)
 | 0,k,h=>by
  have:k=0:=by omega
  subst this;rfl
 | n+1,k,h=>by
  have hl:=Iq c ms n
  rw [C0]
  by_cases e:k=n+1
  ·subst e
   rw [List.getElem?_append_right (by omega),hl,Nat.sub_self]
   rfl
  rw [List.getElem?_append_left (by omega)]
  exact Hs (by omega)
theorem Ix {c:List Col} {ms:List Mov} (h:Im c ms=true):∀m∈ms,Fo m=true:=by
 unfold Im b6 at h
 simp only [Bool.and_eq_true,List.all_eq_true] at h
 exact h.2.2
theorem H4 {c:List Col} {ms:List Mov} (hc:Cb c=true) (he:(Ci c ms).2=0):∀k,Cb (colsAt c ms k)=true
 | 0=>hc
 | k+1=>by
  cases hk:ms[k]? with
  | none =>
   rw [colsAt,hk]
   exact H4 hc he k
  | some m =>
   rw [Ea hk]
   exact (Kh (I2 he hk)).2.2
/-- What a sound migration comes to. -/
theorem E3 {c:List Col} {ms:List Mov} (h:((Bo c ms).2 != 0)=false):Im c ms=true∧(Ci c ms).2=0∧Bo c ms=(C0 c ms ms.length,0):=by
 cases hm:Im c ms with
 | false=>rw [Tw hm] at h;cases h
 | true =>
  by_cases he:(Ci c ms).2=0
  ·have e:=ba (bh he ms.length (Nat.le_refl _))
   exact ⟨rfl,he,O0 hm e⟩
  rw [Rj hm he] at h
  exact absurd (by simpa using h) he
/-! SoundJoins: one behind the other, in one. -/
/-! image: rows forth and back. -/
/-- image.reckon. -/
def Ag (c:List Col) (row:List Val):List Expr→List Val×Int
 | []=>([],0)
 | x::r=>if (Dt x c row).2 != 0 then ([],(Dt x c row).2) else if (Ag c row r).2 != 0 then ([],(Ag c row r).2) else ((Dt x c row).1::(Ag c row r).1,0)
theorem Rp {c:List Col} {row:List Val}:∀{l:List Expr},(∀(j:Nat) (y:Expr),l[j]? = some y→((Dt y c row).2 != 0)=false)→Ag c row l=(l.map (fun e=>(Dt e c row).1),0)
 | [],_=>rfl
 | x::r,h=>by
  rw [Ag,Rp (l:=r) (fun j y hy=>h (j+1) y hy),if_neg (by rw [h 0 x rfl];simp),if_neg (by simp)]
  rfl
theorem Rq {c:List Col} {row:List Val}:∀{l:List Expr} {x:Nat} {y:Expr},(∀(j:Nat) (z:Expr),j<x→l[j]? = some z→((Dt z c row).2 != 0)=false)→l[x]? = some y→((Dt y c row).2 != 0)=true→Ag c row l=([],(Dt y c row).2)
 | [],_,_,_,h,_=>by simp at h
 | a::r,0,y,_,h,h1=>by
  have:a=y:=by simpa using h
  subst this
  rw [Ag,if_pos h1]
 | a::r,x+1,y,h0,h,h1=>by
  rw [Ag,if_neg (by rw [h0 0 a (by omega) rfl];simp),Rq (l:=r) (x:=x) (fun j z hj hz=>h0 (j+1) z (by omega) hz) (by simpa using h) h1,if_pos h1]
theorem ka {e:Expr} (h:Bi e=true):Iu e=true:=by
 unfold Iu
 rw [Gl] at h
 cases hk:(e.op==1) with
 | false=>rfl
 | true =>
  show C5 e.val=true
  have e1:e.op=1:=by simpa using hk
  cases e with
  | mk o t v k =>
   have e1:o=1:=e1
   subst e1
   rw [En] at h
   simp at h
   exact h.1.1.1
mutual
theorem Y3:∀e:Expr,Bn Bi e=true→Bn Iu e=true
 | .mk o t v k,h=>by
  rw [E1,Bool.and_eq_true] at h ⊢
  exact ⟨ka h.1,U0 k h.2⟩
theorem U0:∀k:List Expr,Ik Bi k=true→Ik Iu k=true
 | [],_=>rfl
 | e::r,h=>by
  rw [Ik,Bool.and_eq_true] at h ⊢
  exact ⟨Y3 e h.1,U0 r h.2⟩
end
theorem qe {x:Expr} {c:List Col} {row:List Val} (hf:∀v∈row,Fine v) (hr:Bn Do x=true):Fine (Dt x c row).1:=by
 show Fine (dp Ah x c row).1
 unfold dp
 split
 ·exact I1
 rename_i h
 simp only [Bool.or_eq_true,Bool.not_eq_true',not_or,Bool.not_eq_false] at h
 exact O3 hf x (Y3 x (Ro (by rw [←Ja];exact h.1))) hr
theorem Ki {c:List Col} {row:List Val} (hf:∀v∈row,Fine v):∀{l:List Expr},(∀e∈l,Bn Do e=true)→∀v∈(Ag c row l).1,Fine v
 | [],_,v,h=>by cases h
 | x::r,hr,v,h=>by
  rw [Ag] at h
  split at h
  ·cases h
  split at h
  ·cases h
  rcases List.mem_cons.1 h with rfl|h
  ·exact qe hf (hr x List.mem_cons_self)
  exact Ki hf (fun e he=>hr e (.tail _ he)) v h
theorem Jh {c:List Col} {row:List Val}:∀{l:List Expr},(Ag c row l).2=0→(Ag c row l).1.length=l.length
 | [],_=>rfl
 | x::r,h=>by
  rw [Ag] at h ⊢
  split at h
  ·rename_i h1
   rw [show (Dt x c row).2=0 from h] at h1
   cases h1
  rename_i h1
  rw [if_neg h1]
  split at h
  ·rename_i h2
   rw [show (Ag c row r).2=0 from h] at h2
   cases h2
  rename_i h2
  rw [if_neg h2]
  simp only [List.length_cons]
  rw [Jh (l:=r) (by simpa using h2)]
/-- What is not taken. -/
def E7 (take:List Str) (c:List Col) (row:List Val):List Val:=((c.zip row).filter fun p => !take.contains p.1.name).map (·.2)
theorem Rr:∀{c:List Col} {row:List Val} {x:Nat} (hc:x<c.length) (hr:x<row.length),(c.take (x+1)).zip row=(c.take x).zip row++[(c[x],row[x])]
 | y::c,v::row,0,_,_=>by simp
 | y::c,v::row,x+1,hc,hr=>by
  simp only [List.take_succ_cons,List.zip_cons_cons,List.cons_append,List.getElem_cons_succ]
  rw [Rr (by simpa using hc) (by simpa using hr)]
 | [],_,_,hc,_=>by simp at hc
 | _::_,[],_,_,hr=>by simp at hr
theorem uo {take:List Str} {c:List Col} {row:List Val} {x:Nat} (hc:x<c.length) (hr:x<row.length) (h:take.contains c[x].name=false):E7 take (c.take (x+1)) row=E7 take (c.take x) row++[row[x]]:=by
 unfold E7
 have hb:(fun p:Col×Val => !take.contains p.1.name) (c[x],row[x])=true:=by show (!take.contains c[x].name)=true;rw [h];rfl
 rw [Rr hc hr,List.filter_append,List.map_append,List.filter_cons_of_pos (p:=fun p:Col×Val => !take.contains p.1.name) hb]
 rfl
theorem qf {take:List Str} {c:List Col} {row:List Val} {x:Nat} (hc:x<c.length) (hr:x<row.length) (h:take.contains c[x].name=true):E7 take (c.take (x+1)) row=E7 take (c.take x) row:=by
 unfold E7
 have hb:¬(fun p:Col×Val => !take.contains p.1.name) (c[x],row[x])=true:=by show ¬(!take.contains c[x].name)=true;rw [h];simp
 rw [Rr hc hr,List.filter_append,List.map_append,List.filter_cons_of_neg (p:=fun p:Col×Val => !take.contains p.1.name) hb]
 simp
theorem Rt {take:List Str}:∀{c:List Col} {row:List Val},row.length=c.length→(E7 take c row).length=(Cf c take).length
 | [],[],_=>rfl
 | y::c,v::row,h=>by
  have ih:=Rt (take:=take) (c:=c) (row:=row) (by simpa using h)
  unfold E7 Cf at ih ⊢
  rw [List.zip_cons_cons,List.filter_cons,List.filter_cons]
  cases hc:take.contains y.name<;>simp [hc] at ih ⊢<;>exact ih
 | [],_::_,h=>by simp at h
 | _::_,[],h=>by simp at h
theorem qg {take:List Str} {c:List Col} {row:List Val} {v:Val} (h:v∈E7 take c row):v∈row:=by
 unfold E7 at h
 obtain ⟨p,hp,rfl⟩:=List.mem_map.1 h
 exact (List.of_mem_zip (List.mem_filter.1 hp).1).2
/-- image.forth. -/
def Cv (c:List Col) (m:Mov) (row:List Val):List Val×Int:=if (Ag c row m.ahead).2 != 0 then ([],(Ag c row m.ahead).2) else (E7 m.take c row++(Ag c row m.ahead).1,0)
/-- What a column ahead was. -/
def M1 (take:List Str) (was row:List Val) (d:List Col) (x:Col):Val:=if 0≤I7 x.name take then was.getD (I7 x.name take).toNat noV else row.getD (B3 x.name d).toNat noV
/-- image.back. -/
def Bd (a d:List Col) (m:Mov) (row:List Val):List Val×Int:=if (Ag d row m.back).2 != 0 then ([],(Ag d row m.back).2) else (a.map (M1 m.take (Ag d row m.back).1 row d),0)
/-- The row behind k moves. -/
def fwM (c:List Col) (l:List Mov) (row:List Val):Nat→List Val×Int
 | 0=>(row,0)
 | k+1=>if (fwM c l row k).2 != 0 then ([],(fwM c l row k).2) else match l[k]? with
  | none=>fwM c l row k
  | some m=>Cv (colsAt c l k) m (fwM c l row k).1
/-- The row ahead of the last k moves. -/
def bkM (c:List Col) (l:List Mov) (row:List Val):Nat→List Val×Int
 | 0=>(row,0)
 | k+1=>if (bkM c l row k).2 != 0 then ([],(bkM c l row k).2) else match l[l.length-1-k]? with
  | none=>bkM c l row k
  | some m=>Bd (colsAt c l (l.length-1-k)) (colsAt c l (l.length-1-k+1)) m (bkM c l row k).1
/-- image.Forth. -/
def B7 (c:List Col) (l:List Mov) (row:List Val):List Val×Int:=if ((Bo c l).2 != 0) || !E2 c row then ([],1) else fwM c l row l.length
/-- image.Back. -/
def Cd (c:List Col) (l:List Mov) (row:List Val):List Val×Int:=if ((Bo c l).2 != 0) || !E2 (colsAt c l l.length) row then ([],1) else bkM c l row l.length
/-- image.Old. -/
def Ss (c:List Col) (l:List Mov) (row:List Val):List Val×Int:=if (Cd c l row).2 != 0 then ([],(Cd c l row).2) else if (B7 c l (Cd c l row).1).2 != 0 then ([],(B7 c l (Cd c l row).1).2) else if !decide ((B7 c l (Cd c l row).1).1=row) then ([],14) else ((Cd c l row).1,0)
/-- A row that may be walked: as long as its columns are many, its values fine. -/
structure RowI (c:List Col) (row:List Val):Prop where
 len:row.length=c.length
 fine:∀v∈row,Fine v
theorem Kj {c:List Col} {row:List Val} (h:E2 c row=true) (hr:∀v∈row, -9223372036854775808≤v.n∧v.n≤9223372036854775807):RowI c row:=by
 unfold E2 at h
 simp only [Bool.and_eq_true,beq_iff_eq,List.all_eq_true] at h
 refine ⟨h.1.2,fun v hv=>⟨?_,(hr v hv).1,(hr v hv).2⟩⟩
 obtain ⟨j,hj,rfl⟩:=List.getElem_of_mem hv
 have hj2:j<c.length:=by omega
 have:=h.2 (row[j],c[j]) (List.mem_of_getElem? (i:=j) (by rw [List.getElem?_zip_eq_some];exact ⟨List.getElem?_eq_getElem hj,List.getElem?_eq_getElem hj2⟩))
 exact this.1
theorem O8 {c:List Col} {m:Mov} {row:List Val} (ht:(Ay c m).2=0) (hm:Fo m=true) (hg:∀e∈m.ahead,Bn Do e=true) (h:RowI c row) (hf:(Cv c m row).2=0):RowI (Ay c m).1 (Cv c m row).1:=by
 unfold Cv at hf ⊢
 split at hf
 ·rename_i h1
  rw [show (Ag c row m.ahead).2=0 from hf] at h1
  cases h1
 rename_i h1
 rw [if_neg h1]
 have hl:=Jh (c:=c) (row:=row) (l:=m.ahead) (by simpa using h1)
 refine ⟨?_,fun v hv=>?_⟩
 ·rw [(Kh ht).1,List.length_append,List.length_append,Rt h.len,hl,Io,(F5 (Kx hm)).1]
 rcases List.mem_append.1 hv with h2|h2
 ·exact h.fine v (qg h2)
 exact Ki h.fine hg v h2
theorem U1 {row:List Val} (h:∀v∈row,Fine v) (n:Nat):Fine (row.getD n noV):=by
 rw [List.getD_eq_getElem?_getD]
 cases hn:row[n]? with
 | none=>exact I1
 | some v=>exact h v (List.mem_of_getElem? hn)
theorem Y4 {a d:List Col} {m:Mov} {row:List Val} (hg:∀e∈m.back,Bn Do e=true) (h:RowI d row) (hf:(Bd a d m row).2=0):RowI a (Bd a d m row).1:=by
 unfold Bd at hf ⊢
 split at hf
 ·rename_i h1
  rw [show (Ag d row m.back).2=0 from hf] at h1
  cases h1
 rename_i h1
 rw [if_neg h1]
 refine ⟨List.length_map _,fun v hv=>?_⟩
 obtain ⟨x,_,rfl⟩:=List.mem_map.1 hv
 unfold M1
 split
 ·exact U1 (Ki h.fine hg) _
 exact U1 h.fine _
theorem Pr {c:List Col} {l:List Mov} {row:List Val} {k:Nat} {m:Mov} (hk:l[k]? = some m) (h:(fwM c l row k).2=0):fwM c l row (k+1)=Cv (colsAt c l k) m (fwM c l row k).1:=by
 rw [fwM,if_neg (by rw [h];simp),hk]
theorem Mw {c:List Col} {l:List Mov} {row:List Val} {k:Nat} {m:Mov} (hk:l[l.length-1-k]? = some m) (h:(bkM c l row k).2=0):bkM c l row (k+1)=Bd (colsAt c l (l.length-1-k)) (colsAt c l (l.length-1-k+1)) m (bkM c l row k).1:=by
 rw [bkM,if_neg (by rw [h];simp),hk]
theorem Ru {c:List Col} {l:List Mov} {row:List Val} {k:Nat} (h:(fwM c l row k).2≠0):∀n,k<n→fwM c l row n=([],(fwM c l row k).2)
 | 0,hn=>by omega
 | n+1,hn=>by
  by_cases hk:k=n
  ·subst hk
   rw [fwM,if_pos (by simpa using h)]
  rw [fwM,Ru h n (by omega),if_pos (by simpa using h)]
theorem Rv {c:List Col} {l:List Mov} {row:List Val} {k:Nat} (h:(bkM c l row k).2≠0):∀n,k<n→bkM c l row n=([],(bkM c l row k).2)
 | 0,hn=>by omega
 | n+1,hn=>by
  by_cases hk:k=n
  ·subst hk
   rw [bkM,if_pos (by simpa using h)]
  rw [bkM,Rv h n (by omega),if_pos (by simpa using h)]
theorem Rw {c:List Col} {m:Mov} {row:List Val} (h:(Cv c m row).2≠0):(Cv c m row).1=[]:=by
 unfold Cv at h ⊢
 split
 ·rfl
 rename_i h1
 rw [if_neg h1] at h
 exact absurd rfl h
theorem U3 {a d:List Col} {m:Mov} {row:List Val} (h:(Bd a d m row).2≠0):(Bd a d m row).1=[]:=by
 unfold Bd at h ⊢
 split
 ·rfl
 rename_i h1
 rw [if_neg h1] at h
 exact absurd rfl h
/-- A failing move ends it. -/
theorem uq {c:List Col} {l:List Mov} {row:List Val} {k:Nat} {m:Mov} (hk:l[k]? = some m) (h:(fwM c l row k).2=0) (hb:(Cv (colsAt c l k) m (fwM c l row k).1).2≠0):fwM c l row l.length=([],(Cv (colsAt c l k) m (fwM c l row k).1).2):=by
 have e:=Pr hk h
 have hl:=(List.getElem?_eq_some_iff.1 hk).1
 by_cases h1:k+1=l.length
 ·rw [←h1,e]
  exact Prod.ext (Rw hb) rfl
 have:=Ru (c:=c) (l:=l) (row:=row) (k:=k+1) (by rw [e];exact hb) l.length (by omega)
 rw [this,e]
theorem ur {c:List Col} {l:List Mov} {row:List Val} {k:Nat} {m:Mov} (hl:k<l.length) (hk:l[l.length-1-k]? = some m) (h:(bkM c l row k).2=0) (hb:(Bd (colsAt c l (l.length-1-k)) (colsAt c l (l.length-1-k+1)) m (bkM c l row k).1).2≠0):bkM c l row l.length=([],(Bd (colsAt c l (l.length-1-k)) (colsAt c l (l.length-1-k+1)) m (bkM c l row k).1).2):=by
 have e:=Mw hk h
 by_cases h1:k+1=l.length
 ·rw [h1] at e
  rw [e]
  exact Prod.ext (U3 hb) rfl
 have:=Rv (c:=c) (l:=l) (row:=row) (k:=k+1) (by rw [e];exact hb) l.length (by omega)
 rw [this,e]
abbrev O9 (r:Rs):AV:=.tup [Am r.1,A2 r.2]
abbrev dx (l:List Int):AV:=.slice false 1 (l.map A2)
abbrev Rx (c:List Col) (l:List Val):AV:=.agg [Ac c,B1 l]
theorem ADd (e:Int) (Hp:List AObj):AFun Tryz.prog 122 [A2 e] Hp (O9 (C1 e)):=by
 refine ACall.body [.cell 2 63,.tmp 3] [0] Tryz.func122 Tryz.ntmps122 (fun d=>?_)
 refine Wl ?_;refine R.fin [0,2] ?_;refine wo ?_;refine R.go ?_;refine Pd ?_;exact K.fin (V.two (V.cellN jA jS) V.tmp)

theorem ADe (n e:Int) (Hp:List AObj):AFun Tryz.prog 197 [A2 n,A2 e] Hp (O9 (F7 (n,e))):=by
 refine ACall.body [.cell 4 63,.tmp 5] [0,1] Tryz.func197 Tryz.ntmps197 (fun d=>?_)
 refine Wl ?_;refine R.fin [0,1,4] ?_;refine Z31 ?_;refine R.fin [0,1,4,7] ?_
 refine W.cond (fun ht7=>?_) (fun ht7=>?_)
 ·have hw:F7 (n,e)=C1 e:=if_pos ht7
  refine Z2 ?_;refine Z42 ?_;refine Z38 ?_;refine K.thR ?_;exact AAi
 have hw:F7 (n,e)=(⟨1,n,[]⟩,0):=if_neg (by rw [ht7];simp)
 refine Z99 ?_;refine R.call Tryz.call189 (xd _ _) ?_;refine Z38 ?_;exact AAi

theorem Y5 {vs:List Val} {ks:List Int} (hl:ks.length≤vs.length) {x:Nat} (hk:x<ks.length) (hx:C8 vs ks=C8 (vs.drop x) (ks.drop x)):C8 vs ks=((vs[x].kind==ks[x])&&C8 (vs.drop (x+1)) (ks.drop (x+1))):=by
 rw [hx,List.drop_eq_getElem_cons hk,List.drop_eq_getElem_cons (show x<vs.length by omega),C8]
theorem qh (vs:List Val) (ks:List Int) (hks:ks.length≤vs.length) (hk2:ks.length≤1048576) (Hp:List AObj):AFun Tryz.prog 196 [B1 vs,dx ks] Hp (At (C8 vs ks)):=by
 refine ACall.body [.tmp 4] [0,1] Tryz.func196 Tryz.ntmps196 (fun d=>?_)
 refine Z51 ?_;refine Z30 ?_;refine R.fin [0,7,8,9] ?_
 refine AW.loopC (α:=Nat) (fun x=>⟨22,A3 0 (B1 vs) (A3 7 (dx ks) (A3 8 (A2 (ks.length:Nat)) (A3 9 (A2 (x:Nat)) (fun _=>.any)))),Hp,[],[],none⟩) (fun x=>x≤ks.length∧C8 vs ks=C8 (vs.drop x) (ks.drop x)) (fun x=>ks.length-x) (0) ⟨Nat.zero_le _,rfl⟩ (StLe.of_eq (by simp)) rfl (fun x hx=>?_)
 refine Z2 ?_;refine R.fin [0,7,8,9,10] ?_
 refine W.condX (fun ht10=>?_) (fun ht10=>?_)
 ·have hlt:x<ks.length:=by simpa using ht10
  have hls:x<vs.length:=by omega
  have hst:=Y5 hks hlt hx.2
  refine Ma ?_
  refine R.go (h:=Q.indexAddr (x) (A2 ks[x]) (fun _=>An hlt)) (hr:=?_)
  refine Z29 ?_;refine R.fin [0,5,6,7,8,9] ?_;refine Z1 ?_
  refine R.go (h:=Q.indexAddr (x) (Am vs[x]) (fun _=>An hls)) (hr:=?_)
  refine Z73 ?_;refine R.fin [0,7,8,9,20] ?_
  refine W.cond (fun ht20=>?_) (fun ht20=>?_)
  ·have hm:C8 vs ks=false:=by rw [hst];simp only [bne_iff_ne,ne_eq] at ht20;simp [ht20]
   refine Z63 ?_;exact Z91
  have hn:C8 vs ks=C8 (vs.drop (x+1)) (ks.drop (x+1)):=by rw [hst];simp only [bne_eq_false_iff_eq] at ht20;simp [ht20]
  refine Z57 ?_;refine R.fin [0,7,8,9] ?_;exact zm
 have hxe:ks.length≤x:=by simpa using ht10
 have hm:C8 vs ks=true:=by rw [hx.2,List.drop_of_length_le hxe];cases vs.drop x<;>rfl
 refine Z35 ?_;exact rq

theorem ADf (t:Str) (c:Int) (Hp:List AObj):AFun Tryz.prog 217 [A9 t,A2 c] Hp (.tup [At (A4 t c).1,At (A4 t c).2]):=by
 refine ACall.body [.tmp 4,.tmp 5] [0,1] Tryz.func217 Tryz.ntmps217 (fun d=>?_)
 refine Zc ?_;refine Z36 ?_;refine R.fin [1,6] ?_;refine Z90 ?_;refine R.fin [1,6,7] ?_
 refine W.cond (fun ht7=>?_) (fun ht7=>?_)
 ·refine gn ?_
  first|(by_cases e0:A4 t c=(c==0,true);exact K.fin (V.two V.tmp V.tmp) ⟨by rw [e0];try rfl,rfl⟩;exfalso;refine e0 ?_;clear e0;simp_all [A4];done)|(by_cases e0:A4 t c=(c != 0,true);exact K.fin (V.two V.tmp V.tmp) ⟨by rw [e0];try rfl,rfl⟩;exfalso;refine e0 ?_;clear e0;simp_all [A4];done)|(by_cases e0:A4 t c=(decide (c<0),true);exact K.fin (V.two V.tmp V.tmp) ⟨by rw [e0];try rfl,rfl⟩;exfalso;refine e0 ?_;clear e0;simp_all [A4];done)|(by_cases e0:A4 t c=(decide (c≤0),true);exact K.fin (V.two V.tmp V.tmp) ⟨by rw [e0];try rfl,rfl⟩;exfalso;refine e0 ?_;clear e0;simp_all [A4];done)|(by_cases e0:A4 t c=(decide (0<c),true);exact K.fin (V.two V.tmp V.tmp) ⟨by rw [e0];try rfl,rfl⟩;exfalso;refine e0 ?_;clear e0;simp_all [A4];done)|(by_cases e0:A4 t c=(decide (0≤c),true);exact K.fin (V.two V.tmp V.tmp) ⟨by rw [e0];try rfl,rfl⟩;exfalso;refine e0 ?_;clear e0;simp_all [A4];done)|(by_cases e0:A4 t c=(false,false);exact K.fin (V.two V.tmp V.tmp) ⟨by rw [e0];try rfl,rfl⟩;exfalso;refine e0 ?_;clear e0;simp_all [A4];done)
 refine Z1 ?_;refine R.fin [1,6,11] ?_
 refine W.cond (fun ht11=>?_) (fun ht11=>?_)
 ·refine gn ?_
  first|(by_cases e0:A4 t c=(c==0,true);exact K.fin (V.two V.tmp V.tmp) ⟨by rw [e0];try rfl,rfl⟩;exfalso;refine e0 ?_;clear e0;simp_all [A4];done)|(by_cases e0:A4 t c=(c != 0,true);exact K.fin (V.two V.tmp V.tmp) ⟨by rw [e0];try rfl,rfl⟩;exfalso;refine e0 ?_;clear e0;simp_all [A4];done)|(by_cases e0:A4 t c=(decide (c<0),true);exact K.fin (V.two V.tmp V.tmp) ⟨by rw [e0];try rfl,rfl⟩;exfalso;refine e0 ?_;clear e0;simp_all [A4];done)|(by_cases e0:A4 t c=(decide (c≤0),true);exact K.fin (V.two V.tmp V.tmp) ⟨by rw [e0];try rfl,rfl⟩;exfalso;refine e0 ?_;clear e0;simp_all [A4];done)|(by_cases e0:A4 t c=(decide (0<c),true);exact K.fin (V.two V.tmp V.tmp) ⟨by rw [e0];try rfl,rfl⟩;exfalso;refine e0 ?_;clear e0;simp_all [A4];done)|(by_cases e0:A4 t c=(decide (0≤c),true);exact K.fin (V.two V.tmp V.tmp) ⟨by rw [e0];try rfl,rfl⟩;exfalso;refine e0 ?_;clear e0;simp_all [A4];done)|(by_cases e0:A4 t c=(false,false);exact K.fin (V.two V.tmp V.tmp) ⟨by rw [e0];try rfl,rfl⟩;exfalso;refine e0 ?_;clear e0;simp_all [A4];done)
 refine Z1 ?_;refine R.fin [1,6,15] ?_
 refine W.cond (fun ht15=>?_) (fun ht15=>?_)
 ·refine gn ?_
  first|(by_cases e0:A4 t c=(c==0,true);exact K.fin (V.two V.tmp V.tmp) ⟨by rw [e0];try rfl,rfl⟩;exfalso;refine e0 ?_;clear e0;simp_all [A4];done)|(by_cases e0:A4 t c=(c != 0,true);exact K.fin (V.two V.tmp V.tmp) ⟨by rw [e0];try rfl,rfl⟩;exfalso;refine e0 ?_;clear e0;simp_all [A4];done)|(by_cases e0:A4 t c=(decide (c<0),true);exact K.fin (V.two V.tmp V.tmp) ⟨by rw [e0];try rfl,rfl⟩;exfalso;refine e0 ?_;clear e0;simp_all [A4];done)|(by_cases e0:A4 t c=(decide (c≤0),true);exact K.fin (V.two V.tmp V.tmp) ⟨by rw [e0];try rfl,rfl⟩;exfalso;refine e0 ?_;clear e0;simp_all [A4];done)|(by_cases e0:A4 t c=(decide (0<c),true);exact K.fin (V.two V.tmp V.tmp) ⟨by rw [e0];try rfl,rfl⟩;exfalso;refine e0 ?_;clear e0;simp_all [A4];done)|(by_cases e0:A4 t c=(decide (0≤c),true);exact K.fin (V.two V.tmp V.tmp) ⟨by rw [e0];try rfl,rfl⟩;exfalso;refine e0 ?_;clear e0;simp_all [A4];done)|(by_cases e0:A4 t c=(false,false);exact K.fin (V.two V.tmp V.tmp) ⟨by rw [e0];try rfl,rfl⟩;exfalso;refine e0 ?_;clear e0;simp_all [A4];done)
 refine Z1 ?_;refine R.fin [1,6,19] ?_
 refine W.cond (fun ht19=>?_) (fun ht19=>?_)
 ·refine gn ?_
  first|(by_cases e0:A4 t c=(c==0,true);exact K.fin (V.two V.tmp V.tmp) ⟨by rw [e0];try rfl,rfl⟩;exfalso;refine e0 ?_;clear e0;simp_all [A4];done)|(by_cases e0:A4 t c=(c != 0,true);exact K.fin (V.two V.tmp V.tmp) ⟨by rw [e0];try rfl,rfl⟩;exfalso;refine e0 ?_;clear e0;simp_all [A4];done)|(by_cases e0:A4 t c=(decide (c<0),true);exact K.fin (V.two V.tmp V.tmp) ⟨by rw [e0];try rfl,rfl⟩;exfalso;refine e0 ?_;clear e0;simp_all [A4];done)|(by_cases e0:A4 t c=(decide (c≤0),true);exact K.fin (V.two V.tmp V.tmp) ⟨by rw [e0];try rfl,rfl⟩;exfalso;refine e0 ?_;clear e0;simp_all [A4];done)|(by_cases e0:A4 t c=(decide (0<c),true);exact K.fin (V.two V.tmp V.tmp) ⟨by rw [e0];try rfl,rfl⟩;exfalso;refine e0 ?_;clear e0;simp_all [A4];done)|(by_cases e0:A4 t c=(decide (0≤c),true);exact K.fin (V.two V.tmp V.tmp) ⟨by rw [e0];try rfl,rfl⟩;exfalso;refine e0 ?_;clear e0;simp_all [A4];done)|(by_cases e0:A4 t c=(false,false);exact K.fin (V.two V.tmp V.tmp) ⟨by rw [e0];try rfl,rfl⟩;exfalso;refine e0 ?_;clear e0;simp_all [A4];done)
 refine Z1 ?_;refine R.fin [1,6,23] ?_
 refine W.cond (fun ht23=>?_) (fun ht23=>?_)
 ·refine gn ?_
  first|(by_cases e0:A4 t c=(c==0,true);exact K.fin (V.two V.tmp V.tmp) ⟨by rw [e0];try rfl,rfl⟩;exfalso;refine e0 ?_;clear e0;simp_all [A4];done)|(by_cases e0:A4 t c=(c != 0,true);exact K.fin (V.two V.tmp V.tmp) ⟨by rw [e0];try rfl,rfl⟩;exfalso;refine e0 ?_;clear e0;simp_all [A4];done)|(by_cases e0:A4 t c=(decide (c<0),true);exact K.fin (V.two V.tmp V.tmp) ⟨by rw [e0];try rfl,rfl⟩;exfalso;refine e0 ?_;clear e0;simp_all [A4];done)|(by_cases e0:A4 t c=(decide (c≤0),true);exact K.fin (V.two V.tmp V.tmp) ⟨by rw [e0];try rfl,rfl⟩;exfalso;refine e0 ?_;clear e0;simp_all [A4];done)|(by_cases e0:A4 t c=(decide (0<c),true);exact K.fin (V.two V.tmp V.tmp) ⟨by rw [e0];try rfl,rfl⟩;exfalso;refine e0 ?_;clear e0;simp_all [A4];done)|(by_cases e0:A4 t c=(decide (0≤c),true);exact K.fin (V.two V.tmp V.tmp) ⟨by rw [e0];try rfl,rfl⟩;exfalso;refine e0 ?_;clear e0;simp_all [A4];done)|(by_cases e0:A4 t c=(false,false);exact K.fin (V.two V.tmp V.tmp) ⟨by rw [e0];try rfl,rfl⟩;exfalso;refine e0 ?_;clear e0;simp_all [A4];done)
 refine Z1 ?_;refine R.fin [1,27] ?_
 refine W.cond (fun ht27=>?_) (fun ht27=>?_)
 ·refine gn ?_
  first|(by_cases e0:A4 t c=(c==0,true);exact K.fin (V.two V.tmp V.tmp) ⟨by rw [e0];try rfl,rfl⟩;exfalso;refine e0 ?_;clear e0;simp_all [A4];done)|(by_cases e0:A4 t c=(c != 0,true);exact K.fin (V.two V.tmp V.tmp) ⟨by rw [e0];try rfl,rfl⟩;exfalso;refine e0 ?_;clear e0;simp_all [A4];done)|(by_cases e0:A4 t c=(decide (c<0),true);exact K.fin (V.two V.tmp V.tmp) ⟨by rw [e0];try rfl,rfl⟩;exfalso;refine e0 ?_;clear e0;simp_all [A4];done)|(by_cases e0:A4 t c=(decide (c≤0),true);exact K.fin (V.two V.tmp V.tmp) ⟨by rw [e0];try rfl,rfl⟩;exfalso;refine e0 ?_;clear e0;simp_all [A4];done)|(by_cases e0:A4 t c=(decide (0<c),true);exact K.fin (V.two V.tmp V.tmp) ⟨by rw [e0];try rfl,rfl⟩;exfalso;refine e0 ?_;clear e0;simp_all [A4];done)|(by_cases e0:A4 t c=(decide (0≤c),true);exact K.fin (V.two V.tmp V.tmp) ⟨by rw [e0];try rfl,rfl⟩;exfalso;refine e0 ?_;clear e0;simp_all [A4];done)|(by_cases e0:A4 t c=(false,false);exact K.fin (V.two V.tmp V.tmp) ⟨by rw [e0];try rfl,rfl⟩;exfalso;refine e0 ?_;clear e0;simp_all [A4];done)
 refine Zi ?_;refine Z12 ?_
 first|(by_cases e0:A4 t c=(c==0,true);exact K.fin (V.two V.tmp V.tmp) ⟨by rw [e0];try rfl,rfl⟩;exfalso;refine e0 ?_;clear e0;simp_all [A4];done)|(by_cases e0:A4 t c=(c != 0,true);exact K.fin (V.two V.tmp V.tmp) ⟨by rw [e0];try rfl,rfl⟩;exfalso;refine e0 ?_;clear e0;simp_all [A4];done)|(by_cases e0:A4 t c=(decide (c<0),true);exact K.fin (V.two V.tmp V.tmp) ⟨by rw [e0];try rfl,rfl⟩;exfalso;refine e0 ?_;clear e0;simp_all [A4];done)|(by_cases e0:A4 t c=(decide (c≤0),true);exact K.fin (V.two V.tmp V.tmp) ⟨by rw [e0];try rfl,rfl⟩;exfalso;refine e0 ?_;clear e0;simp_all [A4];done)|(by_cases e0:A4 t c=(decide (0<c),true);exact K.fin (V.two V.tmp V.tmp) ⟨by rw [e0];try rfl,rfl⟩;exfalso;refine e0 ?_;clear e0;simp_all [A4];done)|(by_cases e0:A4 t c=(decide (0≤c),true);exact K.fin (V.two V.tmp V.tmp) ⟨by rw [e0];try rfl,rfl⟩;exfalso;refine e0 ?_;clear e0;simp_all [A4];done)|(by_cases e0:A4 t c=(false,false);exact K.fin (V.two V.tmp V.tmp) ⟨by rw [e0];try rfl,rfl⟩;exfalso;refine e0 ?_;clear e0;simp_all [A4];done)

theorem ABg (a b:Int) (Hp:List AObj):AFun Tryz.prog 221 [A2 a,A2 b] Hp (.tup [A2 (H3 a b).1,A2 (H3 a b).2]):=by
 refine ACall.body [.tmp 4,.tmp 5] [0,1] Tryz.func221 Tryz.ntmps221 (fun d=>?_)
 refine Zc ?_;refine Z1 ?_
 refine R.go (h:=Q.sub) (hr:=?_)
 refine R.go ?_;refine R.fin [0,1,6] ?_;refine Z31 ?_;refine R.xor ?_;refine Z0 ?_;refine R.xor ?_;refine R.and ?_;refine R.go ?_;refine R.fin [6,17] ?_
 refine W.cond (fun ht17=>?_) (fun ht17=>?_)
 ·have hm:H3 a b=(0,4):=if_pos ht17
  refine Z1 ?_;exact zw
 have hm:H3 a b=(IntKind.i64.wrap (a-b),0):=if_neg (by rw [ht17];simp)
 refine Mb ?_;exact we

theorem ADg (a b:Int) (Hp:List AObj):AFun Tryz.prog 239 [A2 a,A2 b] Hp (.tup [A2 (Pg a b).1,A2 (Pg a b).2]):=by
 refine ACall.body [.tmp 4,.tmp 5] [0,1] Tryz.func239 Tryz.ntmps239 (fun d=>?_)
 refine Zc ?_;refine Z1 ?_
 refine R.go (h:=Q.add) (hr:=?_)
 refine R.go ?_;refine R.fin [0,1,6] ?_;refine Z31 ?_;refine R.xor ?_;refine Z0 ?_;refine R.xor ?_;refine R.and ?_;refine R.go ?_;refine R.fin [6,17] ?_
 refine W.cond (fun ht17=>?_) (fun ht17=>?_)
 ·have hm:Pg a b=(0,4):=if_pos ht17
  refine Z1 ?_;exact zw
 have hm:Pg a b=(IntKind.i64.wrap (a+b),0):=if_neg (by rw [ht17];simp)
 refine Mb ?_;exact we

theorem ADh (a:Int) (Hp:List AObj):AFun Tryz.prog 198 [A2 a] Hp (.tup [A2 (H3 0 a).1,A2 (H3 0 a).2]):=by
 refine ACall.body [.tmp 2,.tmp 3] [0] Tryz.func198 Tryz.ntmps198 (fun d=>?_)
 refine Z1 ?_;refine R.fin [0] ?_;refine Z2 ?_;refine R.call Tryz.call221 (ABg _ _ _) ?_;refine Z73 ?_;refine Z40 ?_;exact K.fin (V.two V.tmp V.tmp)

theorem ABh (a:Int) (Hp:List AObj):AFun Tryz.prog 258 [A2 a] Hp (mq (P3 a)):=by
 refine ACall.body [.tmp 2] [0] Tryz.func258 Tryz.ntmps258 (fun d=>?_)
 refine Z47 ?_;refine Z31 ?_;refine R.fin [0,4] ?_
 refine W.cond (fun ht4=>?_) (fun ht4=>?_)
 ·have hm:P3 a=IntKind.u64.wrap (0-IntKind.u64.wrap a):=if_pos ht4
  refine Z19 ?_;refine Z4 ?_;exact Z24
 have hm:P3 a=IntKind.u64.wrap a:=if_neg (by rw [ht4];simp)
 refine Mb ?_;exact AA1

theorem ym (n:Int):0≤IntKind.u64.wrap n∧IntKind.u64.wrap n<18446744073709551616:=by rw [IntKind.wrap_u64];omega
theorem qi (a:Int):0≤P3 a∧P3 a<18446744073709551616:=by
 unfold P3
 split<;>exact ym _
theorem ADi (x y:Int) (hx:0≤x∧x<18446744073709551616) (hy:0≤y∧y<18446744073709551616) (Hp:List AObj):AFun Tryz.prog 257 [mq x,mq y] Hp (.tup [mq (x*y / 18446744073709551616),mq (x*y % 18446744073709551616)]):=by
 obtain ⟨m,rfl⟩:=Int.eq_ofNat_of_zero_le hx.1
 obtain ⟨n,rfl⟩:=Int.eq_ofNat_of_zero_le hy.1
 refine AFun.lib (xs:=[.int .u64 m,.int .u64 n]) (v:=.tuple #[.int .u64 ((m*n / 18446744073709551616:Nat):Int),.int .u64 ((m*n % 18446744073709551616:Nat):Int)]) (fun G w=>J1 rfl (fun i y u hy hu=>?_)) (fun w hg=>?_)
 ·match i with
  | 0=>simp at hy hu;subst hy;subst hu;exact .v _ _
  | 1=>simp at hy hu;subst hy;subst hu;exact .v _ _
  | i+2=>simp at hy
 refine (Any.bits_Mul64 Tryz.lays264 m n (by omega) (by omega) w).mono ?_
 rintro e w' ⟨rfl,rfl⟩
 exact ⟨rfl,Go.RowKit.Below.refl _ _⟩
theorem ADj (s t:Str) (Hp:List AObj):AFun Tryz.prog 238 [A9 s,A9 t] Hp (A2 (Lib.compareBytes s t)):=by
 refine AFun.lib (xs:=[sv s,sv t]) (v:=.int .i64 (Lib.compareBytes s t)) (fun G w=>.v _ _) (fun w hg=>?_)
 refine (Any.strings_Compare Tryz.lays106 ⟨s.toArray⟩ ⟨t.toArray⟩ w).mono ?_
 rintro e w' ⟨rfl,rfl⟩
 exact ⟨rfl,Go.RowKit.Below.refl _ _⟩
theorem ADk (a b:Int) (Hp:List AObj):AFun Tryz.prog 240 [A2 a,A2 b] Hp (.tup [A2 (L4 a b).1,A2 (L4 a b).2]):=by
 refine ACall.body [.tmp 4,.tmp 5] [0,1] Tryz.func240 Tryz.ntmps240 (fun d=>?_)
 refine Zc ?_;refine Z2 ?_;refine R.call Tryz.call258 (ABh _ _) ?_;refine R.go ?_;refine R.call Tryz.call258 (ABh _ _) ?_;refine R.call Tryz.call257 (ADi _ _ (qi a) (qi b) _) ?_;refine Z65 ?_;refine R.fin [0,1,6,7] ?_;refine Z19 ?_;refine Z0 ?_;refine R.fin [6,7,8] ?_;refine Z2 ?_;refine R.fin [6,7,8,9] ?_;refine Z36 ?_;refine R.fin [6,7,8,9,23] ?_
 refine W.cond (fun ht23=>?_) (fun ht23=>?_)
 ·refine Z81 ?_
  refine R.go (h:=Q.add) (hr:=?_)
  refine R.go ?_;refine R.fin [6,7,8,9] ?_;refine K.thN ?_;refine Wm ?_;refine Z97 ?_;refine R.fin [7,8,26] ?_
  refine W.cond (fun ht26=>?_) (fun ht26=>?_)
  ·refine Z1 ?_;refine Z80 ?_
   exact K.fin (V.two V.tmp V.tmp) ⟨by
    have w1:IntKind.u64.wrap 9223372036854775808=9223372036854775808:=rfl
    simp_all [L4]
    try first|(rw [if_pos ht26];simp;done)|(rw [if_neg (by omega)];simp;done),rfl⟩
  refine Z1 ?_;refine R.fin [7,34] ?_
  refine W.cond (fun ht34=>?_) (fun ht34=>?_)
  ·refine Z19 ?_;refine R.go ?_;refine Z80 ?_
   exact K.fin (V.two V.tmp V.tmp) ⟨by
    have w1:IntKind.u64.wrap 9223372036854775808=9223372036854775808:=rfl
    simp_all [L4]
    try first|(rw [if_pos ht26];simp;done)|(rw [if_neg (by omega)];simp;done),rfl⟩
  refine Z18 ?_;refine Z19 ?_;refine Z12 ?_
  exact K.fin (V.two V.tmp V.tmp) ⟨by
   have w1:IntKind.u64.wrap 9223372036854775808=9223372036854775808:=rfl
   simp_all [L4]
   try first|(rw [if_pos ht26];simp;done)|(rw [if_neg (by omega)];simp;done),rfl⟩
 refine Z86 ?_;refine Z13 ?_;refine Z97 ?_;refine R.fin [7,8,26] ?_
 refine W.cond (fun ht26=>?_) (fun ht26=>?_)
 ·refine Z1 ?_;refine Z80 ?_
  exact K.fin (V.two V.tmp V.tmp) ⟨by
   have w1:IntKind.u64.wrap 9223372036854775808=9223372036854775808:=rfl
   simp_all [L4]
   try first|(rw [if_pos ht26];simp;done)|(rw [if_neg (by omega)];simp;done),rfl⟩
 refine Z1 ?_;refine R.fin [7,34] ?_
 refine W.cond (fun ht34=>?_) (fun ht34=>?_)
 ·refine Z19 ?_;refine R.go ?_;refine Z80 ?_
  exact K.fin (V.two V.tmp V.tmp) ⟨by
   have w1:IntKind.u64.wrap 9223372036854775808=9223372036854775808:=rfl
   simp_all [L4]
   try first|(rw [if_pos ht26];simp;done)|(rw [if_neg (by omega)];simp;done),rfl⟩
 refine Z18 ?_;refine Z19 ?_;refine Z12 ?_
 exact K.fin (V.two V.tmp V.tmp) ⟨by
  have w1:IntKind.u64.wrap 9223372036854775808=9223372036854775808:=rfl
  simp_all [L4]
  try first|(rw [if_pos ht26];simp;done)|(rw [if_neg (by omega)];simp;done),rfl⟩

theorem ADl (a b:Int) (Hp:List AObj):AFun Tryz.prog 241 [A2 a,A2 b] Hp (.tup [A2 (Fk a b).1,A2 (Fk a b).2]):=by
 refine ACall.body [.tmp 4,.tmp 5] [0,1] Tryz.func241 Tryz.ntmps241 (fun d=>?_)
 refine Zc ?_;refine Wm ?_;refine R.fin [0,1,6] ?_
 refine W.cond (fun ht6=>?_) (fun ht6=>?_)
 ·refine Z1 ?_;refine Z80 ?_
  first|(by_cases e0:Fk a b=(0,5);exact K.fin (V.two V.tmp V.tmp) ⟨by rw [e0];try rfl,rfl⟩;exfalso;refine e0 ?_;clear e0;simp_all [Fk];done)|(by_cases e0:Fk a b=(0,4);exact K.fin (V.two V.tmp V.tmp) ⟨by rw [e0];try rfl,rfl⟩;exfalso;refine e0 ?_;clear e0;simp_all [Fk];done)|(by_cases e0:Fk a b=(IntKind.i64.wrap (a.tdiv b),0);exact K.fin (V.two V.tmp V.tmp) ⟨by rw [e0];try rfl,rfl⟩;exfalso;refine e0 ?_;clear e0;simp_all [Fk];done)
 refine Wp ?_;refine Z0 ?_;refine R.fin [0,1,9] ?_
 refine W.cond (fun ht9=>?_) (fun ht9=>?_)
 ·refine Z1 ?_;refine Z80 ?_
  first|(by_cases e0:Fk a b=(0,5);exact K.fin (V.two V.tmp V.tmp) ⟨by rw [e0];try rfl,rfl⟩;exfalso;refine e0 ?_;clear e0;simp_all [Fk];done)|(by_cases e0:Fk a b=(0,4);exact K.fin (V.two V.tmp V.tmp) ⟨by rw [e0];try rfl,rfl⟩;exfalso;refine e0 ?_;clear e0;simp_all [Fk];done)|(by_cases e0:Fk a b=(IntKind.i64.wrap (a.tdiv b),0);exact K.fin (V.two V.tmp V.tmp) ⟨by rw [e0];try rfl,rfl⟩;exfalso;refine e0 ?_;clear e0;simp_all [Fk];done)
 refine Zi ?_
 refine R.go (h:=Q.quo (h0:=fun _=>by simpa using ht6)) (hr:=?_)
 refine Z0 ?_;refine Z12 ?_
 first|(by_cases e0:Fk a b=(0,5);exact K.fin (V.two V.tmp V.tmp) ⟨by rw [e0];try rfl,rfl⟩;exfalso;refine e0 ?_;clear e0;simp_all [Fk];done)|(by_cases e0:Fk a b=(0,4);exact K.fin (V.two V.tmp V.tmp) ⟨by rw [e0];try rfl,rfl⟩;exfalso;refine e0 ?_;clear e0;simp_all [Fk];done)|(by_cases e0:Fk a b=(IntKind.i64.wrap (a.tdiv b),0);exact K.fin (V.two V.tmp V.tmp) ⟨by rw [e0];try rfl,rfl⟩;exfalso;refine e0 ?_;clear e0;simp_all [Fk];done)

theorem kb {a b:Int} (ha : -9223372036854775808≤a∧a≤9223372036854775807):IntKind.i64.wrap (a.tmod b)=a.tmod b:=by
 have h1:(a.tmod b).natAbs≤a.natAbs:=by rw [Int.natAbs_tmod];exact Nat.mod_le _ _
 rw [IntKind.wrap_i64]
 rcases Int.le_total 0 a with h|h
 ·have:=Int.tmod_nonneg b h
  omega
 have h2:=Int.tmod_nonneg b (show 0 ≤ -a by omega)
 rw [Int.neg_tmod] at h2
 omega
theorem ADm (a b:Int) (ha : -9223372036854775808≤a∧a≤9223372036854775807) (Hp:List AObj):AFun Tryz.prog 242 [A2 a,A2 b] Hp (.tup [A2 (Lx a b).1,A2 (Lx a b).2]):=by
 refine ACall.body [.tmp 4,.tmp 5] [0,1] Tryz.func242 Tryz.ntmps242 (fun d=>?_)
 refine Zc ?_;refine Z36 ?_;refine R.fin [0,1,6] ?_;refine Z90 ?_;refine R.fin [0,1,6,7] ?_
 refine W.cond (fun ht7=>?_) (fun ht7=>?_)
 ·have hm:Lx a b=(0,5):=if_pos ht7
  refine Z1 ?_;exact zx
 refine Z1 ?_;refine R.fin [0,1,9] ?_
 refine W.cond (fun ht9=>?_) (fun ht9=>?_)
 ·have hm:Lx a b=(0,0):=by unfold Lx;rw [if_neg (by rw [ht7];simp),if_pos ht9]
  refine Z1 ?_;exact zx
 have hm:Lx a b=(a.tmod b,0):=by unfold Lx;rw [if_neg (by rw [ht7];simp),if_neg (by rw [ht9];simp),kb ha]
 refine Zi ?_
 refine R.go (h:=Q.rem (h0:=fun _=>by simpa using ht7)) (hr:=?_)
 refine Z0 ?_;exact we

theorem ABi (a:Int) (Hp:List AObj):AFun Tryz.prog 254 [A2 a] Hp (At false):=by
 refine ACall.body [.tmp 2] [0] Tryz.func254 Tryz.ntmps254 (fun d=>?_)
 refine Z47 ?_;refine Z19 ?_;exact AA4

theorem ABj (a:Int) (Hp:List AObj):AFun Tryz.prog 255 [A2 a] Hp (At false):=by
 refine ACall.body [.tmp 2] [0] Tryz.func255 Tryz.ntmps255 (fun d=>?_)
 refine Z47 ?_;refine Z19 ?_;exact AA4

theorem ADn (a b:Int) (Hp:List AObj):AFun Tryz.prog 236 [A2 a,A2 b] Hp (A2 (Jp a b)):=by
 refine ACall.body [.tmp 4] [0,1] Tryz.func236 Tryz.ntmps236 (fun d=>?_)
 refine Z51 ?_;refine Z2 ?_;refine R.call Tryz.call254 (ABi _ _) ?_;refine R.go ?_;refine R.fin [0,1,5] ?_;refine Z2 ?_;refine R.call Tryz.call254 (ABi _ _) ?_;refine R.go ?_;refine R.fin [0,1,5,6] ?_;refine Z36 ?_;refine R.fin [0,1,6,11] ?_
 refine W.cond (fun ht11=>?_) (fun ht11=>?_)
 ·cases ht11
 refine Q9 ?_;refine R.fin [0,1,13] ?_
 refine W.cond (fun ht13=>?_) (fun ht13=>?_)
 ·cases ht13
 refine Wq ?_;refine R.fin [0,1,16] ?_
 refine W.cond (fun ht16=>?_) (fun ht16=>?_)
 ·have hm:Jp a b = -1:=if_pos ht16
  exact gh
 refine Wq ?_;refine R.fin [19] ?_
 refine W.cond (fun ht19=>?_) (fun ht19=>?_)
 ·have hm:Jp a b=1:=by unfold Jp;rw [if_neg (by rw [ht16];simp),if_pos ht19]
  exact gh
 have hm:Jp a b=0:=by unfold Jp;rw [if_neg (by rw [ht16];simp),if_neg (by rw [ht19];simp)]
 refine Z6 ?_;exact rq

theorem ADo (a b:Int) (Hp:List AObj):AFun Tryz.prog 237 [A2 a,A2 b] Hp (A2 (Jp a b)):=by
 refine ACall.body [.tmp 4] [0,1] Tryz.func237 Tryz.ntmps237 (fun d=>?_)
 refine Z51 ?_;refine Z2 ?_;refine R.call Tryz.call255 (ABj _ _) ?_;refine R.go ?_;refine R.fin [0,1,5] ?_;refine Z2 ?_;refine R.call Tryz.call255 (ABj _ _) ?_;refine R.go ?_;refine R.fin [0,1,5,6] ?_;refine Z36 ?_;refine R.fin [0,1,6,11] ?_
 refine W.cond (fun ht11=>?_) (fun ht11=>?_)
 ·cases ht11
 refine Q9 ?_;refine R.fin [0,1,13] ?_
 refine W.cond (fun ht13=>?_) (fun ht13=>?_)
 ·cases ht13
 refine Wq ?_;refine R.fin [0,1,16] ?_
 refine W.cond (fun ht16=>?_) (fun ht16=>?_)
 ·have hm:Jp a b = -1:=if_pos ht16
  exact gh
 refine Wq ?_;refine R.fin [19] ?_
 refine W.cond (fun ht19=>?_) (fun ht19=>?_)
 ·have hm:Jp a b=1:=by unfold Jp;rw [if_neg (by rw [ht16];simp),if_pos ht19]
  exact gh
 have hm:Jp a b=0:=by unfold Jp;rw [if_neg (by rw [ht16];simp),if_neg (by rw [ht19];simp)]
 refine Z6 ?_;exact rq

theorem qj {l:List Int} {x:Nat} (h:x<l.length) (hx:orI l=orI (l.drop x)):orI l=if l[x] != 0 then l[x] else orI (l.drop (x+1)):=by rw [hx,List.drop_eq_getElem_cons h,orI]
theorem ADp (l:List Int) (hl:l.length≤1048576) (Hp:List AObj):AFun Tryz.prog 235 [dx l] Hp (A2 (orI l)):=by
 refine ACall.body [.tmp 2] [0] Tryz.func235 Tryz.ntmps235 (fun d=>?_)
 refine Z47 ?_;refine Z2 ?_;refine Mc ?_;refine Z30 ?_;refine R.fin [3,6,7,8] ?_
 refine AW.loopC (α:=Nat) (fun x=>⟨18,A3 3 (A2 0) (A3 6 (dx l) (A3 7 (A2 (l.length:Nat)) (A3 8 (A2 (x:Nat)) (fun _=>.any)))),Hp,[],[],none⟩) (fun x=>x≤l.length∧orI l=orI (l.drop x)) (fun x=>l.length-x) (0) ⟨Nat.zero_le _,rfl⟩ (StLe.of_eq (by simp)) rfl (fun x hx=>?_)
 refine Z2 ?_;refine R.fin [3,6,7,8,9] ?_
 refine W.condX (fun ht9=>?_) (fun ht9=>?_)
 ·have hlt:x<l.length:=by simpa using ht9
  have hst:=qj hlt hx.2
  refine Z87 ?_
  refine R.go (h:=Q.indexAddr (x) (A2 l[x]) (fun _=>An hlt)) (hr:=?_)
  refine Z0 ?_;refine R.fin [3,5,6,7,8] ?_;refine Z13 ?_;refine R.fin [3,5,6,7,8,14] ?_
  refine W.cond (fun ht14=>?_) (fun ht14=>?_)
  ·have hm:orI l=l[x]:=by rw [hst,if_pos ht14]
   refine Z1 ?_;refine Z4 ?_;exact Z91
  have hn:orI l=orI (l.drop (x+1)):=by rw [hst,if_neg (by rw [ht14];simp)]
  refine Z57 ?_;refine R.fin [3,6,7,8] ?_;exact zm
 have hxe:l.length≤x:=by simpa using ht9
 have hm:orI l=0:=by rw [hx.2,List.drop_of_length_le hxe];rfl
 refine Z35 ?_;refine Z1 ?_;exact AA1

theorem ADq (a b:Val) (Hp:List AObj):AFun Tryz.prog 218 [Am a,Am b] Hp (A2 (Xx a b)):=by
 refine ACall.body [.tmp 4] [0,1] Tryz.func218 Tryz.ntmps218 (fun d=>?_)
 refine Z13 ?_;refine Hl ?_;refine Z36 ?_;refine R.call Tryz.call38 (c38 a _) ?_;refine V1 ?_;refine G.call Tryz.call38 (fun hB=>c38 b _) ?_;refine Z93 ?_;refine R.fin [2,3,12] ?_
 refine W.cond (fun ht12=>?_) (fun ht12=>?_)
 ·have hm:Xx a b=0:=if_pos ht12
  exact gh
 have hm:Xx a b=orI [Jp a.kind b.kind,Jp a.n b.n,Lib.compareBytes a.s b.s]:=if_neg (by rw [ht12];simp)
 refine Z6 ?_;refine W.drawQ [0,1,0,4,15,0,32,0,128,511,0,1024,0,4096,16383,32767,65535,131071] 14 Aa (by kernel_rfl) ?_;refine Pe ?_;refine D.call Tryz.call236 (ADn _ _ _) ?_;refine Pe ?_;refine D.call Tryz.call237 (ADo _ _ _) ?_;refine Z10 ?_;refine Z72 ?_;refine R.call Tryz.call238 (ADj _ _ _) ?_;refine Lo ?_;refine R.call Tryz.call235 (ADp [Jp a.kind b.kind,Jp a.n b.n,Lib.compareBytes a.s b.s] (by simp) _) ?_;refine R.go ?_;refine Z22 ?_;exact gx

theorem ADr (t:Str) (a b:Int) (ha : -9223372036854775808≤a∧a≤9223372036854775807) (Hp:List AObj):AFun Tryz.prog 220 [A9 t,A2 a,A2 b] Hp (O9 (F7 (Ai t a b))):=by
 refine ACall.body [.cell 6 63,.tmp 7] [0,1,2] Tryz.func220 Tryz.ntmps220 (fun d=>?_)
 refine Wl ?_;refine R.fin [0,1,2,6] ?_;refine Z36 ?_;refine R.fin [1,2,6,8] ?_;refine Z90 ?_;refine R.fin [1,2,6,8,9] ?_
 refine W.cond (fun ht9=>?_) (fun ht9=>?_)
 ·refine Z1 ?_;refine R.call Tryz.call239 (ADg _ _ _) ?_;refine Zh ?_;refine Uy ?_;refine Z5 ?_
  first|(by_cases e0:Ai t a b=Pg a b;exact K.fin (V.two (V.cellN Tryz.isAgg63 Tryz.sizeOf63) V.tmp) ⟨by rw [e0];try rfl,rfl⟩;exfalso;refine e0 ?_;clear e0;simp_all [Ai];done)|(by_cases e0:Ai t a b=H3 a b;exact K.fin (V.two (V.cellN Tryz.isAgg63 Tryz.sizeOf63) V.tmp) ⟨by rw [e0];try rfl,rfl⟩;exfalso;refine e0 ?_;clear e0;simp_all [Ai];done)|(by_cases e0:Ai t a b=L4 a b;exact K.fin (V.two (V.cellN Tryz.isAgg63 Tryz.sizeOf63) V.tmp) ⟨by rw [e0];try rfl,rfl⟩;exfalso;refine e0 ?_;clear e0;simp_all [Ai];done)|(by_cases e0:Ai t a b=Fk a b;exact K.fin (V.two (V.cellN Tryz.isAgg63 Tryz.sizeOf63) V.tmp) ⟨by rw [e0];try rfl,rfl⟩;exfalso;refine e0 ?_;clear e0;simp_all [Ai];done)|(by_cases e0:Ai t a b=Lx a b;exact K.fin (V.two (V.cellN Tryz.isAgg63 Tryz.sizeOf63) V.tmp) ⟨by rw [e0];try rfl,rfl⟩;exfalso;refine e0 ?_;clear e0;simp_all [Ai];done)
 refine Z1 ?_;refine R.fin [1,2,6,8,19] ?_
 refine W.cond (fun ht19=>?_) (fun ht19=>?_)
 ·refine Z1 ?_;refine R.call Tryz.call221 (ABg _ _ _) ?_;refine Zh ?_;refine Uy ?_;refine Z5 ?_
  first|(by_cases e0:Ai t a b=Pg a b;exact K.fin (V.two (V.cellN Tryz.isAgg63 Tryz.sizeOf63) V.tmp) ⟨by rw [e0];try rfl,rfl⟩;exfalso;refine e0 ?_;clear e0;simp_all [Ai];done)|(by_cases e0:Ai t a b=H3 a b;exact K.fin (V.two (V.cellN Tryz.isAgg63 Tryz.sizeOf63) V.tmp) ⟨by rw [e0];try rfl,rfl⟩;exfalso;refine e0 ?_;clear e0;simp_all [Ai];done)|(by_cases e0:Ai t a b=L4 a b;exact K.fin (V.two (V.cellN Tryz.isAgg63 Tryz.sizeOf63) V.tmp) ⟨by rw [e0];try rfl,rfl⟩;exfalso;refine e0 ?_;clear e0;simp_all [Ai];done)|(by_cases e0:Ai t a b=Fk a b;exact K.fin (V.two (V.cellN Tryz.isAgg63 Tryz.sizeOf63) V.tmp) ⟨by rw [e0];try rfl,rfl⟩;exfalso;refine e0 ?_;clear e0;simp_all [Ai];done)|(by_cases e0:Ai t a b=Lx a b;exact K.fin (V.two (V.cellN Tryz.isAgg63 Tryz.sizeOf63) V.tmp) ⟨by rw [e0];try rfl,rfl⟩;exfalso;refine e0 ?_;clear e0;simp_all [Ai];done)
 refine Z1 ?_;refine R.fin [1,2,6,8,29] ?_
 refine W.cond (fun ht29=>?_) (fun ht29=>?_)
 ·refine Z1 ?_;refine R.call Tryz.call240 (ADk _ _ _) ?_;refine Zh ?_;refine Uy ?_;refine Z5 ?_
  first|(by_cases e0:Ai t a b=Pg a b;exact K.fin (V.two (V.cellN Tryz.isAgg63 Tryz.sizeOf63) V.tmp) ⟨by rw [e0];try rfl,rfl⟩;exfalso;refine e0 ?_;clear e0;simp_all [Ai];done)|(by_cases e0:Ai t a b=H3 a b;exact K.fin (V.two (V.cellN Tryz.isAgg63 Tryz.sizeOf63) V.tmp) ⟨by rw [e0];try rfl,rfl⟩;exfalso;refine e0 ?_;clear e0;simp_all [Ai];done)|(by_cases e0:Ai t a b=L4 a b;exact K.fin (V.two (V.cellN Tryz.isAgg63 Tryz.sizeOf63) V.tmp) ⟨by rw [e0];try rfl,rfl⟩;exfalso;refine e0 ?_;clear e0;simp_all [Ai];done)|(by_cases e0:Ai t a b=Fk a b;exact K.fin (V.two (V.cellN Tryz.isAgg63 Tryz.sizeOf63) V.tmp) ⟨by rw [e0];try rfl,rfl⟩;exfalso;refine e0 ?_;clear e0;simp_all [Ai];done)|(by_cases e0:Ai t a b=Lx a b;exact K.fin (V.two (V.cellN Tryz.isAgg63 Tryz.sizeOf63) V.tmp) ⟨by rw [e0];try rfl,rfl⟩;exfalso;refine e0 ?_;clear e0;simp_all [Ai];done)
 refine Z1 ?_;refine R.fin [1,2,6,39] ?_
 refine W.cond (fun ht39=>?_) (fun ht39=>?_)
 ·refine Z1 ?_;refine R.call Tryz.call241 (ADl _ _ _) ?_;refine Zh ?_;refine Uy ?_;refine Z5 ?_
  first|(by_cases e0:Ai t a b=Pg a b;exact K.fin (V.two (V.cellN Tryz.isAgg63 Tryz.sizeOf63) V.tmp) ⟨by rw [e0];try rfl,rfl⟩;exfalso;refine e0 ?_;clear e0;simp_all [Ai];done)|(by_cases e0:Ai t a b=H3 a b;exact K.fin (V.two (V.cellN Tryz.isAgg63 Tryz.sizeOf63) V.tmp) ⟨by rw [e0];try rfl,rfl⟩;exfalso;refine e0 ?_;clear e0;simp_all [Ai];done)|(by_cases e0:Ai t a b=L4 a b;exact K.fin (V.two (V.cellN Tryz.isAgg63 Tryz.sizeOf63) V.tmp) ⟨by rw [e0];try rfl,rfl⟩;exfalso;refine e0 ?_;clear e0;simp_all [Ai];done)|(by_cases e0:Ai t a b=Fk a b;exact K.fin (V.two (V.cellN Tryz.isAgg63 Tryz.sizeOf63) V.tmp) ⟨by rw [e0];try rfl,rfl⟩;exfalso;refine e0 ?_;clear e0;simp_all [Ai];done)|(by_cases e0:Ai t a b=Lx a b;exact K.fin (V.two (V.cellN Tryz.isAgg63 Tryz.sizeOf63) V.tmp) ⟨by rw [e0];try rfl,rfl⟩;exfalso;refine e0 ?_;clear e0;simp_all [Ai];done)
 refine Zi ?_;refine R.call Tryz.call242 (ADm _ _ ha _) ?_;refine Zh ?_;refine Uy ?_
 first|(by_cases e0:Ai t a b=Pg a b;exact K.fin (V.two (V.cellN Tryz.isAgg63 Tryz.sizeOf63) V.tmp) ⟨by rw [e0];try rfl,rfl⟩;exfalso;refine e0 ?_;clear e0;simp_all [Ai];done)|(by_cases e0:Ai t a b=H3 a b;exact K.fin (V.two (V.cellN Tryz.isAgg63 Tryz.sizeOf63) V.tmp) ⟨by rw [e0];try rfl,rfl⟩;exfalso;refine e0 ?_;clear e0;simp_all [Ai];done)|(by_cases e0:Ai t a b=L4 a b;exact K.fin (V.two (V.cellN Tryz.isAgg63 Tryz.sizeOf63) V.tmp) ⟨by rw [e0];try rfl,rfl⟩;exfalso;refine e0 ?_;clear e0;simp_all [Ai];done)|(by_cases e0:Ai t a b=Fk a b;exact K.fin (V.two (V.cellN Tryz.isAgg63 Tryz.sizeOf63) V.tmp) ⟨by rw [e0];try rfl,rfl⟩;exfalso;refine e0 ?_;clear e0;simp_all [Ai];done)|(by_cases e0:Ai t a b=Lx a b;exact K.fin (V.two (V.cellN Tryz.isAgg63 Tryz.sizeOf63) V.tmp) ⟨by rw [e0];try rfl,rfl⟩;exfalso;refine e0 ?_;clear e0;simp_all [Ai];done)

theorem ADs (a b:Val) (fa:Fine a) (fb:Fine b) (Hp:List AObj):AFun Tryz.prog 219 [.slice false 3 [Am a,Am b]] Hp (O9 (Kf a b)):=by
 refine ACall.body [.cell 2 63,.tmp 3] [0] Tryz.func219 Tryz.ntmps219 (fun d=>?_)
 refine Wl ?_;refine R.fin [0,2] ?_;refine Ma ?_;refine R.buildSl jU jS jZ ?_;refine R.call Tryz.call196 (qh [a,b] [2,2] (by simp) (by simp) _) ?_;refine Z0 ?_;refine R.fin [0,2,4] ?_
 refine W.cond (fun ht4=>?_) (fun ht4=>?_)
 ·have hm:Kf a b=C1 10:=if_pos ht4
  refine Se ?_;refine Pd ?_;exact Z16
 have hla:=fa.len
 have hlb:=fb.len
 refine W.drawQ [0,1,3,7,15,0,32,96,224,480,1023,2047,4095] 10 Aa (by kernel_rfl) ?_;refine D.go ?_
 refine D.go (h:=Q.indexAddr (0) (Am a) (fun _=>show ([Am a,Am b]:List AV)[0]? = some (Am a) from rfl)) (hr:=?_)
 refine Pe ?_
 refine D.go (h:=Q.indexAddr (1) (Am b) (fun _=>show ([Am a,Am b]:List AV)[1]? = some (Am b) from rfl)) (hr:=?_)
 refine Z37 ?_;refine D.tail ?_
 refine R.go (h:=Q.add64 (h1:=fun _=>by omega) (h2:=fun _=>by omega)) (hr:=?_)
 refine Z0 ?_;refine R.fin [0,2,12] ?_
 refine W.cond (fun ht12=>?_) (fun ht12=>?_)
 ·have hm:Kf a b=C1 3:=by unfold Kf;rw [if_neg (by rw [ht4];simp),if_pos ht12]
  refine Se ?_;refine Pd ?_;exact Z16
 have hm:Kf a b=(Sr (a.s++b.s),0):=by unfold Kf;rw [if_neg (by rw [ht4];simp),if_neg (by rw [ht12];simp)]
 refine Z18 ?_;refine W.drawQ [0,1,3,7,0,16,48,112,255,511,1023,2047] 8 Aa (by kernel_rfl) ?_;refine D.go ?_
 refine D.go (h:=Q.indexAddr (0) (Am a) (fun _=>show ([Am a,Am b]:List AV)[0]? = some (Am a) from rfl)) (hr:=?_)
 refine Z37 ?_
 refine D.go (h:=Q.indexAddr (1) (Am b) (fun _=>show ([Am a,Am b]:List AV)[1]? = some (Am b) from rfl)) (hr:=?_)
 refine Z72 ?_
 refine R.go (h:=Q.sadd (hl:=fun _=>by omega)) (hr:=?_)
 refine R.call Tryz.call208 (ic _ _) ?_;refine Pd ?_;exact mn

theorem ADt (t:Str) (a b:Val) (fa:Fine a) (fb:Fine b) (Hp:List AObj):AFun Tryz.prog 195 [A9 t,.slice false 3 [Am a,Am b]] Hp (O9 (It t a b)):=by
 refine ACall.body [.cell 4 63,.tmp 5] [0,1] Tryz.func195 Tryz.ntmps195 (fun d=>?_)
 refine Wl ?_;refine R.fin [0,1,4] ?_;refine W.seq ?_;refine W.drawQ [0,0,2,6,0,16,48,126,255,511,1023,1023,2047,8191] 13 Aa (by kernel_rfl) ?_;refine Z10 ?_
 refine D.go (h:=Q.indexAddr (0) (Am a) (fun _=>show ([Am a,Am b]:List AV)[0]? = some (Am a) from rfl)) (hr:=?_)
 refine Z10 ?_
 refine D.go (h:=Q.indexAddr (1) (Am b) (fun _=>show ([Am a,Am b]:List AV)[1]? = some (Am b) from rfl)) (hr:=?_)
 refine D.go ?_;refine D.call Tryz.call218 (ADq _ _ _) ?_;refine D.call Tryz.call217 (ADf _ _ _) ?_;refine Z10 ?_;refine Z72 ?_;refine R.go ?_;refine R.fin [0,1,4,6,7] ?_;refine Z2 ?_;refine R.fin [0,1,4,6,20] ?_
 refine W.cond (fun ht20=>?_) (fun ht20=>?_)
 ·refine W.seq ?_;refine W.drawQ [0,1,3,7,0,16,48,112,255] 8 Aa (by kernel_rfl) ?_;refine D.go ?_
  refine D.go (h:=Q.indexAddr (0) (Am a) (fun _=>show ([Am a,Am b]:List AV)[0]? = some (Am a) from rfl)) (hr:=?_)
  refine Z37 ?_
  refine D.go (h:=Q.indexAddr (1) (Am b) (fun _=>show ([Am a,Am b]:List AV)[1]? = some (Am b) from rfl)) (hr:=?_)
  refine Z72 ?_;refine R.go ?_;refine R.fin [4,6,29] ?_
  refine W.cond (fun ht29=>?_) (fun ht29=>?_)
  ·have hm:It t a b=C1 10:=by unfold It;rw [if_pos ht20,if_pos ht29]
   refine Se ?_;refine Z38 ?_;refine K.thR ?_;exact Z28
  have hm:It t a b=(Fl (A4 t (Xx a b)).1,0):=by unfold It;rw [if_pos ht20,if_neg (by rw [ht29];simp)]
  refine Z99 ?_;refine R.call Tryz.call154 (Zv _ _) ?_;exact gi
 refine Z6 ?_;refine Z31 ?_;refine R.fin [0,1,4,36] ?_
 refine W.cond (fun ht36=>?_) (fun ht36=>?_)
 ·have hm:It t a b=Kf a b:=by unfold It;rw [if_neg (by rw [ht20];simp),if_pos ht36]
  refine Z2 ?_;refine R.call Tryz.call219 (ADs a b fa fb _) ?_;refine Z0 ?_;exact gi
 refine Q9 ?_;refine R.buildSl jU jS jZ ?_;refine R.call Tryz.call196 (qh [a,b] [1,1] (by simp) (by simp) _) ?_;refine R.go ?_;refine R.fin [0,1,4,44] ?_
 refine W.cond (fun ht44=>?_) (fun ht44=>?_)
 ·have hm:It t a b=C1 10:=by unfold It;rw [if_neg (by rw [ht20];simp),if_neg (by rw [ht36];simp),if_pos ht44]
  refine Se ?_;exact gi
 have hm:It t a b=F7 (Ai t a.n b.n):=by unfold It;rw [if_neg (by rw [ht20];simp),if_neg (by rw [ht36];simp),if_neg (by rw [ht44];simp)]
 refine Z6 ?_;refine W.drawQ [0,0,2,6,14,0,32,96,224,511,1023,1023,4095,8191] 12 Aa (by kernel_rfl) ?_;refine Z10 ?_
 refine D.go (h:=Q.indexAddr (0) (Am a) (fun _=>show ([Am a,Am b]:List AV)[0]? = some (Am a) from rfl)) (hr:=?_)
 refine Z37 ?_
 refine D.go (h:=Q.indexAddr (1) (Am b) (fun _=>show ([Am a,Am b]:List AV)[1]? = some (Am b) from rfl)) (hr:=?_)
 refine Z10 ?_;refine D.call Tryz.call220 (ADr _ _ _ ⟨fa.lo,fa.hi⟩ _) ?_;refine Z72 ?_;exact Z50

theorem yn (s:Str) (n:Int):∃k:Nat,(if (0:Int)<(if (s.length:Int)<n then (s.length:Int) else n) then (if (s.length:Int)<n then (s.length:Int) else n) else 0)=(k:Int)∧k≤s.length∧k=(max 0 (min n s.length)).toNat:=by
 refine ⟨(max 0 (min n s.length)).toNat,?_,?_,rfl⟩<;>repeat' split
 all_goals omega
theorem ADu (t s:Str) (n:Int) (hs:s.length≤1048576) (Hp:List AObj):AFun Tryz.prog 200 [A9 t,A9 s,A2 n] Hp (Am (Kg t s n)):=by
 refine ACall.body [.cell 6 63] [0,1,2] Tryz.func200 Tryz.ntmps200 (fun d=>?_)
 refine rx ?_;refine Z13 ?_;refine R.minI ?_;refine R.maxI ?_
 obtain ⟨k,hk,hks,hke⟩:=yn s n
 simp only [hk]
 refine R.go ?_;refine R.fin [0,1,6,7] ?_;refine Z31 ?_;refine R.fin [1,6,7,14] ?_
 refine W.cond (fun ht14=>?_) (fun ht14=>?_)
 ·have hm:Kg t s n=Sr (s.take k):=by unfold Kg;rw [if_pos ht14,←hke]
  refine Z1 ?_
  refine R.go (h:=Q.scutH k (fun _=>Nat.zero_le _) (fun _=>hks)) (hr:=?_)
  refine R.call Tryz.call208 (ic _ _) ?_;refine Zb ?_;refine K.thR ?_;exact AAj
 have hm:Kg t s n=Sr (s.drop (s.length-k)):=by unfold Kg;rw [if_neg (by rw [ht14];simp),←hke]
 refine Z6 ?_;refine Z19 ?_
 refine R.go (h:=Q.sub64 (h1:=fun _=>by omega) (h2:=fun _=>by omega)) (hr:=?_)
 refine R.go (h:=Q.scutL (s.length-k) (fun _=>show s.length-k≤s.length by omega) (fun _=>Nat.le_refl _)) (hr:=?_)
 refine R.call Tryz.call208 (ic _ _) ?_;refine Zb ?_;exact AAj

theorem ADv (t:Str) (v:Val) (h:Fine v) (Hp:List AObj):AFun Tryz.prog 199 [A9 t,Am v] Hp (O9 (Fp t v)):=by
 have hlen:=h.len
 refine ACall.body [.cell 4 63,.tmp 5] [0,1] Tryz.func199 Tryz.ntmps199 (fun d=>?_)
 refine Z2 ?_;refine Z67 ?_;refine R.fin [0,3,4] ?_;refine Wm ?_;refine Z97 ?_;refine R.fin [0,3,4,6] ?_
 refine W.cond (fun ht6=>?_) (fun ht6=>?_)
 ·have hm:Fp t v=(Sr (Lib.itoa v.n),0):=if_pos ht6
  refine Z1 ?_;refine R.call Tryz.call202 (AAz _ h.lo h.hi _) ?_;refine R.call Tryz.call208 (ic _ _) ?_;exact Z74
 refine Z13 ?_;refine Z97 ?_;refine R.fin [0,3,4,18] ?_
 refine W.cond (fun ht18=>?_) (fun ht18=>?_)
 ·have hm:Fp t v=(⟨1,v.s.length,[]⟩,0):=by unfold Fp;rw [if_neg (by rw [ht6];simp),if_pos ht18]
  refine Z13 ?_;refine R.call Tryz.call189 (xd _ _) ?_;exact Z74
 refine Z13 ?_;refine Z97 ?_;refine R.fin [3,4,30] ?_
 refine W.cond (fun ht30=>?_) (fun ht30=>?_)
 ·have hm:Fp t v=F7 (Bc v.s):=by unfold Fp;rw [if_neg (by rw [ht6];simp),if_neg (by rw [ht18];simp),if_pos ht30]
  refine Z1 ?_;refine R.call Tryz.call188 (AAy v.s (by omega) _) ?_;refine Zh ?_;exact Z74
 have hm:Fp t v=C1 10:=by unfold Fp;rw [if_neg (by rw [ht6];simp),if_neg (by rw [ht18];simp),if_neg (by rw [ht30];simp)]
 refine Z18 ?_;refine Se ?_;exact Z50

theorem ut {vs:List Val} (h:0<vs.length):vs.getD 0 noV=vs[0]:=by rw [List.getD_eq_getElem?_getD,List.getElem?_eq_getElem h];rfl
/-- As many values as a node asks for. -/
structure ArgsOk (o:Int) (vs:List Val):Prop where
 two:o=5→∃a b,vs=[a,b]
 one:o=3∨o=4→vs.length=1
 call:o=6→vs.length=1∨∃a b,vs=[a,b]
 fine:∀v∈vs,Fine v
theorem ADw (e:Expr) (vs:List Val) (h:ArgsOk e.op vs) (Hp:List AObj):AFun Tryz.prog 174 [A5 e,B1 vs] Hp (O9 (Ah e.op e.text vs)):=by
 refine ACall.body [.cell 4 63,.tmp 5] [0,1] Tryz.func174 Tryz.ntmps174 (fun d=>?_)
 refine Z2 ?_;refine Z67 ?_;refine R.fin [1,2,4] ?_;refine Z23 ?_;refine Z19 ?_;refine R.fin [1,2,4,6] ?_
 refine W.cond (fun ht6=>?_) (fun ht6=>?_)
 ·obtain ⟨a,b,rfl⟩:=h.two (by simpa using ht6)
  have hm:Ah e.op e.text [a,b]=It e.text a b:=if_pos ht6
  refine Z13 ?_;refine R.call Tryz.call195 (ADt e.text a b (h.fine a (by simp)) (h.fine b (by simp)) _) ?_;refine Z0 ?_;exact Z74
 refine gr ?_;refine G.buildSl jU jS jZ ?_
 refine G.call Tryz.call196 (C:=((e.op==3)==true)) (fun hB=>qh vs [1] (by have:=h.one (.inl (by simpa using hB));simp [this]) (by simp) _) ?_
 refine Z0 ?_;refine R.fin [1,2,4,16] ?_
 refine W.cond (fun ht16=>?_) (fun ht16=>?_)
 ·have hm0:((e.op==3)&&C8 vs [1])=true:=ht16
  have hop:e.op=3:=by simp only [Bool.and_eq_true,beq_iff_eq] at hm0;exact hm0.1
  have hln:=h.one (.inl hop)
  have hg0:(vs.map Am)[0]? = some (Am (vs.getD 0 noV)):=by rw [ut (by omega)];exact An (by omega)
  have hm:Ah e.op e.text vs=F7 (H3 0 (vs.getD 0 noV).n):=by unfold Ah;rw [if_neg (by rw [ht6];simp),if_pos ht16]
  refine Z2 ?_
  refine R.go (h:=Q.indexAddr (0) (Am (vs.getD 0 noV)) (fun _=>hg0)) (hr:=?_)
  refine Z0 ?_;refine R.call Tryz.call198 (ADh _ _) ?_;refine Zh ?_;exact Z74
 refine gr ?_;refine G.buildSl jU jS jZ ?_
 refine G.call Tryz.call196 (C:=((e.op==4)==true)) (fun hB=>qh vs [3] (by have:=h.one (.inr (by simpa using hB));simp [this]) (by simp) _) ?_
 refine Z0 ?_;refine R.fin [1,2,4,35] ?_
 refine W.cond (fun ht35=>?_) (fun ht35=>?_)
 ·have hm0:((e.op==4)&&C8 vs [3])=true:=ht35
  have hop:e.op=4:=by simp only [Bool.and_eq_true,beq_iff_eq] at hm0;exact hm0.1
  have hln:=h.one (.inr hop)
  have hg0:(vs.map Am)[0]? = some (Am (vs.getD 0 noV)):=by rw [ut (by omega)];exact An (by omega)
  have hm:Ah e.op e.text vs=(Fl ((vs.getD 0 noV).n==0),0):=by unfold Ah;rw [if_neg (by rw [ht6];simp),if_neg (by rw [ht16];simp),if_pos ht35]
  refine Z2 ?_
  refine R.go (h:=Q.indexAddr (0) (Am (vs.getD 0 noV)) (fun _=>hg0)) (hr:=?_)
  refine Z29 ?_;refine R.call Tryz.call154 (Zv _ _) ?_;exact Z74
 refine Z19 ?_;refine R.fin [1,2,4,50] ?_
 refine W.cond (fun ht50=>?_) (fun ht50=>?_)
 ·have hm:Ah e.op e.text vs=C1 10:=by unfold Ah;rw [if_neg (by rw [ht6];simp),if_neg (by rw [ht16];simp),if_neg (by rw [ht35];simp),if_pos ht50]
  refine Se ?_;exact Z74
 have hop:e.op=6:=by simpa using ht50
 have hcl:=h.call hop
 refine Z19 ?_;refine R.fin [1,2,4,57] ?_
 refine W.cond (fun ht57=>?_) (fun ht57=>?_)
 ·rw [List.length_map] at ht57
  have hln:vs.length=1:=by have:=ht57;simp only [beq_iff_eq] at this;omega
  have hg0:(vs.map Am)[0]? = some (Am (vs.getD 0 noV)):=by rw [ut (by omega)];exact An (by omega)
  have hf0:Fine (vs.getD 0 noV):=by rw [ut (by omega)];exact h.fine _ (List.getElem_mem _)
  have hm:Ah e.op e.text vs=Fp e.text (vs.getD 0 noV):=by unfold Ah;rw [if_neg (by rw [ht6];simp),if_neg (by rw [ht16];simp),if_neg (by rw [ht35];simp),if_neg (by rw [ht50];simp),if_pos ht57]
  refine W.drawQ [0,1,0,4,12,31,63,63,255,511] 8 Aa (by kernel_rfl) ?_;refine Z37 ?_
  refine D.go (h:=Q.indexAddr (0) (Am (vs.getD 0 noV)) (fun _=>hg0)) (hr:=?_)
  refine D.go ?_;refine D.call Tryz.call199 (ADv _ _ hf0 _) ?_;refine Z72 ?_;exact Z74
 rw [List.length_map] at ht57
 obtain ⟨a,b,rfl⟩:∃a b,vs=[a,b]:=by
  rcases hcl with h1|h1
  ·exfalso
   have:=ht57
   rw [h1] at this
   simp at this
  exact h1
 refine Z2 ?_;refine R.buildSl jU jS jZ ?_;refine R.call Tryz.call196 (qh [a,b] [2,1] (by simp) (by simp) _) ?_;refine Z0 ?_;refine R.fin [1,2,4,69] ?_
 refine W.cond (fun ht69=>?_) (fun ht69=>?_)
 ·have hm:Ah e.op e.text [a,b]=C1 10:=by unfold Ah;rw [if_neg (by rw [ht6];simp),if_neg (by rw [ht16];simp),if_neg (by rw [ht35];simp),if_neg (by rw [ht50];simp),if_neg (by rw [ht57];simp),if_pos ht69]
  refine Se ?_;exact Z74
 have hm:Ah e.op e.text [a,b]=(Kg e.text a.s b.n,0):=by unfold Ah;rw [if_neg (by rw [ht6];simp),if_neg (by rw [ht16];simp),if_neg (by rw [ht35];simp),if_neg (by rw [ht50];simp),if_neg (by rw [ht57];simp),if_neg (by rw [ht69];simp)];rfl
 refine Z18 ?_;refine W.drawQ [0,1,0,4,12,28,0,64,192,448,1023,2047,4095] 10 Aa (by kernel_rfl) ?_;refine Z37 ?_
 refine D.go (h:=Q.indexAddr (0) (Am a) (fun _=>show ([Am a,Am b]:List AV)[0]? = some (Am a) from rfl)) (hr:=?_)
 refine Z37 ?_
 refine D.go (h:=Q.indexAddr (1) (Am b) (fun _=>show ([Am a,Am b]:List AV)[1]? = some (Am b) from rfl)) (hr:=?_)
 refine Z72 ?_
 refine R.call Tryz.call200 (ADu e.text a.s b.n (by have:=(h.fine a (by simp)).len;omega) _) ?_
 exact Z50

theorem L1 (a b:Val):((a.kind==b.kind&&a.n==b.n)&&a.s==b.s)=(a==b):=by
 obtain ⟨k,n,s⟩:=a
 obtain ⟨k',n',s'⟩:=b
 by_cases h:(⟨k,n,s⟩:Val)=⟨k',n',s'⟩
 ·injection h with h1 h2 h3
  subst h1;subst h2;subst h3
  simp
 have:((⟨k,n,s⟩:Val)==⟨k',n',s'⟩)=false:=by simpa using h
 rw [this]
 simp only [Bool.and_eq_false_iff,beq_eq_false_iff_ne]
 by_cases h1:k=k'
 ·by_cases h2:n=n'
  ·right
   rintro rfl
   exact h (by rw [h1,h2])
  exact .inl (.inr h2)
 exact .inl (.inl h1)
/-- What eval answers for a tree, over any heap. -/
abbrev H5 (c:List Col) (l:List Val) (e:Expr) (r:Rs):Prop:=∀Hp,AFun Tryz.prog 123 [Rx c l,A5 e] Hp (O9 r)
theorem c173 (c:List Col) (l:List Val) (x:Expr) (r:Rs) (h:H5 c l x r) (Hp:List AObj):AFun Tryz.prog 173 [Rx c l,A5 x] Hp (O9 (Af r)):=by
 refine ACall.body [.cell 4 63,.tmp 5] [0,1] Tryz.func173 Tryz.ntmps173 (fun d=>?_)
 refine Z1 ?_;refine s9 ?_;refine Z1 ?_;refine R.call Tryz.call123 (h _) ?_;refine gm ?_;refine R.fin [4,6,7] ?_;refine Z30 ?_;refine Z97 ?_;refine V0 ?_;refine R.fin [4,6,7,25] ?_
 refine W.cond (fun ht25=>?_) (fun ht25=>?_)
 ·have hm:Af r=C1 10:=if_pos ht25
  refine Se ?_;exact gi
 have hm:Af r=r:=if_neg (by rw [ht25];simp)
 refine Sg ?_;exact Z50

theorem ABk (c:List Col) (l:List Val) (x k0 k1:Expr) (s:Val) (ra rb:Rs) (h0:(x.kids.map A5)[0]? = some (A5 k0)) (h1:(x.kids.map A5)[1]? = some (A5 k1)) (ha:H5 c l k0 ra) (hb:H5 c l k1 rb) (Hp:List AObj):AFun Tryz.prog 153 [Rx c l,A5 x,Am s] Hp (O9 (Fj s ra rb)):=by
 refine ACall.body [.cell 6 63,.tmp 7] [0,1,2] Tryz.func153 Tryz.ntmps153 (fun d=>?_)
 refine Z13 ?_;refine Z67 ?_;refine R.fin [3,4,5,6] ?_;refine W.drawY [0,0,2,6,14,31,63,127,127,0,767,2047] [9,10] [.q 9 [] [],.s [8] (some 0) [] [1],.s [] (some 1) [0] []] (fun _=>Hp) (fun B=>if B 0=true then [.cells 63 [A2 0,A2 0,A9 []],(if B 1=true then .cells 63 [A2 (Af ra).1.kind,A2 (Af ra).1.n,A9 (Af ra).1.s] else .cells 63 [A2 0,A2 0,A9 []]:AObj)] else [.cells 63 [A2 0,A2 0,A9 []]]) Aa (by kernel_rfl) rfl rfl (fun _=>rfl) ?_
 apply Y.q
 case h1 =>
  intro B hT hF
  refine Z37 ?_
  refine D.go (h:=Q.indexAddr (0) (A5 k0) (fun _=>h0)) (hr:=?_)
  refine D.go ?_;exact AA0
 case hTF=>decide
 refine Z53 ?_;refine zb ?_;refine R.fin [3,4,5,6,8,9] ?_;refine Z30 ?_;refine Z9 ?_
 refine G.go (h:=Q.eqlAgg Si (fun w=>G8 (Af ra).1.kind (Af ra).1.n s.kind s.n (Af ra).1.s s.s w)) (hr:=?_)
 refine R.go ?_;refine R.fin [3,4,5,6,8,9,26] ?_
 refine W.cond (fun ht26=>?_) (fun ht26=>?_)
 ·rw [L1] at ht26
  have hm:Fj s ra rb=Af ra:=if_pos ht26
  refine Z1 ?_;refine Uy ?_;exact Z28
 rw [L1] at ht26
 refine Z6 ?_;refine W.drawY [0,0,2,6,14,31,63,127,127,0,767,2047] [9,10] [.q 9 [] [],.s [10] (some 0) [] [1],.s [] (some 1) [0] []] (fun _=>Hp) (fun B=>if B 0=true then [.cells 63 [A2 0,A2 0,A9 []],.cells 63 [A2 (Af ra).1.kind,A2 (Af ra).1.n,A9 (Af ra).1.s],(if B 1=true then .cells 63 [A2 (Af rb).1.kind,A2 (Af rb).1.n,A9 (Af rb).1.s] else .cells 63 [A2 0,A2 0,A9 []]:AObj)] else [.cells 63 [A2 0,A2 0,A9 []],.cells 63 [A2 (Af ra).1.kind,A2 (Af ra).1.n,A9 (Af ra).1.s]]) Aa (by kernel_rfl) rfl rfl (fun _=>rfl) ?_
 apply Y.q
 case h1 =>
  intro B hT hF
  refine Z37 ?_
  refine D.go (h:=Q.indexAddr (1) (A5 k1) (fun _=>h1)) (hr:=?_)
  refine D.go ?_;refine D.call Tryz.call173 (c173 c l k1 rb hb _) ?_;exact rt
 case hTF=>decide
 refine Y.alloc (zs:=[A2 0,A2 0,A9 []]) (n:=2) (u:=Hp.length) Tryz.zeroValue63 (fun B hT hF hB=>⟨rfl,by simp [hB],by simp [upd,hB,hF 1 (by simp)],rfl⟩) ?_;refine Y.storeOwnT (u:=Hp.length) (n:=2) (t':=63) (cs:=[A2 0,A2 0,A9 []]) (cs':=[A2 (Af rb).1.kind,A2 (Af rb).1.n,A9 (Af rb).1.s]) Tryz.sizeOf63 (fun B hT hF hB=>⟨rfl,by simp [hT 0 (by simp),hB],by simp [upd,hT 0 (by simp),hB],rfl⟩) ?_;refine Y.tail (tn:=[9,10]) (O:=[.cells 63 [A2 0,A2 0,A9 []],.cells 63 [A2 (Af ra).1.kind,A2 (Af ra).1.n,A9 (Af ra).1.s],.cells 63 [A2 (Af rb).1.kind,A2 (Af rb).1.n,A9 (Af rb).1.s]]) ?_;refine R.go ?_;refine R.fin [5,6,8,9,10] ?_;refine Z30 ?_;refine Z9 ?_
 refine G.go (h:=Q.eqlAgg Si (fun w=>G8 (Af rb).1.kind (Af rb).1.n s.kind s.n (Af rb).1.s s.s w)) (hr:=?_)
 refine Z0 ?_;refine V0 ?_;refine R.fin [6,8,9,10,49] ?_
 refine W.cond (fun ht49=>?_) (fun ht49=>?_)
 ·rw [L1] at ht49
  have hm:Fj s ra rb=Af rb:=by unfold Fj;rw [if_neg (by rw [ht26];simp),if_pos ht49]
  refine Z1 ?_;refine Uy ?_;exact Z28
 rw [L1] at ht49
 have hm:Fj s ra rb=((Af ra).1,0):=by unfold Fj;rw [if_neg (by rw [ht26];simp),if_neg (by rw [ht49];simp)]
 refine Z99 ?_;exact zj

theorem ADx (c:List Col) (l:List Val) (x k0 k1 k2:Expr) (ra rb d2:Rs) (h0:(x.kids.map A5)[0]? = some (A5 k0)) (h1:(x.text==B2)=false→(x.kids.map A5)[1]? = some (A5 k1)) (h2:(x.text==ifW)=true→(x.kids.map A5)[2]? = some (A5 k2)) (ha:H5 c l k0 ra) (hb:(x.text==B2)=false→H5 c l k1 rb) (hd:(x.text==ifW)=true→H5 c l k2 d2) (Hp:List AObj):AFun Tryz.prog 155 [Rx c l,A5 x] Hp (O9 (Df x.text ra rb d2)):=by
 refine ACall.body [.cell 4 63,.tmp 5] [0,1] Tryz.func155 Tryz.ntmps155 (fun d=>?_)
 refine Z1 ?_;refine s9 ?_;refine Z30 ?_;refine R.fin [2,3,4,12] ?_
 refine W.cond (fun ht12=>?_) (fun ht12=>?_)
 ·have hni:(x.text==B2)=false:=by
   have e:x.text=ifW:=by simpa [ifW] using ht12
   rw [e];rfl
  have hc:Df x.text ra rb d2=(if (Af ra).2 != 0 then C1 (Af ra).2 else if (Af ra).1==Fl true then rb else d2):=if_pos ht12
  refine W.drawY [0,0,2,6,14,31,63,127,127,0,767,2047] [9,10] [.q 9 [] [],.s [6] (some 0) [] [1],.s [] (some 1) [0] []] (fun _=>Hp) (fun B=>if B 0=true then [.cells 63 [A2 0,A2 0,A9 []],(if B 1=true then .cells 63 [A2 (Af ra).1.kind,A2 (Af ra).1.n,A9 (Af ra).1.s] else .cells 63 [A2 0,A2 0,A9 []]:AObj)] else [.cells 63 [A2 0,A2 0,A9 []]]) Aa (by kernel_rfl) rfl rfl (fun _=>rfl) ?_
  apply Y.q
  case h1 =>
   intro B hT hF
   refine Z37 ?_
   refine D.go (h:=Q.indexAddr (0) (A5 k0) (fun _=>h0)) (hr:=?_)
   refine D.go ?_;exact AA0
  case hTF=>decide
  refine Z53 ?_;refine zb ?_;refine R.fin [2,3,4,6,7] ?_;refine Wm ?_;refine R.fin [2,3,4,6,7,22] ?_
  refine W.cond (fun ht22=>?_) (fun ht22=>?_)
  ·have hm:Df x.text ra rb d2=C1 (Af ra).2:=by rw [hc,if_pos ht22]
   refine Z2 ?_;refine Z42 ?_;refine Z38 ?_;refine Z5 ?_;exact Z28
  refine W.drawQ [0,0,3,7] 2 Aa (by kernel_rfl) ?_;refine D.go ?_;refine D.call Tryz.call154 (Zv true _) ?_;refine D.tail ?_
  refine R.go (h:=Q.eqlAgg Si (fun w=>G8 (Af ra).1.kind (Af ra).1.n 3 1 (Af ra).1.s [] w)) (hr:=?_)
  refine R.go ?_;refine R.fin [2,3,4,29] ?_
  refine W.cond (fun ht29=>?_) (fun ht29=>?_)
  ·rw [L1 (Af ra).1 ⟨3,1,[]⟩] at ht29
   have ht29b:((Af ra).1==Fl true)=true:=ht29
   have hm:Df x.text ra rb d2=rb:=by rw [hc,if_neg (by rw [ht22];simp),if_pos ht29b]
   refine w9 ?_
   refine D.go (h:=Q.indexAddr (1) (A5 k1) (fun _=>h1 hni)) (hr:=?_)
   refine D.go ?_;refine D.call Tryz.call123 (hb hni _) ?_;refine Z72 ?_;refine Z38 ?_;refine Z5 ?_;exact Z28
  rw [L1 (Af ra).1 ⟨3,1,[]⟩] at ht29
  have hm:Df x.text ra rb d2=d2:=by rw [hc,if_neg (by rw [ht22];simp),if_neg (by show ¬((Af ra).1==⟨3,1,[]⟩)=true;rw [ht29];simp)]
  refine Z18 ?_;refine w9 ?_
  refine D.go (h:=Q.indexAddr (2) (A5 k2) (fun _=>h2 ht12)) (hr:=?_)
  refine D.go ?_;refine D.call Tryz.call123 (hd ht12 _) ?_;refine Z72 ?_;exact gi
 have hc:Df x.text ra rb d2=(if ra.2 != 0 then C1 ra.2 else if x.text==B2 then (Fl (ra.1.kind==0),0) else if ra.1.kind != 0 then (ra.1,0) else rb):=if_neg (by show ¬(x.text==ifW)=true;rw [show (x.text==ifW)=false from ht12];simp)
 refine Z6 ?_;refine W.drawY [0,0,2,6,14,31,63,127,127,0,767,2047] [9,10] [.q 9 [] [],.s [8] (some 0) [] [1],.s [] (some 1) [0] []] (fun _=>Hp) (fun B=>if B 0=true then [.cells 63 [A2 0,A2 0,A9 []],(if B 1=true then .cells 63 [A2 ra.1.kind,A2 ra.1.n,A9 ra.1.s] else .cells 63 [A2 0,A2 0,A9 []]:AObj)] else [.cells 63 [A2 0,A2 0,A9 []]]) Aa (by kernel_rfl) rfl rfl (fun _=>rfl) ?_
 apply Y.q
 case h1 =>
  intro B hT hF
  refine Z37 ?_
  refine D.go (h:=Q.indexAddr (0) (A5 k0) (fun _=>h0)) (hr:=?_)
  refine D.go ?_;refine D.call Tryz.call123 (ha _) ?_;exact rt
 case hTF=>decide
 refine AAk ?_;refine Y.storeOwnT (u:=Hp.length) (n:=1) (t':=63) (cs:=[A2 0,A2 0,A9 []]) (cs':=[A2 ra.1.kind,A2 ra.1.n,A9 ra.1.s]) Tryz.sizeOf63 (fun B hT hF hB=>⟨rfl,by simp [hT 0 (by simp),hB],by simp [upd,hT 0 (by simp),hB],rfl⟩) ?_;refine Y.tail (tn:=[9,10]) (O:=[.cells 63 [A2 0,A2 0,A9 []],.cells 63 [A2 ra.1.kind,A2 ra.1.n,A9 ra.1.s]]) ?_;refine R.go ?_;refine R.fin [2,3,4,8,9] ?_;refine Wm ?_;refine R.fin [2,3,4,8,9,58] ?_
 refine W.cond (fun ht58=>?_) (fun ht58=>?_)
 ·have hm:Df x.text ra rb d2=C1 ra.2:=by rw [hc,if_pos ht58]
  refine Z2 ?_;refine Z42 ?_;exact Z74
 refine Z19 ?_;refine R.fin [2,3,4,8,65] ?_
 refine W.cond (fun ht65=>?_) (fun ht65=>?_)
 ·have hm:Df x.text ra rb d2=(Fl (ra.1.kind==0),0):=by rw [hc,if_neg (by rw [ht58];simp),if_pos (show (x.text==B2)=true from ht65)]
  refine Z13 ?_;refine R.call Tryz.call154 (Zv _ _) ?_;exact Z74
 refine Z19 ?_;refine R.fin [2,3,4,8,73] ?_
 refine W.cond (fun ht73=>?_) (fun ht73=>?_)
 ·have hm:Df x.text ra rb d2=(ra.1,0):=by rw [hc,if_neg (by rw [ht58];simp),if_neg (by show ¬(x.text==B2)=true;rw [show (x.text==B2)=false from ht65];simp),if_pos ht73]
  refine Z2 ?_;exact Z74
 have hm:Df x.text ra rb d2=rb:=by rw [hc,if_neg (by rw [ht58];simp),if_neg (by show ¬(x.text==B2)=true;rw [show (x.text==B2)=false from ht65];simp),if_neg (by rw [ht73];simp)]
 refine Z18 ?_;refine w9 ?_
 refine D.go (h:=Q.indexAddr (1) (A5 k1) (fun _=>h1 ht65)) (hr:=?_)
 refine D.go ?_;refine D.call Tryz.call123 (hb ht65 _) ?_;refine Z72 ?_;exact Z50

/-- The first fault of those that were asked. -/
structure AllAt (f:Expr→Rs) (k:List Expr) (x:Nat):Prop where
 le:x≤k.length
 ok:∀(j:Nat) (y:Expr),j<x→k[j]? = some y→((f y).2 != 0)=false
theorem AllAt.bad {f:Expr→Rs} {k:List Expr} {x:Nat} (h:AllAt f k x) (hx:x<k.length) (hb:((f k[x]).2 != 0)=true) (g:List Val→Rs):Ic g (k.map f)=C1 (f k[x]).2:=by
 unfold Ic
 have:(k.map f).find? (fun q=>q.2 != 0)=some ((k.map f)[x]'(by simpa using hx)):=V5 (by simpa using hx) (by simpa using hb) (fun j y hj hy=>by
  rw [List.getElem?_map,Option.map_eq_some_iff] at hy
  obtain ⟨z,hz,rfl⟩:=hy
  exact h.ok j z hj hz)
 rw [this]
 simp
theorem AllAt.all {f:Expr→Rs} {k:List Expr} {x:Nat} (h:AllAt f k x) (hx:k.length≤x) (g:List Val→Rs):Ic g (k.map f)=if (k.take x).any (fun y=>(f y).1.kind==0) then (noV,0) else g ((k.take x).map fun y=>(f y).1):=by
 unfold Ic
 have:(k.map f).find? (fun q=>q.2 != 0)=none:=Nd (fun j y hy=>by
  rw [List.getElem?_map,Option.map_eq_some_iff] at hy
  obtain ⟨z,hz,rfl⟩:=hy
  exact h.ok j z (by have:=(List.getElem?_eq_some_iff.1 hz).1;omega) hz)
 rw [this,List.take_of_length_le hx]
 simp only [List.any_map,List.map_map]
 rfl
theorem AllAt.next {f:Expr→Rs} {k:List Expr} {x:Nat} (h:AllAt f k x) (hx:x<k.length) (hb:((f k[x]).2 != 0)=false):AllAt f k (x+1):=⟨hx,Cn hx h.ok hb⟩
theorem ql (f:Expr→Bool) (k:List Expr) {x:Nat} (h:x<k.length):(k.take (x+1)).any f=((k.take x).any f || f k[x]):=by rw [List.take_succ_eq_append_getElem h,List.any_append];simp
theorem kc (f:Expr→Val) (l:List Expr) {x:Nat} (h:x<l.length):((l.take x).map f).map Am++[Am (f l[x])]=((l.take (x+1)).map f).map Am:=by rw [List.take_succ_eq_append_getElem h,List.map_append,List.map_append];rfl
theorem Y6 {n k:Nat} {own:Bool} {l:List Val}:Low n (.slice own k (l.map Am)):=low_slice.2 fun y hy=>by
 obtain ⟨z,_,rfl⟩:=List.mem_map.1 hy
 simp [or_imp,forall_and]
theorem ADy (c:List Col) (l:List Val) (e:Expr) (hk:e.kids.length≤1048576) (hev:∀y∈e.kids,H5 c l y (B6 c l y)) (hargs:((∀y∈e.kids,(B6 c l y).2=0)→ArgsOk e.op (e.kids.map fun y=>(B6 c l y).1))) (Hp:List AObj):AFun Tryz.prog 156 [Rx c l,A5 e] Hp (O9 (Ic (Ah e.op e.text) (e.kids.map (B6 c l)))):=by
 refine ACall.body [.cell 4 63,.tmp 5] [0,1] Tryz.func156 Tryz.ntmps156 (fun d=>?_)
 refine Z1 ?_;refine s9 ?_;refine Z2 ?_;refine R.fin [2,3,4,6] ?_;refine Cz ?_;refine R.nilSl 6 3 ?_;refine R.go ?_;refine R.fin [2,3,4,6,7] ?_;refine Z48 ?_;refine R.fin [2,3,4,6,7,13,14,15] ?_
 refine AW.loopC (α:=Nat) (fun x=>⟨49,A3 2 (.ro [Ac c,B1 l]) (A3 3 (.ro (E5 e)) (A3 4 (.ptr (oid Hp.length 0) 0) (A3 6 (.slice true 3 (((e.kids.take x).map fun y=>(B6 c l y).1).map Am)) (A3 7 (At ((e.kids.take x).any fun y=>(B6 c l y).1.kind==0)) (A3 13 (.slice false 6 (e.kids.map A5)) (A3 14 (A2 (e.kids.length:Nat)) (A3 15 (A2 (x:Nat)) (fun _=>.any)))))))),Hp,[.cells 63 [A2 0,A2 0,A9 []]],[],none⟩) (fun x=>AllAt (B6 c l) e.kids x) (fun x=>e.kids.length-x) (0) ⟨Nat.zero_le _,fun j y h=>by omega⟩ (StLe.of_eq (by simp)) rfl (fun x hx=>?_)
 refine Z2 ?_;refine R.fin [2,3,4,6,7,13,14,15,16] ?_
 refine W.condX (fun ht16=>?_) (fun ht16=>?_)
 ·have hlt:x<e.kids.length:=by simpa using ht16
  refine Z87 ?_
  refine R.go (h:=Q.indexAddr (x) (A5 e.kids[x]) (fun _=>An hlt)) (hr:=?_)
  refine Q8 ?_;refine R.fin [2,3,4,6,7,9,13,14,15] ?_;refine Z1 ?_;refine R.call Tryz.call123 (hev _ (List.getElem_mem hlt) _) ?_;refine gm ?_;refine R.fin [2,3,4,6,7,10,11,13,14,15] ?_;refine Z31 ?_;refine R.fin [2,3,4,6,7,10,11,13,14,15,26] ?_
  refine W.cond (fun ht26=>?_) (fun ht26=>?_)
  ·have hm:=hx.bad hlt ht26 (Ah e.op e.text)
   refine Z2 ?_;refine Z42 ?_;refine Z38 ?_;refine K.thR ?_;refine Z34 ?_;exact Z28
  refine Sg ?_;refine Z97 ?_;refine R.fin [2,3,4,6,7,10,13,14,15] ?_;refine Za ?_;refine Z71 ?_
  refine R.append jU Tryz.type63 ?_ ?_ ?_
  ·simp only [List.length_map,List.length_take,List.length_cons,List.length_nil,Tryz.t63];omega
  ·simp only [List.length_map,List.length_take,List.length_cons,List.length_nil,Tryz.t63];omega
  refine R.assignT ?_;refine R.fin [2,3,4,6,7,13,14,15] ?_;refine Uz ?_;refine R.fin [2,3,4,6,7,13,14,15] ?_;refine K.lpN (x+1) (hx.next hlt ht26) (by omega) ?_
  simp only [show Tryz.t63.size=3 from rfl,ql _ _ hlt]
  have hvs:((e.kids.take x).map fun y=>(B6 c l y).1).map Am++[.agg [.v (.int .i64 (B6 c l e.kids[x]).1.kind),.v (.int .i64 (B6 c l e.kids[x]).1.n),.v (sv (B6 c l e.kids[x]).1.s)]]=((e.kids.take (x+1)).map fun y=>(B6 c l y).1).map Am:=kc _ _ hlt
  simp only [hvs]
  exact StCut.take (own:=[.cells 63 [A2 0,A2 0,A9 []]]) (fun _=>.refl _) (by repeat (first|exact Aq|refine Ap (by first|exact Di|exact Y6|exact dg|(simp [or_imp,forall_and,oid]<;>omega)) ?_)) (by intro y hy;rw [List.mem_singleton.1 hy];intro z hz;simp only [List.mem_cons,List.not_mem_nil,or_false] at hz;rcases hz with rfl|rfl|rfl<;>simp) (by simp)
 have hxe:e.kids.length≤x:=by simpa using ht16
 have ha:=hx.all hxe (Ah e.op e.text)
 have htk:e.kids.take x=e.kids:=List.take_of_length_le hxe
 have h00:∀y∈e.kids,(B6 c l y).2=0:=fun y hy=>by
  obtain ⟨j,hj⟩:=List.getElem?_of_mem hy
  have:=hx.ok j y (by have:=(List.getElem?_eq_some_iff.1 hj).1;omega) hj
  simpa using this
 have hao:=hargs h00
 rw [←htk] at hao
 refine Z35 ?_;refine Z36 ?_;refine R.fin [3,4,6,42] ?_
 refine W.cond (fun ht42=>?_) (fun ht42=>?_)
 ·have hm:Ic (Ah e.op e.text) (e.kids.map (B6 c l))=(noV,0):=by rw [ha,if_pos ht42]
  refine wo ?_;exact gi
 have hm:Ic (Ah e.op e.text) (e.kids.map (B6 c l))=Ah e.op e.text ((e.kids.take x).map fun y=>(B6 c l y).1):=by rw [ha,if_neg (by rw [ht42];simp)]
 refine Sg ?_;refine R.call Tryz.call174 (ADw e _ hao _) ?_;refine Z0 ?_;exact Z50

theorem U4 {e:Expr} (h:Bi e=true):(e.op=5→e.kids.length=2)∧(e.op=3∨e.op=4→e.kids.length=1)∧(e.op=6→B4 e.text=(e.kids.length:Int))∧(e.op=1∨e.op=2∨e.op=3∨e.op=4∨e.op=5∨e.op=6):=by
 cases Jd h with
 | val v hp h0=>simp [Gm,Expr.op]
 | name t ht=>simp [Bv,Expr.op]
 | neg a=>simp [Dl,Expr.op,Expr.kids]
 | no a=>simp [Dl,Expr.op,Expr.kids]
 | bin t a b ht=>simp [Eg,Expr.op,Expr.kids]
 | call t k ht=>simpa [Expr.op,Expr.kids,Expr.text] using ht
theorem Ex {k:List Expr} {i:Nat} (h:i<k.length):(k.map A5)[i]? = some (A5 (k.getD i Ak))∧k.getD i Ak∈k∧∀(f:Expr→Rs) (d:Rs),(k.map f).getD i d=f (k.getD i Ak):=by
 have e:k.getD i Ak=k[i]:=by rw [List.getD_eq_getElem?_getD,List.getElem?_eq_getElem h];rfl
 rw [e]
 refine ⟨by simp [h],List.getElem_mem h,fun f d=>?_⟩
 rw [List.getD_eq_getElem?_getD,List.getElem?_map,List.getElem?_eq_getElem h]
 rfl
theorem Vm {c:List Col} {l:List Val} {e:Expr} (h1:(e.op==1)=false) (h2:(e.op==2)=false) (h3:((e.op==5)&&(e.text==orW))=false) (h4:((e.op==5)&&(e.text==Vj))=false) (h5:((e.op==6)&&(((e.text==ifW) || (e.text==O1)) || (e.text==B2)))=false):B6 c l e=Ic (Ah e.op e.text) (e.kids.map (B6 c l)):=by
 rw [B6,Xw]
 unfold Is
 rw [h1,h2,h3,h4,h5]
 rfl
theorem uu {c:List Col} {l:List Val} (hf:∀v∈l,Fine v) {e:Expr} (hnd:Bn Bi e=true) (hrg:Bn Do e=true) (hv:Bn Iu e=true) (h5:((e.op==6)&&(((e.text==ifW) || (e.text==O1)) || (e.text==B2)))=false):ArgsOk e.op (e.kids.map fun y=>(B6 c l y).1):=by
 rw [E1,Bool.and_eq_true] at hnd hrg hv
 obtain ⟨k5,k34,k6,_⟩:=U4 hnd.1
 refine ⟨fun h=>?_,fun h=>by rw [List.length_map];exact k34 h,fun h=>?_,fun v hv'=>?_⟩
 ·obtain ⟨a,b,e⟩:=Kz (k5 h)
  rw [e]
  exact ⟨_,_,rfl⟩
 ·rw [List.length_map]
  rw [h] at h5
  simp only [beq_self_eq_true,Bool.true_and,Bool.or_eq_false_iff,beq_eq_false_iff_ne] at h5
  rcases Jf (k6 h) with ⟨_,h⟩|⟨_,h⟩|⟨_,h⟩|⟨e,_⟩|⟨e,_⟩|⟨_,h⟩|⟨_,h⟩|⟨e,_⟩
  ·exact .inl h
  ·exact .inl h
  ·exact .inl h
  ·exact absurd e h5.2
  ·exact absurd e h5.1.2
  ·obtain ⟨a,b,e⟩:=Kz h
   rw [e]
   exact .inr ⟨_,_,rfl⟩
  ·obtain ⟨a,b,e⟩:=Kz h
   rw [e]
   exact .inr ⟨_,_,rfl⟩
  exact absurd e h5.1.1
 obtain ⟨y,hy,rfl⟩:=List.mem_map.1 hv'
 exact O3 hf y ((Dn _ _).1 hv.2 y hy) ((Dn _ _).1 hrg.2 y hy)
theorem P5 (a b d:Rs):Df B2 a b d=Df B2 a (noV,0) (noV,0):=by
 unfold Df
 rw [show (B2==ifW)=false from rfl,show (B2==B2)=true from rfl]
 rfl
theorem bi {t:Str} (h:(t==ifW)=false) (a b d d':Rs):Df t a b d=Df t a b d':=by
 unfold Df
 rw [h]
 rfl
theorem Y7 {t:Str} (h:(t==B2)=true) (a b b' d d':Rs):Df t a b d=Df t a b' d':=by
 have e:t=B2:=by simpa using h
 subst e
 rw [P5,P5 a b' d']
theorem ke {t:Str} {k:List Expr} {f:Expr→Rs} {a:Rs} (h1:(t==B2)=false→1<k.length) (h2:(t==ifW)=true→2<k.length):Df t a ((k.map f).getD 1 (noV,0)) ((k.map f).getD 2 (noV,0))=Df t a (f (k.getD 1 Ak)) (f (k.getD 2 Ak)):=by
 cases hn:t==B2 with
 | true=>exact Y7 hn _ _ _ _ _
 | false =>
  rw [(Ex (h1 hn)).2.2]
  cases hi:t==ifW with
  | true=>rw [(Ex (h2 hi)).2.2]
  | false=>exact bi hi _ _ _ _
theorem ADz (c:List Col) (l:List Val) (hc:OkCols c) (hl:l.length=c.length) (hf:∀v∈l,Fine v):∀(n:Nat) (e:Expr),okE n e→Bn Bi e=true→Bn Do e=true→Bn Iu e=true→H5 c l e (B6 c l e):=by
 intro n
 induction n with
 | zero=>exact fun e h=>h.elim
 | succ n ih =>
 intro e hok hnd hrg hvo Hp
 have hnd0:=hnd
 have hrg0:=hrg
 have hvo0:=hvo
 rw [E1,Bool.and_eq_true] at hnd0 hrg0 hvo0
 have hev:∀y∈e.kids,H5 c l y (B6 c l y):=fun y hy=>ih y (hok.2.2 y hy) ((Dn _ _).1 hnd0.2 y hy) ((Dn _ _).1 hrg0.2 y hy) ((Dn _ _).1 hvo0.2 y hy)
 obtain ⟨k5,k34,k6,_⟩:=U4 hnd0.1
 have hev0:B6 c l e=Is Ah c l e.op e.text e.val (e.kids.map (B6 c l)):=Xw _ _ _ _
 refine ACall.body [.cell 4 63,.tmp 5] [0,1] Tryz.func123 Tryz.ntmps123 (fun d=>?_)
 refine Z1 ?_;refine s9 ?_;refine Z23 ?_;refine Z19 ?_;refine R.fin [2,3,4,7] ?_
 refine W.cond (fun ht7=>?_) (fun ht7=>?_)
 ·have hm:B6 c l e=(e.val,0):=by rw [hev0];unfold Is;rw [if_pos ht7]
  refine Z1 ?_;exact Z74
 refine Z19 ?_;refine R.fin [2,3,4,13] ?_
 refine W.cond (fun ht13=>?_) (fun ht13=>?_)
 ·have hm0:B6 c l e=Ir c l e.text:=by rw [hev0];unfold Is;rw [if_neg (by rw [ht7];simp),if_pos ht13]
  refine Z19 ?_;refine R.call Tryz.call58 (c58 c hc e.text _) ?_;refine R.go ?_;refine R.fin [2,4,6] ?_;refine Z31 ?_;refine R.fin [2,4,6,23] ?_
  refine W.cond (fun ht23=>?_) (fun ht23=>?_)
  ·have hm:B6 c l e=C1 9:=by rw [hm0];exact if_pos (by simpa using ht23)
   refine Se ?_;refine Z38 ?_;refine K.thR ?_;exact Z16
  have hneg:¬(B3 e.text c<0):=by simpa using ht23
  obtain ⟨j,hj,hjc⟩:=Kd hneg
  have hjl:j<l.length:=by omega
  have hm:B6 c l e=(l[j],0):=by
   rw [hm0]
   unfold Ir
   rw [if_neg hneg,hj,Int.toNat_natCast,List.getD_eq_getElem?_getD,List.getElem?_eq_getElem hjl]
   rfl
  rw [hj]
  refine Mb ?_
  refine R.go (h:=Q.indexAddr (j) (Am l[j]) (fun _=>An hjl)) (hr:=?_)
  refine R.go ?_;exact Z74
 refine Z19 ?_;refine Z97 ?_;refine R.fin [2,3,4,32] ?_
 refine W.cond (fun ht32=>?_) (fun ht32=>?_)
 ·have h32:((e.op==5)&&(e.text==orW))=true:=ht32
  have hop:e.op=5:=by simp only [Bool.and_eq_true,beq_iff_eq] at h32;exact h32.1
  have hkl:=k5 hop
  have hm:B6 c l e=Fj (Fl true) (B6 c l (e.kids.getD 0 Ak)) (B6 c l (e.kids.getD 1 Ak)):=by rw [hev0];unfold Is;rw [if_neg (by rw [ht7];simp),if_neg (by rw [ht13];simp),if_pos h32,(Ex (by omega)).2.2,(Ex (by omega)).2.2]
  refine AA7 ?_;refine D.call Tryz.call154 (Zv _ _) ?_;refine D.call Tryz.call153 (ABk c l e (e.kids.getD 0 Ak) (e.kids.getD 1 Ak) (Fl true) _ _ (Ex (by omega)).1 (Ex (by omega)).1 (hev _ (Ex (by omega)).2.1) (hev _ (Ex (by omega)).2.1) _) ?_;refine Z72 ?_;exact Z74
 have h32:((e.op==5)&&(e.text==orW))=false:=ht32
 refine Z19 ?_;refine Z97 ?_;refine R.fin [2,3,4,47] ?_
 refine W.cond (fun ht47=>?_) (fun ht47=>?_)
 ·have h47:((e.op==5)&&(e.text==Vj))=true:=ht47
  have hop:e.op=5:=by simp only [Bool.and_eq_true,beq_iff_eq] at h47;exact h47.1
  have hkl:=k5 hop
  have hm:B6 c l e=Fj (Fl false) (B6 c l (e.kids.getD 0 Ak)) (B6 c l (e.kids.getD 1 Ak)):=by rw [hev0];unfold Is;rw [if_neg (by rw [ht7];simp),if_neg (by rw [ht13];simp),if_neg (by rw [h32];simp),if_pos h47,(Ex (by omega)).2.2,(Ex (by omega)).2.2]
  refine AA7 ?_;refine D.call Tryz.call154 (Zv _ _) ?_;refine D.call Tryz.call153 (ABk c l e (e.kids.getD 0 Ak) (e.kids.getD 1 Ak) (Fl false) _ _ (Ex (by omega)).1 (Ex (by omega)).1 (hev _ (Ex (by omega)).2.1) (hev _ (Ex (by omega)).2.1) _) ?_;refine Z72 ?_;exact Z74
 have h47:((e.op==5)&&(e.text==Vj))=false:=ht47
 refine Z19 ?_;refine Z95 ?_;refine Z95 ?_;refine Z9 ?_;refine Z97 ?_;refine R.fin [2,3,4,62] ?_
 refine W.cond (fun ht62=>?_) (fun ht62=>?_)
 ·have h62:((e.op==6)&&(((e.text==ifW) || (e.text==O1)) || (e.text==B2)))=true:=ht62
  obtain ⟨hkl,hl1,hl2⟩:0<e.kids.length∧((e.text==B2)=false→1<e.kids.length)∧((e.text==ifW)=true→2<e.kids.length):=by
   have h:=h62
   simp only [Bool.and_eq_true,Bool.or_eq_true,beq_iff_eq] at h
   have ha:=k6 h.1
   rcases h.2 with (h1|h1)|h1
   ·rw [h1] at ha ⊢
    have:e.kids.length=3:=by
     have:B4 ifW=3:=by kernel_rfl
     omega
    exact ⟨by omega,fun _=>by omega,fun _=>by omega⟩
   ·rw [h1] at ha ⊢
    have:e.kids.length=2:=by
     have:B4 O1=2:=by kernel_rfl
     omega
    exact ⟨by omega,fun _=>by omega,fun h=>absurd h (by decide)⟩
   rw [h1] at ha ⊢
   have:e.kids.length=1:=by
    have:B4 B2=1:=by kernel_rfl
    omega
   exact ⟨by omega,fun h=>absurd h (by decide),fun h=>absurd h (by decide)⟩
  have hm:B6 c l e=Df e.text (B6 c l (e.kids.getD 0 Ak)) (B6 c l (e.kids.getD 1 Ak)) (B6 c l (e.kids.getD 2 Ak)):=by
   rw [hev0]
   unfold Is
   rw [if_neg (by rw [ht7];simp),if_neg (by rw [ht13];simp),if_neg (by rw [h32];simp),if_neg (by rw [h47];simp),if_pos h62,(Ex hkl).2.2]
   exact ke hl1 hl2
  refine Z1 ?_;refine R.call Tryz.call155 (ADx c l e (e.kids.getD 0 Ak) (e.kids.getD 1 Ak) (e.kids.getD 2 Ak) _ _ _ (Ex (by omega)).1 (fun h=>(Ex (hl1 h)).1) (fun h=>(Ex (hl2 h)).1) (hev _ (Ex (by omega)).2.1) (fun h=>hev _ (Ex (hl1 h)).2.1) (fun h=>hev _ (Ex (hl2 h)).2.1) _) ?_;refine Z0 ?_;exact Z74
 have h62:((e.op==6)&&(((e.text==ifW) || (e.text==O1)) || (e.text==B2)))=false:=ht62
 have hm:=Vm (c:=c) (l:=l) ht7 ht13 h32 h47 h62
 refine Zi ?_;refine R.call Tryz.call156 (ADy c l e hok.2.1 hev (fun _=>uu hf hnd hrg hvo h62) _) ?_;refine Z0 ?_;exact Z50

def Lg (l:List Val):Bool:=decide ((50:Int)<(l.length:Int)) || l.any fun v=>decide ((400:Int)<(v.s.length:Int))
theorem c33 (l:List Val) (Hp:List AObj):AFun Tryz.prog 33 [B1 l] Hp (At (Lg l)):=by
 refine ACall.body [.tmp 2] [0] Tryz.func33 Tryz.ntmps33 (fun d=>?_)
 refine Wo ?_;refine R.fin [0,6] ?_
 refine W.cond (fun ht6=>?_) (fun ht6=>?_)
 ·rw [List.length_map] at ht6
  have hm:Lg l=true:=by unfold Lg;rw [ht6];rfl
  exact s8
 rw [List.length_map] at ht6
 have hl50:l.length≤50:=by simp at ht6;omega
 refine Q9 ?_;refine Mc ?_
 refine AW.loopC (α:=Nat) (fun x=>⟨20,A3 0 (B1 l) (A3 3 (A2 (x:Nat)) (fun _=>.any)),Hp,[],[],none⟩) (fun x=>x≤l.length∧∀(j:Nat) (v:Val),j<x→l[j]? = some v→decide ((400:Int)<(v.s.length:Int))=false) (fun x=>l.length-x) (0) ⟨Nat.zero_le _,fun j v h=>by omega⟩ (StLe.of_eq (by simp)) rfl (fun x hx=>?_)
 refine Z48 ?_;refine R.fin [0,3,10] ?_
 refine W.cond (fun ht10=>?_) (fun ht10=>?_)
 ·have hlt:x<l.length:=by simpa using ht10
  refine Z86 ?_;refine Z1 ?_
  refine R.go (h:=Q.indexAddr (x) (Am l[x]) (fun _=>An hlt)) (hr:=?_)
  refine Z73 ?_;refine R.fin [0,3,19] ?_
  refine W.cond (fun ht19=>?_) (fun ht19=>?_)
  ·have hm:Lg l=true:=by unfold Lg;rw [Bool.or_eq_true];exact .inr (List.any_eq_true.2 ⟨l[x],List.getElem_mem hlt,ht19⟩)
   refine Z49 ?_;exact Z91
  refine Z18 ?_;refine Z81 ?_
  refine R.go (h:=Q.add64 (h1:=fun _=>by omega) (h2:=fun _=>by omega)) (hr:=?_)
  refine ge ?_;exact zf
 have hxe:l.length≤x:=by simpa using ht10
 have hm:Lg l=false:=by
  unfold Lg
  rw [ht6,Bool.false_or,List.any_eq_false]
  intro v hv
  obtain ⟨j,hj⟩:=List.getElem?_of_mem hv
  have:=hx.2 j v (by have:=(List.getElem?_eq_some_iff.1 hj).1;omega) hj
  rw [this]
  simp
 refine Z98 ?_;exact wh

structure RowAt (c:List Col) (l:List Val) (x:Nat):Prop where
 le:x≤l.length
 ok:∀(i:Nat) (v:Val) (y:Col),i<x→l[i]? = some v→c[i]? = some y→C5 v=true∧(v.kind=0∨v.kind=y.kind)
theorem RowAt.next {c:List Col} {l:List Val} {x:Nat} (h:RowAt c l x) (hl:x<l.length) (hc:x<c.length) (hb:((!(C5 l[x])) || ((l[x].kind != 0)&&(l[x].kind != c[x].kind)))=false):RowAt c l (x+1):=⟨hl,fun i v y hi hv hy=>by
 rcases Nat.lt_or_ge i x with h'|h'
 ·exact h.ok i v y h' hv hy
 have e:i=x:=by omega
 subst e
 rw [List.getElem?_eq_getElem hl] at hv
 rw [List.getElem?_eq_getElem hc] at hy
 injection hv with hv
 injection hy with hy
 subst hv
 subst hy
 simp only [Bool.or_eq_false_iff,Bool.not_eq_false',Bool.and_eq_false_iff,bne_eq_false_iff_eq] at hb
 exact ⟨hb.1,hb.2⟩⟩
theorem RowAt.bad {c:List Col} {l:List Val} {x:Nat} (hl:x<l.length) (hc:x<c.length) (hb:((!(C5 l[x])) || ((l[x].kind != 0)&&(l[x].kind != c[x].kind)))=true):E2 c l=false:=by
 cases h:E2 c l with
 | false=>rfl
 | true =>
  obtain ⟨h1,h2⟩:=(row_iff.1 h).2.2 x l[x] c[x] (List.getElem?_eq_getElem hl) (List.getElem?_eq_getElem hc)
  rw [h1] at hb
  simp only [Bool.not_true,Bool.false_or,Bool.and_eq_true,bne_iff_ne] at hb
  omega
theorem c13 (c:List Col) (hc:OkCols c) (l:List Val) (hll:l.length≤1048576) (Hp:List AObj):AFun Tryz.prog 13 [Ac c,B1 l] Hp (At (E2 c l)):=by
 refine ACall.body [.tmp 4] [0,1] Tryz.func13 Tryz.ntmps13 (fun d=>?_)
 refine Z51 ?_;refine Z36 ?_;refine R.call Tryz.call37 (c37 c hc _) ?_;refine Z62 ?_;refine V0 ?_;refine R.fin [0,1,16] ?_
 refine W.cond (fun ht16=>?_) (fun ht16=>?_)
 ·have hm:E2 c l=false:=by
   simp only [List.length_map,Bool.or_eq_true,Bool.not_eq_true',bne_iff_ne,ne_eq] at ht16
   unfold E2
   rcases ht16 with h|h
   ·rw [h];rfl
   rw [show (l.length==c.length)=false by simpa using (show l.length≠c.length by omega)];simp
  exact gh
 have hcl:Mi c=true∧l.length=c.length:=by
  simp only [List.length_map,Bool.or_eq_false_iff,Bool.not_eq_false',bne_eq_false_iff_eq] at ht16
  exact ⟨ht16.1,by omega⟩
 refine Wq ?_;refine R.fin [0,17,18,19] ?_
 refine AW.loopC (α:=Nat) (fun x=>⟨43,A3 0 (Ac c) (A3 17 (B1 l) (A3 18 (A2 (l.length:Nat)) (A3 19 (A2 (x:Nat)) (fun _=>.any)))),Hp,[],[],none⟩) (fun x=>RowAt c l x) (fun x=>l.length-x) (0) ⟨Nat.zero_le _,fun i v y h=>by omega⟩ (StLe.of_eq (by simp)) rfl (fun x hx=>?_)
 refine Z2 ?_;refine R.fin [0,17,18,19,20] ?_
 refine W.condX (fun ht20=>?_) (fun ht20=>?_)
 ·have hlt:x<l.length:=by simpa using ht20
  have hlc:x<c.length:=by omega
  refine Ma ?_
  refine R.go (h:=Q.indexAddr (x) (Am l[x]) (fun _=>An hlt)) (hr:=?_)
  refine Zf ?_;refine R.fin [0,5,6,17,18,19] ?_;refine W.drawQ [0,1,3,7,15,31,63,127,255,511,255,255,3327,7423,15615,32767,65535,131071] 15 Aa (by kernel_rfl) ?_;refine D.go ?_;refine D.call Tryz.call38 (c38 _ _) ?_;refine Z10 ?_;refine Z75 ?_;refine Z75 ?_;refine Z75 ?_;refine Z75 ?_
  refine H.go (h:=Q.indexAddr (x) (B0 c[x]) (fun _=>An hlc)) (hr:=?_)
  refine Z75 ?_;refine D.tail ?_;refine Sf ?_;refine R.fin [0,17,18,19,41] ?_
  refine W.cond (fun ht41=>?_) (fun ht41=>?_)
  ·have hm:=RowAt.bad hlt hlc ht41
   refine Z63 ?_;exact Z91
  refine Z57 ?_;refine R.fin [0,17,18,19] ?_;refine K.lpN (x+1) (hx.next hlt hlc ht41) (by omega) ?_
  exact StCut.take (own:=[]) (fun _=>.refl _) (by repeat (first|exact Aq|refine Ap (by first|exact Y6|exact low_cols|(simp [or_imp,forall_and];done)) ?_)) (by simp) (by simp)
 have hxe:l.length≤x:=by simpa using ht20
 have hm:E2 c l=true:=row_iff.2 ⟨by rw [←Ku];exact hcl.1,hcl.2,fun i v y hv hy=>hx.ok i v y (by have:=(List.getElem?_eq_some_iff.1 hv).1;omega) hv hy⟩
 refine Z35 ?_;exact rq

theorem qm {e:Expr} (h:Bi e=true):Iu e=true:=by
 unfold Iu
 cases Jd h with
 | val v hp h0=>simpa [Gm,Expr.op,Expr.val] using hp
 | name t ht=>rfl
 | neg a=>rfl
 | no a=>rfl
 | bin t a b ht=>rfl
 | call t k ht=>rfl
mutual
theorem dy:∀e:Expr,Bn Bi e=true→Bn Iu e=true
 | .mk o t v k,h=>by
  rw [Bn,Bool.and_eq_true] at h ⊢
  exact ⟨qm h.1,Y8 k h.2⟩
theorem Y8:∀k:List Expr,Ik Bi k=true→Ik Iu k=true
  | [],_=>rfl
  | e::r,h=>by
    rw [Ik,Bool.and_eq_true] at h ⊢
    exact ⟨dy e h.1,Y8 r h.2⟩
 end
theorem qn {c:List Col} {l:List Val} (h:E2 c l=true) (hr:∀v∈l, -9223372036854775808≤v.n∧v.n≤9223372036854775807):∀v∈l,Fine v:=fun v hv=>by
 obtain ⟨i,hi⟩:=List.getElem?_of_mem hv
 obtain ⟨_,h2,h3⟩:=row_iff.1 h
 have hil:=(List.getElem?_eq_some_iff.1 hi).1
 exact ⟨(h3 i v _ hi (List.getElem?_eq_getElem (show i<c.length by omega))).1,(hr v hv).1,(hr v hv).2⟩
theorem c88 (n:Nat) (x:Expr) (hok:okE n x) (hn:n≤1048576) (hrg:Bn Do x=true) (c:List Col) (hc:OkCols c) (l:List Val) (hll:l.length≤1048576) (hlr:∀v∈l, -9223372036854775808≤v.n∧v.n≤9223372036854775807) (Hp:List AObj):AFun Tryz.prog 88 [A5 x,Ac c,B1 l] Hp (O9 (Dt x c l)):=by
 refine ACall.body [.cell 6 63,.tmp 7] [0,1,2] Tryz.func88 Tryz.ntmps88 (fun d=>?_)
 refine Z2 ?_;refine Z67 ?_;refine R.fin [1,2,3,6] ?_;refine Z36 ?_;refine R.call Tryz.call56 (c56 n x hok hn _) ?_;refine Z62 ?_;refine G.call Tryz.call13 (fun hB=>c13 c hc l hll _) ?_;refine Z93 ?_;refine R.fin [1,2,3,6,16] ?_
 refine W.cond (fun ht16=>?_) (fun ht16=>?_)
 ·have hm:Dt x c l=C1 1:=if_pos ht16
  refine Se ?_;refine Uy ?_;exact Z28
 have hm:Dt x c l=B6 c l x:=if_neg (by rw [ht16];simp)
 have hrr:Ax x=true∧E2 c l=true:=by simpa using ht16
 obtain ⟨hr,hrow⟩:=hrr
 refine Sg ?_;refine V3 ?_;refine R.go ?_;refine R.call Tryz.call123 (ADz c l hc (row_iff.1 hrow).2.1 (qn hrow hlr) n x hok (Hz hr) hrg (dy x (Hz hr)) _) ?_;refine Z0 ?_;exact zj

theorem kg {x:Expr} {c:List Col} {l:List Val} (hk:(Fm x c).2=0) (hrow:E2 c l=true):KOk (Fm x c).1 (Dt x c l):=by
 obtain ⟨h1,h2,h3⟩:=pt hk
 rw [h3] at hk ⊢
 rw [ue h1 hrow]
 exact dr hrow (sizeE x) x (Nat.le_refl _) (Hz h1) hk
/-! mig.Parse: the first fault is F0. -/
inductive PR (α:Type) where
 | ok (r:α) (i:Nat)
 | bad (e a:Int)
def PR.bind {α β:Type} (x:PR α) (f:α→Nat→PR β):PR β:=match x with
 | .ok r i=>f r i
 | .bad e a=>.bad e a
def U5 {α:Type} (L:List Tok) (i:Nat) (e:Int):PR α:=.bad e (A7 L i).at_
def isP (L:List Tok) (s:Str) (i:Nat):Bool:=(((A7 L i).kind==5) || ((A7 L i).kind==2))&&((A7 L i).text==s)
def Bw (L:List Tok) (s:Str) (i:Nat):PR Unit:=if isP L s i then .ok () (i+1) else U5 L i 8
def Ep (L:List Tok) (i:Nat):PR Str:=if (A7 L i).kind != 1 then U5 L i 8 else .ok (A7 L i).text (i+1)
def Y9 (L:List Tok) (nm:Str) (j:Nat):PR Col:=if ((A7 L j).kind != 2) || (Il (A7 L j).text==0) then U5 L j 8 else .ok ⟨nm,Il (A7 L j).text⟩ (j+1)
def Gb (L:List Tok) (i:Nat):PR Col:=(Ep L i).bind (Y9 L)
def I3 (L:List Tok) (i:Nat):PR Expr:=if (atM L i).2.2.1 != 0 then .bad (atM L i).2.2.1 (atM L i).2.2.2 else .ok (atM L i).1 (atM L i).2.1.toNat
def C2 (m:Mov) (c:Col):Mov:={ m with give:=m.give++[c] }
def U6 (m:Mov) (x:Expr):Mov:={ m with ahead:=m.ahead++[x] }
def D9 (L:List Tok) (m:Mov) (i:Nat):PR Mov:=(Gb L i).bind fun c j=>(Bw L [61] j).bind fun _ j=>(I3 L j).bind fun x j=>.ok (U6 (C2 m c) x) j
def Lh (L:List Tok) (n:Int) (k:Nat) (i:Nat):Bool:=decide ((k:Int)<n) || ((n==0)&&(decide ((k:Int)<2) || isP L [44] i))
/-- Things with commas between, behind the first k. -/
def Kk (L:List Tok) (n:Int) (one:Mov→Nat→PR Mov):Nat→Nat→Mov→Nat→PR Mov
 | 0,_,m,i=>.ok m i
 | f+1,k,m,i=>if Lh L n k i then (Bw L [44] i).bind fun _ j=>(one m j).bind fun m j=>Kk L n one f (k+1) m j else .ok m i
def Fc (L:List Tok) (n:Int) (one:Mov→Nat→PR Mov) (m:Mov) (i:Nat):PR Mov:=(one m i).bind fun m j=>Kk L n one (L.length+1) 1 m j
def dz:Str:=[98,97,99,107]
def Fq:Str:=[105,110,116,111]
def toW:Str:=[116,111]
def ea (m:Mov) (x:Expr):Mov:={ m with back:=m.back++[x] }
def Mx (L:List Tok) (m:Mov) (i:Nat):PR Mov:=(I3 L i).bind fun x j=>.ok (ea m x) j
def Du (L:List Tok) (m:Mov) (i:Nat):PR Mov:=(Bw L dz i).bind fun _ j=>Fc L m.take.length (Mx L) m j
def H6 (L:List Tok) (m:Mov) (i:Nat):PR Mov:=(Ep L i).bind fun s j=>(Bw L toW j).bind fun _ j=>(Ep L j).bind fun t j=>.ok ⟨m.kind,[s],[⟨t,0⟩],[Bv s],[Bv t]⟩ j
def takeS (m:Mov) (s:Str):Mov:={ m with take:=[s] }
def eb (m:Mov) (s:Str):Mov:={ m with take:=m.take++[s] }
def Li (L:List Tok) (m:Mov) (i:Nat):PR Mov:=(Ep L i).bind fun s j=>.ok (eb m s) j
def Ey (L:List Tok) (m:Mov) (i:Nat):PR Mov:=
 if m.kind==1 then D9 L m i
 else if m.kind==2 then (Ep L i).bind fun s j=>Du L (takeS m s) j
 else if m.kind==3 then H6 L m i
 else if m.kind==4 then (Ep L i).bind fun s j=>(Bw L Fq j).bind fun _ j=>(Fc L 0 (D9 L) (takeS m s) j).bind fun m j=>Du L m j
 else if m.kind==5 then (Fc L 0 (Li L) m i).bind fun m j=>(Bw L Fq j).bind fun _ j=>(D9 L m j).bind fun m j=>Du L m j
 else if m.kind==6 then (D9 L m i).bind fun m j=>Du L (takeS m (m.give.getD 0 ⟨[],0⟩).name) j
 else .ok m i
def migWords:List Str:=[[],[97,100,100],[100,114,111,112],[114,101,110,97,109,101],[115,112,108,105,116],[109,101,114,103,101],[114,101,116,121,112,101]]
def D5 (k:Int):Str:=if (decide (k<1) || decide (6<k))=true then [] else migWords.getD k.toNat []
def Dc (s:Str):Int:=if D5 1==s then 1 else if D5 2==s then 2 else if D5 3==s then 3 else if D5 4==s then 4 else if D5 5==s then 5 else if D5 6==s then 6 else 0
def Gp (L:List Tok) (i:Nat):PR Mov:=
 if ((A7 L i).kind != 2) || (Dc (A7 L i).text==0) then U5 L i 8
 else (Ey L ⟨Dc (A7 L i).text,[],[],[],[]⟩ (i+1)).bind fun m j=>(Bw L [59] j).bind fun _ j=>.ok m j
/-- Moves, behind some. -/
def E4 (L:List Tok):Nat→List Mov→Nat→PR (List Mov)
 | 0,l,i=>.ok l i
 | f+1,l,i=>if (A7 L i).kind != 0 then (if (l.length:Int)==8 then U5 L i 3 else (Gp L i).bind fun m j=>E4 L f (l++[m]) j) else .ok l i
def Ht (L:List Tok):PR (List Mov):=E4 L 9 [] 0
/-- The moves; the fault's code and place. -/
def My (s:Str):List Mov×Int×Int:=
 if (Dg s).2.1 != 0 then ([],(Dg s).2.1,(Dg s).2.2)
 else match Ht (Dg s).1 with
  | .ok l _=>(l,0,0)
  | .bad e a=>([],e,a)
/-! Where the parser of moves comes to. -/
def PR.In {α:Type} (x:PR α) (i n:Nat):Prop:=∀r j,x=.ok r j→i<j∧j<n
theorem PR.bind_ok {α β:Type} {x:PR α} {f:α→Nat→PR β} {r:β} {j:Nat} (h:x.bind f=.ok r j):∃a k,x=.ok a k∧f a k=.ok r j:=by
 cases x with
 | ok a k=>exact ⟨a,k,rfl,h⟩
 | bad e a=>cases h
theorem uv {L:List Tok} {s:Str} {i:Nat} (h:isP L s i=true):(A7 L i).kind≠0:=by
 unfold isP at h
 simp only [Bool.and_eq_true,Bool.or_eq_true,beq_iff_eq] at h
 rcases h.1 with h|h<;>rw [h]<;>decide
theorem D6 {L:List Tok} (hl:TokEnd L) {s:Str} {i:Nat} (hi:i<L.length):(Bw L s i).In i L.length:=by
 intro r j h
 unfold Bw at h
 split at h
 ·rename_i h1
  injection h with _ h
  subst h
  exact ⟨Nat.lt_succ_self i,hl.step hi (uv h1)⟩
 cases h
theorem Ef {L:List Tok} (hl:TokEnd L) {i:Nat} (hi:i<L.length):(Ep L i).In i L.length:=by
 intro r j h
 unfold Ep at h
 split at h
 ·cases h
 rename_i h1
 injection h with _ h
 subst h
 have hk:(A7 L i).kind=1:=by simpa using h1
 exact AAl
theorem uw {L:List Tok} (hl:TokEnd L) {nm:Str} {i:Nat} (hi:i<L.length):(Y9 L nm i).In i L.length:=by
 intro r j h
 unfold Y9 at h
 split at h
 ·cases h
 rename_i h1
 injection h with _ h
 subst h
 have hk:(A7 L i).kind=2:=by simp only [Bool.not_eq_true,Bool.or_eq_false_iff,bne_eq_false_iff_eq] at h1;exact h1.1
 exact AAl
theorem Oa {L:List Tok} (hl:TokEnd L) {i:Nat} (hi:i<L.length):(Gb L i).In i L.length:=by
 intro r j h
 obtain ⟨a,k,h1,h2⟩:=PR.bind_ok h
 obtain ⟨a1,a2⟩:=Ef hl hi _ _ h1
 obtain ⟨b1,b2⟩:=uw hl a2 _ _ h2
 exact ⟨by omega,b2⟩
theorem Ji {L:List Tok} (hl:TokEnd L) (hll:L.length≤500000) {i:Nat} (hi:i<L.length) {x:Expr} {k:Nat} (h:I3 L i=.ok x k):i≤k∧k<L.length:=by
 unfold I3 at h
 split at h
 ·cases h
 rename_i h0
 injection h with _ h
 subst h
 have h0:(atM L i).2.2.1=0:=by simpa using h0
 have hq:=Rf hl (by omega:L.length≤1048576) hi
 unfold atM at h0 ⊢
 split at h0
 ·rename_i h1
  have:(atS L i (atR L i)).code=0:=h0
  rw [this] at h1
  cases h1
 rename_i h1
 rw [if_neg h1]
 have e:(atS L i (atR L i)).i=(atR L i).2.i:=by
  unfold atS
  repeat' split
  all_goals first|rfl|exact failM_i.1
 show i≤((atS L i (atR L i)).i:Int).toNat∧((atS L i (atR L i)).i:Int).toNat<_
 rw [Int.toNat_natCast,e]
 exact ⟨hq.le,hq.lt⟩
/-- A move has no more parts than so many. -/
structure MvLe (m:Mov) (n:Nat):Prop where
 take:m.take.length≤n
 give:m.give.length≤n
 ahead:m.ahead.length≤n
 back:m.back.length≤n
theorem MvLe.mono {m:Mov} {i j:Nat} (h:MvLe m i) (hij:i≤j):MvLe m j:=⟨Nat.le_trans h.take hij,Nat.le_trans h.give hij,Nat.le_trans h.ahead hij,Nat.le_trans h.back hij⟩
/-- What a part of a move comes to. -/
def yo (x:PR Mov) (i n:Nat):Prop:=∀m j,x=.ok m j→i≤j∧j<n∧MvLe m (2*j)
/-- A part of a move that goes on from i. -/
def Su (L:List Tok) (one:Mov→Nat→PR Mov):Prop:=∀m i,MvLe m (2*i-1)→0<i→i<L.length→yo (one m i) i L.length
theorem H7 {L:List Tok} (hl:TokEnd L) (hll:L.length≤500000):Su L (D9 L):=by
 intro m i hm _ hi m' k h
 obtain ⟨c,j,h1,h2⟩:=PR.bind_ok h
 obtain ⟨u,j2,h3,h4⟩:=PR.bind_ok h2
 obtain ⟨x,j3,h5,h6⟩:=PR.bind_ok h4
 injection h6 with h6 h7
 subst h6;subst h7
 have a1:=Oa hl hi _ _ h1
 have a2:=D6 hl a1.2 _ _ h3
 have a3:=Ji hl hll a2.2 h5
 obtain ⟨b1,b2,b3,b4⟩:=hm
 exact ⟨by omega,a3.2,by show m.take.length≤_;omega,by show (m.give++[c]).length≤_;rw [List.length_append,List.length_singleton];omega,by show (m.ahead++[x]).length≤_;rw [List.length_append,List.length_singleton];omega,by show m.back.length≤_;omega⟩
theorem Ry {L:List Tok} (hl:TokEnd L) (hll:L.length≤500000):Su L (Mx L):=by
 intro m i hm h0 hi m' k h
 obtain ⟨x,j,h1,h2⟩:=PR.bind_ok h
 injection h2 with h6 h7
 subst h6;subst h7
 have a3:=Ji hl hll hi h1
 obtain ⟨b1,b2,b3,b4⟩:=hm
 exact ⟨by omega,a3.2,by show m.take.length≤_;omega,by show m.give.length≤_;omega,by show m.ahead.length≤_;omega,by show (m.back++[x]).length≤_;rw [List.length_append,List.length_singleton];omega⟩
theorem Mz {L:List Tok} (hl:TokEnd L):Su L (Li L):=by
 intro m i hm _ hi m' k h
 obtain ⟨s,j,h1,h2⟩:=PR.bind_ok h
 injection h2 with h6 h7
 subst h6;subst h7
 have a1:=Ef hl hi _ _ h1
 obtain ⟨b1,b2,b3,b4⟩:=hm
 exact ⟨by omega,a1.2,by show (m.take++[s]).length≤_;rw [List.length_append,List.length_singleton];omega,by show m.give.length≤_;omega,by show m.ahead.length≤_;omega,by show m.back.length≤_;omega⟩
theorem Hu {L:List Tok} {s:Str} {i:Nat} {u:Unit} {j:Nat} (h:Bw L s i=.ok u j):j=i+1:=by
 unfold Bw at h
 split at h
 ·injection h with _ h;exact h.symm
 cases h
theorem Ya {L:List Tok} (hl:TokEnd L) {n:Int} {one:Mov→Nat→PR Mov} (hP:Su L one):∀(f k:Nat) (m:Mov) (i:Nat),MvLe m (2*i)→0<i→i<L.length→yo (Kk L n one f k m i) i L.length
 | 0,k,m,i,hm,h0,hi=>fun m' j h=>by
  injection h with h1 h2
  subst h1;subst h2
  exact ⟨Nat.le_refl _,hi,hm⟩
 | f+1,k,m,i,hm,h0,hi=>fun m' j h=>by
  rw [Kk] at h
  split at h
  ·obtain ⟨u,j1,h1,h2⟩:=PR.bind_ok h
   obtain ⟨m1,j2,h3,h4⟩:=PR.bind_ok h2
   have e:=Hu h1
   have a1:=D6 hl hi _ _ h1
   obtain ⟨b1,b2,b3⟩:=hP m j1 (hm.mono (by omega)) (by omega) a1.2 _ _ h3
   obtain ⟨c1,c2,c3⟩:=Ya hl hP f (k+1) m1 j2 b3 (by omega) b2 _ _ h4
   exact Zk
  injection h with h1 h2
  subst h1;subst h2
  exact ⟨Nat.le_refl _,hi,hm⟩
theorem N0 {L:List Tok} (hl:TokEnd L) {n:Int} {one:Mov→Nat→PR Mov} (hP:Su L one):Su L (Fc L n one):=by
 intro m i hm h0 hi m' k h
 obtain ⟨m1,j,h1,h2⟩:=PR.bind_ok h
 obtain ⟨b1,b2,b3⟩:=hP m i hm h0 hi _ _ h1
 obtain ⟨c1,c2,c3⟩:=Ya hl hP _ _ m1 j b3 (by omega) b2 _ _ h2
 exact Zk
theorem Ps {L:List Tok} (hl:TokEnd L) (hll:L.length≤500000) {m:Mov} {i:Nat} (hm:MvLe m (2*i)) (hi:i<L.length):yo (Du L m i) i L.length:=by
 intro m' k h
 obtain ⟨u,j,h1,h2⟩:=PR.bind_ok h
 have e:=Hu h1
 have a1:=D6 hl hi _ _ h1
 obtain ⟨c1,c2,c3⟩:=N0 hl (Ry hl hll) m j (hm.mono (by omega)) (by omega) a1.2 _ _ h2
 exact Zk
theorem ki {L:List Tok} (hl:TokEnd L):Su L (H6 L):=by
 intro m i hm h0 hi m' k h
 obtain ⟨s,j,h1,h2⟩:=PR.bind_ok h
 obtain ⟨u,j2,h3,h4⟩:=PR.bind_ok h2
 obtain ⟨t,j3,h5,h6⟩:=PR.bind_ok h4
 injection h6 with h6 h7
 subst h6;subst h7
 have a1:=Ef hl hi _ _ h1
 have a2:=D6 hl a1.2 _ _ h3
 have a3:=Ef hl a2.2 _ _ h5
 exact ⟨by omega,a3.2,by show 1≤_;omega,by show 1≤_;omega,by show 1≤_;omega,by show 1≤_;omega⟩
theorem MvLe.takeS {m:Mov} {n:Nat} (h:MvLe m n) {s:Str} (h1:1≤n):MvLe (takeS m s) n:=⟨h1,h.give,h.ahead,h.back⟩
theorem Vn {L:List Tok} (hl:TokEnd L) (hll:L.length≤500000):Su L (Ey L):=by
 intro m i hm h0 hi m' k h
 unfold Ey at h
 split at h
 ·exact H7 hl hll m i hm h0 hi _ _ h
 split at h
 ·obtain ⟨s,j,h1,h2⟩:=PR.bind_ok h
  have a1:=Ef hl hi _ _ h1
  obtain ⟨c1,c2,c3⟩:=Ps hl hll ((hm.mono (by omega:2*i-1≤2*j)).takeS (by omega)) a1.2 _ _ h2
  exact Zk
 split at h
 ·exact ki hl m i hm h0 hi _ _ h
 split at h
 ·obtain ⟨s,j,h1,h2⟩:=PR.bind_ok h
  obtain ⟨u,j2,h3,h4⟩:=PR.bind_ok h2
  obtain ⟨m1,j3,h5,h6⟩:=PR.bind_ok h4
  have a1:=Ef hl hi _ _ h1
  have a2:=D6 hl a1.2 _ _ h3
  obtain ⟨b1,b2,b3⟩:=N0 hl (H7 hl hll) (takeS m s) j2 ((hm.mono (by omega:2*i-1≤2*j2-1)).takeS (by omega)) (by omega) a2.2 _ _ h5
  obtain ⟨c1,c2,c3⟩:=Ps hl hll b3 b2 _ _ h6
  exact Zk
 split at h
 ·obtain ⟨m1,j,h1,h2⟩:=PR.bind_ok h
  obtain ⟨u,j2,h3,h4⟩:=PR.bind_ok h2
  obtain ⟨m2,j3,h5,h6⟩:=PR.bind_ok h4
  obtain ⟨b1,b2,b3⟩:=N0 hl (Mz hl) m i hm h0 hi _ _ h1
  have e:=Hu h3
  have a2:=D6 hl b2 _ _ h3
  obtain ⟨d1,d2,d3⟩:=H7 hl hll m1 j2 (b3.mono (by omega)) (by omega) a2.2 _ _ h5
  obtain ⟨c1,c2,c3⟩:=Ps hl hll d3 d2 _ _ h6
  exact Zk
 split at h
 ·obtain ⟨m1,j,h1,h2⟩:=PR.bind_ok h
  obtain ⟨d1,d2,d3⟩:=H7 hl hll m i hm h0 hi _ _ h1
  obtain ⟨c1,c2,c3⟩:=Ps hl hll (d3.takeS (by omega)) d2 _ _ h2
  exact Zk
 injection h with h1 h2
 subst h1;subst h2
 exact ⟨Nat.le_refl _,hi,hm.mono (by omega)⟩
/-! The words of moves, and what is parsed from them. -/
/-! Two sources, one behind the other, with a line's end between. -/
/-! The text of moves, and its words. -/
/-! The same where brackets may nest too deep: then 18 is told. -/
/-! How long plan.Text's pieces are. -/
section
variable {O X U:List AObj} {i:Nat} {b y:AObj}
end
end Go.SX.Nb
namespace Go.SX
variable [GI:GlobInv]
open Classical
/-- An object that no memory holds: what is told of a state behind an operation that surely panics. -/
def kj:AObj:=.cells 0 [.agg [.agg []]]
def bot (b:Bool):List AObj:=if b then [kj] else []
theorem yp {G:Gh} {w:World} {i:Nat}:¬ObjRel G w i kj:=fun h=>by
 obtain ⟨u,_,hr⟩:=Ie (y:=.agg [.agg []]) (j:=0) h rfl
 cases hr with
 | agg _ _ vs hn h1 _=>exact absurd (h1 _ (List.mem_singleton.2 rfl)) (by simp [AV.one])
section
variable {P:Program} {d:Nat}
theorem StRel.bot {G:Gh} {st:St} {a:Act} {w:World} (h:StRel d G st a w) (hb:kj∈st.own):False:=by
 obtain ⟨i,hi⟩:=List.getElem?_of_mem (List.mem_append_right st.up hb)
 exact yp (h.heap.obj i _ hi)
theorem Pt {b:Bool} {l:List AObj} (h:b=true):kj∈l++bot b:=by subst h;exact List.mem_append_right _ (List.mem_singleton.2 rfl)
variable {sz:Nat} {dfs:List Nat} {rnd:Option Nat} {l0:List Oper} {up own:(Nat→Bool)→List AObj} {KP:List PanicEntry→St→Prop} {E:List Oper→(Nat→AV)→Prop} {S:List SegY} {l:List Oper} {fr:Nat→AV} {ty:TypeId} {pos:String} {aft:Array Edge} {s:Nat} {T F:List Nat}
/-- What stands behind the operation that panics never runs. -/
theorem Y.bot {W:List Nat} {o:Oper} (hb:∀B:Nat→Bool,(∀p∈T,B p=true)→kj∈own B) (h:ChainY P d l0 sz up own dfs rnd KP E S l (Gi (W.map fun s=>(s,.any)) fr)) (hg:o.guard=none:=by rfl):
  ChainY P d l0 sz up own dfs rnd KP E (.s W none T F::S) (o::l) fr:=by
 refine ⟨_,l,W.map fun s=>(s,.any),rfl,⟨?_,hg,fun B f hT _ _ _ G a w hr=>?_⟩,h⟩
 ·simp [Function.comp_def]
 exact (StRel.bot hr (hb B hT)).elim
theorem Y.endBot {tn:List Nat} {Q:St→Prop} (hb:kj∈own (fun p=>decide (p<tn.length))):ChainY P d l0 sz up own dfs rnd KP (fun l' f=>ARun P d l0.toArray l' ⟨sz,f,up (fun p=>decide (p<tn.length)),own (fun p=>decide (p<tn.length)),dfs,rnd⟩ Q) [] l fr:=
 fun G a w hr=>(StRel.bot hr hb).elim
/-- A call that surely panics. -/
theorem Y.callBad {f0:Operand} {g:FuncId} {xs:List Operand} {ats:Array TypeId} {first caps args:List AV} {pn:Nat} {up0 own0:List AObj} {pp:Value→List AObj→Prop} (hcall:∀args w,(callFunc g args).run P w=.ok (.enter g args) w)
  (hU:∀B:Nat→Bool,B pn=false→up B=up0∧own B=own0) (hA:ACallP P g args (up0++own0) (fun _ _=>False) pp)
  (hpp:∀x U O f,U.length=up0.length→(U++O).length=(up0++own0).length→pp x (U++O)→((∀x∈up0,ObjLow U.length x)→∀x∈U,ObjLow U.length x)∧(∀o∈dfs,(up0++own0)[o]? = some .defs→(U++O)[o]? = some .defs)∧KP (F0 x) ⟨sz,f,U,O,dfs,rnd⟩)
  (h:ChainY P d l0 sz up own dfs rnd KP E S l (A3 s .any fr))
  (hf0:Ae fr f0=.fn (.func g) first caps:=by exact sL0) (ha:first++xs.map (Ae fr)++caps=args:=by exact sL0):
  ChainY P d l0 sz up own dfs rnd KP E (.s [s] (some pn) T F::S) (⟨some s,.call ⟨.value f0,xs.toArray,ats⟩,ty,pos,aft,none⟩::l) fr:=by
 refine ⟨_,l,[(s,.any)],rfl,⟨rfl,rfl,fun B f _ _ hB hf G a w hr=>?_⟩,h⟩
 obtain ⟨e1,e2⟩:=hU B (hB pn rfl)
 rw [e1,e2] at hr ⊢
 have e:first++xs.map (Ae f)++caps=args:=by rw [Z3 hf (fun x hx=>by simp [Op.operands,Call.operands,hx])];exact ha
 have e0:Ae f f0=.fn (.func g) first caps:=by rw [agr hf (by simp [Op.operands,Call.operands])];exact hf0
 have hev:St.ev ⟨sz,f,up0,own0,dfs,rnd⟩ f0=.fn (.func g) first caps:=e0
 have hfr:=hev ▸ hr.eval f0
 generalize hfv:a.eval f0=fv at hfr
 cases hfr with
 | fn _ _ _ _ va vc hna hnc h1 h2 =>
  have hxr:=J2 hr xs
  subst e
  refine Ol (by intro c h;cases h) (Hj hcall hfv) (hA d G w _ (by simp [hna,hnc]) (fun i y u hy hu=>?_) hr.heap hr.tags hr.top) ?_
  ·rw [List.append_assoc] at hy
   rw [Array.append_assoc] at hu
   rcases Nat.lt_or_ge i first.length with hi|hi
   ·rw [List.getElem?_append_left hi] at hy
    rw [Array.getElem?_append_left (by omega)] at hu
    exact (h1 i y u hy hu).lift
   rw [List.getElem?_append_right hi] at hy
   rw [Array.getElem?_append_right (by omega),hna] at hu
   rcases Nat.lt_or_ge (i-first.length) xs.length with hj|hj
   ·rw [List.getElem?_append_left (by simpa using hj)] at hy
    rw [Array.getElem?_append_left (by simpa using hj)] at hu
    exact (hxr _ y u hy hu).lift
   rw [List.getElem?_append_right (by simpa using hj)] at hy
   rw [Array.getElem?_append_right (by simpa using hj)] at hu
   simp only [List.length_map,List.size_toArray] at hy hu
   exact (h2 _ y u hy hu).lift
  rintro e w' (⟨v,G',y,H',rfl,hrep,hH,hT,hk,hlen,hpo⟩|⟨x,G',H',rfl,hH,hT,hk,hlen,hpo⟩)
  ·exact hpo.elim
  have hl':up0.length≤H'.length:=by rw [hlen];simp
  obtain ⟨U,hU'⟩:∃U,U=H'.take up0.length:=⟨_,rfl⟩
  obtain ⟨O,hO⟩:∃O,O=H'.drop up0.length:=⟨_,rfl⟩
  have e1':H'=U++O:=by rw [hU',hO];exact (List.take_append_drop _ _).symm
  have e2':U.length=up0.length:=by rw [hU'];simp;omega
  subst e1'
  obtain ⟨q1,q2,q3⟩:=hpp x U O f e2' hlen hpo
  have h3:=hr.called hH hT hk rfl e2' (fun o ho=>q2 o ho (hr.defsAt o ho)) (q1 (by rw [e2'];exact hr.low))
  exact .inr ⟨_,rfl,_,rfl,_,_,h3,hk.less (Nat.le_succ d),e2',rfl,rfl,rfl,q3⟩
/-- A panic, drawn. -/
theorem Y.panic {x:Operand} {t:TypeId} {vs:List Value} {pn:Nat} (hq:∀B:Nat→Bool,B pn=false→∀f,KP (F0 (.iface t (.agg vs.toArray))) ⟨sz,f,up B,own B,dfs,rnd⟩) (h:ChainY P d l0 sz up own dfs rnd KP E S l fr)
  (hx:Ae fr x=.iface t (.agg (vs.map .v)):=by exact sL0):
  ChainY P d l0 sz up own dfs rnd KP E (.s [] (some pn) T F::S) (⟨none,.panic x,ty,pos,aft,none⟩::l) fr:=by
 refine ⟨_,l,[],rfl,⟨rfl,rfl,fun B f _ _ hB hf G a w hr=>?_⟩,h⟩
 have hxr:=hr.eval x
 have hev:St.ev ⟨sz,f,up B,own B,dfs,rnd⟩ x=.iface t (.agg (vs.map .v)):=by
  show Ae f x=_
  rw [agr hf (by simp [Op.operands])];exact hx
 rw [hev] at hxr
 refine ⟨fun _ _=>trivial,?_⟩
 rw [Oper.semAt_eq _ _ _ (by intro c h;cases h)]
 have he:(execOp a.eval ⟨none,.panic x,ty,pos,aft,none⟩).run P w=.halt (.panic (.iface t (.agg vs.toArray))) w:=by
  show ((do let v ←Instr.panic (a.eval x);pure (.value v)):Sem Next).run P w=_
  rw [Q7 hxr]
  rfl
 rw [he]
 exact ⟨_,rfl,G,_,hr,Keep.refl _ _ _,rfl,rfl,rfl,rfl,hq B (hB pn rfl) f⟩
theorem H8 {U O A B:List AObj} (hl:U.length=A.length) (h:U++O=A++B):A=U∧B=O:=List.append_inj h.symm hl.symm
theorem B8 {U O A B:List AObj} {o:Nat} {x:AObj} (hl:U.length=A.length) (ho:o<A.length) (h:U++O=(A++B).set o x):A.set o x=U∧B=O:=by
 rw [List.set_append_left _ _ ho] at h
 exact List.append_inj h.symm (by simpa using hl.symm)
end
section
variable {P:Program} {d:Nat} {ops:Array Oper}
/-- A call that surely panics. -/
theorem RK.callBad {sz s:Nat} {fr:Nat→AV} {up own:List AObj} {dfs:List Nat} {rnd:Option Nat} {ty:TypeId} {pos:String} {aft:Array Edge} {rest:List Oper} {K:Exit→St→Prop} {f:Operand} {g:FuncId} {xs:List Operand} {ats:Array TypeId} {first caps args:List AV} {pp:Value→List AObj→Prop}
  (hcall:∀args w,(callFunc g args).run P w=.ok (.enter g args) w) (h:ACallP P g args (up++own) (fun _ _=>False) pp)
  (hpp:∀x U O,U.length=up.length→(U++O).length=(up++own).length→pp x (U++O)→((∀x∈up,ObjLow U.length x)→∀x∈U,ObjLow U.length x)∧(∀o∈dfs,(up++own)[o]? = some .defs→(U++O)[o]? = some .defs)∧K (.panic (F0 x)) ⟨sz,fr,U,O,dfs,rnd⟩)
  (hf:Ae fr f=.fn (.func g) first caps:=by exact sL0) (ha:first++xs.map (Ae fr)++caps=args:=by exact sL0) (hs:Nat.blt s sz=true:=by rfl):
  ARunK P d ops (⟨some s,.call ⟨.value f,xs.toArray,ats⟩,ty,pos,aft,none⟩::rest) ⟨sz,fr,up,own,dfs,rnd⟩ K:=RK.callV hcall h (fun _ _ _ _ _ h=>h.elim) hpp hf ha hs
theorem AW.upEq {c:Code} {sz:Nat} {fr:Nat→AV} {up up' own:List AObj} {dfs:List Nat} {rnd:Option Nat} {K:Exit→St→Prop} (e:up=up') (h:AW P d c ⟨sz,fr,up',own,dfs,rnd⟩ K):AW P d c ⟨sz,fr,up,own,dfs,rnd⟩ K:=e ▸ h
end
end Go.SX
namespace Go.SX
variable [GI:GlobInv]
open Classical
section
variable {P:Program} {d:Nat} {st:St} {ty:TypeId} {pos:String} {aft:Array Edge} {gd:Option (Nat×Bool)}
/-- A variable of its own, not laid yet. -/
theorem AOp.allocP {t:TypeId} {z:Value} {k s:Nat} (hz:∀w,(zeroValue t).run P w=.ok z w) (hk:z.cells.size=k) (hs:s<st.sz):
  AOp P d ⟨some s,.alloc t,ty,pos,aft,gd⟩ st (·=st.set s (.cellp k)):=by
 subst hk
 intro G a w h Q'
 let G':Gh:={ G with tag:=fun b o=>if b=w.heap.size∧o<z.cells.size then .tail (.slot d s) else G.tag b o }
 have hfree:∀o,G.tag w.heap.size o=.free:=fun o=>Dx h.tags _ o (Nat.le_refl _)
 have hne:∀b o,G.tag b o≠.free→¬(b=w.heap.size∧o<z.cells.size):=fun b o hb hc=>by rw [hc.1] at hb;exact hb (hfree o)
 have hkeep:∀b o,G.tag b o≠.free→G'.tag b o=G.tag b o:=fun b o hb=>by simp only [G'];rw [if_neg (hne b o hb)]
 have hcell:∀b o,G.tag b o≠.free→(w.alloc (.cells z.cells t)).cell? ⟨b,o,none⟩=w.cell? ⟨b,o,none⟩:=fun b o hb=>by
  refine World.cell?_alloc_old _ _ _ ?_
  show b≠w.heap.size
  rintro rfl
  exact hb (hfree o)
 have T:Turn G w G' (w.alloc (.cells z.cells t)):=by
  refine ⟨fun b o hb=>⟨by rw [hkeep b o (by rw [hb];simp)];exact hb,hcell b o (by rw [hb];simp)⟩,fun b o L hb=>by rw [hkeep b o (by rw [hb];simp)];exact hb,fun b o i hb=>by rw [hkeep b o (by rw [hb];simp)];exact hb,Nat.le_refl _,fun o ho=>rfl,rfl,rfl,rfl,by simp,Still.alloc _ (fun b o hb=>.inl (by simp only [G'];rw [if_neg (by omega)])) (fun i hi=>.inl ⟨hi,rfl⟩)⟩
 have h1:StRel d G' st a (w.alloc (.cells z.cells t)):=by
  refine h.turn (U:=st.up) (O:=st.own) T ⟨fun i x hx=>T.objRel ?_ ?_ (h.heap.obj i x hx) (fun b hb=>?_),h.heap.n,h.heap.inj⟩ rfl h.defsAt ⟨fun b o hb=>?_,fun b o i hb=>?_,fun b o L hb=>?_,h.tags.globKeep T.old⟩ h.low
  ·rw [h.heap.n];exact (List.getElem?_eq_some_iff.1 hx).1
  ·have:=(h.heap.obj i x hx).blt
   show (w.heap.push _)[G.blk i]? = _
   rw [Array.getElem?_push,if_neg (by omega)]
  ·have:=hb.lt
   show (w.heap.push _)[b]? = _
   rw [Array.getElem?_push,if_neg (by omega)]
  ·simp only [G'] at hb
   split at hb
   ·rename_i hc
    obtain ⟨rfl,hlt⟩:=hc
    exact ⟨z.cells[o],by rw [World.cell?_alloc_new];exact Array.getElem?_eq_getElem hlt⟩
   rw [hcell b o hb]
   exact h.tags.ex b o hb
  ·simp only [G'] at hb
   split at hb
   ·cases hb
   rw [World.frozen?_alloc_old]
   ·exact h.tags.obj b o i hb
   show b≠w.heap.size
   rintro rfl
   rw [hfree] at hb;cases hb
  simp only [G'] at hb
  split at hb
  ·rename_i hc
   obtain ⟨rfl,hlt⟩:=hc
   exact World.frozen?_alloc_new _ _ _ _
  rw [World.frozen?_alloc_old]
  ·exact h.tags.tail b o L hb
  show b≠w.heap.size
  rintro rfl
  rw [hfree] at hb;cases hb
 have hrun:(execOp a.eval (⟨some s,.alloc t,ty,pos,aft,gd⟩:Oper)).run P w=.ok (.value (.pointer (some ⟨w.heap.size,0,none⟩))) (w.alloc (.cells z.cells t)):=by
  simp [execOp,Instr.alloc,hz,newVar,newRow]
 refine Bx (by intro c h;cases h) hrun ⟨G',_,h1.put (s:=s) (y:=.cellp z.cells.size) hs ?_,T.keep d,rfl,rfl,rfl,rfl⟩
 exact .cellp _ _ _ ⟨_,rfl,fun o ho=>by simp [G',ho]⟩

/-- It is laid: from now on nobody writes it. -/
theorem AOp.storeP {t:TypeId} {x:Operand} {r k:Nat} {y:AV} (hsz:∀w,(sizeOf t).run P w=.ok k w) (hf:st.fr r=.cellp k) (hx:st.ev x=y) (hk:y.cells.length=k) (hk0:0<k) (h1:y.cells.all AV.one=true):
  AOp P d ⟨none,.store t (.tmp r) x,ty,pos,aft,gd⟩ st (·=st.set r (.ro y.cells)):=by
 intro G a w h Q'
 have hone:∀c∈y.cells,c.one=true:=fun c hc=>List.all_eq_true.1 h1 c hc
 obtain ⟨hc,hcc⟩:=(hx ▸ h.eval x).cells hone
 have hsl:=h.slots r
 rw [hf] at hsl
 generalize hv:a.tmps.getD r undef=v at hsl
 cases hsl with
 | cellp l k b ho =>
  obtain ⟨L,hL,ht⟩:=ho
  injection hL with hL
  subst hL
  let us:=(a.eval x).cells.toList
  have hul:us.length=k:=by simp only [us,Array.length_toList];omega
  have huone:∀u∈us,u.oneCell'=true:=fun u hu=>by
   obtain ⟨j,hj⟩:=List.getElem?_of_mem hu
   have hj':(a.eval x).cells[j]? = some u:=by rw [←Array.getElem?_toList];exact hj
   have hlt:j<y.cells.length:=by rw [←hc];exact (Array.getElem?_eq_some_iff.1 hj').1
   exact (hcc j _ u (List.getElem?_eq_getElem hlt) hj').one (hone _ (List.getElem_mem hlt))
  have hrun0:=run_storeCells_cells (P:=P) b 0 us 0 w (fun j hj=>by
    obtain ⟨u,hu⟩:=h.tags.ex b j (by rw [ht j (by omega)];simp)
    simp only [Nat.add_zero,Nat.zero_add];rw [hu];rfl) (fun j hj=>by simpa using h.tags.tail _ _ _ (ht j (by omega))) huone
  simp only [Nat.add_zero] at hrun0
  let W:=w.setCells b 0 us
  let G':Gh:={ G with tag:=fun b' o=>if b'=b∧o<k then .fix else G.tag b' o }
  have htag:∀b' o,G.tag b' o≠.tail (.slot d r)→G'.tag b' o=G.tag b' o:=fun b' o hb=>by
   simp only [G']
   rw [if_neg]
   rintro ⟨rfl,ho⟩
   exact hb (ht o ho)
  have hout:∀b' o,¬(b'=b∧o<k)→W.cell? ⟨b',o,none⟩=w.cell? ⟨b',o,none⟩:=fun b' o hn =>
   World.cell?_setCells_out _ us 0 w ⟨b',o,none⟩ (fun hb _=>by
    simp only at hb ⊢
    exact .inr (Nat.le_of_not_lt fun h''=>hn ⟨hb,by omega⟩))
  have hcell:∀b' o,G.tag b' o≠.tail (.slot d r)→W.cell? ⟨b',o,none⟩=w.cell? ⟨b',o,none⟩:=fun b' o hb=>hout b' o (fun hn=>hb (by rw [hn.1];exact ht o hn.2))
  have hnb:∀i,i<G.n→G.blk i≠b:=Jj h.heap h.tags (ht 0 hk0)
  have hheap:∀b',b'≠b→W.heap[b']? = w.heap[b']? := fun b' hb=>Ch _ _ _ _ _ hb
  have hsize:W.heap.size=w.heap.size:=Cg _ _ _ _
  have hstill:Still G w G' W:=Still.tags (fun b' hb'=>hheap b' (fun e=>Gs (ht 0 hk0) (e ▸ hb'))) (Nat.le_of_eq hsize.symm) (fun b' o _=>by
   by_cases hc:b'=b∧o<k
   ·exact .inr ⟨_,by rw [hc.1];exact ht o hc.2⟩
   exact .inl (by simp only [G'];rw [if_neg hc])) (fun i hi=>.inl ⟨hi,rfl⟩)
  have hfix:∀b' o,G.tag b' o=.fix→G'.tag b' o=.fix∧W.cell? ⟨b',o,none⟩=w.cell? ⟨b',o,none⟩:=fun b' o hb=>⟨by rw [htag b' o (by rw [hb];simp)];exact hb,hcell b' o (by rw [hb];simp)⟩
  have htail:∀b' o L,L≠.slot d r→G.tag b' o=.tail L→G'.tag b' o=.tail L:=fun b' o L hL hb=>by
   rw [htag b' o (by rw [hb];intro e;injection e with e;exact hL e)];exact hb
  have hobj:∀b' o i,G.tag b' o=.obj i→G'.tag b' o=.obj i:=fun b' o i hb=>by rw [htag b' o (by rw [hb];simp)];exact hb
  have hrep:∀{l:Option Loc} {z:AV} {u:Value},l≠some (.slot d r)→Rep G w l z u→Rep G' W l z u:=fun hl hz =>
   hz.mono (G':=G') hfix (Nat.le_refl _) (fun _ _=>rfl) (fun L hL b' o ht'=>htail b' o L (fun e=>hl (by rw [hL,e])) ht')
  have hkeep:Keep d G w G' W:=⟨hfix,fun b' o e s he ht'=>htail b' o _ (by rintro ⟨⟩;omega) ht',Nat.le_refl _,fun _ _=>rfl,Eh _ _ _ _,Dk _ _ _ _,Cx _ _ _ _,Nat.le_of_eq hsize.symm,hstill⟩
  have hvec:∀j u,us[j]? = some u→W.cell? ⟨b,j,none⟩=some u:=fun j u hu=>by
   have hj:=(List.getElem?_eq_some_iff.1 hu).1
   have hex:∃u',w.cell? ⟨b,j,none⟩=some u':=h.tags.ex b j (by rw [ht j (by omega)];simp)
   obtain ⟨u',hu'⟩:=hex
   have hbk:∃vs e fz,w.heap[b]? = some (.cells vs e fz):=by
    simp only [World.cell?] at hu'
    split at hu'
    ·rename_i vs e fz hb;exact ⟨vs,e,fz,hb⟩
    cases hu'
   obtain ⟨vs,e,fz,hbk⟩:=hbk
   have hlen:0+us.length≤vs.size:=by
    rw [hul,Nat.zero_add]
    rcases Nat.lt_or_ge vs.size k with h'|h'
    ·exfalso
     obtain ⟨u2,hu2⟩:=h.tags.ex b vs.size (by rw [ht _ h'];simp)
     simp [World.cell?,hbk] at hu2
    exact h'
   obtain ⟨vs',b1,b2,b3⟩:=Hi b e fz us 0 w vs hbk hlen
   have b3':=b3 j
   rw [if_pos (by omega)] at b3'
   show (w.setCells b 0 us).cell? ⟨b,j,none⟩=some u
   simp only [World.cell?,b1]
   rw [b3',Nat.sub_zero]
   exact hu
  have hst:StRel d G' (st.set r (.ro y.cells)) a W:=by
   refine ⟨h.size,fun s=>?_,⟨fun i z hz=>?_,h.heap.n,h.heap.inj⟩,h.defs,h.defsAt,h.defsNodup,h.defsGe,⟨fun b' o hb=>?_,fun b' o i hb=>?_,fun b' o L hb=>?_,h.tags.globKeep hstill⟩,h.rnd,h.low,h.top⟩
   ·show Rep G' W _ (A3 r (.ro y.cells) st.fr s) _
    unfold A3
    by_cases hs:s=r
    ·subst hs
     rw [if_pos rfl,hv]
     refine .ro _ _ ⟨b,0,none⟩ (fun j=>(a.eval x).cells.getD j undef) rfl hone (fun j c hj=>?_) (fun j c hj=>?_)
     all_goals
      have hlt:j<y.cells.length:=(List.getElem?_eq_some_iff.1 hj).1
      have hu:(a.eval x).cells[j]? = some ((a.eval x).cells[j]'(by omega)):=Array.getElem?_eq_getElem _
      have e1:(a.eval x).cells.getD j undef=(a.eval x).cells[j]'(by omega):=by rw [Array.getD_eq_getD_getElem?,hu];rfl
      rw [e1]
     ·refine ⟨by simp only [G',Nat.zero_add];rw [if_pos ⟨trivial,by omega⟩],?_⟩
      rw [Nat.zero_add]
      exact hvec j _ (by simp only [us];rw [Array.getElem?_toList];exact hu)
     exact hrep (by simp) (hcc j c _ hj hu)
    rw [if_neg hs]
    exact hrep (by simp;exact fun e=>hs e) (h.slots s)
   ·have hob:=h.heap.obj i z hz
    have hi:i<G.n:=by rw [h.heap.n];exact (List.getElem?_eq_some_iff.1 hz).1
    have hb:=hheap (G.blk i) (hnb i hi)
    cases z with
    | cells t cs =>
     obtain ⟨vs,a1,a2,a3,a4⟩:=hob
     exact ⟨vs,hb.trans a1,a2,fun j y u p q=>hrep (by simp) (a3 j y u p q),fun j hj=>hobj _ _ _ (a4 j hj)⟩
    | loop sta pd fr sz ps asg bd df =>
     obtain ⟨fn,tmps,a1,a2,a3,a4⟩:=hob
     exact ⟨fn,tmps,hb.trans a1,a2,fun s=>hrep (by simp) (a3 s),a4⟩
    | defs=>exact hb.trans hob
    | dead=>exact hb.trans hob
    | bld t e bs=>exact BldRel.turn hob rfl (fun b' o ho=>hobj b' o i ho) hb (fun b' ha=>hheap b' (fun e=>by
      have:=ha.tag h.tags (o:=0) (by rw [e,ht 0 hk0];simp)
      rw [e,ht 0 hk0] at this;cases this))
    | gone =>
     obtain ⟨vs,t,fz,a1,a2⟩:=hob
     exact ⟨vs,t,fz,hb.trans a1,fun j hj=>(hfix _ _ (a2 j hj)).1⟩
   ·by_cases hc:b'=b∧o<k
    ·obtain ⟨rfl,ho⟩:=hc
     exact ⟨us[o]'(by omega),hvec o _ (List.getElem?_eq_getElem _)⟩
    rw [hout b' o hc]
    simp only [G',if_neg hc] at hb
    exact h.tags.ex b' o hb
   ·rw [World.frozen?_setCells]
    simp only [G'] at hb
    split at hb
    ·cases hb
    exact h.tags.obj b' o i hb
   rw [World.frozen?_setCells]
   simp only [G'] at hb
   split at hb
   ·cases hb
   exact h.tags.tail b' o L hb
  have hrun:(execOp a.eval (⟨none,.store t (.tmp r) x,ty,pos,aft,gd⟩:Oper)).run P w=.ok .skip W:=
   Ei hsz (show a.eval (.tmp r)=_ from hv) (by omega) hrun0
  exact Er (by intro c h;cases h) hrun ⟨G',_,hst,hkeep,rfl,rfl,rfl,rfl⟩
end
section
variable {P:Program} {d:Nat} {sz:Nat} {dfs:List Nat} {rnd:Option Nat} {l0:List Oper} {up own:(Nat→Bool)→List AObj} {KP:List PanicEntry→St→Prop} {E:List Oper→(Nat→AV)→Prop} {S:List SegY} {l:List Oper} {fr:Nat→AV} {ty:TypeId} {pos:String} {aft:Array Edge} {s:Nat} {T F:List Nat}
theorem Y.allocP {t:TypeId} {z:Value} {k:Nat} (hz:∀w,(zeroValue t).run P w=.ok z w) (h:ChainY P d l0 sz up own dfs rnd KP E S l (A3 s (.cellp k) fr)) (hk:z.cells.size=k:=by rfl) (hs:Nat.blt s sz=true:=by rfl):
  ChainY P d l0 sz up own dfs rnd KP E (.s [s] none T F::S) (⟨some s,.alloc t,ty,pos,aft,none⟩::l) fr:=by
 refine ⟨_,l,[(s,.cellp k)],rfl,⟨rfl,rfl,fun B f _ _ _ hf=>.of ?_⟩,h⟩
 exact AOp.allocP (st:=⟨sz,f,up B,own B,dfs,rnd⟩) hz hk (by simpa using hs)
theorem Y.storeP {t:TypeId} {x:Operand} {r k:Nat} {y:AV} {ys:List AV} (hsz:∀w,(Go.sizeOf t).run P w=.ok k w) (h:ChainY P d l0 sz up own dfs rnd KP E S l (A3 r (.ro ys) fr))
  (hf:fr r=.cellp k:=by exact sL0) (hx:Ae fr x=y:=by exact sL0) (hc:y.cells=ys:=by exact sL0)
  (hk:ys.length=k:=by rfl) (hk0:0<k:=by decide) (h1:ys.all AV.one=true:=by exact sL2):
  ChainY P d l0 sz up own dfs rnd KP E (.s [r] none T F::S) (⟨none,.store t (.tmp r) x,ty,pos,aft,none⟩::l) fr:=by
 subst hc
 refine ⟨_,l,[(r,.ro y.cells)],rfl,⟨rfl,rfl,fun B f _ _ _ hfr=>.of ?_⟩,h⟩
 have e:f r=fr r:=hfr r (by simp [lk,Ul,Op.operands])
 have ex:Ae f x=y:=by rw [agr hfr (by simp [Op.operands])];exact hx
 exact AOp.storeP (st:=⟨sz,f,up B,own B,dfs,rnd⟩) hsz (e.trans hf) ex hk hk0 h1
end
end Go.SX
