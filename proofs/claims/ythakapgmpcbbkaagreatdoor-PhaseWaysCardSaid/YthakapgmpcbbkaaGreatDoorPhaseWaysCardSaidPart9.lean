/- Texts on the way to this: PhaseWays answers true for whatever it is handed: of any columns, any migration and any events: behind a cut it only comes to the new version; behind an abort, or a failure, only to where it was, with the cause that it had; keys only rise in each phase (up to 100 events, 50 columns, 4000 bytes). (part 9) -/
import Derived.Shelf.Strings.Builder1
import Derived.Lib.ItoaLen
import Derived.Test.YthakapgmpcbbkaaGreatDoorPhaseWaysCardSaidPart8
set_option linter.all false
namespace Go.SX.Nb
open Go Go.SX Go.Proofs
variable [ErrAt]
set_option maxRecDepth 4000
theorem c35 (l:List Col) (hl:l.length≤1000000) (Hp:List AObj):AFun Tryz.prog 35 [Ae l] Hp (Ae l):=by
 refine ACall.body [.tmp 2] [0] Tryz.func35 Tryz.ntmps35 (fun d=>?_)
 refine Z46 ?_;refine Z52 ?_
 refine R.eqlNil jU (by kernel_rfl) (fun b hb=>?_)
 refine R.fin [0,4] ?_
 refine W.cond (fun ht4=>?_) (fun ht4=>?_)
 ·have hl0:l=[]:=by simpa using hb ht4
  subst hl0
  refine Z2 ?_;refine R.nilTmp 2 2 false ?_;refine Z4 ?_;refine K.thR ?_;exact zg
 refine Sx ?_;refine Qi ?_;refine R.go ?_
 refine R.append jU Tryz.type48 ?_ ?_ ?_
 ·simp [Tryz.t48];omega
 ·simp [Tryz.t48];omega
 refine R.assignT ?_;exact ue

theorem rf {Hp:List AObj} {y:Col} {n:Nat} (h:∀x∈Hp,ObjLow Hp.length x):∀x∈Hp++[AObj.cells 48 [],AObj.cells 48 (A8 y.name::A2 y.kind::List.replicate n AV.any)],ObjLow (Hp.length+2) x:=by
 intro x hx
 rcases List.mem_append.1 hx with hx|hx
 ·exact ObjLow.le (by omega) (h x hx)
 simp only [List.mem_cons,List.mem_nil_iff,or_false] at hx
 rcases hx with rfl|rfl
 ·intro z hz;cases hz
 intro z hz
 simp only [List.mem_cons] at hz
 rcases hz with rfl|rfl|hz
 ·simp
 ·simp
 rw [List.eq_of_mem_replicate hz];simp
theorem AEw (y:Col) (Hp:List AObj):ACallO Tryz.prog 35 [Ae [y]] Hp (fun r H'=>∃cc,1≤cc∧r=.sl (oid Hp.length 1) 2 1 cc∧H'=Hp++[.cells 48 [],.cells 48 (A8 y.name::A2 y.kind::List.replicate ((cc-1)*2) AV.any)]):=by
 refine ACallO.body [.tmp 2] [0] Tryz.func35 Tryz.ntmps35 (fun d=>?_)
 refine Z46 ?_;refine Z57 ?_
 refine R.assumeLow (fun hlow=>?_)
 refine R.go ?_
 refine R.eqlNil jU (by kernel_rfl) (fun b hb=>?_)
 refine R.fin [0,4] ?_
 refine W.cond (fun ht4=>?_) (fun ht4=>?_)
 ·exact absurd (hb ht4) (by simp)
 refine Sx ?_;refine R.buildObj0 (n:=0) jU Tryz.sizeOf48 ?_;refine R.go ?_
 refine R.appendObj (k:=2) (n:=1) jU Tryz.type48 (show [Ax y]≠[] by simp) ?_ ?_ (fun cc hcc=>?_)
 ·simp [Tryz.t48]
 ·simp
 have e0:Jq [Ax y]++List.replicate ((cc-[Ax y].length)*2) AV.any=A8 y.name::A2 y.kind::List.replicate ((cc-1)*2) AV.any:=rfl
 rw [e0]
 clear e0
 refine R.go ?_;refine Z4 ?_;exact K.finO 2 (V.tmp (t:=2)) ⟨cc,hcc,rfl,rfl⟩ (hlow:=by simp [oid]) (hobj:=rf hlow)

theorem ACx (c:List Col) (hc:OkCols c) (m:Mov) (h:OkMov m) (h3:(m.kind==3)=false) (Hp:List AObj):AFun Tryz.prog 80 [Ae c,Gu m] Hp (Ae (Ba c m)):=by
 refine ACall.body [.tmp 4] [0,1] Tryz.func80 Tryz.ntmps80 (fun d=>?_)
 refine ja ?_;refine Z1 ?_;refine R.call Tryz.call35 (c35 m.give h.gives2 _) ?_;refine R.go ?_;refine R.fin [0,3,5] ?_;refine Z34 ?_;refine R.fin [0,3,5,12] ?_
 refine W.cond (fun ht12=>?_) (fun ht12=>?_)
 ·rw [h3] at ht12;cases ht12
 refine Z9 ?_;refine Vm ?_;exact K.fin (V.one V.tmp) ⟨by rw [x5 h3]<;>rfl,rfl⟩

theorem ACy (c:List Col) (hc:OkCols c) (m:Mov) (h:OkMov m) (h3:(m.kind==3)=true) (s:Str) (y:Col) (ht:m.take=[s]) (hg:m.give=[y]) (Hp:List AObj):AFun Tryz.prog 80 [Ae c,Gu m] Hp (Ae (Ba c m)):=by
 have hgv:=x6 (c:=c) h3 ht hg
 have hgy:=re (c:=c) h3 ht hg
 obtain ⟨kd,tk,gv,ah,bk⟩:=m
 simp only at ht hg h3
 subst ht hg
 refine ACall.body [.tmp 4] [0,1] Tryz.func80 Tryz.ntmps80 (fun d=>?_)
 refine ja ?_;refine Z1 ?_;refine R.callO Tryz.call35 (AEw y _) ?_
 rintro _ _ ⟨cc,hcc,rfl,rfl⟩
 refine ⟨[.cells 48 [],.cells 48 (A8 y.name::A2 y.kind::List.replicate ((cc-1)*2) AV.any)],by simp,?_⟩
 simp only [List.append_nil,List.nil_append]
 refine R.go ?_;refine R.fin [0,3,5] ?_;refine Z34 ?_;refine R.fin [0,3,5,12] ?_
 refine W.cond (fun ht12=>?_) (fun ht12=>?_)
 ·refine Z18 ?_
  refine R.go (h:=Q.indexAddr (0) (A8 s) (fun _=>rfl)) (hr:=?_)
  refine R.go ?_;refine R.call Tryz.call58 (c58 c hc s _) ?_;refine R.go ?_;refine R.fin [0,5,6] ?_;refine Z1 ?_;refine R.fin [0,5,6,20] ?_
  refine W.cond (fun ht20=>?_) (fun ht20=>?_)
  ·have hf:¬Bj s c<0:=by simp at ht20;omega
   obtain ⟨jj,hjj,hjc⟩:=N9 hf
   refine Z60 ?_
   refine R.go (h:=Q.indexAddr ((Bj s c).toNat) (Ax (c.getD (Bj s c).toNat ⟨[],0⟩)) (fun _=>gg hf)) (hr:=?_)
   refine Z0 ?_;refine R.indexAddrSl (n:=1) 0 jU Tryz.sizeOf48 (by decide) ?_
   refine R.go (h:=Q.fieldAddrPtr (hc:=rfl)) (hr:=?_)
   refine R.storeOwn (y:=A2 (c.getD (Bj s c).toNat ⟨[],0⟩).kind) (ys:=[A2 (c.getD (Bj s c).toNat ⟨[],0⟩).kind]) (n:=1) (cs:=A8 y.name::A2 y.kind::List.replicate ((cc-1)*2) AV.any) (cs':=A8 y.name::A2 (c.getD (Bj s c).toNat ⟨[],0⟩).kind::List.replicate ((cc-1)*2) AV.any) (t':=48) jS ?_ (hc:=rfl) (hput:=rfl) (hfit:=by simp)
   refine R.fin [5] ?_;refine K.thN ?_;refine E0 ?_;refine R.freeze (k:=2) (n:=1) 5 1 [Ax ⟨y.name,(c.getD (Bj s c).toNat ⟨[],0⟩).kind⟩] hcc rfl rfl (Yt [⟨y.name,(c.getD (Bj s c).toNat ⟨[],0⟩).kind⟩]) (Yu [⟨y.name,(c.getD (Bj s c).toNat ⟨[],0⟩).kind⟩]) (S6 [⟨y.name,(c.getD (Bj s c).toNat ⟨[],0⟩).kind⟩]) ?_;exact AB7
  have hf:Bj s c<0:=by simp at ht20;omega
  refine Sx ?_;refine R.freeze (k:=2) (n:=1) 5 1 [Ax ⟨y.name,y.kind⟩] hcc rfl rfl (Yt [⟨y.name,y.kind⟩]) (Yu [⟨y.name,y.kind⟩]) (S6 [⟨y.name,y.kind⟩]) ?_;exact AB7
 rw [h3] at ht12;cases ht12

/-- What a move must have before it is turned. -/
structure MvOk (m:Mov):Prop where
 ok:OkMov m
 ahead:m.ahead.length=m.give.length
 back:m.back.length=m.take.length
 one:(m.kind==3)=true→m.take.length=1∧m.give.length=1
theorem x7 {m:Mov} (h:OkMov m) (hc:C9 m=true):MvOk m:=⟨h,(Eo hc).1,(Eo hc).2,fun h3=>Ki hc (by rw [h3];rfl)⟩
theorem c80 (c:List Col) (hc:OkCols c) (m:Mov) (h:MvOk m) (Hp:List AObj):AFun Tryz.prog 80 [Ae c,Gu m] Hp (Ae (Ba c m)):=by
 cases h3:m.kind==3 with
 | false=>exact ACx c hc m h.ok h3 Hp
 | true =>
  obtain ⟨h1,h2⟩:=h.one h3
  obtain ⟨s,hs⟩:=d8 h1
  obtain ⟨y,hy⟩:=d8 h2
  exact ACy c hc m h.ok h3 s y hs hy Hp
theorem Yv {c:List Col} {m:Mov} (h:OkMov m):OkCols (Ba c m):=by
 refine ⟨by rw [L4];exact Nat.le_trans h.gives2 (by decide),fun y hy=>?_⟩
 unfold Ba at hy
 split at hy
 ·split at hy
  ·exact h.gives.2 y hy
  cases hg:m.give with
  | nil=>rw [hg] at hy;cases hy
  | cons z r =>
   rw [hg] at hy
   rcases List.mem_cons.1 hy with rfl|hy
   ·exact h.gives.2 z (by rw [hg];exact List.mem_cons_self)
   exact h.gives.2 y (by rw [hg];exact List.mem_cons_of_mem _ hy)
 exact h.gives.2 y hy
theorem Yw {c give:List Col} {take:List Str} (hc:OkCols c) (hg:OkCols give) (hg2:give.length≤1000000):OkCols (Cn c take give).1:=by
 have h0:OkCols ([]:List Col):=⟨by decide,fun y hy=>by cases hy⟩
 unfold Cn
 split
 ·exact h0
 rename_i hr
 split
 ·exact h0
 split
 ·exact h0
 split
 ·exact h0
 split
 ·exact h0
 exact px hc (by simpa using hr) hg hg2 rfl
theorem d9 {c give:List Col} {take:List Str} (h:((Cn c take give).2 != 0)=false):∀s∈take,¬Bj s c<0:=by
 have ht:Fp c take=true:=by
  unfold Cn at h
  split at h
  ·cases h
  split at h
  ·cases h
  rename_i ht
  simpa using ht
 intro s hs hf
 obtain ⟨j,hj⟩:=List.getElem?_of_mem hs
 have:=takenM_true.1 ht j s hj
 unfold L3 at this
 rw [show decide (Bj s c<0)=true by simpa using hf] at this
 simp at this
theorem l3 {over:List Col} {l:List Expr} {w:List Col} {x:Nat} (hl:x<l.length) (hw:x<w.length):
  Dg over (l.drop x) (w.drop x)=if Wb l[x] over w[x].kind != 0 then Wb l[x] over w[x].kind else Dg over (l.drop (x+1)) (w.drop (x+1)):=by
 rw [List.drop_eq_getElem_cons hl,List.drop_eq_getElem_cons hw]
 rfl
theorem rg {over:List Col} {l:List Expr} {w:List Col} {x:Nat} (hl:l.length≤x):Dg over (l.drop x) (w.drop x)=0:=by
 rw [List.drop_eq_nil_of_le hl]
 cases w.drop x<;>rfl
theorem Of {α β:Type} {f:α→β} {l:List α} {x:Nat} (h:x<l.length):(l.take (x+1)).map f=(l.take x).map f++[f l[x]]:=by
 rw [List.take_succ_eq_append_getElem h,List.map_append];rfl
theorem x8 {c:List Col} {m:Mov} (h:((Cn c m.take (Ba c m)).2 != 0)=true):Bl c m=([],(Cn c m.take (Ba c m)).2):=if_pos h
theorem x9 {c:List Col} {m:Mov} (h:((Cn c m.take (Ba c m)).2 != 0)=false) (h2:(Dg c m.ahead (Ba c m) != 0)=true):Bl c m=([],Dg c m.ahead (Ba c m)):=by
 unfold Bl;rw [if_neg (by rw [h];simp),if_pos h2]
theorem xa {c:List Col} {m:Mov} (h:((Cn c m.take (Ba c m)).2 != 0)=false) (h2:(Dg c m.ahead (Ba c m) != 0)=false) (h3:(Dg (Cn c m.take (Ba c m)).1 m.back (Jf c m) != 0)=true):Bl c m=([],Dg (Cn c m.take (Ba c m)).1 m.back (Jf c m)):=by
 unfold Bl;rw [if_neg (by rw [h];simp),if_neg (by rw [h2];simp),if_pos h3]
theorem xb {c:List Col} {m:Mov} (h:((Cn c m.take (Ba c m)).2 != 0)=false) (h2:(Dg c m.ahead (Ba c m) != 0)=false) (h3:(Dg (Cn c m.take (Ba c m)).1 m.back (Jf c m) != 0)=false):Bl c m=((Cn c m.take (Ba c m)).1,0):=by
 unfold Bl;rw [if_neg (by rw [h];simp),if_neg (by rw [h2];simp),if_neg (by rw [h3];simp)]
theorem c82 (l:List Expr) (h:OkEs l) (w:List Col) (hw:w.length=l.length) (c:List Col) (hc:OkCols c) (Hp:List AObj):AFun Tryz.prog 82 [Je l,Ae w,Ae c] Hp (A2 (Dg c l w)):=by
 refine ACall.body [.tmp 6] [0,1,2] Tryz.func82 Tryz.ntmps82 (fun d=>?_)
 refine Z2 ?_;refine R.fin [0,1,2] ?_;refine Z34 ?_;refine R.fin [1,2,11,12,13] ?_
 refine AW.loopC (α:=Nat) (fun x=>⟨37,A6 1 (Ae w) (A6 2 (Ae c) (A6 11 (Je l) (A6 12 (A2 (l.length:Nat)) (A6 13 (A2 (x:Nat)) (fun _=>.any))))),Hp,[],[],none⟩) (fun x=>x≤l.length∧Dg c l w=Dg c (l.drop x) (w.drop x)) (fun x=>l.length-x) (0) ⟨Nat.zero_le _,rfl⟩ (StLe.of_eq (by simp)) rfl (fun x hx=>?_)
 refine Z2 ?_;refine R.fin [1,2,11,12,13,14] ?_
 refine W.condX (fun ht14=>?_) (fun ht14=>?_)
 ·have hlt:x<l.length:=by simpa using ht14
  have hlw:x<w.length:=by omega
  have hlen:=h.len
  have hst:=l3 (over:=c) hlt hlw
  refine Mb ?_
  refine R.go (h:=Q.indexAddr (x) (A7 l[x]) (fun _=>Br hlt)) (hr:=?_)
  refine ae ?_;refine Z36 ?_;refine R.fin [1,2,7,8,11,12,13] ?_;refine Z11 ?_;refine R.call Tryz.call116 (ACw 61 l[x] (h.ok _ (List.getElem_mem hlt)) (by decide) c hc _) ?_;refine Z51 ?_;refine R.fin [1,2,7,8,10,11,12,13] ?_;refine Z1 ?_;refine R.fin [1,2,7,8,10,11,12,13,25] ?_
  refine W.cond (fun ht25=>?_) (fun ht25=>?_)
  ·have he:Wb l[x] c w[x].kind=(Kg l[x] c).2:=if_pos ht25
   have hm:Dg c l w=(Kg l[x] c).2:=by rw [hx.2,hst,he,if_pos ht25]
   refine Z1 ?_;refine Z49 ?_;refine K.thR ?_;exact ABo
  refine Z9 ?_;refine W.drawQ [0,0,0,0,12,28,60,127,255] 7 Ac (by kernel_rfl) ?_;refine Vl ?_
  refine D.go (h:=Q.indexAddr (x) (Ax w[x]) (fun _=>Br hlw)) (hr:=?_)
  refine Z14 ?_;refine D.tail ?_;refine R.call Tryz.call117 (AEv 61 l[x] (h.ok _ (List.getElem_mem hlt)) (by decide) c hc w[x].kind _) ?_;refine R.go ?_;refine R.fin [1,2,11,12,13,35] ?_
  refine W.cond (fun ht35=>?_) (fun ht35=>?_)
  ·have he:Wb l[x] c w[x].kind=10:=by unfold Wb;rw [if_neg (by rw [ht25];simp),if_pos ht35]
   have hm:Dg c l w=10:=by rw [hx.2,hst,he];rfl
   refine an ?_;exact ABo
  have he:Wb l[x] c w[x].kind=0:=by unfold Wb;rw [if_neg (by rw [ht25];simp),if_neg (by rw [ht35];simp)]
  have hnx:Dg c l w=Dg c (l.drop (x+1)) (w.drop (x+1)):=by rw [hx.2,hst,he];rfl
  refine Z83 ?_;refine R.fin [1,2,11,12,13] ?_;refine K.lpN (x+1) ⟨hlt,hnx⟩ (by omega) ?_
  exact StCut.take (own:=[]) (fun _=>.refl _) (by repeat (first|exact Az|refine Ay (by first|(simp [or_imp,forall_and];done)|exact Dc) ?_)) (by simp) (by simp)
 have hxe:l.length≤x:=by simpa using ht14
 have hm:Dg c l w=0:=by rw [hx.2,rg hxe]
 refine Z66 ?_;refine Z49 ?_;exact zh

theorem c83 (c:List Col) (hc:OkCols c) (m:Mov) (h:OkMov m) (hf:∀s∈m.take,¬Bj s c<0) (Hp:List AObj):AFun Tryz.prog 83 [Ae c,Gu m] Hp (Ae (Jf c m)):=by
 refine ACall.body [.tmp 4] [0,1] Tryz.func83 Tryz.ntmps83 (fun d=>?_)
 refine ja ?_;refine Z2 ?_;refine R.fin [0,3,5] ?_;refine Z57 ?_;refine R.nilSl 5 2 ?_;refine Z72 ?_;refine R.fin [0,5,9,10,11] ?_
 refine AW.loopC (α:=Nat) (fun x=>⟨26,A6 0 (Ae c) (A6 5 (.slice true 2 (((m.take.take x).map fun s=>c.getD (Bj s c).toNat ⟨[],0⟩).map Ax)) (A6 9 (Em m.take) (A6 10 (A2 (m.take.length:Nat)) (A6 11 (A2 (x:Nat)) (fun _=>.any))))),Hp,[],[],none⟩) (fun x=>x≤m.take.length) (fun x=>m.take.length-x) (0) (Nat.zero_le _) (StLe.of_eq (by simp)) rfl (fun x hx=>?_)
 refine Z2 ?_;refine R.fin [0,5,9,10,11,12] ?_
 refine W.condX (fun ht12=>?_) (fun ht12=>?_)
 ·have hlt:x<m.take.length:=by simpa using ht12
  have htk:=h.takes
  have hfx:=hf _ (List.getElem_mem hlt)
  obtain ⟨jj,hjj,hjc⟩:=N9 hfx
  refine Su ?_
  refine R.go (h:=Q.indexAddr (x) (A8 m.take[x]) (fun _=>Br hlt)) (hr:=?_)
  refine Z0 ?_;refine R.fin [0,5,7,9,10,11] ?_;refine AW.region ?_;refine R.moveT ?_;refine Z23 ?_;refine R.call Tryz.call58 (c58 c hc m.take[x] _) ?_
  refine R.go (h:=Q.indexAddr ((Bj m.take[x] c).toNat) (Ax (c.getD (Bj m.take[x] c).toNat ⟨[],0⟩)) (fun _=>gg hfx)) (hr:=?_)
  refine j6 ?_
  refine R.append jU Tryz.type48 ?_ ?_ ?_
  ·simp only [List.length_map,List.length_take,List.length_cons,List.length_nil,Tryz.t48];omega
  ·simp only [List.length_map,List.length_take,List.length_cons,List.length_nil,Tryz.t48];omega
  refine R.assignT ?_;refine R.fin [0,5,9,10,11] ?_;refine Sy ?_;refine R.fin [0,5,9,10,11] ?_
  refine K.lpN (x+1) hlt (by omega) (StCut.of_eq ?_)
  rw [Of hlt,List.map_append]
  rfl
 have hxe:m.take.length≤x:=by simpa using ht12
 refine Z37 ?_;refine Vm ?_;exact K.fin (V.one V.tmp) ⟨by unfold Jf;rw [List.take_of_length_le hxe]<;>rfl,rfl⟩ (hlow:=Fg)

theorem c55 (c:List Col) (hc:OkCols c) (m:Mov) (h:MvOk m) (Hp:List AObj):AFun Tryz.prog 55 [Ae c,Gu m] Hp (.tup [Ae (Bl c m).1,A2 (Bl c m).2]):=by
 refine ACall.body [.tmp 4,.tmp 5] [0,1] Tryz.func55 Tryz.ntmps55 (fun d=>?_)
 refine Z18 ?_;refine L9 ?_;refine Z1 ?_;refine R.call Tryz.call80 (c80 c hc m h _) ?_;refine R.go ?_;refine R.fin [0,3,6] ?_;refine E0 ?_
 have hg:=Yv (c:=c) h.ok
 have hg2:(Ba c m).length≤1000000:=by rw [L4];exact h.ok.gives2
 refine Z72 ?_;refine R.call Tryz.call81 (c81 c hc m.take h.ok.takes (Ba c m) hg hg2 _) ?_;refine Z51 ?_;refine R.fin [0,3,6,7,8] ?_;refine Z11 ?_;refine R.fin [0,3,6,7,8,23] ?_
 refine W.cond (fun ht23=>?_) (fun ht23=>?_)
 ·have hm:=x8 ht23
  exact ut
 refine Z9 ?_;refine Z91 ?_;refine R.call Tryz.call82 (c82 m.ahead h.ok.ahead (Ba c m) (by rw [L4,h.ahead]) c hc _) ?_;refine R.go ?_;refine R.fin [0,3,7,9] ?_;refine Z1 ?_;refine R.fin [0,3,7,9,31] ?_
 refine W.cond (fun ht31=>?_) (fun ht31=>?_)
 ·have hm:=x9 ht23 ht31
  exact ut
 refine Z9 ?_;refine W.seq ?_;refine W.drawQ [0,1,0,0,12,0,63,127] 6 Ac (by kernel_rfl) ?_;refine Vl ?_;refine D.call Tryz.call83 (c83 c hc m h.ok (d9 ht23) _) ?_;refine D.go ?_;refine D.tail ?_;refine R.call Tryz.call82 (c82 m.back h.ok.back (Jf c m) (by rw [Jf,List.length_map,h.back]) (Cn c m.take (Ba c m)).1 (Yw hc hg hg2) _) ?_;refine R.go ?_;refine R.fin [7,10] ?_;refine Z1 ?_;refine R.fin [7,10,41] ?_
 refine W.cond (fun ht41=>?_) (fun ht41=>?_)
 ·have hm:=xa ht23 ht31 ht41
  exact ut
 have hm:=xb ht23 ht31 ht41
 refine Qh ?_;exact ABh

def Na {α:Type} (p:α→Bool) (l:List α):Int:=if l.any p then (l.findIdx p:Int) else -1
theorem rh {α:Type} {p:α→Bool} {l:List α} {i:Nat} (h:i<l.length) (hn:p l[i]=true) (hp:∀(j:Nat) (y:α),j<i→l[j]? = some y→p y=false):(i:Int)=Na p l:=by
 unfold Na
 rw [if_pos (List.any_eq_true.2 ⟨_,List.getElem_mem h,hn⟩)]
 congr 1
 refine (List.findIdx_eq h |>.2 ⟨hn,fun j hj=>?_⟩).symm
 exact hp j (l[j]'(by omega)) hj (List.getElem?_eq_getElem (by omega))
theorem da {α:Type} {p:α→Bool} {l:List α} (h:l.any p=false):(-1:Int)=Na p l:=by
 unfold Na
 rw [if_neg (by rw [h];simp)]
theorem l4 {α:Type} (p:α→Bool) (l:List α):decide (0≤Na p l)=l.any p:=by
 unfold Na
 cases l.any p<;>simp
def Km (s:Str):Bool := !(C3 s)
def Il (e:Expr):Bool := !(B2 e)
theorem ri {m:Mov} (h:(((m.ahead.length:Int) != (m.give.length:Int)) || ((m.back.length:Int) != (m.take.length:Int)))=true):C9 m=false:=if_pos h
theorem rj {m:Mov} (h:(((m.ahead.length:Int) != (m.give.length:Int)) || ((m.back.length:Int) != (m.take.length:Int)))=false):C9 m=if m.kind==1 then ((m.take.length:Int)==0)&&((m.give.length:Int)==1)
 else if m.kind==2 then ((m.take.length:Int)==1)&&((m.give.length:Int)==0)
 else if (m.kind==3) || (m.kind==6) then ((m.take.length:Int)==1)&&((m.give.length:Int)==1)
 else if m.kind==4 then ((m.take.length:Int)==1)&&decide ((1:Int)<(m.give.length:Int))
 else if m.kind==5 then decide ((1:Int)<(m.take.length:Int))&&((m.give.length:Int)==1)
 else false:=if_neg (by rw [h];simp)
theorem AEx (m:Mov) (Hp:List AObj):AFun Tryz.prog 105 [Gu m] Hp (Ao (C9 m)):=by
 refine ACall.body [.tmp 2] [0] Tryz.func105 Tryz.ntmps105 (fun d=>?_)
 refine Z97 ?_;refine W.drawQ [0,1,3,0,8,24,7,127] 7 Ac (by kernel_rfl) ?_;refine Vl ?_;refine Z56 ?_;refine D.tail ?_;refine R.go ?_;refine R.fin [1,3,4] ?_;refine Z57 ?_
 simp only [List.length_map]
 refine Z72 ?_;refine Z64 ?_;refine Pl ?_;refine R.fin [1,3,4,22] ?_
 refine W.cond (fun ht22=>?_) (fun ht22=>?_)
 ·simp only [List.length_map] at ht22
  have hm:=ri ht22
  refine Sv ?_;refine K.thR ?_;exact zh
 simp only [List.length_map] at ht22
 have hn:=rj ht22
 refine Z9 ?_;refine Z11 ?_;refine R.fin [3,4,24] ?_;refine Z71 ?_;refine R.fin [3,4,24,25] ?_
 refine W.cond (fun ht25=>?_) (fun ht25=>?_)
 ·refine aj ?_;refine Z30 ?_;exact K.fin (V.one V.tmp) ⟨by rw [hn];first|(simp only [ht22,ht25,hk3,hk6,Bool.true_or,Bool.false_or,Bool.or_true,Bool.or_false,if_true,if_false,Bool.false_eq_true,↓reduceIte]<;>rfl)|(simp only [ht22,ht25,hk3,Bool.true_or,Bool.false_or,Bool.or_true,if_true,if_false,Bool.false_eq_true,↓reduceIte]<;>rfl)|(simp only [ht22,ht25,if_true,if_false,Bool.false_eq_true,↓reduceIte]<;>rfl),rfl⟩
 refine Z1 ?_;refine R.fin [3,4,24,33] ?_
 refine W.cond (fun ht33=>?_) (fun ht33=>?_)
 ·refine aj ?_;refine Z30 ?_;exact K.fin (V.one V.tmp) ⟨by rw [hn];first|(simp only [ht22,ht25,ht33,hk3,hk6,Bool.true_or,Bool.false_or,Bool.or_true,Bool.or_false,if_true,if_false,Bool.false_eq_true,↓reduceIte]<;>rfl)|(simp only [ht22,ht25,ht33,hk3,Bool.true_or,Bool.false_or,Bool.or_true,if_true,if_false,Bool.false_eq_true,↓reduceIte]<;>rfl)|(simp only [ht22,ht25,ht33,if_true,if_false,Bool.false_eq_true,↓reduceIte]<;>rfl),rfl⟩
 refine Z11 ?_;refine R.fin [3,4,24,41] ?_
 refine W.cond (fun ht41=>?_) (fun ht41=>?_)
 ·have hk3:=ht41
  refine Z9 ?_
  refine W.cond (fun ht41=>?_) (fun ht41=>?_)
  ·refine aj ?_;exact Z38
  rw [hk3] at ht41;cases ht41
 have hk3:=ht41
 refine Z13 ?_;refine R.fin [3,4,24,41] ?_;refine K.thN ?_
 refine W.cond (fun ht41=>?_) (fun ht41=>?_)
 ·have hk6:=ht41
  refine aj ?_;exact Z38
 have hk6:=ht41
 refine Z1 ?_;refine R.fin [3,4,24,50] ?_
 refine W.cond (fun ht50=>?_) (fun ht50=>?_)
 ·refine aj ?_;refine Z30 ?_;exact K.fin (V.one V.tmp) ⟨by rw [hn];first|(simp only [ht22,ht25,ht33,ht41,ht41,ht50,hk3,hk6,Bool.true_or,Bool.false_or,Bool.or_true,Bool.or_false,if_true,if_false,Bool.false_eq_true,↓reduceIte]<;>rfl)|(simp only [ht22,ht25,ht33,ht41,ht41,ht50,hk3,Bool.true_or,Bool.false_or,Bool.or_true,if_true,if_false,Bool.false_eq_true,↓reduceIte]<;>rfl)|(simp only [ht22,ht25,ht33,ht41,ht41,ht50,if_true,if_false,Bool.false_eq_true,↓reduceIte]<;>rfl),rfl⟩
 refine Z1 ?_;refine R.fin [3,4,58] ?_
 refine W.cond (fun ht58=>?_) (fun ht58=>?_)
 ·refine aj ?_;refine Z30 ?_;exact AC2
 refine Z21 ?_;refine Sv ?_;exact AC2

theorem AEy (s:Str) (hs:s.length≤1048576) (Hp:List AObj):AFun Tryz.prog 109 [A8 s] Hp (Ao (Km s)):=by
 refine ACall.body [.tmp 2] [0] Tryz.func109 Tryz.ntmps109 (fun d=>?_)
 refine Z46 ?_;refine Z2 ?_;refine R.call Tryz.call106 (o9 s hs _) ?_;refine Z0 ?_;exact Z89

theorem AEz (e:Expr) (hok:okE 61 e) (Hp:List AObj):AFun Tryz.prog 107 [A7 e] Hp (Ao (Il e)):=by
 refine ACall.body [.tmp 2] [0] Tryz.func107 Tryz.ntmps107 (fun d=>?_)
 refine Z97 ?_;refine Z2 ?_;refine R.call Tryz.call56 (c56 61 e hok (by decide) _) ?_;refine Z0 ?_;exact Z89

theorem AF0 (l:List Str) (hl:l.length≤1048576) (hn:∀s∈l,s.length≤1048576) (Hp:List AObj):AFun Tryz.prog 146 [Em l,.fn (.func 109) [] []] Hp (A2 (Na Km l)):=by
 refine ACall.body [.tmp 4] [0,1] Tryz.func146 Tryz.ntmps146 (fun d=>?_)
 refine al ?_
 refine AW.loopC (α:=Nat) (fun x=>⟨19,A6 0 (Em l) (A6 1 (.fn (.func 109) [] []) (A6 7 (A2 l.length) (A6 8 (A2 (x:Nat)) (fun _=>.any)))),Hp,[],[],none⟩) (fun x=>x≤l.length∧∀(j:Nat) y,j<x→l[j]? = some y→Km y=false) (fun x=>l.length-x) (0) ⟨Nat.zero_le _,fun j y h=>by omega⟩ (StLe.of_eq (by simp)) rfl (fun x hx=>?_)
 refine ac ?_
 refine W.condX (fun ht9=>?_) (fun ht9=>?_)
 ·have hlt:x<l.length:=by simpa using ht9
  refine ai ?_
  refine R.go (h:=Q.indexAddr (x) (A8 l[x]) (fun _=>Br hlt)) (hr:=?_)
  refine R.go ?_;refine R.callV Tryz.call109 (AEy l[x] (hn _ (List.getElem_mem hlt)) _) ?_;refine ar ?_
  refine W.cond (fun ht16=>?_) (fun ht16=>?_)
  ·refine Vm ?_;exact yt
  refine Z83 ?_;exact Z82
 have hxe:l.length≤x:=by simpa using ht9
 refine Z66 ?_;exact Z99

theorem AF1 (l:List Str) (hl:l.length≤1048576) (hn:∀s∈l,s.length≤1048576) (Hp:List AObj):AFun Tryz.prog 108 [Em l,.fn (.func 109) [] []] Hp (Ao (l.any Km)):=by
 refine ACall.body [.tmp 4] [0,1] Tryz.func108 Tryz.ntmps108 (fun d=>?_)
 refine Xf ?_;refine R.call Tryz.call146 (AF0 l hl hn _) ?_;exact yx

theorem ACz (l:List Expr) (hl:l.length≤1048576) (hn:∀e∈l,okE 61 e) (Hp:List AObj):AFun Tryz.prog 147 [Je l,.fn (.func 107) [] []] Hp (A2 (Na Il l)):=by
 refine ACall.body [.tmp 4] [0,1] Tryz.func147 Tryz.ntmps147 (fun d=>?_)
 refine al ?_
 refine AW.loopC (α:=Nat) (fun x=>⟨19,A6 0 (Je l) (A6 1 (.fn (.func 107) [] []) (A6 7 (A2 l.length) (A6 8 (A2 (x:Nat)) (fun _=>.any)))),Hp,[],[],none⟩) (fun x=>x≤l.length∧∀(j:Nat) y,j<x→l[j]? = some y→Il y=false) (fun x=>l.length-x) (0) ⟨Nat.zero_le _,fun j y h=>by omega⟩ (StLe.of_eq (by simp)) rfl (fun x hx=>?_)
 refine ac ?_
 refine W.condX (fun ht9=>?_) (fun ht9=>?_)
 ·have hlt:x<l.length:=by simpa using ht9
  refine ai ?_
  refine R.go (h:=Q.indexAddr (x) (A7 l[x]) (fun _=>Br hlt)) (hr:=?_)
  refine R.go ?_;refine R.callV Tryz.call107 (AEz l[x] (hn _ (List.getElem_mem hlt)) _) ?_;refine ar ?_
  refine W.cond (fun ht16=>?_) (fun ht16=>?_)
  ·refine Vm ?_;exact yt
  refine Z83 ?_;exact Z82
 have hxe:l.length≤x:=by simpa using ht9
 refine Z66 ?_;exact Z99

theorem yj (l:List Expr) (hl:l.length≤1048576) (hn:∀e∈l,okE 61 e) (Hp:List AObj):AFun Tryz.prog 110 [Je l,.fn (.func 107) [] []] Hp (Ao (l.any Il)):=by
 refine ACall.body [.tmp 4] [0,1] Tryz.func110 Tryz.ntmps110 (fun d=>?_)
 refine Xf ?_;refine R.call Tryz.call147 (ACz l hl hn _) ?_;exact yx

theorem xc (s:Str) (Hp:List AObj):AFun Tryz.prog 112 [A8 s] Hp (A7 (B7 s)):=by
 refine ACall.body [.cell 2 103] [0] Tryz.func112 Tryz.ntmps112 (fun d=>?_)
 refine Z43 ?_;refine Z2 ?_;refine ABg ?_;refine R.nilCell 0 5 6 ?_;refine Z4 ?_;exact K.fin (V.one (V.cellN jA jS)) ⟨by rw [Ab];rfl,rfl⟩

theorem Yx {m:Mov} {c:Col}:(((!(C3 c.name)) || (!((Ai c.kind==[])==(m.kind==3)))) || ((m.kind==3)&&(c.kind != 0))) = !G9 m c:=by
 unfold G9
 cases C3 c.name<;>cases (Ai c.kind==([]:Str))<;>cases (m.kind==3)<;>cases (c.kind != 0)<;>rfl
theorem AAf {m:Mov} (h:(!(C9 m))=true):Eu m=false:=by
 have:C9 m=false:=by simpa using h
 unfold Eu;rw [this];rfl
theorem AAg {m:Mov} {c:Col} (hc:c∈m.give) (h:G9 m c=false):Eu m=false:=by
 have:m.give.all (G9 m)=false:=List.all_eq_false.2 ⟨c,hc,by rw [h];simp⟩
 unfold Eu;rw [this];simp
theorem AAh {m:Mov} (h:((m.take.any Km || m.ahead.any Il) || m.back.any Il)=true):Eu m=false:=by
 unfold Eu
 rw [show Km=fun s => !(C3 s) from rfl,show Il=fun e => !(B2 e) from rfl,Ig,Ig,Ig] at h
 cases h1:m.take.all C3<;>cases h2:m.ahead.all B2<;>cases h3:m.back.all B2<;>simp_all
theorem xd {m:Mov} (h1:C9 m=true) (h2:m.give.all (G9 m)=true) (h:((m.take.any Km || m.ahead.any Il) || m.back.any Il)=false):Eu m=Fb m:=by
 unfold Eu
 rw [show Km=fun s => !(C3 s) from rfl,show Il=fun e => !(B2 e) from rfl,Ig,Ig,Ig] at h
 rw [h1,h2]
 cases h1:m.take.all C3<;>cases h2:m.ahead.all B2<;>cases h3:m.back.all B2<;>simp_all
theorem Pe {α β:Type} {f:α→β} {l:List α} {d:α} (h:0<l.length):(l.map f)[0]? = some (f (l.getD 0 d)):=by
 rw [List.getElem?_map,List.getElem?_eq_getElem h,List.getD_eq_getElem?_getD,List.getElem?_eq_getElem h]
 rfl
theorem Nc {α:Type} {l:List α} {d:α} (h:0<l.length):l.getD 0 d∈l:=by
 rw [List.getD_eq_getElem?_getD,List.getElem?_eq_getElem h]
 exact List.getElem_mem h
theorem AAi {m:Mov} (h:(m.kind==3)=true):Fb m=(eqE (m.ahead.getD 0 Ah) (B7 (m.take.getD 0 []))&&eqE (m.back.getD 0 Ah) (B7 (m.give.getD 0 ⟨[],0⟩).name)):=if_pos h
theorem AAj {m:Mov} (h:(m.kind==3)=false) (h6:(m.kind==6)=true):Fb m=(m.take.getD 0 []==(m.give.getD 0 ⟨[],0⟩).name):=by unfold Fb;rw [if_neg (by rw [h];simp),if_pos h6]
theorem AAk {m:Mov} (h:(m.kind==3)=false) (h6:(m.kind==6)=false):Fb m=true:=by unfold Fb;rw [if_neg (by rw [h];simp),if_neg (by rw [h6];simp)]
theorem c79 (m:Mov) (h:OkMov m) (Hp:List AObj):AFun Tryz.prog 79 [Gu m] Hp (Ao (Eu m)):=by
 refine ACall.body [.tmp 2] [0] Tryz.func79 Tryz.ntmps79 (fun d=>?_)
 refine Z97 ?_;refine Z52 ?_;refine R.call Tryz.call105 (AEx m _) ?_;refine R.go ?_;refine R.fin [1,8] ?_
 refine W.cond (fun ht8=>?_) (fun ht8=>?_)
 ·have hm:=AAf ht8
  exact ul
 have hct:C9 m=true:=by simpa using ht8
 refine Z9 ?_;refine Z91 ?_;refine R.fin [1,10,11,12] ?_
 refine AW.loopC (α:=Nat) (fun x=>⟨95,A6 1 (.ro (cu m)) (A6 10 (Ae m.give) (A6 11 (A2 (m.give.length:Nat)) (A6 12 (A2 (x:Nat)) (fun _=>.any)))),Hp,[],[],none⟩) (fun x=>x≤m.give.length∧∀(j:Nat) (y:Col),j<x→m.give[j]? = some y→(!G9 m y)=false) (fun x=>m.give.length-x) (0) ⟨Nat.zero_le _,fun j y h=>by omega⟩ (StLe.of_eq (by simp)) rfl (fun x hx=>?_)
 refine Z2 ?_;refine R.fin [1,10,11,12,13] ?_
 refine W.condX (fun ht13=>?_) (fun ht13=>?_)
 ·have hlt:x<m.give.length:=by simpa using ht13
  have hgl:=h.gives2
  refine Su ?_
  refine R.go (h:=Q.indexAddr (x) (Ax m.give[x]) (fun _=>Br hlt)) (hr:=?_)
  refine Vk ?_;refine R.fin [1,4,10,11,12] ?_;refine W.drawQ [0,1,3,7,15,31,63,127,255,31,543,1567,4095,8191,16383,32767,65535,131071,262143,524287,1048575,2097151,4194303,8388607] 12 Ac (by kernel_rfl) ?_;refine Z14 ?_;refine D.call Tryz.call106 (o9 m.give[x].name (h.gives.2 _ (List.getElem_mem hlt)) _) ?_;refine Z14 ?_;refine Sw ?_;refine H.call Tryz.call57 (fun hB=>c57 m.give[x].kind _) ?_;refine Sw ?_;refine Sw ?_;refine D.tail ?_;refine G.go ?_;refine am ?_;refine R.go ?_;refine R.fin [1,10,11,12,39] ?_
  refine W.cond (fun ht39=>?_) (fun ht39=>?_)
  ·rw [Yx] at ht39
   have hm:=AAg (List.getElem_mem hlt) (by simpa using ht39)
   refine Z2 ?_;refine ag ?_;exact nz
  rw [Yx] at ht39
  refine Z83 ?_;refine R.fin [1,10,11,12] ?_;refine K.lpN (x+1) ⟨hlt,Er hlt hx.2 ht39⟩ (by omega) ?_
  exact StCut.take (own:=[]) (fun _=>.refl _) (by repeat (first|exact Az|refine Ay (by first|(simp [or_imp,forall_and];done)|exact Fg|exact low_ro.2 Wg) ?_)) (by simp) (by simp)
 have hxe:m.give.length≤x:=by simpa using ht13
 have hga:m.give.all (G9 m)=true:=by have:=Yr hxe hx.2;rw [Ig] at this;simpa using this
 refine Z66 ?_;refine R.fin [1,5] ?_;refine Z11 ?_;refine R.call Tryz.call108 (AF1 m.take h.takes h.names _) ?_;refine R.go ?_;refine je ?_;refine G.call Tryz.call110 (fun hB=>yj m.ahead h.ahead.len h.ahead.ok _) ?_;refine Z75 ?_;refine G.call Tryz.call110 (fun hB=>yj m.back h.back.len h.back.ok _) ?_;refine R.go ?_;refine R.fin [1,55] ?_
 refine W.cond (fun ht55=>?_) (fun ht55=>?_)
 ·have hm:=AAh ht55
  exact ul
 have hm0:=xd hct hga ht55
 refine Z9 ?_;refine Z11 ?_;refine R.fin [1,57] ?_;refine Z71 ?_;refine R.fin [1,57,58] ?_
 refine W.cond (fun ht58=>?_) (fun ht58=>?_)
 ·obtain ⟨hl1,hl2⟩:=Ki hct (by rw [ht58];simp)
  obtain ⟨hl3,hl4⟩:=Eo hct
  have g1:=Pe (f:=A7) (l:=m.ahead) (d:=Ah) (by omega)
  have g2:=Pe (f:=A7) (l:=m.back) (d:=Ah) (by omega)
  have g3:=Pe (f:=A8) (l:=m.take) (d:=[]) (by omega)
  have g4:=Pe (f:=Ax) (l:=m.give) (d:=⟨[],0⟩) (by omega)
  have ok1:=h.ahead.ok _ (Nc (l:=m.ahead) (d:=Ah) (by omega))
  have ok2:=h.back.ok _ (Nc (l:=m.back) (d:=Ah) (by omega))
  have hm:=hm0.trans (AAi ht58)
  refine W.drawQ [0,1,3,7,0,16,48,112,240,511,1023,2047,4095,8191,16383,2047,34815,100351,231423,493567,1017855,2097151,4194303,8388607] 21 Ac (by kernel_rfl) ?_;refine Z14 ?_
  refine D.go (h:=Q.indexAddr (0) (A7 (m.ahead.getD 0 Ah)) (fun _=>g1)) (hr:=?_)
  refine Z56 ?_
  refine D.go (h:=Q.indexAddr (0) (A8 (m.take.getD 0 [])) (fun _=>g3)) (hr:=?_)
  refine D.go ?_;refine D.call Tryz.call112 (xc (m.take.getD 0 []) _) ?_;refine D.call Tryz.call111 (ACq 61 (m.ahead.getD 0 Ah) ok1 (B7 (m.take.getD 0 [])) _) ?_;refine D.go ?_;refine Sw ?_
  refine H.go (h:=Q.indexAddr (0) (A7 (m.back.getD 0 Ah)) (fun _=>g2)) (hr:=?_)
  refine Sw ?_;refine H.go ?_
  refine H.go (h:=Q.indexAddr (0) (Ax (m.give.getD 0 ⟨[],0⟩)) (fun _=>g4)) (hr:=?_)
  refine Sw ?_;refine H.call Tryz.call112 (fun hB=>xc (m.give.getD 0 ⟨[],0⟩).name _) ?_;refine D.tail ?_;refine G.call Tryz.call111 (fun hB=>ACq 61 (m.back.getD 0 Ah) ok2 (B7 (m.give.getD 0 ⟨[],0⟩).name) _) ?_;refine Z0 ?_;exact Z62
 refine Z1 ?_;refine R.fin [1,83] ?_
 refine W.cond (fun ht83=>?_) (fun ht83=>?_)
 ·obtain ⟨hl1,hl2⟩:=Ki hct (by rw [ht83];simp)
  obtain ⟨hl3,hl4⟩:=Eo hct
  have g1:=Pe (f:=A7) (l:=m.ahead) (d:=Ah) (by omega)
  have g2:=Pe (f:=A7) (l:=m.back) (d:=Ah) (by omega)
  have g3:=Pe (f:=A8) (l:=m.take) (d:=[]) (by omega)
  have g4:=Pe (f:=Ax) (l:=m.give) (d:=⟨[],0⟩) (by omega)
  have ok1:=h.ahead.ok _ (Nc (l:=m.ahead) (d:=Ah) (by omega))
  have ok2:=h.back.ok _ (Nc (l:=m.back) (d:=Ah) (by omega))
  have hm:=hm0.trans (AAj ht58 ht83)
  refine W.drawQ [0,1,3,7,0,16,48,112,240,511,1023] 9 Ac (by kernel_rfl) ?_;refine Z14 ?_
  refine D.go (h:=Q.indexAddr (0) (A8 (m.take.getD 0 [])) (fun _=>g3)) (hr:=?_)
  refine Z56 ?_
  refine D.go (h:=Q.indexAddr (0) (Ax (m.give.getD 0 ⟨[],0⟩)) (fun _=>g4)) (hr:=?_)
  refine Z14 ?_;refine D.tail ?_;refine Z0 ?_;exact Z62
 have hm:=hm0.trans (AAk ht58 ht83)
 refine Z21 ?_;refine Z2 ?_;exact Z90

def l5 (m:Mov):Bool := !(Eu m)
theorem xe (l:List Mov):(decide ((l.length:Int)≤8) && !(l.any l5))=N2 l:=by
 unfold N2
 rw [show l5=fun m => !(Eu m) from rfl,Ig]
 simp
theorem c78 (m:Mov) (h:OkMov m) (Hp:List AObj):AFun Tryz.prog 78 [Gu m] Hp (Ao (l5 m)):=by
 refine ACall.body [.tmp 2] [0] Tryz.func78 Tryz.ntmps78 (fun d=>?_)
 refine Z97 ?_;refine Z2 ?_;refine R.call Tryz.call79 (c79 m h _) ?_;refine Z0 ?_;exact Z89

theorem AF2 (l:List Mov) (h:OkMovs l) (Hp:List AObj):AFun Tryz.prog 104 [Fs l,.fn (.func 78) [] []] Hp (A2 (Na l5 l)):=by
 refine ACall.body [.tmp 4] [0,1] Tryz.func104 Tryz.ntmps104 (fun d=>?_)
 refine al ?_
 refine AW.loopC (α:=Nat) (fun x=>⟨19,A6 0 (Fs l) (A6 1 (.fn (.func 78) [] []) (A6 7 (A2 l.length) (A6 8 (A2 (x:Nat)) (fun _=>.any)))),Hp,[],[],none⟩) (fun x=>x≤l.length∧∀(j:Nat) (y:Mov),j<x→l[j]? = some y→l5 y=false) (fun x=>l.length-x) (0) ⟨Nat.zero_le _,fun j y h=>by omega⟩ (StLe.of_eq (by simp)) rfl (fun x hx=>?_)
 refine ac ?_
 refine W.condX (fun ht9=>?_) (fun ht9=>?_)
 ·have hlt:x<l.length:=by simpa using ht9
  have hlen:=h.len
  refine ai ?_
  refine R.go (h:=Q.indexAddr (x) (Gu l[x]) (fun _=>Br hlt)) (hr:=?_)
  refine R.go ?_;refine R.callV Tryz.call78 (c78 l[x] (h.each _ (List.getElem_mem hlt)) _) ?_;refine ar ?_
  refine W.cond (fun ht16=>?_) (fun ht16=>?_)
  ·refine Vm ?_;exact yt
  refine Z83 ?_;exact Z82
 have hxe:l.length≤x:=by simpa using ht9
 refine Z66 ?_;exact Z99

theorem c77 (l:List Mov) (h:OkMovs l) (Hp:List AObj):AFun Tryz.prog 77 [Fs l,.fn (.func 78) [] []] Hp (Ao (l.any l5)):=by
 refine ACall.body [.tmp 4] [0,1] Tryz.func77 Tryz.ntmps77 (fun d=>?_)
 refine Xf ?_;refine R.call Tryz.call104 (AF2 l h _) ?_;exact yx

theorem c53 (l:List Mov) (h:OkMovs l) (Hp:List AObj):AFun Tryz.prog 53 [Fs l] Hp (Ao (N2 l)):=by
 refine ACall.body [.tmp 2] [0] Tryz.func53 Tryz.ntmps53 (fun d=>?_)
 refine Z46 ?_;refine Z35 ?_;refine G.go ?_;refine G.call Tryz.call77 (fun hB=>c77 l h _) ?_;refine No ?_;refine Z4 ?_;exact K.fin (V.one V.tmp) ⟨by rw [←xe,List.length_map],rfl⟩

theorem c34 (c:List Col) (hc:OkCols c) (l:List Mov) (h:OkMovs l) (Hp:List AObj):AFun Tryz.prog 34 [Ae c,Fs l] Hp (Ao (Ik c l)):=by
 refine ACall.body [.tmp 4] [0,1] Tryz.func34 Tryz.ntmps34 (fun d=>?_)
 refine Z42 ?_;refine Z2 ?_;refine R.call Tryz.call25 (c25 c hc _) ?_;refine R.go ?_;refine G.go ?_;refine G.call Tryz.call53 (fun hB=>c53 l h _) ?_;refine Z98 ?_;exact K.fin (V.one V.tmp) ⟨by unfold Ik;rw [Hv],rfl⟩

theorem l6 {Hp:List AObj} {c:List Col} (h:∀x∈Hp,ObjLow Hp.length x):∀x∈Hp++[AObj.cells 22 [Ae c]],ObjLow (Hp.length+1) x:=by
 intro x hx
 rcases List.mem_append.1 hx with hx|hx
 ·exact ObjLow.le (by omega) (h x hx)
 rw [List.mem_singleton.1 hx]
 intro z hz
 rw [List.mem_singleton.1 hz]
 exact Fg
theorem c36 (c:List Col) (l:List Mov) (Hp:List AObj):ACallO Tryz.prog 36 [Ae c,Fs l] Hp (fun r H'=>r=.fn (.func 54) [] [.ro [Fs l],.ptr (oid Hp.length 0) 0]∧H'=Hp++[.cells 22 [Ae c]]):=by
 refine ACallO.body [.tmp 4] [0,1] Tryz.func36 Tryz.ntmps36 (fun d=>?_)
 refine Xe ?_;refine Z0 ?_;refine I5 ?_;refine E0 ?_
 refine R.assumeLow (fun hlow=>?_)
 refine L8 ?_;refine nb ?_;exact K.finO 1 (V.tmp (t:=4)) ⟨rfl,rfl⟩ (hlow:=by simp [oid,or_imp,forall_and];exact ⟨fun m _ a _=>Ad _ a,fun m _ a _=>Ad _ a⟩) (hobj:=l6 hlow)

theorem c54 (l oc:Nat) (ms:List Mov) (hm:∀m∈ms,MvOk m) (hml:ms.length≤1048576) (C:Nat→List Col) (hC:∀k,OkCols (C k)) (U T:Nat→List AObj) (N:Nat→Prop) (Z:List AObj→Prop) (hlen:∀k,(U k).length=(U 0).length) (hlenW:∀k,(T k).length=(U 0).length) (hll:l<(U 0).length) (hol:oc<(U 0).length)
  (hlw:∀k,∀x∈U k,ObjLow (U 0).length x) (hlW:∀k,∀x∈T k,ObjLow (U 0).length x) (h0:N 0) (hc:∀k,(U k)[oc]? = some (.cells 22 [Ae (C k)])) (hcW:∀k,(T k)[oc]? = some (.cells 22 [Ae (C k)]))
  (hn:∀k m,ms[k]? = some m→(Bl (C k) m).2=0→(T k).set oc (.cells 22 [Ae (Bl (C k) m).1])=U (k+1))
  (hy:∀k m X,ms[k]? = some m→N k→AYield Tryz.prog l [Ae (Bl (C k) m).1,A2 (Bl (C k) m).2] (U k++X) (fun b H'=>((Bl (C k) m).2≠0∧∃V,H'=V++X∧V.length=(U 0).length∧(∀x∈V,ObjLow (U 0).length x)∧Z V)∨((Bl (C k) m).2=0∧b=true∧N (k+1)∧H'=T k++X)))
  (hR:N ms.length→Z (U ms.length)):ACall Tryz.prog 54 [.yield l,.ro [Fs ms],.ptr oc 0] (U 0) (fun _ H'=>Z H'):=by
 refine ACall.body [] [0,1,2] Tryz.func54 Tryz.ntmps54 (fun d=>?_)
 refine Z18 ?_;refine R.fin [0,2,8,9,10] ?_
 refine AW.loopC (α:=Nat) (fun x=>⟨31,A6 0 (.yield l) (A6 2 (.ptr oc 0) (A6 8 (Fs ms) (A6 9 (A2 ms.length) (A6 10 (A2 (x:Nat)) (fun _=>.any))))),U x,[],[],none⟩) (fun x=>x≤ms.length∧N x) (fun x=>ms.length-x) (0) ⟨Nat.zero_le _,h0⟩ (StLe.of_eq (by simp)) rfl (fun x hx=>?_)
 refine Z2 ?_;refine R.fin [0,2,8,9,10,11] ?_
 refine W.condX (fun ht11=>?_) (fun ht11=>?_)
 ·have hlt:x<ms.length:=by simpa using ht11
  refine Su ?_
  refine R.go (h:=Q.indexAddr (x) (Gu ms[x]) (fun _=>Br hlt)) (hr:=?_)
  refine Vk ?_;refine R.fin [0,2,5,8,9,10] ?_;refine E0 ?_
  refine R.go (h:=Q.loadUp (hc x)) (hr:=?_)
  refine R.go ?_;refine R.call Tryz.call55 (c55 (C x) (hC x) ms[x] (hm _ (List.getElem_mem hlt)) _) ?_;refine Z51 ?_;refine R.fin [0,2,6,7,8,9,10] ?_;refine Z34 ?_
  refine R.yield (l:=l) (args:=[Ae (Bl (C x) ms[x]).1,A2 (Bl (C x) ms[x]).2]) (hy x ms[x] _ (List.getElem?_eq_getElem hlt) hx.2) ?_
  intro b V O hV hb
  have hVO:O=[AObj.cells 77 (cu ms[x])]∧(((Bl (C x) ms[x]).2≠0∧V.length=(U 0).length∧(∀y∈V,ObjLow (U 0).length y)∧Z V)∨((Bl (C x) ms[x]).2=0∧b=true∧N (x+1)∧V=T x)):=by
   rcases hb with ⟨h1,V',h2,h3,h4,h5⟩|⟨h1,h2,h3,h4⟩
   ·obtain ⟨rfl,rfl⟩:=List.append_inj h2 (by rw [hV,hlen x,h3])
    exact ⟨rfl,.inl ⟨h1,h3,h4,h5⟩⟩
   have h6:=List.append_inj h4 (by rw [hV,hlen x,hlenW x])
   exact ⟨h6.2,.inr ⟨h1,h2,h3,h6.1⟩⟩
  obtain ⟨rfl,hVO⟩:=hVO
  have hVl:V.length=(U 0).length:=by rw [hV,hlen x]
  have hVw:∀y∈V,ObjLow (U 0).length y:=by
   rcases hVO with ⟨_,_,h,_⟩|⟨_,_,_,rfl⟩
   ·exact h
   exact hlW _
  refine ⟨fun _=>by rw [hVl];exact hVw,fun o ho=>(by cases ho),?_⟩
  refine Z29 ?_;refine R.go ?_;refine R.fin [0,2,6,8,9,10,28] ?_
  refine W.cond (fun ht28=>?_) (fun ht28=>?_)
  ·have hZ:Z V:=by
    rcases hVO with ⟨_,_,_,h⟩|⟨h1,h2,_,_⟩
    ·exact h
    rw [h1,h2] at ht28;simp at ht28
   refine Z86 ?_;refine Z5 ?_;refine K.lpR ?_;exact K.fin .nores (hp:=hZ)
  have hVn:(Bl (C x) ms[x]).2=0∧N (x+1)∧V=T x:=by
   rcases hVO with ⟨h1,_,_,_⟩|⟨h1,_,h3,h4⟩
   ·simp [h1] at ht28
   exact ⟨h1,h3,h4⟩
  obtain ⟨hz,hN,rfl⟩:=hVn
  have hnx:=hn x _ (List.getElem?_eq_getElem hlt) hz
  refine Z9 ?_;refine Z93 ?_
  refine R.storeUp jS (hcW x) ?_ ?_
  ·first|exact Fg|(simp [or_imp,forall_and];done)
  refine R.fin [0,2,8,9,10] ?_;refine Sy ?_;refine R.fin [0,2,8,9,10] ?_;refine K.lpN (x+1) ⟨hlt,hN⟩ (by omega) ?_
  rw [hnx]
  exact StCut.take (own:=[]) (fun _=>.refl _) (by repeat (first|exact Az|refine Ay (by first|(simp [or_imp,forall_and];done)|exact Kl|(have:=hlen (x+1);simp;omega)) ?_)) (by simp) (by simp)
 have hxe:x=ms.length:=by have:=hx.1;simp at ht11;omega
 refine K.lpE ?_;exact K.finN .nores (hp:=by rw [hxe];exact hR (hxe ▸ hx.2))

/-! The columns on the way through moves. -/
def colsAt (c:List Col) (ms:List Mov):Nat→List Col
 | 0=>c
 | k+1=>match ms[k]? with|some m=>(Bl (colsAt c ms k) m).1|none=>colsAt c ms k
def Cq (c:List Col) (ms:List Mov):Nat→List (List Col)
 | 0=>[c]
 | k+1=>Cq c ms k++[colsAt c ms (k+1)]
def NS (c:List Col) (ms:List Mov) (k:Nat):Prop:=At c ms=((Cq c ms k).dropLast++(At (colsAt c ms k) (ms.drop k)).1,(At (colsAt c ms k) (ms.drop k)).2)
theorem gh (c:List Col) (ms:List Mov) (k:Nat):(Cq c ms k).dropLast++[colsAt c ms k]=Cq c ms k:=by
 cases k with
 | zero=>rfl
 | succ k=>simp [Cq]
theorem Ix {c:List Col} {ms:List Mov} {k:Nat} {m:Mov} (h:ms[k]? = some m):colsAt c ms (k+1)=(Bl (colsAt c ms k) m).1:=by rw [colsAt,h]
theorem S7 {ms:List Mov} {k:Nat} {m:Mov} (hk:ms[k]? = some m):ms.drop k=m::ms.drop (k+1):=by
 obtain ⟨h1,h2⟩:=List.getElem?_eq_some_iff.1 hk
 rw [List.drop_eq_getElem_cons h1,h2]
theorem AAl {c:List Col} {ms:List Mov}:NS c ms 0:=rfl
theorem Wh {c:List Col} {ms:List Mov} {k:Nat} {m:Mov} (hk:ms[k]? = some m) (h:NS c ms k) (he:(Bl (colsAt c ms k) m).2=0):NS c ms (k+1):=by
 unfold NS at h ⊢
 rw [h,S7 hk]
 have e:At (colsAt c ms k) (m::ms.drop (k+1))=(colsAt c ms k::(At (Bl (colsAt c ms k) m).1 (ms.drop (k+1))).1,(At (Bl (colsAt c ms k) m).1 (ms.drop (k+1))).2):=by
  rw [At,if_neg (by rw [he];simp)]
 have e2:(Cq c ms (k+1)).dropLast=Cq c ms k:=by simp [Cq]
 rw [e,e2,Ix hk]
 have e3:=gh c ms k
 refine Prod.ext ?_ rfl
 show (Cq c ms k).dropLast++(colsAt c ms k::_)=Cq c ms k++_
 conv=>rhs;rw [←e3]
 simp
theorem Wi {c:List Col} {ms:List Mov} {k:Nat} {m:Mov} (hk:ms[k]? = some m) (h:NS c ms k) (he:(Bl (colsAt c ms k) m).2≠0):(At c ms).2=(Bl (colsAt c ms k) m).2:=by
 unfold NS at h
 rw [h,S7 hk,At,if_pos (by simpa using he)]
theorem db {c:List Col} {ms:List Mov} (h:NS c ms ms.length):At c ms=(Cq c ms ms.length,0):=by
 unfold NS at h
 rw [h,List.drop_length,At]
 exact Prod.ext (gh c ms ms.length) rfl
theorem rk {c:List Col} {m:Mov} (hc:OkCols c) (h:OkMov m):OkCols (Bl c m).1:=by
 have h0:OkCols ([]:List Col):=⟨by decide,fun y hy=>by cases hy⟩
 unfold Bl
 split
 ·exact h0
 split
 ·exact h0
 split
 ·exact h0
 exact Yw hc (Yv h) (by rw [L4];exact h.gives2)
theorem L6 {c:List Col} {ms:List Mov} (hc:OkCols c) (h:∀m∈ms,OkMov m):∀k,OkCols (colsAt c ms k)
 | 0=>hc
 | k+1=>by
  rw [colsAt]
  cases hk:ms[k]? with
  | none=>exact L6 hc h k
  | some m=>exact rk (L6 hc h k) (h m (List.mem_of_getElem? hk))
theorem I1 (c:List Col) (ms:List Mov):∀k,(Cq c ms k).length=k+1
 | 0=>rfl
 | k+1=>by rw [Cq,List.length_append,I1 c ms k];rfl
theorem rl {c:List Col} {ms:List Mov} (h:Ik c ms=true) (hk:OkMovs ms):(∀m∈ms,MvOk m)∧ms.length≤8:=by
 unfold Ik N2 at h
 simp only [Bool.and_eq_true,decide_eq_true_eq,List.all_eq_true] at h
 exact ⟨fun m hm=>x7 (hk.each m hm) (Iu (h.2.2 m hm)),by omega⟩
theorem Uh {c:List Col} {ms:List Mov} (h:Ik c ms=false):Ce c ms=([],1):=by
 have:Ft c ms=([],1):=if_neg (by rw [h];simp)
 unfold Ce
 rw [this];rfl
theorem S8 {c:List Col} {ms:List Mov} (h:Ik c ms=true) (he:(At c ms).2≠0):Ce c ms=([],(At c ms).2):=by
 have:Ft c ms=At c ms:=if_pos h
 unfold Ce
 rw [this,if_pos (by simpa using he)]
theorem Ui {c:List Col} {ms:List Mov} {o:List (List Col)} (h:Ik c ms=true) (he:At c ms=(o,0)):Ce c ms=(o,0):=by
 have:Ft c ms=At c ms:=if_pos h
 unfold Ce
 rw [this,he];rfl
abbrev AAm (l:List (List Col)):AV:=.slice false 1 (l.map Ae)
theorem Og {n k:Nat} {o:Bool} {l:List (List Col)}:Low n (.slice o k (l.map Ae)):=low_slice.2 fun y hy=>by
 obtain ⟨m,_,rfl⟩:=List.mem_map.1 hy
 exact Fg
theorem AD0 {U:List AObj} {i j:Nat} {x y:AObj} (h:U[i]? = some x) (hne:j≠i):(U.set j y)[i]? = some x:=by rw [List.getElem?_set_ne hne];exact h
theorem l7 {n k:Nat} {o:Bool} {l:List (List Col)} {c:List Col}:Low n (.slice o k (l.map Ae++[Ae c])):=by
 have:=Og (n:=n) (k:=k) (o:=o) (l:=l++[c])
 rwa [List.map_append] at this
theorem c12 (c:List Col) (hc:OkCols c) (hc2:c.length≤1000000) (l:List Mov) (h:OkMovs l) (Hp:List AObj):AFun Tryz.prog 12 [Ae c,Fs l] Hp (.tup [AAm (Ce c l).1,A2 (Ce c l).2]):=by
 refine ACall.body [.cell 4 39,.cell 5 26] [0,1,7,8] Tryz.func12 Tryz.ntmps12 (fun d=>?_)
 refine Z26 ?_;refine J8 ?_;refine R.fin [0,1,4,5,7,8] ?_;refine Z11 ?_;refine R.call Tryz.call34 (c34 c hc l h _) ?_;refine R.go ?_;refine R.fin [0,1,4,5,7,8,12] ?_
 refine W.cond (fun ht12=>?_) (fun ht12=>?_)
 ·have hm:=Uh (by simpa using ht12)
  refine E0 ?_;refine Fi ?_;refine R.nilOwn 0 1 ?_;refine Fi ?_;refine Z94 ?_;exact K.fin (V.two (V.cell jA) (V.cell jA)) ⟨by rw [hm];rfl,rfl⟩
 have hmay:Ik c l=true:=by simpa using ht12
 obtain ⟨hmv,hl8⟩:=rl hmay h
 refine Mc ?_;refine R.call Tryz.call35 (c35 c hc2 _) ?_;refine Qi ?_;refine J8 ?_;refine R.storeOwnT jS ?_;refine R.fin [0,1,4,5,6,7,8] ?_;refine Z57 ?_
 refine R.assumeLow (fun hlow=>?_)
 refine Z0 ?_;refine R.callO Tryz.call36 (c36 c l _) ?_
 rintro _ _ ⟨rfl,rfl⟩
 refine ⟨[.cells 22 [Ae c]],by simp,?_⟩
 rw [show oid (Hp++[AObj.cells 39 [AV.nil],AObj.cells 26 [A2 0],AObj.cells 39 [AV.slice true 1 [Ae c]]]).length 0=oid Hp.length 3 by simp [oid]]
 simp only [List.cons_append,List.nil_append]
 refine R.fin [4,5,6,7,8,18] ?_;refine AW.block ?_
 refine W.rangeV (m:=4) Tryz.call54 (fun FR as' bd' hFR has hbd=>?_)
 have hFRl:∀s,Low (Hp.length+6) (FR s):=by
  intro s
  rw [hFR]
  refine Low.strip ?_
  revert s
  repeat (first|exact Az|refine Ay (by first|(simp [oid,or_imp,forall_and];done)|(simp [oid,or_imp,forall_and];exact ⟨fun m _ a _=>Ad _ a,fun m _ a _=>Ad _ a⟩)|(simp [oid,or_imp,forall_and]<;>omega)) ?_)
 have hOl:∀{e:Int} {o:List (List Col)} {q:List Col} {lp:AObj},ObjLow (Hp.length+6) lp→∀x∈Hp++[AObj.cells 39 [AV.nil],AObj.cells 26 [A2 e],AObj.cells 39 [AV.slice true 1 ((o).map Ae)],AObj.cells 22 [Ae (q)],AObj.defs,lp],ObjLow (Hp.length+6) x:=by
  intro e o q lp hlp x hx
  refine Jd (fun x hx=>ObjLow.le (by omega) (hlow x hx)) (fun x hx=>?_) x hx
  simp only [List.mem_cons,List.mem_nil_iff,or_false] at hx
  rcases hx with rfl|rfl|rfl|rfl|rfl|rfl
  ·intro y hy;rw [List.mem_singleton.1 hy];simp
  ·intro y hy;rw [List.mem_singleton.1 hy];simp
  ·intro y hy;rw [List.mem_singleton.1 hy];exact Og
  ·intro y hy;rw [List.mem_singleton.1 hy];exact Fg
  ·trivial
  exact hlp
 refine ⟨_,c54 (oid Hp.length 5) (oid Hp.length 3) l hmv (by omega) (colsAt c l) (L6 hc fun m hm=>h.each m hm) (fun k=>Hp++[AObj.cells 39 [AV.nil],AObj.cells 26 [A2 0],AObj.cells 39 [AV.slice true 1 ((Cq c l k).map Ae)],AObj.cells 22 [Ae (colsAt c l k)],AObj.defs,AObj.loop LoopState.ready none FR 29 #[19,20] as' bd' (oid Hp.length 4)]) (fun k=>Hp++[AObj.cells 39 [AV.nil],AObj.cells 26 [A2 0],AObj.cells 39 [AV.slice true 1 ((Cq c l (k+1)).map Ae)],AObj.cells 22 [Ae (colsAt c l k)],AObj.defs,AObj.loop LoopState.ready none FR 29 #[19,20] as' bd' (oid Hp.length 4)]) (NS c l) (fun V=>(∃(o:List (List Col)) (q:List Col),V=Hp++[AObj.cells 39 [AV.nil],AObj.cells 26 [A2 0],AObj.cells 39 [AV.slice true 1 ((o).map Ae)],AObj.cells 22 [Ae (q)],AObj.defs,AObj.loop LoopState.ready none FR 29 #[19,20] as' bd' (oid Hp.length 4)]∧At c l=(o,0))∨(∃(e:Int) (o:List (List Col)) (q:List Col),V=Hp++[AObj.cells 39 [AV.nil],AObj.cells 26 [A2 e],AObj.cells 39 [AV.slice true 1 ((o).map Ae)],AObj.cells 22 [Ae (q)],AObj.defs,AObj.loop LoopState.done (some Code.ret) FR 29 #[19,20] as' bd' (oid Hp.length 4)]∧e≠0∧(At c l).2=e)) (fun k=>by simp) (fun k=>by simp) (by simp [oid]) (by simp [oid]) (fun k=>(fun x hx=>by rw [List.length_append];exact hOl (lp:=AObj.loop LoopState.ready none FR 29 #[19,20] as' bd' (oid Hp.length 4)) (by exact ⟨hFRl,by simp [oid]⟩) x hx)) (fun k=>(fun x hx=>by rw [List.length_append];exact hOl (lp:=AObj.loop LoopState.ready none FR 29 #[19,20] as' bd' (oid Hp.length 4)) (by exact ⟨hFRl,by simp [oid]⟩) x hx)) AAl (fun k=>by rw [Al];rfl) (fun k=>by rw [Al];rfl) (fun k m hk he=>by rw [E5];simp only [Ix hk];rfl) (fun k m X hk hN=>?_) (fun hN=>.inl ⟨_,_,rfl,db hN⟩),?_⟩
 ·generalize hV:Hp++[AObj.cells 39 [AV.nil],AObj.cells 26 [A2 0],AObj.cells 39 [AV.slice true 1 ((Cq c l k).map Ae)],AObj.cells 22 [Ae (colsAt c l k)],AObj.defs,AObj.loop LoopState.ready none FR 29 #[19,20] as' bd' (oid Hp.length 4)]++X=V
  have hL:V[oid Hp.length 5]? = some (AObj.loop LoopState.ready none FR 29 #[19,20] as' bd' (oid Hp.length 4)):=by rw [←hV,List.append_assoc,Al];rfl
  have hA0:V[oid Hp.length 2]? = some (AObj.cells 39 [AV.slice true 1 ((Cq c l k).map Ae)]):=by rw [←hV,List.append_assoc,Al];rfl
  have hB0:V[oid Hp.length 0]? = some (AObj.cells 39 [AV.nil]):=by rw [←hV,List.append_assoc,Al];rfl
  have hC0:V[oid Hp.length 1]? = some (AObj.cells 26 [A2 0]):=by rw [←hV,List.append_assoc,Al];rfl
  refine AYield.ofRound (pd:=none) (fr:=FR) (sz:=29) (ps:=#[19,20]) (df:=oid Hp.length 4) (asg:=as') (bd:=bd') hL rfl (by decide) (fun d=>?_)
  subst hFR has hbd
  refine W.keep [4,5,6,19,20] ?_;refine Z2 ?_;refine R.fin [4,5,6,7,20] ?_;refine Z93 ?_;refine R.fin [4,5,6,7,8] ?_
  refine ⟨rfl,none,hL,?_⟩
  generalize hbz:(AObj.loop LoopState.busy _ _ _ _ _ _ _)=bz
  have hA:(V.set (oid Hp.length 5) bz)[oid Hp.length 2]? = some (AObj.cells 39 [AV.slice true 1 ((Cq c l k).map Ae)]):=by rw [List.getElem?_set_ne (De (by decide))];exact hA0
  have hB:(V.set (oid Hp.length 5) bz)[oid Hp.length 0]? = some (AObj.cells 39 [AV.nil]):=by rw [List.getElem?_set_ne (De (by decide))];exact hB0
  have hC:(V.set (oid Hp.length 5) bz)[oid Hp.length 1]? = some (AObj.cells 26 [A2 0]):=by rw [List.getElem?_set_ne (De (by decide))];exact hC0
  refine nu ?_;refine R.fin [4,5,6,7,8,22] ?_
  refine W.cond (fun ht22=>?_) (fun ht22=>?_)
  ·have he:(Bl (colsAt c l k) m).2≠0:=by simpa using ht22
   refine Z2 ?_
   refine R.storeUp jS hB ?_ ?_
   ·simp
   refine R.storeUp jS (AD0 hC (De (by decide))) ?_ ?_
   ·simp
   refine nr ?_;refine K.blR ?_
   subst hbz
   refine zc ?_
   refine .inl ⟨he,Hp++[AObj.cells 39 [AV.nil],AObj.cells 26 [A2 (Bl (colsAt c l k) m).2],AObj.cells 39 [AV.slice true 1 ((Cq c l k).map Ae)],AObj.cells 22 [Ae (colsAt c l k)],AObj.defs,_],?_,by simp,(fun x hx=>by rw [List.length_append];exact hOl (lp:=_) (by exact ⟨hFRl,by simp [oid]⟩) x hx),.inr ⟨_,_,_,rfl,he,Wi hk hN he⟩⟩
   subst hV
   simp only [List.append_assoc,E5,List.cons_append,List.nil_append,List.set_cons_succ,List.set_cons_zero]
  have he:(Bl (colsAt c l k) m).2=0:=by simpa using ht22
  refine jb ?_;refine R.loadUpT jA hA ?_;refine j6 ?_
  refine R.append jU Tryz.type22 ?_ ?_ ?_
  ·have hol:=I1 c l k;have hkl:=(List.getElem?_eq_some_iff.1 hk).1;simp [Tryz.t22];omega
  ·have hol:=I1 c l k;have hkl:=(List.getElem?_eq_some_iff.1 hk).1;simp [Tryz.t22];omega
  refine R.storeUpT jS (getset hA) ?_ ?_
  ·exact l7
  refine Z50 ?_
  subst hbz
  refine zb ?_
  refine .inr ⟨he,rfl,Wh hk hN he,?_⟩
  subst hV
  simp only [List.append_assoc,E5,List.cons_append,List.nil_append,List.set_cons_succ,List.set_cons_zero]
  rw [Cq,Ix hk,List.map_append]
  rfl
 rintro r H' (⟨o,q,rfl,hrun⟩|⟨e,o,q,rfl,hne,hrun⟩)
 ·refine ⟨Hp,_,_,_,rfl,rfl,fun h=>h,?_,rfl,by simp,?_⟩
  ·intro o ho
   have:o=oid Hp.length 4:=by simpa using ho
   subst this
   rw [Al]
   rfl
  refine Z12 ?_;refine Z2 ?_;refine ui ?_;refine Z22 ?_;exact K.fin (V.two (V.cell jA) (V.cell jA)) ⟨by rw [Ui hmay hrun],rfl⟩ (hlow:=by simp only [ua,List.mem_cons,List.mem_nil_iff,or_false];rintro y (rfl|rfl);exact Og;simp)
 refine ⟨Hp,_,_,_,rfl,rfl,fun h=>h,?_,rfl,by simp,?_⟩
 ·intro o ho
  have:o=oid Hp.length 4:=by simpa using ho
  subst this
  rw [Al]
  rfl
 refine W.nilOwn 0 1 ?_;refine af ?_;exact K.fin (V.two (V.cell jA) (V.cell jA)) ⟨by rw [S8 hmay (by rw [hrun];exact hne),hrun];rfl,rfl⟩

theorem l8 (c:List Col) (ms:List Mov):(At c ms).1≠[]:=by
 cases ms with
 | nil=>simp [At]
 | cons m r =>
  rw [At]
  split<;>simp
theorem S9:∀(c:List Col) (ms:List Mov),(At c ms).1.length≤ms.length+1
 | c,[]=>by simp [At]
 | c,m::r=>by
  rw [At]
  split
  ·simp
  have:=S9 (Bl c m).1 r
  simp only [List.length_cons]
  omega
theorem l9 {c:List Col} {ms:List Mov} (h:((Ce c ms).2 != 0)=false):(Ce c ms).1≠[]∧(Ce c ms).1.length≤9:=by
 unfold Ce at h ⊢
 by_cases h1:((Ft c ms).2 != 0)=true
 ·rw [if_pos h1] at h
  rw [h1] at h;cases h
 rw [if_neg h1]
 by_cases h2:Ik c ms=true
 ·have e:Ft c ms=At c ms:=if_pos h2
  rw [e]
  have h3:ms.length≤8:=by
   unfold Ik N2 at h2
   simp only [Bool.and_eq_true,decide_eq_true_eq] at h2
   omega
  have:=S9 c ms
  exact ⟨l8 c ms,by omega⟩
 have e:Ft c ms=([],1):=if_neg h2
 rw [e] at h1
 exact absurd rfl h1
theorem rm {l:List (List Col)} (h:l≠[]):(l.map Ae)[l.length-1]? = some (Ae (l.getLastD [])):=by
 have h1:0<l.length:=List.length_pos_iff.2 h
 rw [List.getElem?_map,List.getElem?_eq_getElem (by omega),←List.getLast_eq_getElem (h:=h),List.getLastD_eq_getLast?,List.getLast?_eq_some_getLast h]
 rfl
theorem c47 (c:List Col) (hc:OkCols c) (hc2:c.length≤1000000) (l:List Mov) (h:OkMovs l) (Hp:List AObj):AFun Tryz.prog 47 [Ae c,Fs l] Hp (.tup [Ae (Gv c l).1,A2 (Gv c l).2]):=by
 refine ACall.body [.tmp 4,.tmp 5] [0,1] Tryz.func47 Tryz.ntmps47 (fun d=>?_)
 refine Z1 ?_;refine R.fin [0,1] ?_;refine Z1 ?_;refine R.call Tryz.call12 (c12 c hc hc2 l h _) ?_;refine Z51 ?_;refine R.fin [6,7] ?_;refine Z11 ?_;refine R.fin [6,7,15] ?_
 refine W.cond (fun ht15=>?_) (fun ht15=>?_)
 ·have hm:Gv c l=([],(Ce c l).2):=if_pos ht15
  exact ut
 have hm:Gv c l=((Ce c l).1.getLastD [],0):=if_neg (by rw [ht15];simp)
 obtain ⟨hne,hl9⟩:=l9 ht15
 have hl0:0<(Ce c l).1.length:=List.length_pos_iff.2 hne
 refine Qh ?_
 rw [List.length_map]
 refine R.go (h:=Q.sub64 (h1:=fun _=>by omega) (h2:=fun _=>by omega)) (hr:=?_)
 refine R.go (h:=Q.indexAddr (((Ce c l).1.length-1)) (Ae ((Ce c l).1.getLastD [])) (fun _=>rm hne)) (hr:=?_)
 refine Z23 ?_;exact ABh

theorem Uj {n k:Nat} {o:Bool} {l:List Str}:Low n (.slice o k (l.map A8)):=by simp [or_imp,forall_and]
theorem dc {n k:Nat} {o:Bool} {a:List Expr} {e:Expr}:Low n (.slice o k (a.map A7++[A7 e])):=low_slice.2 fun y hy=>by
 rcases List.mem_append.1 hy with h|h
 ·obtain ⟨m,_,rfl⟩:=List.mem_map.1 h
  exact Ad _ _
 rw [List.mem_singleton.1 h]
 exact Ad _ _
theorem Sa {n k:Nat} {o:Bool} {a:List Expr}:Low n (.slice o k (a.map A7)):=low_slice.2 fun y hy=>by
 obtain ⟨m,_,rfl⟩:=List.mem_map.1 hy
 exact Ad _ _
/-! fuse: trees in columns' places. -/
mutual
def putF (c:List Col) (l:List Expr):Expr→Option Expr
 | .mk o t v k=>if o==2 then (if Bj t c<0 then none else some (l.getD (Bj t c).toNat Ah)) else (yk c l k).map fun k'=>.mk o t v k'
def yk (c:List Col) (l:List Expr):List Expr→Option (List Expr)
  | []=>some []
  | e::r=>match putF c l e with
    | none=>none
    | some y=>(yk c l r).map fun s=>y::s
 end
set_option maxRecDepth 8000
/-! The parse laws where nothing is too deep. -/
/-! The parser from a word on, and of a source. -/
/-! Other trees have other words, and other prints. -/
/-! The laws of printing. -/
/-- show.Print. -/
def F1 (x:Expr):Str×Int:=if !(B2 x) then ([],1) else if decide ((4000:Int)<((A9 x).length:Int)) then ([],3) else (A9 x,0)
theorem xf {x:Expr} (h:(F1 x).2=0):Ck x=true∧(A9 x).length≤4000∧F1 x=(A9 x,0):=by
 unfold F1 at h ⊢
 split at h
 ·cases h
 rename_i h1
 split at h
 ·cases h
 rename_i h2
 rw [if_neg h1,if_neg h2]
 refine ⟨by rw [←Es];simpa using h1,by simp at h2;omega,rfl⟩
theorem I2 {x:Expr} (h:Ck x=true):Bx B3 x=true:=by
 unfold Ck at h
 rw [Bool.and_eq_true] at h
 exact h.2
set_option maxRecDepth 4000
theorem Js {k:List Expr} {i:Nat} (h:i<k.length):(k.map A7)[i]? = some (A7 (k.getD i Ah))∧k.getD i Ah∈k∧∀(f:Expr→Rs) (d:Rs),(k.map f).getD i d=f (k.getD i Ah):=by
 have e:k.getD i Ah=k[i]:=by rw [List.getD_eq_getElem?_getD,List.getElem?_eq_getElem h];rfl
 rw [e]
 refine ⟨by simp [h],List.getElem_mem h,fun f d=>?_⟩
 rw [List.getD_eq_getElem?_getD,List.getElem?_map,List.getElem?_eq_getElem h]
 rfl
theorem rn {e:Expr} (h:B3 e=true):(e.op=5→e.kids.length=2)∧(e.op=3∨e.op=4→e.kids.length=1)∧(e.op=6→B0 e.text=(e.kids.length:Int))∧(e.op=1∨e.op=2∨e.op=3∨e.op=4∨e.op=5∨e.op=6):=by
 cases G8 h with
 | val v hp h0=>simp [F7,Expr.op]
 | name t ht=>simp [B7,Expr.op]
 | neg a=>simp [Bz,Expr.op,Expr.kids]
 | no a=>simp [Bz,Expr.op,Expr.kids]
 | bin t a b ht=>simp [Cd,Expr.op,Expr.kids]
 | call t k ht=>simpa [Expr.op,Expr.kids,Expr.text] using ht
def M1 (s:Str):Int:=if s==[111,114] then 0 else if s==[97,110,100] then 1 else if (((((s==[61]) || (s==[33,61])) || (s==[60])) || (s==[60,61])) || (s==[62])) || (s==[62,61]) then 3 else if ((s==[43]) || (s==[45])) || (s==[38]) then 4 else if ((s==[42]) || (s==[47])) || (s==[37]) then 5 else 7
theorem la (s:Str):M1 s=if 0≤Ag s then Ag s else 7:=by
 by_cases hf:s∈levels.flatten
 ·have h3:(levels.flatten.all fun s=>decide (M1 s=if 0≤Ag s then Ag s else 7))=true:=by kernel_rfl
  exact of_decide_eq_true (List.all_eq_true.1 h3 s hf)
 have hn:=hf
 have h:Ag s = -1:=by
  rcases Gs s with h|⟨h,_⟩
  ·exact absurd h hf
  exact h
 rw [h]
 simp only [levels,List.flatten_cons,List.flatten_nil,List.append_nil,List.cons_append,List.nil_append,List.mem_cons,List.not_mem_nil,or_false,not_or] at hn
 obtain ⟨a1,a2,a3,a4,a5,a6,a7,a8,a9,b1,b2,b3,b4,b5⟩:=hn
 simp [M1, *]
/-- The level of a node. -/
def dd (e:Expr):Int:=if e.op==4 then 2 else if e.op==3 then 6 else if e.op==5 then M1 e.text else 7
theorem gi {e:Expr} (h:B3 e=true):dd e=(levE e:Int):=by
 unfold dd levE
 split
 ·rfl
 split
 ·rfl
 split
 ·rename_i h5
  have hb:0≤Ag e.text:=by
   have h5':e.op=5:=by simpa using h5
   rw [Gr] at h
   unfold Mq at h
   simp [h5'] at h
   exact h.2.1
  rw [la,if_pos hb]
  omega
 rfl
theorem AF3 (s:Str) (Hp:List AObj):AFun Tryz.prog 201 [A8 s] Hp (A2 (M1 s)):=by
 refine ACall.body [.tmp 2] [0] Tryz.func201 Tryz.ntmps201 (fun d=>?_)
 refine Z46 ?_;refine Z52 ?_;refine R.fin [3] ?_;refine Z71 ?_;refine R.fin [3,4] ?_
 refine W.cond (fun ht4=>?_) (fun ht4=>?_)
 ·exact np
 refine Z1 ?_;refine R.fin [3,6] ?_
 refine W.cond (fun ht6=>?_) (fun ht6=>?_)
 ·exact np
 refine W.join ⟨23,A6 3 (A8 s) (A6 8 (Ao ((((((s==[61]) || (s==[33,61])) || (s==[60])) || (s==[60,61])) || (s==[62])) || (s==[62,61]))) (fun _=>.any)),Hp,[],[],none⟩ ?_ ?_
 ·refine nn ?_
  refine W.cond (fun ht8=>?_) (fun ht8=>?_)
  ·exact nd
  refine nn ?_
  refine W.cond (fun ht8=>?_) (fun ht8=>?_)
  ·exact nd
  refine nn ?_
  refine W.cond (fun ht8=>?_) (fun ht8=>?_)
  ·exact nd
  refine nn ?_
  refine W.cond (fun ht8=>?_) (fun ht8=>?_)
  ·exact nd
  refine nn ?_
  refine W.cond (fun ht8=>?_) (fun ht8=>?_)
  ·exact nd
  refine Z13 ?_;refine R.fin [3,8] ?_;exact Z41
 refine W.cond (fun ht8=>?_) (fun ht8=>?_)
 ·exact np
 refine W.join ⟨23,A6 3 (A8 s) (A6 15 (Ao (((s==[43]) || (s==[45])) || (s==[38]))) (fun _=>.any)),Hp,[],[],none⟩ ?_ ?_
 ·refine Z1 ?_;refine R.fin [3,15] ?_
  refine W.cond (fun ht15=>?_) (fun ht15=>?_)
  ·refine W.keep [3,15] ?_;exact Z96
  refine Z1 ?_;refine R.fin [3,15] ?_
  refine W.cond (fun ht15=>?_) (fun ht15=>?_)
  ·refine W.keep [3,15] ?_;exact Z96
  refine Z13 ?_;refine R.fin [3,15] ?_;exact Z41
 refine W.cond (fun ht15=>?_) (fun ht15=>?_)
 ·exact np
 refine W.join ⟨23,A6 19 (Ao (((s==[42]) || (s==[47])) || (s==[37]))) (fun _=>.any),Hp,[],[],none⟩ ?_ ?_
 ·refine Z1 ?_;refine R.fin [3,19] ?_
  refine W.cond (fun ht19=>?_) (fun ht19=>?_)
  ·refine W.keep [19] ?_;exact Z96
  refine Z1 ?_;refine R.fin [3,19] ?_
  refine W.cond (fun ht19=>?_) (fun ht19=>?_)
  ·refine W.keep [19] ?_;exact Z96
  refine Z13 ?_;refine R.fin [19] ?_;exact Z41
 refine W.cond (fun ht19=>?_) (fun ht19=>?_)
 ·exact np
 refine Z21 ?_;refine Sv ?_;exact K.fin (V.one V.tmp) ⟨by simp_all [M1],rfl⟩

theorem AD1 (e:Expr) (Hp:List AObj):AFun Tryz.prog 177 [A7 e] Hp (A2 (dd e)):=by
 refine ACall.body [.tmp 2] [0] Tryz.func177 Tryz.ntmps177 (fun d=>?_)
 refine Z97 ?_;refine Z11 ?_;refine R.fin [1,4] ?_;refine Z71 ?_;refine R.fin [1,4,5] ?_
 refine W.cond (fun ht5=>?_) (fun ht5=>?_)
 ·refine Z2 ?_;exact yy
 refine Z1 ?_;refine R.fin [1,4,7] ?_
 refine W.cond (fun ht7=>?_) (fun ht7=>?_)
 ·refine Z2 ?_;exact yy
 refine Z1 ?_;refine R.fin [1,9] ?_
 refine W.cond (fun ht9=>?_) (fun ht9=>?_)
 ·refine Z1 ?_;refine R.call Tryz.call201 (AF3 e.text _) ?_;refine R.go ?_;exact yy
 refine Z21 ?_;refine Sv ?_;exact K.fin (V.one V.tmp) ⟨by simp_all [dd],rfl⟩

end Go.SX.Nb
namespace Go.Proofs
open Go.Shelf Go.RowKit

section
variable {P:Program} (w:World)

/-- Bytes behind a builder's bytes: what is handed back lies where it lay, or in the next block, or nowhere still. -/
theorem lb {t u ty e:TypeId} {i:TypeInfo} (ht:P.underlying t=some (.slice e)) (hu:P.underlying u=some .string) (hi:P.info? e=some i) (hz:i.zero=some (.int .u8 0)) (hsize:i.size=1) (hby:i.bytes=1)
  (v:Value) (n:Nat) (xs:List Value) (hown:w.ownsRow 0 e 1 v n xs) (s:ByteArray) (hb:n+s.size≤140737488355328):
  ∃v' w',(Builtin.append_ #[t,u] ty #[v,.string s]).run P w=.ok v' w'∧w'.ownsRow 0 e 1 v' (n+s.size) (xs++Lib.strCells s)∧w.grownBy w' v'.ownBlock ∧
   ((v=.slice none 0 0∧v'=v∧s.size=0)∨(∃g cap,v=.slice (some ⟨g,0,none⟩) n cap∧v'=.slice (some ⟨g,0,none⟩) (n+s.size) cap)∨∃cap,v'=.slice (some ⟨w.heap.size,0,none⟩) (n+s.size) cap∧0<n+s.size):=by
 have h63:n+s.size≤maxLen:=by unfold maxLen;omega
 obtain ⟨v',w',hr,h1,h2,h3⟩:=Lib.run_append_own_string (P:=P) w 0 t u ty e i ht hu hi hz hsize hby v n xs hown s h63 hb (Nat.zero_le _)
 have hxl:xs.length=n:=by simpa using hown.1
 refine ⟨v',w',hr,h1,?_⟩
 rcases hown.2 with ⟨rfl,rfl⟩|⟨g,cap,cur,rfl,hbg,hg,hnc,hcm,hcs,htake⟩
 ·by_cases hm:s.size=0
  ·have e1:=h3.2 ⟨rfl,hm⟩
   exact ⟨by rw [e1];exact h2,.inl ⟨rfl,e1,hm⟩⟩
  have hr2:=run_append_nil_string (P:=P) w t u ty e i (.int .u8 0) ht hu hi hz s (by omega) (by omega) (by rw [hby];omega)
  rw [hr] at hr2
  injection hr2 with e1 e2
  refine ⟨?_,.inr (.inr ⟨_,by rw [e1,Nat.zero_add],by omega⟩)⟩
  rw [e2]
  exact ⟨rfl,rfl,rfl,by simp,fun k hk _=>Lib.alloc_old w.drew _ k hk⟩
 by_cases hroom:n+s.size≤cap
 ·have hcs':cur.size=cap:=by simpa using hcs
  have hr2:=Lib.run_append_room_string (P:=P) w t u ty e i ht hu hi hsize g n cap cur hg s hroom (by omega)
  rw [hr] at hr2
  injection hr2 with e1 e2
  exact ⟨by rw [e1];exact h2,.inr (.inl ⟨g,cap,rfl,e1⟩)⟩
 have holds:∀j u,xs[j]? = some u→w.cell? ((⟨g,0,none⟩:Addr).add j)=some u:=hown.cells (g:=g) rfl
 have hr2:=Lib.run_append_grow_string (P:=P) w t u ty e i (.int .u8 0) ht hu hi hz ⟨g,0,none⟩ n cap xs (by rw [hsize];simpa using hxl) holds s (by omega) (by omega) (by rw [hby];exact growslice_fits (by omega) (by omega))
 rw [hr] at hr2
 injection hr2 with e1 e2
 refine ⟨?_,.inr (.inr ⟨_,e1,by omega⟩)⟩
 rw [e2]
 exact ⟨rfl,rfl,rfl,by simp,fun k hk _=>Lib.alloc_old w.drew _ k hk⟩
end

theorem Oh {P:Program} {w w':World} {ops:Array Oper} {rest:List Oper} {o:Oper} {a:Act} {Q:Exit→Act→World→Prop} {v v':Value} {s:ByteArray} (hgd:o.guard=none) (sl x:Operand) (t u ty:TypeId)
  (ho:o.op=.call { callee:=.builtin .append,args:=#[sl,x],argTypes:=#[t,u] }) (hty:o.type=ty) (hs:a.eval sl=v) (hx:a.eval x=.string s) (hrun:(Builtin.append_ #[t,u] ty #[v,.string s]).run P w=.ok v' w')
  (h:wpList P ops Q rest (a.put o.dst v') w'):wpList P ops Q (o::rest) a w:=by
 refine wpList_plain hgd fun K hK=>?_
 subst hty
 unfold Oper.wp execOp
 simp only [ho,resolve,invoke,builtin,Sem.run_bind,Sem.run_pure,Result.andThen_ok,List.map_toArray,List.map_cons,List.map_nil,hs,hx,hrun]
 exact hK _ _ h

section
variable {P:Program} {ρ:Ren}

set_option maxHeartbeats 1000000 in
set_option maxRecDepth 100000 in
/-- The check of an unused builder within a block of type T. -/
theorem lc (L:Lays.n240 P ρ) (X:Builder.X72 P ρ) {T:TypeId} (hl:liesAt P P.depth T (2 / P.cellsOf T) 0 (ρ.t 72) 1=true) (b:Nat) (w:World) (h0:w.cell? ⟨b,0,none⟩=some (.pointer none)) (hsh:w.shape? b=some (T,2)) (hfz:w.frozen? ⟨b,0,none⟩=false):
  Calls P (ρ.f 240) #[.pointer (some ⟨b,0,none⟩)] w fun e w'=>e=.returned (.tuple #[])∧w'=w.setCell ⟨b,0,none⟩ (.pointer (some ⟨b,0,none⟩)):=by
 obtain ⟨j,hj,hjs⟩:=Option.map_eq_some_iff.1 X.sizeBuilder
 have mixed:=L.mixed
 have t72:=L.t72;have a72:=L.a72;have z72:=L.z72;have v72:=L.v72;have u72:=run_underlying L.t72
 have t70:=L.t70;have a70:=L.a70;have z70:=L.z70;have v70:=L.v70;have u70:=run_underlying L.t70
 have t9:=L.t9;have a9:=L.a9;have z9:=L.z9;have v9:=L.v9;have u9:=run_underlying L.t9
 have t4:=L.t4;have a4:=L.a4;have z4:=L.z4;have v4:=L.v4;have u4:=run_underlying L.t4
 have t164:=L.t164;have a164:=L.a164;have z164:=L.z164;have v164:=L.v164;have u164:=run_underlying L.t164
 go_enter L.f240,Body.n240_ntmps ρ
 go_wp2
 rw [Lib.run_to_unsafe w ⟨b,0,none⟩ L.t70 L.t164 hj (by rw [hjs];decide) hsh (Nat.zero_lt_succ 1)]
 simp only [Result.andThen]
 rw [Oper.upon_value]
 go_wp2
 rw [run_callFunc_extern L.f276 (by kernel_rfl) (by kernel_rfl) (by kernel_rfl) (e:=Extern.AbiNoEscape.same) (by kernel_rfl)]
 rw [Lib.run_noEscape]
 simp only [Result.andThen]
 rw [Oper.upon_value]
 go_wp2
 rw [Lib.run_from_unsafe w ⟨b,0,none⟩ L.t164 L.t70 hj hsh hl]
 simp only [Result.andThen]
 rw [Oper.upon_value]
 go_wp2
 go_end0
 exact ⟨rfl,rfl⟩

/-- The check: behind it the first cell holds the builder's own address; nothing else turns. -/
theorem rp (L:Lays.n240 P ρ) (X:Builder.X72 P ρ) {T e:TypeId} (hl:liesAt P P.depth T (2 / P.cellsOf T) 0 (ρ.t 72) 1=true) (b:Nat) (p v:Value) (n:Nat) (bs:List Value) (w:World) (h:K5 T e b p v n bs w):
  Calls P (ρ.f 240) #[.pointer (some ⟨b,0,none⟩)] w fun e' w'=>e'=.returned (.tuple #[])∧K5 T e b (.pointer (some ⟨b,0,none⟩)) v n bs w'∧w.grownBy w' (some b)∧w'.heap.size=w.heap.size:=by
 obtain ⟨h1,hp,h3,h4⟩:=h
 rcases hp with rfl|rfl
 ·refine (lc L X hl b w (by rw [Lib.cell_of_heap h1];rfl) (by simp [World.shape?,h1]) (Lib.frozen_of_heap h1 0)).mono ?_
  rintro e' w' ⟨rfl,rfl⟩
  have hgr:w.grownBy (w.setCell ⟨b,0,none⟩ (.pointer (some ⟨b,0,none⟩))) (some b):=⟨rfl,rfl,rfl,by simp [World.setCell],fun k _ hk=>Below.heap_setCell _ _ _ _ (fun e=>hk (by simp [e]))⟩
  exact ⟨rfl,⟨by simp [World.setCell,Array.getElem?_modify,h1],.inr rfl,h3.kept hgr (.inr h4),h4⟩,hgr,by simp [World.setCell]⟩
 refine (Any.Builder_copyCheck_used L X b w (by rw [Lib.cell_of_heap h1];rfl)).mono ?_
 rintro e' w' ⟨rfl,rfl⟩
 exact ⟨rfl,⟨h1,.inr rfl,h3,h4⟩,⟨rfl,rfl,rfl,Nat.le_refl _,fun _ _ _=>rfl⟩,rfl⟩

set_option maxHeartbeats 1000000 in
set_option maxRecDepth 100000 in
/-- How many bytes there are. -/
theorem bldLen (L:Lays.n170 P ρ) {T e:TypeId} (b:Nat) (p v:Value) (n:Nat) (bs:List Value) (w:World) (h:K5 T e b p v n bs w):
  Calls P (ρ.f 170) #[.pointer (some ⟨b,0,none⟩)] w fun e' w'=>e'=.returned (.int .i64 n)∧w'=w:=by
 obtain ⟨h1,_,h3,_⟩:=h
 obtain ⟨ao,cap,rfl⟩:∃ao cap,v=.slice ao n cap:=by
  rcases h3.2 with ⟨hv,h0⟩|⟨g,cap,cur,hv,_⟩
  ·exact ⟨none,0,by rw [hv,h0]⟩
  exact ⟨_,_,hv⟩
 have c1:w.cell? ⟨b,1,none⟩=some (.slice ao n cap):=by rw [Lib.cell_of_heap h1];rfl
 have mixed:=L.mixed
 have t72:=L.t72;have a72:=L.a72;have z72:=L.z72;have v72:=L.v72;have u72:=run_underlying L.t72
 have t70:=L.t70;have a70:=L.a70;have z70:=L.z70;have v70:=L.v70;have u70:=run_underlying L.t70
 have t37:=L.t37;have a37:=L.a37;have z37:=L.z37;have v37:=L.v37;have u37:=run_underlying L.t37
 have t3:=L.t3;have a3:=L.a3;have z3:=L.z3;have v3:=L.v3;have u3:=run_underlying L.t3
 go_enter L.f170,Body.n170_ntmps ρ
 go_wp2
 go_ret
 exact ⟨rfl,rfl⟩

set_option maxHeartbeats 2000000 in
set_option maxRecDepth 100000 in
/-- A text is written behind it. -/
theorem bldWrite (L:Lays.n166 P ρ) (X:Builder.Extra P ρ) {T:TypeId} (hl:liesAt P P.depth T (2 / P.cellsOf T) 0 (ρ.t 72) 1=true) (hTe:T≠ρ.t 5) (b:Nat) (p v:Value) (n:Nat) (bs:List Value) (s:ByteArray) (w:World) (h:K5 T (ρ.t 5) b p v n bs w)
  (hlen:n+s.size≤140737488355328):
  Calls P (ρ.f 166) #[.pointer (some ⟨b,0,none⟩),.string s] w fun e w'=>e=.returned (.tuple #[.int .i64 s.size,.nilIface])∧∃v',K5 T (ρ.t 5) b (.pointer (some ⟨b,0,none⟩)) v' (n+s.size) (bs++Lib.strCells s) w' ∧
   (w'.os=w.os∧w'.tape=w.tape∧w'.output=w.output∧w.heap.size≤w'.heap.size)∧(∀k,k<w.heap.size→k≠b→v'.ownBlock≠some k→w'.heap[k]? = w.heap[k]?) ∧
   ((v=.slice none 0 0∧v'=v∧s.size=0)∨(∃g cap,v=.slice (some ⟨g,0,none⟩) n cap∧v'=.slice (some ⟨g,0,none⟩) (n+s.size) cap)∨∃cap,v'=.slice (some ⟨w.heap.size,0,none⟩) (n+s.size) cap∧0<n+s.size):=by
 obtain ⟨i0,hi,hz0,hz1,hz2⟩:=info_parts X.infoByte
 have mixed:=L.mixed
 have t72:=L.t72;have a72:=L.a72;have z72:=L.z72;have v72:=L.v72;have u72:=run_underlying L.t72
 have t70:=L.t70;have a70:=L.a70;have z70:=L.z70;have v70:=L.v70;have u70:=run_underlying L.t70
 have t37:=L.t37;have a37:=L.a37;have z37:=L.z37;have v37:=L.v37;have u37:=run_underlying L.t37
 have t3:=L.t3;have a3:=L.a3;have z3:=L.z3;have v3:=L.v3;have u3:=run_underlying L.t3
 have t9:=L.t9;have a9:=L.a9;have z9:=L.z9;have v9:=L.v9;have u9:=run_underlying L.t9
 have t4:=L.t4;have a4:=L.a4;have z4:=L.z4;have v4:=L.v4;have u4:=run_underlying L.t4
 have t164:=L.t164;have a164:=L.a164;have z164:=L.z164;have v164:=L.v164;have u164:=run_underlying L.t164
 have t5:=X.t5;have a5:=X.a5;have z5:=X.z5;have v5:=X.v5;have u5:=run_underlying X.t5
 have e240:∀args w,(callFunc (ρ.f 240) args).run P w=.ok (.enter (ρ.f 240) args) w:=enters_of L.f240 (by kernel_rfl) rfl
 go_enter L.f166,Body.n166_ntmps ρ
 go_wp2_with (go_at_fn (ρ.f 240);refine (rp { L with } X.toX72 hl b p v n bs _ h).mono ?_)
 rintro e w1 ⟨rfl,⟨hbk,_,hown,hne⟩,hg1,hs1⟩
 have c0:w1.cell? ⟨b,0,none⟩=some (.pointer (some ⟨b,0,none⟩)):=by rw [Lib.cell_of_heap hbk];rfl
 have c1:w1.cell? ⟨b,1,none⟩=some v:=by rw [Lib.cell_of_heap hbk];rfl
 obtain ⟨v',w2,hrun,hown',hgrow,hcase⟩:=lb (P:=P) w1 (ty:=ρ.t 37) L.t37 L.t9 hi hz0 hz1 hz2 v n bs hown s hlen
 have hlt:b<w1.heap.size:=(Array.getElem?_eq_some_iff.1 hbk).1
 have hne':v'.ownBlock≠some b:=by
  rcases hcase with ⟨_,e1,_⟩|⟨g,cap,e1,e2⟩|⟨cap,e1,_⟩
  ·rw [e1];exact hne
  ·rw [e2];rw [e1] at hne;exact hne
  rw [e1];simp [Value.ownBlock];omega
 have hb2:w2.heap[b]? = some (.cells #[.pointer (some ⟨b,0,none⟩),v] T (0,0)):=by
  rw [hgrow.block b hlt (fun e=>hne' e.symm)]
  exact hbk
 have d0:w2.cell? ⟨b,0,none⟩=some (.pointer (some ⟨b,0,none⟩)):=by rw [Lib.cell_of_heap hb2];rfl
 have d1:w2.cell? ⟨b,1,none⟩=some v:=by rw [Lib.cell_of_heap hb2];rfl
 have f1:w2.frozen? ⟨b,1,none⟩=false:=Lib.frozen_of_heap hb2 1
 obtain ⟨ao,n',cap,rfl⟩:∃ao n' cap,v'=.slice ao n' cap:=by
  rcases hown'.2 with ⟨hv,_⟩|⟨g,cap,cur,hv,_⟩
  ·exact ⟨_,_,_,hv⟩
  exact ⟨_,_,_,hv⟩
 go_wp2_with (at_builtin;refine Oh rfl _ _ (ρ.t 37) (ρ.t 9) (ρ.t 37) rfl rfl rfl rfl hrun ?_)
 go_ret2
 refine ⟨rfl,_,⟨by simp [World.setCell,Array.getElem?_modify,hb2],.inr rfl,hown'.kept (row:=some b) ⟨rfl,rfl,rfl,by simp [World.setCell],fun k _ hk=>Below.heap_setCell _ _ _ _ (fun e=>hk (by simp [e]))⟩ (.inr hne'),hne'⟩,⟨?_,?_,?_,?_⟩,fun k hk hkb hkr=>?_,?_⟩
 ·exact hgrow.os.trans hg1.os
 ·exact hgrow.tape.trans hg1.tape
 ·exact hgrow.output.trans hg1.output
 ·have:=hgrow.size
  simp [World.setCell];omega
 ·rw [Below.heap_setCell _ _ _ _ hkb,hgrow.block k (by omega) (fun e=>hkr e.symm),hg1.block k hk (by simpa using hkb)]
 rw [hs1] at hcase;exact hcase

set_option maxHeartbeats 2000000 in
set_option maxRecDepth 100000 in
/-- Its text: some of its row is frozen; nothing else turns. -/
theorem bldString (L:Lays.n169 P ρ) (X:Builder.Extra P ρ) {T:TypeId} (b:Nat) (p v:Value) (l:List UInt8) (w:World) (h:K5 T (ρ.t 5) b p v l.length (Lib.byteCells l) w) (hcap:∀g,v≠.slice (some ⟨g,0,none⟩) 0 0):
  Calls P (ρ.f 169) #[.pointer (some ⟨b,0,none⟩)] w fun e w'=>e=.returned (.string ⟨l.toArray⟩)∧(w'.os=w.os∧w'.tape=w.tape∧w'.output=w.output∧w.heap.size≤w'.heap.size)∧∀k,v.ownBlock≠some k→w'.heap[k]? = w.heap[k]? := by
 obtain ⟨hbk,_,hown,hne⟩:=h
 have mixed:=L.mixed
 have t72:=L.t72;have a72:=L.a72;have z72:=L.z72;have v72:=L.v72;have u72:=run_underlying L.t72
 have t70:=L.t70;have a70:=L.a70;have z70:=L.z70;have v70:=L.v70;have u70:=run_underlying L.t70
 have t37:=L.t37;have a37:=L.a37;have z37:=L.z37;have v37:=L.v37;have u37:=run_underlying L.t37
 have t127:=L.t127;have a127:=L.a127;have z127:=L.z127;have v127:=L.v127;have u127:=run_underlying L.t127
 have t3:=L.t3;have a3:=L.a3;have z3:=L.z3;have v3:=L.v3;have u3:=run_underlying L.t3
 have t9:=L.t9;have a9:=L.a9;have z9:=L.z9;have v9:=L.v9;have u9:=run_underlying L.t9
 have t5:=X.t5;have a5:=X.a5;have z5:=X.z5;have v5:=X.v5;have u5:=run_underlying X.t5
 rcases hown.2 with ⟨rfl,h0⟩|⟨g,cap,cur,rfl,hbg,hg,hnc,hcm,hcs,htake⟩
 ·have hl:l=[]:=List.eq_nil_of_length_eq_zero h0
  subst hl
  have hUS:=Any.unsafeString_none L X
  have c1:w.drew.cell? ⟨b,1,none⟩=some (.slice none 0 0):=by
   have:w.drew.heap[b]? = some (.cells #[p,.slice none 0 0] T (0,0)):=hbk
   rw [Lib.cell_of_heap this];rfl
  have hSD:(Builtin.unsafeSliceData_ #[(ρ.t 37)] (ρ.t 127) #[.slice none 0 0]).run P w.drew=.ok (.pointer none) w.drew:=rfl
  go_enter L.f169,Body.n169_ntmps ρ
  go_wp2
  go_region_o
  all_goals (go_wp2;go_ret;exact ⟨rfl,⟨rfl,rfl,rfl,Nat.le_refl _⟩,fun _ _=>rfl⟩)
 have hc0:cap≠0:=by
  rintro rfl
  exact hcap g (by rw [show l.length=0 by omega])
 have c1:w.drew.cell? ⟨b,1,none⟩=some (.slice (some ⟨g,0,none⟩) l.length cap):=by
  have:w.drew.heap[b]? = some (.cells #[p,.slice (some ⟨g,0,none⟩) l.length cap] T (0,0)):=hbk
  rw [Lib.cell_of_heap this];rfl
 have hSD:(Builtin.unsafeSliceData_ #[(ρ.t 37)] (ρ.t 127) #[.slice (some ⟨g,0,none⟩) l.length cap]).run P w.drew=.ok (.pointer (some ⟨g,0,none⟩)) w.drew:=
  Lib.run_unsafeSliceData_row _ _ _ _ _ _ hc0
 by_cases hl:l=[]
 ·subst hl
  have hUS:=Any.unsafeString_none L X
  clear hc0 hcap
  simp only [List.length_nil] at c1 hSD
  go_enter L.f169,Body.n169_ntmps ρ
  go_wp2
  go_region_o
  all_goals (go_wp2;go_ret;exact ⟨rfl,⟨rfl,rfl,rfl,Nat.le_refl _⟩,fun _ _=>rfl⟩)
 have hUS:(Builtin.unsafeString_ #[(ρ.t 127),(ρ.t 3)] (ρ.t 9) #[.pointer (some ⟨g,0,none⟩),.int .i64 l.length]).run P w.drew=.ok (.string ⟨l.toArray⟩) (w.drew.freeze ⟨g,0,none⟩ l.length):=by
  refine Lib.run_unsafeString_row w.drew (ρ.t 127) (ρ.t 3) (ρ.t 9) (ρ.t 5) L.t127 X.cellsByte g cur.size (by have hg':w.drew.heap[g]? = some (.cells cur (ρ.t 5) (0,0)):=hg;simp [World.shape?,hg']) l hl (by omega) (by unfold maxLen at hcm;omega) ?_
  intro j x hx
  exact hown.cells (g:=g) rfl j (.int .u8 x.toNat) (by simp [Lib.byteCells,hx])
 have hfz:∀k,g≠k→(w.drew.freeze ⟨g,0,none⟩ l.length).heap[k]? = w.heap[k]? := fun k hk=>by
  unfold World.freeze
  split
  ·rfl
  show (w.heap.modify g _)[k]? = _
  rw [Array.getElem?_modify,if_neg hk]
 have hfs:(w.drew.freeze ⟨g,0,none⟩ l.length).heap.size=w.heap.size:=by
  unfold World.freeze
  split
  ·rfl
  show (w.heap.modify g _).size=_
  simp
 have hfo:(w.drew.freeze ⟨g,0,none⟩ l.length).os=w.os∧(w.drew.freeze ⟨g,0,none⟩ l.length).tape=w.tape∧(w.drew.freeze ⟨g,0,none⟩ l.length).output=w.output:=by
  unfold World.freeze
  split<;>exact ⟨rfl,rfl,rfl⟩
 clear hc0 hcap
 go_enter L.f169,Body.n169_ntmps ρ
 go_wp2
 go_region_o
 all_goals (go_wp2;go_ret;exact ⟨rfl,⟨hfo.1,hfo.2.1,hfo.2.2,Nat.le_of_eq hfs.symm⟩,fun k hk=>hfz k (fun e=>hk (by rw [e];rfl))⟩)
end
end Go.Proofs

namespace Go.SX.Nb
open Go Go.SX Go.Proofs Go.Shelf
variable [ErrAt]
set_option maxRecDepth 8000
/-! show's builder. -/
theorem xg:Builder.Extra Tryz.prog Tryz.ren155 where
 sizeBuilder:=by kernel_rfl
 liesBuilder:=by kernel_rfl
 t5:=Tryz.underlying5
 a5:=Tryz.isAgg5
 z5:=Tryz.sizeOf5
 v5:=Tryz.zeroValue5
 infoByte:=by kernel_rfl
 cellsByte:=by kernel_rfl
 sizeByte:=by kernel_rfl
 neB5:=by decide
theorem xh:liesAt Tryz.prog Tryz.prog.depth 199 (2 / Tryz.prog.cellsOf 199) 0 116 1=true:=by kernel_rfl
abbrev Sb (bs:Str):AObj:=.bld 199 5 bs
theorem Ca {n:Nat} {bs:Str}:ObjLow n (Sb bs):=trivial
/-- (*strings.Builder).WriteString. -/
theorem c66 (bs s:Str) (hl:bs.length+s.length≤140737488355328) (o:Nat) (Hp:List AObj) (ho:Hp[o]? = some (Sb bs)):
  ACall Tryz.prog 66 [.ptr o 0,A8 s] Hp (fun r H'=>r=.tup [A2 s.length,.v .nilIface]∧H'=Hp.set o (Sb (bs++s))):=by
 refine ACall.bldWrite ho (fun b p v w h=>?_)
 have hw:=bldWrite Tryz.lays166 xg (T:=199) xh (by decide) b p v bs.length (Lib.byteCells bs) ⟨s.toArray⟩ w h (by rw [Dd];exact hl)
 rw [Dd,Lib.strCells_eq,←Lib.byteCells_append] at hw
 exact hw
/-- (*strings.Builder).Len. -/
theorem c67 (bs:Str) (o:Nat) (Hp:List AObj) (ho:Hp[o]? = some (Sb bs)):AFun Tryz.prog 67 [.ptr o 0] Hp (A2 bs.length):=
 AFun.bldLen ho (fun b p v w h=>bldLen Tryz.lays170 (T:=199) (e:=5) b p v _ _ w h)
/-- (*strings.Builder).String. -/
theorem c68 (bs:Str) (o:Nat) (Hp:List AObj) (ho:Hp[o]? = some (Sb bs)):ACall Tryz.prog 68 [.ptr o 0] Hp (fun r H'=>r=A8 bs∧H'=Hp.set o (.cells 199 [.any,.any])):=
 ACall.bldString ho (fun b p v w h hc=>bldString (ρ:=Tryz.ren155) { Tryz.lays155 with } xg (T:=199) b p v bs w h hc)
end Go.SX.Nb
namespace Go.SX.Nb
open Go Go.SX Go.Proofs
variable [ErrAt]
set_option maxRecDepth 4000
abbrev yl:AV:=.v (.tuple #[])
abbrev Fj:Nat:=1099511627776
/-- What node writes. -/
def rq (e:Expr):Prop:=∀(o:Nat) (bs:Str) (Hp:List AObj),Hp[o]? = some (Sb bs)→bs.length+(A9 e).length≤Fj→ACall Tryz.prog 162 [.ptr o 0,A7 e] Hp (fun r H'=>r=yl∧H'=Hp.set o (Sb (bs++A9 e)))
theorem lf (e:Expr):A9 e=N7 e.op e.text e.val e.kids (e.kids.map A9):=by
 cases e with
 | mk o t v k=>rw [A9,Jj];rfl
theorem xi {k:List Expr} {i:Nat} (h:i<k.length):(k.map A9).getD i []=A9 (k.getD i Ah):=by
 rw [List.getD_eq_getElem?_getD,List.getD_eq_getElem?_getD,List.getElem?_map,List.getElem?_eq_getElem h]
 rfl
theorem Uk (l:List Str) (s:Str):E7 (l++[s])=E7 l++(44::32::s):=by
 induction l with
 | nil=>simp [E7]
 | cons a r ih=>simp [E7,ih]
theorem rr {k:List Expr} {x:Nat} (h:x<k.length):(E7 ((k.take (x+1)).map A9)).drop 2=(E7 ((k.take x).map A9)).drop 2++(if 0<x then [44,32] else [])++A9 k[x]:=by
 rw [List.take_succ_eq_append_getElem h,List.map_append,List.map_singleton,Uk]
 cases x with
 | zero=>simp [E7]
 | succ x =>
  have:2≤(E7 ((k.take (x+1)).map A9)).length:=by
   rw [List.take_succ_eq_append_getElem (by omega),List.map_append,List.map_singleton,Uk]
   simp
   omega
  rw [List.drop_append_of_le_length this,if_pos (by omega)]
  simp
theorem AAn {k:List Expr} (x:Nat):(E7 ((k.take x).map A9)).length≤(E7 (k.map A9)).length:=by
 have:k.map A9=(k.take x).map A9++(k.drop x).map A9:=by rw [←List.map_append,List.take_append_drop]
 rw [this]
 have:∀a b:List Str,(E7 a).length≤(E7 (a++b)).length:=by
  intro a b
  induction a with
  | nil=>simp [E7]
  | cons c r ih=>simp [E7];exact ih
 exact this _ _
theorem Yy {H:List AObj} {o:Nat} {a b:AObj}:(H.set o a).set o b=H.set o b:=List.set_set _
theorem lg (e:Expr) (he:rq e) (hlev:dd e=(levE e:Int)) (least:Nat) (l0:Int) (hl0:l0=(least:Int)) (o:Nat) (bs:Str) (Hp:List AObj) (ho:Hp[o]? = some (Sb bs)) (hb:bs.length+(I8 least e (A9 e)).length≤Fj):ACall Tryz.prog 179 [.ptr o 0,A7 e,A2 l0] Hp (fun r H'=>r=yl∧H'=Hp.set o (Sb (bs++I8 least e (A9 e)))):=by
 subst hl0
 refine ACall.body [] [0,1,2] Tryz.func179 Tryz.ntmps179 (fun d=>?_)
 refine Z2 ?_;refine R.fin [0,2,4] ?_;refine Z52 ?_;refine R.call Tryz.call177 (AD1 e _) ?_;refine Z0 ?_;refine R.fin [0,4,9] ?_
 refine W.cond (fun ht9=>?_) (fun ht9=>?_)
 ·have hz:least≤levE e:=by
   have h:=ht9
   rw [hlev] at h
   simpa using h
  rw [show I8 least e (A9 e)=A9 e from if_pos hz] at hb ⊢
  refine Z1 ?_;refine R.callUp Tryz.call162 ho (by simp) Ca (he o bs _ (A4 ho) (by omega)) ?_;refine nr ?_;exact K.fin .nores ⟨rfl,by simp⟩
 have hz:¬least≤levE e:=by
  have h:=ht9
  rw [hlev] at h
  simpa using h
 rw [show I8 least e (A9 e)=40::(A9 e++[41]) from if_neg hz] at hb ⊢
 simp only [List.length_cons,List.length_append,List.length_nil,Fj] at hb
 refine Qh ?_
 refine R.callUp Tryz.call66 ho (by simp) Ca (c66 bs [40] (by simp only [Fj,List.length_append,List.length_cons,List.length_nil] at *;omega) o _ (A4 ho)) ?_
 refine R.fin [0,4] ?_;refine Z1 ?_
 refine R.callUp Tryz.call162 (getset ho) (by simp) Ca (he o (bs++[40]) _ (A4 (getset ho)) (by simp only [Fj,List.length_append,List.length_cons,List.length_nil] at *;omega)) ?_
 refine R.fin [0] ?_;refine Z60 ?_
 refine R.callUp Tryz.call66 (getset (getset ho)) (by simp) Ca (c66 (bs++[40]++A9 e) [41] (by simp only [Fj,List.length_append,List.length_cons,List.length_nil] at *;omega) o _ (A4 (getset (getset ho)))) ?_
 refine R.fin [] ?_;exact K.finN .nores ⟨rfl,by simp⟩

theorem AF4:∀(n:Nat) (e:Expr),okE n e→Bx B3 e=true→Bx Ew e=true→rq e:=by
 intro n
 induction n with
 | zero=>exact fun e h=>h.elim
 | succ n ih =>
 intro e hok hnd hrg o bs Hp ho hb
 have hnd0:=hnd
 have hrg0:=hrg
 rw [Dx,Bool.and_eq_true] at hnd0 hrg0
 have hev:∀y∈e.kids,rq y:=fun y hy=>ih y (hok.2.2 y hy) ((Df _ _).1 hnd0.2 y hy) ((Df _ _).1 hrg0.2 y hy)
 have hlv:∀y∈e.kids,dd y=(levE y:Int):=fun y hy=>gi (by have:=(Df _ _).1 hnd0.2 y hy;rw [Dx,Bool.and_eq_true] at this;exact this.1)
 obtain ⟨k5,k34,k6,kall⟩:=rn hnd0.1
 have hi64:v8 e.val.n:=by
  have:=hrg0.1
  simp only [Ew,Bool.and_eq_true,decide_eq_true_eq] at this
  exact this
 have hlv0:=gi hnd0.1
 have pe:=lf e
 have hol:=(List.getElem?_eq_some_iff.1 ho).1
 unfold N7 at pe
 refine ACall.body [] [0,1] Tryz.func162 Tryz.ntmps162 (fun d=>?_)
 refine Z2 ?_;refine L9 ?_;refine Z2 ?_;refine R.call Tryz.call177 (AD1 e _) ?_;refine R.go ?_;refine R.fin [0,3,4] ?_;refine Z1 ?_;refine R.fin [0,3,4,11] ?_;refine Z71 ?_;refine R.fin [0,3,4,11,12] ?_
 refine W.cond (fun ht12=>?_) (fun ht12=>?_)
 ·rw [if_pos ht12] at pe
  refine W.drawQ0 [0,1,3,0,8,24,63] 6 Ac (by kernel_rfl) ?_;refine ak ?_;refine D.call Tryz.call178 (ACi e.val hi64 _) ?_;refine D.tail ?_
  refine R.callUp Tryz.call66 ho (by simp) Ca (c66 bs (Bs e.val) (by rw [pe] at hb;simp only [Fj] at hb;omega) o _ (A4 ho)) ?_
  exact Z58
 rw [if_neg (by rw [ht12];simp)] at pe
 refine Z1 ?_;refine R.fin [0,3,4,11,21] ?_
 refine W.cond (fun ht21=>?_) (fun ht21=>?_)
 ·rw [if_pos ht21] at pe
  refine W.drawQ0 [0,1,3,0,8,31] 5 Ac (by kernel_rfl) ?_;refine ak ?_;refine D.tail ?_
  refine R.callUp Tryz.call66 ho (by simp) Ca (c66 bs e.text (by rw [pe] at hb;simp only [Fj] at hb;omega) o _ (A4 ho)) ?_
  exact Z58
 rw [if_neg (by rw [ht21];simp)] at pe
 refine Z1 ?_;refine R.fin [0,3,4,11,29] ?_
 refine W.cond (fun ht29=>?_) (fun ht29=>?_)
 ·rw [if_pos ht29] at pe
  have hkl:=k34 (.inl (by simpa using ht29))
  rw [xi (by omega)] at pe
  rw [pe] at hb
  simp only [List.length_cons,Fj] at hb
  refine Z18 ?_
  refine R.callUp Tryz.call66 ho (by simp) Ca (c66 bs [45] (by simp only [Fj,List.length_append,List.length_cons,List.length_nil] at *;omega) o _ (A4 ho)) ?_
  refine L9 ?_;refine Z60 ?_
  refine R.go (h:=Q.indexAddr (0) (A7 (e.kids.getD 0 Ah)) (fun _=>(Js (by omega)).1)) (hr:=?_)
  refine R.go ?_
  refine R.callUp Tryz.call179 (getset ho) (by simp) Ca (lg (e.kids.getD 0 Ah) (hev _ (Js (by omega)).2.1) (hlv _ (Js (by omega)).2.1) (6) _ (rfl) o (bs++[45]) _ (A4 (getset ho)) (by simp only [Fj,List.length_append,List.length_cons,List.length_nil] at *;omega)) ?_
  exact Z58
 rw [if_neg (by rw [ht29];simp)] at pe
 refine Z1 ?_;refine R.fin [0,3,4,11,41] ?_
 refine W.cond (fun ht41=>?_) (fun ht41=>?_)
 ·rw [if_pos ht41] at pe
  have hkl:=k34 (.inr (by simpa using ht41))
  rw [xi (by omega)] at pe
  rw [pe] at hb
  simp only [List.length_cons,List.length_append,Ri,List.length_nil,Fj] at hb
  refine Z18 ?_
  refine R.callUp Tryz.call66 ho (by simp) Ca (c66 bs [110,111,116,32] (by simp only [Fj,List.length_append,List.length_cons,List.length_nil] at *;omega) o _ (A4 ho)) ?_
  refine L9 ?_;refine Z60 ?_
  refine R.go (h:=Q.indexAddr (0) (A7 (e.kids.getD 0 Ah)) (fun _=>(Js (by omega)).1)) (hr:=?_)
  refine R.go ?_
  refine R.callUp Tryz.call179 (getset ho) (by simp) Ca (lg (e.kids.getD 0 Ah) (hev _ (Js (by omega)).2.1) (hlv _ (Js (by omega)).2.1) (2) _ (rfl) o (bs++[110,111,116,32]) _ (A4 (getset ho)) (by simp only [Fj,List.length_append,List.length_cons,List.length_nil] at *;omega)) ?_
  exact Z58
 rw [if_neg (by rw [ht41];simp)] at pe
 refine Z1 ?_;refine R.fin [0,3,4,11,53] ?_
 refine W.cond (fun ht53=>?_) (fun ht53=>?_)
 ·rw [if_pos ht53] at pe
  have h5:e.op=5:=by simpa using ht53
  have hkl:=k5 h5
  have hlv5:levE e=(Ag e.text).toNat:=by simp [levE,h5]
  have hl5:=Mt e.text
  rw [xi (by omega),xi (by omega)] at pe
  rw [pe] at hb
  simp only [List.length_cons,List.length_append,Fj] at hb
  rw [hlv0,hlv5]
  refine Z1 ?_;refine R.fin [0,3,4,5] ?_;refine Z11 ?_;refine R.fin [0,3,4,5,57] ?_
  refine W.cond (fun ht57=>?_) (fun ht57=>?_)
  ·have h3:(Ag e.text).toNat=3:=by have:=ht57;simp at this;omega
   have hf1:(((Ag e.text).toNat:Int)+1)=((Cw (Ag e.text).toNat:Nat):Int):=by rw [h3];rfl
   refine Z60 ?_;refine R.fin [0,3,4,5] ?_;refine K.thN ?_;refine Z18 ?_
   refine R.go (h:=Q.indexAddr (0) (A7 (e.kids.getD 0 Ah)) (fun _=>(Js (by omega)).1)) (hr:=?_)
   refine Z0 ?_
   refine R.callUp Tryz.call179 ho (by simp) Ca (lg (e.kids.getD 0 Ah) (hev _ (Js (by omega)).2.1) (hlv _ (Js (by omega)).2.1) (Cw (Ag e.text).toNat) _ (by first|exact hf1|rw [hf2]) o (bs) _ (A4 ho) (by simp only [Fj,List.length_append,List.length_cons,List.length_nil] at *;omega)) ?_
   refine ABp ?_;refine ak ?_
   refine D.go (h:=Q.sadd (hl:=fun _=>by simp only [List.length_cons,List.length_nil];omega)) (hr:=?_)
   refine D.go (h:=Q.sadd (hl:=fun _=>by simp only [List.length_cons,List.length_nil,List.length_append];omega)) (hr:=?_)
   refine D.tail ?_
   refine R.callUp Tryz.call66 (getset ho) (by simp) Ca (c66 (bs++I8 (Cw (Ag e.text).toNat) (e.kids.getD 0 Ah) (A9 (e.kids.getD 0 Ah))) (32::(e.text++[32])) (by simp only [Fj,List.length_append,List.length_cons,List.length_nil] at *;omega) o _ (A4 (getset ho))) ?_
   refine R.fin [0,3,4] ?_;refine Z60 ?_
   refine R.go (h:=Q.indexAddr (1) (A7 (e.kids.getD 1 Ah)) (fun _=>(Js (by omega)).1)) (hr:=?_)
   refine Z23 ?_
   refine R.callUp Tryz.call179 (getset (getset ho)) (by simp) Ca (lg (e.kids.getD 1 Ah) (hev _ (Js (by omega)).2.1) (hlv _ (Js (by omega)).2.1) ((Ag e.text).toNat+1) _ (by first|rfl|(push_cast;rfl)) o (bs++I8 (Cw (Ag e.text).toNat) (e.kids.getD 0 Ah) (A9 (e.kids.getD 0 Ah))++32::(e.text++[32])) _ (A4 (getset (getset ho))) (by simp only [Fj,List.length_append,List.length_cons,List.length_nil] at *;omega)) ?_
   exact Z58
  have h3:(Ag e.text).toNat≠3:=by have:=ht57;simp at this;omega
  have hf2:Cw (Ag e.text).toNat=(Ag e.text).toNat:=by unfold Cw;rw [if_neg h3]
  refine Qh ?_
  refine R.go (h:=Q.indexAddr (0) (A7 (e.kids.getD 0 Ah)) (fun _=>(Js (by omega)).1)) (hr:=?_)
  refine Z0 ?_
  refine R.callUp Tryz.call179 ho (by simp) Ca (lg (e.kids.getD 0 Ah) (hev _ (Js (by omega)).2.1) (hlv _ (Js (by omega)).2.1) (Cw (Ag e.text).toNat) _ (by first|exact hf1|rw [hf2]) o (bs) _ (A4 ho) (by simp only [Fj,List.length_append,List.length_cons,List.length_nil] at *;omega)) ?_
  refine ABp ?_;refine ak ?_
  refine D.go (h:=Q.sadd (hl:=fun _=>by simp only [List.length_cons,List.length_nil];omega)) (hr:=?_)
  refine D.go (h:=Q.sadd (hl:=fun _=>by simp only [List.length_cons,List.length_nil,List.length_append];omega)) (hr:=?_)
  refine D.tail ?_
  refine R.callUp Tryz.call66 (getset ho) (by simp) Ca (c66 (bs++I8 (Cw (Ag e.text).toNat) (e.kids.getD 0 Ah) (A9 (e.kids.getD 0 Ah))) (32::(e.text++[32])) (by simp only [Fj,List.length_append,List.length_cons,List.length_nil] at *;omega) o _ (A4 (getset ho))) ?_
  refine R.fin [0,3,4] ?_;refine Z60 ?_
  refine R.go (h:=Q.indexAddr (1) (A7 (e.kids.getD 1 Ah)) (fun _=>(Js (by omega)).1)) (hr:=?_)
  refine Z23 ?_
  refine R.callUp Tryz.call179 (getset (getset ho)) (by simp) Ca (lg (e.kids.getD 1 Ah) (hev _ (Js (by omega)).2.1) (hlv _ (Js (by omega)).2.1) ((Ag e.text).toNat+1) _ (by first|rfl|(push_cast;rfl)) o (bs++I8 (Cw (Ag e.text).toNat) (e.kids.getD 0 Ah) (A9 (e.kids.getD 0 Ah))++32::(e.text++[32])) _ (A4 (getset (getset ho))) (by simp only [Fj,List.length_append,List.length_cons,List.length_nil] at *;omega)) ?_
  exact Z58
 rw [if_neg (by rw [ht53];simp)] at pe
 refine Z1 ?_;refine R.fin [0,3,83] ?_
 refine W.cond (fun ht83=>?_) (fun ht83=>?_)
 ·have hsl:∀x,((E7 ((e.kids.take x).map A9)).drop 2).length≤((E7 (e.kids.map A9)).drop 2).length:=fun x=>by have:=AAn (k:=e.kids) x;rw [List.length_drop,List.length_drop];omega
  have hkl6:=hok.2.1
  rw [pe] at hb
  simp only [List.length_cons,List.length_append,List.length_nil,Fj] at hb
  refine W.drawQ [0,1,3,0,8,24,63] 6 Ac (by kernel_rfl) ?_;refine ak ?_
  refine D.go (h:=Q.sadd (hl:=fun _=>by simp only [List.length_cons,List.length_nil];omega)) (hr:=?_)
  refine D.tail ?_
  refine R.callUp Tryz.call66 ho (by simp) Ca (c66 bs (e.text++[40]) (by simp only [Fj,List.length_append,List.length_cons,List.length_nil] at *;omega) o _ (A4 ho)) ?_
  refine L9 ?_;refine Z91 ?_;refine R.fin [0,93,94,95] ?_
  refine AW.loopC (α:=Nat) (fun x=>⟨114,A6 0 (.ptr o 0) (A6 93 (.slice false 6 (e.kids.map A7)) (A6 94 (A2 (e.kids.length:Nat)) (A6 95 (A2 (x:Nat)) (fun _=>.any)))),Hp.set o (Sb (bs++(e.text++[40])++(E7 ((e.kids.take x).map A9)).drop 2)),[],[],none⟩) (fun x=>x≤e.kids.length) (fun x=>e.kids.length-x) (0) (Nat.zero_le _) (StLe.of_eq (by simp [E7])) rfl (fun x hx=>?_)
  refine Z2 ?_;refine R.fin [0,93,94,95,96] ?_
  refine W.condX (fun ht96=>?_) (fun ht96=>?_)
  ·have hlt:x<e.kids.length:=by simpa using ht96
   have hst:=rr hlt
   have hsl1:=hsl (x+1)
   have hslx:=hsl x
   refine Mb ?_
   refine R.go (h:=Q.indexAddr (x) (A7 e.kids[x]) (fun _=>Br hlt)) (hr:=?_)
   refine ae ?_;refine Z36 ?_;refine R.fin [0,6,7,93,94,95] ?_;refine Z11 ?_;refine R.fin [0,7,93,94,95,101] ?_
   refine W.cond (fun ht101=>?_) (fun ht101=>?_)
   ·have h0x:0<x:=by simpa using ht101
    rw [if_pos h0x] at hst
    have hstl:=congrArg List.length hst
    simp only [List.length_append,List.length_cons,List.length_nil] at hstl
    refine Z60 ?_
    refine R.callUp Tryz.call66 (getset ho) (by simp) Ca (c66 (bs++(e.text++[40])++(E7 ((e.kids.take x).map A9)).drop 2) [44,32] (by simp only [Fj,List.length_append,List.length_cons,List.length_nil] at *;omega) o _ (A4 (getset ho))) ?_
    refine R.fin [0,7,93,94,95] ?_;refine K.thN ?_;refine Z13 ?_
    first|refine R.callUp Tryz.call162 (getset ho) (by simp) Ca (hev _ (List.getElem_mem hlt) o (bs++(e.text++[40])++(E7 ((e.kids.take x).map A9)).drop 2) _ (A4 (getset ho)) (by simp only [Fj,List.length_append,List.length_cons,List.length_nil] at *;omega)) ?_|refine R.callUp Tryz.call162 (getset (getset ho)) (by simp) Ca (hev _ (List.getElem_mem hlt) o (bs++(e.text++[40])++(E7 ((e.kids.take x).map A9)).drop 2++[44,32]) _ (A4 (getset (getset ho))) (by simp only [Fj,List.length_append,List.length_cons,List.length_nil] at *;omega)) ?_
    refine R.fin [0,93,94,95] ?_;refine Sy ?_;refine R.fin [0,93,94,95] ?_;refine K.lpN (x+1) hlt (by omega) ?_
    simp only [hst,Yy,List.append_assoc,List.append_nil]
    exact StCut.take (own:=[]) (fun _=>.refl _) (by repeat (first|exact Az|refine Ay (by first|exact Dc|exact Wf|(simp [or_imp,forall_and,oid]<;>omega)) ?_)) (by simp) (by simp)
   have h0x:¬0<x:=by simpa using ht101
   rw [if_neg h0x] at hst
   have hstl:=congrArg List.length hst
   simp only [List.length_append,List.length_cons,List.length_nil] at hstl
   refine Z9 ?_;refine Z13 ?_
   first|refine R.callUp Tryz.call162 (getset ho) (by simp) Ca (hev _ (List.getElem_mem hlt) o (bs++(e.text++[40])++(E7 ((e.kids.take x).map A9)).drop 2) _ (A4 (getset ho)) (by simp only [Fj,List.length_append,List.length_cons,List.length_nil] at *;omega)) ?_|refine R.callUp Tryz.call162 (getset (getset ho)) (by simp) Ca (hev _ (List.getElem_mem hlt) o (bs++(e.text++[40])++(E7 ((e.kids.take x).map A9)).drop 2++[44,32]) _ (A4 (getset (getset ho))) (by simp only [Fj,List.length_append,List.length_cons,List.length_nil] at *;omega)) ?_
   refine R.fin [0,93,94,95] ?_;refine Sy ?_;refine R.fin [0,93,94,95] ?_;refine K.lpN (x+1) hlt (by omega) ?_
   simp only [hst,Yy,List.append_assoc,List.append_nil]
   exact StCut.take (own:=[]) (fun _=>.refl _) (by repeat (first|exact Az|refine Ay (by first|exact Dc|exact Wf|(simp [or_imp,forall_and,oid]<;>omega)) ?_)) (by simp) (by simp)
  have hxe:e.kids.take x=e.kids:=List.take_of_length_le (by simp at ht96;omega)
  have hslx:=hsl x
  refine Z37 ?_;refine Z60 ?_
  refine R.callUp Tryz.call66 (getset ho) (by simp) Ca (c66 (bs++(e.text++[40])++(E7 ((e.kids.take x).map A9)).drop 2) [41] (by simp only [Fj,List.length_append,List.length_cons,List.length_nil] at *;omega) o _ (A4 (getset ho))) ?_
  refine Z50 ?_;exact K.finN .nores ⟨rfl,by rw [pe,hxe]<;>simp⟩
 exfalso
 have h6:=kall
 simp at ht12 ht21 ht29 ht41 ht53 ht83
 omega

set_option maxRecDepth 8000
/-! How long a print is. -/
theorem de {v:Val} (hp:C1 v=true) (hi:v8 v.n):(Bs v).length≤402:=by
 unfold Bs
 rw [hp]
 simp only [Bool.not_true,Bool.false_eq_true,if_false]
 split
 ·have:=Lib.itoa_length_le v.n hi.1 hi.2
  omega
 split
 ·rename_i h1 h2
  rw [Id]
  have h3:=Y1 v.s
  have h4:v.s.length≤200:=by
   have k2:v.kind=2:=by simpa using h2
   simp [C1,k2] at hp
   omega
  simp
  omega
 split
 ·simp
 split<;>simp
theorem Py (k:Nat) (x:Expr) (s:Str):(I8 k x s).length≤s.length+2:=by
 unfold I8
 split<;>simp
theorem Yz {t:Str} (h:0≤Ag t):t.length≤3:=by
 rcases Gs t with hm|⟨hm,_⟩
 ·have h3:(levels.flatten.all fun s=>decide (s.length≤3))=true:=by kernel_rfl
  exact of_decide_eq_true (List.all_eq_true.1 h3 t hm)
 omega
theorem Sc {t:Str} {n:Nat} (h:B0 t=(n:Int)):t.length≤6:=by
 rcases M0 h with ⟨e,_⟩|⟨e,_⟩|⟨e,_⟩|⟨e,_⟩|⟨e,_⟩|⟨e,_⟩|⟨e,_⟩|⟨e,_⟩<;>rw [e]<;>decide
theorem rt {k:List Expr} (h:∀y∈k,(A9 y).length+10≤440*sizeE y):(E7 (k.map A9)).length≤440*Cr k:=by
 induction k with
 | nil=>simp [E7]
 | cons y r ih =>
  have h1:=h y List.mem_cons_self
  have h2:=ih (fun z hz=>h z (List.mem_cons_of_mem _ hz))
  simp only [List.map_cons,E7,Cr,List.length_cons,List.length_append]
  omega
theorem Ul:∀(n:Nat) (e:Expr),sizeE e≤n→Bx B3 e=true→Bx Ew e=true→(A9 e).length+10≤440*sizeE e
 | 0,e,h,_,_=>by rw [Fl] at h;omega
 | n+1,e,h,hn,hr=>by
  rw [Dx,Bool.and_eq_true] at hn hr
  have hk:∀y∈e.kids,(A9 y).length+10≤440*sizeE y:=fun y hy=>by
   obtain ⟨i,hi⟩:=List.getElem?_of_mem hy
   obtain ⟨hlt,rfl⟩:=List.getElem?_eq_some_iff.1 hi
   exact Ul n _ (by have:=ov e hlt;omega) ((Df _ _).1 hn.2 _ hy) ((Df _ _).1 hr.2 _ hy)
  have hi:v8 e.val.n:=by
   have:=hr.1
   simp only [Ew,Bool.and_eq_true,decide_eq_true_eq] at this
   exact this
  rw [Fl]
  cases G8 hn.1 with
  | val v hp h0 =>
   rw [qn]
   have:=de hp (v:=v) hi
   simp only [F7,Expr.kids,Cr]
   omega
  | name t ht =>
   rw [fm]
   have:t.length≤16:=by
    cases t with
    | nil=>simp
    | cons c r =>
     simp only [Dr,Bool.and_eq_true,decide_eq_true_eq] at ht
     exact ht.1.1.1
   simp only [B7,Expr.kids,Cr]
   omega
  | neg a =>
   rw [qo]
   have h1:=Py 6 a (A9 a)
   have h2:=hk a (by simp [Bz,Expr.kids])
   simp only [Bz,Expr.kids,Cr,List.length_cons]
   omega
  | no a =>
   rw [yi]
   have h1:=Py 2 a (A9 a)
   have h2:=hk a (by simp [Bz,Expr.kids])
   simp only [Bz,Expr.kids,Cr,List.length_cons,List.length_append,Ri,List.length_nil]
   omega
  | bin t a b ht =>
   rw [qq]
   have h1:=Py (Cw (Ag t).toNat) a (A9 a)
   have h2:=Py ((Ag t).toNat+1) b (A9 b)
   have h3:=hk a (by simp [Cd,Expr.kids])
   have h4:=hk b (by simp [Cd,Expr.kids])
   have h5:=Yz ht
   simp only [Cd,Expr.kids,Cr,List.length_cons,List.length_append]
   omega
  | call t k ha =>
   rw [fp]
   have h1:=Sc ha
   have h2:=rt (k:=k) hk
   rw [←Jj] at h2
   simp only [Expr.kids,List.length_cons,List.length_append,List.length_drop,List.length_nil]
   omega
theorem Z3 {e:Expr} (hr:Ck e=true) (hg:Bx Ew e=true):(A9 e).length≤132000:=by
 have h1:=I2 hr
 have h2:sizeE e≤300:=by
  unfold Ck at hr
  simp only [Bool.and_eq_true,decide_eq_true_eq] at hr
  exact hr.1.2
 have:=Ul _ e (Nat.le_refl _) h1 hg
 omega
set_option maxRecDepth 4000
abbrev xo (own:Bool) (t:Str) (ks:List Expr):AObj:=.cells 103 [A2 6,A8 t,A2 0,A2 0,A8 [],.slice own 6 (ks.map A7)]
theorem AAo {n:Nat} {own:Bool} {t:Str} {ks:List Expr}:ObjLow n (xo own t ks):=by
 show ∀z∈[A2 6,A8 t,A2 0,A2 0,A8 [],AV.slice own 6 (ks.map A7)],Low n z
 intro z hz
 simp only [List.mem_cons,List.not_mem_nil,or_false] at hz
 rcases hz with rfl|rfl|rfl|rfl|rfl|rfl
 all_goals first|exact Dc|simp
theorem xj:Dk (.agg #[.int .i64 0,.string ⟨#[]⟩,.int .i64 0,.int .i64 0,.string ⟨#[]⟩,.slice none 0 0])=.agg [A2 0,A8 [],A2 0,A2 0,A8 [],.nil]:=rfl
attribute [go_sem] xj
theorem gA {Hp:List AObj} {o ox:Nat} {z A B:AObj} (ho:Hp[o]? = some z) (hne:ox≠o):((Hp.set o A).set ox B)[o]? = some A:=by rw [List.getElem?_set_ne hne];exact getset ho
theorem gB {Hp:List AObj} {o ox:Nat} {z A B:AObj} (hox:Hp[ox]? = some z):((Hp.set o A).set ox B)[ox]? = some B:=by
 have:=(List.getElem?_eq_some_iff.1 hox).1
 simp [this]
theorem ru {Hp:List AObj} {o ox:Nat} {A A' B:AObj} (hne:ox≠o):((Hp.set o A).set ox B).set o A'=(Hp.set o A').set ox B:=by rw [List.set_comm _ _ hne,List.set_set]
theorem M2 (ks:List Expr) (x:Expr):ks.map A7++[.agg [.v (.int .i64 x.op),.v (sv x.text),.v (.int .i64 x.val.kind),.v (.int .i64 x.val.n),.v (sv x.val.s),.slice false 6 (x.kids.map A7)]]=(ks++[x]).map A7:=by rw [List.map_append,List.map_cons,List.map_nil,Ab x]
theorem AF5 (l:List Tok) (S:PS) (t:Str) (Dv:Fam) (o ox:Nat) (Hp:List AObj) (hne:ox≠o) (ho:Hp[o]? = some (pr l S)) (hox:Hp[ox]? = some (xo true t [])) (hi:S.i<l.length) (hl:TokEnd l) (hll:l.length≤1048576) (hf:Dp l S.nest Dv.ei) (hcf:PC 213 l Dv.ei S.nest):ACall Tryz.prog 288 [.ptr ox 0,.ro [.ptr o 0]] Hp (fun r H'=>r=A7 (.mk 6 t noV (Ey l Dv.ei S).1)∧H'=(Hp.set o (pr l (Ey l Dv.ei S).2)).set ox (xo true t (Ey l Dv.ei S).1)):=by
 have hoxl:=(List.getElem?_eq_some_iff.1 hox).1
 have hol:=(List.getElem?_eq_some_iff.1 ho).1
 refine ACall.body [.cell 2 103] [0,1] Tryz.func288 Tryz.ntmps288 (fun d=>?_)
 refine Z26 ?_;refine R.fin [0,1,2] ?_
 refine W.drawT [0,1,0,4,3,0,63,127,255,127,639] [1,3] [.q 1 [] [0],.s [4] (some 0) [] [],.q 1 [] [1],.s [6] (some 1) [] [],.q 2 [] []] (fun B=>(Hp.set o (if B 1=true then pr l (Dv.ei S).2 else pr l S)).set ox (if B 0=true then xo false t [] else xo true t [])) (fun _=>[Ij]) Ac (by kernel_rfl) (by simp only [Bool.false_eq_true,if_false];rw [Ek ho,Ek hox]) rfl (fun B=>by simp) ?_
 apply Y.q
 case h1 =>
  intro B hT hF
  exact Z44
 case hTF=>decide
 refine Y.loadUpT (o:=ox) (t':=103) (cs:=[A2 6,A8 t,A2 0,A2 0,A8 [],.slice true 6 ([].map A7)]) (cs':=[A2 6,A8 t,A2 0,A2 0,A8 [],.slice false 6 ([].map A7)]) Tryz.isAgg75 (fun B hB=>⟨by simp only [hB];exact gB hox,by simp [upd,List.set_set]<;>rfl,rfl⟩) ?_
 apply Y.q
 case h1 =>
  intro B hT hF
  exact Z44
 case hTF=>decide
 refine Y.callUp (r:=A7 (Dv.ei S).1) (o:=o) (x0:=pr l S) (x:=pr l (Dv.ei S).2) Tryz.call213 (fun B hT hF hB=>⟨by simp only [hB];exact gA ho hne,?_,rfl,By,?_⟩) ?_
 ·simp only [upd,hB,Nat.reduceEqDiff,if_false,if_true,Bool.false_eq_true]
  exact (ru hne).symm
 ·simp only [hB]
  exact hcf o _ S (A4 (gA ho hne)) hi rfl
 apply Y.q
 case h1 =>
  intro B hT hF
  exact j9
 case hTF=>decide
 refine Y.appendPut (tn:=[1,3]) (U:=(Hp.set o (pr l (Dv.ei S).2)).set ox (xo false t [])) (O:=[Ij]) (o:=ox) (t':=103) (cs:=[A2 6,A8 t,A2 0,A2 0,A8 [],.slice false 6 ([].map A7)]) (by kernel_rfl) jU Tryz.type103 Tryz.sizeOf103 Tryz.sizeOf75 jU (A4 (gB hox)) ?_ ?_ ?_ (hfsz:=Tryz.sizeOf75)
 ·simp [Tryz.t103]
 ·simp [Tryz.t103]
 refine R.go ?_
 refine R.storeUpT jS (gB hox) ?_ ?_
 ·first|(rw [M2];exact Dc)|(have:=Dc (n:=((Hp.set o (pr l (Dv.ei S).2)).set ox (xo false t [])).length) (k:=6) (o:=true) (l:=[(Dv.ei S).1]);simp only [List.map_cons,List.map_nil,Ab] at this;exact this)
 refine R.fin [0,1,2] ?_;refine W.seq ?_
 refine AW.loopC (α:=List Expr×PS) (fun r=>⟨34,A6 0 (.ptr ox 0) (A6 1 (.ro [.ptr o 0]) (A6 2 (.ptr (oid Hp.length 0) 0) (fun _=>.any))),(Hp.set o (pr l r.2)).set ox (xo true t r.1),[Ij],[],none⟩) (fun r=>ArgsAt l Dv.ei S r) (fun r=>l.length-r.2.i) (([(Dv.ei S).1],(Dv.ei S).2)) (.start (hf S hi rfl)) (StLe.of_eq (by simp [List.set_set,xo,Ab])) rfl (fun r hx=>?_)
 refine Z91 ?_
 refine R.go (h:=Q.loadUp (gA ho hne)) (hr:=?_)
 refine Z0 ?_;refine G.go ?_;refine G.call Tryz.call251 (fun hB=>Yc l r.2 Kd o _ (A4 (gA ho hne)) hx.fact.lt hl (by decide)) ?_;refine R.go ?_;refine R.fin [0,1,2,21] ?_
 refine W.cond (fun ht21=>?_) (fun ht21=>?_)
 ·have hon:=hx.on hl ht21 hf
  have hle:=hon.2.1.le
  have hlt0:=hx.fact.lt
  refine Z9 ?_;refine AW.block ?_;refine Z2 ?_;refine R.callUp Tryz.call252 (gA ho hne) (by simp) By (pz l r.2 o _ (A4 (gA ho hne)) hx.fact.lt hll) ?_;refine R.fin [0,1,2] ?_
  refine W.drawT0 [0,1,0,4,3,0,63,127,255,127,639] [1,3] [.q 1 [] [0],.s [25] (some 0) [] [],.q 1 [] [1],.s [27] (some 1) [] [],.q 2 [] []] (fun B=>(Hp.set o (if B 1=true then pr l (Dv.ei (A3 r.2)).2 else pr l (A3 r.2))).set ox (if B 0=true then xo false t r.1 else xo true t r.1)) (fun _=>[Ij]) Ac (by kernel_rfl) (by simp only [Bool.false_eq_true,if_false];exact (ru hne).symm) rfl (fun B=>by simp) ?_
  apply Y.q
  case h1 =>
   intro B hT hF
   exact Z44
  case hTF=>decide
  refine Y.loadUpT (o:=ox) (t':=103) (cs:=[A2 6,A8 t,A2 0,A2 0,A8 [],.slice true 6 (r.1.map A7)]) (cs':=[A2 6,A8 t,A2 0,A2 0,A8 [],.slice false 6 (r.1.map A7)]) Tryz.isAgg75 (fun B hB=>⟨by simp only [hB];exact gB hox,by simp [upd,List.set_set]<;>rfl,rfl⟩) ?_
  apply Y.q
  case h1 =>
   intro B hT hF
   exact Z44
  case hTF=>decide
  refine Y.callUp (r:=A7 (Dv.ei (A3 r.2)).1) (o:=o) (x0:=pr l (A3 r.2)) (x:=pr l (Dv.ei (A3 r.2)).2) Tryz.call213 (fun B hT hF hB=>⟨by simp only [hB];exact gA ho hne,?_,rfl,By,?_⟩) ?_
  ·simp only [upd,hB,Nat.reduceEqDiff,if_false,if_true,Bool.false_eq_true]
   exact (ru hne).symm
  ·simp only [hB]
   exact hcf o _ (A3 r.2) (A4 (gA ho hne)) hon.1 hx.fact.nest
  apply Y.q
  case h1 =>
   intro B hT hF
   exact j9
  case hTF=>decide
  refine Y.appendPut (tn:=[1,3]) (U:=(Hp.set o (pr l (Dv.ei (A3 r.2)).2)).set ox (xo false t r.1)) (O:=[Ij]) (o:=ox) (t':=103) (cs:=[A2 6,A8 t,A2 0,A2 0,A8 [],.slice false 6 (r.1.map A7)]) (by kernel_rfl) jU Tryz.type103 Tryz.sizeOf103 Tryz.sizeOf75 jU (A4 (gB hox)) ?_ ?_ ?_ (hfsz:=Tryz.sizeOf75)
  ·have:=hx.fact.len;have:=hx.fact.lt;simp only [List.length_map,Tryz.t103];omega
  ·have:=hx.fact.len;have:=hx.fact.lt;simp only [List.length_map,Tryz.t103];omega
  refine R.go ?_
  refine R.storeUpT jS (gB hox) ?_ ?_
  ·first|(rw [M2];exact Dc)|(have:=Dc (n:=((Hp.set o (pr l (Dv.ei S).2)).set ox (xo false t [])).length) (k:=6) (o:=true) (l:=[(Dv.ei S).1]);simp only [List.map_cons,List.map_nil,Ab] at this;exact this)
  refine R.fin [0,1,2] ?_;refine K.blN ?_
  refine K.lpN (r.1++[(Dv.ei (A3 r.2)).1],(Dv.ei (A3 r.2)).2) hon.2.2 (by show l.length-(Dv.ei (A3 r.2)).2.i<l.length-r.2.i;have:r.2.i+1≤(Dv.ei (A3 r.2)).2.i:=hle;omega) (StCut.of_eq ?_)
  simp only [show Tryz.t103.size=6 from rfl,M2,List.set_set]
 have hout:=hx.out (by rw [ht21];simp)
 refine Z81 ?_;refine Z37 ?_;refine E0 ?_
 refine R.go (h:=Q.loadUpN (gB hox)) (hr:=?_)
 refine Z10 ?_;exact K.fin (V.one (V.cellN jA jS)) ⟨by rw [hout,We];rfl,by rw [hout]⟩ (hlow:=by have:=Ad Hp.length (.mk 6 t noV r.1);rw [We] at this;simpa using this)

/-- within, with the function that gathers a call's kids. -/
theorem AD2 (l:List Tok) (S:PS) (a:Int) (t:Str) (Dv:Fam) (o:Nat) (Hp:List AObj) (A0 A1:AObj) (l0:ObjLow 0 A0) (ho:Hp[o]? = some (pr l S)) (hi:S.i<l.length) (hl:TokEnd l) (hll:l.length≤1048576) (hnl:S.nest≤30) (hd:DeepC l Dv S.nest):
  ACall Tryz.prog 271 [.ptr o 0,A2 a,.fn (.func 288) [] [.ptr (oid Hp.length 2) 0,.ro [.ptr o 0]]] (Hp++[A0,A1,xo true t []]) (fun r H'=>r=A7 (if S.nest=30 then Ah else .mk 6 t noV (Hw l a Dv.ei S).1)∧H'=Hp.set o (pr l (Hw l a Dv.ei S).2)++[A0,A1,xo true t (Hw l a Dv.ei S).1]):=by
 have hlt:=(List.getElem?_eq_some_iff.1 ho).1
 have ho':(Hp++[A0,A1,xo true t []])[o]? = some (pr l S):=A4 ho
 by_cases h30:S.nest=30
 ·refine (w6 l S a 288 [] [.ptr (oid Hp.length 2) 0,.ro [.ptr o 0]] Ah (An S) o (Hp++[A0,A1,xo true t []]) ((Hp++[A0,A1,xo true t []]).set o (pr l (An S))) ho' (by omega) Tryz.call288 (by simp) (getset ho') rfl (fun h=>h) (fun h=>absurd h30 h)).mono fun r H' h=>?_
  have e:Hw l a Dv.ei S=([],Cl 18 a S):=if_pos (by rw [h30];rfl)
  rw [e,if_pos h30]
  obtain ⟨h1,h2⟩:=h.1 h30
  exact ⟨h1,by rw [h2,List.set_append_left _ _ hlt]⟩
 have hq:=R6 (S:=An S) hl hi (hd.ei h30).1
 refine (w6 l S a 288 [] [.ptr (oid Hp.length 2) 0,.ro [.ptr o 0]] (.mk 6 t noV (Ey l Dv.ei (An S)).1) (Ey l Dv.ei (An S)).2 o (Hp++[A0,A1,xo true t []]) (Hp.set o (pr l (Ey l Dv.ei (An S)).2)++[A0,A1,xo true t (Ey l Dv.ei (An S)).1]) ho' (by omega) Tryz.call288 (by simp) (A4 (getset ho)) hq.nest (fun h y hy=>?_) (fun _ own=>?_)).mono fun r H' h=>?_
 ·rw [List.set_append_left _ _ hlt] at h
  rcases List.mem_append.1 hy with hy|hy
  ·rcases List.mem_or_eq_of_mem_set hy with h1|h1
   ·obtain ⟨i,hi',rfl⟩:=List.getElem_of_mem h1
    by_cases hio:i=o
    ·subst hio
     have:Hp[i]=pr l S:=by rw [List.getElem?_eq_getElem hi'] at ho;injection ho
     rw [this];exact By
    refine h _ (List.mem_append_left _ ?_)
    rw [List.mem_iff_getElem?]
    exact ⟨i,by rw [List.getElem?_set_ne (Ne.symm hio),List.getElem?_eq_getElem hi']⟩
   rw [h1];exact By
  simp only [List.mem_cons,List.not_mem_nil,or_false] at hy
  rcases hy with rfl|rfl|rfl
  ·exact h _ (List.mem_append_right _ (by simp))
  ·exact h _ (List.mem_append_right _ (by simp))
  exact AAo
 ·have hoid:oid Hp.length 2≠o:=by unfold oid;omega
  have e1:(Hp++[A0,A1,xo true t []]).set o (pr l (An S))++own=(Hp.set o (pr l (An S))++[A0,A1,xo true t []])++own:=by rw [List.set_append_left _ _ hlt]
  rw [e1]
  have g1:((Hp.set o (pr l (An S))++[A0,A1,xo true t []])++own)[o]? = some (pr l (An S)):=A4 (A4 (getset ho))
  have g2:((Hp.set o (pr l (An S))++[A0,A1,xo true t []])++own)[oid Hp.length 2]? = some (xo true t []):=A4 (by
   have:=Al (U:=Hp.set o (pr l (An S))) (O:=[A0,A1,xo true t []]) (n:=2)
   rw [List.length_set] at this
   exact this)
  refine (AF5 l (An S) t Dv o (oid Hp.length 2) _ hoid g1 g2 hi hl hll (hd.ei h30).1 (hd.ei h30).2).mono fun r H' h=>⟨h.1,h.2.trans ?_⟩
  rw [List.append_assoc,List.set_append_left _ _ (by simpa using hlt),List.set_set]
  have:=E5 (U:=Hp.set o (pr l (Ey l Dv.ei (An S)).2)) (O:=[A0,A1,xo true t []]++own) (n:=2) (x:=xo true t (Ey l Dv.ei (An S)).1)
  rw [List.length_set] at this
  rw [this]
  simp
 have e:Hw l a Dv.ei S=((Ey l Dv.ei (An S)).1,Lh (Ey l Dv.ei (An S)).2):=if_neg (by
  show ¬(((S.nest:Int)==30)=true)
  simp
  omega)
 rw [e,if_neg h30]
 obtain ⟨h1,h2⟩:=h.2 h30
 exact ⟨h1,by rw [h2,List.set_append_left _ _ (by simpa using hlt),List.set_set]⟩
theorem AF6 (l:List Tok) (S:PS) (Dv:Fam) (t:Tok) (o:Nat) (Hp:List AObj) (ho:Hp[o]? = some (pr l S)) (hi:(A3 S).i<l.length) (hl:TokEnd l) (hll:l.length≤1048576) (hnl:S.nest≤30) (hd:DeepC l Dv S.nest):ACall Tryz.prog 286 [.ptr o 0,Ha t] Hp (fun r H'=>r=A7 (Ez l Dv t S).1∧H'=Hp.set o (pr l (Ez l Dv t S).2)):=by
 have hi0:S.i<l.length:=by have:S.i+1<l.length:=hi;omega
 have hol:=(List.getElem?_eq_some_iff.1 ho).1
 have hkf:KFact l (A3 S) (Bf l Dv S):=R7 hl _ hi (fun h=>(hd.ei h).1)
 refine ACall.body [.cell 4 103] [0,1] Tryz.func286 Tryz.ntmps286 (fun d=>?_)
 refine Z1 ?_;refine J8 ?_;refine R.fin [2,3,4] ?_;refine Z1 ?_;refine R.call Tryz.call121 (zr t.text _) ?_;refine R.go ?_;refine R.fin [2,3,4,5] ?_;refine Z11 ?_;refine R.fin [2,3,4,5,12] ?_
 refine W.cond (fun ht12=>?_) (fun ht12=>?_)
 ·have hlt0:B0 t.text<0:=by simpa using ht12
  have e:Ez l Dv t S=(Ah,Cl 9 t.at_ S):=if_pos hlt0
  refine Z18 ?_;refine R.callUp Tryz.call215 ho (by simp) By (kc l S 9 t.at_ o _ (A4 ho)) ?_;refine Fi ?_;refine Z17 ?_;exact Z63
 have hge:¬B0 t.text<0:=by simpa using ht12
 refine Mc ?_;refine R.callUp Tryz.call252 ho (by simp) By (pz l S o _ (A4 ho) hi0 hll) ?_;refine Z16 ?_;refine R.fin [2,3,4,5,6] ?_;refine yu ?_;refine Z16 ?_;refine R.fin [2,3,4,5,6,7] ?_;refine E0 ?_;refine R.nilCell 2 5 6 ?_;refine Z23 ?_;refine L8 ?_
 refine R.callX (up':=(Hp.set o (pr l (A3 S))).set o (pr l (Bf l Dv S).2)) (own':=[Ij,.cells 130 [A2 (A5 l S.i).kind,A8 (A5 l S.i).text,A2 (A5 l S.i).at_],xo true t.text (Bf l Dv S).1]) Tryz.call271 (by have:=AD2 l (A3 S) (A5 l S.i).at_ t.text Dv o (Hp.set o (pr l (A3 S))) Ij (.cells 130 [A2 (A5 l S.i).kind,A8 (A5 l S.i).text,A2 (A5 l S.i).at_]) fe (getset ho) hi hl hll hnl hd;rw [List.length_set] at this;exact this) (by simp) (fun h=>w8 h By) ?_
 refine R.fin [2,3,4,5,7] ?_;refine Z2 ?_;refine R.callUp Tryz.call287 (getset (getset ho)) (by simp) By (ACl l (Bf l Dv S).2 D6 o _ (A4 (getset (getset ho))) hkf.lt hll) ?_;refine R.fin [2,3,4,5,7] ?_;refine Z91 ?_
 refine R.go (h:=Q.loadUp (getset (getset (getset ho)))) (hr:=?_)
 refine Z64 ?_;refine Pl ?_;refine R.fin [2,3,4,7,41] ?_
 refine W.cond (fun ht41=>?_) (fun ht41=>?_)
 ·have e:Ez l Dv t S=(Ah,Cl 8 t.at_ (Cm l D6 (Bf l Dv S).2)):=by
   unfold Ez
   rw [if_neg hge,if_pos (by have:=ht41;simp only [List.length_map] at this;exact this)]
  refine Z18 ?_;refine R.callUp Tryz.call215 (getset (getset (getset ho))) (by simp) By (kc l (Cm l D6 (Bf l Dv S).2) 8 t.at_ o _ (A4 (getset (getset (getset ho))))) ?_;refine Fi ?_;refine Z17 ?_;refine K.thR ?_;exact K.fin (V.one (V.cellN jA jS)) ⟨by rw [e,Ab],by rw [e,List.set_set,List.set_set,List.set_set]⟩ (hlow:=low_agg _)
 have e:Ez l Dv t S=(.mk 6 t.text noV (Bf l Dv S).1,(Cm l D6 (Bf l Dv S).2)):=by
  unfold Ez
  rw [if_neg hge,if_neg (by have:=ht41;simp only [List.length_map] at this;rw [Bool.eq_false_iff] at this;exact this)]
 refine Mc ?_;refine Fi ?_;refine Z17 ?_;exact K.fin (V.one (V.cellN jA jS)) ⟨by rw [e,We];rfl,by rw [e,List.set_set,List.set_set]⟩ (hlow:=by have:=Ad Hp.length (.mk 6 t.text noV (Bf l Dv S).1);rw [We] at this;simpa using this)

theorem lh {l:List Tok} (hl:TokEnd l) (hll:l.length≤1048576) (n:Nat) (Dv:Fam) (hn:n≤30) (hd:DeepC l Dv n):Yd l Dv n:=fun o Hp S t ho hi hS _ _=>by
 subst hS
 exact AF6 l S Dv t o Hp ho hi hl hll hn hd
theorem dg {e:Expr} (h:B3 e=true):e.text.length≤16∧e.kids.length≤8:=by
 cases G8 h with
 | val v hp h0=>exact ⟨by simp [F7,Expr.text],by simp [F7,Expr.kids]⟩
 | name t ht =>
  refine ⟨?_,by simp [B7,Expr.kids]⟩
  show t.length≤16
  cases t with
  | nil=>simp
  | cons c r =>
   simp only [Dr,Bool.and_eq_true,decide_eq_true_eq] at ht
   exact ht.1.1.1
 | neg a=>exact ⟨by simp [Bz,Expr.text],by simp [Bz,Expr.kids]⟩
 | no a=>exact ⟨by simp [Bz,Expr.text],by simp [Bz,Expr.kids]⟩
 | bin t a b ht=>exact ⟨by have:=Yz ht;show t.length≤16;omega,by simp [Cd,Expr.kids]⟩
 | call t k ha =>
  refine ⟨by have:=Sc ha;show t.length≤16;omega,?_⟩
  show k.length≤8
  rcases M0 ha with ⟨_,e⟩|⟨_,e⟩|⟨_,e⟩|⟨_,e⟩|⟨_,e⟩|⟨_,e⟩|⟨_,e⟩|⟨_,e⟩<;>omega
theorem Um:∀{l:List Expr} {y:Expr},y∈l→depthE y≤Ke l
 | a::r,y,h=>by
  rw [Ke]
  rcases List.mem_cons.1 h with rfl|h
  ·omega
  have:=Um h
  omega
theorem gj:∀(n:Nat) (e:Expr),depthE e≤n→Bx B3 e=true→okE n e
 | 0,e,h,_=>by rw [U3] at h;omega
 | n+1,e,h,hn=>by
  rw [Dx,Bool.and_eq_true] at hn
  rw [U3] at h
  have hs:=dg hn.1
  refine ⟨by omega,by omega,fun y hy=>gj n y (by have:=Um hy;omega) ((Df _ _).1 hn.2 y hy)⟩
theorem Un {e:Expr} (h:Ck e=true):okE 30 e∧sizeE e≤300:=by
 have h1:=I2 h
 unfold Ck at h
 simp only [Bool.and_eq_true,decide_eq_true_eq] at h
 exact ⟨gj 30 e h.1.1 h1,h.1.2⟩
theorem AF7 (n:Nat) (e:Expr) (hok:okE n e) (hn:n≤1048576) (hg:Bx Ew e=true) (Hp:List AObj):AFun Tryz.prog 128 [A7 e] Hp (.tup [A8 (F1 e).1,A2 (F1 e).2]):=by
 refine ACall.body [.tmp 2,.tmp 3] [0] Tryz.func128 Tryz.ntmps128 (fun d=>?_)
 refine Z18 ?_;refine R.fin [1] ?_;refine Z52 ?_;refine R.call Tryz.call56 (c56 n e hok hn _) ?_;refine R.go ?_;refine R.fin [1,7] ?_
 refine W.cond (fun ht7=>?_) (fun ht7=>?_)
 ·have hsh:F1 e=([],1):=if_pos ht7
  refine Z1 ?_;exact ABb
 have hnr:¬(!(B2 e))=true:=by rw [ht7];simp
 have hr:Ck e=true:=by rw [←Es];simpa using ht7
 have hps:=Z3 hr hg
 refine Sx ?_;refine R.build (places:=#[(0,2)]) jU (fun w=>by simp) jZ ?_;refine R.box ?_;refine R.go ?_;refine R.fin [1,4] ?_;refine E0 ?_;refine R.toBld 0 199 5 ?_;refine Z0 ?_
 refine R.callOwn (n:=0) (x:=Sb (A9 e)) Tryz.call162 (AF4 n e hok (I2 hr) hg (oid Hp.length 0) [] _ (by rw [Al];rfl) (by simp only [Fj,List.length_nil];omega)) ?_
 refine R.fin [4] ?_;refine Z34 ?_
 refine R.call Tryz.call67 (c67 (A9 e) (oid Hp.length 0) _ (by rw [Al];rfl)) ?_
 refine R.go ?_;refine R.fin [4,17] ?_
 refine W.cond (fun ht17=>?_) (fun ht17=>?_)
 ·have hsh:F1 e=([],3):=by unfold F1;rw [if_neg hnr,if_pos ht17]
  refine Z1 ?_;exact ABb
 have hsh:F1 e=(A9 e,0):=by unfold F1;rw [if_neg hnr,if_neg (by rw [ht17];simp)]
 refine Qh ?_
 refine R.callOwn (n:=0) (x:=.cells 199 [.any,.any]) Tryz.call68 (c68 (A9 e) (oid Hp.length 0) _ (by rw [Al];rfl)) ?_
 refine Z0 ?_;refine Z25 ?_;exact AC3

/-! fuse.Forth and plan.Text. -/
theorem rx {c:List Col} {m:Mov} (h:(Bl c m).2=0):(Bl c m).1=Db c m.take++Ba c m∧C4 c=true∧C4 (Bl c m).1=true:=by
 unfold Bl at h ⊢
 split at h
 ·rename_i h1
  exact absurd h (by simpa using h1)
 rename_i h1
 rw [if_neg h1]
 split at h
 ·rename_i h2
  exact absurd h (by simpa using h2)
 rename_i h2
 rw [if_neg h2]
 split at h
 ·rename_i h3
  exact absurd h (by simpa using h3)
 rename_i h3
 rw [if_neg h3]
 obtain ⟨a,_,b,d,e⟩:=w4 (by simpa using h1:(Cn c m.take (Ba c m)).2=0)
 rw [e]
 refine ⟨rfl,a,?_⟩
 unfold C4
 rw [b,Bool.and_true]
 refine decide_eq_true ?_
 show ((Db c m.take++Ba c m).length:Int)≤12
 omega
/-! The text. -/
/-! ONE LINE EACH. -/
theorem dh {c:List Col} {ms:List Mov} (he:(At c ms).2=0):∀k,k≤ms.length→NS c ms k
 | 0,_=>AAl
 | k+1,h=>by
  have ih:=dh he k (by omega)
  have hk:ms[k]? = some ms[k]:=List.getElem?_eq_getElem (by omega)
  by_cases ht:(Bl (colsAt c ms k) ms[k]).2=0
  ·exact Wh hk ih ht
  exact absurd ((Wi hk ih ht).symm.trans he) ht
theorem xk {c:List Col} {ms:List Mov} (he:(At c ms).2=0) {k:Nat} {m:Mov} (hk:ms[k]? = some m):(Bl (colsAt c ms k) m).2=0:=by
 have hl:=(List.getElem?_eq_some_iff.1 hk).1
 by_cases ht:(Bl (colsAt c ms k) m).2=0
 ·exact ht
 exact absurd ((Wi hk (dh he k (by omega)) ht).symm.trans he) ht
theorem Z6 {c:List Col} {ms:List Mov}:∀{n k:Nat},k≤n→(Cq c ms n)[k]? = some (colsAt c ms k)
 | 0,k,h=>by
  have:k=0:=by omega
  subst this;rfl
 | n+1,k,h=>by
  have hl:=I1 c ms n
  rw [Cq]
  by_cases e:k=n+1
  ·subst e
   rw [List.getElem?_append_right (by omega),hl,Nat.sub_self]
   rfl
  rw [List.getElem?_append_left (by omega)]
  exact Z6 (by omega)
theorem Nd {c:List Col} {ms:List Mov} (hc:C4 c=true) (he:(At c ms).2=0):∀k,C4 (colsAt c ms k)=true
 | 0=>hc
 | k+1=>by
  cases hk:ms[k]? with
  | none =>
   rw [colsAt,hk]
   exact Nd hc he k
  | some m =>
   rw [Ix hk]
   exact (rx (xk he hk)).2.2
/-- What a sound migration comes to. -/
theorem Sd {c:List Col} {ms:List Mov} (h:((Ce c ms).2 != 0)=false):Ik c ms=true∧(At c ms).2=0∧Ce c ms=(Cq c ms ms.length,0):=by
 cases hm:Ik c ms with
 | false=>rw [Uh hm] at h;cases h
 | true =>
  by_cases he:(At c ms).2=0
  ·have e:=db (dh he ms.length (Nat.le_refl _))
   exact ⟨rfl,he,Ui hm e⟩
  rw [S8 hm he] at h
  exact absurd (by simpa using h) he
theorem li {c:List Col} {ms:List Mov} (h:((Ce c ms).2 != 0)=false):Gv c ms=(colsAt c ms ms.length,0):=by
 obtain ⟨_,_,e⟩:=Sd h
 unfold Gv
 rw [if_neg (by rw [h];simp),e]
 show ((Cq c ms ms.length).getLastD [],_)=_
 rw [List.getLastD_eq_getLast?,List.getLast?_eq_getElem?,I1]
 have:=Z6 (c:=c) (ms:=ms) (n:=ms.length) (Nat.le_refl _)
 rw [show ms.length+1-1=ms.length from rfl,this]
 rfl
/-! How long plan.Text's pieces are. -/
theorem ry:liesAt Tryz.prog Tryz.prog.depth 116 (2 / Tryz.prog.cellsOf 116) 0 116 1=true:=by kernel_rfl
abbrev Z8 (bs:Str):AObj:=.bld 116 5 bs
theorem rz {n:Nat} {bs:Str}:ObjLow n (Z8 bs):=trivial
theorem AF8 (bs s:Str) (hl:bs.length+s.length≤140737488355328) (o:Nat) (Hp:List AObj) (ho:Hp[o]? = some (Z8 bs)):
  ACall Tryz.prog 66 [.ptr o 0,A8 s] Hp (fun r H'=>r=.tup [A2 s.length,.v .nilIface]∧H'=Hp.set o (Z8 (bs++s))):=by
 refine ACall.bldWrite ho (fun b p v w h=>?_)
 have hw:=bldWrite Tryz.lays166 xg (T:=116) ry (by decide) b p v bs.length (Lib.byteCells bs) ⟨s.toArray⟩ w h (by rw [Dd];exact hl)
 rw [Dd,Lib.strCells_eq,←Lib.byteCells_append] at hw
 exact hw
theorem AF9 (bs:Str) (o:Nat) (Hp:List AObj) (ho:Hp[o]? = some (Z8 bs)):ACall Tryz.prog 68 [.ptr o 0] Hp (fun r H'=>r=A8 bs∧H'=Hp.set o (.cells 116 [.any,.any])):=
 ACall.bldString ho (fun b p v w h hc=>bldString (ρ:=Tryz.ren155) { Tryz.lays155 with } xg (T:=116) b p v bs w h hc)
section
variable {O X U:List AObj} {i:Nat} {b y:AObj}
end
/-! What mig.Parse hands back is right, and may be walked. -/
structure TrE (e:Expr):Prop where
 right:Ck e=true
 rng:Bx Ew e=true
 need:Av e≤30
theorem xl {l:List Tok} {i:Nat} (h0:(atM l i).2.2.1=0):Av (atM l i).1≤30:=by
 unfold atM at h0 ⊢
 split
 ·exact kr
 rename_i hc
 have hc:(atS l i (atR l i)).code=0:=by simpa using hc
 have hr:(atR l i).2.code=0:=by
  unfold atS at hc
  split at hc
  ·exact hc
  rename_i hh;simpa using hh
 have:=((cz l 30 0 rfl).1 ⟨i,0,0,0⟩ rfl).need hr
 have h2:=(N8 0 (atR l i).1 (Av (atR l i).1)).1
 show Av (atR l i).1≤30
 unfold atR at h2 ⊢
 omega
theorem s6 {L:List Tok} (hw:∀i,WordOk (A5 L i)) {i:Nat} (ha:(atM L i).2.2.1=0):TrE (atM L i).1:=by
 have hneed:=xl ha
 revert hneed
 unfold atM at ha ⊢
 by_cases hc:((atS L i (atR L i)).code != 0)=true
 ·rw [if_pos hc] at ha
  rw [show (atS L i (atR L i)).code=0 from ha] at hc
  cases hc
 rw [if_neg hc]
 have hc:(atS L i (atR L i)).code=0:=by simpa using hc
 have h0:(atR L i).2.code=0∧depthE (atR L i).1≤30∧sizeE (atR L i).1≤300:=by
  unfold atS at hc
  split at hc
  ·rename_i hh;exact absurd hc (by simpa using hh)
  rename_i hh
  split at hc
  ·exact ze
  rename_i h2
  split at hc
  ·exact ze
  rename_i h3
  simp only [decide_eq_true_eq,Int.not_lt] at h2 h3
  exact ⟨by simpa using hh,by omega,by omega⟩
 have:=(r6 _ hw 30 0 rfl).1 ⟨i,0,0,0⟩ rfl h0.1
 refine fun hneed=>⟨?_,this.2,hneed⟩
 unfold Ck
 rw [Bool.and_eq_true,Bool.and_eq_true]
 exact ⟨⟨by simpa using h0.2.1,by simpa using h0.2.2⟩,this.1⟩
theorem di {s:Str} (hl:(D5 s).2.1=0):∀i,WordOk (A5 (D5 s).1 i):=fun i=>by
 obtain ⟨_,hi,hM⟩:=W5 hl
 have hall:∀t∈(D5 s).1,WordOk t:=fun t ht=>by
  rw [hM] at ht
  rcases List.mem_append.1 ht with ht|ht
  ·obtain ⟨it,hit,rfl⟩:=List.mem_map.1 ht
   exact Yp _ _ _ it hit (hi it hit)
  rw [List.mem_singleton.1 ht]
  exact AAc _
 unfold A5
 rw [List.getD_eq_getElem?_getD]
 cases hg:(D5 s).1[i]? with
 | none=>exact ⟨(fun h=>by cases h),(fun h=>by cases h)⟩
 | some t=>exact hall t (List.mem_of_getElem? hg)
theorem gk {L:List Tok} (hw:∀i,WordOk (A5 L i)) {i:Nat} {x:Expr} {j:Nat} (h:Gw L i=.ok x j):TrE x:=by
 unfold Gw at h
 split at h
 ·cases h
 rename_i h1
 injection h with h2 _
 rw [←h2]
 exact s6 hw (by simpa using h1)
theorem L7 {L:List Tok} (hw:∀i,WordOk (A5 L i)) {i:Nat} {s:Str} {j:Nat} (h:Dt L i=.ok s j):Dr s=true:=by
 unfold Dt at h
 split at h
 ·cases h
 rename_i h1
 injection h with h2 _
 rw [←h2]
 exact (hw i).name (by simpa using h1)
theorem Uo {s:Str} (h:(Ic s==0)=false):1≤Ic s∧Ic s≤3:=by
 unfold Ic at h ⊢
 repeat' split at h
 all_goals simp_all
structure ColG (c:Col):Prop where
 name:Dr c.name=true
 lo:1≤c.kind
 hi:c.kind≤3
theorem lj {L:List Tok} (hw:∀i,WordOk (A5 L i)) {i:Nat} {c:Col} {j:Nat} (h:Fu L i=.ok c j):ColG c:=by
 obtain ⟨s,j1,h1,h2⟩:=PR.bind_ok h
 unfold Pa at h2
 split at h2
 ·cases h2
 rename_i h3
 injection h2 with h2 _
 have h3:(Ic (A5 L j1).text==0)=false:=by
  simp only [Bool.or_eq_true,not_or,Bool.not_eq_true] at h3
  exact h3.2
 rw [←h2]
 exact ⟨L7 hw h1,(Uo h3).1,(Uo h3).2⟩
/-- The parts of a move, so far. -/
structure MvG (m:Mov):Prop where
 takes:∀s∈m.take,Dr s=true
 gives:∀c∈m.give,ColG c
 len:m.ahead.length=m.give.length
 aheads:∀x∈m.ahead,TrE x
 backs:∀x∈m.back,TrE x
theorem MvG.nil (k:Int):MvG ⟨k,[],[],[],[]⟩:=⟨(fun s h=>by cases h),(fun s h=>by cases h),rfl,(fun s h=>by cases h),(fun s h=>by cases h)⟩
theorem Pz {L:List Tok} (hw:∀i,WordOk (A5 L i)) {m:Mov} (hm:MvG m) {i:Nat} {m':Mov} {j:Nat} (h:Cc L m i=.ok m' j):MvG m'∧∃c x,ColG c∧m'=Lk (Bm m c) x:=by
 obtain ⟨c,j1,h1,h2⟩:=PR.bind_ok h
 obtain ⟨u,j2,h3,h4⟩:=PR.bind_ok h2
 obtain ⟨x,j3,h5,h6⟩:=PR.bind_ok h4
 injection h6 with h6 _
 have hc:=lj hw h1
 have hx:=gk hw h5
 subst h6
 refine ⟨⟨hm.takes,fun y hy=>?_,?_,fun y hy=>?_,hm.backs⟩,c,x,hc,rfl⟩
 ·rcases List.mem_append.1 hy with h|h
  ·exact hm.gives y h
  rw [List.mem_singleton.1 h];exact hc
 ·show (m.ahead++[x]).length=(m.give++[c]).length
  rw [List.length_append,List.length_append,hm.len]
  rfl
 rcases List.mem_append.1 hy with h|h
 ·exact hm.aheads y h
 rw [List.mem_singleton.1 h];exact hx
theorem Za {L:List Tok} (hl:TokEnd L) {n:Int} {one:Mov→Nat→PR Mov} {P:Nat→Mov→Prop} (hP:∀k m i m' j,P k m→i<L.length→one m i=.ok m' j→P (k+1) m'∧i≤j∧j<L.length):
  ∀(f k:Nat) (m:Mov) (i:Nat) (m':Mov) (j:Nat),i<L.length→L.length≤i+f→P k m→H7 L n one f k m i=.ok m' j→(∃c,P c m'∧(n=0→2≤c)∧(0<n→(k:Int)≤n→(c:Int)=n))∧j<L.length
 | 0,k,m,i,m',j,hi,hf,hm,h=>by omega
 | f+1,k,m,i,m',j,hi,hf,hm,h=>by
  rw [H7] at h
  split at h
  ·rename_i hq
   obtain ⟨u,j1,h1,h2⟩:=PR.bind_ok h
   obtain ⟨m1,j2,h3,h4⟩:=PR.bind_ok h2
   have e:=Hz h1
   have a1:=D8 hl hi _ _ h1
   obtain ⟨b1,b2,b3⟩:=hP k m j1 m1 j2 hm a1.2 h3
   obtain ⟨⟨c,c1,c2,c3⟩,c4⟩:=Za hl hP f (k+1) m1 j2 m' j b3 (by omega) b1 h4
   refine ⟨⟨c,c1,c2,fun h0 hk=>c3 h0 ?_⟩,c4⟩
   unfold If at hq
   have:(n==0)=false:=by simp;omega
   rw [this] at hq
   simp at hq
   omega
  rename_i hq
  injection h with h1 h2
  subst h1;subst h2
  unfold If at hq
  refine ⟨⟨k,hm,fun h0=>?_,fun h0 hk=>?_⟩,hi⟩
  ·rw [h0] at hq
   simp at hq
   omega
  simp at hq
  omega
theorem Wj {L:List Tok} (hl:TokEnd L) {n:Int} {one:Mov→Nat→PR Mov} {P:Nat→Mov→Prop} (hP:∀k m i m' j,P k m→i<L.length→one m i=.ok m' j→P (k+1) m'∧i≤j∧j<L.length) {m:Mov} {i:Nat} {m':Mov} {j:Nat} (hi:i<L.length) (hm:P 0 m) (h:Dz L n one m i=.ok m' j):(∃c,P c m'∧(n=0→2≤c)∧(0<n→(c:Int)=n))∧j<L.length:=by
 obtain ⟨m1,j1,h1,h2⟩:=PR.bind_ok h
 obtain ⟨b1,b2,b3⟩:=hP 0 m i m1 j1 hm hi h1
 obtain ⟨⟨c,c1,c2,c3⟩,c4⟩:=Za hl hP _ 1 m1 j1 m' j b3 (by omega) b1 h2
 exact ⟨⟨c,c1,c2,fun h0=>c3 h0 (by omega)⟩,c4⟩
theorem Oi {L:List Tok} (hl:TokEnd L) (hll:L.length≤500000) {m:Mov} {i:Nat} {m':Mov} {j:Nat} (hi:i<L.length) (h:Cc L m i=.ok m' j):i≤j∧j<L.length:=by
 obtain ⟨c,j1,h1,h2⟩:=PR.bind_ok h
 obtain ⟨u,j2,h3,h4⟩:=PR.bind_ok h2
 obtain ⟨x,j3,h5,h6⟩:=PR.bind_ok h4
 injection h6 with _ h7
 subst h7
 have a1:=Oa hl hi _ _ h1
 have a2:=D8 hl a1.2 _ _ h3
 have a3:=Jg hl hll a2.2 h5
 exact ⟨by omega,a3.2⟩
/-- The trees back. -/
theorem Q0 {L:List Tok} (hl:TokEnd L) (hll:L.length≤500000) (hw:∀i,WordOk (A5 L i)) {m:Mov} (hm:MvG m) (h0:m.back=[]) (h1:1≤m.take.length) {i:Nat} (hi:i<L.length) {m':Mov} {j:Nat} (h:Cz L m i=.ok m' j):MvG m'∧∃b,b.length=m.take.length∧m'=⟨m.kind,m.take,m.give,m.ahead,b⟩:=by
 obtain ⟨u,j1,h2,h3⟩:=PR.bind_ok h
 have a1:=D8 hl hi _ _ h2
 obtain ⟨⟨c,⟨c1,b,hb,e⟩,c2,c3⟩,_⟩:=Wj (P:=fun k m'=>MvG m'∧∃b:List Expr,b.length=k∧m'=⟨m.kind,m.take,m.give,m.ahead,b⟩) hl (fun k m1 i m2 j hq hi h=>by
  obtain ⟨g,b,hb,e⟩:=hq
  obtain ⟨x,j1,h1,h2⟩:=PR.bind_ok h
  injection h2 with h2 h3
  subst h3
  have a:=Jg hl hll hi h1
  have hx:=gk hw h1
  subst h2
  refine ⟨⟨⟨g.takes,g.gives,g.len,g.aheads,fun y hy=>?_⟩,b++[x],by rw [List.length_append,hb];rfl,by rw [e];rfl⟩,a.1,a.2⟩
  rcases List.mem_append.1 hy with h|h
  ·exact g.backs y h
  rw [List.mem_singleton.1 h];exact hx) a1.2 ⟨hm,[],rfl,by rw [←h0]⟩ h3
 have:=c3 (by omega)
 exact ⟨c1,b,by omega,e⟩
/-- A move that is parsed, its counts and last words. -/
structure MvP (m:Mov):Prop where
 takes:∀s∈m.take,Dr s=true
 gives:∀c∈m.give,Dr c.name=true
 kinds:m.kind≠3→∀c∈m.give,1≤c.kind∧c.kind≤3
 kind3:m.kind=3→∀c∈m.give,c.kind=0
 counts:C9 m=true
 last:Fb m=true
 aheads:∀x∈m.ahead,TrE x
 backs:∀x∈m.back,TrE x
theorem Zb {s:Str} (h:Dr s=true):TrE (B7 s):=⟨by
 have:=Qz s
 rw [←Es]
 rw [this]
 exact h,rfl,by rw [B7];simp [Av,P9,Kh]⟩
theorem MvG.p {m:Mov} (h:MvG m) (hk:m.kind≠3) (hc:C9 m=true) (hl:Fb m=true):MvP m:=⟨h.takes,fun c hc=>(h.gives c hc).name,fun _ c hc=>⟨(h.gives c hc).lo,(h.gives c hc).hi⟩,fun h3=>absurd h3 hk,hc,hl,h.aheads,h.backs⟩
theorem Hn {m:Mov} (h1:m.ahead.length=m.give.length) (h2:m.back.length=m.take.length) (h:(m.kind=1∧m.take.length=0∧m.give.length=1)∨(m.kind=2∧m.take.length=1∧m.give.length=0)∨((m.kind=3∨m.kind=6)∧m.take.length=1∧m.give.length=1)∨(m.kind=4∧m.take.length=1∧1<m.give.length)∨(m.kind=5∧1<m.take.length∧m.give.length=1)):C9 m=true:=by
 unfold C9
 rw [if_neg (by simp [h1,h2])]
 rcases h with ⟨e,a,b⟩|⟨e,a,b⟩|⟨e|e,a,b⟩|⟨e,a,b⟩|⟨e,a,b⟩<;>rw [e]<;>simp [a,b]<;>omega
theorem Q3 {m:Mov} (h3:m.kind≠3) (h6:m.kind≠6):Fb m=true:=by
 unfold Fb
 rw [if_neg (by simpa using h3),if_neg (by simpa using h6)]
theorem xm {L:List Tok} (hl:TokEnd L) (hll:L.length≤500000) (hw:∀i,WordOk (A5 L i)) {k:Int} (hk:1≤k∧k≤6) {i:Nat} (hi:i<L.length) {m:Mov} {j:Nat} (h:Ev L ⟨k,[],[],[],[]⟩ i=.ok m j):MvP m:=by
 have hg:=MvG.nil k
 unfold Ev at h
 split at h
 ·rename_i hk1
  have hk1:k=1:=by simpa using hk1
  obtain ⟨g,c,x,hc,e⟩:=Pz hw hg h
  subst e
  exact g.p (by show k≠3;omega) (Hn g.len rfl (.inl ⟨hk1,rfl,rfl⟩)) (Q3 (by show k≠3;omega) (by show k≠6;omega))
 split at h
 ·rename_i hk1
  have hk1:k=2:=by simpa using hk1
  obtain ⟨s,j1,h1,h2⟩:=PR.bind_ok h
  have hs:=L7 hw h1
  have a1:=Eh hl hi _ _ h1
  have g0:MvG (takeS ⟨k,[],[],[],[]⟩ s):=⟨fun y hy=>by rw [List.mem_singleton.1 hy];exact hs,hg.gives,rfl,hg.aheads,hg.backs⟩
  obtain ⟨g,b,hb,e⟩:=Q0 hl hll hw g0 rfl (Nat.le_refl _) a1.2 h2
  subst e
  exact g.p (by show k≠3;omega) (Hn rfl hb (.inr (.inl ⟨hk1,rfl,rfl⟩))) (Q3 (by show k≠3;omega) (by show k≠6;omega))
 split at h
 ·rename_i hk1
  have hk1:k=3:=by simpa using hk1
  obtain ⟨s,j1,h1,h2⟩:=PR.bind_ok h
  obtain ⟨u,j2,h3,h4⟩:=PR.bind_ok h2
  obtain ⟨t,j3,h5,h6⟩:=PR.bind_ok h4
  injection h6 with h6 _
  have hs:=L7 hw h1
  have ht:=L7 hw h5
  subst h6
  refine ⟨fun y hy=>by rw [List.mem_singleton.1 hy];exact hs,fun y hy=>by rw [List.mem_singleton.1 hy];exact ht,fun h=>absurd hk1 h,fun _ y hy=>by rw [List.mem_singleton.1 hy],Hn rfl rfl (.inr (.inr (.inl ⟨.inl hk1,rfl,rfl⟩))),?_,fun y hy=>by rw [List.mem_singleton.1 hy];exact Zb hs,fun y hy=>by rw [List.mem_singleton.1 hy];exact Zb ht⟩
  unfold Fb
  rw [if_pos (by simpa using hk1)]
  show (eqE (B7 s) (B7 s)&&eqE (B7 t) (B7 t))=true
  rw [Rf,Rf]
  rfl
 split at h
 ·rename_i hk1
  have hk1:k=4:=by simpa using hk1
  obtain ⟨s,j1,h1,h2⟩:=PR.bind_ok h
  obtain ⟨u,j2,h3,h4⟩:=PR.bind_ok h2
  obtain ⟨m1,j3,h5,h6⟩:=PR.bind_ok h4
  have hs:=L7 hw h1
  have a1:=Eh hl hi _ _ h1
  have a2:=D8 hl a1.2 _ _ h3
  have g0:MvG (takeS ⟨k,[],[],[],[]⟩ s):=⟨fun y hy=>by rw [List.mem_singleton.1 hy];exact hs,hg.gives,rfl,hg.aheads,hg.backs⟩
  obtain ⟨⟨c,⟨g1,e1,e2,e3,e4⟩,c2,_⟩,c4⟩:=Wj (P:=fun n m'=>MvG m'∧m'.kind=k∧m'.take=[s]∧m'.back=[]∧m'.give.length=n) hl (fun n m1 i m2 j hq hi h=>by
   obtain ⟨g,e1,e2,e3,e4⟩:=hq
   obtain ⟨g',c,x,hc,e⟩:=Pz hw g h
   have a:=Oi hl hll hi h
   subst e
   exact ⟨⟨g',e1,e2,e3,by show (m1.give++[c]).length=_;rw [List.length_append,e4];rfl⟩,a.1,a.2⟩) a2.2 ⟨g0,rfl,rfl,rfl,rfl⟩ h5
  have c2:=c2 rfl
  obtain ⟨g,b,hb,e⟩:=Q0 hl hll hw g1 e3 (by rw [e2];exact Nat.le_refl _) c4 h6
  subst e
  exact g.p (by show m1.kind≠3;omega) (Hn g1.len hb (.inr (.inr (.inr (.inl ⟨by show m1.kind=4;omega,by show m1.take.length=1;rw [e2];rfl,by show 1<m1.give.length;omega⟩))))) (Q3 (by show m1.kind≠3;omega) (by show m1.kind≠6;omega))
 split at h
 ·rename_i hk1
  have hk1:k=5:=by simpa using hk1
  obtain ⟨m1,j1,h1,h2⟩:=PR.bind_ok h
  obtain ⟨u,j2,h3,h4⟩:=PR.bind_ok h2
  obtain ⟨m2,j3,h5,h6⟩:=PR.bind_ok h4
  obtain ⟨⟨c,⟨g1,e1,e2,e3,e4,e5⟩,c2,_⟩,c4⟩:=Wj (P:=fun n m'=>MvG m'∧m'.kind=k∧m'.give=[]∧m'.ahead=[]∧m'.back=[]∧m'.take.length=n) hl (fun n m1 i m2 j hq hi h=>by
   obtain ⟨g,e1,e2,e3,e4,e5⟩:=hq
   obtain ⟨s,j1,h1,h2⟩:=PR.bind_ok h
   injection h2 with h2 h3
   have hs:=L7 hw h1
   have a:=Eh hl hi _ _ h1
   subst h3
   subst h2
   refine ⟨⟨⟨fun y hy=>?_,g.gives,g.len,g.aheads,g.backs⟩,e1,e2,e3,e4,by show (m1.take++[s]).length=_;rw [List.length_append,e5];rfl⟩,by omega,a.2⟩
   rcases List.mem_append.1 hy with h|h
   ·exact g.takes y h
   rw [List.mem_singleton.1 h];exact hs) hi ⟨hg,rfl,rfl,rfl,rfl,rfl⟩ h1
  have c2:=c2 rfl
  have a2:=D8 hl c4 _ _ h3
  obtain ⟨g2,cc,x,hc,e⟩:=Pz hw g1 h5
  have a3:=Oi hl hll a2.2 h5
  subst e
  obtain ⟨g,b,hb,e⟩:=Q0 hl hll hw g2 e4 (by show 1≤m1.take.length;omega) a3.2 h6
  subst e
  exact g.p (by show m1.kind≠3;omega) (Hn g2.len hb (.inr (.inr (.inr (.inr ⟨by show m1.kind=5;omega,by show 1<m1.take.length;omega,by show (m1.give++[cc]).length=1;rw [e2];rfl⟩))))) (Q3 (by show m1.kind≠3;omega) (by show m1.kind≠6;omega))
 split at h
 ·rename_i hk1
  have hk1:k=6:=by simpa using hk1
  obtain ⟨m1,j1,h1,h2⟩:=PR.bind_ok h
  obtain ⟨g,c,x,hc,e⟩:=Pz hw hg h1
  have a:=Oi hl hll hi h1
  subst e
  have g0:MvG (takeS (Lk (Bm ⟨k,[],[],[],[]⟩ c) x) c.name):=⟨fun y hy=>by rw [List.mem_singleton.1 hy];exact hc.name,g.gives,g.len,g.aheads,g.backs⟩
  obtain ⟨g1,b,hb,e⟩:=Q0 hl hll hw g0 rfl (Nat.le_refl _) a.2 h2
  subst e
  refine g1.p (by show k≠3;omega) (Hn g0.len hb (.inr (.inr (.inl ⟨.inr hk1,rfl,rfl⟩)))) ?_
  unfold Fb
  rw [if_neg (by show ¬((k==3)=true);simp;omega),if_pos (by show (k==6)=true;simp;omega)]
  show (c.name==c.name)=true
  simp
 rename_i h1 h2 h3 h4 h5 h6
 simp only [beq_iff_eq] at h1 h2 h3 h4 h5 h6
 omega
theorem dj {s:Str} (h:(D7 s==0)=false):1≤D7 s∧D7 s≤6:=by
 unfold D7 at h ⊢
 repeat' split at h
 all_goals simp_all
theorem xn {L:List Tok} (hl:TokEnd L) (hll:L.length≤500000) (hw:∀i,WordOk (A5 L i)) {i:Nat} (hi:i<L.length) {m:Mov} {j:Nat} (h:Fv L i=.ok m j):MvP m:=by
 unfold Fv at h
 split at h
 ·cases h
 rename_i h1
 simp only [Bool.or_eq_true,not_or,Bool.not_eq_true] at h1
 obtain ⟨m1,j1,h2,h3⟩:=PR.bind_ok h
 obtain ⟨u,j2,h4,h5⟩:=PR.bind_ok h3
 injection h5 with h5 _
 subst h5
 exact xm hl hll hw (dj h1.2) (hl.step hi (by have:=h1.1;simp at this;omega)) h2
theorem MvP.one {m:Mov} (h:MvP m):Eu m=true:=by
 unfold Eu
 simp only [Bool.and_eq_true,List.all_eq_true]
 refine ⟨⟨⟨⟨⟨h.counts,fun c hc=>?_⟩,fun s hs=>by rw [Cv];exact h.takes s hs⟩,fun x hx=>by rw [Es];exact (h.aheads x hx).right⟩,fun x hx=>by rw [Es];exact (h.backs x hx).right⟩,h.last⟩
 unfold G9
 rw [Cv,h.gives c hc,Bool.true_and]
 by_cases h3:m.kind=3
 ·rw [h3,h.kind3 h3 c hc]
  decide
 have:=h.kinds h3 c hc
 have e:(m.kind==3)=false:=by simpa using h3
 rw [e]
 have:(Ai c.kind==([]:Str))=false:=by
  have hk:c.kind=1∨c.kind=2∨c.kind=3:=by omega
  rcases hk with h|h|h<;>rw [h]<;>decide
 rw [this]
 rfl
theorem Oj {s:Str} (h:Dr s=true):s.length≤16:=by
 rw [←Cv] at h
 unfold C3 at h
 simp only [Bool.and_eq_true,decide_eq_true_eq] at h
 omega
theorem s7 {l:List Expr} (hl:l.length≤1048576) (h:∀x∈l,TrE x):OkEs l:=⟨hl,fun e he=>Fo (by decide) (Un (h e he).right).1,fun e he=>Nat.le_trans (Un (h e he).right).2 (by decide),fun e he=>(h e he).rng⟩
theorem MvP.ok {m:Mov} (h:MvP m) {n:Nat} (hn:MvLe m n) (h1:n≤1000000):OkMov m:=
 ⟨by have:=hn.take;omega,fun s hs=>by have:=Oj (h.takes s hs);omega,⟨by have:=hn.give;omega,fun y hy=>by have:=Oj (h.gives y hy);omega⟩,by have:=hn.give;omega,s7 (by have:=hn.ahead;omega) h.aheads,s7 (by have:=hn.back;omega) h.backs⟩
end Go.SX.Nb
namespace Go.SX
variable [GI:GlobInv]
open Classical
/-- An object that no memory holds: what is told of a state behind an operation that surely panics. -/
def ll:AObj:=.cells 0 [.agg [.agg []]]
def bot (b:Bool):List AObj:=if b then [ll] else []
theorem AAp {G:Gh} {w:World} {i:Nat}:¬ObjRel G w i ll:=fun h=>by
 obtain ⟨u,_,hr⟩:=Iq (y:=.agg [.agg []]) (j:=0) h rfl
 cases hr with
 | agg _ _ vs hn h1 _=>exact absurd (h1 _ (List.mem_singleton.2 rfl)) (by simp [AV.one])
section
variable {P:Program} {d:Nat}
theorem StRel.bot {G:Gh} {st:St} {a:Act} {w:World} (h:StRel d G st a w) (hb:ll∈st.own):False:=by
 obtain ⟨i,hi⟩:=List.getElem?_of_mem (List.mem_append_right st.up hb)
 exact AAp (h.heap.obj i _ hi)
theorem Q4 {b:Bool} {l:List AObj} (h:b=true):ll∈l++bot b:=by subst h;exact List.mem_append_right _ (List.mem_singleton.2 rfl)
variable {sz:Nat} {dfs:List Nat} {rnd:Option Nat} {l0:List Oper} {up own:(Nat→Bool)→List AObj} {KP:List PanicEntry→St→Prop} {E:List Oper→(Nat→AV)→Prop} {S:List SegY} {l:List Oper} {fr:Nat→AV} {ty:TypeId} {pos:String} {aft:Array Edge} {s:Nat} {T F:List Nat}
/-- What stands behind the operation that panics never runs. -/
theorem Y.bot {W:List Nat} {o:Oper} (hb:∀B:Nat→Bool,(∀p∈T,B p=true)→ll∈own B) (h:ChainY P d l0 sz up own dfs rnd KP E S l (Gn (W.map fun s=>(s,.any)) fr)) (hg:o.guard=none:=by rfl):
  ChainY P d l0 sz up own dfs rnd KP E (.s W none T F::S) (o::l) fr:=by
 refine ⟨_,l,W.map fun s=>(s,.any),rfl,⟨?_,hg,fun B f hT _ _ _ G a w hr=>?_⟩,h⟩
 ·simp [Function.comp_def]
 exact (StRel.bot hr (hb B hT)).elim
theorem Y.endBot {tn:List Nat} {Q:St→Prop} (hb:ll∈own (fun p=>decide (p<tn.length))):ChainY P d l0 sz up own dfs rnd KP (fun l' f=>ARun P d l0.toArray l' ⟨sz,f,up (fun p=>decide (p<tn.length)),own (fun p=>decide (p<tn.length)),dfs,rnd⟩ Q) [] l fr:=
 fun G a w hr=>(StRel.bot hr hb).elim
/-- A call that surely panics. -/
theorem Y.callBad {f0:Operand} {g:FuncId} {xs:List Operand} {ats:Array TypeId} {first caps args:List AV} {pn:Nat} {up0 own0:List AObj} {pp:Value→List AObj→Prop} (hcall:∀args w,(callFunc g args).run P w=.ok (.enter g args) w)
  (hU:∀B:Nat→Bool,B pn=false→up B=up0∧own B=own0) (hA:ACallP P g args (up0++own0) (fun _ _=>False) pp)
  (hpp:∀x U O f,U.length=up0.length→(U++O).length=(up0++own0).length→pp x (U++O)→((∀x∈up0,ObjLow U.length x)→∀x∈U,ObjLow U.length x)∧(∀o∈dfs,(up0++own0)[o]? = some .defs→(U++O)[o]? = some .defs)∧KP (F5 x) ⟨sz,f,U,O,dfs,rnd⟩)
  (h:ChainY P d l0 sz up own dfs rnd KP E S l (A6 s .any fr))
  (hf0:Af fr f0=.fn (.func g) first caps:=by exact sL0) (ha:first++xs.map (Af fr)++caps=args:=by exact sL0):
  ChainY P d l0 sz up own dfs rnd KP E (.s [s] (some pn) T F::S) (⟨some s,.call ⟨.value f0,xs.toArray,ats⟩,ty,pos,aft,none⟩::l) fr:=by
 refine ⟨_,l,[(s,.any)],rfl,⟨rfl,rfl,fun B f _ _ hB hf G a w hr=>?_⟩,h⟩
 obtain ⟨e1,e2⟩:=hU B (hB pn rfl)
 rw [e1,e2] at hr ⊢
 have e:first++xs.map (Af f)++caps=args:=by rw [Zz hf (fun x hx=>by simp [Op.operands,Call.operands,hx])];exact ha
 have e0:Af f f0=.fn (.func g) first caps:=by rw [agr hf (by simp [Op.operands,Call.operands])];exact hf0
 have hev:St.ev ⟨sz,f,up0,own0,dfs,rnd⟩ f0=.fn (.func g) first caps:=e0
 have hfr:=hev ▸ hr.eval f0
 generalize hfv:a.eval f0=fv at hfr
 cases hfr with
 | fn _ _ _ _ va vc hna hnc h1 h2 =>
  have hxr:=J4 hr xs
  subst e
  refine Oz (by intro c h;cases h) (Hs hcall hfv) (hA d G w _ (by simp [hna,hnc]) (fun i y u hy hu=>?_) hr.heap hr.tags hr.top) ?_
  ·rw [List.append_assoc] at hy
   rw [Array.append_assoc] at hu
   rcases Nat.lt_or_ge i first.length with hi|hi
   ·rw [List.getElem?_append_left hi] at hy
    rw [Array.getElem?_append_left (by omega)] at hu
    exact (h1 i y u hy hu).lift
   rw [List.getElem?_append_right hi] at hy
   rw [Array.getElem?_append_right (by omega),hna] at hu
   rcases Nat.lt_or_ge (i-first.length) xs.length with hj|hj
   ·rw [List.getElem?_append_left (by simpa using hj)] at hy
    rw [Array.getElem?_append_left (by simpa using hj)] at hu
    exact (hxr _ y u hy hu).lift
   rw [List.getElem?_append_right (by simpa using hj)] at hy
   rw [Array.getElem?_append_right (by simpa using hj)] at hu
   simp only [List.length_map,List.size_toArray] at hy hu
   exact (h2 _ y u hy hu).lift
  rintro e w' (⟨v,G',y,H',rfl,hrep,hH,hT,hk,hlen,hpo⟩|⟨x,G',H',rfl,hH,hT,hk,hlen,hpo⟩)
  ·exact hpo.elim
  have hl':up0.length≤H'.length:=by rw [hlen];simp
  obtain ⟨U,hU'⟩:∃U,U=H'.take up0.length:=⟨_,rfl⟩
  obtain ⟨O,hO⟩:∃O,O=H'.drop up0.length:=⟨_,rfl⟩
  have e1':H'=U++O:=by rw [hU',hO];exact (List.take_append_drop _ _).symm
  have e2':U.length=up0.length:=by rw [hU'];simp;omega
  subst e1'
  obtain ⟨q1,q2,q3⟩:=hpp x U O f e2' hlen hpo
  have h3:=hr.called hH hT hk rfl e2' (fun o ho=>q2 o ho (hr.defsAt o ho)) (q1 (by rw [e2'];exact hr.low))
  exact .inr ⟨_,rfl,_,rfl,_,_,h3,hk.less (Nat.le_succ d),e2',rfl,rfl,rfl,q3⟩
/-- A panic, drawn. -/
theorem Y.panic {x:Operand} {t:TypeId} {vs:List Value} {pn:Nat} (hq:∀B:Nat→Bool,B pn=false→∀f,KP (F5 (.iface t (.agg vs.toArray))) ⟨sz,f,up B,own B,dfs,rnd⟩) (h:ChainY P d l0 sz up own dfs rnd KP E S l fr)
  (hx:Af fr x=.iface t (.agg (vs.map .v)):=by exact sL0):
  ChainY P d l0 sz up own dfs rnd KP E (.s [] (some pn) T F::S) (⟨none,.panic x,ty,pos,aft,none⟩::l) fr:=by
 refine ⟨_,l,[],rfl,⟨rfl,rfl,fun B f _ _ hB hf G a w hr=>?_⟩,h⟩
 have hxr:=hr.eval x
 have hev:St.ev ⟨sz,f,up B,own B,dfs,rnd⟩ x=.iface t (.agg (vs.map .v)):=by
  show Af f x=_
  rw [agr hf (by simp [Op.operands])];exact hx
 rw [hev] at hxr
 refine ⟨fun _ _=>trivial,?_⟩
 rw [Oper.semAt_eq _ _ _ (by intro c h;cases h)]
 have he:(execOp a.eval ⟨none,.panic x,ty,pos,aft,none⟩).run P w=.halt (.panic (.iface t (.agg vs.toArray))) w:=by
  show ((do let v ←Instr.panic (a.eval x);pure (.value v)):Sem Next).run P w=_
  rw [Qg hxr]
  rfl
 rw [he]
 exact ⟨_,rfl,G,_,hr,Keep.refl _ _ _,rfl,rfl,rfl,rfl,hq B (hB pn rfl) f⟩
theorem Hh {U O A B:List AObj} (hl:U.length=A.length) (h:U++O=A++B):A=U∧B=O:=List.append_inj h.symm hl.symm
theorem B4 {U O A B:List AObj} {o:Nat} {x:AObj} (hl:U.length=A.length) (ho:o<A.length) (h:U++O=(A++B).set o x):A.set o x=U∧B=O:=by
 rw [List.set_append_left _ _ ho] at h
 exact List.append_inj h.symm (by simpa using hl.symm)
end
section
variable {P:Program} {d:Nat} {ops:Array Oper}
/-- A call that surely panics. -/
theorem RK.callBad {sz s:Nat} {fr:Nat→AV} {up own:List AObj} {dfs:List Nat} {rnd:Option Nat} {ty:TypeId} {pos:String} {aft:Array Edge} {rest:List Oper} {K:Exit→St→Prop} {f:Operand} {g:FuncId} {xs:List Operand} {ats:Array TypeId} {first caps args:List AV} {pp:Value→List AObj→Prop}
  (hcall:∀args w,(callFunc g args).run P w=.ok (.enter g args) w) (h:ACallP P g args (up++own) (fun _ _=>False) pp)
  (hpp:∀x U O,U.length=up.length→(U++O).length=(up++own).length→pp x (U++O)→((∀x∈up,ObjLow U.length x)→∀x∈U,ObjLow U.length x)∧(∀o∈dfs,(up++own)[o]? = some .defs→(U++O)[o]? = some .defs)∧K (.panic (F5 x)) ⟨sz,fr,U,O,dfs,rnd⟩)
  (hf:Af fr f=.fn (.func g) first caps:=by exact sL0) (ha:first++xs.map (Af fr)++caps=args:=by exact sL0) (hs:Nat.blt s sz=true:=by rfl):
  ARunK P d ops (⟨some s,.call ⟨.value f,xs.toArray,ats⟩,ty,pos,aft,none⟩::rest) ⟨sz,fr,up,own,dfs,rnd⟩ K:=RK.callV hcall h (fun _ _ _ _ _ h=>h.elim) hpp hf ha hs
theorem AW.upEq {c:Code} {sz:Nat} {fr:Nat→AV} {up up' own:List AObj} {dfs:List Nat} {rnd:Option Nat} {K:Exit→St→Prop} (e:up=up') (h:AW P d c ⟨sz,fr,up',own,dfs,rnd⟩ K):AW P d c ⟨sz,fr,up,own,dfs,rnd⟩ K:=e ▸ h
end
end Go.SX
namespace Go.SX
variable [GI:GlobInv]
open Classical
section
variable {P:Program} {d:Nat} {st:St} {ty:TypeId} {pos:String} {aft:Array Edge} {gd:Option (Nat×Bool)}
/-- A variable of its own, not laid yet. -/
theorem AOp.allocP {t:TypeId} {z:Value} {k s:Nat} (hz:∀w,(zeroValue t).run P w=.ok z w) (hk:z.cells.size=k) (hs:s<st.sz):
  AOp P d ⟨some s,.alloc t,ty,pos,aft,gd⟩ st (·=st.set s (.cellp k)):=by
 subst hk
 intro G a w h Q'
 let G':Gh:={ G with tag:=fun b o=>if b=w.heap.size∧o<z.cells.size then .tail (.slot d s) else G.tag b o }
 have hfree:∀o,G.tag w.heap.size o=.free:=fun o=>Dq h.tags _ o (Nat.le_refl _)
 have hne:∀b o,G.tag b o≠.free→¬(b=w.heap.size∧o<z.cells.size):=fun b o hb hc=>by rw [hc.1] at hb;exact hb (hfree o)
 have hkeep:∀b o,G.tag b o≠.free→G'.tag b o=G.tag b o:=fun b o hb=>by simp only [G'];rw [if_neg (hne b o hb)]
 have hcell:∀b o,G.tag b o≠.free→(w.alloc (.cells z.cells t)).cell? ⟨b,o,none⟩=w.cell? ⟨b,o,none⟩:=fun b o hb=>by
  refine World.cell?_alloc_old _ _ _ ?_
  show b≠w.heap.size
  rintro rfl
  exact hb (hfree o)
 have T:Turn G w G' (w.alloc (.cells z.cells t)):=by
  refine ⟨fun b o hb=>⟨by rw [hkeep b o (by rw [hb];simp)];exact hb,hcell b o (by rw [hb];simp)⟩,fun b o L hb=>by rw [hkeep b o (by rw [hb];simp)];exact hb,fun b o i hb=>by rw [hkeep b o (by rw [hb];simp)];exact hb,Nat.le_refl _,fun o ho=>rfl,rfl,rfl,rfl,by simp,Still.alloc _ (fun b o hb=>.inl (by simp only [G'];rw [if_neg (by omega)])) (fun i hi=>.inl ⟨hi,rfl⟩)⟩
 have h1:StRel d G' st a (w.alloc (.cells z.cells t)):=by
  refine h.turn (U:=st.up) (O:=st.own) T ⟨fun i x hx=>T.objRel ?_ ?_ (h.heap.obj i x hx) (fun b hb=>?_),h.heap.n,h.heap.inj⟩ rfl h.defsAt ⟨fun b o hb=>?_,fun b o i hb=>?_,fun b o L hb=>?_,h.tags.globKeep T.old⟩ h.low
  ·rw [h.heap.n];exact (List.getElem?_eq_some_iff.1 hx).1
  ·have:=(h.heap.obj i x hx).blt
   show (w.heap.push _)[G.blk i]? = _
   rw [Array.getElem?_push,if_neg (by omega)]
  ·have:=hb.lt
   show (w.heap.push _)[b]? = _
   rw [Array.getElem?_push,if_neg (by omega)]
  ·simp only [G'] at hb
   split at hb
   ·rename_i hc
    obtain ⟨rfl,hlt⟩:=hc
    exact ⟨z.cells[o],by rw [World.cell?_alloc_new];exact Array.getElem?_eq_getElem hlt⟩
   rw [hcell b o hb]
   exact h.tags.ex b o hb
  ·simp only [G'] at hb
   split at hb
   ·cases hb
   rw [World.frozen?_alloc_old]
   ·exact h.tags.obj b o i hb
   show b≠w.heap.size
   rintro rfl
   rw [hfree] at hb;cases hb
  simp only [G'] at hb
  split at hb
  ·rename_i hc
   obtain ⟨rfl,hlt⟩:=hc
   exact World.frozen?_alloc_new _ _ _ _
  rw [World.frozen?_alloc_old]
  ·exact h.tags.tail b o L hb
  show b≠w.heap.size
  rintro rfl
  rw [hfree] at hb;cases hb
 have hrun:(execOp a.eval (⟨some s,.alloc t,ty,pos,aft,gd⟩:Oper)).run P w=.ok (.value (.pointer (some ⟨w.heap.size,0,none⟩))) (w.alloc (.cells z.cells t)):=by
  simp [execOp,Instr.alloc,hz,newVar,newRow]
 refine Bq (by intro c h;cases h) hrun ⟨G',_,h1.put (s:=s) (y:=.cellp z.cells.size) hs ?_,T.keep d,rfl,rfl,rfl,rfl⟩
 exact .cellp _ _ _ ⟨_,rfl,fun o ho=>by simp [G',ho]⟩

/-- It is laid: from now on nobody writes it. -/
theorem AOp.storeP {t:TypeId} {x:Operand} {r k:Nat} {y:AV} (hsz:∀w,(sizeOf t).run P w=.ok k w) (hf:st.fr r=.cellp k) (hx:st.ev x=y) (hk:y.cells.length=k) (hk0:0<k) (h1:y.cells.all AV.one=true):
  AOp P d ⟨none,.store t (.tmp r) x,ty,pos,aft,gd⟩ st (·=st.set r (.ro y.cells)):=by
 intro G a w h Q'
 have hone:∀c∈y.cells,c.one=true:=fun c hc=>List.all_eq_true.1 h1 c hc
 obtain ⟨hc,hcc⟩:=(hx ▸ h.eval x).cells hone
 have hsl:=h.slots r
 rw [hf] at hsl
 generalize hv:a.tmps.getD r undef=v at hsl
 cases hsl with
 | cellp l k b ho =>
  obtain ⟨L,hL,ht⟩:=ho
  injection hL with hL
  subst hL
  let us:=(a.eval x).cells.toList
  have hul:us.length=k:=by simp only [us,Array.length_toList];omega
  have huone:∀u∈us,u.oneCell'=true:=fun u hu=>by
   obtain ⟨j,hj⟩:=List.getElem?_of_mem hu
   have hj':(a.eval x).cells[j]? = some u:=by rw [←Array.getElem?_toList];exact hj
   have hlt:j<y.cells.length:=by rw [←hc];exact (Array.getElem?_eq_some_iff.1 hj').1
   exact (hcc j _ u (List.getElem?_eq_getElem hlt) hj').one (hone _ (List.getElem_mem hlt))
  have hrun0:=run_storeCells_cells (P:=P) b 0 us 0 w (fun j hj=>by
    obtain ⟨u,hu⟩:=h.tags.ex b j (by rw [ht j (by omega)];simp)
    simp only [Nat.add_zero,Nat.zero_add];rw [hu];rfl) (fun j hj=>by simpa using h.tags.tail _ _ _ (ht j (by omega))) huone
  simp only [Nat.add_zero] at hrun0
  let W:=w.setCells b 0 us
  let G':Gh:={ G with tag:=fun b' o=>if b'=b∧o<k then .fix else G.tag b' o }
  have htag:∀b' o,G.tag b' o≠.tail (.slot d r)→G'.tag b' o=G.tag b' o:=fun b' o hb=>by
   simp only [G']
   rw [if_neg]
   rintro ⟨rfl,ho⟩
   exact hb (ht o ho)
  have hout:∀b' o,¬(b'=b∧o<k)→W.cell? ⟨b',o,none⟩=w.cell? ⟨b',o,none⟩:=fun b' o hn =>
   World.cell?_setCells_out _ us 0 w ⟨b',o,none⟩ (fun hb _=>by
    simp only at hb ⊢
    exact .inr (Nat.le_of_not_lt fun h''=>hn ⟨hb,by omega⟩))
  have hcell:∀b' o,G.tag b' o≠.tail (.slot d r)→W.cell? ⟨b',o,none⟩=w.cell? ⟨b',o,none⟩:=fun b' o hb=>hout b' o (fun hn=>hb (by rw [hn.1];exact ht o hn.2))
  have hnb:∀i,i<G.n→G.blk i≠b:=Jo h.heap h.tags (ht 0 hk0)
  have hheap:∀b',b'≠b→W.heap[b']? = w.heap[b']? := fun b' hb=>C6 _ _ _ _ _ hb
  have hsize:W.heap.size=w.heap.size:=C5 _ _ _ _
  have hstill:Still G w G' W:=Still.tags (fun b' hb'=>hheap b' (fun e=>H1 (ht 0 hk0) (e ▸ hb'))) (Nat.le_of_eq hsize.symm) (fun b' o _=>by
   by_cases hc:b'=b∧o<k
   ·exact .inr ⟨_,by rw [hc.1];exact ht o hc.2⟩
   exact .inl (by simp only [G'];rw [if_neg hc])) (fun i hi=>.inl ⟨hi,rfl⟩)
  have hfix:∀b' o,G.tag b' o=.fix→G'.tag b' o=.fix∧W.cell? ⟨b',o,none⟩=w.cell? ⟨b',o,none⟩:=fun b' o hb=>⟨by rw [htag b' o (by rw [hb];simp)];exact hb,hcell b' o (by rw [hb];simp)⟩
  have htail:∀b' o L,L≠.slot d r→G.tag b' o=.tail L→G'.tag b' o=.tail L:=fun b' o L hL hb=>by
   rw [htag b' o (by rw [hb];intro e;injection e with e;exact hL e)];exact hb
  have hobj:∀b' o i,G.tag b' o=.obj i→G'.tag b' o=.obj i:=fun b' o i hb=>by rw [htag b' o (by rw [hb];simp)];exact hb
  have hrep:∀{l:Option Loc} {z:AV} {u:Value},l≠some (.slot d r)→Rep G w l z u→Rep G' W l z u:=fun hl hz =>
   hz.mono (G':=G') hfix (Nat.le_refl _) (fun _ _=>rfl) (fun L hL b' o ht'=>htail b' o L (fun e=>hl (by rw [hL,e])) ht')
  have hkeep:Keep d G w G' W:=⟨hfix,fun b' o e s he ht'=>htail b' o _ (by rintro ⟨⟩;omega) ht',Nat.le_refl _,fun _ _=>rfl,Ei _ _ _ _,Du _ _ _ _,Cu _ _ _ _,Nat.le_of_eq hsize.symm,hstill⟩
  have hvec:∀j u,us[j]? = some u→W.cell? ⟨b,j,none⟩=some u:=fun j u hu=>by
   have hj:=(List.getElem?_eq_some_iff.1 hu).1
   have hex:∃u',w.cell? ⟨b,j,none⟩=some u':=h.tags.ex b j (by rw [ht j (by omega)];simp)
   obtain ⟨u',hu'⟩:=hex
   have hbk:∃vs e fz,w.heap[b]? = some (.cells vs e fz):=by
    simp only [World.cell?] at hu'
    split at hu'
    ·rename_i vs e fz hb;exact ⟨vs,e,fz,hb⟩
    cases hu'
   obtain ⟨vs,e,fz,hbk⟩:=hbk
   have hlen:0+us.length≤vs.size:=by
    rw [hul,Nat.zero_add]
    rcases Nat.lt_or_ge vs.size k with h'|h'
    ·exfalso
     obtain ⟨u2,hu2⟩:=h.tags.ex b vs.size (by rw [ht _ h'];simp)
     simp [World.cell?,hbk] at hu2
    exact h'
   obtain ⟨vs',b1,b2,b3⟩:=Hr b e fz us 0 w vs hbk hlen
   have b3':=b3 j
   rw [if_pos (by omega)] at b3'
   show (w.setCells b 0 us).cell? ⟨b,j,none⟩=some u
   simp only [World.cell?,b1]
   rw [b3',Nat.sub_zero]
   exact hu
  have hst:StRel d G' (st.set r (.ro y.cells)) a W:=by
   refine ⟨h.size,fun s=>?_,⟨fun i z hz=>?_,h.heap.n,h.heap.inj⟩,h.defs,h.defsAt,h.defsNodup,h.defsGe,⟨fun b' o hb=>?_,fun b' o i hb=>?_,fun b' o L hb=>?_,h.tags.globKeep hstill⟩,h.rnd,h.low,h.top⟩
   ·show Rep G' W _ (A6 r (.ro y.cells) st.fr s) _
    unfold A6
    by_cases hs:s=r
    ·subst hs
     rw [if_pos rfl,hv]
     refine .ro _ _ ⟨b,0,none⟩ (fun j=>(a.eval x).cells.getD j undef) rfl hone (fun j c hj=>?_) (fun j c hj=>?_)
     all_goals
      have hlt:j<y.cells.length:=(List.getElem?_eq_some_iff.1 hj).1
      have hu:(a.eval x).cells[j]? = some ((a.eval x).cells[j]'(by omega)):=Array.getElem?_eq_getElem _
      have e1:(a.eval x).cells.getD j undef=(a.eval x).cells[j]'(by omega):=by rw [Array.getD_eq_getD_getElem?,hu];rfl
      rw [e1]
     ·refine ⟨by simp only [G',Nat.zero_add];rw [if_pos ⟨trivial,by omega⟩],?_⟩
      rw [Nat.zero_add]
      exact hvec j _ (by simp only [us];rw [Array.getElem?_toList];exact hu)
     exact hrep (by simp) (hcc j c _ hj hu)
    rw [if_neg hs]
    exact hrep (by simp;exact fun e=>hs e) (h.slots s)
   ·have hob:=h.heap.obj i z hz
    have hi:i<G.n:=by rw [h.heap.n];exact (List.getElem?_eq_some_iff.1 hz).1
    have hb:=hheap (G.blk i) (hnb i hi)
    cases z with
    | cells t cs =>
     obtain ⟨vs,a1,a2,a3,a4⟩:=hob
     exact ⟨vs,hb.trans a1,a2,fun j y u p q=>hrep (by simp) (a3 j y u p q),fun j hj=>hobj _ _ _ (a4 j hj)⟩
    | loop sta pd fr sz ps asg bd df =>
     obtain ⟨fn,tmps,a1,a2,a3,a4⟩:=hob
     exact ⟨fn,tmps,hb.trans a1,a2,fun s=>hrep (by simp) (a3 s),a4⟩
    | defs=>exact hb.trans hob
    | dead=>exact hb.trans hob
    | bld t e bs=>exact BldRel.turn hob rfl (fun b' o ho=>hobj b' o i ho) hb (fun b' ha=>hheap b' (fun e=>by
      have:=ha.tag h.tags (o:=0) (by rw [e,ht 0 hk0];simp)
      rw [e,ht 0 hk0] at this;cases this))
    | gone =>
     obtain ⟨vs,t,fz,a1,a2⟩:=hob
     exact ⟨vs,t,fz,hb.trans a1,fun j hj=>(hfix _ _ (a2 j hj)).1⟩
   ·by_cases hc:b'=b∧o<k
    ·obtain ⟨rfl,ho⟩:=hc
     exact ⟨us[o]'(by omega),hvec o _ (List.getElem?_eq_getElem _)⟩
    rw [hout b' o hc]
    simp only [G',if_neg hc] at hb
    exact h.tags.ex b' o hb
   ·rw [World.frozen?_setCells]
    simp only [G'] at hb
    split at hb
    ·cases hb
    exact h.tags.obj b' o i hb
   rw [World.frozen?_setCells]
   simp only [G'] at hb
   split at hb
   ·cases hb
   exact h.tags.tail b' o L hb
  have hrun:(execOp a.eval (⟨none,.store t (.tmp r) x,ty,pos,aft,gd⟩:Oper)).run P w=.ok .skip W:=
   Ej hsz (show a.eval (.tmp r)=_ from hv) (by omega) hrun0
  exact Ep (by intro c h;cases h) hrun ⟨G',_,hst,hkeep,rfl,rfl,rfl,rfl⟩
end
section
variable {P:Program} {d:Nat} {sz:Nat} {dfs:List Nat} {rnd:Option Nat} {l0:List Oper} {up own:(Nat→Bool)→List AObj} {KP:List PanicEntry→St→Prop} {E:List Oper→(Nat→AV)→Prop} {S:List SegY} {l:List Oper} {fr:Nat→AV} {ty:TypeId} {pos:String} {aft:Array Edge} {s:Nat} {T F:List Nat}
theorem Y.allocP {t:TypeId} {z:Value} {k:Nat} (hz:∀w,(zeroValue t).run P w=.ok z w) (h:ChainY P d l0 sz up own dfs rnd KP E S l (A6 s (.cellp k) fr)) (hk:z.cells.size=k:=by rfl) (hs:Nat.blt s sz=true:=by rfl):
  ChainY P d l0 sz up own dfs rnd KP E (.s [s] none T F::S) (⟨some s,.alloc t,ty,pos,aft,none⟩::l) fr:=by
 refine ⟨_,l,[(s,.cellp k)],rfl,⟨rfl,rfl,fun B f _ _ _ hf=>.of ?_⟩,h⟩
 exact AOp.allocP (st:=⟨sz,f,up B,own B,dfs,rnd⟩) hz hk (by simpa using hs)
theorem Y.storeP {t:TypeId} {x:Operand} {r k:Nat} {y:AV} {ys:List AV} (hsz:∀w,(Go.sizeOf t).run P w=.ok k w) (h:ChainY P d l0 sz up own dfs rnd KP E S l (A6 r (.ro ys) fr))
  (hf:fr r=.cellp k:=by exact sL0) (hx:Af fr x=y:=by exact sL0) (hc:y.cells=ys:=by exact sL0)
  (hk:ys.length=k:=by rfl) (hk0:0<k:=by decide) (h1:ys.all AV.one=true:=by exact sL2):
  ChainY P d l0 sz up own dfs rnd KP E (.s [r] none T F::S) (⟨none,.store t (.tmp r) x,ty,pos,aft,none⟩::l) fr:=by
 subst hc
 refine ⟨_,l,[(r,.ro y.cells)],rfl,⟨rfl,rfl,fun B f _ _ _ hfr=>.of ?_⟩,h⟩
 have e:f r=fr r:=hfr r (by simp [lk,Q8,Op.operands])
 have ex:Af f x=y:=by rw [agr hfr (by simp [Op.operands])];exact hx
 exact AOp.storeP (st:=⟨sz,f,up B,own B,dfs,rnd⟩) hsz (e.trans hf) ex hk hk0 h1
end
end Go.SX
