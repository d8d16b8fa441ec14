/- Texts on the way to this: FuseTells answers true for whatever it is handed: the trees of all columns behind and ahead are what the chapter says, composed one move behind the other, or the error. (part 9) -/
import Derived.Lib.ParseIntBTie
import Derived.Shelf.Strings.Builder1
import Derived.Lib.ItoaLen
import Derived.Test.YtepoiomaocjhfaaGreatDoorFuseTellsCardSaidPart8
set_option linter.all false
namespace Go.SX.Nb
open Go Go.SX Go.Proofs
variable [ErrAt]
set_option maxRecDepth 4000
theorem c36 (l:List Col) (hl:l.length≤1000000) (Hp:List AObj):AFun Tryz.prog 36 [A8 l] Hp (A8 l):=by
 refine ACall.body [.tmp 2] [0] Tryz.func36 Tryz.ntmps36 (fun d=>?_)
 refine Zr ?_
 refine R.eqlNil jU (by kernel_rfl) (fun b hb=>?_)
 refine R.fin [0,4] ?_
 refine W.cond (fun ht4=>?_) (fun ht4=>?_)
 ·have hl0:l=[]:=by simpa using hb ht4
  subst hl0
  refine Z2 ?_;refine R.nilTmp 2 2 false ?_;refine Z3 ?_;refine K.thR ?_;exact K.fin (V.one V.tmp) ⟨rfl,rfl⟩
 refine Zn ?_;refine K4 ?_;refine R.go ?_
 refine R.append jU Tryz.type58 ?_ ?_ ?_
 ·simp [Tryz.t58];omega
 ·simp [Tryz.t58];omega
 refine Ic ?_;refine Z3 ?_;exact K.fin (V.one V.tmp) ⟨rfl,rfl⟩

theorem pk {Hp:List AObj} {y:Col} {n:Nat} (h:∀x∈Hp,ObjLow Hp.length x):∀x∈Hp++[AObj.cells 58 [],AObj.cells 58 (A5 y.name::A2 y.kind::List.replicate n AV.any)],ObjLow (Hp.length+2) x:=by
 intro x hx
 rcases List.mem_append.1 hx with hx|hx
 ·exact ObjLow.le (by omega) (h x hx)
 simp only [List.mem_cons,List.mem_nil_iff,or_false] at hx
 rcases hx with rfl|rfl
 ·intro z hz;cases hz
 intro z hz
 simp only [List.mem_cons] at hz
 rcases hz with rfl|rfl|hz
 ·simp
 ·simp
 rw [List.eq_of_mem_replicate hz];simp
theorem AE6 (y:Col) (Hp:List AObj):ACallO Tryz.prog 36 [A8 [y]] Hp (fun r H'=>∃cc,1≤cc∧r=.sl (oid Hp.length 1) 2 1 cc∧H'=Hp++[.cells 58 [],.cells 58 (A5 y.name::A2 y.kind::List.replicate ((cc-1)*2) AV.any)]):=by
 refine ACallO.body [.tmp 2] [0] Tryz.func36 Tryz.ntmps36 (fun d=>?_)
 refine Z42 ?_;refine Z66 ?_
 refine R.assumeLow (fun hlow=>?_)
 refine R.go ?_
 refine R.eqlNil jU (by kernel_rfl) (fun b hb=>?_)
 refine R.fin [0,4] ?_
 refine W.cond (fun ht4=>?_) (fun ht4=>?_)
 ·exact absurd (hb ht4) (by simp)
 refine Zn ?_;refine R.buildObj0 (n:=0) jU Tryz.sizeOf58 ?_;refine R.go ?_
 refine R.appendObj (k:=2) (n:=1) jU Tryz.type58 (show [An y]≠[] by simp) ?_ ?_ (fun cc hcc=>?_)
 ·simp [Tryz.t58]
 ·simp
 have e0:Ir [An y]++List.replicate ((cc-[An y].length)*2) AV.any=A5 y.name::A2 y.kind::List.replicate ((cc-1)*2) AV.any:=rfl
 rw [e0]
 clear e0
 refine R.go ?_;refine Z3 ?_;exact K.finO 2 (V.tmp (t:=2)) ⟨cc,hcc,rfl,rfl⟩ (hlow:=by simp [oid]) (hobj:=pk hlow)

theorem AC1 (c:List Col) (hc:OkCols c) (m:Mov) (h:OkMov m) (h3:(m.kind==3)=false) (Hp:List AObj):AFun Tryz.prog 94 [A8 c,Dq m] Hp (A8 (Al c m)):=by
 refine ACall.body [.tmp 4] [0,1] Tryz.func94 Tryz.ntmps94 (fun d=>?_)
 refine Zl ?_;refine Z1 ?_;refine R.call Tryz.call36 (c36 m.give h.gives2 _) ?_;refine R.go ?_;refine sc ?_;refine R.fin [0,3,5,12] ?_
 refine W.cond (fun ht12=>?_) (fun ht12=>?_)
 ·rw [h3] at ht12;cases ht12
 refine Nj ?_;exact AA4

theorem AC2 (c:List Col) (hc:OkCols c) (m:Mov) (h:OkMov m) (h3:(m.kind==3)=true) (s:Str) (y:Col) (ht:m.take=[s]) (hg:m.give=[y]) (Hp:List AObj):AFun Tryz.prog 94 [A8 c,Dq m] Hp (A8 (Al c m)):=by
 have hgv:=ef (c:=c) h3 ht hg
 have hgy:=Y3 (c:=c) h3 ht hg
 obtain ⟨kd,tk,gv,ah,bk⟩:=m
 simp only at ht hg h3
 subst ht hg
 refine ACall.body [.tmp 4] [0,1] Tryz.func94 Tryz.ntmps94 (fun d=>?_)
 refine Zl ?_;refine Z1 ?_;refine R.callO Tryz.call36 (AE6 y _) ?_
 rintro _ _ ⟨cc,hcc,rfl,rfl⟩
 refine ⟨[.cells 58 [],.cells 58 (A5 y.name::A2 y.kind::List.replicate ((cc-1)*2) AV.any)],by simp,?_⟩
 simp only [List.append_nil,List.nil_append]
 refine R.go ?_;refine sc ?_;refine R.fin [0,3,5,12] ?_
 refine W.cond (fun ht12=>?_) (fun ht12=>?_)
 ·refine Z20 ?_
  refine R.go (h:=Q.indexAddr (0) (A5 s) (fun _=>rfl)) (hr:=?_)
  refine R.go ?_;refine R.call Tryz.call59 (c59 c hc s _) ?_;refine R.go ?_;refine R.fin [0,5,6] ?_;refine Z1 ?_;refine R.fin [0,5,6,20] ?_
  refine W.cond (fun ht20=>?_) (fun ht20=>?_)
  ·have hf:¬Af s c<0:=by simp at ht20;omega
   obtain ⟨jj,hjj,hjc⟩:=Dm hf
   refine Z24 ?_
   refine R.go (h:=Q.indexAddr ((Af s c).toNat) (An (c.getD (Af s c).toNat ⟨[],0⟩)) (fun _=>Pn hf)) (hr:=?_)
   refine Z0 ?_;refine R.indexAddrSl (n:=1) 0 jU Tryz.sizeOf58 (by decide) ?_
   refine R.go (h:=Q.fieldAddrPtr (hc:=rfl)) (hr:=?_)
   refine R.storeOwn (y:=A2 (c.getD (Af s c).toNat ⟨[],0⟩).kind) (ys:=[A2 (c.getD (Af s c).toNat ⟨[],0⟩).kind]) (n:=1) (cs:=A5 y.name::A2 y.kind::List.replicate ((cc-1)*2) AV.any) (cs':=A5 y.name::A2 (c.getD (Af s c).toNat ⟨[],0⟩).kind::List.replicate ((cc-1)*2) AV.any) (t':=58) jS ?_ (hc:=rfl) (hput:=rfl) (hfit:=by simp)
   refine R.fin [5] ?_;refine K.thN ?_;refine Z82 ?_;exact s9
  have hf:Af s c<0:=by simp at ht20;omega
  refine Z5 ?_;refine zp ?_;exact s9
 rw [h3] at ht12;cases ht12

/-- What a move must have before it is turned. -/
structure MvOk (m:Mov):Prop where
 ok:OkMov m
 ahead:m.ahead.length=m.give.length
 back:m.back.length=m.take.length
 one:(m.kind==3)=true→m.take.length=1∧m.give.length=1
theorem eh {m:Mov} (h:OkMov m) (hc:D9 m=true):MvOk m:=⟨h,(De hc).1,(De hc).2,fun h3=>Kf hc (by rw [h3];rfl)⟩
theorem c94 (c:List Col) (hc:OkCols c) (m:Mov) (h:MvOk m) (Hp:List AObj):AFun Tryz.prog 94 [A8 c,Dq m] Hp (A8 (Al c m)):=by
 cases h3:m.kind==3 with
 | false=>exact AC1 c hc m h.ok h3 Hp
 | true =>
  obtain ⟨h1,h2⟩:=h.one h3
  obtain ⟨s,hs⟩:=Vn h1
  obtain ⟨y,hy⟩:=Vn h2
  exact AC2 c hc m h.ok h3 s y hs hy Hp
theorem c67 (c:List Col) (hc:OkCols c) (m:Mov) (h:MvOk m) (Hp:List AObj):AFun Tryz.prog 67 [A8 c,Dq m] Hp (A8 (Al c m)):=by
 cases h3:m.kind==3 with
 | false=>exact AE4 c hc m h.ok h3 Hp
 | true =>
  obtain ⟨h1,h2⟩:=h.one h3
  obtain ⟨s,hs⟩:=Vn h1
  obtain ⟨y,hy⟩:=Vn h2
  exact AE5 c hc m h.ok h3 s y hs hy Hp
theorem Rc {c:List Col} {m:Mov} (h:OkMov m):OkCols (Al c m):=by
 refine ⟨by rw [Ev];exact Nat.le_trans h.gives2 (by decide),fun y hy=>?_⟩
 unfold Al at hy
 split at hy
 ·split at hy
  ·exact h.gives.2 y hy
  cases hg:m.give with
  | nil=>rw [hg] at hy;cases hy
  | cons z r =>
   rw [hg] at hy
   rcases List.mem_cons.1 hy with rfl|hy
   ·exact h.gives.2 z (by rw [hg];exact List.mem_cons_self)
   exact h.gives.2 y (by rw [hg];exact List.mem_cons_of_mem _ hy)
 exact h.gives.2 y hy
theorem Rd {c give:List Col} {take:List Str} (hc:OkCols c) (hg:OkCols give) (hg2:give.length≤1000000):OkCols (Bp c take give).1:=by
 have h0:OkCols ([]:List Col):=⟨by decide,fun y hy=>by cases hy⟩
 unfold Bp
 split
 ·exact h0
 rename_i hr
 split
 ·exact h0
 split
 ·exact h0
 split
 ·exact h0
 split
 ·exact h0
 exact bo hc (by simpa using hr) hg hg2 rfl
theorem Re {c give:List Col} {take:List Str} (h:((Bp c take give).2 != 0)=false):∀s∈take,¬Af s c<0:=by
 have ht:E1 c take=true:=by
  unfold Bp at h
  split at h
  ·cases h
  split at h
  ·cases h
  rename_i ht
  simpa using ht
 intro s hs hf
 obtain ⟨j,hj⟩:=List.getElem?_of_mem hs
 have:=takenM_true.1 ht j s hj
 unfold Eu at this
 rw [show decide (Af s c<0)=true by simpa using hf] at this
 simp at this
theorem O3 {over:List Col} {l:List Expr} {w:List Col} {x:Nat} (hl:x<l.length) (hw:x<w.length):
  Bv over (l.drop x) (w.drop x)=if L4 l[x] over w[x].kind != 0 then L4 l[x] over w[x].kind else Bv over (l.drop (x+1)) (w.drop (x+1)):=by
 rw [List.drop_eq_getElem_cons hl,List.drop_eq_getElem_cons hw]
 rfl
theorem Rf {over:List Col} {l:List Expr} {w:List Col} {x:Nat} (hl:l.length≤x):Bv over (l.drop x) (w.drop x)=0:=by
 rw [List.drop_eq_nil_of_le hl]
 cases w.drop x<;>rfl
theorem Fi {α β:Type} {f:α→β} {l:List α} {x:Nat} (h:x<l.length):(l.take (x+1)).map f=(l.take x).map f++[f l[x]]:=by
 rw [List.take_succ_eq_append_getElem h,List.map_append];rfl
theorem ek {c:List Col} {m:Mov} (h:((Bp c m.take (Al c m)).2 != 0)=true):Am c m=([],(Bp c m.take (Al c m)).2):=if_pos h
theorem el {c:List Col} {m:Mov} (h:((Bp c m.take (Al c m)).2 != 0)=false) (h2:(Bv c m.ahead (Al c m) != 0)=true):Am c m=([],Bv c m.ahead (Al c m)):=by
 unfold Am;rw [if_neg (by rw [h];simp),if_pos h2]
theorem en {c:List Col} {m:Mov} (h:((Bp c m.take (Al c m)).2 != 0)=false) (h2:(Bv c m.ahead (Al c m) != 0)=false) (h3:(Bv (Bp c m.take (Al c m)).1 m.back (Fe c m) != 0)=true):Am c m=([],Bv (Bp c m.take (Al c m)).1 m.back (Fe c m)):=by
 unfold Am;rw [if_neg (by rw [h];simp),if_neg (by rw [h2];simp),if_pos h3]
theorem eo {c:List Col} {m:Mov} (h:((Bp c m.take (Al c m)).2 != 0)=false) (h2:(Bv c m.ahead (Al c m) != 0)=false) (h3:(Bv (Bp c m.take (Al c m)).1 m.back (Fe c m) != 0)=false):Am c m=((Bp c m.take (Al c m)).1,0):=by
 unfold Am;rw [if_neg (by rw [h];simp),if_neg (by rw [h2];simp),if_neg (by rw [h3];simp)]
theorem c96 (l:List Expr) (h:OkEs l) (w:List Col) (hw:w.length=l.length) (c:List Col) (hc:OkCols c) (Hp:List AObj):AFun Tryz.prog 96 [Au l,A8 w,A8 c] Hp (A2 (Bv c l w)):=by
 refine ACall.body [.tmp 6] [0,1,2] Tryz.func96 Tryz.ntmps96 (fun d=>?_)
 refine Z2 ?_;refine V2 ?_;refine Z34 ?_;refine R.fin [1,2,11,12,13] ?_
 refine AW.loopC (α:=Nat) (fun x=>⟨37,A3 1 (A8 w) (A3 2 (A8 c) (A3 11 (Au l) (A3 12 (A2 (l.length:Nat)) (A3 13 (A2 (x:Nat)) (fun _=>.any))))),Hp,[],[],none⟩) (fun x=>x≤l.length∧Bv c l w=Bv c (l.drop x) (w.drop x)) (fun x=>l.length-x) (0) ⟨Nat.zero_le _,rfl⟩ (StLe.of_eq (by simp)) rfl (fun x hx=>?_)
 refine Z2 ?_;refine R.fin [1,2,11,12,13,14] ?_
 refine W.condX (fun ht14=>?_) (fun ht14=>?_)
 ·have hlt:x<l.length:=by simpa using ht14
  have hlw:x<w.length:=by omega
  have hlen:=h.len
  have hst:=O3 (over:=c) hlt hlw
  refine Pg ?_
  refine R.go (h:=Q.indexAddr (x) (A4 l[x]) (fun _=>Ad hlt)) (hr:=?_)
  refine ib ?_;refine R.fin [1,2,7,8,11,12,13] ?_;refine Z8 ?_;refine R.call Tryz.call60 (c60 61 l[x] (h.ok _ (List.getElem_mem hlt)) (by decide) c hc _) ?_;refine Z77 ?_;refine R.fin [1,2,7,8,10,11,12,13] ?_;refine Z1 ?_;refine R.fin [1,2,7,8,10,11,12,13,25] ?_
  refine W.cond (fun ht25=>?_) (fun ht25=>?_)
  ·have he:L4 l[x] c w[x].kind=(Dh l[x] c).2:=if_pos ht25
   have hm:Bv c l w=(Dh l[x] c).2:=by rw [hx.2,hst,he,if_pos ht25]
   refine Z1 ?_;refine i6 ?_;exact Z58
  refine Z5 ?_;refine W.drawQ [0,0,0,0,12,28,60,127,255] 7 Ac (by kernel_rfl) ?_;refine Nh ?_
  refine D.go (h:=Q.indexAddr (x) (An w[x]) (fun _=>Ad hlw)) (hr:=?_)
  refine Z14 ?_;refine D.tail ?_;refine R.call Tryz.call32 (c32 61 l[x] (h.ok _ (List.getElem_mem hlt)) (by decide) c hc w[x].kind _) ?_;refine R.go ?_;refine R.fin [1,2,11,12,13,35] ?_
  refine W.cond (fun ht35=>?_) (fun ht35=>?_)
  ·have he:L4 l[x] c w[x].kind=10:=by unfold L4;rw [if_neg (by rw [ht25];simp),if_pos ht35]
   have hm:Bv c l w=10:=by rw [hx.2,hst,he];rfl
   refine Z2 ?_;refine Z88 ?_;exact Z58
  have he:L4 l[x] c w[x].kind=0:=by unfold L4;rw [if_neg (by rw [ht25];simp),if_neg (by rw [ht35];simp)]
  have hnx:Bv c l w=Bv c (l.drop (x+1)) (w.drop (x+1)):=by rw [hx.2,hst,he];rfl
  refine Nf ?_;refine R.fin [1,2,11,12,13] ?_;refine K.lpN (x+1) ⟨hlt,hnx⟩ (by omega) ?_
  exact StCut.take (own:=[]) (fun _=>.refl _) (by repeat (first|exact As|refine Ar (by first|(simp [or_imp,forall_and];done)|exact Bj) ?_)) (by simp) (by simp)
 have hxe:l.length≤x:=by simpa using ht14
 have hm:Bv c l w=0:=by rw [hx.2,Rf hxe]
 refine i7 ?_;exact AAr

theorem c97 (c:List Col) (hc:OkCols c) (m:Mov) (h:OkMov m) (hf:∀s∈m.take,¬Af s c<0) (Hp:List AObj):AFun Tryz.prog 97 [A8 c,Dq m] Hp (A8 (Fe c m)):=by
 refine ACall.body [.tmp 4] [0,1] Tryz.func97 Tryz.ntmps97 (fun d=>?_)
 refine Zl ?_;refine Z2 ?_;refine R.fin [0,3,5] ?_;refine Z66 ?_;refine R.nilSl 5 2 ?_;refine Z69 ?_;refine R.fin [0,5,9,10,11] ?_
 refine AW.loopC (α:=Nat) (fun x=>⟨26,A3 0 (A8 c) (A3 5 (.slice true 2 (((m.take.take x).map fun s=>c.getD (Af s c).toNat ⟨[],0⟩).map An)) (A3 9 (Cy m.take) (A3 10 (A2 (m.take.length:Nat)) (A3 11 (A2 (x:Nat)) (fun _=>.any))))),Hp,[],[],none⟩) (fun x=>x≤m.take.length) (fun x=>m.take.length-x) (0) (Nat.zero_le _) (StLe.of_eq (by simp)) rfl (fun x hx=>?_)
 refine Z2 ?_;refine R.fin [0,5,9,10,11,12] ?_
 refine W.condX (fun ht12=>?_) (fun ht12=>?_)
 ·have hlt:x<m.take.length:=by simpa using ht12
  have htk:=h.takes
  have hfx:=hf _ (List.getElem_mem hlt)
  obtain ⟨jj,hjj,hjc⟩:=Dm hfx
  refine Pa ?_
  refine R.go (h:=Q.indexAddr (x) (A5 m.take[x]) (fun _=>Ad hlt)) (hr:=?_)
  refine Z0 ?_;refine R.fin [0,5,7,9,10,11] ?_;refine Z73 ?_;refine Z22 ?_;refine R.call Tryz.call59 (c59 c hc m.take[x] _) ?_
  refine R.go (h:=Q.indexAddr ((Af m.take[x] c).toNat) (An (c.getD (Af m.take[x] c).toNat ⟨[],0⟩)) (fun _=>Pn hfx)) (hr:=?_)
  refine Z52 ?_
  refine R.append jU Tryz.type58 ?_ ?_ ?_
  ·simp only [List.length_map,List.length_take,List.length_cons,List.length_nil,Tryz.t58];omega
  ·simp only [List.length_map,List.length_take,List.length_cons,List.length_nil,Tryz.t58];omega
  refine Ic ?_;refine R.fin [0,5,9,10,11] ?_;refine Pf ?_;refine R.fin [0,5,9,10,11] ?_
  refine K.lpN (x+1) hlt (by omega) (StCut.of_eq ?_)
  rw [Fi hlt,List.map_append]
  rfl
 have hxe:m.take.length≤x:=by simpa using ht12
 refine Z23 ?_;refine mh ?_;exact K.fin (V.one V.tmp) ⟨by unfold Fe;rw [List.take_of_length_le hxe]<;>rfl,rfl⟩ (hlow:=C8)

theorem c65 (c:List Col) (hc:OkCols c) (m:Mov) (h:MvOk m) (Hp:List AObj):AFun Tryz.prog 65 [A8 c,Dq m] Hp (.tup [A8 (Am c m).1,A2 (Am c m).2]):=by
 refine ACall.body [.tmp 4,.tmp 5] [0,1] Tryz.func65 Tryz.ntmps65 (fun d=>?_)
 refine Z20 ?_;refine Ib ?_;refine Z1 ?_;refine R.call Tryz.call94 (c94 c hc m h _) ?_;refine R.go ?_;refine R.fin [0,3,6] ?_;refine Cx ?_
 have hg:=Rc (c:=c) h.ok
 have hg2:(Al c m).length≤1000000:=by rw [Ev];exact h.ok.gives2
 refine Z69 ?_;refine R.call Tryz.call95 (c95 c hc m.take h.ok.takes (Al c m) hg hg2 _) ?_;refine Z77 ?_;refine R.fin [0,3,6,7,8] ?_;refine Z8 ?_;refine R.fin [0,3,6,7,8,23] ?_
 refine W.cond (fun ht23=>?_) (fun ht23=>?_)
 ·have hm:=ek ht23
  exact s7
 refine Z5 ?_;refine Z49 ?_;refine R.call Tryz.call96 (c96 m.ahead h.ok.ahead (Al c m) (by rw [Ev,h.ahead]) c hc _) ?_;refine R.go ?_;refine R.fin [0,3,7,9] ?_;refine Z1 ?_;refine R.fin [0,3,7,9,31] ?_
 refine W.cond (fun ht31=>?_) (fun ht31=>?_)
 ·have hm:=el ht23 ht31
  exact s7
 refine Z5 ?_;refine W.seq ?_;refine W.drawQ [0,1,0,0,12,0,63,127] 6 Ac (by kernel_rfl) ?_;refine Nh ?_;refine D.call Tryz.call97 (c97 c hc m h.ok (Re ht23) _) ?_;refine ia ?_;refine R.call Tryz.call96 (c96 m.back h.ok.back (Fe c m) (by rw [Fe,List.length_map,h.back]) (Bp c m.take (Al c m)).1 (Rd hc hg hg2) _) ?_;refine R.go ?_;refine R.fin [7,10] ?_;refine Z1 ?_;refine R.fin [7,10,41] ?_
 refine W.cond (fun ht41=>?_) (fun ht41=>?_)
 ·have hm:=en ht23 ht31 ht41
  exact s7
 have hm:=eo ht23 ht31 ht41
 refine Ng ?_;exact sh

theorem c39 (c:List Col) (hc:OkCols c) (m:Mov) (h:MvOk m) (Hp:List AObj):AFun Tryz.prog 39 [A8 c,Dq m] Hp (.tup [A8 (Am c m).1,A2 (Am c m).2]):=by
 refine ACall.body [.tmp 4,.tmp 5] [0,1] Tryz.func39 Tryz.ntmps39 (fun d=>?_)
 refine Z20 ?_;refine Ib ?_;refine Z1 ?_;refine R.call Tryz.call67 (c67 c hc m h _) ?_;refine R.go ?_;refine R.fin [0,3,6] ?_;refine Cx ?_
 have hg:=Rc (c:=c) h.ok
 have hg2:(Al c m).length≤1000000:=by rw [Ev];exact h.ok.gives2
 have hgl:=Ev c m
 have hah:=h.ahead
 have hbk:=h.back
 have htk:=h.ok.takes
 refine Z69 ?_;refine R.call Tryz.call68 (c68 c hc m.take h.ok.takes (Al c m) hg hg2 _) ?_;refine Z77 ?_;refine R.fin [0,3,6,7,8] ?_;refine Z8 ?_;refine R.fin [0,3,6,7,8,25] ?_
 refine W.cond (fun ht25=>?_) (fun ht25=>?_)
 ·have hm:=ek ht25
  exact s7
 have hfd:=Re ht25
 refine Pd ?_;refine R.fin [0,3,6,7,9] ?_
 refine AW.loopC (α:=Nat) (fun x=>⟨77,A3 0 (A8 c) (A3 3 (.ro (Fd m)) (A3 6 (A8 (Al c m)) (A3 7 (A8 (Bp c m.take (Al c m)).1) (A3 9 (A2 (x:Nat)) (fun _=>.any))))),Hp,[],[],none⟩) (fun x=>x≤(Al c m).length∧Bv c m.ahead (Al c m)=Bv c (m.ahead.drop x) ((Al c m).drop x)) (fun x=>(Al c m).length-x) (0) ⟨Nat.zero_le _,rfl⟩ (StLe.of_eq (by simp)) rfl (fun x hx=>?_)
 refine Z49 ?_;refine R.fin [0,3,6,7,9,30] ?_
 refine W.cond (fun ht30=>?_) (fun ht30=>?_)
 ·have hlt:x<(Al c m).length:=by simpa using ht30
  have hla:x<m.ahead.length:=by omega
  have hst:=O3 (over:=c) hla hlt
  refine Z38 ?_;refine W.drawQ [0,1,0,7,15,0,0,96,224,480,0,2047,4095] 11 Ac (by kernel_rfl) ?_;refine Z44 ?_
  refine D.go (h:=Q.indexAddr (x) (A4 m.ahead[x]) (fun _=>Ad hla)) (hr:=?_)
  refine Z44 ?_
  refine D.go (h:=Q.indexAddr (x) (An (Al c m)[x]) (fun _=>Ad hlt)) (hr:=?_)
  refine Z44 ?_;refine D.tail ?_;refine R.call Tryz.call69 (c69 61 m.ahead[x] (h.ok.ahead.ok _ (List.getElem_mem hla)) (by decide) (h.ok.ahead.size _ (List.getElem_mem hla)) (Al c m)[x].kind c hc _) ?_;refine R.go ?_;refine R.fin [0,3,6,7,9,10] ?_;refine Z1 ?_;refine R.fin [0,3,6,7,9,10,46] ?_
  refine W.cond (fun ht46=>?_) (fun ht46=>?_)
  ·have hf1:Bv c m.ahead (Al c m)=L4 m.ahead[x] c (Al c m)[x].kind:=by rw [hx.2,hst,if_pos ht46]
   have hm:=el ht25 (by rw [hf1];exact ht46)
   rw [hf1] at hm
   refine Z1 ?_;refine wy ?_;refine Z16 ?_;exact rl
  have hnx:Bv c m.ahead (Al c m)=Bv c (m.ahead.drop (x+1)) ((Al c m).drop (x+1)):=by rw [hx.2,hst,if_neg (by rw [ht46];simp)]
  refine Z65 ?_;refine R.fin [0,3,6,7,9] ?_;exact K.lpN (x+1) ⟨hlt,hnx⟩ (by omega) (StCut.of_eq rfl)
 have hxe:(Al c m).length≤x:=by simpa using ht30
 have hf1:Bv c m.ahead (Al c m)=0:=by rw [hx.2,Rf (by omega)]
 refine Zq ?_;refine R.fin [0,3,7,11] ?_
 refine AW.loopC (α:=Nat) (fun k=>⟨77,A3 0 (A8 c) (A3 3 (.ro (Fd m)) (A3 7 (A8 (Bp c m.take (Al c m)).1) (A3 11 (A2 (k:Nat)) (fun _=>.any)))),Hp,[],[],none⟩) (fun k=>k≤m.take.length∧Bv (Bp c m.take (Al c m)).1 m.back (Fe c m)=Bv (Bp c m.take (Al c m)).1 (m.back.drop k) ((Fe c m).drop k)) (fun k=>m.take.length-k) (0) ⟨Nat.zero_le _,rfl⟩ (StLe.of_eq (by simp)) rfl (fun k hk=>?_)
 refine L0 ?_;refine R.fin [0,3,7,11,52] ?_
 refine W.cond (fun ht52=>?_) (fun ht52=>?_)
 ·have hkt:k<m.take.length:=by simpa using ht52
  have hkb:k<m.back.length:=by omega
  have hfx:=hfd _ (List.getElem_mem hkt)
  obtain ⟨jj,hjj,hjc⟩:=Dm hfx
  have hkc:k<(Fe c m).length:=by rw [Fe,List.length_map];exact hkt
  have htc:(Fe c m)[k]=c.getD (Af m.take[k] c).toNat ⟨[],0⟩:=by simp only [Fe,List.getElem_map]
  have hst:=O3 (over:=(Bp c m.take (Al c m)).1) hkb hkc
  rw [htc] at hst
  refine Z38 ?_;refine W.drawQ [0,1,0,7,15,0,0,0,128,0,896,1920,4032,8160,16352,32736,0,131071,262143] 17 Ac (by kernel_rfl) ?_;refine Z44 ?_
  refine D.go (h:=Q.indexAddr (k) (A4 m.back[k]) (fun _=>Ad hkb)) (hr:=?_)
  refine Nh ?_;refine Z14 ?_
  refine D.go (h:=Q.indexAddr (k) (A5 m.take[k]) (fun _=>Ad hkt)) (hr:=?_)
  refine D.go ?_;refine D.call Tryz.call50 (c50 c hc m.take[k] _) ?_
  refine D.go (h:=Q.indexAddr ((Af m.take[k] c).toNat) (An (c.getD (Af m.take[k] c).toNat ⟨[],0⟩)) (fun _=>Pn hfx)) (hr:=?_)
  refine Z44 ?_;refine D.tail ?_;refine R.call Tryz.call69 (c69 61 m.back[k] (h.ok.back.ok _ (List.getElem_mem hkb)) (by decide) (h.ok.back.size _ (List.getElem_mem hkb)) (c.getD (Af m.take[k] c).toNat ⟨[],0⟩).kind (Bp c m.take (Al c m)).1 (Rd hc hg hg2) _) ?_;refine R.go ?_;refine R.fin [0,3,7,11,12] ?_;refine Z1 ?_;refine R.fin [0,3,7,11,12,74] ?_
  refine W.cond (fun ht74=>?_) (fun ht74=>?_)
  ·have hf2:=hk.2.trans hst
   rw [if_pos ht74] at hf2
   have hm:=en ht25 (by rw [hf1];rfl) (by rw [hf2];exact ht74)
   rw [hf2] at hm
   refine Z1 ?_;refine wy ?_;refine Z16 ?_;exact rl
  have hnx:=hk.2.trans hst
  rw [if_neg (by rw [ht74];simp)] at hnx
  refine Z65 ?_;refine R.fin [0,3,7,11] ?_;exact K.lpN (k+1) ⟨hkt,hnx⟩ (by omega) (StCut.of_eq rfl)
 have hke:m.take.length≤k:=by simpa using ht52
 have hm:=eo ht25 (by rw [hf1];rfl) (by rw [hk.2,Rf (by omega)];rfl)
 refine Z40 ?_;refine Z20 ?_;refine Z16 ?_;exact sh

def Lf {α:Type} (p:α→Bool) (l:List α):Int:=if l.any p then (l.findIdx p:Int) else -1
theorem pl {α:Type} {p:α→Bool} {l:List α} {i:Nat} (h:i<l.length) (hn:p l[i]=true) (hp:∀(j:Nat) (y:α),j<i→l[j]? = some y→p y=false):(i:Int)=Lf p l:=by
 unfold Lf
 rw [if_pos (List.any_eq_true.2 ⟨_,List.getElem_mem h,hn⟩)]
 congr 1
 refine (List.findIdx_eq h |>.2 ⟨hn,fun j hj=>?_⟩).symm
 exact hp j (l[j]'(by omega)) hj (List.getElem?_eq_getElem (by omega))
theorem cb {α:Type} {p:α→Bool} {l:List α} (h:l.any p=false):(-1:Int)=Lf p l:=by
 unfold Lf
 rw [if_neg (by rw [h];simp)]
theorem jy {α:Type} (p:α→Bool) (l:List α):decide (0≤Lf p l)=l.any p:=by
 unfold Lf
 cases l.any p<;>simp
def Kg (s:Str):Bool := !(Bm s)
def Dn (e:Expr):Bool := !(Ah e)
theorem Y6 {m:Mov} (h:(((m.ahead.length:Int) != (m.give.length:Int)) || ((m.back.length:Int) != (m.take.length:Int)))=true):D9 m=false:=if_pos h
theorem Y7 {m:Mov} (h:(((m.ahead.length:Int) != (m.give.length:Int)) || ((m.back.length:Int) != (m.take.length:Int)))=false):D9 m=if m.kind==1 then ((m.take.length:Int)==0)&&((m.give.length:Int)==1)
 else if m.kind==2 then ((m.take.length:Int)==1)&&((m.give.length:Int)==0)
 else if (m.kind==3) || (m.kind==6) then ((m.take.length:Int)==1)&&((m.give.length:Int)==1)
 else if m.kind==4 then ((m.take.length:Int)==1)&&decide ((1:Int)<(m.give.length:Int))
 else if m.kind==5 then decide ((1:Int)<(m.take.length:Int))&&((m.give.length:Int)==1)
 else false:=if_neg (by rw [h];simp)
theorem AE7 (m:Mov) (Hp:List AObj):AFun Tryz.prog 125 [Dq m] Hp (Ao (D9 m)):=by
 refine ACall.body [.tmp 2] [0] Tryz.func125 Tryz.ntmps125 (fun d=>?_)
 refine Z71 ?_;refine W.drawQ [0,1,3,0,8,24,7,127] 7 Ac (by kernel_rfl) ?_;refine Nh ?_;refine Z44 ?_;refine Ux ?_;refine V3 ?_;refine Z66 ?_
 simp only [List.length_map]
 refine Z69 ?_;refine Z62 ?_;refine Z70 ?_;refine R.fin [1,3,4,22] ?_
 refine W.cond (fun ht22=>?_) (fun ht22=>?_)
 ·simp only [List.length_map] at ht22
  have hm:=Y6 ht22
  exact ru
 simp only [List.length_map] at ht22
 have hn:=Y7 ht22
 refine Z5 ?_;refine Z8 ?_;refine R.fin [3,4,24] ?_;refine Mk ?_;refine R.fin [3,4,24,25] ?_
 refine W.cond (fun ht25=>?_) (fun ht25=>?_)
 ·refine Lo ?_;refine Zo ?_;exact K.fin (V.one V.tmp) ⟨by rw [hn];first|(simp only [ht22,ht25,hk3,hk6,Bool.true_or,Bool.false_or,Bool.or_true,Bool.or_false,if_true,if_false,Bool.false_eq_true,↓reduceIte]<;>rfl)|(simp only [ht22,ht25,hk3,Bool.true_or,Bool.false_or,Bool.or_true,if_true,if_false,Bool.false_eq_true,↓reduceIte]<;>rfl)|(simp only [ht22,ht25,if_true,if_false,Bool.false_eq_true,↓reduceIte]<;>rfl),rfl⟩
 refine Z1 ?_;refine R.fin [3,4,24,33] ?_
 refine W.cond (fun ht33=>?_) (fun ht33=>?_)
 ·refine Lo ?_;refine Zo ?_;exact K.fin (V.one V.tmp) ⟨by rw [hn];first|(simp only [ht22,ht25,ht33,hk3,hk6,Bool.true_or,Bool.false_or,Bool.or_true,Bool.or_false,if_true,if_false,Bool.false_eq_true,↓reduceIte]<;>rfl)|(simp only [ht22,ht25,ht33,hk3,Bool.true_or,Bool.false_or,Bool.or_true,if_true,if_false,Bool.false_eq_true,↓reduceIte]<;>rfl)|(simp only [ht22,ht25,ht33,if_true,if_false,Bool.false_eq_true,↓reduceIte]<;>rfl),rfl⟩
 refine Z8 ?_;refine R.fin [3,4,24,41] ?_
 refine W.cond (fun ht41=>?_) (fun ht41=>?_)
 ·have hk3:=ht41
  refine Z5 ?_
  refine W.cond (fun ht41=>?_) (fun ht41=>?_)
  ·refine Lo ?_;refine Z46 ?_;exact Z53
  rw [hk3] at ht41;cases ht41
 have hk3:=ht41
 refine Z10 ?_;refine R.fin [3,4,24,41] ?_;refine K.thN ?_
 refine W.cond (fun ht41=>?_) (fun ht41=>?_)
 ·have hk6:=ht41
  refine Lo ?_;refine Z46 ?_;exact Z53
 have hk6:=ht41
 refine Z1 ?_;refine R.fin [3,4,24,50] ?_
 refine W.cond (fun ht50=>?_) (fun ht50=>?_)
 ·refine Lo ?_;refine Zo ?_;exact K.fin (V.one V.tmp) ⟨by rw [hn];first|(simp only [ht22,ht25,ht33,ht41,ht41,ht50,hk3,hk6,Bool.true_or,Bool.false_or,Bool.or_true,Bool.or_false,if_true,if_false,Bool.false_eq_true,↓reduceIte]<;>rfl)|(simp only [ht22,ht25,ht33,ht41,ht41,ht50,hk3,Bool.true_or,Bool.false_or,Bool.or_true,if_true,if_false,Bool.false_eq_true,↓reduceIte]<;>rfl)|(simp only [ht22,ht25,ht33,ht41,ht41,ht50,if_true,if_false,Bool.false_eq_true,↓reduceIte]<;>rfl),rfl⟩
 refine Z1 ?_;refine R.fin [3,4,58] ?_
 refine W.cond (fun ht58=>?_) (fun ht58=>?_)
 ·refine Lo ?_;refine Zo ?_;exact AB5
 refine Wj ?_;exact AB5

theorem AE8 (s:Str) (hs:s.length≤1048576) (Hp:List AObj):AFun Tryz.prog 128 [A5 s] Hp (Ao (Kg s)):=by
 refine ACall.body [.tmp 2] [0] Tryz.func128 Tryz.ntmps128 (fun d=>?_)
 refine Z42 ?_;refine Z2 ?_;refine R.call Tryz.call108 (nj s hs _) ?_;exact Zj

theorem AE9 (e:Expr) (hok:okE 61 e) (Hp:List AObj):AFun Tryz.prog 126 [A4 e] Hp (Ao (Dn e)):=by
 refine ACall.body [.tmp 2] [0] Tryz.func126 Tryz.ntmps126 (fun d=>?_)
 refine Zt ?_;exact AAi

theorem c77 (e:Expr) (hok:okE 61 e) (Hp:List AObj):AFun Tryz.prog 77 [A4 e] Hp (Ao (Dn e)):=by
 refine ACall.body [.tmp 2] [0] Tryz.func77 Tryz.ntmps77 (fun d=>?_)
 refine Zt ?_;exact AAi

theorem AEa (l:List Str) (hl:l.length≤1048576) (hn:∀s∈l,s.length≤1048576) (Hp:List AObj):AFun Tryz.prog 163 [Cy l,.fn (.func 128) [] []] Hp (A2 (Lf Kg l)):=by
 refine ACall.body [.tmp 4] [0,1] Tryz.func163 Tryz.ntmps163 (fun d=>?_)
 refine im ?_
 refine AW.loopC (α:=Nat) (fun x=>⟨19,A3 0 (Cy l) (A3 1 (.fn (.func 128) [] []) (A3 7 (A2 l.length) (A3 8 (A2 (x:Nat)) (fun _=>.any)))),Hp,[],[],none⟩) (fun x=>x≤l.length∧∀(j:Nat) y,j<x→l[j]? = some y→Kg y=false) (fun x=>l.length-x) (0) ⟨Nat.zero_le _,fun j y h=>by omega⟩ (StLe.of_eq (by simp)) rfl (fun x hx=>?_)
 refine gy ?_
 refine W.condX (fun ht9=>?_) (fun ht9=>?_)
 ·have hlt:x<l.length:=by simpa using ht9
  refine il ?_
  refine R.go (h:=Q.indexAddr (x) (A5 l[x]) (fun _=>Ad hlt)) (hr:=?_)
  refine R.go ?_;refine R.callV Tryz.call128 (AE8 l[x] (hn _ (List.getElem_mem hlt)) _) ?_;refine ir ?_
  refine W.cond (fun ht16=>?_) (fun ht16=>?_)
  ·exact rt
  exact rx
 have hxe:l.length≤x:=by simpa using ht9
 exact sa

theorem c127 (l:List Str) (hl:l.length≤1048576) (hn:∀s∈l,s.length≤1048576) (Hp:List AObj):AFun Tryz.prog 127 [Cy l,.fn (.func 128) [] []] Hp (Ao (l.any Kg)):=by
 refine ACall.body [.tmp 4] [0,1] Tryz.func127 Tryz.ntmps127 (fun d=>?_)
 refine Z57 ?_;refine Z1 ?_;refine R.call Tryz.call163 (AEa l hl hn _) ?_;exact sd

theorem AC3 (l:List Expr) (hl:l.length≤1048576) (hn:∀e∈l,okE 61 e) (Hp:List AObj):AFun Tryz.prog 111 [Au l,.fn (.func 126) [] []] Hp (A2 (Lf Dn l)):=by
 refine ACall.body [.tmp 4] [0,1] Tryz.func111 Tryz.ntmps111 (fun d=>?_)
 refine im ?_
 refine AW.loopC (α:=Nat) (fun x=>⟨19,A3 0 (Au l) (A3 1 (.fn (.func 126) [] []) (A3 7 (A2 l.length) (A3 8 (A2 (x:Nat)) (fun _=>.any)))),Hp,[],[],none⟩) (fun x=>x≤l.length∧∀(j:Nat) y,j<x→l[j]? = some y→Dn y=false) (fun x=>l.length-x) (0) ⟨Nat.zero_le _,fun j y h=>by omega⟩ (StLe.of_eq (by simp)) rfl (fun x hx=>?_)
 refine gy ?_
 refine W.condX (fun ht9=>?_) (fun ht9=>?_)
 ·have hlt:x<l.length:=by simpa using ht9
  refine il ?_
  refine R.go (h:=Q.indexAddr (x) (A4 l[x]) (fun _=>Ad hlt)) (hr:=?_)
  refine R.go ?_;refine R.callV Tryz.call126 (AE9 l[x] (hn _ (List.getElem_mem hlt)) _) ?_;refine ir ?_
  refine W.cond (fun ht16=>?_) (fun ht16=>?_)
  ·exact rt
  exact rx
 have hxe:l.length≤x:=by simpa using ht9
 exact sa

theorem wi (l:List Expr) (hl:l.length≤1048576) (hn:∀e∈l,okE 61 e) (Hp:List AObj):AFun Tryz.prog 76 [Au l,.fn (.func 126) [] []] Hp (Ao (l.any Dn)):=by
 refine ACall.body [.tmp 4] [0,1] Tryz.func76 Tryz.ntmps76 (fun d=>?_)
 refine Z57 ?_;refine Z1 ?_;refine R.call Tryz.call111 (AC3 l hl hn _) ?_;exact sd

theorem AC4 (l:List Expr) (hl:l.length≤1048576) (hn:∀e∈l,okE 61 e) (Hp:List AObj):AFun Tryz.prog 111 [Au l,.fn (.func 77) [] []] Hp (A2 (Lf Dn l)):=by
 refine ACall.body [.tmp 4] [0,1] Tryz.func111 Tryz.ntmps111 (fun d=>?_)
 refine im ?_
 refine AW.loopC (α:=Nat) (fun x=>⟨19,A3 0 (Au l) (A3 1 (.fn (.func 77) [] []) (A3 7 (A2 l.length) (A3 8 (A2 (x:Nat)) (fun _=>.any)))),Hp,[],[],none⟩) (fun x=>x≤l.length∧∀(j:Nat) y,j<x→l[j]? = some y→Dn y=false) (fun x=>l.length-x) (0) ⟨Nat.zero_le _,fun j y h=>by omega⟩ (StLe.of_eq (by simp)) rfl (fun x hx=>?_)
 refine gy ?_
 refine W.condX (fun ht9=>?_) (fun ht9=>?_)
 ·have hlt:x<l.length:=by simpa using ht9
  refine il ?_
  refine R.go (h:=Q.indexAddr (x) (A4 l[x]) (fun _=>Ad hlt)) (hr:=?_)
  refine R.go ?_;refine R.callV Tryz.call77 (c77 l[x] (hn _ (List.getElem_mem hlt)) _) ?_;refine ir ?_
  refine W.cond (fun ht16=>?_) (fun ht16=>?_)
  ·exact rt
  exact rx
 have hxe:l.length≤x:=by simpa using ht9
 exact sa

theorem AC5 (l:List Expr) (hl:l.length≤1048576) (hn:∀e∈l,okE 61 e) (Hp:List AObj):AFun Tryz.prog 76 [Au l,.fn (.func 77) [] []] Hp (Ao (l.any Dn)):=by
 refine ACall.body [.tmp 4] [0,1] Tryz.func76 Tryz.ntmps76 (fun d=>?_)
 refine Z57 ?_;refine Z1 ?_;refine R.call Tryz.call111 (AC4 l hl hn _) ?_;exact sd

theorem uo (s:Str) (Hp:List AObj):AFun Tryz.prog 130 [A5 s] Hp (A4 (Ap s)):=by
 refine ACall.body [.cell 2 45] [0] Tryz.func130 Tryz.ntmps130 (fun d=>?_)
 refine Z64 ?_;refine Z2 ?_;refine AA8 ?_;refine R.nilCell 0 5 6 ?_;refine Z3 ?_;exact K.fin (V.one (V.cellN jA jS)) ⟨by rw [A7];rfl,rfl⟩

theorem c45 (l:List Expr) (hl:l.length≤1048576) (hn:∀e∈l,okE 61 e) (Hp:List AObj):AFun Tryz.prog 45 [Au l] Hp (Ao (l.any Dn)):=by
 refine ACall.body [.tmp 2] [0] Tryz.func45 Tryz.ntmps45 (fun d=>?_)
 refine Z42 ?_;refine Z2 ?_;refine R.call Tryz.call76 (AC5 l hl hn _) ?_;exact ry

theorem Y8 {m:Mov} {c:Col}:(((!(Bm c.name)) || (!((B3 c.kind==[])==(m.kind==3)))) || ((m.kind==3)&&(c.kind != 0))) = !Gp m c:=by
 unfold Gp
 cases Bm c.name<;>cases (B3 c.kind==([]:Str))<;>cases (m.kind==3)<;>cases (c.kind != 0)<;>rfl
theorem ym {m:Mov} (h:(!(D9 m))=true):Di m=false:=by
 have:D9 m=false:=by simpa using h
 unfold Di;rw [this];rfl
theorem yn {m:Mov} {c:Col} (hc:c∈m.give) (h:Gp m c=false):Di m=false:=by
 have:m.give.all (Gp m)=false:=List.all_eq_false.2 ⟨c,hc,by rw [h];simp⟩
 unfold Di;rw [this];simp
theorem yo {m:Mov} (h:((m.take.any Kg || m.ahead.any Dn) || m.back.any Dn)=true):Di m=false:=by
 unfold Di
 rw [show Kg=fun s => !(Bm s) from rfl,show Dn=fun e => !(Ah e) from rfl,F8,F8,F8] at h
 cases h1:m.take.all Bm<;>cases h2:m.ahead.all Ah<;>cases h3:m.back.all Ah<;>simp_all
theorem uq {m:Mov} (h1:D9 m=true) (h2:m.give.all (Gp m)=true) (h:((m.take.any Kg || m.ahead.any Dn) || m.back.any Dn)=false):Di m=I3 m:=by
 unfold Di
 rw [show Kg=fun s => !(Bm s) from rfl,show Dn=fun e => !(Ah e) from rfl,F8,F8,F8] at h
 rw [h1,h2]
 cases h1:m.take.all Bm<;>cases h2:m.ahead.all Ah<;>cases h3:m.back.all Ah<;>simp_all
theorem Jk {α β:Type} {f:α→β} {l:List α} {d:α} (h:0<l.length):(l.map f)[0]? = some (f (l.getD 0 d)):=by
 rw [List.getElem?_map,List.getElem?_eq_getElem h,List.getD_eq_getElem?_getD,List.getElem?_eq_getElem h]
 rfl
theorem Iz {α:Type} {l:List α} {d:α} (h:0<l.length):l.getD 0 d∈l:=by
 rw [List.getD_eq_getElem?_getD,List.getElem?_eq_getElem h]
 exact List.getElem_mem h
theorem pm {m:Mov} (h:(m.kind==3)=true):I3 m=(eqE (m.ahead.getD 0 Aa) (Ap (m.take.getD 0 []))&&eqE (m.back.getD 0 Aa) (Ap (m.give.getD 0 ⟨[],0⟩).name)):=if_pos h
theorem pq {m:Mov} (h:(m.kind==3)=false) (h6:(m.kind==6)=true):I3 m=(m.take.getD 0 []==(m.give.getD 0 ⟨[],0⟩).name):=by unfold I3;rw [if_neg (by rw [h];simp),if_pos h6]
theorem pt {m:Mov} (h:(m.kind==3)=false) (h6:(m.kind==6)=false):I3 m=true:=by unfold I3;rw [if_neg (by rw [h];simp),if_neg (by rw [h6];simp)]
theorem c93 (m:Mov) (h:OkMov m) (Hp:List AObj):AFun Tryz.prog 93 [Dq m] Hp (Ao (Di m)):=by
 refine ACall.body [.tmp 2] [0] Tryz.func93 Tryz.ntmps93 (fun d=>?_)
 refine Z71 ?_;refine Z31 ?_;refine R.call Tryz.call125 (AE7 m _) ?_;refine R.go ?_;refine R.fin [1,8] ?_
 refine W.cond (fun ht8=>?_) (fun ht8=>?_)
 ·have hm:=ym ht8
  exact mm
 have hct:D9 m=true:=by simpa using ht8
 refine Z5 ?_;refine Z49 ?_;refine R.fin [1,10,11,12] ?_
 refine AW.loopC (α:=Nat) (fun x=>⟨95,A3 1 (.ro (Fd m)) (A3 10 (A8 m.give) (A3 11 (A2 (m.give.length:Nat)) (A3 12 (A2 (x:Nat)) (fun _=>.any)))),Hp,[],[],none⟩) (fun x=>x≤m.give.length∧∀(j:Nat) (y:Col),j<x→m.give[j]? = some y→(!Gp m y)=false) (fun x=>m.give.length-x) (0) ⟨Nat.zero_le _,fun j y h=>by omega⟩ (StLe.of_eq (by simp)) rfl (fun x hx=>?_)
 refine Z2 ?_;refine R.fin [1,10,11,12,13] ?_
 refine W.condX (fun ht13=>?_) (fun ht13=>?_)
 ·have hlt:x<m.give.length:=by simpa using ht13
  have hgl:=h.gives2
  refine Pa ?_
  refine R.go (h:=Q.indexAddr (x) (An m.give[x]) (fun _=>Ad hlt)) (hr:=?_)
  refine Ml ?_;refine R.fin [1,4,10,11,12] ?_;refine W.drawQ [0,1,3,7,15,31,63,127,255,31,543,1567,4095,8191,16383,32767,65535,131071,262143,524287,1048575,2097151,4194303,8388607] 12 Ac (by kernel_rfl) ?_;refine Z14 ?_;refine D.call Tryz.call108 (nj m.give[x].name (h.gives.2 _ (List.getElem_mem hlt)) _) ?_;refine Z14 ?_;refine Z75 ?_;refine H.call Tryz.call70 (fun hB=>c70 m.give[x].kind _) ?_;refine Z75 ?_;refine Z75 ?_;refine D.tail ?_;refine Uz ?_;refine Ni ?_;refine R.go ?_;refine R.fin [1,10,11,12,39] ?_
  refine W.cond (fun ht39=>?_) (fun ht39=>?_)
  ·rw [Y8] at ht39
   have hm:=yn (List.getElem_mem hlt) (by simpa using ht39)
   exact wx
  rw [Y8] at ht39
  refine Nf ?_;refine R.fin [1,10,11,12] ?_;refine K.lpN (x+1) ⟨hlt,Ax hlt hx.2 ht39⟩ (by omega) ?_
  exact StCut.take (own:=[]) (fun _=>.refl _) (by repeat (first|exact As|refine Ar (by first|(simp [or_imp,forall_and];done)|exact C8|exact low_ro.2 Kw) ?_)) (by simp) (by simp)
 have hxe:m.give.length≤x:=by simpa using ht13
 have hga:m.give.all (Gp m)=true:=by have:=F6 hxe hx.2;rw [F8] at this;simpa using this
 refine i7 ?_;refine R.fin [1,5] ?_;refine Z8 ?_;refine R.call Tryz.call127 (c127 m.take h.takes h.names _) ?_;refine R.go ?_;refine Z7 ?_;refine G.go ?_;refine G.call Tryz.call76 (fun hB=>wi m.ahead h.ahead.len h.ahead.ok _) ?_;refine Z86 ?_;refine G.call Tryz.call76 (fun hB=>wi m.back h.back.len h.back.ok _) ?_;refine R.go ?_;refine R.fin [1,55] ?_
 refine W.cond (fun ht55=>?_) (fun ht55=>?_)
 ·have hm:=yo ht55
  exact mm
 have hm0:=uq hct hga ht55
 refine Z5 ?_;refine Z8 ?_;refine R.fin [1,57] ?_;refine Mk ?_;refine R.fin [1,57,58] ?_
 refine W.cond (fun ht58=>?_) (fun ht58=>?_)
 ·obtain ⟨hl1,hl2⟩:=Kf hct (by rw [ht58];simp)
  obtain ⟨hl3,hl4⟩:=De hct
  have g1:=Jk (f:=A4) (l:=m.ahead) (d:=Aa) (by omega)
  have g2:=Jk (f:=A4) (l:=m.back) (d:=Aa) (by omega)
  have g3:=Jk (f:=A5) (l:=m.take) (d:=[]) (by omega)
  have g4:=Jk (f:=An) (l:=m.give) (d:=⟨[],0⟩) (by omega)
  have ok1:=h.ahead.ok _ (Iz (l:=m.ahead) (d:=Aa) (by omega))
  have ok2:=h.back.ok _ (Iz (l:=m.back) (d:=Aa) (by omega))
  have hm:=hm0.trans (pm ht58)
  refine W.drawQ [0,1,3,7,0,16,48,112,240,511,1023,2047,4095,8191,16383,2047,34815,100351,231423,493567,1017855,2097151,4194303,8388607] 21 Ac (by kernel_rfl) ?_;refine Z14 ?_
  refine D.go (h:=Q.indexAddr (0) (A4 (m.ahead.getD 0 Aa)) (fun _=>g1)) (hr:=?_)
  refine Z44 ?_
  refine D.go (h:=Q.indexAddr (0) (A5 (m.take.getD 0 [])) (fun _=>g3)) (hr:=?_)
  refine D.go ?_;refine D.call Tryz.call130 (uo (m.take.getD 0 []) _) ?_;refine D.call Tryz.call129 (ABz 61 (m.ahead.getD 0 Aa) ok1 (Ap (m.take.getD 0 [])) _) ?_;refine D.go ?_;refine Z75 ?_
  refine H.go (h:=Q.indexAddr (0) (A4 (m.back.getD 0 Aa)) (fun _=>g2)) (hr:=?_)
  refine Wk ?_
  refine H.go (h:=Q.indexAddr (0) (An (m.give.getD 0 ⟨[],0⟩)) (fun _=>g4)) (hr:=?_)
  refine Z75 ?_;refine H.call Tryz.call130 (fun hB=>uo (m.give.getD 0 ⟨[],0⟩).name _) ?_;refine D.tail ?_;refine G.call Tryz.call129 (fun hB=>ABz 61 (m.back.getD 0 Aa) ok2 (Ap (m.give.getD 0 ⟨[],0⟩).name) _) ?_;exact AAe
 refine Z1 ?_;refine R.fin [1,83] ?_
 refine W.cond (fun ht83=>?_) (fun ht83=>?_)
 ·obtain ⟨hl1,hl2⟩:=Kf hct (by rw [ht83];simp)
  obtain ⟨hl3,hl4⟩:=De hct
  have g1:=Jk (f:=A4) (l:=m.ahead) (d:=Aa) (by omega)
  have g2:=Jk (f:=A4) (l:=m.back) (d:=Aa) (by omega)
  have g3:=Jk (f:=A5) (l:=m.take) (d:=[]) (by omega)
  have g4:=Jk (f:=An) (l:=m.give) (d:=⟨[],0⟩) (by omega)
  have ok1:=h.ahead.ok _ (Iz (l:=m.ahead) (d:=Aa) (by omega))
  have ok2:=h.back.ok _ (Iz (l:=m.back) (d:=Aa) (by omega))
  have hm:=hm0.trans (pq ht58 ht83)
  refine AAj ?_
  refine D.go (h:=Q.indexAddr (0) (A5 (m.take.getD 0 [])) (fun _=>g3)) (hr:=?_)
  refine Z44 ?_
  refine D.go (h:=Q.indexAddr (0) (An (m.give.getD 0 ⟨[],0⟩)) (fun _=>g4)) (hr:=?_)
  refine Z14 ?_;refine D.tail ?_;exact AAe
 have hm:=hm0.trans (pt ht58 ht83)
 refine Wj ?_;exact n6

def jz (m:Mov):Bool := !(Di m)
theorem ur (l:List Mov):(decide ((l.length:Int)≤8) && !(l.any jz))=Ke l:=by
 unfold Ke
 rw [show jz=fun m => !(Di m) from rfl,F8]
 simp
theorem c92 (m:Mov) (h:OkMov m) (Hp:List AObj):AFun Tryz.prog 92 [Dq m] Hp (Ao (jz m)):=by
 refine ACall.body [.tmp 2] [0] Tryz.func92 Tryz.ntmps92 (fun d=>?_)
 refine Zt ?_;refine R.call Tryz.call93 (c93 m h _) ?_;exact Zj

theorem AEb (l:List Mov) (h:OkMovs l) (Hp:List AObj):AFun Tryz.prog 124 [Ca l,.fn (.func 92) [] []] Hp (A2 (Lf jz l)):=by
 refine ACall.body [.tmp 4] [0,1] Tryz.func124 Tryz.ntmps124 (fun d=>?_)
 refine im ?_
 refine AW.loopC (α:=Nat) (fun x=>⟨19,A3 0 (Ca l) (A3 1 (.fn (.func 92) [] []) (A3 7 (A2 l.length) (A3 8 (A2 (x:Nat)) (fun _=>.any)))),Hp,[],[],none⟩) (fun x=>x≤l.length∧∀(j:Nat) (y:Mov),j<x→l[j]? = some y→jz y=false) (fun x=>l.length-x) (0) ⟨Nat.zero_le _,fun j y h=>by omega⟩ (StLe.of_eq (by simp)) rfl (fun x hx=>?_)
 refine gy ?_
 refine W.condX (fun ht9=>?_) (fun ht9=>?_)
 ·have hlt:x<l.length:=by simpa using ht9
  have hlen:=h.len
  refine il ?_
  refine R.go (h:=Q.indexAddr (x) (Dq l[x]) (fun _=>Ad hlt)) (hr:=?_)
  refine R.go ?_;refine R.callV Tryz.call92 (c92 l[x] (h.each _ (List.getElem_mem hlt)) _) ?_;refine ir ?_
  refine W.cond (fun ht16=>?_) (fun ht16=>?_)
  ·exact rt
  exact rx
 have hxe:l.length≤x:=by simpa using ht9
 exact sa

theorem c91 (l:List Mov) (h:OkMovs l) (Hp:List AObj):AFun Tryz.prog 91 [Ca l,.fn (.func 92) [] []] Hp (Ao (l.any jz)):=by
 refine ACall.body [.tmp 4] [0,1] Tryz.func91 Tryz.ntmps91 (fun d=>?_)
 refine Z57 ?_;refine Z1 ?_;refine R.call Tryz.call124 (AEb l h _) ?_;exact sd

theorem c63 (l:List Mov) (h:OkMovs l) (Hp:List AObj):AFun Tryz.prog 63 [Ca l] Hp (Ao (Ke l)):=by
 refine ACall.body [.tmp 2] [0] Tryz.func63 Tryz.ntmps63 (fun d=>?_)
 refine Z42 ?_;refine Z43 ?_;refine G.go ?_;refine G.call Tryz.call91 (fun hB=>c91 l h _) ?_;refine G.go ?_;refine Z46 ?_;exact K.fin (V.one V.tmp) ⟨by rw [←ur,List.length_map],rfl⟩

theorem c34 (c:List Col) (hc:OkCols c) (l:List Mov) (h:OkMovs l) (Hp:List AObj):AFun Tryz.prog 34 [A8 c,Ca l] Hp (Ao (Iy c l)):=by
 refine ACall.body [.tmp 4] [0,1] Tryz.func34 Tryz.ntmps34 (fun d=>?_)
 refine Z57 ?_;refine Z2 ?_;refine R.call Tryz.call19 (c19 c hc _) ?_;refine ie ?_;refine G.call Tryz.call63 (fun hB=>c63 l h _) ?_;refine Z0 ?_;refine Z26 ?_;exact K.fin (V.one V.tmp) ⟨by unfold Iy;rw [Fv],rfl⟩

theorem k7 {Hp:List AObj} {c:List Col} (h:∀x∈Hp,ObjLow Hp.length x):∀x∈Hp++[AObj.cells 22 [A8 c]],ObjLow (Hp.length+1) x:=by
 intro x hx
 rcases List.mem_append.1 hx with hx|hx
 ·exact ObjLow.le (by omega) (h x hx)
 rw [List.mem_singleton.1 hx]
 intro z hz
 rw [List.mem_singleton.1 hz]
 exact C8
theorem c35 (c:List Col) (l:List Mov) (Hp:List AObj):ACallO Tryz.prog 35 [A8 c,Ca l] Hp (fun r H'=>r=.fn (.func 64) [] [.ro [Ca l],.ptr (oid Hp.length 0) 0]∧H'=Hp++[.cells 22 [A8 c]]):=by
 refine ACallO.body [.tmp 4] [0,1] Tryz.func35 Tryz.ntmps35 (fun d=>?_)
 refine Zm ?_;refine Z0 ?_;refine Fs ?_;refine Cx ?_
 refine R.assumeLow (fun hlow=>?_)
 refine AA0 ?_;refine Z26 ?_;exact K.finO 1 (V.tmp (t:=4)) ⟨rfl,rfl⟩ (hlow:=by simp [oid,or_imp,forall_and];exact ⟨fun m _ a _=>Ae _ a,fun m _ a _=>Ae _ a⟩) (hobj:=k7 hlow)

theorem c64 (l oc:Nat) (ms:List Mov) (hm:∀m∈ms,MvOk m) (hml:ms.length≤1048576) (C:Nat→List Col) (hC:∀k,OkCols (C k)) (U T:Nat→List AObj) (N:Nat→Prop) (Z:List AObj→Prop) (hlen:∀k,(U k).length=(U 0).length) (hlenW:∀k,(T k).length=(U 0).length) (hll:l<(U 0).length) (hol:oc<(U 0).length)
  (hlw:∀k,∀x∈U k,ObjLow (U 0).length x) (hlW:∀k,∀x∈T k,ObjLow (U 0).length x) (h0:N 0) (hc:∀k,(U k)[oc]? = some (.cells 22 [A8 (C k)])) (hcW:∀k,(T k)[oc]? = some (.cells 22 [A8 (C k)]))
  (hn:∀k m,ms[k]? = some m→(Am (C k) m).2=0→(T k).set oc (.cells 22 [A8 (Am (C k) m).1])=U (k+1))
  (hy:∀k m X,ms[k]? = some m→N k→AYield Tryz.prog l [A8 (Am (C k) m).1,A2 (Am (C k) m).2] (U k++X) (fun b H'=>((Am (C k) m).2≠0∧∃V,H'=V++X∧V.length=(U 0).length∧(∀x∈V,ObjLow (U 0).length x)∧Z V)∨((Am (C k) m).2=0∧b=true∧N (k+1)∧H'=T k++X)))
  (hR:N ms.length→Z (U ms.length)):ACall Tryz.prog 64 [.yield l,.ro [Ca ms],.ptr oc 0] (U 0) (fun _ H'=>Z H'):=by
 refine ACall.body [] [0,1,2] Tryz.func64 Tryz.ntmps64 (fun d=>?_)
 refine Z20 ?_;refine R.fin [0,2,8,9,10] ?_
 refine AW.loopC (α:=Nat) (fun x=>⟨31,A3 0 (.yield l) (A3 2 (.ptr oc 0) (A3 8 (Ca ms) (A3 9 (A2 ms.length) (A3 10 (A2 (x:Nat)) (fun _=>.any))))),U x,[],[],none⟩) (fun x=>x≤ms.length∧N x) (fun x=>ms.length-x) (0) ⟨Nat.zero_le _,h0⟩ (StLe.of_eq (by simp)) rfl (fun x hx=>?_)
 refine Z2 ?_;refine R.fin [0,2,8,9,10,11] ?_
 refine W.condX (fun ht11=>?_) (fun ht11=>?_)
 ·have hlt:x<ms.length:=by simpa using ht11
  refine Pa ?_
  refine R.go (h:=Q.indexAddr (x) (Dq ms[x]) (fun _=>Ad hlt)) (hr:=?_)
  refine Ml ?_;refine R.fin [0,2,5,8,9,10] ?_;refine Cx ?_
  refine R.go (h:=Q.loadUp (hc x)) (hr:=?_)
  refine R.go ?_;refine R.call Tryz.call65 (c65 (C x) (hC x) ms[x] (hm _ (List.getElem_mem hlt)) _) ?_;refine Z77 ?_;refine R.fin [0,2,6,7,8,9,10] ?_;refine Z34 ?_
  refine R.yield (l:=l) (args:=[A8 (Am (C x) ms[x]).1,A2 (Am (C x) ms[x]).2]) (hy x ms[x] _ (List.getElem?_eq_getElem hlt) hx.2) ?_
  intro b V O hV hb
  have hVO:O=[AObj.cells 64 (Fd ms[x])]∧(((Am (C x) ms[x]).2≠0∧V.length=(U 0).length∧(∀y∈V,ObjLow (U 0).length y)∧Z V)∨((Am (C x) ms[x]).2=0∧b=true∧N (x+1)∧V=T x)):=by
   rcases hb with ⟨h1,V',h2,h3,h4,h5⟩|⟨h1,h2,h3,h4⟩
   ·obtain ⟨rfl,rfl⟩:=List.append_inj h2 (by rw [hV,hlen x,h3])
    exact ⟨rfl,.inl ⟨h1,h3,h4,h5⟩⟩
   have h6:=List.append_inj h4 (by rw [hV,hlen x,hlenW x])
   exact ⟨h6.2,.inr ⟨h1,h2,h3,h6.1⟩⟩
  obtain ⟨rfl,hVO⟩:=hVO
  have hVl:V.length=(U 0).length:=by rw [hV,hlen x]
  have hVw:∀y∈V,ObjLow (U 0).length y:=by
   rcases hVO with ⟨_,_,h,_⟩|⟨_,_,_,rfl⟩
   ·exact h
   exact hlW _
  refine ⟨fun _=>by rw [hVl];exact hVw,fun o ho=>(by cases ho),?_⟩
  refine Z30 ?_;refine R.go ?_;refine R.fin [0,2,6,8,9,10,28] ?_
  refine W.cond (fun ht28=>?_) (fun ht28=>?_)
  ·have hZ:Z V:=by
    rcases hVO with ⟨_,_,_,h⟩|⟨h1,h2,_,_⟩
    ·exact h
    rw [h1,h2] at ht28;simp at ht28
   refine Z37 ?_;refine Z6 ?_;refine K.lpR ?_;exact K.fin .nores (hp:=hZ)
  have hVn:(Am (C x) ms[x]).2=0∧N (x+1)∧V=T x:=by
   rcases hVO with ⟨h1,_,_,_⟩|⟨h1,_,h3,h4⟩
   ·simp [h1] at ht28
   exact ⟨h1,h3,h4⟩
  obtain ⟨hz,hN,rfl⟩:=hVn
  have hnx:=hn x _ (List.getElem?_eq_getElem hlt) hz
  refine Z5 ?_;refine Z63 ?_
  refine R.storeUp jS (hcW x) ?_ ?_
  ·first|exact C8|(simp [or_imp,forall_and];done)
  refine R.fin [0,2,8,9,10] ?_;refine Pf ?_;refine R.fin [0,2,8,9,10] ?_;refine K.lpN (x+1) ⟨hlt,hN⟩ (by omega) ?_
  rw [hnx]
  exact StCut.take (own:=[]) (fun _=>.refl _) (by repeat (first|exact As|refine Ar (by first|(simp [or_imp,forall_and];done)|exact H4|(have:=hlen (x+1);simp;omega)) ?_)) (by simp) (by simp)
 have hxe:x=ms.length:=by have:=hx.1;simp at ht11;omega
 refine K.lpE ?_;exact K.finN .nores (hp:=by rw [hxe];exact hR (hxe ▸ hx.2))

/-! The columns on the way through moves. -/
def colsAt (c:List Col) (ms:List Mov):Nat→List Col
 | 0=>c
 | k+1=>match ms[k]? with|some m=>(Am (colsAt c ms k) m).1|none=>colsAt c ms k
def B8 (c:List Col) (ms:List Mov):Nat→List (List Col)
 | 0=>[c]
 | k+1=>B8 c ms k++[colsAt c ms (k+1)]
def NS (c:List Col) (ms:List Mov) (k:Nat):Prop:=Bn c ms=((B8 c ms k).dropLast++(Bn (colsAt c ms k) (ms.drop k)).1,(Bn (colsAt c ms k) (ms.drop k)).2)
theorem Vo (c:List Col) (ms:List Mov) (k:Nat):(B8 c ms k).dropLast++[colsAt c ms k]=B8 c ms k:=by
 cases k with
 | zero=>rfl
 | succ k=>simp [B8]
theorem Do {c:List Col} {ms:List Mov} {k:Nat} {m:Mov} (h:ms[k]? = some m):colsAt c ms (k+1)=(Am (colsAt c ms k) m).1:=by rw [colsAt,h]
theorem I5 {ms:List Mov} {k:Nat} {m:Mov} (hk:ms[k]? = some m):ms.drop k=m::ms.drop (k+1):=by
 obtain ⟨h1,h2⟩:=List.getElem?_eq_some_iff.1 hk
 rw [List.drop_eq_getElem_cons h1,h2]
theorem yp {c:List Col} {ms:List Mov}:NS c ms 0:=rfl
theorem Vp {c:List Col} {ms:List Mov} {k:Nat} {m:Mov} (hk:ms[k]? = some m) (h:NS c ms k) (he:(Am (colsAt c ms k) m).2=0):NS c ms (k+1):=by
 unfold NS at h ⊢
 rw [h,I5 hk]
 have e:Bn (colsAt c ms k) (m::ms.drop (k+1))=(colsAt c ms k::(Bn (Am (colsAt c ms k) m).1 (ms.drop (k+1))).1,(Bn (Am (colsAt c ms k) m).1 (ms.drop (k+1))).2):=by
  rw [Bn,if_neg (by rw [he];simp)]
 have e2:(B8 c ms (k+1)).dropLast=B8 c ms k:=by simp [B8]
 rw [e,e2,Do hk]
 have e3:=Vo c ms k
 refine Prod.ext ?_ rfl
 show (B8 c ms k).dropLast++(colsAt c ms k::_)=B8 c ms k++_
 conv=>rhs;rw [←e3]
 simp
theorem cd {c:List Col} {ms:List Mov} {k:Nat} {m:Mov} (hk:ms[k]? = some m) (h:NS c ms k) (he:(Am (colsAt c ms k) m).2≠0):(Bn c ms).2=(Am (colsAt c ms k) m).2:=by
 unfold NS at h
 rw [h,I5 hk,Bn,if_pos (by simpa using he)]
theorem ce {c:List Col} {ms:List Mov} (h:NS c ms ms.length):Bn c ms=(B8 c ms ms.length,0):=by
 unfold NS at h
 rw [h,List.drop_length,Bn]
 exact Prod.ext (Vo c ms ms.length) rfl
theorem pu {c:List Col} {m:Mov} (hc:OkCols c) (h:OkMov m):OkCols (Am c m).1:=by
 have h0:OkCols ([]:List Col):=⟨by decide,fun y hy=>by cases hy⟩
 unfold Am
 split
 ·exact h0
 split
 ·exact h0
 split
 ·exact h0
 exact Rd hc (Rc h) (by rw [Ev];exact h.gives2)
theorem Eb {c:List Col} {ms:List Mov} (hc:OkCols c) (h:∀m∈ms,OkMov m):∀k,OkCols (colsAt c ms k)
 | 0=>hc
 | k+1=>by
  rw [colsAt]
  cases hk:ms[k]? with
  | none=>exact Eb hc h k
  | some m=>exact pu (Eb hc h k) (h m (List.mem_of_getElem? hk))
theorem H5 (c:List Col) (ms:List Mov):∀k,(B8 c ms k).length=k+1
 | 0=>rfl
 | k+1=>by rw [B8,List.length_append,H5 c ms k];rfl
theorem cf {c:List Col} {ms:List Mov} (h:Iy c ms=true) (hk:OkMovs ms):(∀m∈ms,MvOk m)∧ms.length≤8:=by
 unfold Iy Ke at h
 simp only [Bool.and_eq_true,decide_eq_true_eq,List.all_eq_true] at h
 exact ⟨fun m hm=>eh (hk.each m hm) (Gq (h.2.2 m hm)),by omega⟩
theorem Tt {c:List Col} {ms:List Mov} (h:Iy c ms=false):D4 c ms=([],1):=by
 have:Fz c ms=([],1):=if_neg (by rw [h];simp)
 unfold D4
 rw [this];rfl
theorem Rg {c:List Col} {ms:List Mov} (h:Iy c ms=true) (he:(Bn c ms).2≠0):D4 c ms=([],(Bn c ms).2):=by
 have:Fz c ms=Bn c ms:=if_pos h
 unfold D4
 rw [this,if_pos (by simpa using he)]
theorem Tu {c:List Col} {ms:List Mov} {o:List (List Col)} (h:Iy c ms=true) (he:Bn c ms=(o,0)):D4 c ms=(o,0):=by
 have:Fz c ms=Bn c ms:=if_pos h
 unfold D4
 rw [this,he];rfl
abbrev I6 (l:List (List Col)):AV:=.slice false 1 (l.map A8)
theorem Fj {n k:Nat} {o:Bool} {l:List (List Col)}:Low n (.slice o k (l.map A8)):=low_slice.2 fun y hy=>by
 obtain ⟨m,_,rfl⟩:=List.mem_map.1 hy
 exact C8
theorem AC6 {U:List AObj} {i j:Nat} {x y:AObj} (h:U[i]? = some x) (hne:j≠i):(U.set j y)[i]? = some x:=by rw [List.getElem?_set_ne hne];exact h
theorem k8 {n k:Nat} {o:Bool} {l:List (List Col)} {c:List Col}:Low n (.slice o k (l.map A8++[A8 c])):=by
 have:=Fj (n:=n) (k:=k) (o:=o) (l:=l++[c])
 rwa [List.map_append] at this
theorem c14 (c:List Col) (hc:OkCols c) (hc2:c.length≤1000000) (l:List Mov) (h:OkMovs l) (Hp:List AObj):AFun Tryz.prog 14 [A8 c,Ca l] Hp (.tup [I6 (D4 c l).1,A2 (D4 c l).2]):=by
 refine ACall.body [.cell 4 34,.cell 5 27] [0,1,7,8] Tryz.func14 Tryz.ntmps14 (fun d=>?_)
 refine Z35 ?_;refine Lp ?_;refine R.fin [0,1,4,5,7,8] ?_;refine Z8 ?_;refine R.call Tryz.call34 (c34 c hc l h _) ?_;refine R.go ?_;refine R.fin [0,1,4,5,7,8,12] ?_
 refine W.cond (fun ht12=>?_) (fun ht12=>?_)
 ·have hm:=Tt (by simpa using ht12)
  refine Cx ?_;refine Gg ?_;refine R.nilOwn 0 1 ?_;refine Gg ?_;refine Z41 ?_;exact K.fin (V.two (V.cell jA) (V.cell jA)) ⟨by rw [hm];rfl,rfl⟩
 have hmay:Iy c l=true:=by simpa using ht12
 obtain ⟨hmv,hl8⟩:=cf hmay h
 refine L1 ?_;refine R.call Tryz.call36 (c36 c hc2 _) ?_;refine K4 ?_;refine Lp ?_;refine R.storeOwnT jS ?_;refine R.fin [0,1,4,5,6,7,8] ?_;refine Z66 ?_
 refine R.assumeLow (fun hlow=>?_)
 refine Z0 ?_;refine R.callO Tryz.call35 (c35 c l _) ?_
 rintro _ _ ⟨rfl,rfl⟩
 refine ⟨[.cells 22 [A8 c]],by simp,?_⟩
 rw [show oid (Hp++[AObj.cells 34 [AV.nil],AObj.cells 27 [A2 0],AObj.cells 34 [AV.slice true 1 [A8 c]]]).length 0=oid Hp.length 3 by simp [oid]]
 simp only [List.cons_append,List.nil_append]
 refine R.fin [4,5,6,7,8,18] ?_;refine Hj ?_
 refine W.rangeV (m:=4) Tryz.call64 (fun FR as' bd' hFR has hbd=>?_)
 have hFRl:∀s,Low (Hp.length+6) (FR s):=by
  intro s
  rw [hFR]
  refine Low.strip ?_
  revert s
  repeat (first|exact As|refine Ar (by first|(simp [oid,or_imp,forall_and];done)|(simp [oid,or_imp,forall_and];exact ⟨fun m _ a _=>Ae _ a,fun m _ a _=>Ae _ a⟩)|(simp [oid,or_imp,forall_and]<;>omega)) ?_)
 have hOl:∀{e:Int} {o:List (List Col)} {q:List Col} {lp:AObj},ObjLow (Hp.length+6) lp→∀x∈Hp++[AObj.cells 34 [AV.nil],AObj.cells 27 [A2 e],AObj.cells 34 [AV.slice true 1 ((o).map A8)],AObj.cells 22 [A8 (q)],AObj.defs,lp],ObjLow (Hp.length+6) x:=by
  intro e o q lp hlp x hx
  refine Ig (fun x hx=>ObjLow.le (by omega) (hlow x hx)) (fun x hx=>?_) x hx
  simp only [List.mem_cons,List.mem_nil_iff,or_false] at hx
  rcases hx with rfl|rfl|rfl|rfl|rfl|rfl
  ·intro y hy;rw [List.mem_singleton.1 hy];simp
  ·intro y hy;rw [List.mem_singleton.1 hy];simp
  ·intro y hy;rw [List.mem_singleton.1 hy];exact Fj
  ·intro y hy;rw [List.mem_singleton.1 hy];exact C8
  ·trivial
  exact hlp
 refine ⟨_,c64 (oid Hp.length 5) (oid Hp.length 3) l hmv (by omega) (colsAt c l) (Eb hc fun m hm=>h.each m hm) (fun k=>Hp++[AObj.cells 34 [AV.nil],AObj.cells 27 [A2 0],AObj.cells 34 [AV.slice true 1 ((B8 c l k).map A8)],AObj.cells 22 [A8 (colsAt c l k)],AObj.defs,AObj.loop LoopState.ready none FR 29 #[19,20] as' bd' (oid Hp.length 4)]) (fun k=>Hp++[AObj.cells 34 [AV.nil],AObj.cells 27 [A2 0],AObj.cells 34 [AV.slice true 1 ((B8 c l (k+1)).map A8)],AObj.cells 22 [A8 (colsAt c l k)],AObj.defs,AObj.loop LoopState.ready none FR 29 #[19,20] as' bd' (oid Hp.length 4)]) (NS c l) (fun V=>(∃(o:List (List Col)) (q:List Col),V=Hp++[AObj.cells 34 [AV.nil],AObj.cells 27 [A2 0],AObj.cells 34 [AV.slice true 1 ((o).map A8)],AObj.cells 22 [A8 (q)],AObj.defs,AObj.loop LoopState.ready none FR 29 #[19,20] as' bd' (oid Hp.length 4)]∧Bn c l=(o,0))∨(∃(e:Int) (o:List (List Col)) (q:List Col),V=Hp++[AObj.cells 34 [AV.nil],AObj.cells 27 [A2 e],AObj.cells 34 [AV.slice true 1 ((o).map A8)],AObj.cells 22 [A8 (q)],AObj.defs,AObj.loop LoopState.done (some Code.ret) FR 29 #[19,20] as' bd' (oid Hp.length 4)]∧e≠0∧(Bn c l).2=e)) (fun k=>by simp) (fun k=>by simp) (by simp [oid]) (by simp [oid]) (fun k=>(fun x hx=>by rw [List.length_append];exact hOl (lp:=AObj.loop LoopState.ready none FR 29 #[19,20] as' bd' (oid Hp.length 4)) (by exact ⟨hFRl,by simp [oid]⟩) x hx)) (fun k=>(fun x hx=>by rw [List.length_append];exact hOl (lp:=AObj.loop LoopState.ready none FR 29 #[19,20] as' bd' (oid Hp.length 4)) (by exact ⟨hFRl,by simp [oid]⟩) x hx)) yp (fun k=>by rw [Aw];rfl) (fun k=>by rw [Aw];rfl) (fun k m hk he=>by rw [Dx];simp only [Do hk];rfl) (fun k m X hk hN=>?_) (fun hN=>.inl ⟨_,_,rfl,ce hN⟩),?_⟩
 ·generalize hV:Hp++[AObj.cells 34 [AV.nil],AObj.cells 27 [A2 0],AObj.cells 34 [AV.slice true 1 ((B8 c l k).map A8)],AObj.cells 22 [A8 (colsAt c l k)],AObj.defs,AObj.loop LoopState.ready none FR 29 #[19,20] as' bd' (oid Hp.length 4)]++X=V
  have hL:V[oid Hp.length 5]? = some (AObj.loop LoopState.ready none FR 29 #[19,20] as' bd' (oid Hp.length 4)):=by rw [←hV,List.append_assoc,Aw];rfl
  have hA0:V[oid Hp.length 2]? = some (AObj.cells 34 [AV.slice true 1 ((B8 c l k).map A8)]):=by rw [←hV,List.append_assoc,Aw];rfl
  have hB0:V[oid Hp.length 0]? = some (AObj.cells 34 [AV.nil]):=by rw [←hV,List.append_assoc,Aw];rfl
  have hC0:V[oid Hp.length 1]? = some (AObj.cells 27 [A2 0]):=by rw [←hV,List.append_assoc,Aw];rfl
  refine AYield.ofRound (pd:=none) (fr:=FR) (sz:=29) (ps:=#[19,20]) (df:=oid Hp.length 4) (asg:=as') (bd:=bd') hL rfl (by decide) (fun d=>?_)
  subst hFR has hbd
  refine W.keep [4,5,6,19,20] ?_;refine Z2 ?_;refine R.fin [4,5,6,7,20] ?_;refine Z63 ?_;refine R.fin [4,5,6,7,8] ?_
  refine ⟨rfl,none,hL,?_⟩
  generalize hbz:(AObj.loop LoopState.busy _ _ _ _ _ _ _)=bz
  have hA:(V.set (oid Hp.length 5) bz)[oid Hp.length 2]? = some (AObj.cells 34 [AV.slice true 1 ((B8 c l k).map A8)]):=by rw [List.getElem?_set_ne (Cd (by decide))];exact hA0
  have hB:(V.set (oid Hp.length 5) bz)[oid Hp.length 0]? = some (AObj.cells 34 [AV.nil]):=by rw [List.getElem?_set_ne (Cd (by decide))];exact hB0
  have hC:(V.set (oid Hp.length 5) bz)[oid Hp.length 1]? = some (AObj.cells 27 [A2 0]):=by rw [List.getElem?_set_ne (Cd (by decide))];exact hC0
  refine Hj ?_;refine Z8 ?_;refine R.fin [4,5,6,7,8,22] ?_
  refine W.cond (fun ht22=>?_) (fun ht22=>?_)
  ·have he:(Am (colsAt c l k) m).2≠0:=by simpa using ht22
   refine Z2 ?_
   refine R.storeUp jS hB ?_ ?_
   ·simp
   refine R.storeUp jS (AC6 hC (Cd (by decide))) ?_ ?_
   ·simp
   refine mt ?_;refine K.blR ?_
   subst hbz
   refine xf ?_
   refine .inl ⟨he,Hp++[AObj.cells 34 [AV.nil],AObj.cells 27 [A2 (Am (colsAt c l k) m).2],AObj.cells 34 [AV.slice true 1 ((B8 c l k).map A8)],AObj.cells 22 [A8 (colsAt c l k)],AObj.defs,_],?_,by simp,(fun x hx=>by rw [List.length_append];exact hOl (lp:=_) (by exact ⟨hFRl,by simp [oid]⟩) x hx),.inr ⟨_,_,_,rfl,he,cd hk hN he⟩⟩
   subst hV
   simp only [List.append_assoc,Dx,List.cons_append,List.nil_append,List.set_cons_succ,List.set_cons_zero]
  have he:(Am (colsAt c l k) m).2=0:=by simpa using ht22
  refine Z5 ?_;refine AW.region ?_;refine R.loadUpT jA hA ?_;refine Z52 ?_
  refine R.append jU Tryz.type22 ?_ ?_ ?_
  ·have hol:=H5 c l k;have hkl:=(List.getElem?_eq_some_iff.1 hk).1;simp [Tryz.t22];omega
  ·have hol:=H5 c l k;have hkl:=(List.getElem?_eq_some_iff.1 hk).1;simp [Tryz.t22];omega
  refine R.storeUpT jS (getset hA) ?_ ?_
  ·exact k8
  refine Z67 ?_
  subst hbz
  refine xe ?_
  refine .inr ⟨he,rfl,Vp hk hN he,?_⟩
  subst hV
  simp only [List.append_assoc,Dx,List.cons_append,List.nil_append,List.set_cons_succ,List.set_cons_zero]
  rw [B8,Do hk,List.map_append]
  rfl
 rintro r H' (⟨o,q,rfl,hrun⟩|⟨e,o,q,rfl,hne,hrun⟩)
 ·refine ⟨Hp,_,_,_,rfl,rfl,fun h=>h,?_,rfl,by simp,?_⟩
  ·intro o ho
   have:o=oid Hp.length 4:=by simpa using ho
   subst this
   rw [Aw]
   rfl
  refine Z9 ?_;refine Z98 ?_;refine Gg ?_;refine Z16 ?_;exact K.fin (V.two (V.cell jA) (V.cell jA)) ⟨by rw [Tu hmay hrun],rfl⟩ (hlow:=by simp only [J4,List.mem_cons,List.mem_nil_iff,or_false];rintro y (rfl|rfl);exact Fj;simp)
 refine ⟨Hp,_,_,_,rfl,rfl,fun h=>h,?_,rfl,by simp,?_⟩
 ·intro o ho
  have:o=oid Hp.length 4:=by simpa using ho
  subst this
  rw [Aw]
  rfl
 refine W.nilOwn 0 1 ?_;refine Z76 ?_;exact K.fin (V.two (V.cell jA) (V.cell jA)) ⟨by rw [Rg hmay (by rw [hrun];exact hne),hrun];rfl,rfl⟩

theorem ACall.argLe {P:Program} {g:FuncId} {args args':List AV} {H:List AObj} {post:AV→List AObj→Prop} (h:ACall P g args' H post) (hl:args.length=args'.length) (hle:∀(i:Nat) (y y':AV),args[i]? = some y→args'[i]? = some y'→Le y y'):ACall P g args H post:=
 fun d G w vs h1 h2 h3 h4=>h d G w vs (h1.trans hl) (fun i y u hy hu=>by
  have hi:i<args.length:=by rw [hl];exact (List.getElem?_eq_some_iff.1 hy).1
  exact (h2 i _ u (List.getElem?_eq_getElem hi) hu).le (hle i _ y (List.getElem?_eq_getElem hi) hy)) h3 h4
theorem Kx (s:Str):Le (.agg [A2 2,A5 s,A2 0,A2 0,A5 [],.nil]) (A4 (Ap s)):=by
 rw [A7]
 refine .agg _ _ rfl (fun y hy=>?_) (fun i y y' hy hy'=>?_)
 ·simp only [Bi,List.mem_cons,List.mem_nil_iff,or_false] at hy
  rcases hy with rfl|rfl|rfl|rfl|rfl|rfl<;>rfl
 match i with
 | 0=>simp at hy;subst hy;simp [Bi,Ap] at hy';subst hy';exact .inl rfl
 | 1=>simp at hy;subst hy;simp [Bi,Ap] at hy';subst hy';exact .inl rfl
 | 2=>simp at hy;subst hy;simp [Bi,Ap] at hy';subst hy';exact .inl rfl
 | 3=>simp at hy;subst hy;simp [Bi,Ap] at hy';subst hy';exact .inl rfl
 | 4=>simp at hy;subst hy;simp [Bi,Ap] at hy';subst hy';exact .inl rfl
 | 5=>simp at hy;subst hy;simp [Bi,Ap] at hy';subst hy';exact .inr ⟨rfl,6,rfl⟩
 | i+6=>simp at hy
theorem AC7 (x:Expr) (hx:okE 61 x) (s:Str) (Hp:List AObj):AFun Tryz.prog 25 [A4 x,.agg [A2 2,A5 s,A2 0,A2 0,A5 [],.nil]] Hp (Ao (eqE x (Ap s))):=
 ACall.argLe (c25 61 x hx (Ap s) Hp) rfl fun i y y' hy hy'=>by
  match i with
  | 0=>simp at hy hy';subst hy;subst hy';exact .refl _
  | 1=>simp only [List.getElem?_cons_succ,List.getElem?_cons_zero,Option.some.injEq] at hy hy';subst hy;subst hy';exact Kx s
  | i+2=>simp at hy
def I7 (m:Mov):Bool:=
 if m.kind==1 then ((m.take.length:Int)==0)&&((m.give.length:Int)==1)
 else if m.kind==2 then ((m.take.length:Int)==1)&&((m.give.length:Int)==0)
 else if (m.kind==3) || (m.kind==6) then ((m.take.length:Int)==1)&&((m.give.length:Int)==1)
 else if m.kind==4 then ((m.take.length:Int)==1)&&decide ((2:Int)≤(m.give.length:Int))
 else if m.kind==5 then decide ((2:Int)≤(m.take.length:Int))&&((m.give.length:Int)==1)
 else false
theorem pv (n:Nat):decide ((1:Int)<(n:Int))=decide ((2:Int)≤(n:Int)):=by
 by_cases h:2≤n
 ·have h1:(1:Int)<n:=by omega
  have h2:(2:Int)≤n:=by omega
  simp [h1,h2]
 have h1:¬(1:Int)<n:=by omega
 have h2:¬(2:Int)≤n:=by omega
 simp [h1,h2]
theorem pw {m:Mov} (h:(((m.ahead.length:Int) != (m.give.length:Int)) || ((m.back.length:Int) != (m.take.length:Int)))=false):D9 m=I7 m:=by
 rw [Y7 h,pv,pv]
 rfl
theorem k9 (k:Int):(B3 k==([]:Str))=(decide (k<1) || decide (3<k)):=by
 unfold B3
 by_cases h:k<1∨3<k
 ·rw [if_pos (by first|exact h|omega)]
  rcases h with h|h<;>simp [h]
 rw [if_neg (by first|exact h|omega)]
 have hk:k=1∨k=2∨k=3:=by omega
 rcases hk with rfl|rfl|rfl<;>rfl
theorem Tv {m:Mov} {c:Col}:(((!(Bm c.name)) || ((m.kind==3)&&(c.kind != 0))) || ((m.kind != 3)&&(decide (c.kind<1) || decide (3<c.kind)))) = !Gp m c:=by
 rw [←k9]
 unfold Gp
 rw [show (m.kind != 3) = !(m.kind==3) from rfl]
 cases h3:(m.kind==3) with
 | false=>cases Bm c.name<;>cases (B3 c.kind==([]:Str))<;>cases (c.kind != 0)<;>rfl
 | true =>
  by_cases h0:c.kind=0
  ·have e:(B3 c.kind==([]:Str))=true:=by rw [h0];rfl
   have e0:(c.kind != 0)=false:=by rw [h0];rfl
   rw [e,e0]
   cases Bm c.name<;>rfl
  have e0:(c.kind != 0)=true:=by simpa using h0
  rw [e0]
  cases Bm c.name<;>cases (B3 c.kind==([]:Str))<;>rfl
theorem Po (l:List Expr):l.all Ag=l.all Ah:=by
 congr 1
 funext e
 exact (Bu e).symm
theorem ut {m:Mov} (h:(((((m.ahead.length:Int) != (m.give.length:Int)) || ((m.back.length:Int) != (m.take.length:Int))) || (!(m.ahead.all Ag))) || (!(m.back.all Ag)))=true):Di m=false:=by
 rw [Po,Po] at h
 unfold Di
 cases h1:(((m.ahead.length:Int) != (m.give.length:Int)) || ((m.back.length:Int) != (m.take.length:Int))) with
 | true=>rw [Y6 h1];rfl
 | false =>
  rw [h1] at h
  cases h2:m.ahead.all Ah<;>cases h3:m.back.all Ah<;>simp_all
theorem uu {m:Mov} (h:(((((m.ahead.length:Int) != (m.give.length:Int)) || ((m.back.length:Int) != (m.take.length:Int))) || (!(m.ahead.all Ag))) || (!(m.back.all Ag)))=false):D9 m=I7 m∧Di m=(((I7 m&&m.give.all (Gp m))&&m.take.all Bm)&&I3 m):=by
 rw [Po,Po] at h
 simp only [Bool.or_eq_false_iff,Bool.not_eq_false'] at h
 have hk:=pw (m:=m) (by simp only [Bool.or_eq_false_iff];exact h.1.1)
 refine ⟨hk,?_⟩
 unfold Di
 rw [hk,h.1.2,h.2]
 simp
theorem uv {m:Mov} (h6:(m.kind==6)=false):I3 m=((m.kind != 3) || (eqE (m.ahead.getD 0 Aa) (Ap (m.take.getD 0 []))&&eqE (m.back.getD 0 Aa) (Ap (m.give.getD 0 ⟨[],0⟩).name))):=by
 rw [show (m.kind != 3) = !(m.kind==3) from rfl]
 cases h:(m.kind==3) with
 | true=>rw [pm h];rfl
 | false=>rw [pt h h6];rfl
theorem uw {m:Mov} (h6:(m.kind==6)=true):I3 m=(m.take.getD 0 []==(m.give.getD 0 ⟨[],0⟩).name):=pq (by simp at h6 ⊢;omega) h6
theorem c66 (m:Mov) (h:OkMov m) (Hp:List AObj):AFun Tryz.prog 66 [Dq m] Hp (Ao (Di m)):=by
 refine ACall.body [.tmp 2] [0] Tryz.func66 Tryz.ntmps66 (fun d=>?_)
 refine Z71 ?_;refine W.drawQ [0,1,3,0,8,24,7,127] 7 Ac (by kernel_rfl) ?_;refine Nh ?_;refine Z44 ?_;refine Ux ?_;refine V3 ?_;refine Z66 ?_
 simp only [List.length_map]
 refine Z69 ?_;refine Z62 ?_;refine G.go ?_;refine Z30 ?_;refine G.call Tryz.call98 (fun hB=>c98 m.ahead h.ahead _) ?_;refine G.go ?_;refine Z30 ?_;refine G.call Tryz.call98 (fun hB=>c98 m.back h.back _) ?_;refine Z70 ?_;refine R.fin [1,3,4,38] ?_
 refine W.cond (fun ht38=>?_) (fun ht38=>?_)
 ·simp only [List.length_map] at ht38
  have hm:=ut ht38
  exact mm
 simp only [List.length_map] at ht38
 obtain ⟨hck,hm0⟩:=uu ht38
 refine L1 ?_;refine R.fin [1,3,4,5] ?_
 refine W.join ⟨178,A3 1 (.ro (Fd m)) (A3 3 (A2 (m.take.length:Nat)) (A3 4 (A2 (m.give.length:Nat)) (A3 5 (Ao (I7 m)) (fun _=>.any)))),Hp,[],[],none⟩ ?_ ?_
 ·refine Z1 ?_;refine R.fin [1,3,4,5,40] ?_;refine Mk ?_;refine R.fin [1,3,4,5,40,41] ?_
  refine W.cond (fun ht41=>?_) (fun ht41=>?_)
  ·refine ii ?_;refine K.thJ ?_;exact StLe.of_eq (by unfold I7;first|(simp only [ht38,ht41,hk3,hk6,Bool.true_or,Bool.false_or,Bool.or_true,Bool.or_false,if_true,if_false,Bool.false_eq_true,↓reduceIte]<;>rfl)|(simp only [ht38,ht41,hk3,Bool.true_or,Bool.false_or,Bool.or_true,if_true,if_false,Bool.false_eq_true,↓reduceIte]<;>rfl)|(simp only [ht38,ht41,if_true,if_false,Bool.false_eq_true,↓reduceIte]<;>rfl))
  refine Z1 ?_;refine R.fin [1,3,4,5,40,49] ?_
  refine W.cond (fun ht49=>?_) (fun ht49=>?_)
  ·refine ii ?_;refine K.thJ ?_;exact StLe.of_eq (by unfold I7;first|(simp only [ht38,ht41,ht49,hk3,hk6,Bool.true_or,Bool.false_or,Bool.or_true,Bool.or_false,if_true,if_false,Bool.false_eq_true,↓reduceIte]<;>rfl)|(simp only [ht38,ht41,ht49,hk3,Bool.true_or,Bool.false_or,Bool.or_true,if_true,if_false,Bool.false_eq_true,↓reduceIte]<;>rfl)|(simp only [ht38,ht41,ht49,if_true,if_false,Bool.false_eq_true,↓reduceIte]<;>rfl))
  refine Z8 ?_;refine R.fin [1,3,4,5,40,57] ?_
  refine W.cond (fun ht57=>?_) (fun ht57=>?_)
  ·have hk3:=ht57
   refine Z5 ?_
   refine W.cond (fun ht57=>?_) (fun ht57=>?_)
   ·refine ii ?_;exact Z54
   rw [hk3] at ht57;cases ht57
  have hk3:=ht57
  refine Z10 ?_;refine R.fin [1,3,4,5,40,57] ?_;refine K.thN ?_
  refine W.cond (fun ht57=>?_) (fun ht57=>?_)
  ·have hk6:=ht57
   refine ii ?_;exact Z54
  have hk6:=ht57
  refine Z1 ?_;refine R.fin [1,3,4,5,40,66] ?_
  refine W.cond (fun ht66=>?_) (fun ht66=>?_)
  ·refine ii ?_;refine K.thJ ?_;exact StLe.of_eq (by unfold I7;first|(simp only [ht38,ht41,ht49,ht57,ht57,ht66,hk3,hk6,Bool.true_or,Bool.false_or,Bool.or_true,Bool.or_false,if_true,if_false,Bool.false_eq_true,↓reduceIte]<;>rfl)|(simp only [ht38,ht41,ht49,ht57,ht57,ht66,hk3,Bool.true_or,Bool.false_or,Bool.or_true,if_true,if_false,Bool.false_eq_true,↓reduceIte]<;>rfl)|(simp only [ht38,ht41,ht49,ht57,ht57,ht66,if_true,if_false,Bool.false_eq_true,↓reduceIte]<;>rfl))
  refine Z1 ?_;refine R.fin [1,3,4,5,74] ?_
  refine W.cond (fun ht74=>?_) (fun ht74=>?_)
  ·refine ii ?_;exact Z50
  refine W.keep [1,3,4,5] ?_;refine i8 ?_;exact Z50
 refine Z8 ?_;refine R.fin [1,3,4,83] ?_
 refine W.cond (fun ht83=>?_) (fun ht83=>?_)
 ·have hkf:I7 m=false:=by simpa using ht83
  have hm:Di m=false:=by rw [hm0,hkf];rfl
  exact mm
 have hkm:I7 m=true:=by simpa using ht83
 have hct:D9 m=true:=hck.trans hkm
 obtain ⟨hl3,hl4⟩:=De hct
 refine Pd ?_;refine R.fin [1,3,4,6] ?_
 refine AW.loopC (α:=Nat) (fun x=>⟨178,A3 1 (.ro (Fd m)) (A3 3 (A2 (m.take.length:Nat)) (A3 4 (A2 (m.give.length:Nat)) (A3 6 (A2 (x:Nat)) (fun _=>.any)))),Hp,[],[],none⟩) (fun x=>x≤m.take.length∧∀(j:Nat) (y:Str),j<x→m.take[j]? = some y→(!Bm y)=false) (fun x=>m.take.length-x) (0) ⟨Nat.zero_le _,fun j y h=>by omega⟩ (StLe.of_eq (by simp)) rfl (fun x hx=>?_)
 refine Z34 ?_;refine R.fin [1,3,4,6,86] ?_
 refine W.cond (fun ht86=>?_) (fun ht86=>?_)
 ·have hlt:x<m.take.length:=by simpa using ht86
  have htk:=h.takes
  refine Pe ?_
  refine R.go (h:=Q.indexAddr (x) (A5 m.take[x]) (fun _=>Ad hlt)) (hr:=?_)
  refine R.go ?_;refine R.call Tryz.call80 (c80 m.take[x] (h.names _ (List.getElem_mem hlt)) _) ?_;refine R.go ?_;refine R.fin [1,3,4,6,95] ?_
  refine W.cond (fun ht95=>?_) (fun ht95=>?_)
  ·rw [←Dc] at ht95
   have hm:Di m=false:=by
    rw [hm0,List.all_eq_false.2 ⟨_,List.getElem_mem hlt,by simpa using ht95⟩]
    simp
   exact wx
  rw [←Dc] at ht95
  refine Z65 ?_;refine R.fin [1,3,4,6] ?_;exact K.lpN (x+1) ⟨hlt,Ax hlt hx.2 ht95⟩ (by omega) (StCut.of_eq rfl)
 have hxe:m.take.length≤x:=by simpa using ht86
 have hta:m.take.all Bm=true:=by have:=F6 hxe hx.2;rw [F8] at this;simpa using this
 refine Zq ?_;refine R.fin [1,4,7] ?_
 refine AW.loopC (α:=Nat) (fun k=>⟨178,A3 1 (.ro (Fd m)) (A3 4 (A2 (m.give.length:Nat)) (A3 7 (A2 (k:Nat)) (fun _=>.any))),Hp,[],[],none⟩) (fun k=>k≤m.give.length∧∀(j:Nat) (y:Col),j<k→m.give[j]? = some y→(!Gp m y)=false) (fun k=>m.give.length-k) (0) ⟨Nat.zero_le _,fun j y h=>by omega⟩ (StLe.of_eq (by simp)) rfl (fun k hk=>?_)
 refine Z34 ?_;refine R.fin [1,4,7,98] ?_
 refine W.cond (fun ht98=>?_) (fun ht98=>?_)
 ·have hlk:k<m.give.length:=by simpa using ht98
  have hgl:=h.gives2
  refine Pe ?_
  refine R.go (h:=Q.indexAddr (k) (An m.give[k]) (fun _=>Ad hlk)) (hr:=?_)
  refine Z22 ?_;refine R.fin [1,4,7,8] ?_;refine Z20 ?_
  refine R.go (h:=Q.indexAddr (k) (An m.give[k]) (fun _=>Ad hlk)) (hr:=?_)
  refine Z0 ?_;refine R.call Tryz.call80 (c80 m.give[k].name (h.gives.2 _ (List.getElem_mem hlk)) _) ?_;refine Z62 ?_;refine Z7 ?_;refine Uz ?_;refine Ni ?_;refine Z7 ?_;refine Z70 ?_;refine R.fin [1,4,7,136] ?_
  refine W.cond (fun ht136=>?_) (fun ht136=>?_)
  ·rw [←Dc,Tv] at ht136
   have hm:Di m=false:=by
    rw [hm0,List.all_eq_false.2 ⟨_,List.getElem_mem hlk,by simpa using ht136⟩]
    simp
   exact wx
  rw [←Dc,Tv] at ht136
  refine Z65 ?_;refine R.fin [1,4,7] ?_;exact K.lpN (k+1) ⟨hlk,Ax hlk hk.2 ht136⟩ (by omega) (StCut.of_eq rfl)
 have hke:m.give.length≤k:=by simpa using ht98
 have hga:m.give.all (Gp m)=true:=by have:=F6 hke hk.2;rw [F8] at this;simpa using this
 have hm1:Di m=I3 m:=by rw [hm0,hkm,hga,hta];rfl
 have g1:=fun h0=>Jk (f:=A4) (l:=m.ahead) (d:=Aa) h0
 have g2:=fun h0=>Jk (f:=A4) (l:=m.back) (d:=Aa) h0
 have g3:=fun h0=>Jk (f:=A5) (l:=m.take) (d:=[]) h0
 have g4:=fun h0=>Jk (f:=An) (l:=m.give) (d:=⟨[],0⟩) h0
 refine Z40 ?_;refine Z34 ?_;refine R.fin [1,139] ?_
 refine W.cond (fun ht139=>?_) (fun ht139=>?_)
 ·obtain ⟨hl1,hl2⟩:=Kf hct (by rw [ht139];simp)
  have hm:=hm1.trans (uw ht139)
  refine AAj ?_
  refine D.go (h:=Q.indexAddr (0) (A5 (m.take.getD 0 [])) (fun _=>g3 (by omega))) (hr:=?_)
  refine Z44 ?_
  refine D.go (h:=Q.indexAddr (0) (An (m.give.getD 0 ⟨[],0⟩)) (fun _=>g4 (by omega))) (hr:=?_)
  refine Z14 ?_;refine D.tail ?_;refine Z46 ?_;exact Z79
 have hm:=hm1.trans (uv ht139)
 have len3:((m.kind != 3)==false)=true→0<m.ahead.length∧0<m.take.length∧0<m.back.length∧0<m.give.length:=fun hB=>by
  obtain ⟨a1,a2⟩:=Kf hct (by simp at hB;rw [hB];rfl)
  omega
 have and3:∀{b:Bool},(((m.kind != 3)==false)&&b)=true→((m.kind != 3)==false)=true:=fun h=>um h
 refine Z5 ?_;refine W.drawQ [0,1,3,7,15,31,63,127,15,271,783,1807,3855,8191,16383,32767,65535,131071,262143,32767,557055,1605631,3702783,7897087,16285695,33554431,67108863,134217727,268435455] 25 Ac (by kernel_rfl) ?_;refine Nh ?_;refine Z75 ?_
 refine H.go (h:=Q.indexAddr (0) (A4 (m.ahead.getD 0 Aa)) (fun hB=>g1 (len3 hB).1)) (hr:=?_)
 refine Wk ?_
 refine H.go (h:=Q.indexAddr (0) (A5 (m.take.getD 0 [])) (fun hB=>g3 (len3 hB).2.1)) (hr:=?_)
 refine H.go ?_;refine H.build (places:=#[(0,1),(1,1),(2,3),(5,1)]) jU (fun w=>by simp) jZ ?_;refine H.call Tryz.call25 (fun hB=>AC7 (m.ahead.getD 0 Aa) (h.ahead.ok _ (Iz (len3 hB).1)) (m.take.getD 0 []) _) ?_;refine Wk ?_
 refine H.go (h:=Q.indexAddr (0) (A4 (m.back.getD 0 Aa)) (fun hB=>g2 (len3 (and3 hB)).2.2.1)) (hr:=?_)
 refine Wk ?_
 refine H.go (h:=Q.indexAddr (0) (An (m.give.getD 0 ⟨[],0⟩)) (fun hB=>g4 (len3 (and3 hB)).2.2.2)) (hr:=?_)
 refine Z75 ?_;refine H.build (places:=#[(0,1),(1,1),(2,3),(5,1)]) jU (fun w=>by simp) jZ ?_;refine D.tail ?_;refine G.call Tryz.call25 (fun hB=>AC7 (m.back.getD 0 Aa) (h.back.ok _ (Iz (len3 (and3 hB)).2.2.1)) (m.give.getD 0 ⟨[],0⟩).name _) ?_;refine G.go ?_;exact AAg

theorem c38 (l:List Mov) (h:OkMovs l) (Hp:List AObj):AFun Tryz.prog 38 [Ca l] Hp (Ao (Ke l)):=by
 refine ACall.body [.tmp 2] [0] Tryz.func38 Tryz.ntmps38 (fun d=>?_)
 refine Wm ?_;refine R.fin [0,6] ?_
 refine W.cond (fun ht6=>?_) (fun ht6=>?_)
 ·rw [List.length_map] at ht6
  have hm:Ke l=false:=by
   unfold Ke
   rw [show decide ((l.length:Int)≤8)=false by simp at ht6 ⊢;omega]
   rfl
  exact ru
 rw [List.length_map] at ht6
 have h8:decide ((l.length:Int)≤8)=true:=by simp at ht6 ⊢;omega
 have hl8:l.length≤8:=by simp at h8;omega
 refine ml ?_
 refine AW.loopC (α:=Nat) (fun x=>⟨19,A3 0 (Ca l) (A3 3 (A2 (x:Nat)) (fun _=>.any)),Hp,[],[],none⟩) (fun x=>x≤l.length∧∀(j:Nat) (y:Mov),j<x→l[j]? = some y→(!Di y)=false) (fun x=>l.length-x) (0) ⟨Nat.zero_le _,fun j y h=>by omega⟩ (StLe.of_eq (by simp)) rfl (fun x hx=>?_)
 refine Z49 ?_;refine R.fin [0,3,10] ?_
 refine W.cond (fun ht10=>?_) (fun ht10=>?_)
 ·have hlt:x<l.length:=by simpa using ht10
  refine Ln ?_
  refine R.go (h:=Q.indexAddr (x) (Dq l[x]) (fun _=>Ad hlt)) (hr:=?_)
  refine R.go ?_;refine R.call Tryz.call66 (c66 l[x] (h.each _ (List.getElem_mem hlt)) _) ?_;refine R.go ?_;refine R.fin [0,3,18] ?_
  refine W.cond (fun ht18=>?_) (fun ht18=>?_)
  ·have hm:Ke l=false:=by
    unfold Ke
    rw [List.all_eq_false.2 ⟨_,List.getElem_mem hlt,by simpa using ht18⟩]
    simp
   refine Z21 ?_;exact Z58
  refine Zk ?_;exact K.lpN (x+1) ⟨hlt,Ax hlt hx.2 ht18⟩ (by omega) (StCut.of_eq rfl)
 have hxe:l.length≤x:=by simpa using ht10
 have hm:Ke l=true:=by
  have h2:=F6 hxe hx.2
  rw [F8] at h2
  unfold Ke
  rw [h8]
  simpa using h2
 exact s8

theorem ux (c:List Col) (ms:List Mov):∀k,((B8 c ms k).map A8)[k]? = some (A8 (colsAt c ms k))
 | 0=>rfl
 | k+1=>by
  have h:=H5 c ms k
  rw [B8,List.map_append,List.getElem?_append_right (by rw [List.length_map];omega),List.length_map,h,Nat.sub_self]
  rfl
theorem cg {c:List Col} {ms:List Mov} {k:Nat} {m:Mov} (hk:ms[k]? = some m) (h:NS c ms k) (he:(Am (colsAt c ms k) m).2≠0):Bn c ms=(B8 c ms k,(Am (colsAt c ms k) m).2):=by
 unfold NS at h
 rw [h,I5 hk,Bn,if_pos (by simpa using he)]
 exact Prod.ext (Vo c ms k) rfl
theorem yq {c:List Col} {l:List Mov} (h:((!(Bf c)) || (!(Ke l)))=true):Fz c l=([],1):=if_neg (by unfold Iy;cases h1:Bf c<;>cases h2:Ke l<;>simp_all)
theorem uz {c:List Col} {l:List Mov} (h:((!(Bf c)) || (!(Ke l)))=false):Iy c l=true:=by unfold Iy;cases h1:Bf c<;>cases h2:Ke l<;>simp_all
theorem c15 (c:List Col) (hc:OkCols c) (l:List Mov) (h:OkMovs l) (Hp:List AObj):AFun Tryz.prog 15 [A8 c,Ca l] Hp (.tup [I6 (Fz c l).1,A2 (Fz c l).2]):=by
 refine ACall.body [.tmp 4,.tmp 5] [0,1] Tryz.func15 Tryz.ntmps15 (fun d=>?_)
 refine mr ?_;refine Z31 ?_;refine R.call Tryz.call37 (c37 c hc _) ?_;refine Nd ?_;refine G.call Tryz.call38 (fun hB=>c38 l h _) ?_;refine Z70 ?_;refine R.fin [0,1,17] ?_
 refine W.cond (fun ht17=>?_) (fun ht17=>?_)
 ·have hm:=yq ht17
  refine Z2 ?_;refine R.nilTmp 4 1 false ?_;refine R.go ?_;refine Z41 ?_;exact K.fin (V.two V.tmp V.tmp) ⟨by rw [hm];rfl,rfl⟩
 have hmay:=uz ht17
 obtain ⟨hmv,hl8⟩:=cf hmay h
 have hmr:Fz c l=Bn c l:=if_pos hmay
 refine L1 ?_;refine Z60 ?_;refine R.fin [1,6] ?_;refine Z31 ?_;refine R.fin [1,6,7] ?_
 refine AW.loopC (α:=Nat) (fun x=>⟨47,A3 1 (Ca l) (A3 6 (.slice true 1 ((B8 c l x).map A8)) (A3 7 (A2 (x:Nat)) (fun _=>.any))),Hp,[],[],none⟩) (fun x=>x≤l.length∧NS c l x) (fun x=>l.length-x) (0) ⟨Nat.zero_le _,yp⟩ (StLe.of_eq (by simp [B8])) rfl (fun x hx=>?_)
 refine Z49 ?_;refine R.fin [1,6,7,23] ?_
 refine W.cond (fun ht23=>?_) (fun ht23=>?_)
 ·have hlt:x<l.length:=by simpa using ht23
  refine Z38 ?_;refine W.drawQ [0,0,3,7,0,0,48,112,255,511,1023,1023,2047,8191] 13 Ac (by kernel_rfl) ?_;refine Z14 ?_
  refine D.go (h:=Q.indexAddr (x) (A8 (colsAt c l x)) (fun _=>ux c l x)) (hr:=?_)
  refine Z44 ?_
  refine D.go (h:=Q.indexAddr (x) (Dq l[x]) (fun _=>Ad hlt)) (hr:=?_)
  refine D.go ?_;refine D.call Tryz.call39 (c39 (colsAt c l x) (Eb hc (fun m hm=>h.each m hm) x) l[x] (hmv _ (List.getElem_mem hlt)) _) ?_;refine Nh ?_;refine Ux ?_;refine R.fin [1,6,7,8,9] ?_;refine Z8 ?_;refine R.fin [1,6,7,8,9,39] ?_
  refine W.cond (fun ht39=>?_) (fun ht39=>?_)
  ·have he:(Am (colsAt c l x) l[x]).2≠0:=by simpa using ht39
   have hm:Fz c l=(B8 c l x,(Am (colsAt c l x) l[x]).2):=hmr.trans (cg (List.getElem?_eq_getElem hlt) hx.2 he)
   refine Z43 ?_;refine Z41 ?_;refine Z33 ?_;exact AB6
  have he:(Am (colsAt c l x) l[x]).2=0:=by simpa using ht39
  refine ij ?_
  refine R.append jU Tryz.type22 ?_ ?_ ?_
  ·have hol:=H5 c l x;simp [Tryz.t22];omega
  ·have hol:=H5 c l x;simp [Tryz.t22];omega
  refine Ic ?_;refine R.fin [1,6,7] ?_;refine Z83 ?_;refine R.fin [1,6,7] ?_
  refine K.lpN (x+1) ⟨hlt,Vp (List.getElem?_eq_getElem hlt) hx.2 he⟩ (by omega) (StCut.of_eq ?_)
  rw [B8,Do (List.getElem?_eq_getElem hlt),List.map_append]
  rfl
 have hxe:x=l.length:=by have:=hx.1;simp at ht23;omega
 have hm:Fz c l=(B8 c l x,0):=by rw [hmr];subst hxe;exact ce hx.2
 refine Z40 ?_;refine Z20 ?_;refine Z16 ?_;exact AB6

theorem ka {n k:Nat} {o:Bool} {l:List Str}:Low n (.slice o k (l.map A5)):=by simp [or_imp,forall_and]
def I8 (c:List Col):List Expr:=c.map fun x=>Ap x.name
theorem Ff {n k:Nat} {o:Bool} {a:List Expr} {e:Expr}:Low n (.slice o k (a.map A4++[A4 e])):=low_slice.2 fun y hy=>by
 rcases List.mem_append.1 hy with h|h
 ·obtain ⟨m,_,rfl⟩:=List.mem_map.1 h
  exact Ae _ _
 rw [List.mem_singleton.1 h]
 exact Ae _ _
theorem Bd {n k:Nat} {o:Bool} {a:List Expr}:Low n (.slice o k (a.map A4)):=low_slice.2 fun y hy=>by
 obtain ⟨m,_,rfl⟩:=List.mem_map.1 hy
 exact Ae _ _
theorem c54 (c:List Col) (hc:c.length≤1048576) (Hp:List AObj):AFun Tryz.prog 54 [A8 c] Hp (Au (I8 c)):=by
 refine ACall.body [.tmp 2] [0] Tryz.func54 Tryz.ntmps54 (fun d=>?_)
 refine Z42 ?_;refine Z2 ?_;refine Ib ?_;refine Z66 ?_;refine R.nilSl 3 6 ?_;refine Z22 ?_;refine R.fin [3,6,7,8] ?_
 refine AW.loopC (α:=Nat) (fun x=>⟨20,A3 3 (.slice true 6 (((c.take x).map fun y=>Ap y.name).map A4)) (A3 6 (A8 c) (A3 7 (A2 (c.length:Nat)) (A3 8 (A2 (x:Nat)) (fun _=>.any)))),Hp,[],[],none⟩) (fun x=>x≤c.length) (fun x=>c.length-x) (0) (Nat.zero_le _) (StLe.of_eq (by simp)) rfl (fun x hx=>?_)
 refine Z2 ?_;refine R.fin [3,6,7,8,9] ?_
 refine W.condX (fun ht9=>?_) (fun ht9=>?_)
 ·have hlt:x<c.length:=by simpa using ht9
  refine Pa ?_
  refine R.go (h:=Q.indexAddr (x) (An c[x]) (fun _=>Ad hlt)) (hr:=?_)
  refine Ml ?_;refine R.fin [3,5,6,7,8] ?_;refine Z73 ?_;refine ww ?_;refine R.wk 15 _ (Kx c[x].name) ?_;refine K4 ?_
  refine R.append jU Tryz.type45 ?_ ?_ ?_
  ·simp only [List.length_map,List.length_take,List.length_cons,List.length_nil,Tryz.t45];omega
  ·simp only [List.length_map,List.length_take,List.length_cons,List.length_nil,Tryz.t45];omega
  refine Ic ?_;refine R.fin [3,6,7,8] ?_;refine Pf ?_;refine R.fin [3,6,7,8] ?_;refine iu ?_
  rw [Fi hlt,List.map_append]
  exact StCut.take (own:=[]) (fun _=>.refl _) (by repeat (first|exact As|refine Ar (by first|(simp [or_imp,forall_and];done)|exact Ff|exact C8) ?_)) (by simp) (by simp)
 have hxe:c.length≤x:=by simpa using ht9
 refine Z23 ?_;refine Wn ?_;exact K.fin (V.one V.tmp) ⟨by unfold I8;rw [List.take_of_length_le hxe],rfl⟩ (hlow:=Bd)

/-! fuse: trees in columns' places. -/
mutual
def putF (c:List Col) (l:List Expr):Expr→Option Expr
 | .mk o t v k=>if o==2 then (if Af t c<0 then none else some (l.getD (Af t c).toNat Aa)) else (H6 c l k).map fun k'=>.mk o t v k'
def H6 (c:List Col) (l:List Expr):List Expr→Option (List Expr)
  | []=>some []
  | e::r=>match putF c l e with
    | none=>none
    | some y=>(H6 c l r).map fun s=>y::s
 end
/-- fuse.Over. -/
def Ci (x:Expr) (c:List Col) (l:List Expr):Expr×Int:=
 if (((!(Ah x)) || l.any Dn) || !(L8 c)) || ((c.length:Int) != (l.length:Int)) then (Aa,1)
 else match putF c l x with
  | none=>(Aa,9)
  | some y=>if Ah y then (y,0) else (Aa,3)
/-- fuse.over: the trees, till one goes wrong. -/
def B1 (c:List Col) (by_:List Expr):List Expr→List Expr×Int
 | []=>([],0)
 | x::r=>if (Ci x c by_).2 != 0 then ([],(Ci x c by_).2) else if (B1 c by_ r).2 != 0 then ([],(B1 c by_ r).2) else ((Ci x c by_).1::(B1 c by_ r).1,0)
/-- fuse.stay. -/
def C6 (take:List Str):List Col→List Expr→List Expr
 | y::c,x::l=>if take.contains y.name then C6 take c l else x::C6 take c l
 | _,_=>[]
theorem Gr {take:List Str}:∀{c:List Col} {l:List Expr},c.length=l.length→(C6 take c l).length=(B5 c take).length
 | [],[],_=>rfl
 | [],_::_,h=>by simp at h
 | _::_,[],h=>by simp at h
 | y::c,x::l,h=>by
  have ih:=Gr (take:=take) (c:=c) (l:=l) (by simpa using h)
  unfold C6 B5
  by_cases hc:take.contains y.name=true
  ·rw [if_pos hc]
   simp only [List.filter_cons,hc,Bool.not_true,Bool.false_eq_true,if_false]
   exact ih
  rw [if_neg hc]
  have hc':take.contains y.name=false:=by simpa using hc
  simp only [List.filter_cons,hc',Bool.not_false,if_true,List.length_cons]
  exact congrArg (·+1) ih
theorem Gs {c:List Col} {by_:List Expr}:∀(l:List Expr),(B1 c by_ l).2=0→(B1 c by_ l).1.length=l.length
 | [],_=>rfl
 | x::r,h=>by
  unfold B1 at h ⊢
  split at h
  ·rename_i h1
   exact xi
  rename_i h1
  rw [if_neg h1]
  split at h
  ·rename_i h2
   exact absurd h (by simpa using h2)
  rename_i h2
  rw [if_neg h2]
  have:=Gs (c:=c) (by_:=by_) r (by simpa using h2)
  simp [this]
theorem px {s:Str} {y x:Expr} (h:((x.op==2)&&(x.text==s))=true):Ez s y x=y:=by rw [dh,if_pos h]
theorem ep {s:Str} {y x:Expr} (h:((x.op==2)&&(x.text==s))=false):Ez s y x=.mk x.op x.text x.val (x.kids.map (Ez s y)):=by rw [dh,if_neg (by rw [h];simp)]
theorem M0 (o:Int) (t:Str) (v:Val) (k:List Expr):A4 (.mk o t v k)=.agg [A2 o,.v (sv t),A2 v.kind,A2 v.n,.v (sv v.s),.slice false 6 (k.map A4)]:=by rw [A7];rfl
theorem py {α β:Type} {f:α→β} {l:List α} {x:Nat} (h:x<l.length):(l.take (x+1)).map f=(l.take x).map f++[f l[x]]:=by rw [List.take_succ_eq_append_getElem h,List.map_append];rfl
theorem pz {n:Nat} {x:Expr} {o:Bool} {l:List Expr}:ObjLow n (.cells 45 [A2 x.op,.v (sv x.text),A2 x.val.kind,A2 x.val.n,.v (sv x.val.s),.slice o 6 (l.map A4)]):=by
 show ∀z∈[A2 x.op,AV.v (sv x.text),A2 x.val.kind,A2 x.val.n,AV.v (sv x.val.s),AV.slice o 6 (l.map A4)],Low n z
 intro z hz
 simp only [List.mem_cons,List.not_mem_nil,or_false] at hz
 rcases hz with rfl|rfl|rfl|rfl|rfl|rfl
 all_goals first|exact Bj|simp
theorem AEc {α:Type} {P:α→Prop} {a b:α} (h1:P a) (h2:P b):∀x∈[a,b],P x:=by
 intro x hx
 simp only [List.mem_cons,List.not_mem_nil,or_false] at hx
 rcases hx with rfl|rfl
 ·exact h1
 exact h2
theorem c51 (s:Str) (y:Expr):∀(n:Nat) (x:Expr),okE n x→∀Hp:List AObj,AFun Tryz.prog 51 [A4 x,A5 s,A4 y] Hp (A4 (Ez s y x)):=by
 intro n
 induction n with
 | zero=>exact fun x h=>h.elim
 | succ n ih =>
 intro x hok Hp
 refine ACall.body [.cell 6 45] [0,1,2] Tryz.func51 Tryz.ntmps51 (fun d=>?_)
 refine Z1 ?_;refine Lp ?_;refine R.fin [1,3,5,6] ?_;refine Z8 ?_;refine Z62 ?_;refine R.go ?_;refine R.fin [1,3,5,6,17] ?_
 refine W.cond (fun ht17=>?_) (fun ht17=>?_)
 ·refine Z98 ?_;refine i6 ?_;exact K.fin (V.one (V.cellN jA jS)) ⟨by rw [px ht17,A7],rfl⟩ (hlow:=low_agg _)
 refine Z5 ?_;refine Z43 ?_;refine ww ?_;refine Z17 ?_;refine R.fin [1,3,5,6,7] ?_;refine Z66 ?_;refine R.nilCell 1 5 6 ?_;refine R.go ?_;refine R.fin [1,3,5,6,7,8] ?_
 refine AW.loopC (α:=Nat) (fun i=>⟨47,A3 1 (A5 s) (A3 3 (.ro (Bi x)) (A3 5 (.ro (Bi y)) (A3 6 (.ptr (oid Hp.length 0) 0) (A3 7 (.ptr (oid Hp.length 1) 0) (A3 8 (A2 (i:Nat)) (fun _=>.any)))))),Hp,[.cells 45 [A2 0,A5 [],A2 0,A2 0,A5 [],.nil],.cells 45 [A2 x.op,.v (sv x.text),A2 x.val.kind,A2 x.val.n,.v (sv x.val.s),.slice true 6 (((x.kids.take i).map (Ez s y)).map A4)]],[],none⟩) (fun i=>i≤x.kids.length) (fun i=>x.kids.length-i) (0) (Nat.zero_le _) (StLe.of_eq (by simp)) rfl (fun i hi=>?_)
 refine L0 ?_;refine R.fin [1,3,5,6,7,8,30] ?_
 refine W.cond (fun ht30=>?_) (fun ht30=>?_)
 ·have hlt:i<x.kids.length:=by simpa using ht30
  have hkl:=hok.2.1
  refine Z38 ?_;refine W.drawY0 [0,1,0,4,0,28,60,0,0,508,1020,2047,4095,8191] [1] [.q 1 [] [0],.s [34] (some 0) [] [],.q 9 [] []] (fun _=>Hp) (fun B=>[.cells 45 [A2 0,A5 [],A2 0,A2 0,A5 [],.nil],.cells 45 (if B 0=true then [A2 x.op,.v (sv x.text),A2 x.val.kind,A2 x.val.n,.v (sv x.val.s),.slice false 6 (((x.kids.take i).map (Ez s y)).map A4)] else [A2 x.op,.v (sv x.text),A2 x.val.kind,A2 x.val.n,.v (sv x.val.s),.slice true 6 (((x.kids.take i).map (Ez s y)).map A4)])]) Ac (by kernel_rfl) rfl rfl (fun _=>rfl) ?_
  apply Y.q
  case h1 =>
   intro B hT hF
   exact Z90
  case hTF=>decide
  refine Y.loadOwnT (u:=Hp.length) (n:=1) (t':=45) (cs:=[A2 x.op,.v (sv x.text),A2 x.val.kind,A2 x.val.n,.v (sv x.val.s),.slice true 6 (((x.kids.take i).map (Ez s y)).map A4)]) (cs':=[A2 x.op,.v (sv x.text),A2 x.val.kind,A2 x.val.n,.v (sv x.val.s),.slice false 6 (((x.kids.take i).map (Ez s y)).map A4)]) Tryz.isAgg43 (fun B hB=>⟨rfl,by simp only [hB];rfl,by simp [upd],rfl⟩) ?_
  apply Y.q
  case h1 =>
   intro B hT hF
   refine Z44 ?_
   refine D.go (h:=Q.indexAddr (i) (A4 x.kids[i]) (fun _=>Ad hlt)) (hr:=?_)
   refine Z44 ?_;refine D.call Tryz.call51 (ih x.kids[i] (hok.2.2 _ (List.getElem_mem hlt)) _) ?_;exact Z47
  case hTF=>decide
  refine Y.tail (tn:=[1]) (O:=[.cells 45 [A2 0,A5 [],A2 0,A2 0,A5 [],.nil],.cells 45 [A2 x.op,.v (sv x.text),A2 x.val.kind,A2 x.val.n,.v (sv x.val.s),.slice false 6 (((x.kids.take i).map (Ez s y)).map A4)]]) ?_
  refine R.append jU Tryz.type45 ?_ ?_ ?_
  ·simp only [List.length_map,List.length_take,List.length_cons,List.length_nil,Tryz.t45];omega
  ·simp only [List.length_map,List.length_take,List.length_cons,List.length_nil,Tryz.t45];omega
  refine R.go ?_;refine R.storeOwnT jS ?_;refine R.fin [1,3,5,6,7,8] ?_;refine Z83 ?_;refine R.fin [1,3,5,6,7,8] ?_
  refine K.lpN (i+1) hlt (by omega) (StCut.of_eq ?_)
  rw [py hlt,List.map_append,List.map_cons,List.map_nil,A7]
  rfl
 have hxe:x.kids.length≤i:=by simpa using ht30
 refine Z40 ?_;refine Z98 ?_;refine Z88 ?_;exact K.fin (V.one (V.cellN jA jS)) ⟨by rw [ep ht17,M0,List.take_of_length_le hxe],rfl⟩ (hlow:=by have:=Ae Hp.length (Ez s y x);rw [ep ht17,M0] at this;rw [List.take_of_length_le hxe];exact this)

def Y9 (c:List Col) (l:List Expr) (e:Expr):Expr:=(putF c l e).getD Aa
theorem Tw {c:List Col} {l:List Expr}:∀{k:List Expr},(∀(j:Nat) (y:Expr),k[j]? = some y→(!(putF c l y).isSome)=false)→H6 c l k=some (k.map (Y9 c l))
 | [],_=>rfl
 | e::r,h=>by
  have h1:=h 0 e rfl
  have h2:=Tw (c:=c) (l:=l) (k:=r) (fun j y hy=>h (j+1) y hy)
  rw [H6]
  cases he:putF c l e with
  | none=>rw [he] at h1;cases h1
  | some z=>rw [h2,List.map_cons,show Y9 c l e=z by unfold Y9;rw [he];rfl];rfl
theorem Tx {c:List Col} {l:List Expr}:∀{k:List Expr} {e:Expr},e∈k→putF c l e=none→H6 c l k=none
 | a::r,e,hm,h=>by
  rw [H6]
  rcases List.mem_cons.1 hm with rfl|hm
  ·rw [h]
  have:=Tx hm h
  cases ha:putF c l a with
  | none=>rfl
  | some z=>rw [this];rfl
theorem Rh {c:List Col} {l:List Expr} {x:Expr} (h:(x.op==2)=true):putF c l x=if Af x.text c<0 then none else some (l.getD (Af x.text c).toNat Aa):=by
 cases x;rw [putF];exact if_pos h
theorem Ri {c:List Col} {l:List Expr} {x:Expr} (h:(x.op==2)=false):putF c l x=(H6 c l x.kids).map fun k'=>.mk x.op x.text x.val k':=by
 cases x;rw [putF];exact if_neg (fun e=>Bool.false_ne_true (h.symm.trans e))
theorem Rj {c:List Col} {l:List Expr} {s:Str} (hl:c.length=l.length) (hf:¬Af s c<0):(l.map A4)[(Af s c).toNat]? = some (A4 (l.getD (Af s c).toNat Aa))∧(Af s c).toNat<l.length∧0≤Af s c:=by
 obtain ⟨j,hj,hjl⟩:=Dm hf
 rw [hj,Int.toNat_natCast]
 refine ⟨?_,by omega,by omega⟩
 rw [List.getElem?_map,List.getElem?_eq_getElem (by omega),List.getD_eq_getElem?_getD,List.getElem?_eq_getElem (by omega)]
 rfl
theorem c46 (c:List Col) (hc:OkCols c) (l:List Expr) (hl:c.length=l.length):∀(n:Nat) (x:Expr),okE n x→∀Hp:List AObj,AFun Tryz.prog 46 [A4 x,A8 c,Au l] Hp (.tup [A4 ((putF c l x).getD Aa),Ao (putF c l x).isSome]):=by
 intro n
 induction n with
 | zero=>exact fun e h=>h.elim
 | succ n ih =>
 intro x hok Hp
 refine ACall.body [.cell 6 45,.tmp 7] [0,1,2] Tryz.func46 Tryz.ntmps46 (fun d=>?_)
 refine Zm ?_;refine Lp ?_;refine R.go ?_;refine R.fin [1,2,3,6] ?_;refine Z34 ?_;refine R.fin [1,2,3,6,16] ?_
 refine W.cond (fun ht16=>?_) (fun ht16=>?_)
 ·have hpn:=Rh (c:=c) (l:=l) ht16
  refine Z20 ?_;refine R.call Tryz.call59 (c59 c hc x.text _) ?_;refine R.go ?_;refine R.fin [2,6,8] ?_;refine Z8 ?_;refine R.fin [2,6,8,22] ?_
  refine W.cond (fun ht22=>?_) (fun ht22=>?_)
  ·have hm:putF c l x=none:=by rw [hpn,if_pos (by simpa using ht22)]
   refine ic ?_;refine Z37 ?_;refine K.thR ?_;exact AB7
  have hneg:¬Af x.text c<0:=by simpa using ht22
  have hm:putF c l x=some (l.getD (Af x.text c).toNat Aa):=by rw [hpn,if_neg hneg]
  refine Nj ?_
  obtain ⟨_,hg1,hg2⟩:=Rj hl hneg
  refine R.go (h:=Q.indexAddr ((Af x.text c).toNat) (A4 (l.getD (Af x.text c).toNat Aa)) (fun _=>(Rj hl hneg).1)) (hr:=?_)
  refine Z97 ?_;refine Z45 ?_;refine Z37 ?_;exact K.fin (V.two (V.cellN jA jS) V.tmp) ⟨by rw [hm];show _=AV.tup [A4 (l.getD _ Aa),Ao true];rw [A7]<;>rfl,rfl⟩ (hlow:=by simp [or_imp,forall_and,Ae])
 have hpk:=Ri (c:=c) (l:=l) ht16
 refine Z85 ?_;refine R.fin [1,2,3,6,9] ?_;refine Z98 ?_;refine R.fin [1,2,3,6,9] ?_;refine Z66 ?_;refine R.nilCell 0 5 6 ?_;refine Z22 ?_;refine R.fin [1,2,3,6,31,32,33] ?_
 refine AW.loopC (α:=Nat) (fun i=>⟨55,A3 1 (A8 c) (A3 2 (Au l) (A3 3 (.ptr (oid Hp.length 0) 0) (A3 6 (.ptr (oid Hp.length 1) 0) (A3 31 (.slice false 6 (x.kids.map A4)) (A3 32 (A2 (x.kids.length:Nat)) (A3 33 (A2 (i:Nat)) (fun _=>.any))))))),Hp,[.cells 45 [A2 x.op,A5 x.text,A2 x.val.kind,A2 x.val.n,A5 x.val.s,.slice true 6 (((x.kids.take i).map (Y9 c l)).map A4)],.cells 45 [A2 0,A5 [],A2 0,A2 0,A5 [],.nil]],[],none⟩) (fun i=>i≤x.kids.length∧∀(j:Nat) (y:Expr),j<i→x.kids[j]? = some y→(!(putF c l y).isSome)=false) (fun i=>x.kids.length-i) (0) ⟨Nat.zero_le _,fun j y h=>by omega⟩ (StLe.of_eq (by simp)) rfl (fun i hi=>?_)
 refine Z2 ?_;refine R.fin [1,2,3,6,31,32,33,34] ?_
 refine W.condX (fun ht34=>?_) (fun ht34=>?_)
 ·have hlt:i<x.kids.length:=by simpa using ht34
  have hkl:=hok.2.1
  refine Pa ?_
  refine R.go (h:=Q.indexAddr (i) (A4 x.kids[i]) (fun _=>Ad hlt)) (hr:=?_)
  refine Ml ?_;refine R.fin [1,2,3,6,11,31,32,33] ?_;refine Z20 ?_;refine R.call Tryz.call46 (ih x.kids[i] (hok.2.2 _ (List.getElem_mem hlt)) _) ?_;refine Uy ?_;refine R.fin [1,2,3,6,12,13,31,32,33] ?_;refine Z8 ?_;refine R.fin [1,2,3,6,12,31,32,33,45] ?_
  refine W.cond (fun ht45=>?_) (fun ht45=>?_)
  ·have hm:putF c l x=none:=by rw [hpk,Tx (List.getElem_mem hlt) (by simpa using ht45)];rfl
   refine ic ?_;refine Z37 ?_;refine Z33 ?_;exact AB7
  refine Z5 ?_;refine Z63 ?_;refine R.loadOwnT jA ?_;refine Z52 ?_
  refine R.append jU Tryz.type45 ?_ ?_ ?_
  ·simp only [List.length_map,List.length_take,List.length_cons,List.length_nil,Tryz.t45];omega
  ·simp only [List.length_map,List.length_take,List.length_cons,List.length_nil,Tryz.t45];omega
  refine R.go ?_;refine R.storeOwnT jS ?_;refine R.fin [1,2,3,6,31,32,33] ?_;refine Pf ?_;refine R.fin [1,2,3,6,31,32,33] ?_;refine K.lpN (i+1) ⟨hlt,Ax hlt hi.2 ht45⟩ (by omega) ?_
  have hlo:=fun m=>pz (n:=m) (x:=x) (o:=true) (l:=(x.kids.take i).map (Y9 c l)++[Y9 c l x.kids[i]])
  simp only [List.map_append,List.map_cons,List.map_nil,A7] at hlo
  simp only [show Tryz.t45.size=6 from rfl]
  rw [Fi hlt,List.map_append,List.map_cons,List.map_nil,A7]
  exact StCut.take (fun _=>.refl _) (by repeat (first|exact As|refine Ar (by first|exact Bd|exact C8|(simp [oid,Ae];done)|(simp [oid]<;>omega)) ?_)) (AEc (hlo _) Vi) (by simp)
 have hxe:x.kids.length≤i:=by simpa using ht34
 have hm:putF c l x=some (.mk x.op x.text x.val (x.kids.map (Y9 c l))):=by rw [hpk,Tw (fun j y hy=>hi.2 j y (by have:=(List.getElem?_eq_some_iff.1 hy).1;omega) hy)];rfl
 refine Z23 ?_;refine Z98 ?_;refine Z45 ?_;refine AW.ret ?_;exact K.fin (V.two (V.cellN jA jS) V.tmp) ⟨by rw [hm];show _=AV.tup [A4 (.mk x.op x.text x.val (x.kids.map (Y9 c l))),Ao true];rw [M0,List.take_of_length_le hxe],rfl⟩ (hlow:=by simp [or_imp,forall_and];intro y hy;obtain ⟨e,_,rfl⟩:=List.mem_map.1 (List.mem_of_mem_take hy);exact Ae _ _)

theorem M1 {c:List Col} {l:List Expr}:∀{k s:List Expr},H6 c l k=some s→s.length=k.length∧∀y∈s,∃e∈k,putF c l e=some y
 | [],s,h=>by
  rw [H6] at h
  injection h with h
  subst h
  exact ⟨rfl,fun y hy=>by cases hy⟩
 | a::r,s,h=>by
  rw [H6] at h
  cases ha:putF c l a with
  | none=>rw [ha] at h;cases h
  | some z =>
   rw [ha] at h
   simp only at h
   cases hr:H6 c l r with
   | none=>rw [hr] at h;cases h
   | some t =>
    rw [hr] at h
    injection h with h
    subst h
    obtain ⟨h1,h2⟩:=M1 hr
    refine ⟨by simp [h1],fun y hy=>?_⟩
    rcases List.mem_cons.1 hy with rfl|hy
    ·exact ⟨a,List.mem_cons_self,ha⟩
    obtain ⟨e,he,hp⟩:=h2 y hy
    exact ⟨e,List.mem_cons_of_mem _ he,hp⟩
theorem er {c:List Col} {l:List Expr} {m:Nat} (hl:∀e∈l,okE (m+1) e) (hc:c.length=l.length):∀(n:Nat) (x y:Expr),okE n x→putF c l x=some y→okE (m+1+n) y
 | 0,x,y,h,_=>h.elim
 | n+1,x,y,h,hp=>by
  cases h2:x.op==2 with
  | true =>
   rw [Rh h2] at hp
   split at hp
   ·cases hp
   rename_i hf
   injection hp with hp
   subst hp
   obtain ⟨j,hj,hjl⟩:=Dm hf
   rw [hj,Int.toNat_natCast,List.getD_eq_getElem?_getD,List.getElem?_eq_getElem (by omega)]
   exact Dl (by omega) (hl _ (List.getElem_mem (by omega)))
  | false =>
   rw [Ri h2] at hp
   cases hk:H6 c l x.kids with
   | none=>rw [hk] at hp;cases hp
   | some s =>
    rw [hk] at hp
    injection hp with hp
    subst hp
    obtain ⟨h3,h4⟩:=M1 hk
    refine ⟨h.1,by show s.length≤_;rw [h3];exact h.2.1,fun z hz=>?_⟩
    obtain ⟨e,he,hpe⟩:=h4 z hz
    exact er hl hc n e z (h.2.2 e he) hpe
theorem yr {x:Expr} {c:List Col} {l:List Expr} (h:((((!(Ah x)) || l.any Dn) || !(L8 c)) || ((c.length:Int) != (l.length:Int)))=true):Ci x c l=(Aa,1):=if_pos h
theorem yt {x:Expr} {c:List Col} {l:List Expr} (h:((((!(Ah x)) || l.any Dn) || !(L8 c)) || ((c.length:Int) != (l.length:Int)))=false):Ci x c l=match putF c l x with
  | none=>(Aa,9)
  | some y=>if Ah y then (y,0) else (Aa,3):=if_neg (by rw [h];simp)
theorem c23 (x:Expr) (hok:okE 61 x) (c:List Col) (hc:OkCols c) (l:List Expr) (hll:l.length≤1048576) (hlo:∀e∈l,okE 61 e) (Hp:List AObj):AFun Tryz.prog 23 [A4 x,A8 c,Au l] Hp (.tup [A4 (Ci x c l).1,A2 (Ci x c l).2]):=by
 refine ACall.body [.cell 6 45,.tmp 7] [0,1,2] Tryz.func23 Tryz.ntmps23 (fun d=>?_)
 refine mv ?_;refine R.go ?_;refine R.fin [1,2,3,6] ?_;refine Z31 ?_;refine R.call Tryz.call44 (c44 61 x hok (by decide) _) ?_;refine Nd ?_;refine G.call Tryz.call45 (fun hB=>c45 l hll hlo _) ?_;refine Nd ?_;refine G.call Tryz.call41 (fun hB=>c41 c hc _) ?_;refine Uz ?_;refine Z70 ?_;refine R.fin [1,2,3,6,28] ?_
 refine W.cond (fun ht28=>?_) (fun ht28=>?_)
 ·simp only [List.length_map] at ht28
  have hm:=yr ht28
  refine rm ?_;refine R.nilCell 0 5 6 ?_;refine Z45 ?_;exact Z74
 simp only [List.length_map] at ht28
 have hm0:=yt ht28
 have hcl:c.length=l.length:=by simp only [Bool.or_eq_false_iff,bne_eq_false_iff_eq] at ht28;have:=ht28.2;omega
 refine Z85 ?_;refine R.call Tryz.call46 (c46 c hc l hcl 61 x hok _) ?_;refine Uy ?_;refine R.fin [6,8,9] ?_;refine Z15 ?_;refine Z20 ?_;refine R.fin [6,8,37] ?_
 refine W.cond (fun ht37=>?_) (fun ht37=>?_)
 ·have hp:putF c l x=none:=by simpa using ht37
  have hm:Ci x c l=(Aa,9):=by rw [hm0,hp]
  refine rm ?_;refine R.nilCell 0 5 6 ?_;refine Z45 ?_;exact zo
 obtain ⟨y,hp⟩:∃y,putF c l x=some y:=by
  cases h:putF c l x with
  | none=>rw [h] at ht37;cases ht37
  | some y=>exact ⟨y,rfl⟩
 have hyo:okE 122 ((putF c l x).getD Aa):=by rw [hp];exact er (m:=60) hlo hcl 61 x y hok hp
 refine Z2 ?_;refine R.call Tryz.call44 (c44 122 ((putF c l x).getD Aa) hyo (by decide) _) ?_;refine Z0 ?_;refine R.fin [6,8,41] ?_
 refine W.cond (fun ht41=>?_) (fun ht41=>?_)
 ·have hm:Ci x c l=(Aa,3):=by
   rw [hp] at ht41
   rw [hm0,hp]
   exact if_neg (by simpa using ht41)
  refine rm ?_;refine R.nilCell 0 5 6 ?_;refine Z45 ?_;exact zo
 have hm:Ci x c l=(y,0):=by
  rw [hp] at ht41
  rw [hm0,hp]
  exact if_pos (by simpa using ht41)
 refine Z18 ?_;refine Z98 ?_;refine Z45 ?_;refine AW.ret ?_;exact K.fin (V.two (V.cellN jA jS) V.tmp) ⟨by rw [hm,hp];show _=AV.tup [A4 y,A2 0];rw [A7];rfl,rfl⟩ (hlow:=by simp [or_imp,forall_and,Ae])

set_option maxRecDepth 8000
/-! The words of a print. -/
/-! What a tree comes to: eval's model. -/
abbrev Rs:=Val×Int
def Rk (e:Int):Rs:=(noV,e)
def I9 (r:Rs):Rs:=if (r.2==0)&&(r.1.kind != 0)&&(r.1.kind != 3) then Rk 10 else r
def q8 (strong:Val) (a b:Rs):Rs:=if ((I9 a).2 != 0) || ((I9 a).1==strong) then I9 a else if (((I9 b).2 != 0) || ((I9 b).1==strong)) || ((I9 a).1.kind != 0) then I9 b else ((I9 a).1,0)
def ifW:Str:=[105,102]
def v6:Str:=[110,118,108]
def Mx:Str:=[105,115,110,117,108,108]
def AC8 (t:Str) (a b c:Rs):Rs:=
 if t==ifW then (if (I9 a).2 != 0 then Rk (I9 a).2 else if (I9 a).1==Ws true then b else c)
 else if a.2 != 0 then Rk a.2 else if t==Mx then (Ws (a.1.kind==0),0) else if a.1.kind != 0 then (a.1,0) else b
def AEd (strict:List Val→Rs) (l:List Rs):Rs:=match l.find? (fun q=>q.2 != 0) with|some q=>Rk q.2|none=>if l.any (fun q=>q.1.kind==0) then (noV,0) else strict (l.map (·.1))
def Rl (c:List Col) (l:List Val) (t:Str):Rs:=if Af t c<0 then Rk 9 else (l.getD (Af t c).toNat noV,0)
def orW:Str:=[111,114]
def AEe:Str:=[97,110,100]
/-- A node, of what its kids come to; what a strict node comes to is a parameter. -/
def wj (strict:Int→Str→List Val→Rs) (c:List Col) (l:List Val) (o:Int) (t:Str) (v:Val) (ks:List Rs):Rs:=
 if o==1 then (v,0) else if o==2 then Rl c l t
 else if (o==5)&&(t==orW) then q8 (Ws true) (ks.getD 0 (noV,0)) (ks.getD 1 (noV,0))
 else if (o==5)&&(t==AEe) then q8 (Ws false) (ks.getD 0 (noV,0)) (ks.getD 1 (noV,0))
 else if (o==6)&&(((t==ifW) || (t==v6)) || (t==Mx)) then AC8 t (ks.getD 0 (noV,0)) (ks.getD 1 (noV,0)) (ks.getD 2 (noV,0))
 else AEd (strict o t) ks
mutual
def Oy (strict:Int→Str→List Val→Rs) (c:List Col) (l:List Val):Expr→Rs
 | .mk o t v k=>wj strict c l o t v (Ty strict c l k)
def Ty (strict:Int→Str→List Val→Rs) (c:List Col) (l:List Val):List Expr→List Rs
  | []=>[]
  | e::r=>Oy strict c l e::Ty strict c l r
 end
/-! A tree in a column's place comes to what its value would there. -/
mutual
theorem eval_put {f:Int→Str→List Val→Rs} {c:List Col} {l m:List Val} {s:Str} {y:Expr} (hs:Rl c m s=Oy f c l y) (ho:∀t,t≠s→Rl c m t=Rl c l t):∀x:Expr,Oy f c l (Ez s y x)=Oy f c m x
 | .mk o t v k=>by
  rw [Ez]
  split
  ·rename_i h
   rw [Bool.and_eq_true,beq_iff_eq,beq_iff_eq] at h
   obtain ⟨rfl,rfl⟩:=h
   rw [←hs,Oy]
   rfl
  rename_i h
  rw [Oy,Oy,Tz hs ho k]
  unfold wj
  by_cases h2:(o==2)=true
  ·have:t≠s:=fun e=>h (by rw [h2,e];simp)
   rw [ho t this]
  rw [if_neg h2,if_neg h2]
theorem Tz {f:Int→Str→List Val→Rs} {c:List Col} {l m:List Val} {s:Str} {y:Expr} (hs:Rl c m s=Oy f c l y) (ho:∀t,t≠s→Rl c m t=Rl c l t):∀k:List Expr,Ty f c l (Sg s y k)=Ty f c m k
  | []=>rfl
  | e::r=>by rw [Sg,Ty,Ty,eval_put hs ho e,Tz hs ho r]
 end
/-! Who is not Fw plays no part. -/
/-! What a strict node comes to. -/
/-! Values are ACk, and their numbers have 64 bits. -/
/-! A text between marks. -/
set_option maxRecDepth 4000
theorem kb (e:Expr):(B4 e).length≤sizeE e:=by
 have h1:=X9 (Ha e) []
 rw [ji] at h1
 have h2:(B4 e).length=((Ha e).foldl E0 []).length:=rfl
 simp only [List.length_nil] at h1
 omega
set_option maxRecDepth 8000
/-! Who decides decides: the law's sources, columns and truths. -/
/-! Rows. -/
/-! Rows that differ in what is not Fw. -/
/-! Who has a kind comes to it. -/
theorem Rm {t:Str} {n:Nat} (h:B6 t=(n:Int)):(t=[108,101,110]∧n=1)∨(t=[115,116,114]∧n=1)∨(t=[110,117,109]∧n=1)∨(t=Mx∧n=1)∨(t=v6∧n=2)∨(t=[108,101,102,116]∧n=2)∨(t=[114,105,103,104,116]∧n=2)∨(t=ifW∧n=3):=by
 by_cases hm:t∈arityList.map (·.1)
 ·have ha:∀s∈arityList.map (·.1),(s=[108,101,110]∧B6 s=1)∨(s=[115,116,114]∧B6 s=1)∨(s=[110,117,109]∧B6 s=1)∨(s=Mx∧B6 s=1)∨(s=v6∧B6 s=2)∨(s=[108,101,102,116]∧B6 s=2)∨(s=[114,105,103,104,116]∧B6 s=2)∨(s=ifW∧B6 s=3):=by
   have:((arityList.map (·.1)).all fun s=>decide ((s=[108,101,110]∧B6 s=1)∨(s=[115,116,114]∧B6 s=1)∨(s=[110,117,109]∧B6 s=1)∨(s=Mx∧B6 s=1)∨(s=v6∧B6 s=2)∨(s=[108,101,102,116]∧B6 s=2)∨(s=[114,105,103,104,116]∧B6 s=2)∨(s=ifW∧B6 s=3)))=true:=by kernel_rfl
   exact fun s hs=>of_decide_eq_true (List.all_eq_true.1 this s hs)
  have:=ha t hm
  rw [h] at this
  rcases this with ⟨e,h2⟩|⟨e,h2⟩|⟨e,h2⟩|⟨e,h2⟩|⟨e,h2⟩|⟨e,h2⟩|⟨e,h2⟩|⟨e,h2⟩
  ·exact .inl ⟨e,by omega⟩
  ·exact .inr (.inl ⟨e,by omega⟩)
  ·exact .inr (.inr (.inl ⟨e,by omega⟩))
  ·exact .inr (.inr (.inr (.inl ⟨e,by omega⟩)))
  ·exact .inr (.inr (.inr (.inr (.inl ⟨e,by omega⟩))))
  ·exact .inr (.inr (.inr (.inr (.inr (.inl ⟨e,by omega⟩)))))
  ·exact .inr (.inr (.inr (.inr (.inr (.inr (.inl ⟨e,by omega⟩))))))
  exact .inr (.inr (.inr (.inr (.inr (.inr (.inr ⟨e,by omega⟩))))))
 have h1:B6 t = -1:=by
  unfold B6
  rw [List.find?_eq_none.2 fun p hp=>by
   simp only [beq_iff_eq]
   rintro rfl
   exact hm (List.mem_map.2 ⟨p,hp,rfl⟩)]
 omega
/-! The print of a tree, and its words. -/
def Jn (least:Nat) (x:Expr) (s:Str):Str:=if least≤levE x then s else 40::(s++[41])
def Fl:List Str→Str
 | []=>[]
 | s::r=>44::32::(s++Fl r)
def My (o:Int) (t:Str) (v:Val) (k:List Expr) (ss:List Str):Str:=
 if o==1 then En v else if o==2 then t
 else if o==3 then 45::Jn 6 (k.getD 0 Aa) (ss.getD 0 [])
 else if o==4 then jt++32::Jn 2 (k.getD 0 Aa) (ss.getD 0 [])
 else if o==5 then Jn (Fy (Av t).toNat) (k.getD 0 Aa) (ss.getD 0 [])++32::(t++32::Jn ((Av t).toNat+1) (k.getD 1 Aa) (ss.getD 1 []))
 else t++40::((Fl ss).drop 2++[41])
mutual
def Ai:Expr→Str
 | .mk o t v k=>My o t v k (Kh k)
def Kh:List Expr→List Str
  | []=>[]
  | e::r=>Ai e::Kh r
 end
theorem M2:∀l,Kh l=l.map Ai
 | []=>rfl
 | e::r=>by rw [Kh,M2 r];rfl
theorem yu (v:Val):Ai (Jm v)=En v:=by simp [Jm,Ai,My]
theorem v7 (t:Str):Ai (Ap t)=t:=by simp [Ap,Ai,My]
theorem yw (a:Expr):Ai (Fk 3 a)=45::Jn 6 a (Ai a):=by simp [Fk,Ai,Kh,My]
theorem AC9 (a:Expr):Ai (Fk 4 a)=jt++32::Jn 2 a (Ai a):=by simp [Fk,Ai,Kh,My]
theorem yx (t:Str) (a b:Expr):Ai (I2 t a b)=Jn (Fy (Av t).toNat) a (Ai a)++32::(t++32::Jn ((Av t).toNat+1) b (Ai b)):=by simp [I2,Ai,Kh,My]
theorem v8 (t:Str) (k:List Expr):Ai (.mk 6 t noV k)=t++40::((Fl (Kh k)).drop 2++[41]):=by simp [Ai,My]
/-! What was parsed nests no deeper than may be. -/
/-! What nests too deep is told to be too deep. -/
def F2 (l:List Tok) (x:Expr):Prop:=∀(k:Nat) (S:PS) (rest:List TK),(k=0∨k=1∨k=4∨k=5)→k≤levE x→S.code=0→S.nest≤30→30<S.nest+ec x→seg l S.i=R7 x++rest→pg (k+1) rest→(Ef l (ofL k) (pf l (fam l S.nest) (k+1)) S).2.code=18
/-! What was parsed is right, where the words are the lexer's. -/
/-! The lexer's words. -/
/-! The parse laws where nothing is too deep. -/
/-! The parser from a word on, and of a source. -/
/-! Other trees have other words, and other prints. -/
/-! The laws of printing. -/
/-- show.Print. -/
def Oz (x:Expr):Str×Int:=if !(Ah x) then ([],1) else if decide ((4000:Int)<((Ai x).length:Int)) then ([],3) else (Ai x,0)
theorem Ep {x:Expr} (h:Ag x=true):Ct Bw x=true:=by
 unfold Ag at h
 rw [Bool.and_eq_true] at h
 exact h.2
set_option maxRecDepth 4000
theorem Jo {k:List Expr} {i:Nat} (h:i<k.length):(k.map A4)[i]? = some (A4 (k.getD i Aa))∧k.getD i Aa∈k∧∀(f:Expr→Rs) (d:Rs),(k.map f).getD i d=f (k.getD i Aa):=by
 have e:k.getD i Aa=k[i]:=by rw [List.getD_eq_getElem?_getD,List.getElem?_eq_getElem h];rfl
 rw [e]
 refine ⟨by simp [h],List.getElem_mem h,fun f d=>?_⟩
 rw [List.getD_eq_getElem?_getD,List.getElem?_map,List.getElem?_eq_getElem h]
 rfl
theorem q9 {e:Expr} (h:Bw e=true):(e.op=5→e.kids.length=2)∧(e.op=3∨e.op=4→e.kids.length=1)∧(e.op=6→B6 e.text=(e.kids.length:Int))∧(e.op=1∨e.op=2∨e.op=3∨e.op=4∨e.op=5∨e.op=6):=by
 cases Gn h with
 | val v hp h0=>simp [Jm,Expr.op]
 | name t ht=>simp [Ap,Expr.op]
 | neg a=>simp [Fk,Expr.op,Expr.kids]
 | no a=>simp [Fk,Expr.op,Expr.kids]
 | bin t a b ht=>simp [I2,Expr.op,Expr.kids]
 | call t k ht=>simpa [Expr.op,Expr.kids,Expr.text] using ht
def M3 (s:Str):Int:=if s==[111,114] then 0 else if s==[97,110,100] then 1 else if (((((s==[61]) || (s==[33,61])) || (s==[60])) || (s==[60,61])) || (s==[62])) || (s==[62,61]) then 3 else if ((s==[43]) || (s==[45])) || (s==[38]) then 4 else if ((s==[42]) || (s==[47])) || (s==[37]) then 5 else 7
theorem kc (s:Str):M3 s=if 0≤Av s then Av s else 7:=by
 by_cases hf:s∈levels.flatten
 ·have h3:(levels.flatten.all fun s=>decide (M3 s=if 0≤Av s then Av s else 7))=true:=by kernel_rfl
  exact of_decide_eq_true (List.all_eq_true.1 h3 s hf)
 have hn:=hf
 have h:Av s = -1:=by
  rcases Kd s with h|⟨h,_⟩
  ·exact absurd h hf
  exact h
 rw [h]
 simp only [levels,List.flatten_cons,List.flatten_nil,List.append_nil,List.cons_append,List.nil_append,List.mem_cons,List.not_mem_nil,or_false,not_or] at hn
 obtain ⟨a1,a2,a3,a4,a5,a6,a7,a8,a9,b1,b2,b3,b4,b5⟩:=hn
 simp [M3, *]
/-- The level of a node. -/
def cj (e:Expr):Int:=if e.op==4 then 2 else if e.op==3 then 6 else if e.op==5 then M3 e.text else 7
theorem et {e:Expr} (h:Bw e=true):cj e=(levE e:Int):=by
 unfold cj levE
 split
 ·rfl
 split
 ·rfl
 split
 ·rename_i h5
  have hb:0≤Av e.text:=by
   have h5':e.op=5:=by simpa using h5
   rw [R0] at h
   unfold Eo at h
   simp [h5'] at h
   exact h.2.1
  rw [kc,if_pos hb]
  omega
 rfl
theorem AEf (s:Str) (Hp:List AObj):AFun Tryz.prog 136 [A5 s] Hp (A2 (M3 s)):=by
 refine ACall.body [.tmp 2] [0] Tryz.func136 Tryz.ntmps136 (fun d=>?_)
 refine Zr ?_;refine R.fin [3] ?_;refine Mk ?_;refine R.fin [3,4] ?_
 refine W.cond (fun ht4=>?_) (fun ht4=>?_)
 ·exact mn
 refine Z1 ?_;refine R.fin [3,6] ?_
 refine W.cond (fun ht6=>?_) (fun ht6=>?_)
 ·exact mn
 refine W.join ⟨23,A3 3 (A5 s) (A3 8 (Ao ((((((s==[61]) || (s==[33,61])) || (s==[60])) || (s==[60,61])) || (s==[62])) || (s==[62,61]))) (fun _=>.any)),Hp,[],[],none⟩ ?_ ?_
 ·refine mo ?_
  refine W.cond (fun ht8=>?_) (fun ht8=>?_)
  ·exact mc
  refine mo ?_
  refine W.cond (fun ht8=>?_) (fun ht8=>?_)
  ·exact mc
  refine mo ?_
  refine W.cond (fun ht8=>?_) (fun ht8=>?_)
  ·exact mc
  refine mo ?_
  refine W.cond (fun ht8=>?_) (fun ht8=>?_)
  ·exact mc
  refine mo ?_
  refine W.cond (fun ht8=>?_) (fun ht8=>?_)
  ·exact mc
  refine Z10 ?_;refine R.fin [3,8] ?_;exact Z59
 refine W.cond (fun ht8=>?_) (fun ht8=>?_)
 ·exact mn
 refine W.join ⟨23,A3 3 (A5 s) (A3 15 (Ao (((s==[43]) || (s==[45])) || (s==[38]))) (fun _=>.any)),Hp,[],[],none⟩ ?_ ?_
 ·refine Z1 ?_;refine R.fin [3,15] ?_
  refine W.cond (fun ht15=>?_) (fun ht15=>?_)
  ·refine W.keep [3,15] ?_;exact ma
  refine Z1 ?_;refine R.fin [3,15] ?_
  refine W.cond (fun ht15=>?_) (fun ht15=>?_)
  ·refine W.keep [3,15] ?_;exact ma
  refine Z10 ?_;refine R.fin [3,15] ?_;exact Z59
 refine W.cond (fun ht15=>?_) (fun ht15=>?_)
 ·exact mn
 refine W.join ⟨23,A3 19 (Ao (((s==[42]) || (s==[47])) || (s==[37]))) (fun _=>.any),Hp,[],[],none⟩ ?_ ?_
 ·refine Z1 ?_;refine R.fin [3,19] ?_
  refine W.cond (fun ht19=>?_) (fun ht19=>?_)
  ·refine W.keep [19] ?_;exact ma
  refine Z1 ?_;refine R.fin [3,19] ?_
  refine W.cond (fun ht19=>?_) (fun ht19=>?_)
  ·refine W.keep [19] ?_;exact ma
  refine Z10 ?_;refine R.fin [19] ?_;exact Z59
 refine W.cond (fun ht19=>?_) (fun ht19=>?_)
 ·exact mn
 refine Wj ?_;exact K.fin (V.one V.tmp) ⟨by simp_all [M3],rfl⟩

theorem ACa (e:Expr) (Hp:List AObj):AFun Tryz.prog 101 [A4 e] Hp (A2 (cj e)):=by
 refine ACall.body [.tmp 2] [0] Tryz.func101 Tryz.ntmps101 (fun d=>?_)
 refine Z71 ?_;refine Z8 ?_;refine R.fin [1,4] ?_;refine Mk ?_;refine R.fin [1,4,5] ?_
 refine W.cond (fun ht5=>?_) (fun ht5=>?_)
 ·refine Z21 ?_;exact x5
 refine Z1 ?_;refine R.fin [1,4,7] ?_
 refine W.cond (fun ht7=>?_) (fun ht7=>?_)
 ·refine Z21 ?_;exact x5
 refine Z1 ?_;refine R.fin [1,9] ?_
 refine W.cond (fun ht9=>?_) (fun ht9=>?_)
 ·refine Z1 ?_;refine R.call Tryz.call136 (AEf e.text _) ?_;refine R.go ?_;refine Z3 ?_;exact x5
 refine Wj ?_;exact K.fin (V.one V.tmp) ⟨by simp_all [cj],rfl⟩

end Go.SX.Nb
namespace Go.Proofs
open Go.Shelf Go.RowKit

section
variable {P:Program} (w:World)

/-- Bytes behind a builder's bytes: what is handed back lies where it lay, or in the next block, or nowhere still. -/
theorem ke {t u ty e:TypeId} {i:TypeInfo} (ht:P.underlying t=some (.slice e)) (hu:P.underlying u=some .string) (hi:P.info? e=some i) (hz:i.zero=some (.int .u8 0)) (hsize:i.size=1) (hby:i.bytes=1)
  (v:Value) (n:Nat) (xs:List Value) (hown:w.ownsRow 0 e 1 v n xs) (s:ByteArray) (hb:n+s.size≤140737488355328):
  ∃v' w',(Builtin.append_ #[t,u] ty #[v,.string s]).run P w=.ok v' w'∧w'.ownsRow 0 e 1 v' (n+s.size) (xs++Lib.strCells s)∧w.grownBy w' v'.ownBlock ∧
   ((v=.slice none 0 0∧v'=v∧s.size=0)∨(∃g cap,v=.slice (some ⟨g,0,none⟩) n cap∧v'=.slice (some ⟨g,0,none⟩) (n+s.size) cap)∨∃cap,v'=.slice (some ⟨w.heap.size,0,none⟩) (n+s.size) cap∧0<n+s.size):=by
 have h63:n+s.size≤maxLen:=by unfold maxLen;omega
 obtain ⟨v',w',hr,h1,h2,h3⟩:=Lib.run_append_own_string (P:=P) w 0 t u ty e i ht hu hi hz hsize hby v n xs hown s h63 hb (Nat.zero_le _)
 have hxl:xs.length=n:=by simpa using hown.1
 refine ⟨v',w',hr,h1,?_⟩
 rcases hown.2 with ⟨rfl,rfl⟩|⟨g,cap,cur,rfl,hbg,hg,hnc,hcm,hcs,htake⟩
 ·by_cases hm:s.size=0
  ·have e1:=h3.2 ⟨rfl,hm⟩
   exact ⟨by rw [e1];exact h2,.inl ⟨rfl,e1,hm⟩⟩
  have hr2:=run_append_nil_string (P:=P) w t u ty e i (.int .u8 0) ht hu hi hz s (by omega) (by omega) (by rw [hby];omega)
  rw [hr] at hr2
  injection hr2 with e1 e2
  refine ⟨?_,.inr (.inr ⟨_,by rw [e1,Nat.zero_add],by omega⟩)⟩
  rw [e2]
  exact ⟨rfl,rfl,rfl,by simp,fun k hk _=>Lib.alloc_old w.drew _ k hk⟩
 by_cases hroom:n+s.size≤cap
 ·have hcs':cur.size=cap:=by simpa using hcs
  have hr2:=Lib.run_append_room_string (P:=P) w t u ty e i ht hu hi hsize g n cap cur hg s hroom (by omega)
  rw [hr] at hr2
  injection hr2 with e1 e2
  exact ⟨by rw [e1];exact h2,.inr (.inl ⟨g,cap,rfl,e1⟩)⟩
 have holds:∀j u,xs[j]? = some u→w.cell? ((⟨g,0,none⟩:Addr).add j)=some u:=hown.cells (g:=g) rfl
 have hr2:=Lib.run_append_grow_string (P:=P) w t u ty e i (.int .u8 0) ht hu hi hz ⟨g,0,none⟩ n cap xs (by rw [hsize];simpa using hxl) holds s (by omega) (by omega) (by rw [hby];exact growslice_fits (by omega) (by omega))
 rw [hr] at hr2
 injection hr2 with e1 e2
 refine ⟨?_,.inr (.inr ⟨_,e1,by omega⟩)⟩
 rw [e2]
 exact ⟨rfl,rfl,rfl,by simp,fun k hk _=>Lib.alloc_old w.drew _ k hk⟩
end

theorem O4 {P:Program} {w w':World} {ops:Array Oper} {rest:List Oper} {o:Oper} {a:Act} {Q:Exit→Act→World→Prop} {v v':Value} {s:ByteArray} (hgd:o.guard=none) (sl x:Operand) (t u ty:TypeId)
  (ho:o.op=.call { callee:=.builtin .append,args:=#[sl,x],argTypes:=#[t,u] }) (hty:o.type=ty) (hs:a.eval sl=v) (hx:a.eval x=.string s) (hrun:(Builtin.append_ #[t,u] ty #[v,.string s]).run P w=.ok v' w')
  (h:wpList P ops Q rest (a.put o.dst v') w'):wpList P ops Q (o::rest) a w:=by
 refine wpList_plain hgd fun K hK=>?_
 subst hty
 unfold Oper.wp execOp
 simp only [ho,resolve,invoke,builtin,Sem.run_bind,Sem.run_pure,Result.andThen_ok,List.map_toArray,List.map_cons,List.map_nil,hs,hx,hrun]
 exact hK _ _ h

section
variable {P:Program} {ρ:Ren}

set_option maxHeartbeats 1000000 in
set_option maxRecDepth 100000 in
/-- The check of an unused builder within a block of type T. -/
theorem kg (L:Lays.n240 P ρ) (X:Builder.X72 P ρ) {T:TypeId} (hl:liesAt P P.depth T (2 / P.cellsOf T) 0 (ρ.t 72) 1=true) (b:Nat) (w:World) (h0:w.cell? ⟨b,0,none⟩=some (.pointer none)) (hsh:w.shape? b=some (T,2)) (hfz:w.frozen? ⟨b,0,none⟩=false):
  Calls P (ρ.f 240) #[.pointer (some ⟨b,0,none⟩)] w fun e w'=>e=.returned (.tuple #[])∧w'=w.setCell ⟨b,0,none⟩ (.pointer (some ⟨b,0,none⟩)):=by
 obtain ⟨j,hj,hjs⟩:=Option.map_eq_some_iff.1 X.sizeBuilder
 have mixed:=L.mixed
 have t72:=L.t72;have a72:=L.a72;have z72:=L.z72;have v72:=L.v72;have u72:=run_underlying L.t72
 have t70:=L.t70;have a70:=L.a70;have z70:=L.z70;have v70:=L.v70;have u70:=run_underlying L.t70
 have t9:=L.t9;have a9:=L.a9;have z9:=L.z9;have v9:=L.v9;have u9:=run_underlying L.t9
 have t4:=L.t4;have a4:=L.a4;have z4:=L.z4;have v4:=L.v4;have u4:=run_underlying L.t4
 have t164:=L.t164;have a164:=L.a164;have z164:=L.z164;have v164:=L.v164;have u164:=run_underlying L.t164
 go_enter L.f240,Body.n240_ntmps ρ
 go_wp2
 rw [Lib.run_to_unsafe w ⟨b,0,none⟩ L.t70 L.t164 hj (by rw [hjs];decide) hsh (Nat.zero_lt_succ 1)]
 simp only [Result.andThen]
 rw [Oper.upon_value]
 go_wp2
 rw [run_callFunc_extern L.f276 (by kernel_rfl) (by kernel_rfl) (by kernel_rfl) (e:=Extern.AbiNoEscape.same) (by kernel_rfl)]
 rw [Lib.run_noEscape]
 simp only [Result.andThen]
 rw [Oper.upon_value]
 go_wp2
 rw [Lib.run_from_unsafe w ⟨b,0,none⟩ L.t164 L.t70 hj hsh hl]
 simp only [Result.andThen]
 rw [Oper.upon_value]
 go_wp2
 go_end0
 exact ⟨rfl,rfl⟩

/-- The check: behind it the first cell holds the builder's own address; nothing else turns. -/
theorem qb (L:Lays.n240 P ρ) (X:Builder.X72 P ρ) {T e:TypeId} (hl:liesAt P P.depth T (2 / P.cellsOf T) 0 (ρ.t 72) 1=true) (b:Nat) (p v:Value) (n:Nat) (bs:List Value) (w:World) (h:K3 T e b p v n bs w):
  Calls P (ρ.f 240) #[.pointer (some ⟨b,0,none⟩)] w fun e' w'=>e'=.returned (.tuple #[])∧K3 T e b (.pointer (some ⟨b,0,none⟩)) v n bs w'∧w.grownBy w' (some b)∧w'.heap.size=w.heap.size:=by
 obtain ⟨h1,hp,h3,h4⟩:=h
 rcases hp with rfl|rfl
 ·refine (kg L X hl b w (by rw [Lib.cell_of_heap h1];rfl) (by simp [World.shape?,h1]) (Lib.frozen_of_heap h1 0)).mono ?_
  rintro e' w' ⟨rfl,rfl⟩
  have hgr:w.grownBy (w.setCell ⟨b,0,none⟩ (.pointer (some ⟨b,0,none⟩))) (some b):=⟨rfl,rfl,rfl,by simp [World.setCell],fun k _ hk=>Below.heap_setCell _ _ _ _ (fun e=>hk (by simp [e]))⟩
  exact ⟨rfl,⟨by simp [World.setCell,Array.getElem?_modify,h1],.inr rfl,h3.kept hgr (.inr h4),h4⟩,hgr,by simp [World.setCell]⟩
 refine (Any.Builder_copyCheck_used L X b w (by rw [Lib.cell_of_heap h1];rfl)).mono ?_
 rintro e' w' ⟨rfl,rfl⟩
 exact ⟨rfl,⟨h1,.inr rfl,h3,h4⟩,⟨rfl,rfl,rfl,Nat.le_refl _,fun _ _ _=>rfl⟩,rfl⟩

set_option maxHeartbeats 1000000 in
set_option maxRecDepth 100000 in
/-- How many bytes there are. -/
theorem bldLen (L:Lays.n170 P ρ) {T e:TypeId} (b:Nat) (p v:Value) (n:Nat) (bs:List Value) (w:World) (h:K3 T e b p v n bs w):
  Calls P (ρ.f 170) #[.pointer (some ⟨b,0,none⟩)] w fun e' w'=>e'=.returned (.int .i64 n)∧w'=w:=by
 obtain ⟨h1,_,h3,_⟩:=h
 obtain ⟨ao,cap,rfl⟩:∃ao cap,v=.slice ao n cap:=by
  rcases h3.2 with ⟨hv,h0⟩|⟨g,cap,cur,hv,_⟩
  ·exact ⟨none,0,by rw [hv,h0]⟩
  exact ⟨_,_,hv⟩
 have c1:w.cell? ⟨b,1,none⟩=some (.slice ao n cap):=by rw [Lib.cell_of_heap h1];rfl
 have mixed:=L.mixed
 have t72:=L.t72;have a72:=L.a72;have z72:=L.z72;have v72:=L.v72;have u72:=run_underlying L.t72
 have t70:=L.t70;have a70:=L.a70;have z70:=L.z70;have v70:=L.v70;have u70:=run_underlying L.t70
 have t37:=L.t37;have a37:=L.a37;have z37:=L.z37;have v37:=L.v37;have u37:=run_underlying L.t37
 have t3:=L.t3;have a3:=L.a3;have z3:=L.z3;have v3:=L.v3;have u3:=run_underlying L.t3
 go_enter L.f170,Body.n170_ntmps ρ
 go_wp2
 go_ret
 exact ⟨rfl,rfl⟩

set_option maxHeartbeats 2000000 in
set_option maxRecDepth 100000 in
/-- A text is written behind it. -/
theorem bldWrite (L:Lays.n166 P ρ) (X:Builder.Extra P ρ) {T:TypeId} (hl:liesAt P P.depth T (2 / P.cellsOf T) 0 (ρ.t 72) 1=true) (hTe:T≠ρ.t 5) (b:Nat) (p v:Value) (n:Nat) (bs:List Value) (s:ByteArray) (w:World) (h:K3 T (ρ.t 5) b p v n bs w)
  (hlen:n+s.size≤140737488355328):
  Calls P (ρ.f 166) #[.pointer (some ⟨b,0,none⟩),.string s] w fun e w'=>e=.returned (.tuple #[.int .i64 s.size,.nilIface])∧∃v',K3 T (ρ.t 5) b (.pointer (some ⟨b,0,none⟩)) v' (n+s.size) (bs++Lib.strCells s) w' ∧
   (w'.os=w.os∧w'.tape=w.tape∧w'.output=w.output∧w.heap.size≤w'.heap.size)∧(∀k,k<w.heap.size→k≠b→v'.ownBlock≠some k→w'.heap[k]? = w.heap[k]?) ∧
   ((v=.slice none 0 0∧v'=v∧s.size=0)∨(∃g cap,v=.slice (some ⟨g,0,none⟩) n cap∧v'=.slice (some ⟨g,0,none⟩) (n+s.size) cap)∨∃cap,v'=.slice (some ⟨w.heap.size,0,none⟩) (n+s.size) cap∧0<n+s.size):=by
 obtain ⟨i0,hi,hz0,hz1,hz2⟩:=info_parts X.infoByte
 have mixed:=L.mixed
 have t72:=L.t72;have a72:=L.a72;have z72:=L.z72;have v72:=L.v72;have u72:=run_underlying L.t72
 have t70:=L.t70;have a70:=L.a70;have z70:=L.z70;have v70:=L.v70;have u70:=run_underlying L.t70
 have t37:=L.t37;have a37:=L.a37;have z37:=L.z37;have v37:=L.v37;have u37:=run_underlying L.t37
 have t3:=L.t3;have a3:=L.a3;have z3:=L.z3;have v3:=L.v3;have u3:=run_underlying L.t3
 have t9:=L.t9;have a9:=L.a9;have z9:=L.z9;have v9:=L.v9;have u9:=run_underlying L.t9
 have t4:=L.t4;have a4:=L.a4;have z4:=L.z4;have v4:=L.v4;have u4:=run_underlying L.t4
 have t164:=L.t164;have a164:=L.a164;have z164:=L.z164;have v164:=L.v164;have u164:=run_underlying L.t164
 have t5:=X.t5;have a5:=X.a5;have z5:=X.z5;have v5:=X.v5;have u5:=run_underlying X.t5
 have e240:∀args w,(callFunc (ρ.f 240) args).run P w=.ok (.enter (ρ.f 240) args) w:=enters_of L.f240 (by kernel_rfl) rfl
 go_enter L.f166,Body.n166_ntmps ρ
 go_wp2_with (go_at_fn (ρ.f 240);refine (qb { L with } X.toX72 hl b p v n bs _ h).mono ?_)
 rintro e w1 ⟨rfl,⟨hbk,_,hown,hne⟩,hg1,hs1⟩
 have c0:w1.cell? ⟨b,0,none⟩=some (.pointer (some ⟨b,0,none⟩)):=by rw [Lib.cell_of_heap hbk];rfl
 have c1:w1.cell? ⟨b,1,none⟩=some v:=by rw [Lib.cell_of_heap hbk];rfl
 obtain ⟨v',w2,hrun,hown',hgrow,hcase⟩:=ke (P:=P) w1 (ty:=ρ.t 37) L.t37 L.t9 hi hz0 hz1 hz2 v n bs hown s hlen
 have hlt:b<w1.heap.size:=(Array.getElem?_eq_some_iff.1 hbk).1
 have hne':v'.ownBlock≠some b:=by
  rcases hcase with ⟨_,e1,_⟩|⟨g,cap,e1,e2⟩|⟨cap,e1,_⟩
  ·rw [e1];exact hne
  ·rw [e2];rw [e1] at hne;exact hne
  rw [e1];simp [Value.ownBlock];omega
 have hb2:w2.heap[b]? = some (.cells #[.pointer (some ⟨b,0,none⟩),v] T (0,0)):=by
  rw [hgrow.block b hlt (fun e=>hne' e.symm)]
  exact hbk
 have d0:w2.cell? ⟨b,0,none⟩=some (.pointer (some ⟨b,0,none⟩)):=by rw [Lib.cell_of_heap hb2];rfl
 have d1:w2.cell? ⟨b,1,none⟩=some v:=by rw [Lib.cell_of_heap hb2];rfl
 have f1:w2.frozen? ⟨b,1,none⟩=false:=Lib.frozen_of_heap hb2 1
 obtain ⟨ao,n',cap,rfl⟩:∃ao n' cap,v'=.slice ao n' cap:=by
  rcases hown'.2 with ⟨hv,_⟩|⟨g,cap,cur,hv,_⟩
  ·exact ⟨_,_,_,hv⟩
  exact ⟨_,_,_,hv⟩
 go_wp2_with (at_builtin;refine O4 rfl _ _ (ρ.t 37) (ρ.t 9) (ρ.t 37) rfl rfl rfl rfl hrun ?_)
 go_ret2
 refine ⟨rfl,_,⟨by simp [World.setCell,Array.getElem?_modify,hb2],.inr rfl,hown'.kept (row:=some b) ⟨rfl,rfl,rfl,by simp [World.setCell],fun k _ hk=>Below.heap_setCell _ _ _ _ (fun e=>hk (by simp [e]))⟩ (.inr hne'),hne'⟩,⟨?_,?_,?_,?_⟩,fun k hk hkb hkr=>?_,?_⟩
 ·exact hgrow.os.trans hg1.os
 ·exact hgrow.tape.trans hg1.tape
 ·exact hgrow.output.trans hg1.output
 ·have:=hgrow.size
  simp [World.setCell];omega
 ·rw [Below.heap_setCell _ _ _ _ hkb,hgrow.block k (by omega) (fun e=>hkr e.symm),hg1.block k hk (by simpa using hkb)]
 rw [hs1] at hcase;exact hcase

set_option maxHeartbeats 2000000 in
set_option maxRecDepth 100000 in
/-- Its text: some of its row is frozen; nothing else turns. -/
theorem bldString (L:Lays.n169 P ρ) (X:Builder.Extra P ρ) {T:TypeId} (b:Nat) (p v:Value) (l:List UInt8) (w:World) (h:K3 T (ρ.t 5) b p v l.length (Lib.byteCells l) w) (hcap:∀g,v≠.slice (some ⟨g,0,none⟩) 0 0):
  Calls P (ρ.f 169) #[.pointer (some ⟨b,0,none⟩)] w fun e w'=>e=.returned (.string ⟨l.toArray⟩)∧(w'.os=w.os∧w'.tape=w.tape∧w'.output=w.output∧w.heap.size≤w'.heap.size)∧∀k,v.ownBlock≠some k→w'.heap[k]? = w.heap[k]? := by
 obtain ⟨hbk,_,hown,hne⟩:=h
 have mixed:=L.mixed
 have t72:=L.t72;have a72:=L.a72;have z72:=L.z72;have v72:=L.v72;have u72:=run_underlying L.t72
 have t70:=L.t70;have a70:=L.a70;have z70:=L.z70;have v70:=L.v70;have u70:=run_underlying L.t70
 have t37:=L.t37;have a37:=L.a37;have z37:=L.z37;have v37:=L.v37;have u37:=run_underlying L.t37
 have t127:=L.t127;have a127:=L.a127;have z127:=L.z127;have v127:=L.v127;have u127:=run_underlying L.t127
 have t3:=L.t3;have a3:=L.a3;have z3:=L.z3;have v3:=L.v3;have u3:=run_underlying L.t3
 have t9:=L.t9;have a9:=L.a9;have z9:=L.z9;have v9:=L.v9;have u9:=run_underlying L.t9
 have t5:=X.t5;have a5:=X.a5;have z5:=X.z5;have v5:=X.v5;have u5:=run_underlying X.t5
 rcases hown.2 with ⟨rfl,h0⟩|⟨g,cap,cur,rfl,hbg,hg,hnc,hcm,hcs,htake⟩
 ·have hl:l=[]:=List.eq_nil_of_length_eq_zero h0
  subst hl
  have hUS:=Any.unsafeString_none L X
  have c1:w.drew.cell? ⟨b,1,none⟩=some (.slice none 0 0):=by
   have:w.drew.heap[b]? = some (.cells #[p,.slice none 0 0] T (0,0)):=hbk
   rw [Lib.cell_of_heap this];rfl
  have hSD:(Builtin.unsafeSliceData_ #[(ρ.t 37)] (ρ.t 127) #[.slice none 0 0]).run P w.drew=.ok (.pointer none) w.drew:=rfl
  go_enter L.f169,Body.n169_ntmps ρ
  go_wp2
  go_region_o
  all_goals (go_wp2;go_ret;exact ⟨rfl,⟨rfl,rfl,rfl,Nat.le_refl _⟩,fun _ _=>rfl⟩)
 have hc0:cap≠0:=by
  rintro rfl
  exact hcap g (by rw [show l.length=0 by omega])
 have c1:w.drew.cell? ⟨b,1,none⟩=some (.slice (some ⟨g,0,none⟩) l.length cap):=by
  have:w.drew.heap[b]? = some (.cells #[p,.slice (some ⟨g,0,none⟩) l.length cap] T (0,0)):=hbk
  rw [Lib.cell_of_heap this];rfl
 have hSD:(Builtin.unsafeSliceData_ #[(ρ.t 37)] (ρ.t 127) #[.slice (some ⟨g,0,none⟩) l.length cap]).run P w.drew=.ok (.pointer (some ⟨g,0,none⟩)) w.drew:=
  Lib.run_unsafeSliceData_row _ _ _ _ _ _ hc0
 by_cases hl:l=[]
 ·subst hl
  have hUS:=Any.unsafeString_none L X
  clear hc0 hcap
  simp only [List.length_nil] at c1 hSD
  go_enter L.f169,Body.n169_ntmps ρ
  go_wp2
  go_region_o
  all_goals (go_wp2;go_ret;exact ⟨rfl,⟨rfl,rfl,rfl,Nat.le_refl _⟩,fun _ _=>rfl⟩)
 have hUS:(Builtin.unsafeString_ #[(ρ.t 127),(ρ.t 3)] (ρ.t 9) #[.pointer (some ⟨g,0,none⟩),.int .i64 l.length]).run P w.drew=.ok (.string ⟨l.toArray⟩) (w.drew.freeze ⟨g,0,none⟩ l.length):=by
  refine Lib.run_unsafeString_row w.drew (ρ.t 127) (ρ.t 3) (ρ.t 9) (ρ.t 5) L.t127 X.cellsByte g cur.size (by have hg':w.drew.heap[g]? = some (.cells cur (ρ.t 5) (0,0)):=hg;simp [World.shape?,hg']) l hl (by omega) (by unfold maxLen at hcm;omega) ?_
  intro j x hx
  exact hown.cells (g:=g) rfl j (.int .u8 x.toNat) (by simp [Lib.byteCells,hx])
 have hfz:∀k,g≠k→(w.drew.freeze ⟨g,0,none⟩ l.length).heap[k]? = w.heap[k]? := fun k hk=>by
  unfold World.freeze
  split
  ·rfl
  show (w.heap.modify g _)[k]? = _
  rw [Array.getElem?_modify,if_neg hk]
 have hfs:(w.drew.freeze ⟨g,0,none⟩ l.length).heap.size=w.heap.size:=by
  unfold World.freeze
  split
  ·rfl
  show (w.heap.modify g _).size=_
  simp
 have hfo:(w.drew.freeze ⟨g,0,none⟩ l.length).os=w.os∧(w.drew.freeze ⟨g,0,none⟩ l.length).tape=w.tape∧(w.drew.freeze ⟨g,0,none⟩ l.length).output=w.output:=by
  unfold World.freeze
  split<;>exact ⟨rfl,rfl,rfl⟩
 clear hc0 hcap
 go_enter L.f169,Body.n169_ntmps ρ
 go_wp2
 go_region_o
 all_goals (go_wp2;go_ret;exact ⟨rfl,⟨hfo.1,hfo.2.1,hfo.2.2,Nat.le_of_eq hfs.symm⟩,fun k hk=>hfz k (fun e=>hk (by rw [e];rfl))⟩)
end
end Go.Proofs

namespace Go.SX.Nb
open Go Go.SX Go.Proofs Go.Shelf
variable [ErrAt]
set_option maxRecDepth 8000
/-! show's builder. -/
theorem ACb:Builder.Extra Tryz.prog Tryz.ren155 where
 sizeBuilder:=by kernel_rfl
 liesBuilder:=by kernel_rfl
 t5:=Tryz.underlying5
 a5:=Tryz.isAgg5
 z5:=Tryz.sizeOf5
 v5:=Tryz.zeroValue5
 infoByte:=by kernel_rfl
 cellsByte:=by kernel_rfl
 sizeByte:=by kernel_rfl
 neB5:=by decide
theorem vd:liesAt Tryz.prog Tryz.prog.depth 109 (2 / Tryz.prog.cellsOf 109) 0 107 1=true:=by kernel_rfl
abbrev Rn (bs:Str):AObj:=.bld 109 5 bs
theorem C7 {n:Nat} {bs:Str}:ObjLow n (Rn bs):=trivial
/-- (*strings.Builder).WriteString. -/
theorem Ro (bs s:Str) (hl:bs.length+s.length≤140737488355328) (o:Nat) (Hp:List AObj) (ho:Hp[o]? = some (Rn bs)):
  ACall Tryz.prog 102 [.ptr o 0,A5 s] Hp (fun r H'=>r=.tup [A2 s.length,.v .nilIface]∧H'=Hp.set o (Rn (bs++s))):=by
 refine ACall.bldWrite ho (fun b p v w h=>?_)
 have hw:=bldWrite Tryz.lays166 ACb (T:=109) vd (by decide) b p v bs.length (Lib.byteCells bs) ⟨s.toArray⟩ w h (by rw [Du];exact hl)
 rw [Du,Lib.strCells_eq,←Lib.byteCells_append] at hw
 exact hw
/-- (*strings.Builder).Len. -/
theorem c72 (bs:Str) (o:Nat) (Hp:List AObj) (ho:Hp[o]? = some (Rn bs)):AFun Tryz.prog 72 [.ptr o 0] Hp (A2 bs.length):=
 AFun.bldLen ho (fun b p v w h=>bldLen Tryz.lays170 (T:=109) (e:=5) b p v _ _ w h)
/-- (*strings.Builder).String. -/
theorem c73 (bs:Str) (o:Nat) (Hp:List AObj) (ho:Hp[o]? = some (Rn bs)):ACall Tryz.prog 73 [.ptr o 0] Hp (fun r H'=>r=A5 bs∧H'=Hp.set o (.cells 109 [.any,.any])):=
 ACall.bldString ho (fun b p v w h hc=>bldString (ρ:=Tryz.ren155) { Tryz.lays155 with } ACb (T:=109) b p v bs w h hc)
end Go.SX.Nb
namespace Go.SX.Nb
open Go Go.SX Go.Proofs
variable [ErrAt]
set_option maxRecDepth 4000
abbrev wl:AV:=.v (.tuple #[])
abbrev Fm:Nat:=1099511627776
/-- What node writes. -/
def qc (e:Expr):Prop:=∀(o:Nat) (bs:Str) (Hp:List AObj),Hp[o]? = some (Rn bs)→bs.length+(Ai e).length≤Fm→ACall Tryz.prog 71 [.ptr o 0,A4 e] Hp (fun r H'=>r=wl∧H'=Hp.set o (Rn (bs++Ai e)))
theorem ki (e:Expr):Ai e=My e.op e.text e.val e.kids (e.kids.map Ai):=by
 cases e with
 | mk o t v k=>rw [Ai,M2];rfl
theorem ve {k:List Expr} {i:Nat} (h:i<k.length):(k.map Ai).getD i []=Ai (k.getD i Aa):=by
 rw [List.getD_eq_getElem?_getD,List.getD_eq_getElem?_getD,List.getElem?_map,List.getElem?_eq_getElem h]
 rfl
theorem U0 (l:List Str) (s:Str):Fl (l++[s])=Fl l++(44::32::s):=by
 induction l with
 | nil=>simp [Fl]
 | cons a r ih=>simp [Fl,ih]
theorem qd {k:List Expr} {x:Nat} (h:x<k.length):(Fl ((k.take (x+1)).map Ai)).drop 2=(Fl ((k.take x).map Ai)).drop 2++(if 0<x then [44,32] else [])++Ai k[x]:=by
 rw [List.take_succ_eq_append_getElem h,List.map_append,List.map_singleton,U0]
 cases x with
 | zero=>simp [Fl]
 | succ x =>
  have:2≤(Fl ((k.take (x+1)).map Ai)).length:=by
   rw [List.take_succ_eq_append_getElem (by omega),List.map_append,List.map_singleton,U0]
   simp
   omega
  rw [List.drop_append_of_le_length this,if_pos (by omega)]
  simp
theorem yy {k:List Expr} (x:Nat):(Fl ((k.take x).map Ai)).length≤(Fl (k.map Ai)).length:=by
 have:k.map Ai=(k.take x).map Ai++(k.drop x).map Ai:=by rw [←List.map_append,List.take_append_drop]
 rw [this]
 have:∀a b:List Str,(Fl a).length≤(Fl (a++b)).length:=by
  intro a b
  induction a with
  | nil=>simp [Fl]
  | cons c r ih=>simp [Fl];exact ih
 exact this _ _
theorem Ya {H:List AObj} {o:Nat} {a b:AObj}:(H.set o a).set o b=H.set o b:=List.set_set _
theorem kj (e:Expr) (he:qc e) (hlev:cj e=(levE e:Int)) (least:Nat) (l0:Int) (hl0:l0=(least:Int)) (o:Nat) (bs:Str) (Hp:List AObj) (ho:Hp[o]? = some (Rn bs)) (hb:bs.length+(Jn least e (Ai e)).length≤Fm):ACall Tryz.prog 104 [.ptr o 0,A4 e,A2 l0] Hp (fun r H'=>r=wl∧H'=Hp.set o (Rn (bs++Jn least e (Ai e)))):=by
 subst hl0
 refine ACall.body [] [0,1,2] Tryz.func104 Tryz.ntmps104 (fun d=>?_)
 refine Z2 ?_;refine R.fin [0,2,4] ?_;refine Z31 ?_;refine R.call Tryz.call101 (ACa e _) ?_;refine Z0 ?_;refine R.fin [0,4,9] ?_
 refine W.cond (fun ht9=>?_) (fun ht9=>?_)
 ·have hz:least≤levE e:=by
   have h:=ht9
   rw [hlev] at h
   simpa using h
  rw [show Jn least e (Ai e)=Ai e from if_pos hz] at hb ⊢
  refine Z1 ?_;refine R.callUp Tryz.call71 ho (by simp) C7 (he o bs _ (A6 ho) (by omega)) ?_;refine mt ?_;exact K.fin .nores ⟨rfl,by simp⟩
 have hz:¬least≤levE e:=by
  have h:=ht9
  rw [hlev] at h
  simpa using h
 rw [show Jn least e (Ai e)=40::(Ai e++[41]) from if_neg hz] at hb ⊢
 simp only [List.length_cons,List.length_append,List.length_nil,Fm] at hb
 refine Z85 ?_
 refine R.callUp Tryz.call102 ho (by simp) C7 (Ro bs [40] (by simp only [Fm,List.length_append,List.length_cons,List.length_nil] at *;omega) o _ (A6 ho)) ?_
 refine R.fin [0,4] ?_;refine Z1 ?_
 refine R.callUp Tryz.call71 (getset ho) (by simp) C7 (he o (bs++[40]) _ (A6 (getset ho)) (by simp only [Fm,List.length_append,List.length_cons,List.length_nil] at *;omega)) ?_
 refine R.fin [0] ?_;refine Z24 ?_
 refine R.callUp Tryz.call102 (getset (getset ho)) (by simp) C7 (Ro (bs++[40]++Ai e) [41] (by simp only [Fm,List.length_append,List.length_cons,List.length_nil] at *;omega) o _ (A6 (getset (getset ho)))) ?_
 refine R.fin [] ?_;exact K.finN .nores ⟨rfl,by simp⟩

theorem c71:∀(n:Nat) (e:Expr),okE n e→Ct Bw e=true→Ct Hb e=true→qc e:=by
 intro n
 induction n with
 | zero=>exact fun e h=>h.elim
 | succ n ih =>
 intro e hok hnd hrg o bs Hp ho hb
 have hnd0:=hnd
 have hrg0:=hrg
 rw [Dj,Bool.and_eq_true] at hnd0 hrg0
 have hev:∀y∈e.kids,qc y:=fun y hy=>ih y (hok.2.2 y hy) ((D8 _ _).1 hnd0.2 y hy) ((D8 _ _).1 hrg0.2 y hy)
 have hlv:∀y∈e.kids,cj y=(levE y:Int):=fun y hy=>et (by have:=(D8 _ _).1 hnd0.2 y hy;rw [Dj,Bool.and_eq_true] at this;exact this.1)
 obtain ⟨k5,k34,k6,kall⟩:=q9 hnd0.1
 have hi64:sr e.val.n:=by
  have:=hrg0.1
  simp only [Hb,Bool.and_eq_true,decide_eq_true_eq] at this
  exact this
 have hlv0:=et hnd0.1
 have pe:=ki e
 have hol:=(List.getElem?_eq_some_iff.1 ho).1
 unfold My at pe
 refine ACall.body [] [0,1] Tryz.func71 Tryz.ntmps71 (fun d=>?_)
 refine Z2 ?_;refine Ib ?_;refine Z2 ?_;refine R.call Tryz.call101 (ACa e _) ?_;refine R.go ?_;refine V1 ?_;refine Z1 ?_;refine R.fin [0,3,4,11] ?_;refine Mk ?_;refine R.fin [0,3,4,11,12] ?_
 refine W.cond (fun ht12=>?_) (fun ht12=>?_)
 ·rw [if_pos ht12] at pe
  refine W.drawQ0 [0,1,3,0,8,24,63] 6 Ac (by kernel_rfl) ?_;refine Zp ?_;refine D.call Tryz.call103 (ABm e.val hi64 _) ?_;refine D.tail ?_
  refine R.callUp Tryz.call102 ho (by simp) C7 (Ro bs (En e.val) (by rw [pe] at hb;simp only [Fm] at hb;omega) o _ (A6 ho)) ?_
  exact Z78
 rw [if_neg (by rw [ht12];simp)] at pe
 refine Z1 ?_;refine R.fin [0,3,4,11,21] ?_
 refine W.cond (fun ht21=>?_) (fun ht21=>?_)
 ·rw [if_pos ht21] at pe
  refine W.drawQ0 [0,1,3,0,8,31] 5 Ac (by kernel_rfl) ?_;refine Zp ?_;refine D.tail ?_
  refine R.callUp Tryz.call102 ho (by simp) C7 (Ro bs e.text (by rw [pe] at hb;simp only [Fm] at hb;omega) o _ (A6 ho)) ?_
  exact Z78
 rw [if_neg (by rw [ht21];simp)] at pe
 refine Z1 ?_;refine R.fin [0,3,4,11,29] ?_
 refine W.cond (fun ht29=>?_) (fun ht29=>?_)
 ·rw [if_pos ht29] at pe
  have hkl:=k34 (.inl (by simpa using ht29))
  rw [ve (by omega)] at pe
  rw [pe] at hb
  simp only [List.length_cons,Fm] at hb
  refine Z20 ?_
  refine R.callUp Tryz.call102 ho (by simp) C7 (Ro bs [45] (by simp only [Fm,List.length_append,List.length_cons,List.length_nil] at *;omega) o _ (A6 ho)) ?_
  refine Ib ?_;refine Z24 ?_
  refine R.go (h:=Q.indexAddr (0) (A4 (e.kids.getD 0 Aa)) (fun _=>(Jo (by omega)).1)) (hr:=?_)
  refine R.go ?_
  refine R.callUp Tryz.call104 (getset ho) (by simp) C7 (kj (e.kids.getD 0 Aa) (hev _ (Jo (by omega)).2.1) (hlv _ (Jo (by omega)).2.1) (6) _ (rfl) o (bs++[45]) _ (A6 (getset ho)) (by simp only [Fm,List.length_append,List.length_cons,List.length_nil] at *;omega)) ?_
  exact Z78
 rw [if_neg (by rw [ht29];simp)] at pe
 refine Z1 ?_;refine R.fin [0,3,4,11,41] ?_
 refine W.cond (fun ht41=>?_) (fun ht41=>?_)
 ·rw [if_pos ht41] at pe
  have hkl:=k34 (.inr (by simpa using ht41))
  rw [ve (by omega)] at pe
  rw [pe] at hb
  simp only [List.length_cons,List.length_append,jt,List.length_nil,Fm] at hb
  refine Z20 ?_
  refine R.callUp Tryz.call102 ho (by simp) C7 (Ro bs [110,111,116,32] (by simp only [Fm,List.length_append,List.length_cons,List.length_nil] at *;omega) o _ (A6 ho)) ?_
  refine Ib ?_;refine Z24 ?_
  refine R.go (h:=Q.indexAddr (0) (A4 (e.kids.getD 0 Aa)) (fun _=>(Jo (by omega)).1)) (hr:=?_)
  refine R.go ?_
  refine R.callUp Tryz.call104 (getset ho) (by simp) C7 (kj (e.kids.getD 0 Aa) (hev _ (Jo (by omega)).2.1) (hlv _ (Jo (by omega)).2.1) (2) _ (rfl) o (bs++[110,111,116,32]) _ (A6 (getset ho)) (by simp only [Fm,List.length_append,List.length_cons,List.length_nil] at *;omega)) ?_
  exact Z78
 rw [if_neg (by rw [ht41];simp)] at pe
 refine Z1 ?_;refine R.fin [0,3,4,11,53] ?_
 refine W.cond (fun ht53=>?_) (fun ht53=>?_)
 ·rw [if_pos ht53] at pe
  have h5:e.op=5:=by simpa using ht53
  have hkl:=k5 h5
  have hlv5:levE e=(Av e.text).toNat:=by simp [levE,h5]
  have hl5:=pc e.text
  rw [ve (by omega),ve (by omega)] at pe
  rw [pe] at hb
  simp only [List.length_cons,List.length_append,Fm] at hb
  rw [hlv0,hlv5]
  refine Z1 ?_;refine R.fin [0,3,4,5] ?_;refine Z8 ?_;refine R.fin [0,3,4,5,57] ?_
  refine W.cond (fun ht57=>?_) (fun ht57=>?_)
  ·have h3:(Av e.text).toNat=3:=by have:=ht57;simp at this;omega
   have hf1:(((Av e.text).toNat:Int)+1)=((Fy (Av e.text).toNat:Nat):Int):=by rw [h3];rfl
   refine Z24 ?_;refine R.fin [0,3,4,5] ?_;refine K.thN ?_;refine Z20 ?_
   refine R.go (h:=Q.indexAddr (0) (A4 (e.kids.getD 0 Aa)) (fun _=>(Jo (by omega)).1)) (hr:=?_)
   refine Z0 ?_
   refine R.callUp Tryz.call104 ho (by simp) C7 (kj (e.kids.getD 0 Aa) (hev _ (Jo (by omega)).2.1) (hlv _ (Jo (by omega)).2.1) (Fy (Av e.text).toNat) _ (by first|exact hf1|rw [hf2]) o (bs) _ (A6 ho) (by simp only [Fm,List.length_append,List.length_cons,List.length_nil] at *;omega)) ?_
   refine AAo ?_;refine Zp ?_
   refine D.go (h:=Q.sadd (hl:=fun _=>by simp only [List.length_cons,List.length_nil];omega)) (hr:=?_)
   refine D.go (h:=Q.sadd (hl:=fun _=>by simp only [List.length_cons,List.length_nil,List.length_append];omega)) (hr:=?_)
   refine D.tail ?_
   refine R.callUp Tryz.call102 (getset ho) (by simp) C7 (Ro (bs++Jn (Fy (Av e.text).toNat) (e.kids.getD 0 Aa) (Ai (e.kids.getD 0 Aa))) (32::(e.text++[32])) (by simp only [Fm,List.length_append,List.length_cons,List.length_nil] at *;omega) o _ (A6 (getset ho))) ?_
   refine V1 ?_;refine Z24 ?_
   refine R.go (h:=Q.indexAddr (1) (A4 (e.kids.getD 1 Aa)) (fun _=>(Jo (by omega)).1)) (hr:=?_)
   refine Z22 ?_
   refine R.callUp Tryz.call104 (getset (getset ho)) (by simp) C7 (kj (e.kids.getD 1 Aa) (hev _ (Jo (by omega)).2.1) (hlv _ (Jo (by omega)).2.1) ((Av e.text).toNat+1) _ (by first|rfl|(push_cast;rfl)) o (bs++Jn (Fy (Av e.text).toNat) (e.kids.getD 0 Aa) (Ai (e.kids.getD 0 Aa))++32::(e.text++[32])) _ (A6 (getset (getset ho))) (by simp only [Fm,List.length_append,List.length_cons,List.length_nil] at *;omega)) ?_
   exact Z78
  have h3:(Av e.text).toNat≠3:=by have:=ht57;simp at this;omega
  have hf2:Fy (Av e.text).toNat=(Av e.text).toNat:=by unfold Fy;rw [if_neg h3]
  refine Z85 ?_
  refine R.go (h:=Q.indexAddr (0) (A4 (e.kids.getD 0 Aa)) (fun _=>(Jo (by omega)).1)) (hr:=?_)
  refine Z0 ?_
  refine R.callUp Tryz.call104 ho (by simp) C7 (kj (e.kids.getD 0 Aa) (hev _ (Jo (by omega)).2.1) (hlv _ (Jo (by omega)).2.1) (Fy (Av e.text).toNat) _ (by first|exact hf1|rw [hf2]) o (bs) _ (A6 ho) (by simp only [Fm,List.length_append,List.length_cons,List.length_nil] at *;omega)) ?_
  refine AAo ?_;refine Zp ?_
  refine D.go (h:=Q.sadd (hl:=fun _=>by simp only [List.length_cons,List.length_nil];omega)) (hr:=?_)
  refine D.go (h:=Q.sadd (hl:=fun _=>by simp only [List.length_cons,List.length_nil,List.length_append];omega)) (hr:=?_)
  refine D.tail ?_
  refine R.callUp Tryz.call102 (getset ho) (by simp) C7 (Ro (bs++Jn (Fy (Av e.text).toNat) (e.kids.getD 0 Aa) (Ai (e.kids.getD 0 Aa))) (32::(e.text++[32])) (by simp only [Fm,List.length_append,List.length_cons,List.length_nil] at *;omega) o _ (A6 (getset ho))) ?_
  refine V1 ?_;refine Z24 ?_
  refine R.go (h:=Q.indexAddr (1) (A4 (e.kids.getD 1 Aa)) (fun _=>(Jo (by omega)).1)) (hr:=?_)
  refine Z22 ?_
  refine R.callUp Tryz.call104 (getset (getset ho)) (by simp) C7 (kj (e.kids.getD 1 Aa) (hev _ (Jo (by omega)).2.1) (hlv _ (Jo (by omega)).2.1) ((Av e.text).toNat+1) _ (by first|rfl|(push_cast;rfl)) o (bs++Jn (Fy (Av e.text).toNat) (e.kids.getD 0 Aa) (Ai (e.kids.getD 0 Aa))++32::(e.text++[32])) _ (A6 (getset (getset ho))) (by simp only [Fm,List.length_append,List.length_cons,List.length_nil] at *;omega)) ?_
  exact Z78
 rw [if_neg (by rw [ht53];simp)] at pe
 refine Z1 ?_;refine R.fin [0,3,83] ?_
 refine W.cond (fun ht83=>?_) (fun ht83=>?_)
 ·have hsl:∀x,((Fl ((e.kids.take x).map Ai)).drop 2).length≤((Fl (e.kids.map Ai)).drop 2).length:=fun x=>by have:=yy (k:=e.kids) x;rw [List.length_drop,List.length_drop];omega
  have hkl6:=hok.2.1
  rw [pe] at hb
  simp only [List.length_cons,List.length_append,List.length_nil,Fm] at hb
  refine W.drawQ [0,1,3,0,8,24,63] 6 Ac (by kernel_rfl) ?_;refine Zp ?_
  refine D.go (h:=Q.sadd (hl:=fun _=>by simp only [List.length_cons,List.length_nil];omega)) (hr:=?_)
  refine D.tail ?_
  refine R.callUp Tryz.call102 ho (by simp) C7 (Ro bs (e.text++[40]) (by simp only [Fm,List.length_append,List.length_cons,List.length_nil] at *;omega) o _ (A6 ho)) ?_
  refine Ib ?_;refine Z49 ?_;refine R.fin [0,93,94,95] ?_
  refine AW.loopC (α:=Nat) (fun x=>⟨114,A3 0 (.ptr o 0) (A3 93 (.slice false 6 (e.kids.map A4)) (A3 94 (A2 (e.kids.length:Nat)) (A3 95 (A2 (x:Nat)) (fun _=>.any)))),Hp.set o (Rn (bs++(e.text++[40])++(Fl ((e.kids.take x).map Ai)).drop 2)),[],[],none⟩) (fun x=>x≤e.kids.length) (fun x=>e.kids.length-x) (0) (Nat.zero_le _) (StLe.of_eq (by simp [Fl])) rfl (fun x hx=>?_)
  refine Z2 ?_;refine R.fin [0,93,94,95,96] ?_
  refine W.condX (fun ht96=>?_) (fun ht96=>?_)
  ·have hlt:x<e.kids.length:=by simpa using ht96
   have hst:=qd hlt
   have hsl1:=hsl (x+1)
   have hslx:=hsl x
   refine Pg ?_
   refine R.go (h:=Q.indexAddr (x) (A4 e.kids[x]) (fun _=>Ad hlt)) (hr:=?_)
   refine ib ?_;refine R.fin [0,6,7,93,94,95] ?_;refine Z8 ?_;refine R.fin [0,7,93,94,95,101] ?_
   refine W.cond (fun ht101=>?_) (fun ht101=>?_)
   ·have h0x:0<x:=by simpa using ht101
    rw [if_pos h0x] at hst
    have hstl:=congrArg List.length hst
    simp only [List.length_append,List.length_cons,List.length_nil] at hstl
    refine Z24 ?_
    refine R.callUp Tryz.call102 (getset ho) (by simp) C7 (Ro (bs++(e.text++[40])++(Fl ((e.kids.take x).map Ai)).drop 2) [44,32] (by simp only [Fm,List.length_append,List.length_cons,List.length_nil] at *;omega) o _ (A6 (getset ho))) ?_
    refine R.fin [0,7,93,94,95] ?_;refine K.thN ?_;refine Z10 ?_
    first|refine R.callUp Tryz.call71 (getset ho) (by simp) C7 (hev _ (List.getElem_mem hlt) o (bs++(e.text++[40])++(Fl ((e.kids.take x).map Ai)).drop 2) _ (A6 (getset ho)) (by simp only [Fm,List.length_append,List.length_cons,List.length_nil] at *;omega)) ?_|refine R.callUp Tryz.call71 (getset (getset ho)) (by simp) C7 (hev _ (List.getElem_mem hlt) o (bs++(e.text++[40])++(Fl ((e.kids.take x).map Ai)).drop 2++[44,32]) _ (A6 (getset (getset ho))) (by simp only [Fm,List.length_append,List.length_cons,List.length_nil] at *;omega)) ?_
    refine R.fin [0,93,94,95] ?_;refine Pf ?_;refine R.fin [0,93,94,95] ?_;refine iu ?_
    simp only [hst,Ya,List.append_assoc,List.append_nil]
    exact StCut.take (own:=[]) (fun _=>.refl _) (by repeat (first|exact As|refine Ar (by first|exact Bj|exact Vl|(simp [or_imp,forall_and,oid]<;>omega)) ?_)) (by simp) (by simp)
   have h0x:¬0<x:=by simpa using ht101
   rw [if_neg h0x] at hst
   have hstl:=congrArg List.length hst
   simp only [List.length_append,List.length_cons,List.length_nil] at hstl
   refine Z5 ?_;refine Z10 ?_
   first|refine R.callUp Tryz.call71 (getset ho) (by simp) C7 (hev _ (List.getElem_mem hlt) o (bs++(e.text++[40])++(Fl ((e.kids.take x).map Ai)).drop 2) _ (A6 (getset ho)) (by simp only [Fm,List.length_append,List.length_cons,List.length_nil] at *;omega)) ?_|refine R.callUp Tryz.call71 (getset (getset ho)) (by simp) C7 (hev _ (List.getElem_mem hlt) o (bs++(e.text++[40])++(Fl ((e.kids.take x).map Ai)).drop 2++[44,32]) _ (A6 (getset (getset ho))) (by simp only [Fm,List.length_append,List.length_cons,List.length_nil] at *;omega)) ?_
   refine R.fin [0,93,94,95] ?_;refine Pf ?_;refine R.fin [0,93,94,95] ?_;refine iu ?_
   simp only [hst,Ya,List.append_assoc,List.append_nil]
   exact StCut.take (own:=[]) (fun _=>.refl _) (by repeat (first|exact As|refine Ar (by first|exact Bj|exact Vl|(simp [or_imp,forall_and,oid]<;>omega)) ?_)) (by simp) (by simp)
  have hxe:e.kids.take x=e.kids:=List.take_of_length_le (by simp at ht96;omega)
  have hslx:=hsl x
  refine Z23 ?_;refine Z24 ?_
  refine R.callUp Tryz.call102 (getset ho) (by simp) C7 (Ro (bs++(e.text++[40])++(Fl ((e.kids.take x).map Ai)).drop 2) [41] (by simp only [Fm,List.length_append,List.length_cons,List.length_nil] at *;omega) o _ (A6 (getset ho))) ?_
  refine Z67 ?_;exact K.finN .nores ⟨rfl,by rw [pe,hxe]<;>simp⟩
 exfalso
 have h6:=kall
 simp at ht12 ht21 ht29 ht41 ht53 ht83
 omega

set_option maxRecDepth 8000
/-! How long a print is. -/
theorem ck {v:Val} (hp:Dy v=true) (hi:sr v.n):(En v).length≤402:=by
 unfold En
 rw [hp]
 simp only [Bool.not_true,Bool.false_eq_true,if_false]
 split
 ·have:=Lib.itoa_length_le v.n hi.1 hi.2
  omega
 split
 ·rename_i h1 h2
  rw [Oq]
  have h3:=Xf v.s
  have h4:v.s.length≤200:=by
   have k2:v.kind=2:=by simpa using h2
   simp [Dy,k2] at hp
   omega
  simp
  omega
 split
 ·simp
 split<;>simp
theorem Pp (k:Nat) (x:Expr) (s:Str):(Jn k x s).length≤s.length+2:=by
 unfold Jn
 split<;>simp
theorem Yb {t:Str} (h:0≤Av t):t.length≤3:=by
 rcases Kd t with hm|⟨hm,_⟩
 ·have h3:(levels.flatten.all fun s=>decide (s.length≤3))=true:=by kernel_rfl
  exact of_decide_eq_true (List.all_eq_true.1 h3 t hm)
 omega
theorem Rp {t:Str} {n:Nat} (h:B6 t=(n:Int)):t.length≤6:=by
 rcases Rm h with ⟨e,_⟩|⟨e,_⟩|⟨e,_⟩|⟨e,_⟩|⟨e,_⟩|⟨e,_⟩|⟨e,_⟩|⟨e,_⟩<;>rw [e]<;>decide
theorem qe {k:List Expr} (h:∀y∈k,(Ai y).length+10≤440*sizeE y):(Fl (k.map Ai)).length≤440*Aq k:=by
 induction k with
 | nil=>simp [Fl]
 | cons y r ih =>
  have h1:=h y List.mem_cons_self
  have h2:=ih (fun z hz=>h z (List.mem_cons_of_mem _ hz))
  simp only [List.map_cons,Fl,Aq,List.length_cons,List.length_append]
  omega
theorem U1:∀(n:Nat) (e:Expr),sizeE e≤n→Ct Bw e=true→Ct Hb e=true→(Ai e).length+10≤440*sizeE e
 | 0,e,h,_,_=>by rw [Fu] at h;omega
 | n+1,e,h,hn,hr=>by
  rw [Dj,Bool.and_eq_true] at hn hr
  have hk:∀y∈e.kids,(Ai y).length+10≤440*sizeE y:=fun y hy=>by
   obtain ⟨i,hi⟩:=List.getElem?_of_mem hy
   obtain ⟨hlt,rfl⟩:=List.getElem?_eq_some_iff.1 hi
   exact U1 n _ (by have:=Wy e hlt;omega) ((D8 _ _).1 hn.2 _ hy) ((D8 _ _).1 hr.2 _ hy)
  have hi:sr e.val.n:=by
   have:=hr.1
   simp only [Hb,Bool.and_eq_true,decide_eq_true_eq] at this
   exact this
  rw [Fu]
  cases Gn hn.1 with
  | val v hp h0 =>
   rw [yu]
   have:=ck hp (v:=v) hi
   simp only [Jm,Expr.kids,Aq]
   omega
  | name t ht =>
   rw [v7]
   have:t.length≤16:=by
    cases t with
    | nil=>simp
    | cons c r =>
     simp only [F4,Bool.and_eq_true,decide_eq_true_eq] at ht
     exact ht.1.1.1
   simp only [Ap,Expr.kids,Aq]
   omega
  | neg a =>
   rw [yw]
   have h1:=Pp 6 a (Ai a)
   have h2:=hk a (by simp [Fk,Expr.kids])
   simp only [Fk,Expr.kids,Aq,List.length_cons]
   omega
  | no a =>
   rw [AC9]
   have h1:=Pp 2 a (Ai a)
   have h2:=hk a (by simp [Fk,Expr.kids])
   simp only [Fk,Expr.kids,Aq,List.length_cons,List.length_append,jt,List.length_nil]
   omega
  | bin t a b ht =>
   rw [yx]
   have h1:=Pp (Fy (Av t).toNat) a (Ai a)
   have h2:=Pp ((Av t).toNat+1) b (Ai b)
   have h3:=hk a (by simp [I2,Expr.kids])
   have h4:=hk b (by simp [I2,Expr.kids])
   have h5:=Yb ht
   simp only [I2,Expr.kids,Aq,List.length_cons,List.length_append]
   omega
  | call t k ha =>
   rw [v8]
   have h1:=Rp ha
   have h2:=qe (k:=k) hk
   rw [←M2] at h2
   simp only [Expr.kids,List.length_cons,List.length_append,List.length_drop,List.length_nil]
   omega
theorem Yc {e:Expr} (hr:Ag e=true) (hg:Ct Hb e=true):(Ai e).length≤132000:=by
 have h1:=Ep hr
 have h2:sizeE e≤300:=by
  unfold Ag at hr
  simp only [Bool.and_eq_true,decide_eq_true_eq] at hr
  exact hr.1.2
 have:=U1 _ e (Nat.le_refl _) h1 hg
 omega
set_option maxRecDepth 4000
abbrev xo (own:Bool) (t:Str) (ks:List Expr):AObj:=.cells 45 [A2 6,A5 t,A2 0,A2 0,A5 [],.slice own 6 (ks.map A4)]
theorem yz {n:Nat} {own:Bool} {t:Str} {ks:List Expr}:ObjLow n (xo own t ks):=by
 show ∀z∈[A2 6,A5 t,A2 0,A2 0,A5 [],AV.slice own 6 (ks.map A4)],Low n z
 intro z hz
 simp only [List.mem_cons,List.not_mem_nil,or_false] at hz
 rcases hz with rfl|rfl|rfl|rfl|rfl|rfl
 all_goals first|exact Bj|simp
theorem vf:Cm (.agg #[.int .i64 0,.string ⟨#[]⟩,.int .i64 0,.int .i64 0,.string ⟨#[]⟩,.slice none 0 0])=.agg [A2 0,A5 [],A2 0,A2 0,A5 [],.nil]:=rfl
attribute [go_sem] vf
theorem gA {Hp:List AObj} {o ox:Nat} {z A B:AObj} (ho:Hp[o]? = some z) (hne:ox≠o):((Hp.set o A).set ox B)[o]? = some A:=by rw [List.getElem?_set_ne hne];exact getset ho
theorem gB {Hp:List AObj} {o ox:Nat} {z A B:AObj} (hox:Hp[ox]? = some z):((Hp.set o A).set ox B)[ox]? = some B:=by
 have:=(List.getElem?_eq_some_iff.1 hox).1
 simp [this]
theorem qf {Hp:List AObj} {o ox:Nat} {A A' B:AObj} (hne:ox≠o):((Hp.set o A).set ox B).set o A'=(Hp.set o A').set ox B:=by rw [List.set_comm _ _ hne,List.set_set]
theorem M4 (ks:List Expr) (x:Expr):ks.map A4++[.agg [.v (.int .i64 x.op),.v (sv x.text),.v (.int .i64 x.val.kind),.v (.int .i64 x.val.n),.v (sv x.val.s),.slice false 6 (x.kids.map A4)]]=(ks++[x]).map A4:=by rw [List.map_append,List.map_cons,List.map_nil,A7 x]
theorem AEg (l:List Tok) (S:PS) (t:Str) (Dv:Fam) (o ox:Nat) (Hp:List AObj) (hne:ox≠o) (ho:Hp[o]? = some (pr l S)) (hox:Hp[ox]? = some (xo true t [])) (hi:S.i<l.length) (hl:TokEnd l) (hll:l.length≤1048576) (hf:D3 l S.nest Dv.ei) (hcf:PC 219 l Dv.ei S.nest):ACall Tryz.prog 269 [.ptr ox 0,.ro [.ptr o 0]] Hp (fun r H'=>r=A4 (.mk 6 t noV (Gd l Dv.ei S).1)∧H'=(Hp.set o (pr l (Gd l Dv.ei S).2)).set ox (xo true t (Gd l Dv.ei S).1)):=by
 have hoxl:=(List.getElem?_eq_some_iff.1 hox).1
 have hol:=(List.getElem?_eq_some_iff.1 ho).1
 refine ACall.body [.cell 2 45] [0,1] Tryz.func269 Tryz.ntmps269 (fun d=>?_)
 refine Z35 ?_;refine V2 ?_
 refine W.drawT [0,1,0,4,3,0,63,127,255,127,639] [1,3] [.q 1 [] [0],.s [4] (some 0) [] [],.q 1 [] [1],.s [6] (some 1) [] [],.q 2 [] []] (fun B=>(Hp.set o (if B 1=true then pr l (Dv.ei S).2 else pr l S)).set ox (if B 0=true then xo false t [] else xo true t [])) (fun _=>[Il]) Ac (by kernel_rfl) (by simp only [Bool.false_eq_true,if_false];rw [F3 ho,F3 hox]) rfl (fun B=>by simp) ?_
 apply Y.q
 case h1 =>
  intro B hT hF
  exact Z90
 case hTF=>decide
 refine Y.loadUpT (o:=ox) (t':=45) (cs:=[A2 6,A5 t,A2 0,A2 0,A5 [],.slice true 6 ([].map A4)]) (cs':=[A2 6,A5 t,A2 0,A2 0,A5 [],.slice false 6 ([].map A4)]) Tryz.isAgg43 (fun B hB=>⟨by simp only [hB];exact gB hox,by simp [upd,List.set_set]<;>rfl,rfl⟩) ?_
 apply Y.q
 case h1 =>
  intro B hT hF
  exact Z90
 case hTF=>decide
 refine Y.callUp (r:=A4 (Dv.ei S).1) (o:=o) (x0:=pr l S) (x:=pr l (Dv.ei S).2) Tryz.call219 (fun B hT hF hB=>⟨by simp only [hB];exact gA ho hne,?_,rfl,Bt,?_⟩) ?_
 ·simp only [upd,hB,Nat.reduceEqDiff,if_false,if_true,Bool.false_eq_true]
  exact (qf hne).symm
 ·simp only [hB]
  exact hcf o _ S (A6 (gA ho hne)) hi rfl
 apply Y.q
 case h1 =>
  intro B hT hF
  exact mi
 case hTF=>decide
 refine Y.appendPut (tn:=[1,3]) (U:=(Hp.set o (pr l (Dv.ei S).2)).set ox (xo false t [])) (O:=[Il]) (o:=ox) (t':=45) (cs:=[A2 6,A5 t,A2 0,A2 0,A5 [],.slice false 6 ([].map A4)]) (by kernel_rfl) jU Tryz.type45 Tryz.sizeOf45 Tryz.sizeOf43 jU (A6 (gB hox)) ?_ ?_ ?_ (hfsz:=Tryz.sizeOf43)
 ·simp [Tryz.t45]
 ·simp [Tryz.t45]
 refine R.go ?_
 refine R.storeUpT jS (gB hox) ?_ ?_
 ·first|(rw [M4];exact Bj)|(have:=Bj (n:=((Hp.set o (pr l (Dv.ei S).2)).set ox (xo false t [])).length) (k:=6) (o:=true) (l:=[(Dv.ei S).1]);simp only [List.map_cons,List.map_nil,A7] at this;exact this)
 refine V2 ?_;refine W.seq ?_
 refine AW.loopC (α:=List Expr×PS) (fun r=>⟨34,A3 0 (.ptr ox 0) (A3 1 (.ro [.ptr o 0]) (A3 2 (.ptr (oid Hp.length 0) 0) (fun _=>.any))),(Hp.set o (pr l r.2)).set ox (xo true t r.1),[Il],[],none⟩) (fun r=>ArgsAt l Dv.ei S r) (fun r=>l.length-r.2.i) (([(Dv.ei S).1],(Dv.ei S).2)) (.start (hf S hi rfl)) (StLe.of_eq (by simp [List.set_set,xo,A7])) rfl (fun r hx=>?_)
 refine Z49 ?_
 refine R.go (h:=Q.loadUp (gA ho hne)) (hr:=?_)
 refine Nd ?_;refine G.call Tryz.call249 (fun hB=>Xq l r.2 R2 o _ (A6 (gA ho hne)) hx.fact.lt hl (by decide)) ?_;refine R.go ?_;refine R.fin [0,1,2,21] ?_
 refine W.cond (fun ht21=>?_) (fun ht21=>?_)
 ·have hon:=hx.on hl ht21 hf
  have hle:=hon.2.1.le
  have hlt0:=hx.fact.lt
  refine mw ?_;refine Z2 ?_;refine R.callUp Tryz.call250 (gA ho hne) (by simp) Bt (oo l r.2 o _ (A6 (gA ho hne)) hx.fact.lt hll) ?_;refine V2 ?_
  refine W.drawT0 [0,1,0,4,3,0,63,127,255,127,639] [1,3] [.q 1 [] [0],.s [25] (some 0) [] [],.q 1 [] [1],.s [27] (some 1) [] [],.q 2 [] []] (fun B=>(Hp.set o (if B 1=true then pr l (Dv.ei (Ab r.2)).2 else pr l (Ab r.2))).set ox (if B 0=true then xo false t r.1 else xo true t r.1)) (fun _=>[Il]) Ac (by kernel_rfl) (by simp only [Bool.false_eq_true,if_false];exact (qf hne).symm) rfl (fun B=>by simp) ?_
  apply Y.q
  case h1 =>
   intro B hT hF
   exact Z90
  case hTF=>decide
  refine Y.loadUpT (o:=ox) (t':=45) (cs:=[A2 6,A5 t,A2 0,A2 0,A5 [],.slice true 6 (r.1.map A4)]) (cs':=[A2 6,A5 t,A2 0,A2 0,A5 [],.slice false 6 (r.1.map A4)]) Tryz.isAgg43 (fun B hB=>⟨by simp only [hB];exact gB hox,by simp [upd,List.set_set]<;>rfl,rfl⟩) ?_
  apply Y.q
  case h1 =>
   intro B hT hF
   exact Z90
  case hTF=>decide
  refine Y.callUp (r:=A4 (Dv.ei (Ab r.2)).1) (o:=o) (x0:=pr l (Ab r.2)) (x:=pr l (Dv.ei (Ab r.2)).2) Tryz.call219 (fun B hT hF hB=>⟨by simp only [hB];exact gA ho hne,?_,rfl,Bt,?_⟩) ?_
  ·simp only [upd,hB,Nat.reduceEqDiff,if_false,if_true,Bool.false_eq_true]
   exact (qf hne).symm
  ·simp only [hB]
   exact hcf o _ (Ab r.2) (A6 (gA ho hne)) hon.1 hx.fact.nest
  apply Y.q
  case h1 =>
   intro B hT hF
   exact mi
  case hTF=>decide
  refine Y.appendPut (tn:=[1,3]) (U:=(Hp.set o (pr l (Dv.ei (Ab r.2)).2)).set ox (xo false t r.1)) (O:=[Il]) (o:=ox) (t':=45) (cs:=[A2 6,A5 t,A2 0,A2 0,A5 [],.slice false 6 (r.1.map A4)]) (by kernel_rfl) jU Tryz.type45 Tryz.sizeOf45 Tryz.sizeOf43 jU (A6 (gB hox)) ?_ ?_ ?_ (hfsz:=Tryz.sizeOf43)
  ·have:=hx.fact.len;have:=hx.fact.lt;simp only [List.length_map,Tryz.t45];omega
  ·have:=hx.fact.len;have:=hx.fact.lt;simp only [List.length_map,Tryz.t45];omega
  refine R.go ?_
  refine R.storeUpT jS (gB hox) ?_ ?_
  ·first|(rw [M4];exact Bj)|(have:=Bj (n:=((Hp.set o (pr l (Dv.ei S).2)).set ox (xo false t [])).length) (k:=6) (o:=true) (l:=[(Dv.ei S).1]);simp only [List.map_cons,List.map_nil,A7] at this;exact this)
  refine V2 ?_;refine K.blN ?_
  refine K.lpN (r.1++[(Dv.ei (Ab r.2)).1],(Dv.ei (Ab r.2)).2) hon.2.2 (by show l.length-(Dv.ei (Ab r.2)).2.i<l.length-r.2.i;have:r.2.i+1≤(Dv.ei (Ab r.2)).2.i:=hle;omega) (StCut.of_eq ?_)
  simp only [show Tryz.t45.size=6 from rfl,M4,List.set_set]
 have hout:=hx.out (by rw [ht21];simp)
 refine Z40 ?_;refine Cx ?_
 refine R.go (h:=Q.loadUpN (gB hox)) (hr:=?_)
 refine Z13 ?_;exact K.fin (V.one (V.cellN jA jS)) ⟨by rw [hout,M0];rfl,by rw [hout]⟩ (hlow:=by have:=Ae Hp.length (.mk 6 t noV r.1);rw [M0] at this;simpa using this)

/-- within, with the function that gathers a call's kids. -/
theorem ACc (l:List Tok) (S:PS) (a:Int) (t:Str) (Dv:Fam) (o:Nat) (Hp:List AObj) (A0 A1:AObj) (l0:ObjLow 0 A0) (ho:Hp[o]? = some (pr l S)) (hi:S.i<l.length) (hl:TokEnd l) (hll:l.length≤1048576) (hnl:S.nest≤30) (hd:DeepC l Dv S.nest):
  ACall Tryz.prog 260 [.ptr o 0,A2 a,.fn (.func 269) [] [.ptr (oid Hp.length 2) 0,.ro [.ptr o 0]]] (Hp++[A0,A1,xo true t []]) (fun r H'=>r=A4 (if S.nest=30 then Aa else .mk 6 t noV (Ov l a Dv.ei S).1)∧H'=Hp.set o (pr l (Ov l a Dv.ei S).2)++[A0,A1,xo true t (Ov l a Dv.ei S).1]):=by
 have hlt:=(List.getElem?_eq_some_iff.1 ho).1
 have ho':(Hp++[A0,A1,xo true t []])[o]? = some (pr l S):=A6 ho
 by_cases h30:S.nest=30
 ·refine (u7 l S a 269 [] [.ptr (oid Hp.length 2) 0,.ro [.ptr o 0]] Aa (C0 S) o (Hp++[A0,A1,xo true t []]) ((Hp++[A0,A1,xo true t []]).set o (pr l (C0 S))) ho' (by omega) Tryz.call269 (by simp) (getset ho') rfl (fun h=>h) (fun h=>absurd h30 h)).mono fun r H' h=>?_
  have e:Ov l a Dv.ei S=([],Cs 18 a S):=if_pos (by rw [h30];rfl)
  rw [e,if_pos h30]
  obtain ⟨h1,h2⟩:=h.1 h30
  exact ⟨h1,by rw [h2,List.set_append_left _ _ hlt]⟩
 have hq:=R4 (S:=C0 S) hl hi (hd.ei h30).1
 refine (u7 l S a 269 [] [.ptr (oid Hp.length 2) 0,.ro [.ptr o 0]] (.mk 6 t noV (Gd l Dv.ei (C0 S)).1) (Gd l Dv.ei (C0 S)).2 o (Hp++[A0,A1,xo true t []]) (Hp.set o (pr l (Gd l Dv.ei (C0 S)).2)++[A0,A1,xo true t (Gd l Dv.ei (C0 S)).1]) ho' (by omega) Tryz.call269 (by simp) (A6 (getset ho)) hq.nest (fun h y hy=>?_) (fun _ own=>?_)).mono fun r H' h=>?_
 ·rw [List.set_append_left _ _ hlt] at h
  rcases List.mem_append.1 hy with hy|hy
  ·rcases List.mem_or_eq_of_mem_set hy with h1|h1
   ·obtain ⟨i,hi',rfl⟩:=List.getElem_of_mem h1
    by_cases hio:i=o
    ·subst hio
     have:Hp[i]=pr l S:=by rw [List.getElem?_eq_getElem hi'] at ho;injection ho
     rw [this];exact Bt
    refine h _ (List.mem_append_left _ ?_)
    rw [List.mem_iff_getElem?]
    exact ⟨i,by rw [List.getElem?_set_ne (Ne.symm hio),List.getElem?_eq_getElem hi']⟩
   rw [h1];exact Bt
  simp only [List.mem_cons,List.not_mem_nil,or_false] at hy
  rcases hy with rfl|rfl|rfl
  ·exact h _ (List.mem_append_right _ (by simp))
  ·exact h _ (List.mem_append_right _ (by simp))
  exact yz
 ·have hoid:oid Hp.length 2≠o:=by unfold oid;omega
  have e1:(Hp++[A0,A1,xo true t []]).set o (pr l (C0 S))++own=(Hp.set o (pr l (C0 S))++[A0,A1,xo true t []])++own:=by rw [List.set_append_left _ _ hlt]
  rw [e1]
  have g1:((Hp.set o (pr l (C0 S))++[A0,A1,xo true t []])++own)[o]? = some (pr l (C0 S)):=A6 (A6 (getset ho))
  have g2:((Hp.set o (pr l (C0 S))++[A0,A1,xo true t []])++own)[oid Hp.length 2]? = some (xo true t []):=A6 (by
   have:=Aw (U:=Hp.set o (pr l (C0 S))) (O:=[A0,A1,xo true t []]) (n:=2)
   rw [List.length_set] at this
   exact this)
  refine (AEg l (C0 S) t Dv o (oid Hp.length 2) _ hoid g1 g2 hi hl hll (hd.ei h30).1 (hd.ei h30).2).mono fun r H' h=>⟨h.1,h.2.trans ?_⟩
  rw [List.append_assoc,List.set_append_left _ _ (by simpa using hlt),List.set_set]
  have:=Dx (U:=Hp.set o (pr l (Gd l Dv.ei (C0 S)).2)) (O:=[A0,A1,xo true t []]++own) (n:=2) (x:=xo true t (Gd l Dv.ei (C0 S)).1)
  rw [List.length_set] at this
  rw [this]
  simp
 have e:Ov l a Dv.ei S=((Gd l Dv.ei (C0 S)).1,Ti (Gd l Dv.ei (C0 S)).2):=if_neg (by
  show ¬(((S.nest:Int)==30)=true)
  simp
  omega)
 rw [e,if_neg h30]
 obtain ⟨h1,h2⟩:=h.2 h30
 exact ⟨h1,by rw [h2,List.set_append_left _ _ (by simpa using hlt),List.set_set]⟩
theorem AEh (l:List Tok) (S:PS) (Dv:Fam) (t:Tok) (o:Nat) (Hp:List AObj) (ho:Hp[o]? = some (pr l S)) (hi:(Ab S).i<l.length) (hl:TokEnd l) (hll:l.length≤1048576) (hnl:S.nest≤30) (hd:DeepC l Dv S.nest):ACall Tryz.prog 267 [.ptr o 0,I0 t] Hp (fun r H'=>r=A4 (Ge l Dv t S).1∧H'=Hp.set o (pr l (Ge l Dv t S).2)):=by
 have hi0:S.i<l.length:=by have:S.i+1<l.length:=hi;omega
 have hol:=(List.getElem?_eq_some_iff.1 ho).1
 have hkf:KFact l (Ab S) (Cf l Dv S):=R5 hl _ hi (fun h=>(hd.ei h).1)
 refine ACall.body [.cell 4 45] [0,1] Tryz.func267 Tryz.ntmps267 (fun d=>?_)
 refine Z1 ?_;refine Lp ?_;refine R.fin [2,3,4] ?_;refine Z1 ?_;refine R.call Tryz.call110 (xt t.text _) ?_;refine R.go ?_;refine R.fin [2,3,4,5] ?_;refine Z8 ?_;refine R.fin [2,3,4,5,12] ?_
 refine W.cond (fun ht12=>?_) (fun ht12=>?_)
 ·have hlt0:B6 t.text<0:=by simpa using ht12
  have e:Ge l Dv t S=(Aa,Cs 9 t.at_ S):=if_pos hlt0
  refine Z20 ?_;refine R.callUp Tryz.call221 ho (by simp) Bt (jp l S 9 t.at_ o _ (A6 ho)) ?_;refine Gg ?_;refine Z26 ?_;exact Z84
 have hge:¬B6 t.text<0:=by simpa using ht12
 refine L1 ?_;refine R.callUp Tryz.call250 ho (by simp) Bt (oo l S o _ (A6 ho) hi0 hll) ?_;refine Z17 ?_;refine R.fin [2,3,4,5,6] ?_;refine wu ?_;refine Z17 ?_;refine R.fin [2,3,4,5,6,7] ?_;refine Cx ?_;refine R.nilCell 2 5 6 ?_;refine Z22 ?_;refine R.makeFunc ?_
 refine R.callX (up':=(Hp.set o (pr l (Ab S))).set o (pr l (Cf l Dv S).2)) (own':=[Il,.cells 125 [A2 (A9 l S.i).kind,A5 (A9 l S.i).text,A2 (A9 l S.i).at_],xo true t.text (Cf l Dv S).1]) Tryz.call260 (by have:=ACc l (Ab S) (A9 l S.i).at_ t.text Dv o (Hp.set o (pr l (Ab S))) Il (.cells 125 [A2 (A9 l S.i).kind,A5 (A9 l S.i).text,A2 (A9 l S.i).at_]) Vi (getset ho) hi hl hll hnl hd;rw [List.length_set] at this;exact this) (by simp) (fun h=>ub h Bt) ?_
 refine R.fin [2,3,4,5,7] ?_;refine Z2 ?_;refine R.callUp Tryz.call268 (getset (getset ho)) (by simp) Bt (ABq l (Cf l Dv S).2 E3 o _ (A6 (getset (getset ho))) hkf.lt hll) ?_;refine R.fin [2,3,4,5,7] ?_;refine Z49 ?_
 refine R.go (h:=Q.loadUp (getset (getset (getset ho)))) (hr:=?_)
 refine Z62 ?_;refine Z70 ?_;refine R.fin [2,3,4,7,41] ?_
 refine W.cond (fun ht41=>?_) (fun ht41=>?_)
 ·have e:Ge l Dv t S=(Aa,Cs 8 t.at_ (E7 l E3 (Cf l Dv S).2)):=by
   unfold Ge
   rw [if_neg hge,if_pos (by have:=ht41;simp only [List.length_map] at this;exact this)]
  refine Z20 ?_;refine R.callUp Tryz.call221 (getset (getset (getset ho))) (by simp) Bt (jp l (E7 l E3 (Cf l Dv S).2) 8 t.at_ o _ (A6 (getset (getset (getset ho))))) ?_;refine Gg ?_;refine Z26 ?_;refine K.thR ?_;exact K.fin (V.one (V.cellN jA jS)) ⟨by rw [e,A7],by rw [e,List.set_set,List.set_set,List.set_set]⟩ (hlow:=low_agg _)
 have e:Ge l Dv t S=(.mk 6 t.text noV (Cf l Dv S).1,(E7 l E3 (Cf l Dv S).2)):=by
  unfold Ge
  rw [if_neg hge,if_neg (by have:=ht41;simp only [List.length_map] at this;rw [Bool.eq_false_iff] at this;exact this)]
 refine Z5 ?_;refine Z98 ?_;refine Z26 ?_;exact K.fin (V.one (V.cellN jA jS)) ⟨by rw [e,M0];rfl,by rw [e,List.set_set,List.set_set]⟩ (hlow:=by have:=Ae Hp.length (.mk 6 t.text noV (Cf l Dv S).1);rw [M0] at this;simpa using this)

theorem km {l:List Tok} (hl:TokEnd l) (hll:l.length≤1048576) (n:Nat) (Dv:Fam) (hn:n≤30) (hd:DeepC l Dv n):Xr l Dv n:=fun o Hp S t ho hi hS _ _=>by
 subst hS
 exact AEh l S Dv t o Hp ho hi hl hll hn hd
theorem cl {e:Expr} (h:Bw e=true):e.text.length≤16∧e.kids.length≤8:=by
 cases Gn h with
 | val v hp h0=>exact ⟨by simp [Jm,Expr.text],by simp [Jm,Expr.kids]⟩
 | name t ht =>
  refine ⟨?_,by simp [Ap,Expr.kids]⟩
  show t.length≤16
  cases t with
  | nil=>simp
  | cons c r =>
   simp only [F4,Bool.and_eq_true,decide_eq_true_eq] at ht
   exact ht.1.1.1
 | neg a=>exact ⟨by simp [Fk,Expr.text],by simp [Fk,Expr.kids]⟩
 | no a=>exact ⟨by simp [Fk,Expr.text],by simp [Fk,Expr.kids]⟩
 | bin t a b ht=>exact ⟨by have:=Yb ht;show t.length≤16;omega,by simp [I2,Expr.kids]⟩
 | call t k ha =>
  refine ⟨by have:=Rp ha;show t.length≤16;omega,?_⟩
  show k.length≤8
  rcases Rm ha with ⟨_,e⟩|⟨_,e⟩|⟨_,e⟩|⟨_,e⟩|⟨_,e⟩|⟨_,e⟩|⟨_,e⟩|⟨_,e⟩<;>omega
theorem U3:∀{l:List Expr} {y:Expr},y∈l→depthE y≤Cl l
 | a::r,y,h=>by
  rw [Cl]
  rcases List.mem_cons.1 h with rfl|h
  ·omega
  have:=U3 h
  omega
theorem eu:∀(n:Nat) (e:Expr),depthE e≤n→Ct Bw e=true→okE n e
 | 0,e,h,_=>by rw [Ku] at h;omega
 | n+1,e,h,hn=>by
  rw [Dj,Bool.and_eq_true] at hn
  rw [Ku] at h
  have hs:=cl hn.1
  refine ⟨by omega,by omega,fun y hy=>eu n y (by have:=U3 hy;omega) ((D8 _ _).1 hn.2 y hy)⟩
theorem Gt {e:Expr} (h:Ag e=true):okE 30 e∧sizeE e≤300:=by
 have h1:=Ep h
 unfold Ag at h
 simp only [Bool.and_eq_true,decide_eq_true_eq] at h
 exact ⟨eu 30 e h.1.1 h1,h.1.2⟩
theorem c42 (n:Nat) (e:Expr) (hok:okE n e) (hn:n≤1048576) (hg:Ct Hb e=true) (Hp:List AObj):AFun Tryz.prog 42 [A4 e] Hp (.tup [A5 (Oz e).1,A2 (Oz e).2]):=by
 refine ACall.body [.tmp 2,.tmp 3] [0] Tryz.func42 Tryz.ntmps42 (fun d=>?_)
 refine Z20 ?_;refine R.fin [1] ?_;refine Z31 ?_;refine R.call Tryz.call44 (c44 n e hok hn _) ?_;refine R.go ?_;refine R.fin [1,7] ?_
 refine W.cond (fun ht7=>?_) (fun ht7=>?_)
 ·have hsh:Oz e=([],1):=if_pos ht7
  refine Z1 ?_;refine Fs ?_;exact AA3
 have hnr:¬(!(Ah e))=true:=by rw [ht7];simp
 have hr:Ag e=true:=by rw [←Bu];simpa using ht7
 have hps:=Yc hr hg
 refine Zn ?_;refine R.build (places:=#[(0,2)]) jU (fun w=>by simp) jZ ?_;refine R.box ?_;refine R.go ?_;refine R.fin [1,4] ?_;refine Cx ?_;refine R.toBld 0 109 5 ?_;refine Z0 ?_
 refine R.callOwn (n:=0) (x:=Rn (Ai e)) Tryz.call71 (c71 n e hok (Ep hr) hg (oid Hp.length 0) [] _ (by rw [Aw];rfl) (by simp only [Fm,List.length_nil];omega)) ?_
 refine R.fin [4] ?_;refine Z34 ?_
 refine R.call Tryz.call72 (c72 (Ai e) (oid Hp.length 0) _ (by rw [Aw];rfl)) ?_
 refine R.go ?_;refine R.fin [4,17] ?_
 refine W.cond (fun ht17=>?_) (fun ht17=>?_)
 ·have hsh:Oz e=([],3):=by unfold Oz;rw [if_neg hnr,if_pos ht17]
  refine Z1 ?_;refine Fs ?_;exact AA3
 have hsh:Oz e=(Ai e,0):=by unfold Oz;rw [if_neg hnr,if_neg (by rw [ht17];simp)]
 refine Z85 ?_
 refine R.callOwn (n:=0) (x:=.cells 109 [.any,.any]) Tryz.call73 (c73 (Ai e) (oid Hp.length 0) _ (by rw [Aw];rfl)) ?_
 refine Z0 ?_;refine Fs ?_;refine AW.ret ?_;exact AB8

/-! fuse.Forth and plan.Text. -/
def At (c:List Col) (ms:List Mov):Nat→List Expr
 | 0=>I8 c
 | k+1=>match ms[k]? with
  | some m=>C6 m.take (colsAt c ms k) (At c ms k)++(B1 (colsAt c ms k) (At c ms k) m.ahead).1
  | none=>At c ms k
def G6 (c:List Col) (t:List Expr):List Mov→List Expr×Int
 | []=>(t,0)
 | m::r=>if (B1 c t m.ahead).2 != 0 then ([],(B1 c t m.ahead).2) else G6 (Am c m).1 (C6 m.take c t++(B1 c t m.ahead).1) r
/-- fuse.Forth. -/
def Hc (c:List Col) (l:List Mov):List Expr×Int:=if (D4 c l).2 != 0 then ([],1) else G6 c (I8 c) l
def Im (c:List Col) (ms:List Mov) (k:Nat):Prop:=G6 c (I8 c) ms=G6 (colsAt c ms k) (At c ms k) (ms.drop k)
theorem ACd {c:List Col} {ms:List Mov}:Im c ms 0:=rfl
theorem ew {c:List Col} {ms:List Mov} {k:Nat} {m:Mov} (hk:ms[k]? = some m) (h:Im c ms k) (he:((B1 (colsAt c ms k) (At c ms k) m.ahead).2 != 0)=false):Im c ms (k+1):=by
 unfold Im at h ⊢
 rw [h,I5 hk,G6,if_neg (by rw [he];simp),Do hk,At,hk]
theorem qg {c:List Col} {ms:List Mov} {k:Nat} {m:Mov} (hk:ms[k]? = some m) (h:Im c ms k) (he:((B1 (colsAt c ms k) (At c ms k) m.ahead).2 != 0)=true):G6 c (I8 c) ms=([],(B1 (colsAt c ms k) (At c ms k) m.ahead).2):=by
 unfold Im at h
 rw [h,I5 hk,G6,if_pos he]
theorem qh {c:List Col} {ms:List Mov} (h:Im c ms ms.length):G6 c (I8 c) ms=(At c ms ms.length,0):=by
 unfold Im at h
 rw [h,List.drop_length,G6]
/-- Trees that may be walked, printed and put again. -/
structure TOk (t:List Expr):Prop where
 ok:∀e∈t,okE 61 e
 rng:∀e∈t,Ct Hb e=true
theorem Gu {take:List Str}:∀{c:List Col} {l:List Expr},∀e∈C6 take c l,e∈l
 | [],[],e,h=>by cases h
 | [],_::_,e,h=>by cases h
 | _::_,[],e,h=>by cases h
 | y::c,x::l,e,h=>by
  unfold C6 at h
  split at h
  ·exact List.mem_cons_of_mem _ (Gu e h)
  rcases List.mem_cons.1 h with rfl|h
  ·exact List.mem_cons_self
  exact List.mem_cons_of_mem _ (Gu e h)
theorem Yd {c:List Col} {l:List Expr} (hl:∀e∈l,Ct Hb e=true) (hc:c.length=l.length):∀(n:Nat) (x y:Expr),okE n x→Ct Hb x=true→putF c l x=some y→Ct Hb y=true
 | 0,x,y,h,_,_=>h.elim
 | n+1,x,y,h,hr,hp=>by
  cases h2:x.op==2 with
  | true =>
   rw [Rh h2] at hp
   split at hp
   ·cases hp
   rename_i hf
   injection hp with hp
   subst hp
   obtain ⟨j,hj,hjl⟩:=Dm hf
   rw [hj,Int.toNat_natCast,List.getD_eq_getElem?_getD,List.getElem?_eq_getElem (by omega)]
   exact hl _ (List.getElem_mem (by omega))
  | false =>
   rw [Ri h2] at hp
   cases hk:H6 c l x.kids with
   | none=>rw [hk] at hp;cases hp
   | some s =>
    rw [hk] at hp
    injection hp with hp
    subst hp
    obtain ⟨h3,h4⟩:=M1 hk
    rw [Dj,Bool.and_eq_true] at hr
    rw [Dj,Bool.and_eq_true]
    refine ⟨hr.1,(D8 _ _).2 fun z hz=>?_⟩
    obtain ⟨e,he,hpe⟩:=h4 z hz
    exact Yd hl hc n e z (h.2.2 e he) ((D8 _ _).1 hr.2 e he) hpe
theorem qi {x:Expr} {c:List Col} {l:List Expr} (hx:okE 61 x) (hr:Ct Hb x=true) (ht:TOk l) (he:(Ci x c l).2=0):okE 61 (Ci x c l).1∧Ct Hb (Ci x c l).1=true∧Ah (Ci x c l).1=true:=by
 unfold Ci at he ⊢
 split at he
 ·exact absurd (show (1:Int)=0 from he) (by decide)
 rename_i h1
 rw [if_neg h1]
 have hcl:c.length=l.length:=by
  simp only [Bool.not_eq_true,Bool.or_eq_false_iff,bne_eq_false_iff_eq] at h1
  have:=h1.2
  omega
 cases hp:putF c l x with
 | none=>rw [hp] at he;exact absurd (show (9:Int)=0 from he) (by decide)
 | some y =>
  rw [hp] at he
  simp only at he ⊢
  split at he
  ·rename_i h2
   rw [if_pos h2]
   have h3:Ag y=true:=by rw [←Bu];exact h2
   exact ⟨Dl (by decide) (Gt h3).1,Yd ht.rng hcl 61 x y hx hr hp,h2⟩
  exact absurd (show (3:Int)=0 from he) (by decide)
theorem J0 {c:List Col} {t:List Expr} (ht:TOk t):∀(l:List Expr),(∀e∈l,okE 61 e)→(∀e∈l,Ct Hb e=true)→(B1 c t l).2=0→TOk (B1 c t l).1
 | [],_,_,_=>⟨fun e h=>(List.not_mem_nil h).elim,fun e h=>(List.not_mem_nil h).elim⟩
 | x::r,h1,h2,he=>by
  unfold B1 at he ⊢
  split at he
  ·rename_i h3
   exact absurd he (by simpa using h3)
  rename_i h3
  rw [if_neg h3]
  split at he
  ·rename_i h4
   exact absurd he (by simpa using h4)
  rename_i h4
  rw [if_neg h4]
  have ih:=J0 (c:=c) ht r (fun e he=>h1 e (List.mem_cons_of_mem _ he)) (fun e he=>h2 e (List.mem_cons_of_mem _ he)) (by simpa using h4)
  have hx:=qi (c:=c) (h1 x List.mem_cons_self) (h2 x List.mem_cons_self) ht (by simpa using h3)
  refine ⟨fun e he=>?_,fun e he=>?_⟩
  ·rcases List.mem_cons.1 he with rfl|he
   ·exact hx.1
   exact ih.ok e he
  rcases List.mem_cons.1 he with rfl|he
  ·exact hx.2.1
  exact ih.rng e he
theorem Rq {c:List Col} (hc:OkCols c):TOk (I8 c):=by
 refine ⟨fun e he=>?_,fun e he=>?_⟩
 ·obtain ⟨y,hy,rfl⟩:=List.mem_map.1 he
  exact ⟨hc.2 y hy,by simp [Ap,Expr.kids],fun z hz=>by simp [Ap,Expr.kids] at hz⟩
 obtain ⟨y,hy,rfl⟩:=List.mem_map.1 he
 rfl
/-- What holds of the trees behind k moves, if all went well till there. -/
theorem ey {c:List Col} {ms:List Mov} {k:Nat} {m:Mov} (hk:ms[k]? = some m) (hm:OkMov m) (h:TOk (At c ms k)) (he:((B1 (colsAt c ms k) (At c ms k) m.ahead).2 != 0)=false):TOk (At c ms (k+1)):=by
 have h1:=J0 (c:=colsAt c ms k) h m.ahead hm.ahead.ok hm.ahead.rng (by simpa using he)
 rw [At,hk]
 refine ⟨fun e he=>?_,fun e he=>?_⟩
 ·rcases List.mem_append.1 he with he|he
  ·exact h.ok e (Gu e he)
  exact h1.ok e he
 rcases List.mem_append.1 he with he|he
 ·exact h.rng e (Gu e he)
 exact h1.rng e he
theorem J1 {c:List Col} {m:Mov} (h:(Am c m).2=0):(Am c m).1=B5 c m.take++Al c m∧Bf c=true∧Bf (Am c m).1=true:=by
 unfold Am at h ⊢
 split at h
 ·rename_i h1
  exact xi
 rename_i h1
 rw [if_neg h1]
 split at h
 ·rename_i h2
  exact absurd h (by simpa using h2)
 rename_i h2
 rw [if_neg h2]
 split at h
 ·rename_i h3
  exact absurd h (by simpa using h3)
 rename_i h3
 rw [if_neg h3]
 obtain ⟨a,_,b,d,e⟩:=dr (by simpa using h1:(Bp c m.take (Al c m)).2=0)
 rw [e]
 refine ⟨rfl,a,?_⟩
 unfold Bf
 rw [b,Bool.and_true]
 refine decide_eq_true ?_
 show ((B5 c m.take++Al c m).length:Int)≤12
 omega
theorem Ye {c:List Col} {ms:List Mov} {k:Nat} {m:Mov} (hk:ms[k]? = some m) (hm:Di m=true) (ht:(Am (colsAt c ms k) m).2=0) (h:(At c ms k).length=(colsAt c ms k).length) (he:((B1 (colsAt c ms k) (At c ms k) m.ahead).2 != 0)=false):(At c ms (k+1)).length=(colsAt c ms (k+1)).length:=by
 rw [At,Do hk,hk]
 show (C6 _ _ _++_).length=_
 rw [(J1 ht).1,List.length_append,List.length_append,Ev,Gr h.symm,Gs _ (by simpa using he),(De (Gq hm)).1]
/-! The text. -/
theorem Gv {n k:Nat} {o:Bool} {a:List Expr} {e:Expr}:Low n (.slice o k (a.map A4++[.agg (Bi e)])):=by
 have:=Ff (n:=n) (k:=k) (o:=o) (a:=a) (e:=e)
 rwa [A7] at this
theorem Ky {c:List Col} {t:List Expr}:∀{l:List Expr},(∀(j:Nat) (y:Expr),l[j]? = some y→((Ci y c t).2 != 0)=false)→B1 c t l=(l.map (fun e=>(Ci e c t).1),0)
 | [],_=>rfl
 | x::r,h=>by
  have h1:=h 0 x rfl
  have ih:=Ky (c:=c) (t:=t) (l:=r) (fun j y hy=>h (j+1) y hy)
  rw [B1,if_neg (by rw [h1];simp),if_neg (by rw [ih];simp),ih]
  rfl
theorem J2 {c:List Col} {t:List Expr}:∀{l:List Expr} {x:Nat} {y:Expr},(∀(j:Nat) (z:Expr),j<x→l[j]? = some z→((Ci z c t).2 != 0)=false)→l[x]? = some y→((Ci y c t).2 != 0)=true→B1 c t l=([],(Ci y c t).2)
 | [],_,_,_,h,_=>by simp at h
 | a::r,0,y,h0,h,h1=>by
  have:a=y:=by simpa using h
  subst this
  rw [B1,if_pos h1]
 | a::r,x+1,y,h0,h,h1=>by
  have h2:=h0 0 a (by omega) rfl
  have ih:=J2 (c:=c) (t:=t) (l:=r) (x:=x) (y:=y) (fun j z hj hz=>h0 (j+1) z (by omega) hz) (by simpa using h) h1
  rw [B1,if_neg (by rw [h2];simp),if_pos (by rw [ih];exact h1),ih]
theorem c55 (l:List Expr) (hl:l.length≤1048576) (hlo:∀e∈l,okE 61 e) (c:List Col) (hc:OkCols c) (by_:List Expr) (hbl:by_.length≤1048576) (hbo:∀e∈by_,okE 61 e) (Hp:List AObj):AFun Tryz.prog 55 [Au l,A8 c,Au by_] Hp (.tup [Au (B1 c by_ l).1,A2 (B1 c by_ l).2]):=by
 refine ACall.body [.tmp 6,.tmp 7] [0,1,2] Tryz.func55 Tryz.ntmps55 (fun d=>?_)
 refine Z1 ?_;refine V2 ?_;refine Z2 ?_;refine R.fin [0,1,2,8] ?_;refine Z66 ?_;refine R.nilSl 8 6 ?_;refine Z22 ?_;refine R.fin [1,2,8,13,14,15] ?_
 refine AW.loopC (α:=Nat) (fun x=>⟨35,A3 1 (A8 c) (A3 2 (Au by_) (A3 8 (.slice true 6 (((l.take x).map (fun e=>(Ci e c by_).1)).map A4)) (A3 13 (Au l) (A3 14 (A2 (l.length:Nat)) (A3 15 (A2 (x:Nat)) (fun _=>.any)))))),Hp,[],[],none⟩) (fun x=>x≤l.length∧∀(j:Nat) (y:Expr),j<x→l[j]? = some y→((Ci y c by_).2 != 0)=false) (fun x=>l.length-x) (0) ⟨Nat.zero_le _,fun j y h=>by omega⟩ (StLe.of_eq (by simp)) rfl (fun x hx=>?_)
 refine Z2 ?_;refine R.fin [1,2,8,13,14,15,16] ?_
 refine W.condX (fun ht16=>?_) (fun ht16=>?_)
 ·have hlt:x<l.length:=by simpa using ht16
  refine Pa ?_
  refine R.go (h:=Q.indexAddr (x) (A4 l[x]) (fun _=>Ad hlt)) (hr:=?_)
  refine Ml ?_;refine R.fin [1,2,8,10,13,14,15] ?_;refine Z20 ?_;refine R.call Tryz.call23 (c23 l[x] (hlo _ (List.getElem_mem hlt)) c hc by_ hbl hbo _) ?_;refine Uy ?_;refine R.fin [1,2,8,11,12,13,14,15] ?_;refine Z8 ?_;refine R.fin [1,2,8,11,12,13,14,15,27] ?_
  refine W.cond (fun ht27=>?_) (fun ht27=>?_)
  ·have hm:=J2 hx.2 (List.getElem?_eq_getElem hlt) ht27
   refine Z1 ?_;refine R.nilTmp 6 6 false ?_;refine Z45 ?_;refine Z37 ?_;exact rl
  refine ij ?_
  refine R.append jU Tryz.type45 ?_ ?_ ?_
  ·simp only [List.length_map,List.length_take,List.length_cons,List.length_nil,Tryz.t45];omega
  ·simp only [List.length_map,List.length_take,List.length_cons,List.length_nil,Tryz.t45];omega
  refine Ic ?_;refine R.fin [1,2,8,13,14,15] ?_;refine Pf ?_;refine R.fin [1,2,8,13,14,15] ?_;refine K.lpN (x+1) ⟨hlt,Ax hlt hx.2 ht27⟩ (by omega) ?_
  rw [Fi hlt,List.map_append]
  rw [List.map_cons,List.map_nil,A7]
  simp only [show Tryz.t45.size=6 from rfl]
  exact StCut.take (own:=[]) (fun _=>.refl _) (by repeat (first|exact As|refine Ar (by first|(simp [or_imp,forall_and];done)|exact Gv|exact Bd|exact C8) ?_)) (by simp) (by simp)
 have hxe:l.length≤x:=by simpa using ht16
 have hm:B1 c by_ l=(l.map (fun e=>(Ci e c by_).1),0):=Ky fun j y hy=>hx.2 j y (by have:=(List.getElem?_eq_some_iff.1 hy).1;omega) hy
 refine Z23 ?_;refine Z20 ?_;refine R.fin [6,7] ?_;refine AW.ret ?_;exact K.fin (V.two V.tmp V.tmp) ⟨by rw [hm,List.take_of_length_le hxe],rfl⟩ (hlow:=by simp only [J4,List.mem_cons,List.mem_nil_iff,or_false];rintro y (rfl|rfl);exact Bd;simp)

theorem c56 (m:Mov) (c:List Col) (l:List Expr) (Hp:List AObj):AFun Tryz.prog 56 [Dq m,A8 c,Au l] Hp (.fn (.func 81) [] [.ro [A8 c],.ro (Fd m),.ro [Au l]]):=by
 refine ACall.body [.tmp 6] [0,1,2] Tryz.func56 Tryz.ntmps56 (fun d=>?_)
 refine Z43 ?_;refine R.fin [3,4,5] ?_;refine mx ?_;refine Z88 ?_;exact K.fin (V.one V.tmp) (hlow:=by simp [or_imp,forall_and,Ae])

theorem cm {take:List Str} {c:List Col} {l:List Expr} {k:Nat} {y:Col} (hcl:c.length=l.length) (hy:c[k]? = some y) (h:take.contains y.name=true):C6 take (c.take (k+1)) (l.take (k+1))=C6 take (c.take k) (l.take k):=by
 induction c generalizing l k with
 | nil=>simp at hy
 | cons a r ih =>
  cases l with
  | nil=>simp at hcl
  | cons b s =>
   cases k with
   | zero =>
    have:a=y:=by simpa using hy
    subst this
    simp only [List.take_succ_cons,List.take_zero]
    rw [C6,if_pos h]
   | succ k =>
    have ih':=ih (l:=s) (k:=k) (by simpa using hcl) (by simpa using hy)
    rw [List.take_succ_cons,List.take_succ_cons,List.take_succ_cons,List.take_succ_cons,C6,C6,ih']
theorem qj {take:List Str} {c:List Col} {l:List Expr} {k:Nat} {y:Col} {e:Expr} (hcl:c.length=l.length) (hy:c[k]? = some y) (he:l[k]? = some e) (h:take.contains y.name=false):C6 take (c.take (k+1)) (l.take (k+1))=C6 take (c.take k) (l.take k)++[e]:=by
 induction c generalizing l k with
 | nil=>simp at hy
 | cons a r ih =>
  cases l with
  | nil=>simp at hcl
  | cons b s =>
   cases k with
   | zero =>
    have h1:a=y:=by simpa using hy
    have h2:b=e:=by simpa using he
    subst h1
    subst h2
    simp only [List.take_succ_cons,List.take_zero]
    rw [C6,if_neg (by rw [h];simp)]
    rfl
   | succ k =>
    have ih':=ih (l:=s) (k:=k) (by simpa using hcl) (by simpa using hy) (by simpa using he)
    rw [List.take_succ_cons,List.take_succ_cons,List.take_succ_cons,List.take_succ_cons,C6,C6,ih']
    split<;>rfl
theorem cn {n:Nat} {m:Mov}:Low n (.ro (Fd m)):=by
 refine .ro _ fun y hy=>?_
 simp only [List.mem_cons,List.mem_nil_iff,or_false] at hy
 rcases hy with rfl|rfl|rfl|rfl|rfl
 ·exact .v _
 ·exact ka
 ·exact C8
 ·exact Bd
 exact Bd
theorem c81 (l0:Nat) (m:Mov) (c:List Col) (l:List Expr) (hc:c.length≤1048576) (hcl:c.length=l.length) (ht:m.take.length≤1048576) (U:Nat→List AObj) (hlen:∀k,(U k).length=(U 0).length) (hll:l0<(U 0).length)
  (hlw:∀k,∀x∈U k,ObjLow (U 0).length x) (hn:∀k y,c[k]? = some y→m.take.contains y.name=true→U (k+1)=U k)
  (hy:∀k y e X,c[k]? = some y→l[k]? = some e→m.take.contains y.name=false→AYield Tryz.prog l0 [A4 e] (U k++X) (fun b H'=>b=true∧H'=U (k+1)++X)):ACall Tryz.prog 81 [.yield l0,.ro [A8 c],.ro (Fd m),.ro [Au l]] (U 0) (fun _ H'=>H'=U c.length):=by
 refine ACall.body [] [0,1,2,3] Tryz.func81 Tryz.ntmps81 (fun d=>?_)
 refine Z20 ?_;refine R.fin [0,2,3,7,8,9] ?_
 refine AW.loopC (α:=Nat) (fun x=>⟨30,A3 0 (.yield l0) (A3 2 (.ro (Fd m)) (A3 3 (.ro [Au l]) (A3 7 (A8 c) (A3 8 (A2 (c.length:Nat)) (A3 9 (A2 (x:Nat)) (fun _=>.any)))))),U x,[],[],none⟩) (fun x=>x≤c.length) (fun x=>c.length-x) (0) (Nat.zero_le _) (StLe.of_eq (by simp)) rfl (fun x hx=>?_)
 refine Z2 ?_;refine R.fin [0,2,3,7,8,9,10] ?_
 refine W.condX (fun ht10=>?_) (fun ht10=>?_)
 ·have hlt:x<c.length:=by simpa using ht10
  have hle:x<l.length:=by omega
  refine Pg ?_
  refine R.go (h:=Q.indexAddr (x) (An c[x]) (fun _=>Ad hlt)) (hr:=?_)
  refine ib ?_;refine R.fin [0,2,3,5,6,7,8,9] ?_;refine Z43 ?_;refine R.call Tryz.call40 (c40 m.take _ ht _) ?_;refine Z86 ?_
  refine G.go (h:=Q.indexAddr (x) (A4 l[x]) (fun _=>Ad hle)) (hr:=?_)
  refine G.go ?_
  refine G.yield (l:=l0) (C:=((!m.take.contains c[x].name)==true)) (args:=[A4 l[x]]) (fun hC=>hy x c[x] _ _ (List.getElem?_eq_getElem hlt) (List.getElem?_eq_getElem hle) (by simpa using hC)) ?_
  intro b V O hV hb hb0
  have hVO:V=U (x+1)∧O=[AObj.cells 58 [A5 c[x].name,A2 c[x].kind]]∧(m.take.contains c[x].name=false→b=true):=by
   cases hcn:m.take.contains c[x].name with
   | true =>
    obtain ⟨h1,h2⟩:=hb0 (by rw [hcn];rfl)
    exact ⟨h1.trans (hn x c[x] (List.getElem?_eq_getElem hlt) hcn).symm,h2,fun e=>by cases e⟩
   | false =>
    obtain ⟨h1,h2⟩:=hb (by rw [hcn];rfl)
    have h3:=List.append_inj h2 (by rw [hV,hlen x,hlen (x+1)])
    exact ⟨h3.1,h3.2,fun _=>h1⟩
  obtain ⟨rfl,rfl,hbt⟩:=hVO
  refine ⟨fun _=>by rw [hlen (x+1)];exact hlw (x+1),fun o ho=>(by cases ho),?_⟩
  refine Z70 ?_;refine R.fin [0,2,3,7,8,9,28] ?_
  refine W.cond (fun ht28=>?_) (fun ht28=>?_)
  ·exfalso
   have hcf:m.take.contains c[x].name=false:=by simp at ht28 ⊢;exact ht28.1
   rw [hbt hcf] at ht28
   simp at ht28
  refine Nf ?_;refine R.fin [0,2,3,7,8,9] ?_;refine iu ?_
  exact StCut.take (own:=[]) (fun _=>.refl _) (by repeat (first|exact As|refine Ar (by first|(simp [or_imp,forall_and];done)|exact cn|(simp [or_imp,forall_and,Ae];done)|(have:=hlen (x+1);simp;omega)) ?_)) (by simp) (by simp)
 have hxe:x=c.length:=by simp at ht10;omega
 exact AAv

/-! ONE LINE EACH. -/
theorem co {c:List Col} {ms:List Mov} (he:(Bn c ms).2=0):∀k,k≤ms.length→NS c ms k
 | 0,_=>yp
 | k+1,h=>by
  have ih:=co he k (by omega)
  have hk:ms[k]? = some ms[k]:=List.getElem?_eq_getElem (by omega)
  by_cases ht:(Am (colsAt c ms k) ms[k]).2=0
  ·exact Vp hk ih ht
  exact absurd ((cd hk ih ht).symm.trans he) ht
theorem Pq {c:List Col} {ms:List Mov} (he:(Bn c ms).2=0) {k:Nat} {m:Mov} (hk:ms[k]? = some m):(Am (colsAt c ms k) m).2=0:=by
 have hl:=(List.getElem?_eq_some_iff.1 hk).1
 by_cases ht:(Am (colsAt c ms k) m).2=0
 ·exact ht
 exact absurd ((cd hk (co he k (by omega)) ht).symm.trans he) ht
theorem Ia {c:List Col} {ms:List Mov}:∀{n k:Nat},k≤n→(B8 c ms n)[k]? = some (colsAt c ms k)
 | 0,k,h=>by
  have:k=0:=by omega
  subst this;rfl
 | n+1,k,h=>by
  have hl:=H5 c ms n
  rw [B8]
  by_cases e:k=n+1
  ·subst e
   rw [List.getElem?_append_right (by omega),hl,Nat.sub_self]
   rfl
  rw [List.getElem?_append_left (by omega)]
  exact Ia (by omega)
theorem Hr {c:List Col} {ms:List Mov} (h:Iy c ms=true):∀m∈ms,Di m=true:=by
 unfold Iy Ke at h
 simp only [Bool.and_eq_true,List.all_eq_true] at h
 exact h.2.2
theorem Mz {c:List Col} {ms:List Mov} (hc:Bf c=true) (he:(Bn c ms).2=0):∀k,Bf (colsAt c ms k)=true
 | 0=>hc
 | k+1=>by
  cases hk:ms[k]? with
  | none =>
   rw [colsAt,hk]
   exact Mz hc he k
  | some m =>
   rw [Do hk]
   exact (J1 (Pq he hk)).2.2
/-- What a sound migration comes to. -/
theorem Jb {c:List Col} {ms:List Mov} (h:((D4 c ms).2 != 0)=false):Iy c ms=true∧(Bn c ms).2=0∧D4 c ms=(B8 c ms ms.length,0):=by
 cases hm:Iy c ms with
 | false=>rw [Tt hm] at h;cases h
 | true =>
  by_cases he:(Bn c ms).2=0
  ·have e:=ce (co he ms.length (Nat.le_refl _))
   exact ⟨rfl,he,Tu hm e⟩
  rw [Rg hm he] at h
  exact absurd (by simpa using h) he
theorem ql {n:Nat} {m:Mov} {t:TypeId}:ObjLow n (.cells t (Fd m)):=Kw
theorem Yf {c:List Col} {l:List Mov} (h:((D4 c l).2 != 0)=true):Hc c l=([],1):=if_pos h
theorem Kz {c:List Col} {l:List Mov} (h:((D4 c l).2 != 0)=false):Hc c l=G6 c (I8 c) l:=if_neg (by rw [h];simp)
theorem Yg {c:List Col} {ms:List Mov} {k:Nat} {m:Mov} (h:ms[k]? = some m):Au (At c ms (k+1))=.slice false 6 ((C6 m.take (colsAt c ms k) (At c ms k)).map A4++(B1 (colsAt c ms k) (At c ms k) m.ahead).1.map A4):=by
 rw [At,h,←List.map_append]
theorem c27 (c:List Col) (hc:OkCols c) (hc2:c.length≤1000000) (l:List Mov) (h:OkMovs l) (Hp:List AObj):AFun Tryz.prog 27 [A8 c,Ca l] Hp (.tup [Au (Hc c l).1,A2 (Hc c l).2]):=by
 refine ACall.body [.tmp 4,.tmp 5] [0,1] Tryz.func27 Tryz.ntmps27 (fun d=>?_)
 refine mr ?_;refine Z1 ?_;refine R.call Tryz.call14 (c14 c hc hc2 l h _) ?_;refine Z77 ?_;refine R.fin [0,1,6,7] ?_;refine Z8 ?_;refine R.fin [0,1,6,22] ?_
 refine W.cond (fun ht22=>?_) (fun ht22=>?_)
 ·have hm:=Yf ht22
  refine Z2 ?_;refine me ?_;exact Z72
 have hm:=Kz ht22
 obtain ⟨hmay,hst,hss⟩:=Jb ht22
 have hmvo:=Hr hmay
 rw [hss]
 refine L1 ?_;refine R.call Tryz.call54 (c54 c (by omega) _) ?_;refine R.go ?_;refine R.fin [1,6,8] ?_;refine Z34 ?_;refine R.fin [6,8,25,26,27] ?_
 refine AW.loopG (α:=Nat×List AObj×List Nat) (fun s=>⟨65,A3 6 (I6 (B8 c l l.length)) (A3 8 (Au (At c l s.1)) (A3 25 (Ca l) (A3 26 (A2 (l.length:Nat)) (A3 27 (A2 (s.1:Nat)) (fun _=>.any))))),Hp,s.2.1,s.2.2,none⟩) (fun s=>s.1≤l.length∧Im c l s.1∧TOk (At c l s.1)∧(At c l s.1).length=(colsAt c l s.1).length∧(∀x∈s.2.1,ObjLow (Hp.length+s.2.1.length) x)∧∀o∈s.2.2,(Hp++s.2.1)[o]? = some .defs) (fun s=>l.length-s.1) ((0,[],[])) ⟨Nat.zero_le _,ACd,Rq hc,by simp [At,I8,colsAt],(fun x hx=>(List.not_mem_nil hx).elim),fun o ho=>(List.not_mem_nil ho).elim⟩ (StLe.of_eq (by simp [At])) rfl (fun s hs=>?_)
 obtain ⟨k,O,Df⟩:=s
 obtain ⟨hk0,hnf,hTo,hTl,hOo,hDo⟩:=hs
 dsimp only at hk0 hnf hTo hTl hOo hDo ⊢
 refine Z2 ?_;refine R.fin [6,8,25,26,27,28] ?_
 refine W.condX (fun ht28=>?_) (fun ht28=>?_)
 ·have hlt:k<l.length:=by simpa using ht28
  have hll:=h.len
  have hmk:l[k]? = some l[k]:=List.getElem?_eq_getElem hlt
  have hmo:=h.each _ (List.getElem_mem hlt)
  have hCo:=Eb hc (fun m hm=>h.each m hm) k
  refine Pg ?_
  refine R.go (h:=Q.indexAddr (k) (Dq l[k]) (fun _=>Ad hlt)) (hr:=?_)
  refine R.go ?_;refine R.alloc (n:=O.length) (ho:=rfl) jZ ?_;refine R.go ?_
  refine R.storeOwn (n:=O.length+0) (ho:=oat.trans rfl) (hset:=by rw [m0]<;>simp only [List.set_cons_succ,List.set_cons_zero]<;>rfl) jS ?_
  refine R.fin [6,8,9,10,25,26,27] ?_;refine W.drawQ [0,1,0,0,12,28,0,127,255,511,511,1023,4095] 12 Ac (by kernel_rfl) ?_;refine D.go ?_
  refine D.go (h:=Q.loadOwn (n:=O.length+0) (ho:=oat.trans rfl)) (hr:=?_)
  refine Z14 ?_
  refine D.go (h:=Q.indexAddr (k) (A8 (colsAt c l k)) (fun _=>jx (Ia (by omega)))) (hr:=?_)
  refine Z14 ?_
  refine D.call Tryz.call55 (c55 l[k].ahead hmo.ahead.len hmo.ahead.ok (colsAt c l k) hCo (At c l k) (by have:=hCo.1;omega) hTo.ok _) ?_
  refine Nh ?_;refine Ux ?_;refine R.fin [6,8,9,10,11,12,25,26,27] ?_;refine Z8 ?_;refine R.fin [6,8,9,10,11,12,25,26,27,44] ?_
  refine W.cond (fun ht44=>?_) (fun ht44=>?_)
  ·have hm2:=qg hmk hnf ht44
   refine Z1 ?_;refine me ?_;refine Z41 ?_;refine Z6 ?_;refine K.lgR ?_;refine K.thR ?_;exact AB9
  refine Zn ?_
  refine R.alloc (n:=O.length+1) (hn:=by simp) (ho:=by simp only [List.append_assoc,List.cons_append,List.nil_append]<;>rfl) jZ ?_
  refine R.nilOwn (O.length+1) 6 ?_ (ho:=oat.trans rfl) (hset:=by rw [m0]<;>simp only [List.set_cons_succ,List.set_cons_zero]<;>rfl)
  refine R.assumeLow (fun hlow=>?_)
  refine R.fin [6,8,9,10,11,13,25,26,27] ?_;refine W.seq ?_;refine W.drawQ [0,0,0,6,14,0,63] 6 Ac (by kernel_rfl) ?_
  refine D.go (h:=Q.loadOwnN (n:=O.length+0) (ho:=oat.trans rfl)) (hr:=?_)
  refine Z14 ?_
  refine D.go (h:=Q.indexAddr (k) (A8 (colsAt c l k)) (fun _=>jx (Ia (by omega)))) (hr:=?_)
  refine Z14 ?_;refine D.tail ?_;refine R.call Tryz.call56 (c56 l[k] (colsAt c l k) (At c l k) _) ?_;refine R.fin [6,11,13,25,26,27,52] ?_;refine Hj ?_
  refine W.rangeV (m:=O.length+2) (hm:=by simp) (ha:=rfl) Tryz.call81 (fun FR as' bd' hFR has hbd=>?_)
  generalize hCd:colsAt c l k=C at *
  generalize hTd:At c l k=T at *
  generalize hmd:l[k]=m at *
  have hFRl:∀s,Low (Hp.length+(O.length+4)) (FR s):=by
   intro s
   rw [hFR]
   refine Low.strip ?_
   revert s
   repeat (first|exact As|refine Ar (by first|exact Bd|exact Fj|exact H4|(simp [oid,or_imp,forall_and,Ae];done)|(simp [oid,or_imp,forall_and]<;>try omega)) ?_)
  have hstl:∀q,(C6 m.take (C.take q) (T.take q)).length≤1048576:=fun q=>by
   have h1:=Gr (take:=m.take) (c:=C.take q) (l:=T.take q) (by simp [hTl])
   have h2:=Cv (C.take q) m.take
   have h3:=hCo.1
   rw [List.length_take] at h2
   omega
  have hOl:∀{j:Nat} {o:Bool} {lp:AObj},ObjLow (Hp.length+(O.length+4)) lp→∀x∈O++[AObj.cells 64 (Fd m),AObj.cells 43 [AV.slice o 6 ((C6 m.take (C.take j) (T.take j)).map A4)],AObj.defs,lp],ObjLow (Hp.length+(O.length+4)) x:=by
   intro j o lp hlp x hx
   rcases List.mem_append.1 hx with hx|hx
   ·exact ObjLow.le (by omega) (hOo x hx)
   simp only [List.mem_cons,List.mem_nil_iff,or_false] at hx
   rcases hx with rfl|rfl|rfl|rfl
   ·exact ql
   ·intro y hy
    rw [List.mem_singleton.1 hy]
    exact Bd
   ·trivial
   exact hlp
  refine ⟨_,ACall.heapEq (by rw [List.append_assoc];rfl) (c81 (oid Hp.length (O.length+3)) m C T hCo.1 hTl.symm hmo.takes (fun j=>Hp++(O++[AObj.cells 64 (Fd m),AObj.cells 43 [AV.slice true 6 ((C6 m.take (C.take j) (T.take j)).map A4)],AObj.defs,AObj.loop LoopState.ready none FR 65 #[53] as' bd' (oid Hp.length (O.length+2))])) (fun j=>by simp) (by simp [oid]) (fun j x hx=>?_) (fun j y hk hcn=>by simp only [cm hTl.symm hk hcn]) (fun q y e X hk hke hcn=>?_)),?_⟩
  ·have:=Ig (fun x hx=>ObjLow.le (by omega) (hlow x hx)) (hOl (o:=true) (lp:=AObj.loop LoopState.ready none FR 65 #[53] as' bd' (oid Hp.length (O.length+2))) ⟨hFRl,by simp [oid]⟩) x hx
   simpa using this
  ·generalize hV:Hp++(O++[AObj.cells 64 (Fd m),AObj.cells 43 [AV.slice true 6 ((C6 m.take (C.take q) (T.take q)).map A4)],AObj.defs,AObj.loop LoopState.ready none FR 65 #[53] as' bd' (oid Hp.length (O.length+2))])++X=V
   have hL:V[(oid Hp.length (O.length+3))]? = some (AObj.loop LoopState.ready none FR 65 #[53] as' bd' (oid Hp.length (O.length+2))):=by rw [←hV,List.append_assoc,List.append_assoc,Mj];rfl
   have hA0:V[(oid Hp.length (O.length+1))]? = some (AObj.cells 43 [AV.slice true 6 ((C6 m.take (C.take q) (T.take q)).map A4)]):=by rw [←hV,List.append_assoc,List.append_assoc,Mj];rfl
   refine AYield.ofRound (pd:=none) (fr:=FR) (sz:=65) (ps:=#[53]) (df:=(oid Hp.length (O.length+2))) (asg:=as') (bd:=bd') hL rfl (by decide) (fun d=>?_)
   subst hFR has hbd
   refine W.keep [13,53] ?_;refine AW.region ?_;refine Z17 ?_;refine R.fin [13,14] ?_
   refine ⟨rfl,none,hL,?_⟩
   generalize hbz:(AObj.loop LoopState.busy _ _ _ _ _ _ _)=bz
   have hA:(V.set (oid Hp.length (O.length+3)) bz)[(oid Hp.length (O.length+1))]? = some (AObj.cells 43 [AV.slice true 6 ((C6 m.take (C.take q) (T.take q)).map A4)]):=by rw [List.getElem?_set_ne (Cd (by omega))];exact hA0
   refine Hj ?_
   refine W.drawT0 [0,0,1,0,15,31,63,31] [0] [.s [54] (some 0) [] [],.q 3 [] []] (fun B=>(V.set (oid Hp.length (O.length+3)) bz).set (oid Hp.length (O.length+1)) (if B 0=true then AObj.cells 43 [AV.slice false 6 ((C6 m.take (C.take q) (T.take q)).map A4)] else AObj.cells 43 [AV.slice true 6 ((C6 m.take (C.take q) (T.take q)).map A4)])) (fun _=>[.cells 45 (Bi e)]) Ac (by kernel_rfl) (by simp only [Bool.false_eq_true,if_false];exact F3 hA) rfl (fun B=>by simp) ?_
   refine Y.loadUpT (o:=(oid Hp.length (O.length+1))) (t':=43) (cs:=[.slice true 6 ((C6 m.take (C.take q) (T.take q)).map A4)]) (cs':=[.slice false 6 ((C6 m.take (C.take q) (T.take q)).map A4)]) Tryz.isAgg43 (fun B hB=>⟨by simp only [hB];exact getset hA,by simp only [upd,if_true,List.set_set],rfl⟩) ?_
   apply Y.q
   case h1 =>
    intro B hT hF
    refine Z14 ?_;exact Z47
   case hTF=>decide
   refine Y.appendPut3 (tn:=[0]) (U:=(V.set (oid Hp.length (O.length+3)) bz).set (oid Hp.length (O.length+1)) (AObj.cells 43 [AV.slice false 6 ((C6 m.take (C.take q) (T.take q)).map A4)])) (O:=[.cells 45 (Bi e)]) (o:=(oid Hp.length (O.length+1))) (t':=43) (cs:=[.slice false 6 ((C6 m.take (C.take q) (T.take q)).map A4)]) (by kernel_rfl) jU Tryz.type45 Tryz.sizeOf45 Tryz.sizeOf43 (A6 (getset hA)) ?_ ?_ ?_
   ·have:=hstl q;simp [Tryz.t45];omega
   ·have:=hstl q;simp [Tryz.t45];omega
   refine R.storeUpT jS (getset hA) ?_ ?_
   ·exact Gv
   refine Z67 ?_
   subst hbz
   refine K.rdN (ly hL (Cd (by omega)) (Cd (by omega))) ?_
   refine ⟨rfl,?_⟩
   subst hV
   simp only [List.append_assoc,m8,List.cons_append,List.nil_append,List.set_cons_succ,List.set_cons_zero]
   rw [qj hTl.symm hk hke hcn,List.map_append,List.map_cons,List.map_nil,A7]
  rintro r H' rfl
  simp only [List.take_length,hTl ▸ List.take_length]
  refine ⟨Hp,_,_,_,rfl,rfl,fun h=>h,?_,(oat (i:=3)).trans rfl,by simp,?_⟩
  ·intro o ho
   rcases List.mem_cons.1 ho with rfl|ho
   ·rw [Mj]
    rfl
   rw [←List.append_assoc]
   exact A6 (hDo o ho)
  refine Z9 ?_;refine AW.region ?_
  refine ARun.ownEq (O++[AObj.cells 64 (Fd m),AObj.cells 43 [AV.slice true 6 ((C6 m.take C T).map A4)],AObj.defs,AObj.loop LoopState.exhausted none FR 65 #[53] as' bd' (oid Hp.length (O.length+2))]) (by rw [show O.length+2+1=O.length+3 from rfl,m0]<;>rfl) ?_
  refine R.loadOwnT (n:=O.length+1) (ho:=oat.trans rfl) (hset:=by rw [m0]<;>simp only [List.set_cons_succ,List.set_cons_zero]<;>rfl) jA ?_
  refine R.go ?_
  refine R.append jU Tryz.type45 ?_ ?_ ?_
  ·have h1:=Gr (take:=m.take) hTl.symm;have h2:=Cv C m.take;have h3:=hCo.1;have h4:=Gs (c:=C) (by_:=T) m.ahead (by simpa using ht44);have h5:=hmo.ahead.len;simp only [List.length_map,Tryz.t45];omega
  ·have h1:=Gr (take:=m.take) hTl.symm;have h2:=Cv C m.take;have h3:=hCo.1;have h4:=Gs (c:=C) (by_:=T) m.ahead (by simpa using ht44);have h5:=hmo.ahead.len;simp only [List.length_map,Tryz.t45];omega
  refine R.wk 62 _ (.strip true 6 _) ?_;refine R.go ?_;refine R.fin [6,8,25,26,27] ?_;refine Pf ?_;refine R.fin [6,8,25,26,27] ?_
  have hlp:ObjLow (Hp.length+(O.length+4)) (AObj.loop LoopState.exhausted none FR 65 #[53] as' bd' (oid Hp.length (O.length+2))):=⟨hFRl,by simp [oid]⟩
  have hOn:=hOl (j:=C.length) (o:=false) hlp
  have hse:C6 m.take (C.take C.length) (T.take C.length)=C6 m.take C T:=by rw [List.take_length,List.take_of_length_le (by omega)]
  rw [hse] at hOn
  refine K.lgN (k+1,O++[AObj.cells 64 (Fd m),AObj.cells 43 [AV.slice false 6 ((C6 m.take C T).map A4)],AObj.defs,AObj.loop LoopState.exhausted none FR 65 #[53] as' bd' (oid Hp.length (O.length+2))],(oid Hp.length (O.length+2))::Df) ⟨hlt,?_,?_,?_,?_,?_⟩ (by dsimp only;omega) (StCut.of_eq ?_) (by simp)
  ·subst hCd hTd hmd;exact ew hmk hnf ht44
  ·subst hCd hTd hmd;exact ey hmk hmo hTo ht44
  ·subst hCd hTd hmd;exact Ye hmk (hmvo _ (List.getElem_mem hlt)) (Pq hst hmk) hTl ht44
  ·simpa using hOn
  ·intro o ho
   rcases List.mem_cons.1 ho with rfl|ho
   ·dsimp only;rw [Mj];rfl
   dsimp only;rw [←List.append_assoc];exact A6 (hDo o ho)
  dsimp only
  rw [Yg hmk,hCd,hTd]
  rfl
 have hke:k=l.length:=by simp at ht28;omega
 subst hke
 have hm2:=qh hnf
 refine K.lgE ?_;refine K.thN ?_;refine Z20 ?_;exact zm

/-! slices.Backward of moves. -/
theorem c82 (l0:Nat) (ms:List Mov) (hml:ms.length≤1048576) (U:Nat→List AObj) (N:Nat→Prop) (Z:List AObj→Prop) (hlen:∀k,(U k).length=(U 0).length) (hll:l0<(U 0).length)
  (hlw:∀k,∀x∈U k,ObjLow (U 0).length x) (h0:N 0)
  (hy:∀k m X,k<ms.length→ms[ms.length-1-k]? = some m→N k→AYield Tryz.prog l0 [A2 ((ms.length-1-k:Nat):Int),Dq m] (U k++X) (fun b H'=>(b=true∧N (k+1)∧H'=U (k+1)++X)∨(b=false∧∃V,H'=V++X∧V.length=(U 0).length∧(∀x∈V,ObjLow (U 0).length x)∧Z V)))
  (hR:N ms.length→Z (U ms.length)):ACall Tryz.prog 82 [.yield l0,.ro [Ca ms]] (U 0) (fun _ H'=>Z H'):=by
 refine ACall.body [] [0,1] Tryz.func82 Tryz.ntmps82 (fun d=>?_)
 refine Z1 ?_
 refine R.go (h:=Q.sub64 (h2:=fun _=>by simp only [List.length_map];omega)) (hr:=?_)
 refine R.go ?_;refine R.fin [0,1,3] ?_
 refine AW.loopC (α:=Nat×Int) (fun s=>⟨19,A3 0 (.yield l0) (A3 1 (.ro [Ca ms]) (A3 3 (A2 s.2) (fun _=>.any))),U s.1,[],[],none⟩) (fun s=>s.1≤ms.length∧N s.1∧s.2=(ms.length:Int)-1-(s.1:Int)) (fun s=>ms.length-s.1) ((0,(ms.length:Int)-1)) ⟨Nat.zero_le _,h0,by simp⟩ (StLe.of_eq (by simp)) rfl (fun s hs=>?_)
 obtain ⟨x,i⟩:=s
 obtain ⟨hx,hN,hi⟩:=hs
 dsimp only at hx hN hi ⊢
 refine Z8 ?_;refine R.fin [0,1,3,8] ?_
 refine W.cond (fun ht8=>?_) (fun ht8=>?_)
 ·have hlt:x<ms.length:=by simp at ht8;omega
  have hlt2:ms.length-1-x<ms.length:=by omega
  have hi2:i=((ms.length-1-x:Nat):Int):=by omega
  subst hi2
  refine Z38 ?_;refine Z43 ?_
  refine R.go (h:=Q.indexAddr (ms.length-1-x) (Dq ms[ms.length-1-x]) (fun _=>Ad hlt2)) (hr:=?_)
  refine R.go ?_
  refine R.yield (l:=l0) (args:=[A2 ((ms.length-1-x:Nat):Int),Dq ms[ms.length-1-x]]) (hy x ms[ms.length-1-x] _ hlt (List.getElem?_eq_getElem hlt2) hN) ?_
  intro b V O hV hb
  have hVO:O=[]∧((b=true∧N (x+1)∧V=U (x+1))∨(b=false∧V.length=(U 0).length∧(∀y∈V,ObjLow (U 0).length y)∧Z V)):=by
   rcases hb with ⟨h1,h2,h3⟩|⟨h1,V',h2,h3,h4,h5⟩
   ·have h6:=List.append_inj h3 (by rw [hV,hlen x,hlen (x+1)])
    exact ⟨h6.2,.inl ⟨h1,h2,h6.1⟩⟩
   obtain ⟨rfl,rfl⟩:=List.append_inj h2 (by rw [hV,hlen x,h3])
   exact ⟨rfl,.inr ⟨h1,h3,h4,h5⟩⟩
  obtain ⟨rfl,hVO⟩:=hVO
  have hVl:V.length=(U 0).length:=by rw [hV,hlen x]
  have hVw:∀y∈V,ObjLow (U 0).length y:=by
   rcases hVO with ⟨_,_,rfl⟩|⟨_,_,h,_⟩
   ·exact hlw _
   exact h
  refine ⟨fun _=>by rw [hVl];exact hVw,fun o ho=>(by cases ho),?_⟩
  refine R.go ?_;refine R.fin [0,1,3,18] ?_
  refine W.cond (fun ht18=>?_) (fun ht18=>?_)
  ·have hZ:Z V:=by
    rcases hVO with ⟨h1,_,_⟩|⟨_,_,_,h⟩
    ·rw [h1] at ht18;cases ht18
    exact h
   refine Z76 ?_;refine K.lpR ?_;exact K.fin .nores (hp:=hZ)
  have hVn:N (x+1)∧V=U (x+1):=by
   rcases hVO with ⟨_,h2,h3⟩|⟨h1,_,_,_⟩
   ·exact ⟨h2,h3⟩
   rw [h1] at ht18;cases ht18
  obtain ⟨hN1,rfl⟩:=hVn
  refine Z65 ?_;refine R.fin [0,1,3] ?_
  refine K.lpN (x+1,((ms.length-1-x:Nat):Int)-1) ⟨hlt,hN1,by dsimp only;omega⟩ (by dsimp only;omega) ?_
  exact StCut.of_eq rfl
 have hxe:x=ms.length:=by simp at ht8;omega
 refine ig ?_;exact K.finN .nores (hp:=by rw [hxe];exact hR (hxe ▸ hN))

theorem c57 (l:List Mov) (Hp:List AObj):AFun Tryz.prog 57 [Ca l] Hp (.fn (.func 82) [] [.ro [Ca l]]):=by
 refine ACall.body [.tmp 2] [0] Tryz.func57 Tryz.ntmps57 (fun d=>?_)
 refine Z71 ?_;refine mx ?_;refine Z3 ?_;exact K.fin (V.one V.tmp) ⟨rfl,rfl⟩ (hlow:=by simp [or_imp,forall_and];exact ⟨fun m _ a _=>Ae _ a,fun m _ a _=>Ae _ a⟩)

/-! fuse.Back: the trees of all columns ahead. -/
def O5:Mov:=⟨0,[],[],[],[]⟩
def M5 (c:List Col) (ms:List Mov) (i:Nat) (t:List Expr):List Expr×Int:=B1 (colsAt c ms (i+1)) t (ms.getD i O5).back
def Ih (take:List Str) (was t:List Expr) (d:List Col) (x:Col):Expr:=if 0≤F0 x.name take then was.getD (F0 x.name take).toNat Aa else t.getD (Af x.name d).toNat Aa
def Ey (c:List Col) (take:List Str) (was t:List Expr) (d:List Col):List Expr:=c.map (Ih take was t d)
def Ki (c:List Col) (ms:List Mov):Nat→List Expr→List Expr×Int
 | 0,t=>(t,0)
 | i+1,t=>if (M5 c ms i t).2 != 0 then ([],(M5 c ms i t).2) else Ki c ms i (Ey (colsAt c ms i) (ms.getD i O5).take (M5 c ms i t).1 t (colsAt c ms (i+1)))
def Rr (c:List Col) (l:List Mov):List Expr×Int:=if (D4 c l).2 != 0 then ([],1) else Ki c l l.length (I8 (colsAt c l l.length))
def Be (c:List Col) (ms:List Mov):Nat→List Expr
 | 0=>I8 (colsAt c ms ms.length)
 | k+1=>Ey (colsAt c ms (ms.length-1-k)) (ms.getD (ms.length-1-k) O5).take (M5 c ms (ms.length-1-k) (Be c ms k)).1 (Be c ms k) (colsAt c ms (ms.length-1-k+1))
theorem f5 {c:List Col} {l:List Mov} (h:((D4 c l).2 != 0)=true):Rr c l=([],1):=if_pos h
theorem N0 {c:List Col} {l:List Mov} (h:((D4 c l).2 != 0)=false):Rr c l=Ki c l l.length (I8 (colsAt c l l.length)):=if_neg (by rw [h];simp)
theorem f7 {l:List Expr} {n:Nat}:l.getD n Aa∈l∨l.getD n Aa=Aa:=by
 rw [List.getD_eq_getElem?_getD]
 cases h:l[n]? with
 | none=>exact .inr rfl
 | some e=>exact .inl (List.mem_of_getElem? h)
theorem f8 {take:List Str} {was t:List Expr} {d:List Col} {x:Col}:Ih take was t d x∈was∨Ih take was t d x∈t∨Ih take was t d x=Aa:=by
 unfold Ih
 split
 ·rcases f7 (l:=was) (n:=(F0 x.name take).toNat) with h|h
  ·exact .inl h
  exact .inr (.inr h)
 rcases f7 (l:=t) (n:=(Af x.name d).toNat) with h|h
 ·exact .inr (.inl h)
 exact .inr (.inr h)
theorem Yh {c d:List Col} {take:List Str} {was t:List Expr} (hw:TOk was) (ht:TOk t):TOk (Ey c take was t d):=by
 have h0:okE 61 Aa:=⟨by simp [Aa,Expr.text],by simp [Aa,Expr.kids],fun z hz=>by simp [Aa,Expr.kids] at hz⟩
 refine ⟨fun e he=>?_,fun e he=>?_⟩<;>obtain ⟨x,_,rfl⟩:=List.mem_map.1 he<;>rcases f8 (take:=take) (was:=was) (t:=t) (d:=d) (x:=x) with h|h|h
 ·exact hw.ok _ h
 ·exact ht.ok _ h
 ·rw [h];exact h0
 ·exact hw.rng _ h
 ·exact ht.rng _ h
 rw [h];rfl
/-- Where the way back stands behind k moves. -/
structure BackAt (c:List Col) (ms:List Mov) (k:Nat):Prop where
 eq:Ki c ms ms.length (I8 (colsAt c ms ms.length))=Ki c ms (ms.length-k) (Be c ms k)
 ok:TOk (Be c ms k)
 len:(Be c ms k).length=(colsAt c ms (ms.length-k)).length
theorem BackAt.zero {c:List Col} {ms:List Mov} (hc:OkCols (colsAt c ms ms.length)):BackAt c ms 0:=⟨rfl,Rq hc,by simp [Be,I8]⟩
theorem BackAt.err {c:List Col} {ms:List Mov} {k:Nat} (h:BackAt c ms k) (hk:k<ms.length) (he:((M5 c ms (ms.length-1-k) (Be c ms k)).2 != 0)=true):Ki c ms ms.length (I8 (colsAt c ms ms.length))=([],(M5 c ms (ms.length-1-k) (Be c ms k)).2):=by
 rw [h.eq,show ms.length-k=ms.length-1-k+1 by omega,Ki,if_pos he]
theorem BackAt.next {c:List Col} {ms:List Mov} {k:Nat} (h:BackAt c ms k) (hk:k<ms.length) (hm:OkMov (ms.getD (ms.length-1-k) O5)) (he:((M5 c ms (ms.length-1-k) (Be c ms k)).2 != 0)=false):BackAt c ms (k+1):=by
 refine ⟨?_,?_,?_⟩
 ·rw [h.eq,show ms.length-k=ms.length-1-k+1 by omega,Ki,if_neg (by rw [he];simp),show ms.length-(k+1)=ms.length-1-k by omega]
  rfl
 ·exact Yh (J0 h.ok _ hm.back.ok hm.back.rng (bne_eq_false_iff_eq.1 he)) h.ok
 rw [Be,Ey,List.length_map,show ms.length-(k+1)=ms.length-1-k by omega]
theorem BackAt.fin {c:List Col} {ms:List Mov} (h:BackAt c ms ms.length):Ki c ms ms.length (I8 (colsAt c ms ms.length))=(Be c ms ms.length,0):=by
 have:=h.eq
 rw [Nat.sub_self] at this
 exact this
theorem cp {v:Str} {l:List Str} (h:0≤F0 v l):∃j:Nat,F0 v l=j∧j<l.length:=by
 unfold F0 at h ⊢
 cases hf:l.findIdx? (·==v) with
 | none=>rw [hf] at h;exact absurd h (by decide)
 | some i=>exact ⟨i,rfl,(List.findIdx?_eq_some_iff_getElem.1 hf).1⟩
theorem vg {nm:Str} {c:List Col} {y:Col} (h:y∈c) (hn:y.name=nm):∃j:Nat,Af nm c=j∧j<c.length:=by
 unfold Af
 cases hf:c.findIdx? (fun y=>y.name==nm) with
 | none =>
  rw [List.findIdx?_eq_none_iff] at hf
  have:=hf y h
  rw [hn] at this
  simp at this
 | some i=>exact ⟨i,rfl,(List.findIdx?_eq_some_iff_getElem.1 hf).1⟩
/-- A column that is not taken is there behind the move. -/
theorem wm {c:List Col} {m:Mov} {y:Col} (ht:(Am c m).2=0) (hy:y∈c) (hn:¬0≤F0 y.name m.take):∃j:Nat,Af y.name (Am c m).1=j∧j<(Am c m).1.length:=by
 refine vg (y:=y) ?_ rfl
 rw [(J1 ht).1]
 refine List.mem_append_left _ ?_
 unfold B5
 rw [List.mem_filter]
 refine ⟨hy,?_⟩
 rw [←dp,decide_eq_false hn]
 rfl
theorem N1 {c d:List Col} {take:List Str} {was t:List Expr} {z:Nat} (h:z<c.length):(Ey c take was t d).take (z+1)=(Ey c take was t d).take z++[Ih take was t d c[z]]:=by
 have hl:z<(Ey c take was t d).length:=by rw [Ey,List.length_map];exact h
 rw [List.take_succ_eq_append_getElem hl]
 simp [Ey]
theorem Yi {n k:Nat} {o:Bool} {l:List Expr}:∀z∈[AV.slice o k (l.map A4)],Low n z:=fun z hz=>by rw [List.mem_singleton.1 hz];exact Bd
theorem vh {l:List Expr} {j:Nat} (h:j<l.length):(l.map A4)[j]? = some (A4 (l.getD j Aa)):=by
 rw [List.getElem?_map,List.getElem?_eq_getElem h,List.getD_eq_getElem?_getD,List.getElem?_eq_getElem h];rfl
theorem c28 (c:List Col) (hc:OkCols c) (hc2:c.length≤1000000) (l:List Mov) (h:OkMovs l) (Hp:List AObj):AFun Tryz.prog 28 [A8 c,Ca l] Hp (.tup [Au (Rr c l).1,A2 (Rr c l).2]):=by
 refine ACall.body [.cell 4 43,.cell 5 27] [0,1] Tryz.func28 Tryz.ntmps28 (fun d=>?_)
 refine Z35 ?_;refine Lp ?_;refine R.fin [0,1,4,5] ?_;refine Z1 ?_;refine R.call Tryz.call14 (c14 c hc hc2 l h _) ?_;refine Uy ?_;refine R.fin [1,4,5,6,7] ?_;refine Z8 ?_;refine R.fin [1,4,5,6,24] ?_
 refine W.cond (fun ht24=>?_) (fun ht24=>?_)
 ·have hm:=f5 ht24
  refine Cx ?_;refine Gg ?_;refine R.nilOwn 0 6 ?_;refine Gg ?_;refine Z41 ?_;exact K.fin (V.two (V.cell jA) (V.cell jA)) ⟨by rw [hm]<;>rfl,rfl⟩
 have hm:=N0 ht24
 obtain ⟨hmay,hst,hss⟩:=Jb ht24
 have hmvo:=Hr hmay
 have hcn:=Eb hc (fun m hm=>h.each m hm) l.length
 have hlen:=h.len
 have hol:((B8 c l l.length).map A8).length=l.length+1:=by rw [List.length_map,H5]
 rw [hss]
 refine Z5 ?_;refine Z43 ?_
 refine R.go (h:=Q.indexAddr (l.length) (A8 (colsAt c l l.length)) (fun _=>jx (Ia (Nat.le_refl _)))) (hr:=?_)
 refine R.go ?_;refine R.call Tryz.call54 (c54 (colsAt c l l.length) hcn.len _) ?_;refine Z17 ?_;refine R.fin [1,4,5,6,8] ?_;refine Z66 ?_
 refine R.assumeLow (fun hlow=>?_)
 refine R.go ?_;refine R.call Tryz.call57 (c57 l _) ?_;refine R.fin [4,5,6,8,33] ?_;refine Hj ?_
 refine W.rangeV (m:=4) Tryz.call82 (fun FR as' bd' hFR has hbd=>?_)
 have hFRl:∀s,Low (Hp.length+6) (FR s):=by
  intro s
  rw [hFR]
  refine Low.strip ?_
  revert s
  repeat (first|exact As|refine Ar (by first|(simp [oid,or_imp,forall_and];done)|(simp [oid,or_imp,forall_and];exact ⟨fun m _ a _=>Ae _ a,fun m _ a _=>Ae _ a⟩)|(simp [oid,or_imp,forall_and]<;>omega)) ?_)
 have hOl:∀{e:Int} {t:List Expr} {lp:AObj},ObjLow (Hp.length+6) lp→∀x∈Hp++[AObj.cells 43 [AV.nil],AObj.cells 27 [A2 e],AObj.cells 34 [I6 (B8 c l l.length)],AObj.cells 43 [Au (t)],AObj.defs,lp],ObjLow (Hp.length+6) x:=by
  intro e t lp hlp x hx
  refine Ig (fun x hx=>ObjLow.le (by omega) (hlow x hx)) (fun x hx=>?_) x hx
  simp only [List.mem_cons,List.mem_nil_iff,or_false] at hx
  rcases hx with rfl|rfl|rfl|rfl|rfl|rfl
  ·intro y hy;rw [List.mem_singleton.1 hy];simp
  ·intro y hy;rw [List.mem_singleton.1 hy];simp
  ·intro y hy;rw [List.mem_singleton.1 hy];exact Fj
  ·intro y hy;rw [List.mem_singleton.1 hy];exact Bd
  ·trivial
  exact hlp
 refine ⟨_,c82 (oid Hp.length 5) l h.len (fun k=>Hp++[AObj.cells 43 [AV.nil],AObj.cells 27 [A2 0],AObj.cells 34 [I6 (B8 c l l.length)],AObj.cells 43 [Au (Be c l k)],AObj.defs,AObj.loop LoopState.ready none FR 91 #[34,35] as' bd' (oid Hp.length 4)]) (BackAt c l) (fun V=>(∃t,V=Hp++[AObj.cells 43 [AV.nil],AObj.cells 27 [A2 0],AObj.cells 34 [I6 (B8 c l l.length)],AObj.cells 43 [Au (t)],AObj.defs,AObj.loop LoopState.ready none FR 91 #[34,35] as' bd' (oid Hp.length 4)]∧Rr c l=(t,0))∨(∃(e:Int) (t:List Expr),V=Hp++[AObj.cells 43 [AV.nil],AObj.cells 27 [A2 e],AObj.cells 34 [I6 (B8 c l l.length)],AObj.cells 43 [Au (t)],AObj.defs,AObj.loop LoopState.done (some Code.ret) FR 91 #[34,35] as' bd' (oid Hp.length 4)]∧Rr c l=([],e))) (fun k=>by simp) (by simp [oid]) (fun k=>(fun x hx=>by rw [List.length_append];exact hOl (lp:=AObj.loop LoopState.ready none FR 91 #[34,35] as' bd' (oid Hp.length 4)) (by exact ⟨hFRl,by simp [oid]⟩) x hx)) (.zero hcn) (fun k m X hk hm hN=>?_) (fun hN=>.inl ⟨_,rfl,by rw [N0 (by simpa using ht24),hN.fin]⟩),?_⟩
 ·generalize hV:Hp++[AObj.cells 43 [AV.nil],AObj.cells 27 [A2 0],AObj.cells 34 [I6 (B8 c l l.length)],AObj.cells 43 [Au (Be c l k)],AObj.defs,AObj.loop LoopState.ready none FR 91 #[34,35] as' bd' (oid Hp.length 4)]++X=V
  have hL:V[oid Hp.length 5]? = some (AObj.loop LoopState.ready none FR 91 #[34,35] as' bd' (oid Hp.length 4)):=by rw [←hV,List.append_assoc,Aw];rfl
  have hA0:V[oid Hp.length 0]? = some (AObj.cells 43 [AV.nil]):=by rw [←hV,List.append_assoc,Aw];rfl
  have hB0:V[oid Hp.length 1]? = some (AObj.cells 27 [A2 0]):=by rw [←hV,List.append_assoc,Aw];rfl
  have hS0:V[oid Hp.length 2]? = some (AObj.cells 34 [I6 (B8 c l l.length)]):=by rw [←hV,List.append_assoc,Aw];rfl
  have hZ0:V[oid Hp.length 3]? = some (AObj.cells 43 [Au (Be c l k)]):=by rw [←hV,List.append_assoc,Aw];rfl
  refine AYield.ofRound (pd:=none) (fr:=FR) (sz:=91) (ps:=#[34,35]) (df:=oid Hp.length 4) (asg:=as') (bd:=bd') hL rfl (by decide) (fun d=>?_)
  subst hFR has hbd
  refine W.keep [4,5,6,8,34,35] ?_
  have hgm:l.getD (l.length-1-k) O5=m:=by rw [List.getD_eq_getElem?_getD,hm];rfl
  have hmo:=h.each m (List.mem_of_getElem? hm)
  have hmv:=hmvo m (List.mem_of_getElem? hm)
  have htn:=Pq hst hm
  have hcn:=Do (c:=c) hm
  have hCo:=Eb hc (fun m hm=>h.each m hm) (l.length-1-k+1)
  have hCi:=Eb hc (fun m hm=>h.each m hm) (l.length-1-k)
  have herr:=hN.err hk
  have hnxt:=hN.next hk (by rw [hgm];exact hmo)
  have htb:Be c l (k+1)=Ey (colsAt c l (l.length-1-k)) m.take (M5 c l (l.length-1-k) (Be c l k)).1 (Be c l k) (colsAt c l (l.length-1-k+1)):=by rw [Be,hgm]
  have hwe:M5 c l (l.length-1-k) (Be c l k)=B1 (colsAt c l (l.length-1-k+1)) (Be c l k) m.back:=by unfold M5;rw [hgm]
  rw [hwe] at herr hnxt htb
  have htl:(Be c l k).length=(colsAt c l (l.length-1-k+1)).length:=by rw [hN.len,show l.length-k=l.length-1-k+1 by omega]
  have hik:l.length-1-k<l.length:=by omega
  generalize l.length-1-k=i at *
  refine Z2 ?_;refine R.fin [4,5,6,8,9,35] ?_;refine AW.region ?_;refine Z17 ?_;refine R.fin [4,5,6,8,9,10] ?_
  refine ⟨rfl,none,hL,?_⟩
  generalize hbz:(AObj.loop LoopState.busy _ _ _ _ _ _ _)=bz
  have hA:(V.set (oid Hp.length 5) bz)[oid Hp.length 0]? = some (AObj.cells 43 [AV.nil]):=by rw [List.getElem?_set_ne (Cd (by decide))];exact hA0
  have hB:(V.set (oid Hp.length 5) bz)[oid Hp.length 1]? = some (AObj.cells 27 [A2 0]):=by rw [List.getElem?_set_ne (Cd (by decide))];exact hB0
  have hS:(V.set (oid Hp.length 5) bz)[oid Hp.length 2]? = some (AObj.cells 34 [I6 (B8 c l l.length)]):=by rw [List.getElem?_set_ne (Cd (by decide))];exact hS0
  have hZ:(V.set (oid Hp.length 5) bz)[oid Hp.length 3]? = some (AObj.cells 43 [Au (Be c l k)]):=by rw [List.getElem?_set_ne (Cd (by decide))];exact hZ0
  refine Hj ?_;refine W.drawQ [0,1,0,0,8,28,60,0,255,511,1023,1023,2047,8191] 13 Ac (by kernel_rfl) ?_;refine Z14 ?_
  refine D.go (h:=Q.loadUp hS) (hr:=?_)
  refine Z14 ?_
  refine D.go (h:=Q.indexAddr ((i+1)) (A8 (colsAt c l (i+1))) (fun _=>jx (Ia (by omega)))) (hr:=?_)
  refine D.go ?_
  refine D.go (h:=Q.loadUp hZ) (hr:=?_)
  refine D.call Tryz.call55 (c55 m.back hmo.back.len hmo.back.ok (colsAt c l (i+1)) hCo (Be c l k) (by have:=hCo.len;omega) hN.ok.ok _) ?_
  refine Nh ?_;refine Ux ?_;refine R.fin [4,5,6,8,9,10,11,12] ?_;refine Z8 ?_;refine R.fin [4,5,6,8,9,10,11,12,49] ?_
  refine W.cond (fun ht49=>?_) (fun ht49=>?_)
  ·have herr:=herr ht49
   refine Z2 ?_
   refine R.storeUp jS hA ?_ ?_
   ·simp
   refine R.storeUp jS (AC6 hB (Cd (by decide))) ?_ ?_
   ·simp
   refine mt ?_;refine K.blR ?_
   subst hbz
   refine xf ?_
   refine .inr ⟨rfl,Hp++[AObj.cells 43 [AV.nil],AObj.cells 27 [A2 (B1 (colsAt c l (i+1)) (Be c l k) m.back).2],AObj.cells 34 [I6 (B8 c l l.length)],AObj.cells 43 [Au (Be c l k)],AObj.defs,_],?_,by simp,(fun x hx=>by rw [List.length_append];exact hOl (lp:=_) (by exact ⟨hFRl,by simp [oid]⟩) x hx),.inr ⟨_,_,rfl,by rw [N0 (by simpa using ht24)];exact herr⟩⟩
   subst hV
   simp only [List.append_assoc,Dx,List.cons_append,List.nil_append,List.set_cons_succ,List.set_cons_zero]
  have hB1:=hnxt ht49
  have hwl:(B1 (colsAt c l (i+1)) (Be c l k) m.back).1.length=m.take.length:=(Gs m.back (by simpa using ht49)).trans (De (Gq hmv)).2
  refine L1 ?_;refine R.fin [6,8,9,10,11,13] ?_;refine Z66 ?_;refine R.nilSl 13 6 ?_
  refine R.go (h:=Q.loadUp hS) (hr:=?_)
  refine R.go ?_
  refine R.go (h:=Q.indexAddr (i) (A8 (colsAt c l i)) (fun _=>jx (Ia (by omega)))) (hr:=?_)
  refine Z22 ?_;refine si ?_
  refine AW.loopC (α:=Nat) (fun z=>⟨91,A3 6 (.ptr (oid Hp.length 2) 0) (A3 8 (.ptr (oid Hp.length 3) 0) (A3 9 (A2 (i:Nat)) (A3 10 (.ptr (oid V.length 0) 0) (A3 11 (Au (B1 (colsAt c l (i+1)) (Be c l k) m.back).1) (A3 13 (.slice true 6 (((Ey (colsAt c l i) m.take (B1 (colsAt c l (i+1)) (Be c l k) m.back).1 (Be c l k) (colsAt c l (i+1))).take z).map A4)) (A3 54 (A8 (colsAt c l i)) (A3 55 (A2 ((colsAt c l i).length:Nat)) (A3 56 (A2 (z:Nat)) (fun _=>.any))))))))),(V.set (oid Hp.length 5) bz),[AObj.cells 64 (Fd m)],[],some _⟩) (fun z=>z≤(colsAt c l i).length) (fun z=>(colsAt c l i).length-z) (0) (Nat.zero_le _) (StLe.of_eq (by simp<;>rfl)) rfl (fun z hz=>?_)
  refine Z2 ?_;refine R.fin [6,8,9,10,11,13,54,55,56,57] ?_
  refine W.condX (fun ht57=>?_) (fun ht57=>?_)
  ·have hz2:z<(colsAt c l i).length:=by simpa using ht57
   have hnl:((Ey (colsAt c l i) m.take (B1 (colsAt c l (i+1)) (Be c l k) m.back).1 (Be c l k) (colsAt c l (i+1))).take z).length≤z:=List.length_take_le _ _
   have hcl:=hCi.len
   refine Pa ?_
   refine R.go (h:=Q.indexAddr (z) (An (colsAt c l i)[z]) (fun _=>Ad hz2)) (hr:=?_)
   refine Ml ?_;refine R.fin [6,8,9,10,11,13,15,54,55,56] ?_;refine Z49 ?_;refine R.call Tryz.call58 (c58 m.take (colsAt c l i)[z].name hmo.takes _) ?_;refine R.go ?_;refine R.fin [6,8,9,10,11,13,15,16,54,55,56] ?_;refine Z1 ?_;refine R.fin [6,8,9,10,11,13,15,16,54,55,56,66] ?_
   refine W.cond (fun ht66=>?_) (fun ht66=>?_)
   ·obtain ⟨j,hj,hjl⟩:=cp (by simpa using ht66)
    have hpk:Ih m.take (B1 (colsAt c l (i+1)) (Be c l k) m.back).1 (Be c l k) (colsAt c l (i+1)) (colsAt c l i)[z]=(B1 (colsAt c l (i+1)) (Be c l k) m.back).1.getD j Aa:=by unfold Ih;rw [if_pos (by rw [hj];omega),hj];rfl
    refine Cx ?_;refine R.moveT ?_;refine Z0 ?_
    refine R.go (h:=Q.indexAddr (j) (A4 ((B1 (colsAt c l (i+1)) (Be c l k) m.back).1.getD j Aa)) (fun _=>vh (by omega))) (hr:=?_)
    refine Z52 ?_
    refine R.append jU Tryz.type45 ?_ ?_ ?_
    ·simp only [List.length_map,List.length_append,List.length_cons,List.length_nil,Tryz.t45];omega
    ·simp only [List.length_map,List.length_append,List.length_cons,List.length_nil,Tryz.t45];omega
    refine Ic ?_;refine si ?_;refine Z25 ?_;refine K.blE ?_;refine K.thN ?_;refine Z10 ?_;refine AAw ?_
    rw [N1 hz2,hpk,List.map_append]
    simp only [List.map_cons,List.map_nil,A7]
    exact StCut.take (own:=[AObj.cells 64 (Fd m)]) (fun _=>.refl _) (by repeat (first|exact As|refine Ar (by first|(simp [oid,or_imp,forall_and];done)|exact Bd|exact Ff|exact Gv|exact C8|(simp [oid,←hV];done)|(simp [oid,←hV];omega)) ?_)) (by intro x hx;rw [List.mem_singleton.1 hx];exact Kw) (by simp)
   have hjn:¬0≤F0 (colsAt c l i)[z].name m.take:=by simpa using ht66
   obtain ⟨j,hj,hjl⟩:=wm htn (List.getElem_mem hz2) hjn
   rw [←hcn] at hj hjl
   have hpk:Ih m.take (B1 (colsAt c l (i+1)) (Be c l k) m.back).1 (Be c l k) (colsAt c l (i+1)) (colsAt c l i)[z]=(Be c l k).getD j Aa:=by unfold Ih;rw [if_neg hjn,hj];rfl
   refine Z5 ?_;refine W.drawY0 [0,0,0,0,8,28,60,0,128,508,1022,2046,4094,8191,16383] [] [.s [13,74] none [] [],.q 12 [] []] (fun _=>(V.set (oid Hp.length 5) bz)) (fun _=>[AObj.cells 64 (Fd m),AObj.cells 58 [A5 (colsAt c l i)[z].name,A2 (colsAt c l i)[z].kind]]) Ac (by kernel_rfl) rfl rfl (fun _=>rfl) ?_;refine Y.moveT ?_
   apply Y.q
   case h1 =>
    intro B hT hF
    refine D.go (h:=Q.loadUp hZ) (hr:=?_)
    refine D.go (h:=Q.loadUp hS) (hr:=?_)
    refine Z14 ?_
    refine D.go (h:=Q.indexAddr ((i+1)) (A8 (colsAt c l (i+1))) (fun _=>jx (Ia (by omega)))) (hr:=?_)
    refine Z44 ?_;refine D.call Tryz.call59 (c59 (colsAt c l (i+1)) hCo (colsAt c l i)[z].name _) ?_
    refine D.go (h:=Q.indexAddr (j) (A4 ((Be c l k).getD j Aa)) (fun _=>vh (by omega))) (hr:=?_)
    exact mi
   case hTF=>decide
   refine Y.tail (tn:=[])  ?_
   refine R.append jU Tryz.type45 ?_ ?_ ?_
   ·simp only [List.length_map,List.length_append,List.length_cons,List.length_nil,Tryz.t45];omega
   ·simp only [List.length_map,List.length_append,List.length_cons,List.length_nil,Tryz.t45];omega
   refine Ic ?_;refine si ?_;refine Pf ?_;refine AAw ?_
   rw [N1 hz2,hpk,List.map_append]
   simp only [List.map_cons,List.map_nil,A7]
   exact StCut.take (own:=[AObj.cells 64 (Fd m)]) (fun _=>.refl _) (by repeat (first|exact As|refine Ar (by first|(simp [oid,or_imp,forall_and];done)|exact Bd|exact Ff|exact Gv|exact C8|(simp [oid,←hV];done)|(simp [oid,←hV];omega)) ?_)) (by intro x hx;rw [List.mem_singleton.1 hx];exact Kw) (by simp)
  have hze:(colsAt c l i).length≤z:=by simpa using ht57
  refine Z23 ?_;refine Z63 ?_
  refine R.storeUp jS hZ ?_ ?_
  ·exact Yi
  refine Z67 ?_
  subst hbz
  refine se ?_
  refine .inl ⟨rfl,hB1,?_⟩
  subst hV
  simp only [List.append_assoc,Dx,List.cons_append,List.nil_append,List.set_cons_succ,List.set_cons_zero]
  rw [htb,List.take_of_length_le (by rw [Ey,List.length_map];exact hze)]
 rintro r H' (⟨t,rfl,hrun⟩|⟨e,t,rfl,hrun⟩)
 ·refine ⟨Hp,_,_,_,rfl,rfl,fun h=>h,?_,rfl,by simp,?_⟩
  ·intro o ho
   have:o=oid Hp.length 4:=by simpa using ho
   subst this
   rw [Aw]
   rfl
  refine Z9 ?_;refine Z98 ?_;refine Gg ?_;refine Z16 ?_;exact K.fin (V.two (V.cell jA) (V.cell jA)) ⟨by rw [hrun],rfl⟩ (hlow:=by simp only [J4,List.mem_cons,List.mem_nil_iff,or_false];rintro y (rfl|rfl);exact Bd;simp)
 refine ⟨Hp,_,_,_,rfl,rfl,fun h=>h,?_,rfl,by simp,?_⟩
 ·intro o ho
  have:o=oid Hp.length 4:=by simpa using ho
  subst this
  rw [Aw]
  rfl
 refine W.nilOwn 0 6 ?_;refine Z76 ?_;exact K.fin (V.two (V.cell jA) (V.cell jA)) ⟨by rw [hrun];rfl,rfl⟩

/-! How long plan.Text's pieces are. -/
section
variable {O X U:List AObj} {i:Nat} {b y:AObj}
end
/-- Moves whose numbers are ones of 64 bits. -/
structure RngMv (m:Mov):Prop where
 ahead:∀e∈m.ahead,Ct Hb e=true
 back:∀e∈m.back,Ct Hb e=true
theorem Yj {l:List Expr} (h20:l.length≤1048576) (h:l.any Oo=false) (hr:∀e∈l,Ct Hb e=true):OkEs l:=by
 have h1:∀e∈l,Slim e:=fun e he=>dj (by
  rw [List.any_eq_false] at h
  simpa using h e he)
 exact ⟨h20,fun e he=>(h1 e he).ok,fun e he=>by have:=(h1 e he).size;omega,hr⟩
theorem kn {m:Mov} (h:I4 m=false) (hr:RngMv m):OkMov m:=by
 unfold I4 at h
 simp only [Bool.or_eq_false_iff,decide_eq_false_iff_not] at h
 obtain ⟨⟨⟨⟨⟨⟨h1,h2⟩,h3⟩,h4⟩,h5⟩,h6⟩,h7⟩:=h
 have h50:m.give.length≤1000000:=by
  unfold Fh at h1
  simp only [Bool.or_eq_false_iff,decide_eq_false_iff_not] at h1
  omega
 refine ⟨by omega,fun s hs=>?_,dn h1,h50,Yj (by omega) h6 hr.ahead,Yj (by omega) h7 hr.back⟩
 rw [List.any_eq_false] at h5
 have:=h5 s hs
 simp only [decide_eq_true_eq] at this
 omega
theorem U4 {l:List Mov} (h:G5 l=false) (hr:∀m∈l,RngMv m):OkMovs l:=by
 unfold G5 at h
 simp only [Bool.or_eq_false_iff,decide_eq_false_iff_not] at h
 refine ⟨by omega,fun m hm=>kn ?_ (hr m hm)⟩
 rw [List.any_eq_false] at h
 simpa using h.2 m hm
/-! ref21.Over: names that nothing has stand between. -/
def Eg (i:Nat):Str:=[35,UInt8.ofNat (97+i)]
def B2 (c:List Col) (x:Expr):Nat→Expr
 | 0=>x
 | i+1=>match c[i]? with|some y=>Ez y.name (Ap (Eg i)) (B2 c x i)|none=>B2 c x i
def Bk (l:List Expr) (x:Expr):Nat→Expr
 | 0=>x
 | i+1=>match l[i]? with|some z=>Ez (Eg i) z (Bk l x i)|none=>Bk l x i
/-- ref21.Over. -/
def Lg (x:Expr) (c:List Col) (l:List Expr):Expr×Int:=
 if ((!(Ag x)) || !(Dg c)) || ((c.length:Int) != (l.length:Int)) then (Aa,1)
 else if l.any (fun e => !(Ag e)) then (Aa,1)
 else if (B4 x).any (fun t=>decide (Af t c<0)) then (Aa,9)
 else if !(Ag (Bk l (B2 c x c.length) c.length)) then (Aa,3)
 else (Bk l (B2 c x c.length) c.length,0)
mutual
def G7 (f:Str→Expr):Expr→Expr
 | .mk o t v k=>if o==2 then f t else .mk o t v (G8 f k)
def G8 (f:Str→Expr):List Expr→List Expr
  | []=>[]
  | e::r=>G7 f e::G8 f r
 end
mutual
theorem Rt (s:Str) (y:Expr) (f:Str→Expr):∀x:Expr,Ez s y (G7 f x)=G7 (fun t=>Ez s y (f t)) x
 | .mk o t v k=>by
  rw [G7,G7]
  by_cases h:(o==2)=true
  ·rw [if_pos h,if_pos h]
  have h1:(o==2)=false:=by simpa using h
  rw [if_neg h,if_neg h,Ez,h1,if_neg (by simp),U5 s y f k]
theorem U5 (s:Str) (y:Expr) (f:Str→Expr):∀x:List Expr,Sg s y (G8 f x)=G8 (fun t=>Ez s y (f t)) x
  | []=>rfl
  | e::r=>by rw [G8,G8,Sg,Rt s y f e,U5 s y f r]
 end
theorem M6 (c:List Col) (f:Str→Expr) (x:Expr):∀i,B2 c (G7 f x) i=G7 (fun t=>B2 c (f t) i) x
 | 0=>rfl
 | i+1=>by
  rw [B2,M6 c f x i]
  simp only [B2]
  cases c[i]? with
  | none=>rfl
  | some y=>exact Rt _ _ _ x
theorem M7 (l:List Expr) (f:Str→Expr) (x:Expr):∀i,Bk l (G7 f x) i=G7 (fun t=>Bk l (f t) i) x
 | 0=>rfl
 | i+1=>by
  rw [Bk,M7 l f x i]
  simp only [Bk]
  cases l[i]? with
  | none=>rfl
  | some y=>exact Rt _ _ _ x
mutual
theorem Vq:∀x:Expr,Ct Bw x=true→G7 Ap x=x
 | .mk o t v k,h=>by
  rw [Dj,Bool.and_eq_true] at h
  rw [G7]
  by_cases h2:(o==2)=true
  ·rw [if_pos h2]
   obtain ⟨h3,_⟩:=h
   have ho:o=2:=by simpa using h2
   subst ho
   cases Gn h3
   rfl
  rw [if_neg h2,Yk k h.2]
theorem Yk:∀x:List Expr,H1 Bw x=true→G8 Ap x=x
  | [],_=>rfl
  | e::r,h=>by
    rw [H1,Bool.and_eq_true] at h
    rw [G8,Vq e h.1,Yk r h.2]
 end
mutual
theorem Ru {f g:Str→Expr}:∀x:Expr,(∀t,Fw t x=true→f t=g t)→G7 f x=G7 g x
 | .mk o t v k,h=>by
  rw [G7,G7]
  by_cases h2:(o==2)=true
  ·rw [if_pos h2,if_pos h2]
   exact h t (by rw [E6];show ((o==2&&t==t) || _)=true;rw [h2];simp)
  rw [if_neg h2,if_neg h2,P0 k fun t ht=>h t (by rw [E6];show (_ || Ed t k)=true;rw [ht];simp)]
theorem P0 {f g:Str→Expr}:∀x:List Expr,(∀t,Ed t x=true→f t=g t)→G8 f x=G8 g x
  | [],_=>rfl
  | e::r,h=>by
    rw [G8,G8,Ru e fun t ht=>h t (by rw [Cq,ht];rfl),P0 r fun t ht=>h t (by rw [Cq,ht];simp)]
 end
mutual
theorem U6 (c:List Col) (l:List Expr):∀x:Expr,(∀t,Fw t x=true→¬(Af t c<0))→putF c l x=some (G7 (fun t=>l.getD (Af t c).toNat Aa) x)
 | .mk o t v k,h=>by
  rw [putF,G7]
  by_cases h2:(o==2)=true
  ·rw [if_pos h2,if_pos h2,if_neg (h t (by rw [E6];show ((o==2&&t==t) || _)=true;rw [h2];simp))]
  rw [if_neg h2,if_neg h2,Rv c l k fun t ht=>h t (by rw [E6];show (_ || Ed t k)=true;rw [ht];simp)]
  rfl
theorem Rv (c:List Col) (l:List Expr):∀x:List Expr,(∀t,Ed t x=true→¬(Af t c<0))→H6 c l x=some (G8 (fun t=>l.getD (Af t c).toNat Aa) x)
  | [],_=>rfl
  | e::r,h=>by
    rw [H6,G8,U6 c l e fun t ht=>h t (by rw [Cq,ht];rfl),Rv c l r fun t ht=>h t (by rw [Cq,ht];simp)]
    rfl
 end
mutual
theorem f9 (c:List Col) (l:List Expr) {s:Str} (hs:Af s c<0):∀x:Expr,Ct Bw x=true→Fw s x=true→putF c l x=none
 | .mk o t v k,hn,h=>by
  rw [putF]
  by_cases h2:(o==2)=true
  ·rw [if_pos h2]
   rw [Dj,Bool.and_eq_true] at hn
   obtain ⟨h3,_⟩:=hn
   have ho:o=2:=by simpa using h2
   subst ho
   cases Gn h3
   rw [E6] at h
   have:t=s:=by
    simp [Ap,Expr.op,Expr.text,Expr.kids,Ed,Dd] at h
    exact h
   rw [if_pos (by rw [this];exact hs)]
  rw [if_neg h2]
  rw [Dj,Bool.and_eq_true] at hn
  have h1:(o==2)=false:=by simpa using h2
  rw [E6] at h
  have h:((o==2&&t==s) || Ed s k)=true:=h
  rw [h1,Bool.false_and,Bool.false_or] at h
  rw [Yl c l hs k hn.2 h]
  rfl
theorem Yl (c:List Col) (l:List Expr) {s:Str} (hs:Af s c<0):∀x:List Expr,H1 Bw x=true→Ed s x=true→H6 c l x=none
  | [],_,h=>by cases h
  | e::r,hn,h=>by
    rw [H1,Bool.and_eq_true] at hn
    rw [Cq,Bool.or_eq_true] at h
    rw [H6]
    rcases h with h|h
    · rw [f9 c l hs e hn.1 h]
    rw [Yl c l hs r hn.2 h]
    cases putF c l e<;>rfl
 end
mutual
theorem M8 {s:Str}:∀x:Expr,Ct Bw x=true→Fw s x=true→F4 s=true
 | .mk o t v k,hn,h=>by
  rw [Dj,Bool.and_eq_true] at hn
  rw [E6,Bool.or_eq_true] at h
  rcases h with h|h
  ·obtain ⟨h3,_⟩:=hn
   have h:(o==2&&t==s)=true:=h
   simp only [Bool.and_eq_true,beq_iff_eq] at h
   obtain ⟨rfl,rfl⟩:=h
   cases Gn h3 with
   | name t ht=>exact ht
  exact P1 k hn.2 h
theorem P1 {s:Str}:∀x:List Expr,H1 Bw x=true→Ed s x=true→F4 s=true
  | [],_,h=>by cases h
  | e::r,hn,h=>by
    rw [H1,Bool.and_eq_true] at hn
    rw [Cq,Bool.or_eq_true] at h
    rcases h with h|h
    · exact M8 e hn.1 h
    exact P1 r hn.2 h
 end
theorem fe (i:Nat):F4 (Eg i)=false:=by
 have:Ee 35=false:=by decide
 unfold Eg F4
 simp [this]
theorem qm {i j:Nat} (hi:i<100) (hj:j<100) (h:Eg i=Eg j):i=j:=by
 unfold Eg at h
 simp only [List.cons.injEq,and_true,true_and] at h
 have:=congrArg UInt8.toNat h
 simp only [UInt8.toNat_ofNat'] at this
 omega
theorem P2 (s:Str) (y:Expr):Ez s y (Ap s)=y:=px (by simp [Ap,Expr.op,Expr.text])
theorem Jc {s t:Str} (y:Expr) (h:t≠s):Ez s y (Ap t)=Ap t:=by
 rw [Ap,Ez,if_neg (by simpa using h)]
 rfl
theorem Jd {c:List Col} (hc:Dg c=true) {t:Str} {j:Nat} (hj:Af t c=(j:Int)) (hjc:j<c.length) (ht:(c.getD j ⟨[],0⟩).name=t):∀i,B2 c (Ap t) i=if i≤j then Ap t else Ap (Eg j)
 | 0=>by rw [if_pos (Nat.zero_le _)];rfl
 | i+1=>by
  obtain ⟨hok,hnd⟩:=Xh hc
  rw [B2]
  have ih:=Jd hc hj hjc ht i
  cases hi:c[i]? with
  | none =>
   have:c.length≤i:=List.getElem?_eq_none_iff.1 hi
   rw [ih]
   show (if i≤j then Ap t else Ap (Eg j))=_
   rw [if_neg (by omega),if_neg (by omega)]
  | some y =>
   show Ez y.name _ _=_
   have hf:=Ly hnd hi
   rw [ih]
   by_cases e:i=j
   ·subst e
    have hy:y.name=t:=by
     rw [←ht,List.getD_eq_getElem?_getD,hi]
     rfl
    rw [if_pos (Nat.le_refl _),if_neg (by omega),hy]
    exact P2 _ _
   by_cases h:i≤j
   ·rw [if_pos h,if_pos (by omega)]
    refine Jc _ fun h2=>?_
    rw [←h2,hj] at hf
    omega
   rw [if_neg h,if_neg (by omega)]
   refine Jc _ fun h2=>?_
   have h3:=(hok y (List.mem_of_getElem? hi)).name
   rw [←h2,Dc,fe] at h3
   cases h3
theorem M9 {l:List Expr} (hl:∀e∈l,Ct Bw e=true) (h100:l.length<100) {j:Nat} (hj:j<l.length):∀i,Bk l (Ap (Eg j)) i=if i≤j then Ap (Eg j) else l.getD j Aa
 | 0=>by rw [if_pos (Nat.zero_le _)];rfl
 | i+1=>by
  rw [Bk]
  have ih:=M9 hl h100 hj i
  cases hi:l[i]? with
  | none =>
   have:l.length≤i:=List.getElem?_eq_none_iff.1 hi
   rw [ih]
   show (if i≤j then Ap (Eg j) else l.getD j Aa)=_
   rw [if_neg (by omega),if_neg (by omega)]
  | some z =>
   show Ez (Eg i) z _=_
   have hil:=(List.getElem?_eq_some_iff.1 hi).1
   rw [ih]
   by_cases e:i=j
   ·subst e
    rw [if_pos (Nat.le_refl _),if_neg (by omega),P2,List.getD_eq_getElem?_getD,hi]
    rfl
   by_cases h:i≤j
   ·rw [if_pos h,if_pos (by omega)]
    exact Jc _ fun h2=>e (qm (by omega) (by omega) h2.symm)
   rw [if_neg h,if_neg (by omega),List.getD_eq_getElem?_getD,List.getElem?_eq_getElem hj]
   refine put_none _ _ _ ?_
   cases hn:Fw (Eg i) l[j] with
   | false=>exact hn
   | true =>
    have h3:=M8 l[j] (hl _ (List.getElem_mem hj)) hn
    rw [fe] at h3
    cases h3
/-- What is put one behind the other, over marks, is put at once. -/
theorem ff {x:Expr} {c:List Col} {l:List Expr} (h12:c.length<100):Ci x c l=Lg x c l:=by
 have hany:l.any Dn=l.any (fun e => !(Ag e)):=by
  congr 1
  funext e
  rw [Dn,Bu]
 unfold Ci Lg
 rw [Bu,hany,Kt]
 by_cases h1:(((!(Ag x)) || !(Dg c)) || ((c.length:Int) != (l.length:Int)))=true
 ·rw [if_pos h1,if_pos (by simp only [Bool.or_eq_true] at h1 ⊢;rcases h1 with (h|h)|h;exact .inl (.inl (.inl h));exact .inl (.inr h);exact .inr h)]
 rw [if_neg h1]
 by_cases h2:(l.any fun e => !(Ag e))=true
 ·rw [if_pos h2,if_pos (by rw [h2];simp)]
 rw [if_neg h2,if_neg (by simp only [Bool.or_eq_true] at h1 ⊢;rintro (((h|h)|h)|h);exact h1 (.inl (.inl h));exact h2 h;exact h1 (.inl (.inr h));exact h1 (.inr h))]
 simp only [Bool.or_eq_true,not_or,Bool.not_eq_true',Bool.not_eq_false,bne_iff_ne,ne_eq,Classical.not_not] at h1
 obtain ⟨⟨hx,hc⟩,hl⟩:=h1
 have hxn:=Ep hx
 have hln:∀e∈l,Ct Bw e=true:=fun e he=>Ep (by
  cases h:Ag e with
  | true=>rfl
  | false=>exact absurd (List.any_eq_true.2 ⟨e,he,by rw [h];rfl⟩) h2)
 by_cases h3:((B4 x).any fun t=>decide (Af t c<0))=true
 ·rw [if_pos h3]
  obtain ⟨t,ht,hf⟩:=List.any_eq_true.1 h3
  rw [f9 c l (of_decide_eq_true hf) x hxn (by rw [←Nv];exact List.contains_iff_mem.2 ht)]
 rw [if_neg h3]
 have hfd:∀t,Fw t x=true→¬(Af t c<0):=fun t ht hf=>h3 (List.any_eq_true.2 ⟨t,List.contains_iff_mem.1 (by rw [Nv];exact ht),decide_eq_true hf⟩)
 rw [U6 c l x hfd]
 have e:Bk l (B2 c x c.length) c.length=G7 (fun t=>l.getD (Af t c).toNat Aa) x:=by
  have e1:B2 c x c.length=G7 (fun t=>B2 c (Ap t) c.length) x:=by
   conv=>lhs;rw [←Vq x hxn]
   exact M6 c Ap x c.length
  rw [e1,M7]
  refine Ru x fun t ht=>?_
  obtain ⟨j,hj,hjc⟩:=Dm (hfd t ht)
  obtain ⟨j',y,hy,hyn,hj'⟩:=find_mem.1 (hfd t ht)
  have hjj:j=j':=by omega
  subst hjj
  rw [Jd hc hj hjc (by rw [List.getD_eq_getElem?_getD,hy];exact hyn),if_neg (by omega),M9 hln (by omega) (by omega),if_neg (by omega),hj]
  rfl
 rw [e]
 show (if Ah _=true then _ else _)=_
 rw [Bu]
 cases Ag (G7 (fun t=>l.getD (Af t c).toNat Aa) x)<;>rfl
/-! How great the trees of ref21.Over are on the way. -/
mutual
theorem O6 {f:Str→Expr} {S:Nat} (h1:1≤S):∀x:Expr,(∀t,Fw t x=true→sizeE (f t)≤S)→sizeE (G7 f x)≤sizeE x*S
 | .mk o t v k,h=>by
  rw [G7]
  by_cases h2:(o==2)=true
  ·rw [if_pos h2,sizeE]
   have h3:=h t (by rw [E6];show ((o==2&&t==t) || _)=true;rw [h2];simp)
   have:S≤(1+Aq k)*S:=Nat.le_mul_of_pos_left _ (by omega)
   omega
  rw [if_neg h2,sizeE,sizeE,Nat.add_mul]
  have:=Rw h1 k fun t ht=>h t (by rw [E6];show (_ || Ed t k)=true;rw [ht];simp)
  omega
theorem Rw {f:Str→Expr} {S:Nat} (h1:1≤S):∀x:List Expr,(∀t,Ed t x=true→sizeE (f t)≤S)→Aq (G8 f x)≤Aq x*S
  | [],_=>by simp [G8,Aq]
  | e::r,h=>by
    rw [G8,Aq,Aq,Nat.add_mul]
    have a:=O6 h1 e fun t ht=>h t (by rw [Cq,ht];rfl)
    have b:=Rw h1 r fun t ht=>h t (by rw [Cq,ht];simp)
    omega
 end
theorem U7 (f:Str→Expr):∀k,G8 f k=k.map (G7 f)
 | []=>rfl
 | e::r=>by rw [G8,U7 f r];rfl
theorem U8 {t:Str} {x:Expr}:∀{k:List Expr},x∈k→Fw t x=true→Ed t k=true
 | a::r,h,hn=>by
  rw [Cq]
  rcases List.mem_cons.1 h with rfl|h
  ·rw [hn];rfl
  rw [U8 h hn];simp
theorem Vr {f:Str→Expr} {m:Nat}:∀(n:Nat) (x:Expr),okE n x→(∀t,Fw t x=true→okE m (f t))→okE (n+m) (G7 f x)
 | 0,x,h,_=>h.elim
 | n+1,.mk o t v k,h,hf=>by
  rw [G7]
  by_cases h2:(o==2)=true
  ·rw [if_pos h2]
   exact Dl (by omega) (hf t (by rw [E6];show ((o==2&&t==t) || _)=true;rw [h2];simp))
  rw [if_neg h2,show n+1+m=(n+m)+1 by omega,U7]
  refine ⟨h.1,by show (k.map (G7 f)).length≤_;rw [List.length_map];exact h.2.1,fun z hz=>?_⟩
  have hz':z∈k.map (G7 f):=hz
  obtain ⟨y,hy,rfl⟩:=List.mem_map.1 hz'
  exact Vr n y (h.2.2 y hy) fun t ht=>hf t (by rw [E6];show (_ || Ed t k)=true;rw [U8 hy ht];simp)
theorem Vs {s:Str} (h:s.length≤1048576):okE 1 (Ap s):=⟨h,by simp [Ap,Expr.kids],fun z hz=>by simp [Ap,Expr.kids] at hz⟩
theorem U9 (s:Str):sizeE (Ap s)=1:=rfl
/-- What ref21.Over stands on behind its checks. -/
structure OverOk (x:Expr) (c:List Col) (l:List Expr):Prop where
 hx:Ag x=true
 hc:Dg c=true
 hl:c.length=l.length
 top:c.length<100
 all:∀e∈l,Ag e=true
 fd:∀t,Fw t x=true→¬(Af t c<0)
theorem OverOk.m1 {x:Expr} {c:List Col} {l:List Expr} (h:OverOk x c l) (i:Nat):B2 c x i=G7 (fun t=>B2 c (Ap t) i) x:=by
 conv=>lhs;rw [←Vq x (Ep h.hx)]
 exact M6 c Ap x i
theorem OverOk.name {x:Expr} {c:List Col} {l:List Expr} (h:OverOk x c l) {t:Str} (ht:Fw t x=true) (i:Nat):B2 c (Ap t) i=Ap t∨∃j,B2 c (Ap t) i=Ap (Eg j):=by
 obtain ⟨j,hj,hjc⟩:=Dm (h.fd t ht)
 obtain ⟨j',y,hy,hyn,hj'⟩:=find_mem.1 (h.fd t ht)
 have hjj:j=j':=by omega
 subst hjj
 rw [Jd h.hc hj hjc (by rw [List.getD_eq_getElem?_getD,hy];exact hyn)]
 split
 ·exact .inl rfl
 exact .inr ⟨_,rfl⟩
theorem cq {t:Str} (h:F4 t=true):t.length≤16:=by
 cases t with
 | nil=>simp
 | cons c r =>
  simp only [F4,Bool.and_eq_true,decide_eq_true_eq] at h
  exact h.1.1.1
theorem OverOk.marks {x:Expr} {c:List Col} {l:List Expr} (h:OverOk x c l) (i:Nat):okE 31 (B2 c x i)∧sizeE (B2 c x i)≤300:=by
 have h0:=Gt h.hx
 rw [h.m1 i]
 refine ⟨Vr (m:=1) 30 x h0.1 fun t ht=>?_,?_⟩
 ·rcases h.name ht i with e|⟨j,e⟩
  ·rw [e]
   exact Vs (by have:=cq (M8 x (Ep h.hx) ht);omega)
  rw [e]
  exact Vs (by simp [Eg])
 have:=O6 (f:=fun t=>B2 c (Ap t) i) (S:=1) (Nat.le_refl _) x fun t ht=>by
  rcases h.name ht i with e|⟨j,e⟩<;>rw [e]<;>exact Nat.le_refl _
 omega
theorem OverOk.f1 {x:Expr} {c:List Col} {l:List Expr} (h:OverOk x c l) (i:Nat):Bk l (B2 c x c.length) i=G7 (fun t=>Bk l (B2 c (Ap t) c.length) i) x:=by
 rw [h.m1,M7]
theorem OverOk.fill {x:Expr} {c:List Col} {l:List Expr} (h:OverOk x c l) {t:Str} (ht:Fw t x=true) (i:Nat):(∃j,Bk l (B2 c (Ap t) c.length) i=Ap (Eg j))∨Bk l (B2 c (Ap t) c.length) i∈l:=by
 obtain ⟨j,hj,hjc⟩:=Dm (h.fd t ht)
 obtain ⟨j',y,hy,hyn,hj'⟩:=find_mem.1 (h.fd t ht)
 have hjj:j=j':=by omega
 subst hjj
 have hl:=h.hl
 have ht:=h.top
 rw [Jd h.hc hj hjc (by rw [List.getD_eq_getElem?_getD,hy];exact hyn),if_neg (by omega),M9 (fun e he=>Ep (h.all e he)) (by omega) (by omega)]
 split
 ·exact .inl ⟨j,rfl⟩
 refine .inr ?_
 rw [List.getD_eq_getElem?_getD,List.getElem?_eq_getElem (by omega)]
 exact List.getElem_mem (by omega)
theorem OverOk.fills {x:Expr} {c:List Col} {l:List Expr} (h:OverOk x c l) (i:Nat):okE 60 (Bk l (B2 c x c.length) i)∧sizeE (Bk l (B2 c x c.length) i)≤90000:=by
 have h0:=Gt h.hx
 rw [h.f1 i]
 refine ⟨Vr (m:=30) 30 x h0.1 fun t ht=>?_,?_⟩
 ·rcases h.fill ht i with ⟨j,e⟩|e
  ·rw [e]
   exact Dl (by omega) (Vs (by simp [Eg]))
  exact (Gt (h.all _ e)).1
 have:=O6 (f:=fun t=>Bk l (B2 c (Ap t) c.length) i) (S:=300) (by decide) x fun t ht=>by
  rcases h.fill ht i with ⟨j,e⟩|e
  ·rw [e,U9];decide
  exact (Gt (h.all _ e)).2
 have h2:sizeE x*300≤300*300:=Nat.mul_le_mul_right _ h0.2
 omega
theorem ACe (i:Nat) (h:i<100):IntKind.u8.wrap (97+(i:Int))=((UInt8.ofNat (97+i)).toNat:Int):=by
 have e:(UInt8.ofNat (97+i)).toNat=(97+i) % 256:=UInt8.toNat_ofNat'
 rw [e]
 simp [IntKind.wrap,IntKind.signed,IntKind.bits]
theorem vi {x:Expr} {c:List Col} {l:List Expr} (h:(((!(Ag x)) || !(Dg c)) || ((c.length:Int) != (l.length:Int)))=true):Lg x c l=(Aa,1):=if_pos h
theorem vj {x:Expr} {c:List Col} {l:List Expr} (h:(((!(Ag x)) || !(Dg c)) || ((c.length:Int) != (l.length:Int)))=false) {e:Expr} (he:e∈l) (h2:Ag e=false):Lg x c l=(Aa,1):=by
 unfold Lg
 rw [if_neg (by rw [h];simp),if_pos (List.any_eq_true.2 ⟨e,he,by rw [h2];rfl⟩)]
theorem vk {x:Expr} {c:List Col} {l:List Expr} (h:(((!(Ag x)) || !(Dg c)) || ((c.length:Int) != (l.length:Int)))=false) (h2:∀(j:Nat) (e:Expr),l[j]? = some e→(!(Ag e))=false):l.any (fun e => !(Ag e))=false∧Lg x c l=if (B4 x).any (fun t=>decide (Af t c<0)) then (Aa,9)
 else if !(Ag (Bk l (B2 c x c.length) c.length)) then (Aa,3)
 else (Bk l (B2 c x c.length) c.length,0):=by
 have h3:l.any (fun e => !(Ag e))=false:=by
  rw [List.any_eq_false]
  intro e he
  obtain ⟨j,hj⟩:=List.getElem?_of_mem he
  rw [h2 j e hj]
  simp
 refine ⟨h3,?_⟩
 unfold Lg
 rw [if_neg (by rw [h];simp),if_neg (by rw [h3];simp)]
theorem qn {x:Expr} {c:List Col} {l:List Expr} (h:(((!(Ag x)) || !(Dg c)) || ((c.length:Int) != (l.length:Int)))=false) (h2:l.any (fun e => !(Ag e))=false) (h100:c.length<100) (h3:∀(j:Nat) (t:Str),(B4 x)[j]? = some t→decide (Af t c<0)=false):OverOk x c l:=by
 simp only [Bool.or_eq_false_iff,Bool.not_eq_false',bne_eq_false_iff_eq] at h
 refine ⟨h.1.1,h.1.2,by omega,h100,fun e he=>?_,fun t ht=>?_⟩
 ·rw [List.any_eq_false] at h2
  simpa using h2 e he
 have:t∈B4 x:=List.contains_iff_mem.1 (by rw [Nv];exact ht)
 obtain ⟨j,hj⟩:=List.getElem?_of_mem this
 simpa using h3 j t hj
theorem qo {c:List Col} {x:Expr} {i:Nat} (h:i<c.length):B2 c x (i+1)=Ez c[i].name (Ap (Eg i)) (B2 c x i):=by rw [B2,List.getElem?_eq_getElem h]
theorem qq {l:List Expr} {x:Expr} {i:Nat} (h:i<l.length):Bk l x (i+1)=Ez (Eg i) l[i] (Bk l x i):=by rw [Bk,List.getElem?_eq_getElem h]
theorem c52 (i:Nat) (h:i<100) (Hp:List AObj):AFun Tryz.prog 52 [A2 (i:Nat)] Hp (A5 (Eg i)):=by
 refine ACall.body [.tmp 2] [0] Tryz.func52 Tryz.ntmps52 (fun d=>?_)
 refine Z42 ?_;refine Z2 ?_
 refine R.go (h:=Q.add64 (h1:=fun _=>by omega) (h2:=fun _=>by omega)) (hr:=?_)
 refine R.go ?_
 rw [ACe i h]
 refine K4 ?_;refine R.bytesStr [UInt8.ofNat (97+i)] jU jU jU ?_
 refine R.go (h:=Q.sadd (hl:=fun _=>by simp only [List.length_cons,List.length_nil];omega)) (hr:=?_)
 exact ry

theorem c24 (x:Expr) (hok:okE 61 x) (hsz:sizeE x≤1048576) (c:List Col) (hc:OkCols c) (h100:c.length<100) (l:List Expr) (hll:l.length≤1048576) (hlo:∀e∈l,okE 61 e) (hls:∀e∈l,sizeE e≤1048576) (Hp:List AObj):AFun Tryz.prog 24 [A4 x,A8 c,Au l] Hp (.tup [A4 (Lg x c l).1,A2 (Lg x c l).2]):=by
 refine ACall.body [.cell 6 45,.tmp 7] [0,1,2] Tryz.func24 Tryz.ntmps24 (fun d=>?_)
 refine Zm ?_;refine Lp ?_;refine R.go ?_;refine R.fin [1,2,3,6] ?_;refine Z31 ?_;refine R.call Tryz.call47 (c47 61 x hok (by decide) hsz _) ?_;refine Nd ?_;refine G.call Tryz.call48 (fun hB=>c48 c hc _) ?_;refine Uz ?_;refine Z70 ?_;refine R.fin [1,2,3,6,27] ?_
 refine W.cond (fun ht27=>?_) (fun ht27=>?_)
 ·simp only [List.length_map] at ht27
  have hm:=vi ht27
  refine ic ?_;exact Z74
 simp only [List.length_map] at ht27
 refine Pd ?_;refine R.fin [1,2,3,6,8] ?_
 refine AW.loopC (α:=Nat) (fun i=>⟨93,A3 1 (A8 c) (A3 2 (Au l) (A3 3 (.ptr (oid Hp.length 0) 0) (A3 6 (.ptr (oid Hp.length 1) 0) (A3 8 (A2 (i:Nat)) (fun _=>.any))))),Hp,[.cells 45 (Bi x),.cells 45 [A2 0,A5 [],A2 0,A2 0,A5 [],.nil]],[],none⟩) (fun i=>i≤l.length∧∀(j:Nat) (y:Expr),j<i→l[j]? = some y→(!(Ag y))=false) (fun i=>l.length-i) (0) ⟨Nat.zero_le _,fun j y h=>by omega⟩ (StLe.of_eq (by simp)) rfl (fun i hi=>?_)
 refine Z49 ?_;refine R.fin [1,2,3,6,8,32] ?_
 refine W.cond (fun ht32=>?_) (fun ht32=>?_)
 ·have hlt:i<l.length:=by simpa using ht32
  refine Ln ?_
  refine R.go (h:=Q.indexAddr (i) (A4 l[i]) (fun _=>Ad hlt)) (hr:=?_)
  refine R.go ?_;refine R.call Tryz.call47 (c47 61 l[i] (hlo _ (List.getElem_mem hlt)) (by decide) (hls _ (List.getElem_mem hlt)) _) ?_;refine R.go ?_;refine R.fin [1,2,3,6,8,40] ?_
  refine W.cond (fun ht40=>?_) (fun ht40=>?_)
  ·have hm:=vj ht27 (List.getElem_mem hlt) (by simpa using ht40)
   refine ic ?_;refine AW.ret ?_;exact zn
  refine Z65 ?_;refine R.fin [1,2,3,6,8] ?_;exact K.lpN (i+1) ⟨hlt,Ax hlt hi.2 ht40⟩ (by omega) (StCut.of_eq rfl)
 have hxe:l.length≤i:=by simpa using ht32
 obtain ⟨hany,hm3⟩:=vk ht27 (fun j y hy=>hi.2 j y (by have:=(List.getElem?_eq_some_iff.1 hy).1;omega) hy)
 have hnl:=kb x
 refine Z40 ?_;refine Z2 ?_;refine R.call Tryz.call49 (c49 x hsz _) ?_;refine R.go ?_;refine R.fin [1,2,3,6,9] ?_;refine Z31 ?_;refine R.fin [1,2,3,6,9,10] ?_
 refine AW.loopC (α:=Nat) (fun i=>⟨93,A3 1 (A8 c) (A3 2 (Au l) (A3 3 (.ptr (oid Hp.length 0) 0) (A3 6 (.ptr (oid Hp.length 1) 0) (A3 9 (Cy (B4 x)) (A3 10 (A2 (i:Nat)) (fun _=>.any)))))),Hp,[.cells 45 (Bi x),.cells 45 [A2 0,A5 [],A2 0,A2 0,A5 [],.nil]],[],none⟩) (fun i=>i≤(B4 x).length∧∀(j:Nat) (y:Str),j<i→(B4 x)[j]? = some y→decide (Af y c<0)=false) (fun i=>(B4 x).length-i) (0) ⟨Nat.zero_le _,fun j y h=>by omega⟩ (StLe.of_eq (by simp)) rfl (fun i hi=>?_)
 refine Z49 ?_;refine R.fin [1,2,3,6,9,10,47] ?_
 refine W.cond (fun ht47=>?_) (fun ht47=>?_)
 ·have hlt:i<(B4 x).length:=by simpa using ht47
  refine Pe ?_
  refine R.go (h:=Q.indexAddr (i) (A5 (B4 x)[i]) (fun _=>Ad hlt)) (hr:=?_)
  refine R.go ?_;refine R.call Tryz.call50 (c50 c hc (B4 x)[i] _) ?_;refine R.go ?_;refine R.fin [1,2,3,6,9,10,56] ?_
  refine W.cond (fun ht56=>?_) (fun ht56=>?_)
  ·have hm:Lg x c l=(Aa,9):=by rw [hm3,if_pos (List.any_eq_true.2 ⟨_,List.getElem_mem hlt,ht56⟩)]
   refine ic ?_;refine AW.ret ?_;exact zn
  refine Z65 ?_;refine R.fin [1,2,3,6,9,10] ?_;exact K.lpN (i+1) ⟨hlt,Ax hlt hi.2 ht56⟩ (by omega) (StCut.of_eq rfl)
 have hxe:(B4 x).length≤i:=by simpa using ht47
 have hn3:∀(j:Nat) (t:Str),(B4 x)[j]? = some t→decide (Af t c<0)=false:=fun j y hy=>hi.2 j y (by have:=(List.getElem?_eq_some_iff.1 hy).1;omega) hy
 have hov:=qn ht27 hany h100 hn3
 have hm4:=hm3.trans (if_neg (by rw [List.any_eq_true];rintro ⟨t,ht,hf⟩;obtain ⟨j,hj⟩:=List.getElem?_of_mem ht;rw [hn3 j t hj] at hf;cases hf))
 have hcl:=hov.hl
 refine Zq ?_;refine R.fin [1,2,3,6,11] ?_
 refine AW.loopC (α:=Nat) (fun i=>⟨93,A3 1 (A8 c) (A3 2 (Au l) (A3 3 (.ptr (oid Hp.length 0) 0) (A3 6 (.ptr (oid Hp.length 1) 0) (A3 11 (A2 (i:Nat)) (fun _=>.any))))),Hp,[.cells 45 (Bi (B2 c x i)),.cells 45 [A2 0,A5 [],A2 0,A2 0,A5 [],.nil]],[],none⟩) (fun i=>i≤c.length) (fun i=>c.length-i) (0) (Nat.zero_le _) (StLe.of_eq (by simp [B2])) rfl (fun i hi=>?_)
 refine Z49 ?_;refine R.fin [1,2,3,6,11,61] ?_
 refine W.cond (fun ht61=>?_) (fun ht61=>?_)
 ·have hlt:i<c.length:=by simpa using ht61
  refine Z38 ?_;refine W.drawQ0 [0,0,0,6,14,30,0,64,192,511,1023] 9 Ac (by kernel_rfl) ?_;refine Z44 ?_
  refine D.go (h:=Q.indexAddr (i) (An c[i]) (fun _=>Ad hlt)) (hr:=?_)
  refine Z44 ?_;refine D.call Tryz.call52 (c52 i (by omega) _) ?_;refine D.build (places:=#[(0,1),(1,1),(2,3),(5,1)]) jU (fun w=>by simp) jZ ?_;refine D.tail ?_;refine R.wk 72 _ (Kx (Eg i)) ?_;refine R.call Tryz.call51 (c51 c[i].name (Ap (Eg i)) 61 (B2 c x i) (Dl (by decide) (hov.marks i).1) _) ?_;refine Gg ?_;refine R.fin [1,2,3,6,11] ?_;refine Z83 ?_;refine R.fin [1,2,3,6,11] ?_;exact K.lpN (i+1) hlt (by omega) (StCut.of_eq (by rw [qo hlt];rfl))
 have hxe:i=c.length:=by simp at ht61;omega
 subst hxe
 refine Zq ?_;refine R.fin [1,2,3,6,12] ?_
 refine AW.loopC (α:=Nat) (fun i=>⟨93,A3 1 (A8 c) (A3 2 (Au l) (A3 3 (.ptr (oid Hp.length 0) 0) (A3 6 (.ptr (oid Hp.length 1) 0) (A3 12 (A2 (i:Nat)) (fun _=>.any))))),Hp,[.cells 45 (Bi (Bk l (B2 c x c.length) i)),.cells 45 [A2 0,A5 [],A2 0,A2 0,A5 [],.nil]],[],none⟩) (fun i=>i≤c.length) (fun i=>c.length-i) (0) (Nat.zero_le _) (StLe.of_eq (by simp [Bk])) rfl (fun i hi=>?_)
 refine Z49 ?_;refine R.fin [1,2,3,6,12,77] ?_
 refine W.cond (fun ht77=>?_) (fun ht77=>?_)
 ·have hlt:i<c.length:=by simpa using ht77
  have hle:i<l.length:=by omega
  refine Z38 ?_;refine W.drawQ0 [0,0,2,0,0,24,56,127,255] 7 Ac (by kernel_rfl) ?_;refine Z14 ?_;refine D.call Tryz.call52 (c52 i (by omega) _) ?_;refine Z14 ?_
  refine D.go (h:=Q.indexAddr (i) (A4 l[i]) (fun _=>Ad hle)) (hr:=?_)
  refine ia ?_;refine R.call Tryz.call51 (c51 (Eg i) l[i] 61 (Bk l (B2 c x c.length) i) (Dl (by decide) (hov.fills i).1) _) ?_;refine Gg ?_;refine R.fin [1,2,3,6,12] ?_;refine Z83 ?_;refine R.fin [1,2,3,6,12] ?_;exact K.lpN (i+1) hlt (by omega) (StCut.of_eq (by rw [qq hle];rfl))
 have hxe:i=c.length:=by simp at ht77;omega
 subst hxe
 refine Zq ?_
 refine R.call Tryz.call47 (c47 61 (Bk l (B2 c x c.length) c.length) (Dl (by decide) (hov.fills c.length).1) (by decide) (by have:=(hov.fills c.length).2;omega) _) ?_
 refine R.go ?_;refine R.fin [3,6,90] ?_
 refine W.cond (fun ht90=>?_) (fun ht90=>?_)
 ·have hm:=hm4.trans (if_pos ht90)
  refine ic ?_;exact Z74
 have hm:=hm4.trans (if_neg (by rw [ht90];simp))
 refine Z5 ?_;refine Z98 ?_;refine Z45 ?_;refine AW.ret ?_;exact K.fin (V.two (V.cellN jA jS) V.tmp) ⟨by rw [hm];show _=AV.tup [A4 (Bk l (B2 c x c.length) c.length),A2 0];rw [A7]<;>rfl,rfl⟩ (hlow:=by simp [or_imp,forall_and,Ae])

theorem O7 {take:List Str}:∀{c:List Col} {l:List Expr},C6 take c l=((c.zip l).filter fun p => !take.contains p.1.name).map (·.2)
 | [],[]=>rfl
 | [],_::_=>rfl
 | _::_,[]=>rfl
 | y::c,x::l=>by
  rw [C6,List.zip_cons_cons,List.filter_cons]
  cases h:take.contains y.name with
  | true=>simp only [Bool.not_true,Bool.false_eq_true,if_false,if_true];exact O7
  | false=>simp only [Bool.not_false,Bool.false_eq_true,if_false,if_true,List.map_cons];rw [O7]
theorem Ua {take:List Str}:∀{c:List Col} {l:List Expr},c.length=l.length→B5 c take=((c.zip l).filter fun p => !take.contains p.1.name).map (·.1)
 | [],[],_=>rfl
 | [],_::_,h=>by simp at h
 | _::_,[],h=>by simp at h
 | y::c,x::l,h=>by
  have ih:=Ua (take:=take) (c:=c) (l:=l) (by simpa using h)
  unfold B5 at ih ⊢
  rw [List.zip_cons_cons,List.filter_cons,List.filter_cons]
  cases h:take.contains y.name with
  | true=>simp only [Bool.not_true,Bool.false_eq_true,if_false];exact ih
  | false=>simp only [Bool.not_false,if_true,List.map_cons];rw [ih]
theorem ko {take:List Str} {c:List Col} {l:List Expr} (hl:c.length=l.length) (hn:(c.map (·.name)).Nodup):C6 take c l=(B5 c take).map fun y=>l.getD (Af y.name c).toNat Aa:=by
 rw [O7,Ua hl,List.map_map]
 refine List.map_congr_left fun p hp=>?_
 obtain ⟨i,hi⟩:=List.getElem?_of_mem (List.mem_filter.1 hp).1
 rw [List.getElem?_zip_eq_some] at hi
 show p.2=l.getD (Af p.1.name c).toNat Aa
 rw [Ly hn hi.1,Int.toNat_natCast,List.getD_eq_getElem?_getD,hi.2]
 rfl
theorem qr {c:List Col} {take:List Str} {y:Col} (h:y∈B5 c take):y∈c:=by
 unfold B5 at h
 exact (List.mem_filter.1 h).1
theorem qt {c:List Col} (hn:(c.map (·.name)).Nodup) {y:Col} (h:y∈c):¬Af y.name c<0:=by
 obtain ⟨i,hi⟩:=List.getElem?_of_mem h
 rw [Ly hn hi]
 omega
theorem Ym {c:List Col} {l0:List Mov}:∀e∈At c l0 0,sizeE e≤1048576:=by
 intro e he
 obtain ⟨y,_,rfl⟩:=List.mem_map.1 he
 rw [U9]
 decide
theorem Ma {c:List Col} {t:List Expr}:∀(l:List Expr),(B1 c t l).2=0→∀e∈(B1 c t l).1,Ah e=true
 | [],_,e,h=>by cases h
 | x::r,he,e,h=>by
  unfold B1 at he h
  split at he
  ·rename_i h3
   exact absurd he (by simpa using h3)
  rename_i h3
  rw [if_neg h3] at h
  split at he
  ·rename_i h4
   exact absurd he (by simpa using h4)
  rename_i h4
  rw [if_neg h4] at h
  rcases List.mem_cons.1 h with rfl|h
  ·have h5:(Ci x c t).2=0:=by simpa using h3
   unfold Ci at h5 ⊢
   split at h5
   ·exact absurd (show (1:Int)=0 from h5) (by decide)
   rename_i h6
   rw [if_neg h6]
   cases hp:putF c t x with
   | none=>rw [hp] at h5;exact absurd (show (9:Int)=0 from h5) (by decide)
   | some y =>
    rw [hp] at h5
    simp only at h5 ⊢
    split at h5
    ·rename_i h7
     rw [if_pos h7];exact h7
    exact absurd (show (3:Int)=0 from h5) (by decide)
  exact Ma r (by simpa using h4) e h
theorem kp {c:List Col} {ms:List Mov} {k:Nat} {m:Mov} (hk:ms[k]? = some m) (h:∀e∈At c ms k,sizeE e≤1048576) (he:((B1 (colsAt c ms k) (At c ms k) m.ahead).2 != 0)=false):∀e∈At c ms (k+1),sizeE e≤1048576:=by
 intro e h2
 rw [At,hk] at h2
 rcases List.mem_append.1 h2 with h2|h2
 ·exact h e (Gu e h2)
 have h3:=Ma m.ahead (by simpa using he) e h2
 rw [Bu] at h3
 have:=(Gt h3).2
 omega
theorem c29 (c:List Col) (hc:OkCols c) (l:List Mov) (h:OkMovs l) (hS:((D4 c l).2 != 0)=false) (Hp:List AObj):AFun Tryz.prog 29 [A8 c,Ca l] Hp (.tup [Au (Hc c l).1,A2 (Hc c l).2]):=by
 refine ACall.body [.tmp 4,.tmp 5] [0,1] Tryz.func29 Tryz.ntmps29 (fun d=>?_)
 refine mr ?_;refine S9 ?_;refine R.fin [0,1,6] ?_;refine Z31 ?_;refine R.fin [0,1,6,7] ?_
 refine AW.loopC (α:=Nat) (fun x=>⟨108,A3 0 (A8 c) (A3 1 (Ca l) (A3 6 (.slice true 6 (((c.take x).map fun y=>Ap y.name).map A4)) (A3 7 (A2 (x:Nat)) (fun _=>.any)))),Hp,[],[],none⟩) (fun x=>x≤c.length) (fun x=>c.length-x) (0) (Nat.zero_le _) (StLe.of_eq (by simp)) rfl (fun x hx=>?_)
 refine Z49 ?_;refine R.fin [0,1,6,7,21] ?_
 refine W.cond (fun ht21=>?_) (fun ht21=>?_)
 ·have hlt:x<c.length:=by simpa using ht21
  have hcl:=hc.1
  refine Z38 ?_;refine Z73 ?_;refine Z0 ?_
  refine R.go (h:=Q.indexAddr (x) (An c[x]) (fun _=>Ad hlt)) (hr:=?_)
  refine ww ?_;refine R.wk 30 _ (Kx c[x].name) ?_;refine K4 ?_
  refine R.append jU Tryz.type45 ?_ ?_ ?_
  ·simp only [List.length_map,List.length_take,List.length_cons,List.length_nil,Tryz.t45];omega
  ·simp only [List.length_map,List.length_take,List.length_cons,List.length_nil,Tryz.t45];omega
  refine Ic ?_;refine R.fin [0,1,6,7] ?_;refine Z83 ?_;refine R.fin [0,1,6,7] ?_;refine iu ?_
  rw [Fi hlt,List.map_append]
  exact StCut.take (own:=[]) (fun _=>.refl _) (by repeat (first|exact As|refine Ar (by first|exact Ff|exact Bd|exact Fj|exact C8|exact H4|(simp [or_imp,forall_and];done)) ?_)) (by simp) (by simp)
 have hxe:c.length≤x:=by simpa using ht21
 have hm:=Kz hS
 obtain ⟨hmay,hst,hss⟩:=Jb hS
 obtain ⟨hmv,hl8⟩:=cf hmay h
 have hrc:Bf c=true:=by unfold Iy at hmay;simp only [Bool.and_eq_true] at hmay;exact hmay.1
 refine Z40 ?_;refine Z66 ?_
 rw [List.take_of_length_le hxe]
 refine R.wk 6 _ (.strip true 6 _) ?_;refine R.go ?_;refine R.fin [0,1,6,8] ?_
 refine AW.loopC (α:=Nat) (fun k=>⟨108,A3 0 (A8 (colsAt c l k)) (A3 1 (Ca l) (A3 6 (Au (At c l k)) (A3 8 (A2 (k:Nat)) (fun _=>.any)))),Hp,[],[],none⟩) (fun k=>k≤l.length∧Im c l k∧TOk (At c l k)∧(At c l k).length=(colsAt c l k).length∧(∀e∈(At c l k),sizeE e≤1048576)) (fun k=>l.length-k) (0) ⟨Nat.zero_le _,ACd,Rq hc,by simp [At,I8,colsAt],Ym⟩ (StLe.of_eq rfl) rfl (fun k hk=>?_)
 refine Z49 ?_;refine R.fin [0,1,6,8,36] ?_
 refine W.cond (fun ht36=>?_) (fun ht36=>?_)
 ·have hlt:k<l.length:=by simpa using ht36
  have hmk:l[k]? = some l[k]:=List.getElem?_eq_getElem hlt
  have hmo:=h.each _ (List.getElem_mem hlt)
  obtain ⟨_,hnf,hTo,hTl,hTs⟩:=hk
  have hCo:=Eb hc (fun m hm=>h.each m hm) k
  have hCr:=Mz hrc hst k
  have hC12:=(Kc (by rw [Fv];exact hCr)).1
  have hCn:=(Kc (by rw [Fv];exact hCr)).2.2
  have hC1:(colsAt c l k).length<100:=by omega
  have htn:=Pq hst hmk
  have hteq:=(J1 htn).1
  have hcnt:=(De (Gq (Hr hmay _ (List.getElem_mem hlt)))).1
  have hgl:=Ev (colsAt c l k) l[k]
  have hal:=hmo.ahead.len
  refine Pe ?_
  refine R.go (h:=Q.indexAddr (k) (Dq l[k]) (fun _=>Ad hlt)) (hr:=?_)
  refine R.go ?_;refine R.call Tryz.call39 (c39 (colsAt c l k) hCo l[k] (hmv _ (List.getElem_mem hlt)) _) ?_;refine Z77 ?_;refine R.fin [0,1,6,8,9] ?_;refine S9 ?_;refine R.fin [0,1,6,8,9,11] ?_;refine Z31 ?_;refine R.fin [0,1,6,8,9,11,12] ?_
  refine AW.loopC (α:=Nat) (fun i=>⟨108,A3 0 (A8 (colsAt c l k)) (A3 1 (Ca l) (A3 6 (Au (At c l k)) (A3 8 (A2 (k:Nat)) (A3 9 (A8 (Am (colsAt c l k) l[k]).1) (A3 11 (.slice true 6 (((l[k].ahead.take i).map (fun e=>(Ci e (colsAt c l k) (At c l k)).1)).map A4)) (A3 12 (A2 (i:Nat)) (fun _=>.any))))))),Hp,[],[],none⟩) (fun i=>i≤l[k].ahead.length∧∀(j:Nat) (y:Expr),j<i→l[k].ahead[j]? = some y→((Ci y (colsAt c l k) (At c l k)).2 != 0)=false) (fun i=>l[k].ahead.length-i) (0) ⟨Nat.zero_le _,fun j y h=>by omega⟩ (StLe.of_eq (by simp)) rfl (fun i hi=>?_)
  refine Z34 ?_
  refine R.go (h:=Q.indexAddr (k) (Dq l[k]) (fun _=>Ad hlt)) (hr:=?_)
  refine Z69 ?_;refine R.fin [0,1,6,8,9,11,12,56] ?_
  refine W.cond (fun ht56=>?_) (fun ht56=>?_)
  ·have hli:i<l[k].ahead.length:=by simpa using ht56
   refine Ln ?_
   refine R.go (h:=Q.indexAddr (k) (Dq l[k]) (fun _=>Ad hlt)) (hr:=?_)
   refine Z22 ?_
   refine R.go (h:=Q.indexAddr (i) (A4 l[k].ahead[i]) (fun _=>Ad hli)) (hr:=?_)
   refine Z22 ?_;refine R.call Tryz.call24 (c24 l[k].ahead[i] (hmo.ahead.ok _ (List.getElem_mem hli)) (hmo.ahead.size _ (List.getElem_mem hli)) (colsAt c l k) hCo hC1 (At c l k) (by omega) hTo.ok hTs _) ?_
   rw [←ff hC1]
   refine Uy ?_;refine R.fin [0,1,6,8,9,11,12,13,14] ?_;refine Z8 ?_;refine R.fin [0,1,6,8,9,11,12,13,14,74] ?_
   refine W.cond (fun ht74=>?_) (fun ht74=>?_)
   ·have hm2:=qg hmk hnf (by rw [J2 hi.2 (List.getElem?_eq_getElem hli) ht74];exact ht74)
    rw [J2 hi.2 (List.getElem?_eq_getElem hli) ht74] at hm2
    refine Z1 ?_;refine me ?_;refine Z41 ?_;refine Z33 ?_;refine Z33 ?_;exact AB9
   refine ij ?_
   refine R.append jU Tryz.type45 ?_ ?_ ?_
   ·simp only [List.length_map,List.length_take,List.length_cons,List.length_nil,Tryz.t45];omega
   ·simp only [List.length_map,List.length_take,List.length_cons,List.length_nil,Tryz.t45];omega
   refine Ic ?_;refine R.fin [0,1,6,8,9,11,12] ?_;refine Z83 ?_;refine R.fin [0,1,6,8,9,11,12] ?_;refine K.lpN (i+1) ⟨hli,Ax hli hi.2 ht74⟩ (by omega) ?_
   rw [Fi hli,List.map_append]
   rw [List.map_cons,List.map_nil,A7]
   simp only [show Tryz.t45.size=6 from rfl]
   exact StCut.take (own:=[]) (fun _=>.refl _) (by repeat (first|exact As|refine Ar (by first|exact Gv|exact Bd|exact Fj|exact C8|exact H4|(simp [or_imp,forall_and];done)) ?_)) (by simp) (by simp)
  have hie:l[k].ahead.length≤i:=by simpa using ht56
  have hov:=Ky fun j y hy=>hi.2 j y (by have:=(List.getElem?_eq_some_iff.1 hy).1;omega) hy
  have hbn:((B1 (colsAt c l k) (At c l k) l[k].ahead).2 != 0)=false:=by rw [hov];rfl
  rw [List.take_of_length_le hie]
  have hDl:=congrArg List.length hteq
  simp only [List.length_append] at hDl
  have hsl0:=Cv (colsAt c l k) l[k].take
  refine Z40 ?_;refine S9 ?_;refine R.fin [0,1,6,8,9,11,15] ?_;refine Z31 ?_;refine R.fin [0,1,6,8,9,11,15,16] ?_
  refine AW.loopC (α:=Nat) (fun q=>⟨108,A3 0 (A8 (colsAt c l k)) (A3 1 (Ca l) (A3 6 (Au (At c l k)) (A3 8 (A2 (k:Nat)) (A3 9 (A8 (Am (colsAt c l k) l[k]).1) (A3 11 (.slice true 6 ((l[k].ahead.map (fun e=>(Ci e (colsAt c l k) (At c l k)).1)).map A4)) (A3 15 (.slice true 6 ((((B5 (colsAt c l k) l[k].take).take q).map (fun y:Col=>(At c l k).getD (Af y.name (colsAt c l k)).toNat Aa)).map A4)) (A3 16 (A2 (q:Nat)) (fun _=>.any)))))))),Hp,[],[],none⟩) (fun q=>q≤(B5 (colsAt c l k) l[k].take).length) (fun q=>(B5 (colsAt c l k) l[k].take).length-q) (0) (Nat.zero_le _) (StLe.of_eq (by simp)) rfl (fun q hq=>?_)
  refine L0 ?_
  refine R.go (h:=Q.sub64 (h1:=fun _=>by simp only [List.length_map];omega) (h2:=fun _=>by simp only [List.length_map];omega)) (hr:=?_)
  refine R.go ?_;refine R.fin [0,1,6,8,9,11,15,16,87] ?_
  refine W.cond (fun ht87=>?_) (fun ht87=>?_)
  ·have hql:q<(B5 (colsAt c l k) l[k].take).length:=by
    have:=congrArg List.length hteq
    simp only [List.length_append] at this
    simp only [List.length_map,decide_eq_true_eq] at ht87
    omega
   have hdq:((Am (colsAt c l k) l[k]).1.map An)[q]? = some (An (B5 (colsAt c l k) l[k].take)[q]):=by
    rw [hteq,List.getElem?_map,List.getElem?_append_left hql,List.getElem?_eq_getElem hql]
    rfl
   have hgq:=(Rj (c:=(colsAt c l k)) (l:=(At c l k)) (s:=(B5 (colsAt c l k) l[k].take)[q].name) hTl.symm (qt hCn (qr (List.getElem_mem hql))))
   obtain ⟨hgq,hgq2,hgq3⟩:=hgq
   have hsl:=Cv (colsAt c l k) l[k].take
   refine Z38 ?_;refine Z73 ?_;refine Z69 ?_
   refine R.go (h:=Q.indexAddr (q) (An (B5 (colsAt c l k) l[k].take)[q]) (fun _=>hdq)) (hr:=?_)
   refine Z0 ?_;refine R.call Tryz.call50 (c50 (colsAt c l k) hCo (B5 (colsAt c l k) l[k].take)[q].name _) ?_
   refine R.go (h:=Q.indexAddr ((Af (B5 (colsAt c l k) l[k].take)[q].name (colsAt c l k)).toNat) (A4 ((fun y:Col=>(At c l k).getD (Af y.name (colsAt c l k)).toNat Aa) (B5 (colsAt c l k) l[k].take)[q])) (fun _=>hgq)) (hr:=?_)
   refine Z52 ?_
   refine R.append jU Tryz.type45 ?_ ?_ ?_
   ·simp only [List.length_map,List.length_take,List.length_cons,List.length_nil,Tryz.t45];omega
   ·simp only [List.length_map,List.length_take,List.length_cons,List.length_nil,Tryz.t45];omega
   refine Ic ?_;refine R.fin [0,1,6,8,9,11,15,16] ?_;refine Z83 ?_;refine R.fin [0,1,6,8,9,11,15,16] ?_
   refine K.lpN (q+1) hql (by omega) (StCut.of_eq ?_)
   rw [Fi hql,List.map_append,List.map_cons,List.map_nil,A7]
   rfl
  have hqe:(B5 (colsAt c l k) l[k].take).length≤q:=by
   have:=congrArg List.length hteq
   simp only [List.length_append] at this
   simp only [List.length_map,decide_eq_false_iff_not] at ht87
   omega
  rw [List.take_of_length_le hqe,←ko hTl.symm hCn]
  have hsl:=Cv (colsAt c l k) l[k].take
  have hstl:=Gr (take:=l[k].take) hTl.symm
  refine Z40 ?_;refine Cx ?_;refine R.moveT ?_;refine R.go ?_
  refine R.append jU Tryz.type45 ?_ ?_ ?_
  ·simp only [List.length_map,List.length_take,List.length_cons,List.length_nil,Tryz.t45];omega
  ·simp only [List.length_map,List.length_take,List.length_cons,List.length_nil,Tryz.t45];omega
  refine R.wk 105 _ (.strip true 6 _) ?_;refine R.go ?_;refine R.fin [1,6,8,9] ?_;refine Z10 ?_;refine R.fin [0,1,6,8] ?_;refine Z83 ?_;refine R.fin [0,1,6,8] ?_
  refine K.lpN (k+1) ⟨hlt,ew hmk hnf hbn,ey hmk hmo hTo hbn,Ye hmk (Hr hmay _ (List.getElem_mem hlt)) htn hTl hbn,kp hmk hTs hbn⟩ (by omega) (StCut.of_eq ?_)
  rw [Yg hmk,Do hmk,hov]<;>rfl
 have hke:k=l.length:=by have:=hk.1;simp at ht36;omega
 subst hke
 have hm2:=qh hk.2.1
 refine Z40 ?_;refine Z20 ?_;exact zm

end Go.SX.Nb
