/- Texts on the way to this: FuseNames answers true for whatever it is handed: over right steps there is a tree for each column, of its kind or of none, or the error says that a tree grew too large. (part 9) -/
import Derived.Lib.ParseIntBTie
import Derived.Shelf.Strings.Builder1
import Derived.Lib.ItoaLen
import Derived.Test.YtepoiomaocjhfaaGreatDoorFuseNamesCardSaidPart8
set_option linter.all false
namespace Go.SX.Nb
open Go Go.SX Go.Proofs
variable [ErrAt]
set_option maxRecDepth 4000
theorem c36 (l:List Col) (hl:l.length≤1000000) (Hp:List AObj):AFun Tryz.prog 36 [A9 l] Hp (A9 l):=by
 refine ACall.body [.tmp 2] [0] Tryz.func36 Tryz.ntmps36 (fun d=>?_)
 refine Z40 ?_;refine Z31 ?_
 refine R.eqlNil jU (by kernel_rfl) (fun b hb=>?_)
 refine R.fin [0,4] ?_
 refine W.cond (fun ht4=>?_) (fun ht4=>?_)
 ·have hl0:l=[]:=by simpa using hb ht4
  subst hl0
  refine Z2 ?_;refine R.nilTmp 2 2 false ?_;refine Z3 ?_;refine K.thR ?_;exact K.fin (V.one V.tmp) ⟨rfl,rfl⟩
 refine Z5 ?_;refine Xs ?_;refine R.go ?_
 refine R.append jU Tryz.type58 ?_ ?_ ?_
 ·simp [Tryz.t58];omega
 ·simp [Tryz.t58];omega
 refine Ic ?_;refine Z3 ?_;exact K.fin (V.one V.tmp) ⟨rfl,rfl⟩

theorem m9 {Hp:List AObj} {y:Col} {n:Nat} (h:∀x∈Hp,ObjLow Hp.length x):∀x∈Hp++[AObj.cells 58 [],AObj.cells 58 (A6 y.name::A2 y.kind::List.replicate n AV.any)],ObjLow (Hp.length+2) x:=by
 intro x hx
 rcases List.mem_append.1 hx with hx|hx
 ·exact ObjLow.le (by omega) (h x hx)
 simp only [List.mem_cons,List.mem_nil_iff,or_false] at hx
 rcases hx with rfl|rfl
 ·intro z hz;cases hz
 intro z hz
 simp only [List.mem_cons] at hz
 rcases hz with rfl|rfl|hz
 ·simp
 ·simp
 rw [List.eq_of_mem_replicate hz];simp
theorem ABy (y:Col) (Hp:List AObj):ACallO Tryz.prog 36 [A9 [y]] Hp (fun r H'=>∃cc,1≤cc∧r=.sl (oid Hp.length 1) 2 1 cc∧H'=Hp++[.cells 58 [],.cells 58 (A6 y.name::A2 y.kind::List.replicate ((cc-1)*2) AV.any)]):=by
 refine ACallO.body [.tmp 2] [0] Tryz.func36 Tryz.ntmps36 (fun d=>?_)
 refine Z40 ?_;refine Z68 ?_
 refine R.assumeLow (fun hlow=>?_)
 refine R.go ?_
 refine R.eqlNil jU (by kernel_rfl) (fun b hb=>?_)
 refine R.fin [0,4] ?_
 refine W.cond (fun ht4=>?_) (fun ht4=>?_)
 ·exact absurd (hb ht4) (by simp)
 refine du ?_;refine R.buildObj0 (n:=0) jU Tryz.sizeOf58 ?_;refine R.go ?_
 refine R.appendObj (k:=2) (n:=1) jU Tryz.type58 (show [Ak y]≠[] by simp) ?_ ?_ (fun cc hcc=>?_)
 ·simp [Tryz.t58]
 ·simp
 have e0:Hy [Ak y]++List.replicate ((cc-[Ak y].length)*2) AV.any=A6 y.name::A2 y.kind::List.replicate ((cc-1)*2) AV.any:=rfl
 rw [e0]
 clear e0
 refine Xw ?_;exact K.finO 2 (V.tmp (t:=2)) ⟨cc,hcc,rfl,rfl⟩ (hlow:=by simp [oid]) (hobj:=m9 hlow)

theorem zt (c:List Col) (hc:OkCols c) (m:Mov) (h:OkMov m) (h3:(m.kind==3)=false) (Hp:List AObj):AFun Tryz.prog 94 [A9 c,E3 m] Hp (A9 (Ah c m)):=by
 refine ACall.body [.tmp 4] [0,1] Tryz.func94 Tryz.ntmps94 (fun d=>?_)
 refine Xx ?_;refine Z1 ?_;refine R.call Tryz.call36 (c36 m.give h.gives2 _) ?_;refine R.go ?_;refine ow ?_;refine R.fin [0,3,5,12] ?_
 refine W.cond (fun ht12=>?_) (fun ht12=>?_)
 ·rw [h3] at ht12;cases ht12
 refine O8 ?_;exact xd

theorem zu (c:List Col) (hc:OkCols c) (m:Mov) (h:OkMov m) (h3:(m.kind==3)=true) (s:Str) (y:Col) (ht:m.take=[s]) (hg:m.give=[y]) (Hp:List AObj):AFun Tryz.prog 94 [A9 c,E3 m] Hp (A9 (Ah c m)):=by
 have hgv:=bo (c:=c) h3 ht hg
 have hgy:=Wp (c:=c) h3 ht hg
 obtain ⟨kd,tk,gv,ah,bk⟩:=m
 simp only at ht hg h3
 subst ht hg
 refine ACall.body [.tmp 4] [0,1] Tryz.func94 Tryz.ntmps94 (fun d=>?_)
 refine Xx ?_;refine Z1 ?_;refine R.callO Tryz.call36 (ABy y _) ?_
 rintro _ _ ⟨cc,hcc,rfl,rfl⟩
 refine ⟨[.cells 58 [],.cells 58 (A6 y.name::A2 y.kind::List.replicate ((cc-1)*2) AV.any)],by simp,?_⟩
 simp only [List.append_nil,List.nil_append]
 refine R.go ?_;refine ow ?_;refine R.fin [0,3,5,12] ?_
 refine W.cond (fun ht12=>?_) (fun ht12=>?_)
 ·refine Z17 ?_
  refine R.go (h:=Q.indexAddr (0) (A6 s) (fun _=>rfl)) (hr:=?_)
  refine R.go ?_;refine R.call Tryz.call59 (c59 c hc s _) ?_;refine R.go ?_;refine R.fin [0,5,6] ?_;refine Z1 ?_;refine R.fin [0,5,6,20] ?_
  refine W.cond (fun ht20=>?_) (fun ht20=>?_)
  ·have hf:¬Aj s c<0:=by simp at ht20;omega
   obtain ⟨jj,hjj,hjc⟩:=Em hf
   refine Z29 ?_
   refine R.go (h:=Q.indexAddr ((Aj s c).toNat) (Ak (c.getD (Aj s c).toNat ⟨[],0⟩)) (fun _=>Of hf)) (hr:=?_)
   refine Z0 ?_;refine R.indexAddrSl (n:=1) 0 jU Tryz.sizeOf58 (by decide) ?_
   refine R.go (h:=Q.fieldAddrPtr (hc:=rfl)) (hr:=?_)
   refine R.storeOwn (y:=A2 (c.getD (Aj s c).toNat ⟨[],0⟩).kind) (ys:=[A2 (c.getD (Aj s c).toNat ⟨[],0⟩).kind]) (n:=1) (cs:=A6 y.name::A2 y.kind::List.replicate ((cc-1)*2) AV.any) (cs':=A6 y.name::A2 (c.getD (Aj s c).toNat ⟨[],0⟩).kind::List.replicate ((cc-1)*2) AV.any) (t':=58) jS ?_ (hc:=rfl) (hput:=rfl) (hfit:=by simp)
   refine R.fin [5] ?_;refine K.thN ?_;refine Z79 ?_;exact ot
  have hf:Aj s c<0:=by simp at ht20;omega
  refine Z5 ?_;refine wq ?_;exact ot
 rw [h3] at ht12;cases ht12

/-- What a move must have before it is turned. -/
structure MvOk (m:Mov):Prop where
 ok:OkMov m
 ahead:m.ahead.length=m.give.length
 back:m.back.length=m.take.length
 one:(m.kind==3)=true→m.take.length=1∧m.give.length=1
theorem r7 {m:Mov} (h:OkMov m) (hc:Cy m=true):MvOk m:=⟨h,(Do hc).1,(Do hc).2,fun h3=>Js hc (by rw [h3];rfl)⟩
theorem c94 (c:List Col) (hc:OkCols c) (m:Mov) (h:MvOk m) (Hp:List AObj):AFun Tryz.prog 94 [A9 c,E3 m] Hp (A9 (Ah c m)):=by
 cases h3:m.kind==3 with
 | false=>exact zt c hc m h.ok h3 Hp
 | true =>
  obtain ⟨h1,h2⟩:=h.one h3
  obtain ⟨s,hs⟩:=Uc h1
  obtain ⟨y,hy⟩:=Uc h2
  exact zu c hc m h.ok h3 s y hs hy Hp
theorem c67 (c:List Col) (hc:OkCols c) (m:Mov) (h:MvOk m) (Hp:List AObj):AFun Tryz.prog 67 [A9 c,E3 m] Hp (A9 (Ah c m)):=by
 cases h3:m.kind==3 with
 | false=>exact ABw c hc m h.ok h3 Hp
 | true =>
  obtain ⟨h1,h2⟩:=h.one h3
  obtain ⟨s,hs⟩:=Uc h1
  obtain ⟨y,hy⟩:=Uc h2
  exact ABx c hc m h.ok h3 s y hs hy Hp
theorem Qb {c:List Col} {m:Mov} (h:OkMov m):OkCols (Ah c m):=by
 refine ⟨by rw [F1];exact Nat.le_trans h.gives2 (by decide),fun y hy=>?_⟩
 unfold Ah at hy
 split at hy
 ·split at hy
  ·exact h.gives.2 y hy
  cases hg:m.give with
  | nil=>rw [hg] at hy;cases hy
  | cons z r =>
   rw [hg] at hy
   rcases List.mem_cons.1 hy with rfl|hy
   ·exact h.gives.2 z (by rw [hg];exact List.mem_cons_self)
   exact h.gives.2 y (by rw [hg];exact List.mem_cons_of_mem _ hy)
 exact h.gives.2 y hy
theorem Qc {c give:List Col} {take:List Str} (hc:OkCols c) (hg:OkCols give) (hg2:give.length≤1000000):OkCols (Bn c take give).1:=by
 have h0:OkCols ([]:List Col):=⟨by decide,fun y hy=>by cases hy⟩
 unfold Bn
 split
 ·exact h0
 rename_i hr
 split
 ·exact h0
 split
 ·exact h0
 split
 ·exact h0
 split
 ·exact h0
 exact Zd hc (by simpa using hr) hg hg2 rfl
theorem Qd {c give:List Col} {take:List Str} (h:((Bn c take give).2 != 0)=false):∀s∈take,¬Aj s c<0:=by
 have ht:Dy c take=true:=by
  unfold Bn at h
  split at h
  ·cases h
  split at h
  ·cases h
  rename_i ht
  simpa using ht
 intro s hs hf
 obtain ⟨j,hj⟩:=List.getElem?_of_mem hs
 have:=takenM_true.1 ht j s hj
 unfold Er at this
 rw [show decide (Aj s c<0)=true by simpa using hf] at this
 simp at this
theorem My {over:List Col} {l:List Expr} {w:List Col} {x:Nat} (hl:x<l.length) (hw:x<w.length):
  Bh over (l.drop x) (w.drop x)=if Ih l[x] over w[x].kind != 0 then Ih l[x] over w[x].kind else Bh over (l.drop (x+1)) (w.drop (x+1)):=by
 rw [List.drop_eq_getElem_cons hl,List.drop_eq_getElem_cons hw]
 rfl
theorem Qe {over:List Col} {l:List Expr} {w:List Col} {x:Nat} (hl:l.length≤x):Bh over (l.drop x) (w.drop x)=0:=by
 rw [List.drop_eq_nil_of_le hl]
 cases w.drop x<;>rfl
theorem Kc {α β:Type} {f:α→β} {l:List α} {x:Nat} (h:x<l.length):(l.take (x+1)).map f=(l.take x).map f++[f l[x]]:=by
 rw [List.take_succ_eq_append_getElem h,List.map_append];rfl
theorem br {c:List Col} {m:Mov} (h:((Bn c m.take (Ah c m)).2 != 0)=true):Ap c m=([],(Bn c m.take (Ah c m)).2):=if_pos h
theorem bt {c:List Col} {m:Mov} (h:((Bn c m.take (Ah c m)).2 != 0)=false) (h2:(Bh c m.ahead (Ah c m) != 0)=true):Ap c m=([],Bh c m.ahead (Ah c m)):=by
 unfold Ap;rw [if_neg (by rw [h];simp),if_pos h2]
theorem bu {c:List Col} {m:Mov} (h:((Bn c m.take (Ah c m)).2 != 0)=false) (h2:(Bh c m.ahead (Ah c m) != 0)=false) (h3:(Bh (Bn c m.take (Ah c m)).1 m.back (D5 c m) != 0)=true):Ap c m=([],Bh (Bn c m.take (Ah c m)).1 m.back (D5 c m)):=by
 unfold Ap;rw [if_neg (by rw [h];simp),if_neg (by rw [h2];simp),if_pos h3]
theorem bv {c:List Col} {m:Mov} (h:((Bn c m.take (Ah c m)).2 != 0)=false) (h2:(Bh c m.ahead (Ah c m) != 0)=false) (h3:(Bh (Bn c m.take (Ah c m)).1 m.back (D5 c m) != 0)=false):Ap c m=((Bn c m.take (Ah c m)).1,0):=by
 unfold Ap;rw [if_neg (by rw [h];simp),if_neg (by rw [h2];simp),if_neg (by rw [h3];simp)]
theorem c96 (l:List Expr) (h:OkEs l) (w:List Col) (hw:w.length=l.length) (c:List Col) (hc:OkCols c) (Hp:List AObj):AFun Tryz.prog 96 [Ay l,A9 w,A9 c] Hp (A2 (Bh c l w)):=by
 refine ACall.body [.tmp 6] [0,1,2] Tryz.func96 Tryz.ntmps96 (fun d=>?_)
 refine Z2 ?_;refine Tp ?_;refine Z35 ?_;refine R.fin [1,2,11,12,13] ?_
 refine AW.loopC (α:=Nat) (fun x=>⟨37,A3 1 (A9 w) (A3 2 (A9 c) (A3 11 (Ay l) (A3 12 (A2 (l.length:Nat)) (A3 13 (A2 (x:Nat)) (fun _=>.any))))),Hp,[],[],none⟩) (fun x=>x≤l.length∧Bh c l w=Bh c (l.drop x) (w.drop x)) (fun x=>l.length-x) (0) ⟨Nat.zero_le _,rfl⟩ (StLe.of_eq (by simp)) rfl (fun x hx=>?_)
 refine Z2 ?_;refine R.fin [1,2,11,12,13,14] ?_
 refine W.condX (fun ht14=>?_) (fun ht14=>?_)
 ·have hlt:x<l.length:=by simpa using ht14
  have hlw:x<w.length:=by omega
  have hlen:=h.len
  have hst:=My (over:=c) hlt hlw
  refine O7 ?_
  refine R.go (h:=Q.indexAddr (x) (A4 l[x]) (fun _=>Ae hlt)) (hr:=?_)
  refine dt ?_;refine R.fin [1,2,7,8,11,12,13] ?_;refine Z8 ?_;refine R.call Tryz.call60 (c60 61 l[x] (h.ok _ (List.getElem_mem hlt)) (by decide) c hc _) ?_;refine Z89 ?_;refine R.fin [1,2,7,8,10,11,12,13] ?_;refine Z1 ?_;refine R.fin [1,2,7,8,10,11,12,13,25] ?_
  refine W.cond (fun ht25=>?_) (fun ht25=>?_)
  ·have he:Ih l[x] c w[x].kind=(Cb l[x] c).2:=if_pos ht25
   have hm:Bh c l w=(Cb l[x] c).2:=by rw [hx.2,hst,he,if_pos ht25]
   refine Z1 ?_;refine jf ?_;exact Z58
  refine Z5 ?_;refine W.drawQ [0,0,0,0,12,28,60,127,255] 7 Ad (by kernel_rfl) ?_;refine Z81 ?_
  refine D.go (h:=Q.indexAddr (x) (Ak w[x]) (fun _=>Ae hlw)) (hr:=?_)
  refine Z14 ?_;refine D.tail ?_;refine R.call Tryz.call32 (c32 61 l[x] (h.ok _ (List.getElem_mem hlt)) (by decide) c hc w[x].kind _) ?_;refine R.go ?_;refine R.fin [1,2,11,12,13,35] ?_
  refine W.cond (fun ht35=>?_) (fun ht35=>?_)
  ·have he:Ih l[x] c w[x].kind=10:=by unfold Ih;rw [if_neg (by rw [ht25];simp),if_pos ht35]
   have hm:Bh c l w=10:=by rw [hx.2,hst,he];rfl
   refine Z2 ?_;refine Z86 ?_;exact Z58
  have he:Ih l[x] c w[x].kind=0:=by unfold Ih;rw [if_neg (by rw [ht25];simp),if_neg (by rw [ht35];simp)]
  have hnx:Bh c l w=Bh c (l.drop (x+1)) (w.drop (x+1)):=by rw [hx.2,hst,he];rfl
  refine Mc ?_;refine R.fin [1,2,11,12,13] ?_;refine K.lpN (x+1) ⟨hlt,hnx⟩ (by omega) ?_
  exact StCut.take (own:=[]) (fun _=>.refl _) (by repeat (first|exact Ar|refine Aq (by first|(simp [or_imp,forall_and];done)|exact Cc) ?_)) (by simp) (by simp)
 have hxe:l.length≤x:=by simpa using ht14
 have hm:Bh c l w=0:=by rw [hx.2,Qe hxe]
 refine dn ?_;exact y8

theorem c97 (c:List Col) (hc:OkCols c) (m:Mov) (h:OkMov m) (hf:∀s∈m.take,¬Aj s c<0) (Hp:List AObj):AFun Tryz.prog 97 [A9 c,E3 m] Hp (A9 (D5 c m)):=by
 refine ACall.body [.tmp 4] [0,1] Tryz.func97 Tryz.ntmps97 (fun d=>?_)
 refine Xx ?_;refine Z2 ?_;refine R.fin [0,3,5] ?_;refine Z68 ?_;refine R.nilSl 5 2 ?_;refine Z76 ?_;refine R.fin [0,5,9,10,11] ?_
 refine AW.loopC (α:=Nat) (fun x=>⟨26,A3 0 (A9 c) (A3 5 (.slice true 2 (((m.take.take x).map fun s=>c.getD (Aj s c).toNat ⟨[],0⟩).map Ak)) (A3 9 (D6 m.take) (A3 10 (A2 (m.take.length:Nat)) (A3 11 (A2 (x:Nat)) (fun _=>.any))))),Hp,[],[],none⟩) (fun x=>x≤m.take.length) (fun x=>m.take.length-x) (0) (Nat.zero_le _) (StLe.of_eq (by simp)) rfl (fun x hx=>?_)
 refine Z2 ?_;refine R.fin [0,5,9,10,11,12] ?_
 refine W.condX (fun ht12=>?_) (fun ht12=>?_)
 ·have hlt:x<m.take.length:=by simpa using ht12
  have htk:=h.takes
  have hfx:=hf _ (List.getElem_mem hlt)
  obtain ⟨jj,hjj,hjc⟩:=Em hfx
  refine O2 ?_
  refine R.go (h:=Q.indexAddr (x) (A6 m.take[x]) (fun _=>Ae hlt)) (hr:=?_)
  refine Z0 ?_;refine R.fin [0,5,7,9,10,11] ?_;refine V5 ?_;refine Z23 ?_;refine R.call Tryz.call59 (c59 c hc m.take[x] _) ?_
  refine R.go (h:=Q.indexAddr ((Aj m.take[x] c).toNat) (Ak (c.getD (Aj m.take[x] c).toNat ⟨[],0⟩)) (fun _=>Of hfx)) (hr:=?_)
  refine Z75 ?_
  refine R.append jU Tryz.type58 ?_ ?_ ?_
  ·simp only [List.length_map,List.length_take,List.length_cons,List.length_nil,Tryz.t58];omega
  ·simp only [List.length_map,List.length_take,List.length_cons,List.length_nil,Tryz.t58];omega
  refine Ic ?_;refine R.fin [0,5,9,10,11] ?_;refine O6 ?_;refine R.fin [0,5,9,10,11] ?_
  refine K.lpN (x+1) hlt (by omega) (StCut.of_eq ?_)
  rw [Kc hlt,List.map_append]
  rfl
 have hxe:m.take.length≤x:=by simpa using ht12
 refine Z26 ?_;refine je ?_;exact K.fin (V.one V.tmp) ⟨by unfold D5;rw [List.take_of_length_le hxe]<;>rfl,rfl⟩ (hlow:=Cm)

theorem c65 (c:List Col) (hc:OkCols c) (m:Mov) (h:MvOk m) (Hp:List AObj):AFun Tryz.prog 65 [A9 c,E3 m] Hp (.tup [A9 (Ap c m).1,A2 (Ap c m).2]):=by
 refine ACall.body [.tmp 4,.tmp 5] [0,1] Tryz.func65 Tryz.ntmps65 (fun d=>?_)
 refine Z17 ?_;refine It ?_;refine Z1 ?_;refine R.call Tryz.call94 (c94 c hc m h _) ?_;refine R.go ?_;refine R.fin [0,3,6] ?_;refine D3 ?_
 have hg:=Qb (c:=c) h.ok
 have hg2:(Ah c m).length≤1000000:=by rw [F1];exact h.ok.gives2
 refine Z76 ?_;refine R.call Tryz.call95 (c95 c hc m.take h.ok.takes (Ah c m) hg hg2 _) ?_;refine Z89 ?_;refine R.fin [0,3,6,7,8] ?_;refine Z8 ?_;refine R.fin [0,3,6,7,8,23] ?_
 refine W.cond (fun ht23=>?_) (fun ht23=>?_)
 ·have hm:=br ht23
  exact ol
 refine Z5 ?_;refine Z57 ?_;refine R.call Tryz.call96 (c96 m.ahead h.ok.ahead (Ah c m) (by rw [F1,h.ahead]) c hc _) ?_;refine R.go ?_;refine R.fin [0,3,7,9] ?_;refine Z1 ?_;refine R.fin [0,3,7,9,31] ?_
 refine W.cond (fun ht31=>?_) (fun ht31=>?_)
 ·have hm:=bt ht23 ht31
  exact ol
 refine Z5 ?_;refine W.seq ?_;refine W.drawQ [0,1,0,0,12,0,63,127] 6 Ad (by kernel_rfl) ?_;refine Z81 ?_;refine D.call Tryz.call97 (c97 c hc m h.ok (Qd ht23) _) ?_;refine D.go ?_;refine D.tail ?_;refine R.call Tryz.call96 (c96 m.back h.ok.back (D5 c m) (by rw [D5,List.length_map,h.back]) (Bn c m.take (Ah c m)).1 (Qc hc hg hg2) _) ?_;refine R.go ?_;refine R.fin [7,10] ?_;refine Z1 ?_;refine R.fin [7,10,41] ?_
 refine W.cond (fun ht41=>?_) (fun ht41=>?_)
 ·have hm:=bu ht23 ht31 ht41
  exact ol
 have hm:=bv ht23 ht31 ht41
 refine Md ?_;exact p8

theorem c39 (c:List Col) (hc:OkCols c) (m:Mov) (h:MvOk m) (Hp:List AObj):AFun Tryz.prog 39 [A9 c,E3 m] Hp (.tup [A9 (Ap c m).1,A2 (Ap c m).2]):=by
 refine ACall.body [.tmp 4,.tmp 5] [0,1] Tryz.func39 Tryz.ntmps39 (fun d=>?_)
 refine Z17 ?_;refine It ?_;refine Z1 ?_;refine R.call Tryz.call67 (c67 c hc m h _) ?_;refine R.go ?_;refine R.fin [0,3,6] ?_;refine D3 ?_
 have hg:=Qb (c:=c) h.ok
 have hg2:(Ah c m).length≤1000000:=by rw [F1];exact h.ok.gives2
 have hgl:=F1 c m
 have hah:=h.ahead
 have hbk:=h.back
 have htk:=h.ok.takes
 refine Z76 ?_;refine R.call Tryz.call68 (c68 c hc m.take h.ok.takes (Ah c m) hg hg2 _) ?_;refine Z89 ?_;refine R.fin [0,3,6,7,8] ?_;refine Z8 ?_;refine R.fin [0,3,6,7,8,25] ?_
 refine W.cond (fun ht25=>?_) (fun ht25=>?_)
 ·have hm:=br ht25
  exact ol
 have hfd:=Qd ht25
 refine Tn ?_;refine R.fin [0,3,6,7,9] ?_
 refine AW.loopC (α:=Nat) (fun x=>⟨77,A3 0 (A9 c) (A3 3 (.ro (Fy m)) (A3 6 (A9 (Ah c m)) (A3 7 (A9 (Bn c m.take (Ah c m)).1) (A3 9 (A2 (x:Nat)) (fun _=>.any))))),Hp,[],[],none⟩) (fun x=>x≤(Ah c m).length∧Bh c m.ahead (Ah c m)=Bh c (m.ahead.drop x) ((Ah c m).drop x)) (fun x=>(Ah c m).length-x) (0) ⟨Nat.zero_le _,rfl⟩ (StLe.of_eq (by simp)) rfl (fun x hx=>?_)
 refine Z57 ?_;refine R.fin [0,3,6,7,9,30] ?_
 refine W.cond (fun ht30=>?_) (fun ht30=>?_)
 ·have hlt:x<(Ah c m).length:=by simpa using ht30
  have hla:x<m.ahead.length:=by omega
  have hst:=My (over:=c) hla hlt
  refine Z43 ?_;refine W.drawQ [0,1,0,7,15,0,0,96,224,480,0,2047,4095] 11 Ad (by kernel_rfl) ?_;refine Z53 ?_
  refine D.go (h:=Q.indexAddr (x) (A4 m.ahead[x]) (fun _=>Ae hla)) (hr:=?_)
  refine Z53 ?_
  refine D.go (h:=Q.indexAddr (x) (Ak (Ah c m)[x]) (fun _=>Ae hlt)) (hr:=?_)
  refine Z53 ?_;refine D.tail ?_;refine R.call Tryz.call69 (c69 61 m.ahead[x] (h.ok.ahead.ok _ (List.getElem_mem hla)) (by decide) (h.ok.ahead.size _ (List.getElem_mem hla)) (Ah c m)[x].kind c hc _) ?_;refine R.go ?_;refine R.fin [0,3,6,7,9,10] ?_;refine Z1 ?_;refine R.fin [0,3,6,7,9,10,46] ?_
  refine W.cond (fun ht46=>?_) (fun ht46=>?_)
  ·have hf1:Bh c m.ahead (Ah c m)=Ih m.ahead[x] c (Ah c m)[x].kind:=by rw [hx.2,hst,if_pos ht46]
   have hm:=bt ht25 (by rw [hf1];exact ht46)
   rw [hf1] at hm
   refine Z1 ?_;refine tm ?_;refine Z18 ?_;exact th
  have hnx:Bh c m.ahead (Ah c m)=Bh c (m.ahead.drop (x+1)) ((Ah c m).drop (x+1)):=by rw [hx.2,hst,if_neg (by rw [ht46];simp)]
  refine Z64 ?_;refine R.fin [0,3,6,7,9] ?_;exact K.lpN (x+1) ⟨hlt,hnx⟩ (by omega) (StCut.of_eq rfl)
 have hxe:(Ah c m).length≤x:=by simpa using ht30
 have hf1:Bh c m.ahead (Ah c m)=0:=by rw [hx.2,Qe (by omega)]
 refine Z47 ?_;refine Z31 ?_;refine R.fin [0,3,7,11] ?_
 refine AW.loopC (α:=Nat) (fun k=>⟨77,A3 0 (A9 c) (A3 3 (.ro (Fy m)) (A3 7 (A9 (Bn c m.take (Ah c m)).1) (A3 11 (A2 (k:Nat)) (fun _=>.any)))),Hp,[],[],none⟩) (fun k=>k≤m.take.length∧Bh (Bn c m.take (Ah c m)).1 m.back (D5 c m)=Bh (Bn c m.take (Ah c m)).1 (m.back.drop k) ((D5 c m).drop k)) (fun k=>m.take.length-k) (0) ⟨Nat.zero_le _,rfl⟩ (StLe.of_eq (by simp)) rfl (fun k hk=>?_)
 refine P1 ?_;refine R.fin [0,3,7,11,52] ?_
 refine W.cond (fun ht52=>?_) (fun ht52=>?_)
 ·have hkt:k<m.take.length:=by simpa using ht52
  have hkb:k<m.back.length:=by omega
  have hfx:=hfd _ (List.getElem_mem hkt)
  obtain ⟨jj,hjj,hjc⟩:=Em hfx
  have hkc:k<(D5 c m).length:=by rw [D5,List.length_map];exact hkt
  have htc:(D5 c m)[k]=c.getD (Aj m.take[k] c).toNat ⟨[],0⟩:=by simp only [D5,List.getElem_map]
  have hst:=My (over:=(Bn c m.take (Ah c m)).1) hkb hkc
  rw [htc] at hst
  refine Z43 ?_;refine W.drawQ [0,1,0,7,15,0,0,0,128,0,896,1920,4032,8160,16352,32736,0,131071,262143] 17 Ad (by kernel_rfl) ?_;refine Z53 ?_
  refine D.go (h:=Q.indexAddr (k) (A4 m.back[k]) (fun _=>Ae hkb)) (hr:=?_)
  refine Z81 ?_;refine Z14 ?_
  refine D.go (h:=Q.indexAddr (k) (A6 m.take[k]) (fun _=>Ae hkt)) (hr:=?_)
  refine D.go ?_;refine D.call Tryz.call50 (c50 c hc m.take[k] _) ?_
  refine D.go (h:=Q.indexAddr ((Aj m.take[k] c).toNat) (Ak (c.getD (Aj m.take[k] c).toNat ⟨[],0⟩)) (fun _=>Of hfx)) (hr:=?_)
  refine Z53 ?_;refine D.tail ?_;refine R.call Tryz.call69 (c69 61 m.back[k] (h.ok.back.ok _ (List.getElem_mem hkb)) (by decide) (h.ok.back.size _ (List.getElem_mem hkb)) (c.getD (Aj m.take[k] c).toNat ⟨[],0⟩).kind (Bn c m.take (Ah c m)).1 (Qc hc hg hg2) _) ?_;refine R.go ?_;refine R.fin [0,3,7,11,12] ?_;refine Z1 ?_;refine R.fin [0,3,7,11,12,74] ?_
  refine W.cond (fun ht74=>?_) (fun ht74=>?_)
  ·have hf2:=hk.2.trans hst
   rw [if_pos ht74] at hf2
   have hm:=bu ht25 (by rw [hf1];rfl) (by rw [hf2];exact ht74)
   rw [hf2] at hm
   refine Z1 ?_;refine tm ?_;refine Z18 ?_;exact th
  have hnx:=hk.2.trans hst
  rw [if_neg (by rw [ht74];simp)] at hnx
  refine Z64 ?_;refine R.fin [0,3,7,11] ?_;exact K.lpN (k+1) ⟨hkt,hnx⟩ (by omega) (StCut.of_eq rfl)
 have hke:m.take.length≤k:=by simpa using ht52
 have hm:=bv ht25 (by rw [hf1];rfl) (by rw [hk.2,Qe (by omega)];rfl)
 refine Z47 ?_;refine Z17 ?_;refine Z18 ?_;exact p8

def Kp {α:Type} (p:α→Bool) (l:List α):Int:=if l.any p then (l.findIdx p:Int) else -1
theorem ma {α:Type} {p:α→Bool} {l:List α} {i:Nat} (h:i<l.length) (hn:p l[i]=true) (hp:∀(j:Nat) (y:α),j<i→l[j]? = some y→p y=false):(i:Int)=Kp p l:=by
 unfold Kp
 rw [if_pos (List.any_eq_true.2 ⟨_,List.getElem_mem h,hn⟩)]
 congr 1
 refine (List.findIdx_eq h |>.2 ⟨hn,fun j hj=>?_⟩).symm
 exact hp j (l[j]'(by omega)) hj (List.getElem?_eq_getElem (by omega))
theorem Zp {α:Type} {p:α→Bool} {l:List α} (h:l.any p=false):(-1:Int)=Kp p l:=by
 unfold Kp
 rw [if_neg (by rw [h];simp)]
theorem fw {α:Type} (p:α→Bool) (l:List α):decide (0≤Kp p l)=l.any p:=by
 unfold Kp
 cases l.any p<;>simp
def Ju (s:Str):Bool := !(Bg s)
def Da (e:Expr):Bool := !(Af e)
theorem Ws {m:Mov} (h:(((m.ahead.length:Int) != (m.give.length:Int)) || ((m.back.length:Int) != (m.take.length:Int)))=true):Cy m=false:=if_pos h
theorem Wt {m:Mov} (h:(((m.ahead.length:Int) != (m.give.length:Int)) || ((m.back.length:Int) != (m.take.length:Int)))=false):Cy m=if m.kind==1 then ((m.take.length:Int)==0)&&((m.give.length:Int)==1)
 else if m.kind==2 then ((m.take.length:Int)==1)&&((m.give.length:Int)==0)
 else if (m.kind==3) || (m.kind==6) then ((m.take.length:Int)==1)&&((m.give.length:Int)==1)
 else if m.kind==4 then ((m.take.length:Int)==1)&&decide ((1:Int)<(m.give.length:Int))
 else if m.kind==5 then decide ((1:Int)<(m.take.length:Int))&&((m.give.length:Int)==1)
 else false:=if_neg (by rw [h];simp)
theorem ABz (m:Mov) (Hp:List AObj):AFun Tryz.prog 125 [E3 m] Hp (Al (Cy m)):=by
 refine ACall.body [.tmp 2] [0] Tryz.func125 Tryz.ntmps125 (fun d=>?_)
 refine Z71 ?_;refine W.drawQ [0,1,3,0,8,24,7,127] 7 Ad (by kernel_rfl) ?_;refine Z81 ?_;refine Z53 ?_;refine V7 ?_;refine Tq ?_;refine Z68 ?_
 simp only [List.length_map]
 refine Z76 ?_;refine Z56 ?_;refine Z66 ?_;refine R.fin [1,3,4,22] ?_
 refine W.cond (fun ht22=>?_) (fun ht22=>?_)
 ·simp only [List.length_map] at ht22
  have hm:=Ws ht22
  exact od
 simp only [List.length_map] at ht22
 have hn:=Wt ht22
 refine Z5 ?_;refine Z8 ?_;refine R.fin [3,4,24] ?_;refine Lo ?_;refine R.fin [3,4,24,25] ?_
 refine W.cond (fun ht25=>?_) (fun ht25=>?_)
 ·refine Jd ?_;refine V9 ?_;exact K.fin (V.one V.tmp) ⟨by rw [hn];first|(simp only [ht22,ht25,hk3,hk6,Bool.true_or,Bool.false_or,Bool.or_true,Bool.or_false,if_true,if_false,Bool.false_eq_true,↓reduceIte]<;>rfl)|(simp only [ht22,ht25,hk3,Bool.true_or,Bool.false_or,Bool.or_true,if_true,if_false,Bool.false_eq_true,↓reduceIte]<;>rfl)|(simp only [ht22,ht25,if_true,if_false,Bool.false_eq_true,↓reduceIte]<;>rfl),rfl⟩
 refine Z1 ?_;refine R.fin [3,4,24,33] ?_
 refine W.cond (fun ht33=>?_) (fun ht33=>?_)
 ·refine Jd ?_;refine V9 ?_;exact K.fin (V.one V.tmp) ⟨by rw [hn];first|(simp only [ht22,ht25,ht33,hk3,hk6,Bool.true_or,Bool.false_or,Bool.or_true,Bool.or_false,if_true,if_false,Bool.false_eq_true,↓reduceIte]<;>rfl)|(simp only [ht22,ht25,ht33,hk3,Bool.true_or,Bool.false_or,Bool.or_true,if_true,if_false,Bool.false_eq_true,↓reduceIte]<;>rfl)|(simp only [ht22,ht25,ht33,if_true,if_false,Bool.false_eq_true,↓reduceIte]<;>rfl),rfl⟩
 refine Z8 ?_;refine R.fin [3,4,24,41] ?_
 refine W.cond (fun ht41=>?_) (fun ht41=>?_)
 ·have hk3:=ht41
  refine Z5 ?_
  refine W.cond (fun ht41=>?_) (fun ht41=>?_)
  ·refine Jd ?_;refine Z39 ?_;exact Z49
  rw [hk3] at ht41;cases ht41
 have hk3:=ht41
 refine Z11 ?_;refine R.fin [3,4,24,41] ?_;refine K.thN ?_
 refine W.cond (fun ht41=>?_) (fun ht41=>?_)
 ·have hk6:=ht41
  refine Jd ?_;refine Z39 ?_;exact Z49
 have hk6:=ht41
 refine Z1 ?_;refine R.fin [3,4,24,50] ?_
 refine W.cond (fun ht50=>?_) (fun ht50=>?_)
 ·refine Jd ?_;refine V9 ?_;exact K.fin (V.one V.tmp) ⟨by rw [hn];first|(simp only [ht22,ht25,ht33,ht41,ht41,ht50,hk3,hk6,Bool.true_or,Bool.false_or,Bool.or_true,Bool.or_false,if_true,if_false,Bool.false_eq_true,↓reduceIte]<;>rfl)|(simp only [ht22,ht25,ht33,ht41,ht41,ht50,hk3,Bool.true_or,Bool.false_or,Bool.or_true,if_true,if_false,Bool.false_eq_true,↓reduceIte]<;>rfl)|(simp only [ht22,ht25,ht33,ht41,ht41,ht50,if_true,if_false,Bool.false_eq_true,↓reduceIte]<;>rfl),rfl⟩
 refine Z1 ?_;refine R.fin [3,4,58] ?_
 refine W.cond (fun ht58=>?_) (fun ht58=>?_)
 ·refine Jd ?_;refine V9 ?_;exact yo
 refine V8 ?_;exact yo

theorem AC0 (s:Str) (hs:s.length≤1048576) (Hp:List AObj):AFun Tryz.prog 128 [A6 s] Hp (Al (Ju s)):=by
 refine ACall.body [.tmp 2] [0] Tryz.func128 Tryz.ntmps128 (fun d=>?_)
 refine Z40 ?_;refine Z2 ?_;refine R.call Tryz.call108 (kg s hs _) ?_;exact Z99

theorem AC1 (e:Expr) (hok:okE 61 e) (Hp:List AObj):AFun Tryz.prog 126 [A4 e] Hp (Al (Da e)):=by
 refine ACall.body [.tmp 2] [0] Tryz.func126 Tryz.ntmps126 (fun d=>?_)
 refine Y2 ?_;exact xv

theorem c77 (e:Expr) (hok:okE 61 e) (Hp:List AObj):AFun Tryz.prog 77 [A4 e] Hp (Al (Da e)):=by
 refine ACall.body [.tmp 2] [0] Tryz.func77 Tryz.ntmps77 (fun d=>?_)
 refine Y2 ?_;exact xv

theorem AC2 (l:List Str) (hl:l.length≤1048576) (hn:∀s∈l,s.length≤1048576) (Hp:List AObj):AFun Tryz.prog 163 [D6 l,.fn (.func 128) [] []] Hp (A2 (Kp Ju l)):=by
 refine ACall.body [.tmp 4] [0,1] Tryz.func163 Tryz.ntmps163 (fun d=>?_)
 refine dy ?_
 refine AW.loopC (α:=Nat) (fun x=>⟨19,A3 0 (D6 l) (A3 1 (.fn (.func 128) [] []) (A3 7 (A2 l.length) (A3 8 (A2 (x:Nat)) (fun _=>.any)))),Hp,[],[],none⟩) (fun x=>x≤l.length∧∀(j:Nat) y,j<x→l[j]? = some y→Ju y=false) (fun x=>l.length-x) (0) ⟨Nat.zero_le _,fun j y h=>by omega⟩ (StLe.of_eq (by simp)) rfl (fun x hx=>?_)
 refine dm ?_
 refine W.condX (fun ht9=>?_) (fun ht9=>?_)
 ·have hlt:x<l.length:=by simpa using ht9
  refine dx ?_
  refine R.go (h:=Q.indexAddr (x) (A6 l[x]) (fun _=>Ae hlt)) (hr:=?_)
  refine R.go ?_;refine R.callV Tryz.call128 (AC0 l[x] (hn _ (List.getElem_mem hlt)) _) ?_;refine eb ?_
  refine W.cond (fun ht16=>?_) (fun ht16=>?_)
  ·exact ob
  exact oe
 have hxe:l.length≤x:=by simpa using ht9
 exact ou

theorem c127 (l:List Str) (hl:l.length≤1048576) (hn:∀s∈l,s.length≤1048576) (Hp:List AObj):AFun Tryz.prog 127 [D6 l,.fn (.func 128) [] []] Hp (Al (l.any Ju)):=by
 refine ACall.body [.tmp 4] [0,1] Tryz.func127 Tryz.ntmps127 (fun d=>?_)
 refine Z62 ?_;refine Z1 ?_;refine R.call Tryz.call163 (AC2 l hl hn _) ?_;refine Z0 ?_;exact Z98

theorem zv (l:List Expr) (hl:l.length≤1048576) (hn:∀e∈l,okE 61 e) (Hp:List AObj):AFun Tryz.prog 111 [Ay l,.fn (.func 126) [] []] Hp (A2 (Kp Da l)):=by
 refine ACall.body [.tmp 4] [0,1] Tryz.func111 Tryz.ntmps111 (fun d=>?_)
 refine dy ?_
 refine AW.loopC (α:=Nat) (fun x=>⟨19,A3 0 (Ay l) (A3 1 (.fn (.func 126) [] []) (A3 7 (A2 l.length) (A3 8 (A2 (x:Nat)) (fun _=>.any)))),Hp,[],[],none⟩) (fun x=>x≤l.length∧∀(j:Nat) y,j<x→l[j]? = some y→Da y=false) (fun x=>l.length-x) (0) ⟨Nat.zero_le _,fun j y h=>by omega⟩ (StLe.of_eq (by simp)) rfl (fun x hx=>?_)
 refine dm ?_
 refine W.condX (fun ht9=>?_) (fun ht9=>?_)
 ·have hlt:x<l.length:=by simpa using ht9
  refine dx ?_
  refine R.go (h:=Q.indexAddr (x) (A4 l[x]) (fun _=>Ae hlt)) (hr:=?_)
  refine R.go ?_;refine R.callV Tryz.call126 (AC1 l[x] (hn _ (List.getElem_mem hlt)) _) ?_;refine eb ?_
  refine W.cond (fun ht16=>?_) (fun ht16=>?_)
  ·exact ob
  exact oe
 have hxe:l.length≤x:=by simpa using ht9
 exact ou

theorem su (l:List Expr) (hl:l.length≤1048576) (hn:∀e∈l,okE 61 e) (Hp:List AObj):AFun Tryz.prog 76 [Ay l,.fn (.func 126) [] []] Hp (Al (l.any Da)):=by
 refine ACall.body [.tmp 4] [0,1] Tryz.func76 Tryz.ntmps76 (fun d=>?_)
 refine Z62 ?_;refine Z1 ?_;refine R.call Tryz.call111 (zv l hl hn _) ?_;refine Z0 ?_;exact Z98

theorem zw (l:List Expr) (hl:l.length≤1048576) (hn:∀e∈l,okE 61 e) (Hp:List AObj):AFun Tryz.prog 111 [Ay l,.fn (.func 77) [] []] Hp (A2 (Kp Da l)):=by
 refine ACall.body [.tmp 4] [0,1] Tryz.func111 Tryz.ntmps111 (fun d=>?_)
 refine dy ?_
 refine AW.loopC (α:=Nat) (fun x=>⟨19,A3 0 (Ay l) (A3 1 (.fn (.func 77) [] []) (A3 7 (A2 l.length) (A3 8 (A2 (x:Nat)) (fun _=>.any)))),Hp,[],[],none⟩) (fun x=>x≤l.length∧∀(j:Nat) y,j<x→l[j]? = some y→Da y=false) (fun x=>l.length-x) (0) ⟨Nat.zero_le _,fun j y h=>by omega⟩ (StLe.of_eq (by simp)) rfl (fun x hx=>?_)
 refine dm ?_
 refine W.condX (fun ht9=>?_) (fun ht9=>?_)
 ·have hlt:x<l.length:=by simpa using ht9
  refine dx ?_
  refine R.go (h:=Q.indexAddr (x) (A4 l[x]) (fun _=>Ae hlt)) (hr:=?_)
  refine R.go ?_;refine R.callV Tryz.call77 (c77 l[x] (hn _ (List.getElem_mem hlt)) _) ?_;refine eb ?_
  refine W.cond (fun ht16=>?_) (fun ht16=>?_)
  ·exact ob
  exact oe
 have hxe:l.length≤x:=by simpa using ht9
 exact ou

theorem zx (l:List Expr) (hl:l.length≤1048576) (hn:∀e∈l,okE 61 e) (Hp:List AObj):AFun Tryz.prog 76 [Ay l,.fn (.func 77) [] []] Hp (Al (l.any Da)):=by
 refine ACall.body [.tmp 4] [0,1] Tryz.func76 Tryz.ntmps76 (fun d=>?_)
 refine Z62 ?_;refine Z1 ?_;refine R.call Tryz.call111 (zw l hl hn _) ?_;refine Z0 ?_;exact Z98

theorem r8 (s:Str) (Hp:List AObj):AFun Tryz.prog 130 [A6 s] Hp (A4 (Bd s)):=by
 refine ACall.body [.cell 2 45] [0] Tryz.func130 Tryz.ntmps130 (fun d=>?_)
 refine Z63 ?_;refine y7 ?_;refine o8 ?_;refine Z3 ?_;exact K.fin (V.one (V.cellN jA jS)) ⟨by rw [A8];rfl,rfl⟩

theorem c45 (l:List Expr) (hl:l.length≤1048576) (hn:∀e∈l,okE 61 e) (Hp:List AObj):AFun Tryz.prog 45 [Ay l] Hp (Al (l.any Da)):=by
 refine ACall.body [.tmp 2] [0] Tryz.func45 Tryz.ntmps45 (fun d=>?_)
 refine Z40 ?_;refine Z2 ?_;refine R.call Tryz.call76 (zx l hl hn _) ?_;exact o7

theorem Wu {m:Mov} {c:Col}:(((!(Bg c.name)) || (!((Ax c.kind==[])==(m.kind==3)))) || ((m.kind==3)&&(c.kind != 0))) = !Fz m c:=by
 unfold Fz
 cases Bg c.name<;>cases (Ax c.kind==([]:Str))<;>cases (m.kind==3)<;>cases (c.kind != 0)<;>rfl
theorem vl {m:Mov} (h:(!(Cy m))=true):D7 m=false:=by
 have:Cy m=false:=by simpa using h
 unfold D7;rw [this];rfl
theorem vm {m:Mov} {c:Col} (hc:c∈m.give) (h:Fz m c=false):D7 m=false:=by
 have:m.give.all (Fz m)=false:=List.all_eq_false.2 ⟨c,hc,by rw [h];simp⟩
 unfold D7;rw [this];simp
theorem vn {m:Mov} (h:((m.take.any Ju || m.ahead.any Da) || m.back.any Da)=true):D7 m=false:=by
 unfold D7
 rw [show Ju=fun s => !(Bg s) from rfl,show Da=fun e => !(Af e) from rfl,Es,Es,Es] at h
 cases h1:m.take.all Bg<;>cases h2:m.ahead.all Af<;>cases h3:m.back.all Af<;>simp_all
theorem r9 {m:Mov} (h1:Cy m=true) (h2:m.give.all (Fz m)=true) (h:((m.take.any Ju || m.ahead.any Da) || m.back.any Da)=false):D7 m=H9 m:=by
 unfold D7
 rw [show Ju=fun s => !(Bg s) from rfl,show Da=fun e => !(Af e) from rfl,Es,Es,Es] at h
 rw [h1,h2]
 cases h1:m.take.all Bg<;>cases h2:m.ahead.all Af<;>cases h3:m.back.all Af<;>simp_all
theorem Iq {α β:Type} {f:α→β} {l:List α} {d:α} (h:0<l.length):(l.map f)[0]? = some (f (l.getD 0 d)):=by
 rw [List.getElem?_map,List.getElem?_eq_getElem h,List.getD_eq_getElem?_getD,List.getElem?_eq_getElem h]
 rfl
theorem I7 {α:Type} {l:List α} {d:α} (h:0<l.length):l.getD 0 d∈l:=by
 rw [List.getD_eq_getElem?_getD,List.getElem?_eq_getElem h]
 exact List.getElem_mem h
theorem mb {m:Mov} (h:(m.kind==3)=true):H9 m=(eqE (m.ahead.getD 0 Ab) (Bd (m.take.getD 0 []))&&eqE (m.back.getD 0 Ab) (Bd (m.give.getD 0 ⟨[],0⟩).name)):=if_pos h
theorem mc {m:Mov} (h:(m.kind==3)=false) (h6:(m.kind==6)=true):H9 m=(m.take.getD 0 []==(m.give.getD 0 ⟨[],0⟩).name):=by unfold H9;rw [if_neg (by rw [h];simp),if_pos h6]
theorem md {m:Mov} (h:(m.kind==3)=false) (h6:(m.kind==6)=false):H9 m=true:=by unfold H9;rw [if_neg (by rw [h];simp),if_neg (by rw [h6];simp)]
theorem c93 (m:Mov) (h:OkMov m) (Hp:List AObj):AFun Tryz.prog 93 [E3 m] Hp (Al (D7 m)):=by
 refine ACall.body [.tmp 2] [0] Tryz.func93 Tryz.ntmps93 (fun d=>?_)
 refine Z71 ?_;refine Z31 ?_;refine R.call Tryz.call125 (ABz m _) ?_;refine R.go ?_;refine R.fin [1,8] ?_
 refine W.cond (fun ht8=>?_) (fun ht8=>?_)
 ·have hm:=vl ht8
  exact ji
 have hct:Cy m=true:=by simpa using ht8
 refine Z5 ?_;refine Z57 ?_;refine R.fin [1,10,11,12] ?_
 refine AW.loopC (α:=Nat) (fun x=>⟨95,A3 1 (.ro (Fy m)) (A3 10 (A9 m.give) (A3 11 (A2 (m.give.length:Nat)) (A3 12 (A2 (x:Nat)) (fun _=>.any)))),Hp,[],[],none⟩) (fun x=>x≤m.give.length∧∀(j:Nat) (y:Col),j<x→m.give[j]? = some y→(!Fz m y)=false) (fun x=>m.give.length-x) (0) ⟨Nat.zero_le _,fun j y h=>by omega⟩ (StLe.of_eq (by simp)) rfl (fun x hx=>?_)
 refine Z2 ?_;refine R.fin [1,10,11,12,13] ?_
 refine W.condX (fun ht13=>?_) (fun ht13=>?_)
 ·have hlt:x<m.give.length:=by simpa using ht13
  have hgl:=h.gives2
  refine O2 ?_
  refine R.go (h:=Q.indexAddr (x) (Ak m.give[x]) (fun _=>Ae hlt)) (hr:=?_)
  refine O5 ?_;refine R.fin [1,4,10,11,12] ?_;refine W.drawQ [0,1,3,7,15,31,63,127,255,31,543,1567,4095,8191,16383,32767,65535,131071,262143,524287,1048575,2097151,4194303,8388607] 12 Ad (by kernel_rfl) ?_;refine Z14 ?_;refine D.call Tryz.call108 (kg m.give[x].name (h.gives.2 _ (List.getElem_mem hlt)) _) ?_;refine dq ?_;refine H.call Tryz.call70 (fun hB=>c70 m.give[x].kind _) ?_;refine Z45 ?_;refine Z45 ?_;refine D.tail ?_;refine G.go ?_;refine Z56 ?_;refine Mf ?_;refine R.go ?_;refine R.fin [1,10,11,12,39] ?_
  refine W.cond (fun ht39=>?_) (fun ht39=>?_)
  ·rw [Wu] at ht39
   have hm:=vm (List.getElem_mem hlt) (by simpa using ht39)
   exact tj
  rw [Wu] at ht39
  refine Mc ?_;refine R.fin [1,10,11,12] ?_;refine K.lpN (x+1) ⟨hlt,Av hlt hx.2 ht39⟩ (by omega) ?_
  exact StCut.take (own:=[]) (fun _=>.refl _) (by repeat (first|exact Ar|refine Aq (by first|(simp [or_imp,forall_and];done)|exact Cm|exact low_ro.2 Ly) ?_)) (by simp) (by simp)
 have hxe:m.give.length≤x:=by simpa using ht13
 have hga:m.give.all (Fz m)=true:=by have:=En hxe hx.2;rw [Es] at this;simpa using this
 refine dn ?_;refine R.fin [1,5] ?_;refine Z8 ?_;refine R.call Tryz.call127 (c127 m.take h.takes h.names _) ?_;refine R.go ?_;refine Va ?_;refine G.call Tryz.call76 (fun hB=>su m.ahead h.ahead.len h.ahead.ok _) ?_;refine Z83 ?_;refine G.call Tryz.call76 (fun hB=>su m.back h.back.len h.back.ok _) ?_;refine R.go ?_;refine R.fin [1,55] ?_
 refine W.cond (fun ht55=>?_) (fun ht55=>?_)
 ·have hm:=vn ht55
  exact ji
 have hm0:=r9 hct hga ht55
 refine Z5 ?_;refine Z8 ?_;refine R.fin [1,57] ?_;refine Lo ?_;refine R.fin [1,57,58] ?_
 refine W.cond (fun ht58=>?_) (fun ht58=>?_)
 ·obtain ⟨hl1,hl2⟩:=Js hct (by rw [ht58];simp)
  obtain ⟨hl3,hl4⟩:=Do hct
  have g1:=Iq (f:=A4) (l:=m.ahead) (d:=Ab) (by omega)
  have g2:=Iq (f:=A4) (l:=m.back) (d:=Ab) (by omega)
  have g3:=Iq (f:=A6) (l:=m.take) (d:=[]) (by omega)
  have g4:=Iq (f:=Ak) (l:=m.give) (d:=⟨[],0⟩) (by omega)
  have ok1:=h.ahead.ok _ (I7 (l:=m.ahead) (d:=Ab) (by omega))
  have ok2:=h.back.ok _ (I7 (l:=m.back) (d:=Ab) (by omega))
  have hm:=hm0.trans (mb ht58)
  refine W.drawQ [0,1,3,7,0,16,48,112,240,511,1023,2047,4095,8191,16383,2047,34815,100351,231423,493567,1017855,2097151,4194303,8388607] 21 Ad (by kernel_rfl) ?_;refine Z14 ?_
  refine D.go (h:=Q.indexAddr (0) (A4 (m.ahead.getD 0 Ab)) (fun _=>g1)) (hr:=?_)
  refine Z53 ?_
  refine D.go (h:=Q.indexAddr (0) (A6 (m.take.getD 0 [])) (fun _=>g3)) (hr:=?_)
  refine D.go ?_;refine D.call Tryz.call130 (r8 (m.take.getD 0 []) _) ?_;refine D.call Tryz.call129 (zq 61 (m.ahead.getD 0 Ab) ok1 (Bd (m.take.getD 0 [])) _) ?_;refine D.go ?_;refine Z45 ?_
  refine H.go (h:=Q.indexAddr (0) (A4 (m.back.getD 0 Ab)) (fun _=>g2)) (hr:=?_)
  refine Xy ?_
  refine H.go (h:=Q.indexAddr (0) (Ak (m.give.getD 0 ⟨[],0⟩)) (fun _=>g4)) (hr:=?_)
  refine Z45 ?_;refine H.call Tryz.call130 (fun hB=>r8 (m.give.getD 0 ⟨[],0⟩).name _) ?_;refine D.tail ?_;refine G.call Tryz.call129 (fun hB=>zq 61 (m.back.getD 0 Ab) ok2 (Bd (m.give.getD 0 ⟨[],0⟩).name) _) ?_;exact xm
 refine Z1 ?_;refine R.fin [1,83] ?_
 refine W.cond (fun ht83=>?_) (fun ht83=>?_)
 ·obtain ⟨hl1,hl2⟩:=Js hct (by rw [ht83];simp)
  obtain ⟨hl3,hl4⟩:=Do hct
  have g1:=Iq (f:=A4) (l:=m.ahead) (d:=Ab) (by omega)
  have g2:=Iq (f:=A4) (l:=m.back) (d:=Ab) (by omega)
  have g3:=Iq (f:=A6) (l:=m.take) (d:=[]) (by omega)
  have g4:=Iq (f:=Ak) (l:=m.give) (d:=⟨[],0⟩) (by omega)
  have ok1:=h.ahead.ok _ (I7 (l:=m.ahead) (d:=Ab) (by omega))
  have ok2:=h.back.ok _ (I7 (l:=m.back) (d:=Ab) (by omega))
  have hm:=hm0.trans (mc ht58 ht83)
  refine xt ?_
  refine D.go (h:=Q.indexAddr (0) (A6 (m.take.getD 0 [])) (fun _=>g3)) (hr:=?_)
  refine Z53 ?_
  refine D.go (h:=Q.indexAddr (0) (Ak (m.give.getD 0 ⟨[],0⟩)) (fun _=>g4)) (hr:=?_)
  refine Z14 ?_;refine D.tail ?_;exact xm
 have hm:=hm0.trans (md ht58 ht83)
 refine V8 ?_;exact jx

def fx (m:Mov):Bool := !(D7 m)
theorem ra (l:List Mov):(decide ((l.length:Int)≤8) && !(l.any fx))=Jq l:=by
 unfold Jq
 rw [show fx=fun m => !(D7 m) from rfl,Es]
 simp
theorem c92 (m:Mov) (h:OkMov m) (Hp:List AObj):AFun Tryz.prog 92 [E3 m] Hp (Al (fx m)):=by
 refine ACall.body [.tmp 2] [0] Tryz.func92 Tryz.ntmps92 (fun d=>?_)
 refine Y2 ?_;refine R.call Tryz.call93 (c93 m h _) ?_;exact Z99

theorem AC3 (l:List Mov) (h:OkMovs l) (Hp:List AObj):AFun Tryz.prog 124 [Cp l,.fn (.func 92) [] []] Hp (A2 (Kp fx l)):=by
 refine ACall.body [.tmp 4] [0,1] Tryz.func124 Tryz.ntmps124 (fun d=>?_)
 refine dy ?_
 refine AW.loopC (α:=Nat) (fun x=>⟨19,A3 0 (Cp l) (A3 1 (.fn (.func 92) [] []) (A3 7 (A2 l.length) (A3 8 (A2 (x:Nat)) (fun _=>.any)))),Hp,[],[],none⟩) (fun x=>x≤l.length∧∀(j:Nat) (y:Mov),j<x→l[j]? = some y→fx y=false) (fun x=>l.length-x) (0) ⟨Nat.zero_le _,fun j y h=>by omega⟩ (StLe.of_eq (by simp)) rfl (fun x hx=>?_)
 refine dm ?_
 refine W.condX (fun ht9=>?_) (fun ht9=>?_)
 ·have hlt:x<l.length:=by simpa using ht9
  have hlen:=h.len
  refine dx ?_
  refine R.go (h:=Q.indexAddr (x) (E3 l[x]) (fun _=>Ae hlt)) (hr:=?_)
  refine R.go ?_;refine R.callV Tryz.call92 (c92 l[x] (h.each _ (List.getElem_mem hlt)) _) ?_;refine eb ?_
  refine W.cond (fun ht16=>?_) (fun ht16=>?_)
  ·exact ob
  exact oe
 have hxe:l.length≤x:=by simpa using ht9
 exact ou

theorem c91 (l:List Mov) (h:OkMovs l) (Hp:List AObj):AFun Tryz.prog 91 [Cp l,.fn (.func 92) [] []] Hp (Al (l.any fx)):=by
 refine ACall.body [.tmp 4] [0,1] Tryz.func91 Tryz.ntmps91 (fun d=>?_)
 refine Z62 ?_;refine Z1 ?_;refine R.call Tryz.call124 (AC3 l h _) ?_;refine Z0 ?_;exact Z98

theorem c63 (l:List Mov) (h:OkMovs l) (Hp:List AObj):AFun Tryz.prog 63 [Cp l] Hp (Al (Jq l)):=by
 refine ACall.body [.tmp 2] [0] Tryz.func63 Tryz.ntmps63 (fun d=>?_)
 refine Z40 ?_;refine Z41 ?_;refine G.go ?_;refine G.call Tryz.call91 (fun hB=>c91 l h _) ?_;refine G.go ?_;refine Z39 ?_;exact K.fin (V.one V.tmp) ⟨by rw [←ra,List.length_map],rfl⟩

theorem c34 (c:List Col) (hc:OkCols c) (l:List Mov) (h:OkMovs l) (Hp:List AObj):AFun Tryz.prog 34 [A9 c,Cp l] Hp (Al (Jr c l)):=by
 refine ACall.body [.tmp 4] [0,1] Tryz.func34 Tryz.ntmps34 (fun d=>?_)
 refine Z62 ?_;refine Z2 ?_;refine R.call Tryz.call19 (c19 c hc _) ?_;refine dv ?_;refine G.call Tryz.call63 (fun hB=>c63 l h _) ?_;refine Z0 ?_;refine Z22 ?_;exact K.fin (V.one V.tmp) ⟨by unfold Jr;rw [Fa],rfl⟩

theorem g0 {Hp:List AObj} {c:List Col} (h:∀x∈Hp,ObjLow Hp.length x):∀x∈Hp++[AObj.cells 22 [A9 c]],ObjLow (Hp.length+1) x:=by
 intro x hx
 rcases List.mem_append.1 hx with hx|hx
 ·exact ObjLow.le (by omega) (h x hx)
 rw [List.mem_singleton.1 hx]
 intro z hz
 rw [List.mem_singleton.1 hz]
 exact Cm
theorem c35 (c:List Col) (l:List Mov) (Hp:List AObj):ACallO Tryz.prog 35 [A9 c,Cp l] Hp (fun r H'=>r=.fn (.func 64) [] [.ro [Cp l],.ptr (oid Hp.length 0) 0]∧H'=Hp++[.cells 22 [A9 c]]):=by
 refine ACallO.body [.tmp 4] [0,1] Tryz.func35 Tryz.ntmps35 (fun d=>?_)
 refine dp ?_;refine Z0 ?_;refine F8 ?_;refine D3 ?_
 refine R.assumeLow (fun hlow=>?_)
 refine R.makeFunc ?_;refine R.go ?_;refine Z22 ?_;exact K.finO 1 (V.tmp (t:=4)) ⟨rfl,rfl⟩ (hlow:=by simp [oid,or_imp,forall_and];exact ⟨fun m _ a _=>Ac _ a,fun m _ a _=>Ac _ a⟩) (hobj:=g0 hlow)

theorem c64 (l oc:Nat) (ms:List Mov) (hm:∀m∈ms,MvOk m) (hml:ms.length≤1048576) (C:Nat→List Col) (hC:∀k,OkCols (C k)) (U T:Nat→List AObj) (N:Nat→Prop) (Z:List AObj→Prop) (hlen:∀k,(U k).length=(U 0).length) (hlenW:∀k,(T k).length=(U 0).length) (hll:l<(U 0).length) (hol:oc<(U 0).length)
  (hlw:∀k,∀x∈U k,ObjLow (U 0).length x) (hlW:∀k,∀x∈T k,ObjLow (U 0).length x) (h0:N 0) (hc:∀k,(U k)[oc]? = some (.cells 22 [A9 (C k)])) (hcW:∀k,(T k)[oc]? = some (.cells 22 [A9 (C k)]))
  (hn:∀k m,ms[k]? = some m→(Ap (C k) m).2=0→(T k).set oc (.cells 22 [A9 (Ap (C k) m).1])=U (k+1))
  (hy:∀k m X,ms[k]? = some m→N k→AYield Tryz.prog l [A9 (Ap (C k) m).1,A2 (Ap (C k) m).2] (U k++X) (fun b H'=>((Ap (C k) m).2≠0∧∃V,H'=V++X∧V.length=(U 0).length∧(∀x∈V,ObjLow (U 0).length x)∧Z V)∨((Ap (C k) m).2=0∧b=true∧N (k+1)∧H'=T k++X)))
  (hR:N ms.length→Z (U ms.length)):ACall Tryz.prog 64 [.yield l,.ro [Cp ms],.ptr oc 0] (U 0) (fun _ H'=>Z H'):=by
 refine ACall.body [] [0,1,2] Tryz.func64 Tryz.ntmps64 (fun d=>?_)
 refine Z17 ?_;refine R.fin [0,2,8,9,10] ?_
 refine AW.loopC (α:=Nat) (fun x=>⟨31,A3 0 (.yield l) (A3 2 (.ptr oc 0) (A3 8 (Cp ms) (A3 9 (A2 ms.length) (A3 10 (A2 (x:Nat)) (fun _=>.any))))),U x,[],[],none⟩) (fun x=>x≤ms.length∧N x) (fun x=>ms.length-x) (0) ⟨Nat.zero_le _,h0⟩ (StLe.of_eq (by simp)) rfl (fun x hx=>?_)
 refine Z2 ?_;refine R.fin [0,2,8,9,10,11] ?_
 refine W.condX (fun ht11=>?_) (fun ht11=>?_)
 ·have hlt:x<ms.length:=by simpa using ht11
  refine O2 ?_
  refine R.go (h:=Q.indexAddr (x) (E3 ms[x]) (fun _=>Ae hlt)) (hr:=?_)
  refine O5 ?_;refine R.fin [0,2,5,8,9,10] ?_;refine D3 ?_
  refine R.go (h:=Q.loadUp (hc x)) (hr:=?_)
  refine R.go ?_;refine R.call Tryz.call65 (c65 (C x) (hC x) ms[x] (hm _ (List.getElem_mem hlt)) _) ?_;refine Z89 ?_;refine R.fin [0,2,6,7,8,9,10] ?_;refine Z35 ?_
  refine R.yield (l:=l) (args:=[A9 (Ap (C x) ms[x]).1,A2 (Ap (C x) ms[x]).2]) (hy x ms[x] _ (List.getElem?_eq_getElem hlt) hx.2) ?_
  intro b V O hV hb
  have hVO:O=[AObj.cells 64 (Fy ms[x])]∧(((Ap (C x) ms[x]).2≠0∧V.length=(U 0).length∧(∀y∈V,ObjLow (U 0).length y)∧Z V)∨((Ap (C x) ms[x]).2=0∧b=true∧N (x+1)∧V=T x)):=by
   rcases hb with ⟨h1,V',h2,h3,h4,h5⟩|⟨h1,h2,h3,h4⟩
   ·obtain ⟨rfl,rfl⟩:=List.append_inj h2 (by rw [hV,hlen x,h3])
    exact ⟨rfl,.inl ⟨h1,h3,h4,h5⟩⟩
   have h6:=List.append_inj h4 (by rw [hV,hlen x,hlenW x])
   exact ⟨h6.2,.inr ⟨h1,h2,h3,h6.1⟩⟩
  obtain ⟨rfl,hVO⟩:=hVO
  have hVl:V.length=(U 0).length:=by rw [hV,hlen x]
  have hVw:∀y∈V,ObjLow (U 0).length y:=by
   rcases hVO with ⟨_,_,h,_⟩|⟨_,_,_,rfl⟩
   ·exact h
   exact hlW _
  refine ⟨fun _=>by rw [hVl];exact hVw,fun o ho=>(by cases ho),?_⟩
  refine Z27 ?_;refine R.go ?_;refine R.fin [0,2,6,8,9,10,28] ?_
  refine W.cond (fun ht28=>?_) (fun ht28=>?_)
  ·have hZ:Z V:=by
    rcases hVO with ⟨_,_,_,h⟩|⟨h1,h2,_,_⟩
    ·exact h
    rw [h1,h2] at ht28;simp at ht28
   refine Z37 ?_;refine Z6 ?_;refine K.lpR ?_;exact K.fin .nores (hp:=hZ)
  have hVn:(Ap (C x) ms[x]).2=0∧N (x+1)∧V=T x:=by
   rcases hVO with ⟨h1,_,_,_⟩|⟨h1,_,h3,h4⟩
   ·simp [h1] at ht28
   exact ⟨h1,h3,h4⟩
  obtain ⟨hz,hN,rfl⟩:=hVn
  have hnx:=hn x _ (List.getElem?_eq_getElem hlt) hz
  refine Z5 ?_;refine Z61 ?_
  refine R.storeUp jS (hcW x) ?_ ?_
  ·first|exact Cm|(simp [or_imp,forall_and];done)
  refine R.fin [0,2,8,9,10] ?_;refine O6 ?_;refine R.fin [0,2,8,9,10] ?_;refine K.lpN (x+1) ⟨hlt,hN⟩ (by omega) ?_
  rw [hnx]
  exact StCut.take (own:=[]) (fun _=>.refl _) (by repeat (first|exact Ar|refine Aq (by first|(simp [or_imp,forall_and];done)|exact Jt|(have:=hlen (x+1);simp;omega)) ?_)) (by simp) (by simp)
 have hxe:x=ms.length:=by have:=hx.1;simp at ht11;omega
 refine K.lpE ?_;exact K.finN .nores (hp:=by rw [hxe];exact hR (hxe ▸ hx.2))

/-! The columns on the way through moves. -/
def colsAt (c:List Col) (ms:List Mov):Nat→List Col
 | 0=>c
 | k+1=>match ms[k]? with|some m=>(Ap (colsAt c ms k) m).1|none=>colsAt c ms k
def B0 (c:List Col) (ms:List Mov):Nat→List (List Col)
 | 0=>[c]
 | k+1=>B0 c ms k++[colsAt c ms (k+1)]
def NS (c:List Col) (ms:List Mov) (k:Nat):Prop:=Bj c ms=((B0 c ms k).dropLast++(Bj (colsAt c ms k) (ms.drop k)).1,(Bj (colsAt c ms k) (ms.drop k)).2)
theorem Ud (c:List Col) (ms:List Mov) (k:Nat):(B0 c ms k).dropLast++[colsAt c ms k]=B0 c ms k:=by
 cases k with
 | zero=>rfl
 | succ k=>simp [B0]
theorem Dw {c:List Col} {ms:List Mov} {k:Nat} {m:Mov} (h:ms[k]? = some m):colsAt c ms (k+1)=(Ap (colsAt c ms k) m).1:=by rw [colsAt,h]
theorem Hb {ms:List Mov} {k:Nat} {m:Mov} (hk:ms[k]? = some m):ms.drop k=m::ms.drop (k+1):=by
 obtain ⟨h1,h2⟩:=List.getElem?_eq_some_iff.1 hk
 rw [List.drop_eq_getElem_cons h1,h2]
theorem vo {c:List Col} {ms:List Mov}:NS c ms 0:=rfl
theorem Ue {c:List Col} {ms:List Mov} {k:Nat} {m:Mov} (hk:ms[k]? = some m) (h:NS c ms k) (he:(Ap (colsAt c ms k) m).2=0):NS c ms (k+1):=by
 unfold NS at h ⊢
 rw [h,Hb hk]
 have e:Bj (colsAt c ms k) (m::ms.drop (k+1))=(colsAt c ms k::(Bj (Ap (colsAt c ms k) m).1 (ms.drop (k+1))).1,(Bj (Ap (colsAt c ms k) m).1 (ms.drop (k+1))).2):=by
  rw [Bj,if_neg (by rw [he];simp)]
 have e2:(B0 c ms (k+1)).dropLast=B0 c ms k:=by simp [B0]
 rw [e,e2,Dw hk]
 have e3:=Ud c ms k
 refine Prod.ext ?_ rfl
 show (B0 c ms k).dropLast++(colsAt c ms k::_)=B0 c ms k++_
 conv=>rhs;rw [←e3]
 simp
theorem Zq {c:List Col} {ms:List Mov} {k:Nat} {m:Mov} (hk:ms[k]? = some m) (h:NS c ms k) (he:(Ap (colsAt c ms k) m).2≠0):(Bj c ms).2=(Ap (colsAt c ms k) m).2:=by
 unfold NS at h
 rw [h,Hb hk,Bj,if_pos (by simpa using he)]
theorem Zr {c:List Col} {ms:List Mov} (h:NS c ms ms.length):Bj c ms=(B0 c ms ms.length,0):=by
 unfold NS at h
 rw [h,List.drop_length,Bj]
 exact Prod.ext (Ud c ms ms.length) rfl
theorem me {c:List Col} {m:Mov} (hc:OkCols c) (h:OkMov m):OkCols (Ap c m).1:=by
 have h0:OkCols ([]:List Col):=⟨by decide,fun y hy=>by cases hy⟩
 unfold Ap
 split
 ·exact h0
 split
 ·exact h0
 split
 ·exact h0
 exact Qc hc (Qb h) (by rw [F1];exact h.gives2)
theorem Eg {c:List Col} {ms:List Mov} (hc:OkCols c) (h:∀m∈ms,OkMov m):∀k,OkCols (colsAt c ms k)
 | 0=>hc
 | k+1=>by
  rw [colsAt]
  cases hk:ms[k]? with
  | none=>exact Eg hc h k
  | some m=>exact me (Eg hc h k) (h m (List.mem_of_getElem? hk))
theorem Ff (c:List Col) (ms:List Mov):∀k,(B0 c ms k).length=k+1
 | 0=>rfl
 | k+1=>by rw [B0,List.length_append,Ff c ms k];rfl
theorem mf {c:List Col} {ms:List Mov} (h:Jr c ms=true) (hk:OkMovs ms):(∀m∈ms,MvOk m)∧ms.length≤8:=by
 unfold Jr Jq at h
 simp only [Bool.and_eq_true,decide_eq_true_eq,List.all_eq_true] at h
 exact ⟨fun m hm=>r7 (hk.each m hm) (I6 (h.2.2 m hm)),by omega⟩
theorem Se {c:List Col} {ms:List Mov} (h:Jr c ms=false):D9 c ms=([],1):=by
 have:Fd c ms=([],1):=if_neg (by rw [h];simp)
 unfold D9
 rw [this];rfl
theorem Qf {c:List Col} {ms:List Mov} (h:Jr c ms=true) (he:(Bj c ms).2≠0):D9 c ms=([],(Bj c ms).2):=by
 have:Fd c ms=Bj c ms:=if_pos h
 unfold D9
 rw [this,if_pos (by simpa using he)]
theorem Sf {c:List Col} {ms:List Mov} {o:List (List Col)} (h:Jr c ms=true) (he:Bj c ms=(o,0)):D9 c ms=(o,0):=by
 have:Fd c ms=Bj c ms:=if_pos h
 unfold D9
 rw [this,he];rfl
abbrev Hc (l:List (List Col)):AV:=.slice false 1 (l.map A9)
theorem Gu {n k:Nat} {o:Bool} {l:List (List Col)}:Low n (.slice o k (l.map A9)):=low_slice.2 fun y hy=>by
 obtain ⟨m,_,rfl⟩:=List.mem_map.1 hy
 exact Cm
theorem zy {U:List AObj} {i j:Nat} {x y:AObj} (h:U[i]? = some x) (hne:j≠i):(U.set j y)[i]? = some x:=by rw [List.getElem?_set_ne hne];exact h
theorem g7 {n k:Nat} {o:Bool} {l:List (List Col)} {c:List Col}:Low n (.slice o k (l.map A9++[A9 c])):=by
 have:=Gu (n:=n) (k:=k) (o:=o) (l:=l++[c])
 rwa [List.map_append] at this
theorem c14 (c:List Col) (hc:OkCols c) (hc2:c.length≤1000000) (l:List Mov) (h:OkMovs l) (Hp:List AObj):AFun Tryz.prog 14 [A9 c,Cp l] Hp (.tup [Hc (D9 c l).1,A2 (D9 c l).2]):=by
 refine ACall.body [.cell 4 34,.cell 5 27] [0,1,7,8] Tryz.func14 Tryz.ntmps14 (fun d=>?_)
 refine Z32 ?_;refine R.alloc jZ ?_;refine R.fin [0,1,4,5,7,8] ?_;refine Z8 ?_;refine R.call Tryz.call34 (c34 c hc l h _) ?_;refine R.go ?_;refine R.fin [0,1,4,5,7,8,12] ?_
 refine W.cond (fun ht12=>?_) (fun ht12=>?_)
 ·have hm:=Se (by simpa using ht12)
  refine D3 ?_;refine Fk ?_;refine R.nilOwn 0 1 ?_;refine Fk ?_;refine Z42 ?_;exact K.fin (V.two (V.cell jA) (V.cell jA)) ⟨by rw [hm];rfl,rfl⟩
 have hmay:Jr c l=true:=by simpa using ht12
 obtain ⟨hmv,hl8⟩:=mf hmay h
 refine Kf ?_;refine R.call Tryz.call36 (c36 c hc2 _) ?_;refine Kg ?_;refine R.alloc jZ ?_;refine R.storeOwnT jS ?_;refine R.fin [0,1,4,5,6,7,8] ?_;refine Z68 ?_
 refine R.assumeLow (fun hlow=>?_)
 refine Z0 ?_;refine R.callO Tryz.call35 (c35 c l _) ?_
 rintro _ _ ⟨rfl,rfl⟩
 refine ⟨[.cells 22 [A9 c]],by simp,?_⟩
 rw [show oid (Hp++[AObj.cells 34 [AV.nil],AObj.cells 27 [A2 0],AObj.cells 34 [AV.slice true 1 [A9 c]]]).length 0=oid Hp.length 3 by simp [oid]]
 simp only [List.cons_append,List.nil_append]
 refine R.fin [4,5,6,7,8,18] ?_;refine Fq ?_
 refine W.rangeV (m:=4) Tryz.call64 (fun FR as' bd' hFR has hbd=>?_)
 have hFRl:∀s,Low (Hp.length+6) (FR s):=by
  intro s
  rw [hFR]
  refine Low.strip ?_
  revert s
  repeat (first|exact Ar|refine Aq (by first|(simp [oid,or_imp,forall_and];done)|(simp [oid,or_imp,forall_and];exact ⟨fun m _ a _=>Ac _ a,fun m _ a _=>Ac _ a⟩)|(simp [oid,or_imp,forall_and]<;>omega)) ?_)
 have hOl:∀{e:Int} {o:List (List Col)} {q:List Col} {lp:AObj},ObjLow (Hp.length+6) lp→∀x∈Hp++[AObj.cells 34 [AV.nil],AObj.cells 27 [A2 e],AObj.cells 34 [AV.slice true 1 ((o).map A9)],AObj.cells 22 [A9 (q)],AObj.defs,lp],ObjLow (Hp.length+6) x:=by
  intro e o q lp hlp x hx
  refine Hn (fun x hx=>ObjLow.le (by omega) (hlow x hx)) (fun x hx=>?_) x hx
  simp only [List.mem_cons,List.mem_nil_iff,or_false] at hx
  rcases hx with rfl|rfl|rfl|rfl|rfl|rfl
  ·intro y hy;rw [List.mem_singleton.1 hy];simp
  ·intro y hy;rw [List.mem_singleton.1 hy];simp
  ·intro y hy;rw [List.mem_singleton.1 hy];exact Gu
  ·intro y hy;rw [List.mem_singleton.1 hy];exact Cm
  ·trivial
  exact hlp
 refine ⟨_,c64 (oid Hp.length 5) (oid Hp.length 3) l hmv (by omega) (colsAt c l) (Eg hc fun m hm=>h.each m hm) (fun k=>Hp++[AObj.cells 34 [AV.nil],AObj.cells 27 [A2 0],AObj.cells 34 [AV.slice true 1 ((B0 c l k).map A9)],AObj.cells 22 [A9 (colsAt c l k)],AObj.defs,AObj.loop LoopState.ready none FR 29 #[19,20] as' bd' (oid Hp.length 4)]) (fun k=>Hp++[AObj.cells 34 [AV.nil],AObj.cells 27 [A2 0],AObj.cells 34 [AV.slice true 1 ((B0 c l (k+1)).map A9)],AObj.cells 22 [A9 (colsAt c l k)],AObj.defs,AObj.loop LoopState.ready none FR 29 #[19,20] as' bd' (oid Hp.length 4)]) (NS c l) (fun V=>(∃(o:List (List Col)) (q:List Col),V=Hp++[AObj.cells 34 [AV.nil],AObj.cells 27 [A2 0],AObj.cells 34 [AV.slice true 1 ((o).map A9)],AObj.cells 22 [A9 (q)],AObj.defs,AObj.loop LoopState.ready none FR 29 #[19,20] as' bd' (oid Hp.length 4)]∧Bj c l=(o,0))∨(∃(e:Int) (o:List (List Col)) (q:List Col),V=Hp++[AObj.cells 34 [AV.nil],AObj.cells 27 [A2 e],AObj.cells 34 [AV.slice true 1 ((o).map A9)],AObj.cells 22 [A9 (q)],AObj.defs,AObj.loop LoopState.done (some Code.ret) FR 29 #[19,20] as' bd' (oid Hp.length 4)]∧e≠0∧(Bj c l).2=e)) (fun k=>by simp) (fun k=>by simp) (by simp [oid]) (by simp [oid]) (fun k=>(fun x hx=>by rw [List.length_append];exact hOl (lp:=AObj.loop LoopState.ready none FR 29 #[19,20] as' bd' (oid Hp.length 4)) (by exact ⟨hFRl,by simp [oid]⟩) x hx)) (fun k=>(fun x hx=>by rw [List.length_append];exact hOl (lp:=AObj.loop LoopState.ready none FR 29 #[19,20] as' bd' (oid Hp.length 4)) (by exact ⟨hFRl,by simp [oid]⟩) x hx)) vo (fun k=>by rw [Ao];rfl) (fun k=>by rw [Ao];rfl) (fun k m hk he=>by rw [Dj];simp only [Dw hk];rfl) (fun k m X hk hN=>?_) (fun hN=>.inl ⟨_,_,rfl,Zr hN⟩),?_⟩
 ·generalize hV:Hp++[AObj.cells 34 [AV.nil],AObj.cells 27 [A2 0],AObj.cells 34 [AV.slice true 1 ((B0 c l k).map A9)],AObj.cells 22 [A9 (colsAt c l k)],AObj.defs,AObj.loop LoopState.ready none FR 29 #[19,20] as' bd' (oid Hp.length 4)]++X=V
  have hL:V[oid Hp.length 5]? = some (AObj.loop LoopState.ready none FR 29 #[19,20] as' bd' (oid Hp.length 4)):=by rw [←hV,List.append_assoc,Ao];rfl
  have hA0:V[oid Hp.length 2]? = some (AObj.cells 34 [AV.slice true 1 ((B0 c l k).map A9)]):=by rw [←hV,List.append_assoc,Ao];rfl
  have hB0:V[oid Hp.length 0]? = some (AObj.cells 34 [AV.nil]):=by rw [←hV,List.append_assoc,Ao];rfl
  have hC0:V[oid Hp.length 1]? = some (AObj.cells 27 [A2 0]):=by rw [←hV,List.append_assoc,Ao];rfl
  refine AYield.ofRound (pd:=none) (fr:=FR) (sz:=29) (ps:=#[19,20]) (df:=oid Hp.length 4) (asg:=as') (bd:=bd') hL rfl (by decide) (fun d=>?_)
  subst hFR has hbd
  refine W.keep [4,5,6,19,20] ?_;refine Z2 ?_;refine R.fin [4,5,6,7,20] ?_;refine Z61 ?_;refine R.fin [4,5,6,7,8] ?_
  refine ⟨rfl,none,hL,?_⟩
  generalize hbz:(AObj.loop LoopState.busy _ _ _ _ _ _ _)=bz
  have hA:(V.set (oid Hp.length 5) bz)[oid Hp.length 2]? = some (AObj.cells 34 [AV.slice true 1 ((B0 c l k).map A9)]):=by rw [List.getElem?_set_ne (C5 (by decide))];exact hA0
  have hB:(V.set (oid Hp.length 5) bz)[oid Hp.length 0]? = some (AObj.cells 34 [AV.nil]):=by rw [List.getElem?_set_ne (C5 (by decide))];exact hB0
  have hC:(V.set (oid Hp.length 5) bz)[oid Hp.length 1]? = some (AObj.cells 27 [A2 0]):=by rw [List.getElem?_set_ne (C5 (by decide))];exact hC0
  refine Fq ?_;refine Z8 ?_;refine R.fin [4,5,6,7,8,22] ?_
  refine W.cond (fun ht22=>?_) (fun ht22=>?_)
  ·have he:(Ap (colsAt c l k) m).2≠0:=by simpa using ht22
   refine Z2 ?_
   refine R.storeUp jS hB ?_ ?_
   ·simp
   refine R.storeUp jS (zy hC (C5 (by decide))) ?_ ?_
   ·simp
   refine jo ?_;refine K.blR ?_
   subst hbz
   refine ue ?_
   refine .inl ⟨he,Hp++[AObj.cells 34 [AV.nil],AObj.cells 27 [A2 (Ap (colsAt c l k) m).2],AObj.cells 34 [AV.slice true 1 ((B0 c l k).map A9)],AObj.cells 22 [A9 (colsAt c l k)],AObj.defs,_],?_,by simp,(fun x hx=>by rw [List.length_append];exact hOl (lp:=_) (by exact ⟨hFRl,by simp [oid]⟩) x hx),.inr ⟨_,_,_,rfl,he,Zq hk hN he⟩⟩
   subst hV
   simp only [List.append_assoc,Dj,List.cons_append,List.nil_append,List.set_cons_succ,List.set_cons_zero]
  have he:(Ap (colsAt c l k) m).2=0:=by simpa using ht22
  refine Z5 ?_;refine AW.region ?_;refine R.loadUpT jA hA ?_;refine Z75 ?_
  refine R.append jU Tryz.type22 ?_ ?_ ?_
  ·have hol:=Ff c l k;have hkl:=(List.getElem?_eq_some_iff.1 hk).1;simp [Tryz.t22];omega
  ·have hol:=Ff c l k;have hkl:=(List.getElem?_eq_some_iff.1 hk).1;simp [Tryz.t22];omega
  refine R.storeUpT jS (getset hA) ?_ ?_
  ·exact g7
  refine Z65 ?_
  subst hbz
  refine ud ?_
  refine .inr ⟨he,rfl,Ue hk hN he,?_⟩
  subst hV
  simp only [List.append_assoc,Dj,List.cons_append,List.nil_append,List.set_cons_succ,List.set_cons_zero]
  rw [B0,Dw hk,List.map_append]
  rfl
 rintro r H' (⟨o,q,rfl,hrun⟩|⟨e,o,q,rfl,hne,hrun⟩)
 ·refine ⟨Hp,_,_,_,rfl,rfl,fun h=>h,?_,rfl,by simp,?_⟩
  ·intro o ho
   have:o=oid Hp.length 4:=by simpa using ho
   subst this
   rw [Ao]
   rfl
  refine Z9 ?_;refine Xv ?_;refine Fk ?_;refine Z18 ?_;exact K.fin (V.two (V.cell jA) (V.cell jA)) ⟨by rw [Sf hmay hrun],rfl⟩ (hlow:=by simp only [Lk,List.mem_cons,List.mem_nil_iff,or_false];rintro y (rfl|rfl);exact Gu;simp)
 refine ⟨Hp,_,_,_,rfl,rfl,fun h=>h,?_,rfl,by simp,?_⟩
 ·intro o ho
  have:o=oid Hp.length 4:=by simpa using ho
  subst this
  rw [Ao]
  rfl
 refine W.nilOwn 0 1 ?_;refine Z72 ?_;exact K.fin (V.two (V.cell jA) (V.cell jA)) ⟨by rw [Qf hmay (by rw [hrun];exact hne),hrun];rfl,rfl⟩

theorem ACall.argLe {P:Program} {g:FuncId} {args args':List AV} {H:List AObj} {post:AV→List AObj→Prop} (h:ACall P g args' H post) (hl:args.length=args'.length) (hle:∀(i:Nat) (y y':AV),args[i]? = some y→args'[i]? = some y'→Le y y'):ACall P g args H post:=
 fun d G w vs h1 h2 h3 h4=>h d G w vs (h1.trans hl) (fun i y u hy hu=>by
  have hi:i<args.length:=by rw [hl];exact (List.getElem?_eq_some_iff.1 hy).1
  exact (h2 i _ u (List.getElem?_eq_getElem hi) hu).le (hle i _ y (List.getElem?_eq_getElem hi) hy)) h3 h4
theorem Sg (s:Str):Le (.agg [A2 2,A6 s,A2 0,A2 0,A6 [],.nil]) (A4 (Bd s)):=by
 rw [A8]
 refine .agg _ _ rfl (fun y hy=>?_) (fun i y y' hy hy'=>?_)
 ·simp only [Bt,List.mem_cons,List.mem_nil_iff,or_false] at hy
  rcases hy with rfl|rfl|rfl|rfl|rfl|rfl<;>rfl
 match i with
 | 0=>simp at hy;subst hy;simp [Bt,Bd] at hy';subst hy';exact .inl rfl
 | 1=>simp at hy;subst hy;simp [Bt,Bd] at hy';subst hy';exact .inl rfl
 | 2=>simp at hy;subst hy;simp [Bt,Bd] at hy';subst hy';exact .inl rfl
 | 3=>simp at hy;subst hy;simp [Bt,Bd] at hy';subst hy';exact .inl rfl
 | 4=>simp at hy;subst hy;simp [Bt,Bd] at hy';subst hy';exact .inl rfl
 | 5=>simp at hy;subst hy;simp [Bt,Bd] at hy';subst hy';exact .inr ⟨rfl,6,rfl⟩
 | i+6=>simp at hy
theorem zz (x:Expr) (hx:okE 61 x) (s:Str) (Hp:List AObj):AFun Tryz.prog 25 [A4 x,.agg [A2 2,A6 s,A2 0,A2 0,A6 [],.nil]] Hp (Al (eqE x (Bd s))):=
 ACall.argLe (c25 61 x hx (Bd s) Hp) rfl fun i y y' hy hy'=>by
  match i with
  | 0=>simp at hy hy';subst hy;subst hy';exact .refl _
  | 1=>simp only [List.getElem?_cons_succ,List.getElem?_cons_zero,Option.some.injEq] at hy hy';subst hy;subst hy';exact Sg s
  | i+2=>simp at hy
def Hd (m:Mov):Bool:=
 if m.kind==1 then ((m.take.length:Int)==0)&&((m.give.length:Int)==1)
 else if m.kind==2 then ((m.take.length:Int)==1)&&((m.give.length:Int)==0)
 else if (m.kind==3) || (m.kind==6) then ((m.take.length:Int)==1)&&((m.give.length:Int)==1)
 else if m.kind==4 then ((m.take.length:Int)==1)&&decide ((2:Int)≤(m.give.length:Int))
 else if m.kind==5 then decide ((2:Int)≤(m.take.length:Int))&&((m.give.length:Int)==1)
 else false
theorem mg (n:Nat):decide ((1:Int)<(n:Int))=decide ((2:Int)≤(n:Int)):=by
 by_cases h:2≤n
 ·have h1:(1:Int)<n:=by omega
  have h2:(2:Int)≤n:=by omega
  simp [h1,h2]
 have h1:¬(1:Int)<n:=by omega
 have h2:¬(2:Int)≤n:=by omega
 simp [h1,h2]
theorem mh {m:Mov} (h:(((m.ahead.length:Int) != (m.give.length:Int)) || ((m.back.length:Int) != (m.take.length:Int)))=false):Cy m=Hd m:=by
 rw [Wt h,mg,mg]
 rfl
theorem g8 (k:Int):(Ax k==([]:Str))=(decide (k<1) || decide (3<k)):=by
 unfold Ax
 by_cases h:k<1∨3<k
 ·rw [if_pos (by first|exact h|omega)]
  rcases h with h|h<;>simp [h]
 rw [if_neg (by first|exact h|omega)]
 have hk:k=1∨k=2∨k=3:=by omega
 rcases hk with rfl|rfl|rfl<;>rfl
theorem Sh {m:Mov} {c:Col}:(((!(Bg c.name)) || ((m.kind==3)&&(c.kind != 0))) || ((m.kind != 3)&&(decide (c.kind<1) || decide (3<c.kind)))) = !Fz m c:=by
 rw [←g8]
 unfold Fz
 rw [show (m.kind != 3) = !(m.kind==3) from rfl]
 cases h3:(m.kind==3) with
 | false=>cases Bg c.name<;>cases (Ax c.kind==([]:Str))<;>cases (c.kind != 0)<;>rfl
 | true =>
  by_cases h0:c.kind=0
  ·have e:(Ax c.kind==([]:Str))=true:=by rw [h0];rfl
   have e0:(c.kind != 0)=false:=by rw [h0];rfl
   rw [e,e0]
   cases Bg c.name<;>rfl
  have e0:(c.kind != 0)=true:=by simpa using h0
  rw [e0]
  cases Bg c.name<;>cases (Ax c.kind==([]:Str))<;>rfl
theorem Og (l:List Expr):l.all B7=l.all Af:=by
 congr 1
 funext e
 exact (Ci e).symm
theorem rb {m:Mov} (h:(((((m.ahead.length:Int) != (m.give.length:Int)) || ((m.back.length:Int) != (m.take.length:Int))) || (!(m.ahead.all B7))) || (!(m.back.all B7)))=true):D7 m=false:=by
 rw [Og,Og] at h
 unfold D7
 cases h1:(((m.ahead.length:Int) != (m.give.length:Int)) || ((m.back.length:Int) != (m.take.length:Int))) with
 | true=>rw [Ws h1];rfl
 | false =>
  rw [h1] at h
  cases h2:m.ahead.all Af<;>cases h3:m.back.all Af<;>simp_all
theorem rc {m:Mov} (h:(((((m.ahead.length:Int) != (m.give.length:Int)) || ((m.back.length:Int) != (m.take.length:Int))) || (!(m.ahead.all B7))) || (!(m.back.all B7)))=false):Cy m=Hd m∧D7 m=(((Hd m&&m.give.all (Fz m))&&m.take.all Bg)&&H9 m):=by
 rw [Og,Og] at h
 simp only [Bool.or_eq_false_iff,Bool.not_eq_false'] at h
 have hk:=mh (m:=m) (by simp only [Bool.or_eq_false_iff];exact h.1.1)
 refine ⟨hk,?_⟩
 unfold D7
 rw [hk,h.1.2,h.2]
 simp
theorem rd {m:Mov} (h6:(m.kind==6)=false):H9 m=((m.kind != 3) || (eqE (m.ahead.getD 0 Ab) (Bd (m.take.getD 0 []))&&eqE (m.back.getD 0 Ab) (Bd (m.give.getD 0 ⟨[],0⟩).name))):=by
 rw [show (m.kind != 3) = !(m.kind==3) from rfl]
 cases h:(m.kind==3) with
 | true=>rw [mb h];rfl
 | false=>rw [md h h6];rfl
theorem re {m:Mov} (h6:(m.kind==6)=true):H9 m=(m.take.getD 0 []==(m.give.getD 0 ⟨[],0⟩).name):=mc (by simp at h6 ⊢;omega) h6
theorem c66 (m:Mov) (h:OkMov m) (Hp:List AObj):AFun Tryz.prog 66 [E3 m] Hp (Al (D7 m)):=by
 refine ACall.body [.tmp 2] [0] Tryz.func66 Tryz.ntmps66 (fun d=>?_)
 refine Z71 ?_;refine W.drawQ [0,1,3,0,8,24,7,127] 7 Ad (by kernel_rfl) ?_;refine Z81 ?_;refine Z53 ?_;refine V7 ?_;refine Tq ?_;refine Z68 ?_
 simp only [List.length_map]
 refine Z76 ?_;refine Z56 ?_;refine G.go ?_;refine Z27 ?_;refine G.call Tryz.call98 (fun hB=>c98 m.ahead h.ahead _) ?_;refine G.go ?_;refine Z27 ?_;refine G.call Tryz.call98 (fun hB=>c98 m.back h.back _) ?_;refine Z66 ?_;refine R.fin [1,3,4,38] ?_
 refine W.cond (fun ht38=>?_) (fun ht38=>?_)
 ·simp only [List.length_map] at ht38
  have hm:=rb ht38
  exact ji
 simp only [List.length_map] at ht38
 obtain ⟨hck,hm0⟩:=rc ht38
 refine Kf ?_;refine R.fin [1,3,4,5] ?_
 refine W.join ⟨178,A3 1 (.ro (Fy m)) (A3 3 (A2 (m.take.length:Nat)) (A3 4 (A2 (m.give.length:Nat)) (A3 5 (Al (Hd m)) (fun _=>.any)))),Hp,[],[],none⟩ ?_ ?_
 ·refine Z1 ?_;refine R.fin [1,3,4,5,40] ?_;refine Lo ?_;refine R.fin [1,3,4,5,40,41] ?_
  refine W.cond (fun ht41=>?_) (fun ht41=>?_)
  ·refine dr ?_;refine K.thJ ?_;exact StLe.of_eq (by unfold Hd;first|(simp only [ht38,ht41,hk3,hk6,Bool.true_or,Bool.false_or,Bool.or_true,Bool.or_false,if_true,if_false,Bool.false_eq_true,↓reduceIte]<;>rfl)|(simp only [ht38,ht41,hk3,Bool.true_or,Bool.false_or,Bool.or_true,if_true,if_false,Bool.false_eq_true,↓reduceIte]<;>rfl)|(simp only [ht38,ht41,if_true,if_false,Bool.false_eq_true,↓reduceIte]<;>rfl))
  refine Z1 ?_;refine R.fin [1,3,4,5,40,49] ?_
  refine W.cond (fun ht49=>?_) (fun ht49=>?_)
  ·refine dr ?_;refine K.thJ ?_;exact StLe.of_eq (by unfold Hd;first|(simp only [ht38,ht41,ht49,hk3,hk6,Bool.true_or,Bool.false_or,Bool.or_true,Bool.or_false,if_true,if_false,Bool.false_eq_true,↓reduceIte]<;>rfl)|(simp only [ht38,ht41,ht49,hk3,Bool.true_or,Bool.false_or,Bool.or_true,if_true,if_false,Bool.false_eq_true,↓reduceIte]<;>rfl)|(simp only [ht38,ht41,ht49,if_true,if_false,Bool.false_eq_true,↓reduceIte]<;>rfl))
  refine Z8 ?_;refine R.fin [1,3,4,5,40,57] ?_
  refine W.cond (fun ht57=>?_) (fun ht57=>?_)
  ·have hk3:=ht57
   refine Z5 ?_
   refine W.cond (fun ht57=>?_) (fun ht57=>?_)
   ·refine dr ?_;exact Z51
   rw [hk3] at ht57;cases ht57
  have hk3:=ht57
  refine Z11 ?_;refine R.fin [1,3,4,5,40,57] ?_;refine K.thN ?_
  refine W.cond (fun ht57=>?_) (fun ht57=>?_)
  ·have hk6:=ht57
   refine dr ?_;exact Z51
  have hk6:=ht57
  refine Z1 ?_;refine R.fin [1,3,4,5,40,66] ?_
  refine W.cond (fun ht66=>?_) (fun ht66=>?_)
  ·refine dr ?_;refine K.thJ ?_;exact StLe.of_eq (by unfold Hd;first|(simp only [ht38,ht41,ht49,ht57,ht57,ht66,hk3,hk6,Bool.true_or,Bool.false_or,Bool.or_true,Bool.or_false,if_true,if_false,Bool.false_eq_true,↓reduceIte]<;>rfl)|(simp only [ht38,ht41,ht49,ht57,ht57,ht66,hk3,Bool.true_or,Bool.false_or,Bool.or_true,if_true,if_false,Bool.false_eq_true,↓reduceIte]<;>rfl)|(simp only [ht38,ht41,ht49,ht57,ht57,ht66,if_true,if_false,Bool.false_eq_true,↓reduceIte]<;>rfl))
  refine Z1 ?_;refine R.fin [1,3,4,5,74] ?_
  refine W.cond (fun ht74=>?_) (fun ht74=>?_)
  ·refine dr ?_;exact Z46
  refine W.keep [1,3,4,5] ?_;refine AW.skip ?_;refine K.blN ?_;exact Z46
 refine Z8 ?_;refine R.fin [1,3,4,83] ?_
 refine W.cond (fun ht83=>?_) (fun ht83=>?_)
 ·have hkf:Hd m=false:=by simpa using ht83
  have hm:D7 m=false:=by rw [hm0,hkf];rfl
  exact ji
 have hkm:Hd m=true:=by simpa using ht83
 have hct:Cy m=true:=hck.trans hkm
 obtain ⟨hl3,hl4⟩:=Do hct
 refine Tn ?_;refine R.fin [1,3,4,6] ?_
 refine AW.loopC (α:=Nat) (fun x=>⟨178,A3 1 (.ro (Fy m)) (A3 3 (A2 (m.take.length:Nat)) (A3 4 (A2 (m.give.length:Nat)) (A3 6 (A2 (x:Nat)) (fun _=>.any)))),Hp,[],[],none⟩) (fun x=>x≤m.take.length∧∀(j:Nat) (y:Str),j<x→m.take[j]? = some y→(!Bg y)=false) (fun x=>m.take.length-x) (0) ⟨Nat.zero_le _,fun j y h=>by omega⟩ (StLe.of_eq (by simp)) rfl (fun x hx=>?_)
 refine Z35 ?_;refine R.fin [1,3,4,6,86] ?_
 refine W.cond (fun ht86=>?_) (fun ht86=>?_)
 ·have hlt:x<m.take.length:=by simpa using ht86
  have htk:=h.takes
  refine Tl ?_
  refine R.go (h:=Q.indexAddr (x) (A6 m.take[x]) (fun _=>Ae hlt)) (hr:=?_)
  refine R.go ?_;refine R.call Tryz.call80 (c80 m.take[x] (h.names _ (List.getElem_mem hlt)) _) ?_;refine R.go ?_;refine R.fin [1,3,4,6,95] ?_
  refine W.cond (fun ht95=>?_) (fun ht95=>?_)
  ·rw [←D4] at ht95
   have hm:D7 m=false:=by
    rw [hm0,List.all_eq_false.2 ⟨_,List.getElem_mem hlt,by simpa using ht95⟩]
    simp
   exact tj
  rw [←D4] at ht95
  refine Z64 ?_;refine R.fin [1,3,4,6] ?_;exact K.lpN (x+1) ⟨hlt,Av hlt hx.2 ht95⟩ (by omega) (StCut.of_eq rfl)
 have hxe:m.take.length≤x:=by simpa using ht86
 have hta:m.take.all Bg=true:=by have:=En hxe hx.2;rw [Es] at this;simpa using this
 refine Z47 ?_;refine Z31 ?_;refine R.fin [1,4,7] ?_
 refine AW.loopC (α:=Nat) (fun k=>⟨178,A3 1 (.ro (Fy m)) (A3 4 (A2 (m.give.length:Nat)) (A3 7 (A2 (k:Nat)) (fun _=>.any))),Hp,[],[],none⟩) (fun k=>k≤m.give.length∧∀(j:Nat) (y:Col),j<k→m.give[j]? = some y→(!Fz m y)=false) (fun k=>m.give.length-k) (0) ⟨Nat.zero_le _,fun j y h=>by omega⟩ (StLe.of_eq (by simp)) rfl (fun k hk=>?_)
 refine Z35 ?_;refine R.fin [1,4,7,98] ?_
 refine W.cond (fun ht98=>?_) (fun ht98=>?_)
 ·have hlk:k<m.give.length:=by simpa using ht98
  have hgl:=h.gives2
  refine Tl ?_
  refine R.go (h:=Q.indexAddr (k) (Ak m.give[k]) (fun _=>Ae hlk)) (hr:=?_)
  refine Z23 ?_;refine R.fin [1,4,7,8] ?_;refine Z17 ?_
  refine R.go (h:=Q.indexAddr (k) (Ak m.give[k]) (fun _=>Ae hlk)) (hr:=?_)
  refine Z0 ?_;refine R.call Tryz.call80 (c80 m.give[k].name (h.gives.2 _ (List.getElem_mem hlk)) _) ?_;refine Z56 ?_;refine Va ?_;refine Z56 ?_;refine Mf ?_;refine Z7 ?_;refine Z66 ?_;refine R.fin [1,4,7,136] ?_
  refine W.cond (fun ht136=>?_) (fun ht136=>?_)
  ·rw [←D4,Sh] at ht136
   have hm:D7 m=false:=by
    rw [hm0,List.all_eq_false.2 ⟨_,List.getElem_mem hlk,by simpa using ht136⟩]
    simp
   exact tj
  rw [←D4,Sh] at ht136
  refine Z64 ?_;refine R.fin [1,4,7] ?_;exact K.lpN (k+1) ⟨hlk,Av hlk hk.2 ht136⟩ (by omega) (StCut.of_eq rfl)
 have hke:m.give.length≤k:=by simpa using ht98
 have hga:m.give.all (Fz m)=true:=by have:=En hke hk.2;rw [Es] at this;simpa using this
 have hm1:D7 m=H9 m:=by rw [hm0,hkm,hga,hta];rfl
 have g1:=fun h0=>Iq (f:=A4) (l:=m.ahead) (d:=Ab) h0
 have g2:=fun h0=>Iq (f:=A4) (l:=m.back) (d:=Ab) h0
 have g3:=fun h0=>Iq (f:=A6) (l:=m.take) (d:=[]) h0
 have g4:=fun h0=>Iq (f:=Ak) (l:=m.give) (d:=⟨[],0⟩) h0
 refine Z47 ?_;refine Z35 ?_;refine R.fin [1,139] ?_
 refine W.cond (fun ht139=>?_) (fun ht139=>?_)
 ·obtain ⟨hl1,hl2⟩:=Js hct (by rw [ht139];simp)
  have hm:=hm1.trans (re ht139)
  refine xt ?_
  refine D.go (h:=Q.indexAddr (0) (A6 (m.take.getD 0 [])) (fun _=>g3 (by omega))) (hr:=?_)
  refine Z53 ?_
  refine D.go (h:=Q.indexAddr (0) (Ak (m.give.getD 0 ⟨[],0⟩)) (fun _=>g4 (by omega))) (hr:=?_)
  refine Z14 ?_;refine D.tail ?_;refine Z39 ?_;exact Z74
 have hm:=hm1.trans (rd ht139)
 have len3:((m.kind != 3)==false)=true→0<m.ahead.length∧0<m.take.length∧0<m.back.length∧0<m.give.length:=fun hB=>by
  obtain ⟨a1,a2⟩:=Js hct (by simp at hB;rw [hB];rfl)
  omega
 have and3:∀{b:Bool},(((m.kind != 3)==false)&&b)=true→((m.kind != 3)==false)=true:=fun h=>qz h
 refine Z5 ?_;refine W.drawQ [0,1,3,7,15,31,63,127,15,271,783,1807,3855,8191,16383,32767,65535,131071,262143,32767,557055,1605631,3702783,7897087,16285695,33554431,67108863,134217727,268435455] 25 Ad (by kernel_rfl) ?_;refine Z81 ?_;refine Z45 ?_
 refine H.go (h:=Q.indexAddr (0) (A4 (m.ahead.getD 0 Ab)) (fun hB=>g1 (len3 hB).1)) (hr:=?_)
 refine Xy ?_
 refine H.go (h:=Q.indexAddr (0) (A6 (m.take.getD 0 [])) (fun hB=>g3 (len3 hB).2.1)) (hr:=?_)
 refine H.go ?_;refine H.build (places:=#[(0,1),(1,1),(2,3),(5,1)]) jU (fun w=>by simp) jZ ?_;refine H.call Tryz.call25 (fun hB=>zz (m.ahead.getD 0 Ab) (h.ahead.ok _ (I7 (len3 hB).1)) (m.take.getD 0 []) _) ?_;refine Xy ?_
 refine H.go (h:=Q.indexAddr (0) (A4 (m.back.getD 0 Ab)) (fun hB=>g2 (len3 (and3 hB)).2.2.1)) (hr:=?_)
 refine Xy ?_
 refine H.go (h:=Q.indexAddr (0) (Ak (m.give.getD 0 ⟨[],0⟩)) (fun hB=>g4 (len3 (and3 hB)).2.2.2)) (hr:=?_)
 refine Z45 ?_;refine H.build (places:=#[(0,1),(1,1),(2,3),(5,1)]) jU (fun w=>by simp) jZ ?_;refine D.tail ?_;refine G.call Tryz.call25 (fun hB=>zz (m.back.getD 0 Ab) (h.back.ok _ (I7 (len3 (and3 hB)).2.2.1)) (m.give.getD 0 ⟨[],0⟩).name _) ?_;refine G.go ?_;exact xq

theorem c38 (l:List Mov) (h:OkMovs l) (Hp:List AObj):AFun Tryz.prog 38 [Cp l] Hp (Al (Jq l)):=by
 refine ACall.body [.tmp 2] [0] Tryz.func38 Tryz.ntmps38 (fun d=>?_)
 refine Vc ?_;refine R.fin [0,6] ?_
 refine W.cond (fun ht6=>?_) (fun ht6=>?_)
 ·rw [List.length_map] at ht6
  have hm:Jq l=false:=by
   unfold Jq
   rw [show decide ((l.length:Int)≤8)=false by simp at ht6 ⊢;omega]
   rfl
  exact od
 rw [List.length_map] at ht6
 have h8:decide ((l.length:Int)≤8)=true:=by simp at ht6 ⊢;omega
 have hl8:l.length≤8:=by simp at h8;omega
 refine Z5 ?_;refine Tk ?_
 refine AW.loopC (α:=Nat) (fun x=>⟨19,A3 0 (Cp l) (A3 3 (A2 (x:Nat)) (fun _=>.any)),Hp,[],[],none⟩) (fun x=>x≤l.length∧∀(j:Nat) (y:Mov),j<x→l[j]? = some y→(!D7 y)=false) (fun x=>l.length-x) (0) ⟨Nat.zero_le _,fun j y h=>by omega⟩ (StLe.of_eq (by simp)) rfl (fun x hx=>?_)
 refine Z57 ?_;refine R.fin [0,3,10] ?_
 refine W.cond (fun ht10=>?_) (fun ht10=>?_)
 ·have hlt:x<l.length:=by simpa using ht10
  refine Me ?_
  refine R.go (h:=Q.indexAddr (x) (E3 l[x]) (fun _=>Ae hlt)) (hr:=?_)
  refine R.go ?_;refine R.call Tryz.call66 (c66 l[x] (h.each _ (List.getElem_mem hlt)) _) ?_;refine R.go ?_;refine R.fin [0,3,18] ?_
  refine W.cond (fun ht18=>?_) (fun ht18=>?_)
  ·have hm:Jq l=false:=by
    unfold Jq
    rw [List.all_eq_false.2 ⟨_,List.getElem_mem hlt,by simpa using ht18⟩]
    simp
   refine Z21 ?_;exact Z58
  refine Xu ?_;exact K.lpN (x+1) ⟨hlt,Av hlt hx.2 ht18⟩ (by omega) (StCut.of_eq rfl)
 have hxe:l.length≤x:=by simpa using ht10
 have hm:Jq l=true:=by
  have h2:=En hxe hx.2
  rw [Es] at h2
  unfold Jq
  rw [h8]
  simpa using h2
 exact oo

theorem rf (c:List Col) (ms:List Mov):∀k,((B0 c ms k).map A9)[k]? = some (A9 (colsAt c ms k))
 | 0=>rfl
 | k+1=>by
  have h:=Ff c ms k
  rw [B0,List.map_append,List.getElem?_append_right (by rw [List.length_map];omega),List.length_map,h,Nat.sub_self]
  rfl
theorem Zs {c:List Col} {ms:List Mov} {k:Nat} {m:Mov} (hk:ms[k]? = some m) (h:NS c ms k) (he:(Ap (colsAt c ms k) m).2≠0):Bj c ms=(B0 c ms k,(Ap (colsAt c ms k) m).2):=by
 unfold NS at h
 rw [h,Hb hk,Bj,if_pos (by simpa using he)]
 exact Prod.ext (Ud c ms k) rfl
theorem vp {c:List Col} {l:List Mov} (h:((!(Az c)) || (!(Jq l)))=true):Fd c l=([],1):=if_neg (by unfold Jr;cases h1:Az c<;>cases h2:Jq l<;>simp_all)
theorem rg {c:List Col} {l:List Mov} (h:((!(Az c)) || (!(Jq l)))=false):Jr c l=true:=by unfold Jr;cases h1:Az c<;>cases h2:Jq l<;>simp_all
theorem c15 (c:List Col) (hc:OkCols c) (l:List Mov) (h:OkMovs l) (Hp:List AObj):AFun Tryz.prog 15 [A9 c,Cp l] Hp (.tup [Hc (Fd c l).1,A2 (Fd c l).2]):=by
 refine ACall.body [.tmp 4,.tmp 5] [0,1] Tryz.func15 Tryz.ntmps15 (fun d=>?_)
 refine Z1 ?_;refine R.fin [0,1] ?_;refine Z31 ?_;refine R.call Tryz.call37 (c37 c hc _) ?_;refine Jc ?_;refine G.call Tryz.call38 (fun hB=>c38 l h _) ?_;refine Z66 ?_;refine R.fin [0,1,17] ?_
 refine W.cond (fun ht17=>?_) (fun ht17=>?_)
 ·have hm:=vp ht17
  refine Z2 ?_;refine R.nilTmp 4 1 false ?_;refine R.go ?_;refine Z42 ?_;exact K.fin (V.two V.tmp V.tmp) ⟨by rw [hm];rfl,rfl⟩
 have hmay:=rg ht17
 obtain ⟨hmv,hl8⟩:=mf hmay h
 have hmr:Fd c l=Bj c l:=if_pos hmay
 refine Kf ?_;refine Kg ?_;refine Ic ?_;refine R.fin [1,6] ?_;refine Z31 ?_;refine R.fin [1,6,7] ?_
 refine AW.loopC (α:=Nat) (fun x=>⟨47,A3 1 (Cp l) (A3 6 (.slice true 1 ((B0 c l x).map A9)) (A3 7 (A2 (x:Nat)) (fun _=>.any))),Hp,[],[],none⟩) (fun x=>x≤l.length∧NS c l x) (fun x=>l.length-x) (0) ⟨Nat.zero_le _,vo⟩ (StLe.of_eq (by simp [B0])) rfl (fun x hx=>?_)
 refine Z57 ?_;refine R.fin [1,6,7,23] ?_
 refine W.cond (fun ht23=>?_) (fun ht23=>?_)
 ·have hlt:x<l.length:=by simpa using ht23
  refine Z43 ?_;refine W.drawQ [0,0,3,7,0,0,48,112,255,511,1023,1023,2047,8191] 13 Ad (by kernel_rfl) ?_;refine Z14 ?_
  refine D.go (h:=Q.indexAddr (x) (A9 (colsAt c l x)) (fun _=>rf c l x)) (hr:=?_)
  refine Z53 ?_
  refine D.go (h:=Q.indexAddr (x) (E3 l[x]) (fun _=>Ae hlt)) (hr:=?_)
  refine D.go ?_;refine D.call Tryz.call39 (c39 (colsAt c l x) (Eg hc (fun m hm=>h.each m hm) x) l[x] (hmv _ (List.getElem_mem hlt)) _) ?_;refine Z81 ?_;refine V7 ?_;refine R.fin [1,6,7,8,9] ?_;refine Z8 ?_;refine R.fin [1,6,7,8,9,39] ?_
  refine W.cond (fun ht39=>?_) (fun ht39=>?_)
  ·have he:(Ap (colsAt c l x) l[x]).2≠0:=by simpa using ht39
   have hm:Fd c l=(B0 c l x,(Ap (colsAt c l x) l[x]).2):=hmr.trans (Zs (List.getElem?_eq_getElem hlt) hx.2 he)
   refine Z41 ?_;refine Z42 ?_;refine Z34 ?_;exact yp
  have he:(Ap (colsAt c l x) l[x]).2=0:=by simpa using ht39
  refine Z5 ?_;refine V5 ?_;refine Z75 ?_
  refine R.append jU Tryz.type22 ?_ ?_ ?_
  ·have hol:=Ff c l x;simp [Tryz.t22];omega
  ·have hol:=Ff c l x;simp [Tryz.t22];omega
  refine Ic ?_;refine R.fin [1,6,7] ?_;refine P0 ?_;refine R.fin [1,6,7] ?_
  refine K.lpN (x+1) ⟨hlt,Ue (List.getElem?_eq_getElem hlt) hx.2 he⟩ (by omega) (StCut.of_eq ?_)
  rw [B0,Dw (List.getElem?_eq_getElem hlt),List.map_append]
  rfl
 have hxe:x=l.length:=by have:=hx.1;simp at ht23;omega
 have hm:Fd c l=(B0 c l x,0):=by rw [hmr];subst hxe;exact Zr hx.2
 refine Z47 ?_;refine Z17 ?_;refine Z18 ?_;exact yp

theorem g9 {n k:Nat} {o:Bool} {l:List Str}:Low n (.slice o k (l.map A6)):=by simp [or_imp,forall_and]
def Hi (c:List Col):List Expr:=c.map fun x=>Bd x.name
theorem He {n k:Nat} {o:Bool} {a:List Expr} {e:Expr}:Low n (.slice o k (a.map A4++[A4 e])):=low_slice.2 fun y hy=>by
 rcases List.mem_append.1 hy with h|h
 ·obtain ⟨m,_,rfl⟩:=List.mem_map.1 h
  exact Ac _ _
 rw [List.mem_singleton.1 h]
 exact Ac _ _
theorem C0 {n k:Nat} {o:Bool} {a:List Expr}:Low n (.slice o k (a.map A4)):=low_slice.2 fun y hy=>by
 obtain ⟨m,_,rfl⟩:=List.mem_map.1 hy
 exact Ac _ _
theorem c54 (c:List Col) (hc:c.length≤1048576) (Hp:List AObj):AFun Tryz.prog 54 [A9 c] Hp (Ay (Hi c)):=by
 refine ACall.body [.tmp 2] [0] Tryz.func54 Tryz.ntmps54 (fun d=>?_)
 refine Z40 ?_;refine Z2 ?_;refine It ?_;refine Z68 ?_;refine R.nilSl 3 6 ?_;refine Z23 ?_;refine R.fin [3,6,7,8] ?_
 refine AW.loopC (α:=Nat) (fun x=>⟨20,A3 3 (.slice true 6 (((c.take x).map fun y=>Bd y.name).map A4)) (A3 6 (A9 c) (A3 7 (A2 (c.length:Nat)) (A3 8 (A2 (x:Nat)) (fun _=>.any)))),Hp,[],[],none⟩) (fun x=>x≤c.length) (fun x=>c.length-x) (0) (Nat.zero_le _) (StLe.of_eq (by simp)) rfl (fun x hx=>?_)
 refine Z2 ?_;refine R.fin [3,6,7,8,9] ?_
 refine W.condX (fun ht9=>?_) (fun ht9=>?_)
 ·have hlt:x<c.length:=by simpa using ht9
  refine O2 ?_
  refine R.go (h:=Q.indexAddr (x) (Ak c[x]) (fun _=>Ae hlt)) (hr:=?_)
  refine O5 ?_;refine R.fin [3,5,6,7,8] ?_;refine V5 ?_;refine Z0 ?_;refine ec ?_;refine R.wk 15 _ (Sg c[x].name) ?_;refine Kg ?_
  refine R.append jU Tryz.type45 ?_ ?_ ?_
  ·simp only [List.length_map,List.length_take,List.length_cons,List.length_nil,Tryz.t45];omega
  ·simp only [List.length_map,List.length_take,List.length_cons,List.length_nil,Tryz.t45];omega
  refine Ic ?_;refine R.fin [3,6,7,8] ?_;refine O6 ?_;refine R.fin [3,6,7,8] ?_;refine jv ?_
  rw [Kc hlt,List.map_append]
  exact StCut.take (own:=[]) (fun _=>.refl _) (by repeat (first|exact Ar|refine Aq (by first|(simp [or_imp,forall_and];done)|exact He|exact Cm) ?_)) (by simp) (by simp)
 have hxe:c.length≤x:=by simpa using ht9
 refine Z26 ?_;refine Y1 ?_;exact K.fin (V.one V.tmp) ⟨by unfold Hi;rw [List.take_of_length_le hxe],rfl⟩ (hlow:=C0)

/-! fuse: trees in columns' places. -/
mutual
def putF (c:List Col) (l:List Expr):Expr→Option Expr
 | .mk o t v k=>if o==2 then (if Aj t c<0 then none else some (l.getD (Aj t c).toNat Ab)) else (Hf c l k).map fun k'=>.mk o t v k'
def Hf (c:List Col) (l:List Expr):List Expr→Option (List Expr)
  | []=>some []
  | e::r=>match putF c l e with
    | none=>none
    | some y=>(Hf c l r).map fun s=>y::s
 end
/-- fuse.Over. -/
def Db (x:Expr) (c:List Col) (l:List Expr):Expr×Int:=
 if (((!(Af x)) || l.any Da) || !(Jh c)) || ((c.length:Int) != (l.length:Int)) then (Ab,1)
 else match putF c l x with
  | none=>(Ab,9)
  | some y=>if Af y then (y,0) else (Ab,3)
/-- fuse.over: the trees, till one goes wrong. -/
def Aw (c:List Col) (by_:List Expr):List Expr→List Expr×Int
 | []=>([],0)
 | x::r=>if (Db x c by_).2 != 0 then ([],(Db x c by_).2) else if (Aw c by_ r).2 != 0 then ([],(Aw c by_ r).2) else ((Db x c by_).1::(Aw c by_ r).1,0)
/-- fuse.stay. -/
def C1 (take:List Str):List Col→List Expr→List Expr
 | y::c,x::l=>if take.contains y.name then C1 take c l else x::C1 take c l
 | _,_=>[]
theorem Gv {take:List Str}:∀{c:List Col} {l:List Expr},c.length=l.length→(C1 take c l).length=(Bi c take).length
 | [],[],_=>rfl
 | [],_::_,h=>by simp at h
 | _::_,[],h=>by simp at h
 | y::c,x::l,h=>by
  have ih:=Gv (take:=take) (c:=c) (l:=l) (by simpa using h)
  unfold C1 Bi
  by_cases hc:take.contains y.name=true
  ·rw [if_pos hc]
   simp only [List.filter_cons,hc,Bool.not_true,Bool.false_eq_true,if_false]
   exact ih
  rw [if_neg hc]
  have hc':take.contains y.name=false:=by simpa using hc
  simp only [List.filter_cons,hc',Bool.not_false,if_true,List.length_cons]
  exact congrArg (·+1) ih
theorem Hg {c:List Col} {by_:List Expr}:∀(l:List Expr),(Aw c by_ l).2=0→(Aw c by_ l).1.length=l.length
 | [],_=>rfl
 | x::r,h=>by
  unfold Aw at h ⊢
  split at h
  ·rename_i h1
   exact absurd h (by simpa using h1)
  rename_i h1
  rw [if_neg h1]
  split at h
  ·rename_i h2
   exact absurd h (by simpa using h2)
  rename_i h2
  rw [if_neg h2]
  have:=Hg (c:=c) (by_:=by_) r (by simpa using h2)
  simp [this]
theorem Qg (o:Int) (t:Str) (v:Val) (k:List Expr):A4 (.mk o t v k)=.agg [A2 o,.v (sv t),A2 v.kind,A2 v.n,.v (sv v.s),.slice false 6 (k.map A4)]:=by rw [A8];rfl
theorem mi {n:Nat} {x:Expr} {o:Bool} {l:List Expr}:ObjLow n (.cells 45 [A2 x.op,.v (sv x.text),A2 x.val.kind,A2 x.val.n,.v (sv x.val.s),.slice o 6 (l.map A4)]):=by
 show ∀z∈[A2 x.op,AV.v (sv x.text),A2 x.val.kind,A2 x.val.n,AV.v (sv x.val.s),AV.slice o 6 (l.map A4)],Low n z
 intro z hz
 simp only [List.mem_cons,List.not_mem_nil,or_false] at hz
 rcases hz with rfl|rfl|rfl|rfl|rfl|rfl
 all_goals first|exact Cc|simp
theorem AC4 {α:Type} {P:α→Prop} {a b:α} (h1:P a) (h2:P b):∀x∈[a,b],P x:=by
 intro x hx
 simp only [List.mem_cons,List.not_mem_nil,or_false] at hx
 rcases hx with rfl|rfl
 ·exact h1
 exact h2
def Wv (c:List Col) (l:List Expr) (e:Expr):Expr:=(putF c l e).getD Ab
theorem Si {c:List Col} {l:List Expr}:∀{k:List Expr},(∀(j:Nat) (y:Expr),k[j]? = some y→(!(putF c l y).isSome)=false)→Hf c l k=some (k.map (Wv c l))
 | [],_=>rfl
 | e::r,h=>by
  have h1:=h 0 e rfl
  have h2:=Si (c:=c) (l:=l) (k:=r) (fun j y hy=>h (j+1) y hy)
  rw [Hf]
  cases he:putF c l e with
  | none=>rw [he] at h1;cases h1
  | some z=>rw [h2,List.map_cons,show Wv c l e=z by unfold Wv;rw [he];rfl];rfl
theorem Sj {c:List Col} {l:List Expr}:∀{k:List Expr} {e:Expr},e∈k→putF c l e=none→Hf c l k=none
 | a::r,e,hm,h=>by
  rw [Hf]
  rcases List.mem_cons.1 hm with rfl|hm
  ·rw [h]
  have:=Sj hm h
  cases ha:putF c l a with
  | none=>rfl
  | some z=>rw [this];rfl
theorem Qh {c:List Col} {l:List Expr} {x:Expr} (h:(x.op==2)=true):putF c l x=if Aj x.text c<0 then none else some (l.getD (Aj x.text c).toNat Ab):=by
 cases x;rw [putF];exact if_pos h
theorem Qi {c:List Col} {l:List Expr} {x:Expr} (h:(x.op==2)=false):putF c l x=(Hf c l x.kids).map fun k'=>.mk x.op x.text x.val k':=by
 cases x;rw [putF];exact if_neg (fun e=>Bool.false_ne_true (h.symm.trans e))
theorem Ww {c:List Col} {l:List Expr} {s:Str} (hl:c.length=l.length) (hf:¬Aj s c<0):(l.map A4)[(Aj s c).toNat]? = some (A4 (l.getD (Aj s c).toNat Ab))∧(Aj s c).toNat<l.length∧0≤Aj s c:=by
 obtain ⟨j,hj,hjl⟩:=Em hf
 rw [hj,Int.toNat_natCast]
 refine ⟨?_,by omega,by omega⟩
 rw [List.getElem?_map,List.getElem?_eq_getElem (by omega),List.getD_eq_getElem?_getD,List.getElem?_eq_getElem (by omega)]
 rfl
theorem c46 (c:List Col) (hc:OkCols c) (l:List Expr) (hl:c.length=l.length):∀(n:Nat) (x:Expr),okE n x→∀Hp:List AObj,AFun Tryz.prog 46 [A4 x,A9 c,Ay l] Hp (.tup [A4 ((putF c l x).getD Ab),Al (putF c l x).isSome]):=by
 intro n
 induction n with
 | zero=>exact fun e h=>h.elim
 | succ n ih =>
 intro x hok Hp
 refine ACall.body [.cell 6 45,.tmp 7] [0,1,2] Tryz.func46 Tryz.ntmps46 (fun d=>?_)
 refine dp ?_;refine R.alloc jZ ?_;refine R.go ?_;refine R.fin [1,2,3,6] ?_;refine Z35 ?_;refine R.fin [1,2,3,6,16] ?_
 refine W.cond (fun ht16=>?_) (fun ht16=>?_)
 ·have hpn:=Qh (c:=c) (l:=l) ht16
  refine Z17 ?_;refine R.call Tryz.call59 (c59 c hc x.text _) ?_;refine R.go ?_;refine R.fin [2,6,8] ?_;refine Z8 ?_;refine R.fin [2,6,8,22] ?_
  refine W.cond (fun ht22=>?_) (fun ht22=>?_)
  ·have hm:putF c l x=none:=by rw [hpn,if_pos (by simpa using ht22)]
   refine Z38 ?_;refine Fk ?_;refine R.nilCell 1 5 6 ?_;refine Z55 ?_;refine Z37 ?_;refine K.thR ?_;exact yq
  have hneg:¬Aj x.text c<0:=by simpa using ht22
  have hm:putF c l x=some (l.getD (Aj x.text c).toNat Ab):=by rw [hpn,if_neg hneg]
  refine O8 ?_
  obtain ⟨_,hg1,hg2⟩:=Ww hl hneg
  refine R.go (h:=Q.indexAddr ((Aj x.text c).toNat) (A4 (l.getD (Aj x.text c).toNat Ab)) (fun _=>(Ww hl hneg).1)) (hr:=?_)
  refine Z95 ?_;refine Z55 ?_;refine Z37 ?_;exact K.fin (V.two (V.cellN jA jS) V.tmp) ⟨by rw [hm];show _=AV.tup [A4 (l.getD _ Ab),Al true];rw [A8]<;>rfl,rfl⟩ (hlow:=by simp [or_imp,forall_and,Ac])
 have hpk:=Qi (c:=c) (l:=l) ht16
 refine Z70 ?_;refine R.fin [1,2,3,6,9] ?_;refine Xv ?_;refine R.fin [1,2,3,6,9] ?_;refine Z68 ?_;refine R.nilCell 0 5 6 ?_;refine Z23 ?_;refine R.fin [1,2,3,6,31,32,33] ?_
 refine AW.loopC (α:=Nat) (fun i=>⟨55,A3 1 (A9 c) (A3 2 (Ay l) (A3 3 (.ptr (oid Hp.length 0) 0) (A3 6 (.ptr (oid Hp.length 1) 0) (A3 31 (.slice false 6 (x.kids.map A4)) (A3 32 (A2 (x.kids.length:Nat)) (A3 33 (A2 (i:Nat)) (fun _=>.any))))))),Hp,[.cells 45 [A2 x.op,A6 x.text,A2 x.val.kind,A2 x.val.n,A6 x.val.s,.slice true 6 (((x.kids.take i).map (Wv c l)).map A4)],.cells 45 [A2 0,A6 [],A2 0,A2 0,A6 [],.nil]],[],none⟩) (fun i=>i≤x.kids.length∧∀(j:Nat) (y:Expr),j<i→x.kids[j]? = some y→(!(putF c l y).isSome)=false) (fun i=>x.kids.length-i) (0) ⟨Nat.zero_le _,fun j y h=>by omega⟩ (StLe.of_eq (by simp)) rfl (fun i hi=>?_)
 refine Z2 ?_;refine R.fin [1,2,3,6,31,32,33,34] ?_
 refine W.condX (fun ht34=>?_) (fun ht34=>?_)
 ·have hlt:i<x.kids.length:=by simpa using ht34
  have hkl:=hok.2.1
  refine O2 ?_
  refine R.go (h:=Q.indexAddr (i) (A4 x.kids[i]) (fun _=>Ae hlt)) (hr:=?_)
  refine O5 ?_;refine R.fin [1,2,3,6,11,31,32,33] ?_;refine Z17 ?_;refine R.call Tryz.call46 (ih x.kids[i] (hok.2.2 _ (List.getElem_mem hlt)) _) ?_;refine Xz ?_;refine R.fin [1,2,3,6,12,13,31,32,33] ?_;refine Z8 ?_;refine R.fin [1,2,3,6,12,31,32,33,45] ?_
  refine W.cond (fun ht45=>?_) (fun ht45=>?_)
  ·have hm:putF c l x=none:=by rw [hpk,Sj (List.getElem_mem hlt) (by simpa using ht45)];rfl
   refine Z38 ?_;refine Fk ?_;refine R.nilCell 1 5 6 ?_;refine Z55 ?_;refine Z37 ?_;refine Z34 ?_;exact yq
  refine Z5 ?_;refine Z61 ?_;refine R.loadOwnT jA ?_;refine Z75 ?_
  refine R.append jU Tryz.type45 ?_ ?_ ?_
  ·simp only [List.length_map,List.length_take,List.length_cons,List.length_nil,Tryz.t45];omega
  ·simp only [List.length_map,List.length_take,List.length_cons,List.length_nil,Tryz.t45];omega
  refine R.go ?_;refine R.storeOwnT jS ?_;refine R.fin [1,2,3,6,31,32,33] ?_;refine O6 ?_;refine R.fin [1,2,3,6,31,32,33] ?_;refine K.lpN (i+1) ⟨hlt,Av hlt hi.2 ht45⟩ (by omega) ?_
  have hlo:=fun m=>mi (n:=m) (x:=x) (o:=true) (l:=(x.kids.take i).map (Wv c l)++[Wv c l x.kids[i]])
  simp only [List.map_append,List.map_cons,List.map_nil,A8] at hlo
  simp only [show Tryz.t45.size=6 from rfl]
  rw [Kc hlt,List.map_append,List.map_cons,List.map_nil,A8]
  exact StCut.take (fun _=>.refl _) (by repeat (first|exact Ar|refine Aq (by first|exact C0|exact Cm|(simp [oid,Ac];done)|(simp [oid]<;>omega)) ?_)) (AC4 (hlo _) U7) (by simp)
 have hxe:x.kids.length≤i:=by simpa using ht34
 have hm:putF c l x=some (.mk x.op x.text x.val (x.kids.map (Wv c l))):=by rw [hpk,Si (fun j y hy=>hi.2 j y (by have:=(List.getElem?_eq_some_iff.1 hy).1;omega) hy)];rfl
 refine Z26 ?_;refine Xv ?_;refine Z55 ?_;refine AW.ret ?_;exact K.fin (V.two (V.cellN jA jS) V.tmp) ⟨by rw [hm];show _=AV.tup [A4 (.mk x.op x.text x.val (x.kids.map (Wv c l))),Al true];rw [Qg,List.take_of_length_le hxe],rfl⟩ (hlow:=by simp [or_imp,forall_and];intro y hy;obtain ⟨e,_,rfl⟩:=List.mem_map.1 (List.mem_of_mem_take hy);exact Ac _ _)

theorem L6 {c:List Col} {l:List Expr}:∀{k s:List Expr},Hf c l k=some s→s.length=k.length∧∀y∈s,∃e∈k,putF c l e=some y
 | [],s,h=>by
  rw [Hf] at h
  injection h with h
  subst h
  exact ⟨rfl,fun y hy=>by cases hy⟩
 | a::r,s,h=>by
  rw [Hf] at h
  cases ha:putF c l a with
  | none=>rw [ha] at h;cases h
  | some z =>
   rw [ha] at h
   simp only at h
   cases hr:Hf c l r with
   | none=>rw [hr] at h;cases h
   | some t =>
    rw [hr] at h
    injection h with h
    subst h
    obtain ⟨h1,h2⟩:=L6 hr
    refine ⟨by simp [h1],fun y hy=>?_⟩
    rcases List.mem_cons.1 hy with rfl|hy
    ·exact ⟨a,List.mem_cons_self,ha⟩
    obtain ⟨e,he,hp⟩:=h2 y hy
    exact ⟨e,List.mem_cons_of_mem _ he,hp⟩
theorem bw {c:List Col} {l:List Expr} {m:Nat} (hl:∀e∈l,okE (m+1) e) (hc:c.length=l.length):∀(n:Nat) (x y:Expr),okE n x→putF c l x=some y→okE (m+1+n) y
 | 0,x,y,h,_=>h.elim
 | n+1,x,y,h,hp=>by
  cases h2:x.op==2 with
  | true =>
   rw [Qh h2] at hp
   split at hp
   ·cases hp
   rename_i hf
   injection hp with hp
   subst hp
   obtain ⟨j,hj,hjl⟩:=Em hf
   rw [hj,Int.toNat_natCast,List.getD_eq_getElem?_getD,List.getElem?_eq_getElem (by omega)]
   exact Ev (by omega) (hl _ (List.getElem_mem (by omega)))
  | false =>
   rw [Qi h2] at hp
   cases hk:Hf c l x.kids with
   | none=>rw [hk] at hp;cases hp
   | some s =>
    rw [hk] at hp
    injection hp with hp
    subst hp
    obtain ⟨h3,h4⟩:=L6 hk
    refine ⟨h.1,by show s.length≤_;rw [h3];exact h.2.1,fun z hz=>?_⟩
    obtain ⟨e,he,hpe⟩:=h4 z hz
    exact bw hl hc n e z (h.2.2 e he) hpe
theorem vq {x:Expr} {c:List Col} {l:List Expr} (h:((((!(Af x)) || l.any Da) || !(Jh c)) || ((c.length:Int) != (l.length:Int)))=true):Db x c l=(Ab,1):=if_pos h
theorem mj {x:Expr} {c:List Col} {l:List Expr} (h:((((!(Af x)) || l.any Da) || !(Jh c)) || ((c.length:Int) != (l.length:Int)))=false):Db x c l=match putF c l x with
  | none=>(Ab,9)
  | some y=>if Af y then (y,0) else (Ab,3):=if_neg (by rw [h];simp)
theorem c23 (x:Expr) (hok:okE 61 x) (c:List Col) (hc:OkCols c) (l:List Expr) (hll:l.length≤1048576) (hlo:∀e∈l,okE 61 e) (Hp:List AObj):AFun Tryz.prog 23 [A4 x,A9 c,Ay l] Hp (.tup [A4 (Db x c l).1,A2 (Db x c l).2]):=by
 refine ACall.body [.cell 6 45,.tmp 7] [0,1,2] Tryz.func23 Tryz.ntmps23 (fun d=>?_)
 refine jq ?_;refine R.go ?_;refine R.fin [1,2,3,6] ?_;refine Z31 ?_;refine R.call Tryz.call44 (c44 61 x hok (by decide) _) ?_;refine Jc ?_;refine G.call Tryz.call45 (fun hB=>c45 l hll hlo _) ?_;refine Jc ?_;refine G.call Tryz.call41 (fun hB=>c41 c hc _) ?_;refine G.go ?_;refine Z56 ?_;refine Z66 ?_;refine R.fin [1,2,3,6,28] ?_
 refine W.cond (fun ht28=>?_) (fun ht28=>?_)
 ·simp only [List.length_map] at ht28
  have hm:=vq ht28
  refine Z38 ?_;refine o8 ?_;refine Z55 ?_;refine Z37 ?_;exact yr
 simp only [List.length_map] at ht28
 have hm0:=mj ht28
 have hcl:c.length=l.length:=by simp only [Bool.or_eq_false_iff,bne_eq_false_iff_eq] at ht28;have:=ht28.2;omega
 refine Z70 ?_;refine R.call Tryz.call46 (c46 c hc l hcl 61 x hok _) ?_;refine Xz ?_;refine R.fin [6,8,9] ?_;refine Z19 ?_;refine Z17 ?_;refine R.fin [6,8,37] ?_
 refine W.cond (fun ht37=>?_) (fun ht37=>?_)
 ·have hp:putF c l x=none:=by simpa using ht37
  have hm:Db x c l=(Ab,9):=by rw [hm0,hp]
  refine Z38 ?_;refine o8 ?_;refine Z55 ?_;exact wo
 obtain ⟨y,hp⟩:∃y,putF c l x=some y:=by
  cases h:putF c l x with
  | none=>rw [h] at ht37;cases ht37
  | some y=>exact ⟨y,rfl⟩
 have hyo:okE 122 ((putF c l x).getD Ab):=by rw [hp];exact bw (m:=60) hlo hcl 61 x y hok hp
 refine Z2 ?_;refine R.call Tryz.call44 (c44 122 ((putF c l x).getD Ab) hyo (by decide) _) ?_;refine Z0 ?_;refine R.fin [6,8,41] ?_
 refine W.cond (fun ht41=>?_) (fun ht41=>?_)
 ·have hm:Db x c l=(Ab,3):=by
   rw [hp] at ht41
   rw [hm0,hp]
   exact if_neg (by simpa using ht41)
  refine Z38 ?_;refine o8 ?_;refine Z55 ?_;exact wo
 have hm:Db x c l=(y,0):=by
  rw [hp] at ht41
  rw [hm0,hp]
  exact if_pos (by simpa using ht41)
 refine Z16 ?_;refine Xv ?_;refine Z55 ?_;refine AW.ret ?_;exact K.fin (V.two (V.cellN jA jS) V.tmp) ⟨by rw [hm,hp];show _=AV.tup [A4 y,A2 0];rw [A8];rfl,rfl⟩ (hlow:=by simp [or_imp,forall_and,Ac])

set_option maxRecDepth 8000
/-! The words of a print. -/
/-! What a tree comes to: eval's model. -/
abbrev Rs:=Val×Int
def Qj (e:Int):Rs:=(noV,e)
def Hh (r:Rs):Rs:=if (r.2==0)&&(r.1.kind != 0)&&(r.1.kind != 3) then Qj 10 else r
def ml (strong:Val) (a b:Rs):Rs:=if ((Hh a).2 != 0) || ((Hh a).1==strong) then Hh a else if (((Hh b).2 != 0) || ((Hh b).1==strong)) || ((Hh a).1.kind != 0) then Hh b else ((Hh a).1,0)
def ifW:Str:=[105,102]
def rh:Str:=[110,118,108]
def Lz:Str:=[105,115,110,117,108,108]
def AA0 (t:Str) (a b c:Rs):Rs:=
 if t==ifW then (if (Hh a).2 != 0 then Qj (Hh a).2 else if (Hh a).1==Vh true then b else c)
 else if a.2 != 0 then Qj a.2 else if t==Lz then (Vh (a.1.kind==0),0) else if a.1.kind != 0 then (a.1,0) else b
def AC5 (strict:List Val→Rs) (l:List Rs):Rs:=match l.find? (fun q=>q.2 != 0) with|some q=>Qj q.2|none=>if l.any (fun q=>q.1.kind==0) then (noV,0) else strict (l.map (·.1))
def Qk (c:List Col) (l:List Val) (t:Str):Rs:=if Aj t c<0 then Qj 9 else (l.getD (Aj t c).toNat noV,0)
def orW:Str:=[111,114]
def AC6:Str:=[97,110,100]
/-- A node, of what its kids come to; what a strict node comes to is a parameter. -/
def sw (strict:Int→Str→List Val→Rs) (c:List Col) (l:List Val) (o:Int) (t:Str) (v:Val) (ks:List Rs):Rs:=
 if o==1 then (v,0) else if o==2 then Qk c l t
 else if (o==5)&&(t==orW) then ml (Vh true) (ks.getD 0 (noV,0)) (ks.getD 1 (noV,0))
 else if (o==5)&&(t==AC6) then ml (Vh false) (ks.getD 0 (noV,0)) (ks.getD 1 (noV,0))
 else if (o==6)&&(((t==ifW) || (t==rh)) || (t==Lz)) then AA0 t (ks.getD 0 (noV,0)) (ks.getD 1 (noV,0)) (ks.getD 2 (noV,0))
 else AC5 (strict o t) ks
mutual
def Ns (strict:Int→Str→List Val→Rs) (c:List Col) (l:List Val):Expr→Rs
 | .mk o t v k=>sw strict c l o t v (Sk strict c l k)
def Sk (strict:Int→Str→List Val→Rs) (c:List Col) (l:List Val):List Expr→List Rs
  | []=>[]
  | e::r=>Ns strict c l e::Sk strict c l r
 end
/-! A tree in a column's place comes to what its value would there. -/
mutual
theorem eval_put {f:Int→Str→List Val→Rs} {c:List Col} {l m:List Val} {s:Str} {y:Expr} (hs:Qk c m s=Ns f c l y) (ho:∀t,t≠s→Qk c m t=Qk c l t):∀x:Expr,Ns f c l (uw s y x)=Ns f c m x
 | .mk o t v k=>by
  rw [uw]
  split
  ·rename_i h
   rw [Bool.and_eq_true,beq_iff_eq,beq_iff_eq] at h
   obtain ⟨rfl,rfl⟩:=h
   rw [←hs,Ns]
   rfl
  rename_i h
  rw [Ns,Ns,Sl hs ho k]
  unfold sw
  by_cases h2:(o==2)=true
  ·have:t≠s:=fun e=>h (by rw [h2,e];simp)
   rw [ho t this]
  rw [if_neg h2,if_neg h2]
theorem Sl {f:Int→Str→List Val→Rs} {c:List Col} {l m:List Val} {s:Str} {y:Expr} (hs:Qk c m s=Ns f c l y) (ho:∀t,t≠s→Qk c m t=Qk c l t):∀k:List Expr,Sk f c l (px s y k)=Sk f c m k
  | []=>rfl
  | e::r=>by rw [px,Sk,Sk,eval_put hs ho e,Sl hs ho r]
 end
/-! Who is not named plays no part. -/
/-! What a strict node comes to. -/
/-! Values are AAc, and their numbers have 64 bits. -/
/-! A text between marks. -/
theorem mm {x:Expr} {c:List Col} (h:(Cb x c).2=0):Af x=true∧Dz c=true∧Cb x c=B9 c x:=by
 unfold Cb at h ⊢
 split at h
 ·cases h
 rename_i h1
 rw [if_neg h1]
 simp only [Bool.or_eq_true,Bool.not_eq_true',not_or,Bool.not_eq_false] at h1
 exact ⟨h1.1,by rw [←Ho];exact h1.2,rfl⟩
theorem mn {x:Expr} {c:List Col} (h1:Af x=true) (h2:Dz c=true):Cb x c=B9 c x:=by
 unfold Cb
 rw [Ho,h1,h2]
 rfl
set_option maxRecDepth 4000
set_option maxRecDepth 8000
/-! Who decides decides: the law's sources, columns and truths. -/
/-! Rows. -/
/-! Rows that differ in what is not named. -/
/-! Who has a kind comes to it. -/
theorem Ql {t:Str} {n:Nat} (h:B2 t=(n:Int)):(t=[108,101,110]∧n=1)∨(t=[115,116,114]∧n=1)∨(t=[110,117,109]∧n=1)∨(t=Lz∧n=1)∨(t=rh∧n=2)∨(t=[108,101,102,116]∧n=2)∨(t=[114,105,103,104,116]∧n=2)∨(t=ifW∧n=3):=by
 by_cases hm:t∈arityList.map (·.1)
 ·have ha:∀s∈arityList.map (·.1),(s=[108,101,110]∧B2 s=1)∨(s=[115,116,114]∧B2 s=1)∨(s=[110,117,109]∧B2 s=1)∨(s=Lz∧B2 s=1)∨(s=rh∧B2 s=2)∨(s=[108,101,102,116]∧B2 s=2)∨(s=[114,105,103,104,116]∧B2 s=2)∨(s=ifW∧B2 s=3):=by
   have:((arityList.map (·.1)).all fun s=>decide ((s=[108,101,110]∧B2 s=1)∨(s=[115,116,114]∧B2 s=1)∨(s=[110,117,109]∧B2 s=1)∨(s=Lz∧B2 s=1)∨(s=rh∧B2 s=2)∨(s=[108,101,102,116]∧B2 s=2)∨(s=[114,105,103,104,116]∧B2 s=2)∨(s=ifW∧B2 s=3)))=true:=by kernel_rfl
   exact fun s hs=>of_decide_eq_true (List.all_eq_true.1 this s hs)
  have:=ha t hm
  rw [h] at this
  rcases this with ⟨e,h2⟩|⟨e,h2⟩|⟨e,h2⟩|⟨e,h2⟩|⟨e,h2⟩|⟨e,h2⟩|⟨e,h2⟩|⟨e,h2⟩
  ·exact .inl ⟨e,by omega⟩
  ·exact .inr (.inl ⟨e,by omega⟩)
  ·exact .inr (.inr (.inl ⟨e,by omega⟩))
  ·exact .inr (.inr (.inr (.inl ⟨e,by omega⟩)))
  ·exact .inr (.inr (.inr (.inr (.inl ⟨e,by omega⟩))))
  ·exact .inr (.inr (.inr (.inr (.inr (.inl ⟨e,by omega⟩)))))
  ·exact .inr (.inr (.inr (.inr (.inr (.inr (.inl ⟨e,by omega⟩))))))
  exact .inr (.inr (.inr (.inr (.inr (.inr (.inr ⟨e,by omega⟩))))))
 have h1:B2 t = -1:=by
  unfold B2
  rw [List.find?_eq_none.2 fun p hp=>by
   simp only [beq_iff_eq]
   rintro rfl
   exact hm (List.mem_map.2 ⟨p,hp,rfl⟩)]
 omega
/-! The print of a tree, and its words. -/
def Iv (least:Nat) (x:Expr) (s:Str):Str:=if least≤levE x then s else 40::(s++[41])
def F4:List Str→Str
 | []=>[]
 | s::r=>44::32::(s++F4 r)
def M0 (o:Int) (t:Str) (v:Val) (k:List Expr) (ss:List Str):Str:=
 if o==1 then E8 v else if o==2 then t
 else if o==3 then 45::Iv 6 (k.getD 0 Ab) (ss.getD 0 [])
 else if o==4 then fq++32::Iv 2 (k.getD 0 Ab) (ss.getD 0 [])
 else if o==5 then Iv (Fc (An t).toNat) (k.getD 0 Ab) (ss.getD 0 [])++32::(t++32::Iv ((An t).toNat+1) (k.getD 1 Ab) (ss.getD 1 []))
 else t++40::((F4 ss).drop 2++[41])
mutual
def Ag:Expr→Str
 | .mk o t v k=>M0 o t v k (Jv k)
def Jv:List Expr→List Str
  | []=>[]
  | e::r=>Ag e::Jv r
 end
theorem L7:∀l,Jv l=l.map Ag
 | []=>rfl
 | e::r=>by rw [Jv,L7 r];rfl
theorem vr (v:Val):Ag (Iu v)=E8 v:=by simp [Iu,Ag,M0]
theorem ri (t:Str):Ag (Bd t)=t:=by simp [Bd,Ag,M0]
theorem vt (a:Expr):Ag (F3 3 a)=45::Iv 6 a (Ag a):=by simp [F3,Ag,Jv,M0]
theorem AA1 (a:Expr):Ag (F3 4 a)=fq++32::Iv 2 a (Ag a):=by simp [F3,Ag,Jv,M0]
theorem vu (t:Str) (a b:Expr):Ag (H8 t a b)=Iv (Fc (An t).toNat) a (Ag a)++32::(t++32::Iv ((An t).toNat+1) b (Ag b)):=by simp [H8,Ag,Jv,M0]
theorem rj (t:Str) (k:List Expr):Ag (.mk 6 t noV k)=t++40::((F4 (Jv k)).drop 2++[41]):=by simp [Ag,M0]
/-! What was parsed nests no deeper than may be. -/
/-! What nests too deep is told to be too deep. -/
def F2 (l:List Tok) (x:Expr):Prop:=∀(k:Nat) (S:PS) (rest:List TK),(k=0∨k=1∨k=4∨k=5)→k≤levE x→S.code=0→S.nest≤30→30<S.nest+bj x→seg l S.i=Q6 x++rest→ly (k+1) rest→(E0 l (ofL k) (pf l (fam l S.nest) (k+1)) S).2.code=18
/-! What was parsed is right, where the words are the lexer's. -/
/-! The lexer's words. -/
/-! The parse laws where nothing is too deep. -/
/-! The parser from a word on, and of a source. -/
/-! Other trees have other words, and other prints. -/
/-! The laws of printing. -/
/-- show.Print. -/
def Nt (x:Expr):Str×Int:=if !(Af x) then ([],1) else if decide ((4000:Int)<((Ag x).length:Int)) then ([],3) else (Ag x,0)
theorem Ii {x:Expr} (h:B7 x=true):Cs C8 x=true:=by
 unfold B7 at h
 rw [Bool.and_eq_true] at h
 exact h.2
set_option maxRecDepth 4000
theorem Iw {k:List Expr} {i:Nat} (h:i<k.length):(k.map A4)[i]? = some (A4 (k.getD i Ab))∧k.getD i Ab∈k∧∀(f:Expr→Rs) (d:Rs),(k.map f).getD i d=f (k.getD i Ab):=by
 have e:k.getD i Ab=k[i]:=by rw [List.getD_eq_getElem?_getD,List.getElem?_eq_getElem h];rfl
 rw [e]
 refine ⟨by simp [h],List.getElem_mem h,fun f d=>?_⟩
 rw [List.getD_eq_getElem?_getD,List.getElem?_map,List.getElem?_eq_getElem h]
 rfl
theorem mo {e:Expr} (h:C8 e=true):(e.op=5→e.kids.length=2)∧(e.op=3∨e.op=4→e.kids.length=1)∧(e.op=6→B2 e.text=(e.kids.length:Int))∧(e.op=1∨e.op=2∨e.op=3∨e.op=4∨e.op=5∨e.op=6):=by
 cases L5 h with
 | val v hp h0=>simp [Iu,Expr.op]
 | name t ht=>simp [Bd,Expr.op]
 | neg a=>simp [F3,Expr.op,Expr.kids]
 | no a=>simp [F3,Expr.op,Expr.kids]
 | bin t a b ht=>simp [H8,Expr.op,Expr.kids]
 | call t k ht=>simpa [Expr.op,Expr.kids,Expr.text] using ht
def L8 (s:Str):Int:=if s==[111,114] then 0 else if s==[97,110,100] then 1 else if (((((s==[61]) || (s==[33,61])) || (s==[60])) || (s==[60,61])) || (s==[62])) || (s==[62,61]) then 3 else if ((s==[43]) || (s==[45])) || (s==[38]) then 4 else if ((s==[42]) || (s==[47])) || (s==[37]) then 5 else 7
theorem ga (s:Str):L8 s=if 0≤An s then An s else 7:=by
 by_cases hf:s∈levels.flatten
 ·have h3:(levels.flatten.all fun s=>decide (L8 s=if 0≤An s then An s else 7))=true:=by kernel_rfl
  exact of_decide_eq_true (List.all_eq_true.1 h3 s hf)
 have hn:=hf
 have h:An s = -1:=by
  rcases Jp s with h|⟨h,_⟩
  ·exact absurd h hf
  exact h
 rw [h]
 simp only [levels,List.flatten_cons,List.flatten_nil,List.append_nil,List.cons_append,List.nil_append,List.mem_cons,List.not_mem_nil,or_false,not_or] at hn
 obtain ⟨a1,a2,a3,a4,a5,a6,a7,a8,a9,b1,b2,b3,b4,b5⟩:=hn
 simp [L8, *]
/-- The level of a node. -/
def Zt (e:Expr):Int:=if e.op==4 then 2 else if e.op==3 then 6 else if e.op==5 then L8 e.text else 7
theorem bx {e:Expr} (h:C8 e=true):Zt e=(levE e:Int):=by
 unfold Zt levE
 split
 ·rfl
 split
 ·rfl
 split
 ·rename_i h5
  have hb:0≤An e.text:=by
   have h5':e.op=5:=by simpa using h5
   rw [Pw] at h
   unfold Ea at h
   simp [h5'] at h
   exact h.2.1
  rw [ga,if_pos hb]
  omega
 rfl
theorem AC7 (s:Str) (Hp:List AObj):AFun Tryz.prog 136 [A6 s] Hp (A2 (L8 s)):=by
 refine ACall.body [.tmp 2] [0] Tryz.func136 Tryz.ntmps136 (fun d=>?_)
 refine Z40 ?_;refine Z31 ?_;refine R.fin [3] ?_;refine Lo ?_;refine R.fin [3,4] ?_
 refine W.cond (fun ht4=>?_) (fun ht4=>?_)
 ·exact jk
 refine Z1 ?_;refine R.fin [3,6] ?_
 refine W.cond (fun ht6=>?_) (fun ht6=>?_)
 ·exact jk
 refine W.join ⟨23,A3 3 (A6 s) (A3 8 (Al ((((((s==[61]) || (s==[33,61])) || (s==[60])) || (s==[60,61])) || (s==[62])) || (s==[62,61]))) (fun _=>.any)),Hp,[],[],none⟩ ?_ ?_
 ·refine jl ?_
  refine W.cond (fun ht8=>?_) (fun ht8=>?_)
  ·exact j8
  refine jl ?_
  refine W.cond (fun ht8=>?_) (fun ht8=>?_)
  ·exact j8
  refine jl ?_
  refine W.cond (fun ht8=>?_) (fun ht8=>?_)
  ·exact j8
  refine jl ?_
  refine W.cond (fun ht8=>?_) (fun ht8=>?_)
  ·exact j8
  refine jl ?_
  refine W.cond (fun ht8=>?_) (fun ht8=>?_)
  ·exact j8
  refine Z11 ?_;refine R.fin [3,8] ?_;exact Z59
 refine W.cond (fun ht8=>?_) (fun ht8=>?_)
 ·exact jk
 refine W.join ⟨23,A3 3 (A6 s) (A3 15 (Al (((s==[43]) || (s==[45])) || (s==[38]))) (fun _=>.any)),Hp,[],[],none⟩ ?_ ?_
 ·refine Z1 ?_;refine R.fin [3,15] ?_
  refine W.cond (fun ht15=>?_) (fun ht15=>?_)
  ·refine W.keep [3,15] ?_;exact j7
  refine Z1 ?_;refine R.fin [3,15] ?_
  refine W.cond (fun ht15=>?_) (fun ht15=>?_)
  ·refine W.keep [3,15] ?_;exact j7
  refine Z11 ?_;refine R.fin [3,15] ?_;exact Z59
 refine W.cond (fun ht15=>?_) (fun ht15=>?_)
 ·exact jk
 refine W.join ⟨23,A3 19 (Al (((s==[42]) || (s==[47])) || (s==[37]))) (fun _=>.any),Hp,[],[],none⟩ ?_ ?_
 ·refine Z1 ?_;refine R.fin [3,19] ?_
  refine W.cond (fun ht19=>?_) (fun ht19=>?_)
  ·refine W.keep [19] ?_;exact j7
  refine Z1 ?_;refine R.fin [3,19] ?_
  refine W.cond (fun ht19=>?_) (fun ht19=>?_)
  ·refine W.keep [19] ?_;exact j7
  refine Z11 ?_;refine R.fin [19] ?_;exact Z59
 refine W.cond (fun ht19=>?_) (fun ht19=>?_)
 ·exact jk
 refine V8 ?_;exact K.fin (V.one V.tmp) ⟨by simp_all [L8],rfl⟩

theorem AA2 (e:Expr) (Hp:List AObj):AFun Tryz.prog 101 [A4 e] Hp (A2 (Zt e)):=by
 refine ACall.body [.tmp 2] [0] Tryz.func101 Tryz.ntmps101 (fun d=>?_)
 refine Z71 ?_;refine Z8 ?_;refine R.fin [1,4] ?_;refine Lo ?_;refine R.fin [1,4,5] ?_
 refine W.cond (fun ht5=>?_) (fun ht5=>?_)
 ·refine Z21 ?_;exact tr
 refine Z1 ?_;refine R.fin [1,4,7] ?_
 refine W.cond (fun ht7=>?_) (fun ht7=>?_)
 ·refine Z21 ?_;exact tr
 refine Z1 ?_;refine R.fin [1,9] ?_
 refine W.cond (fun ht9=>?_) (fun ht9=>?_)
 ·refine Z1 ?_;refine R.call Tryz.call136 (AC7 e.text _) ?_;refine Xw ?_;exact tr
 refine V8 ?_;exact K.fin (V.one V.tmp) ⟨by simp_all [Zt],rfl⟩

end Go.SX.Nb
namespace Go.Proofs
open Go.Shelf Go.RowKit

section
variable {P:Program} (w:World)

/-- Bytes behind a builder's bytes: what is handed back lies where it lay, or in the next block, or nowhere still. -/
theorem gb {t u ty e:TypeId} {i:TypeInfo} (ht:P.underlying t=some (.slice e)) (hu:P.underlying u=some .string) (hi:P.info? e=some i) (hz:i.zero=some (.int .u8 0)) (hsize:i.size=1) (hby:i.bytes=1)
  (v:Value) (n:Nat) (xs:List Value) (hown:w.ownsRow 0 e 1 v n xs) (s:ByteArray) (hb:n+s.size≤140737488355328):
  ∃v' w',(Builtin.append_ #[t,u] ty #[v,.string s]).run P w=.ok v' w'∧w'.ownsRow 0 e 1 v' (n+s.size) (xs++Lib.strCells s)∧w.grownBy w' v'.ownBlock ∧
   ((v=.slice none 0 0∧v'=v∧s.size=0)∨(∃g cap,v=.slice (some ⟨g,0,none⟩) n cap∧v'=.slice (some ⟨g,0,none⟩) (n+s.size) cap)∨∃cap,v'=.slice (some ⟨w.heap.size,0,none⟩) (n+s.size) cap∧0<n+s.size):=by
 have h63:n+s.size≤maxLen:=by unfold maxLen;omega
 obtain ⟨v',w',hr,h1,h2,h3⟩:=Lib.run_append_own_string (P:=P) w 0 t u ty e i ht hu hi hz hsize hby v n xs hown s h63 hb (Nat.zero_le _)
 have hxl:xs.length=n:=by simpa using hown.1
 refine ⟨v',w',hr,h1,?_⟩
 rcases hown.2 with ⟨rfl,rfl⟩|⟨g,cap,cur,rfl,hbg,hg,hnc,hcm,hcs,htake⟩
 ·by_cases hm:s.size=0
  ·have e1:=h3.2 ⟨rfl,hm⟩
   exact ⟨by rw [e1];exact h2,.inl ⟨rfl,e1,hm⟩⟩
  have hr2:=run_append_nil_string (P:=P) w t u ty e i (.int .u8 0) ht hu hi hz s (by omega) (by omega) (by rw [hby];omega)
  rw [hr] at hr2
  injection hr2 with e1 e2
  refine ⟨?_,.inr (.inr ⟨_,by rw [e1,Nat.zero_add],by omega⟩)⟩
  rw [e2]
  exact ⟨rfl,rfl,rfl,by simp,fun k hk _=>Lib.alloc_old w.drew _ k hk⟩
 by_cases hroom:n+s.size≤cap
 ·have hcs':cur.size=cap:=by simpa using hcs
  have hr2:=Lib.run_append_room_string (P:=P) w t u ty e i ht hu hi hsize g n cap cur hg s hroom (by omega)
  rw [hr] at hr2
  injection hr2 with e1 e2
  exact ⟨by rw [e1];exact h2,.inr (.inl ⟨g,cap,rfl,e1⟩)⟩
 have holds:∀j u,xs[j]? = some u→w.cell? ((⟨g,0,none⟩:Addr).add j)=some u:=hown.cells (g:=g) rfl
 have hr2:=Lib.run_append_grow_string (P:=P) w t u ty e i (.int .u8 0) ht hu hi hz ⟨g,0,none⟩ n cap xs (by rw [hsize];simpa using hxl) holds s (by omega) (by omega) (by rw [hby];exact growslice_fits (by omega) (by omega))
 rw [hr] at hr2
 injection hr2 with e1 e2
 refine ⟨?_,.inr (.inr ⟨_,e1,by omega⟩)⟩
 rw [e2]
 exact ⟨rfl,rfl,rfl,by simp,fun k hk _=>Lib.alloc_old w.drew _ k hk⟩
end

theorem Mz {P:Program} {w w':World} {ops:Array Oper} {rest:List Oper} {o:Oper} {a:Act} {Q:Exit→Act→World→Prop} {v v':Value} {s:ByteArray} (hgd:o.guard=none) (sl x:Operand) (t u ty:TypeId)
  (ho:o.op=.call { callee:=.builtin .append,args:=#[sl,x],argTypes:=#[t,u] }) (hty:o.type=ty) (hs:a.eval sl=v) (hx:a.eval x=.string s) (hrun:(Builtin.append_ #[t,u] ty #[v,.string s]).run P w=.ok v' w')
  (h:wpList P ops Q rest (a.put o.dst v') w'):wpList P ops Q (o::rest) a w:=by
 refine wpList_plain hgd fun K hK=>?_
 subst hty
 unfold Oper.wp execOp
 simp only [ho,resolve,invoke,builtin,Sem.run_bind,Sem.run_pure,Result.andThen_ok,List.map_toArray,List.map_cons,List.map_nil,hs,hx,hrun]
 exact hK _ _ h

section
variable {P:Program} {ρ:Ren}

set_option maxHeartbeats 1000000 in
set_option maxRecDepth 100000 in
/-- The check of an unused builder within a block of type T. -/
theorem gc (L:Lays.n240 P ρ) (X:Builder.X72 P ρ) {T:TypeId} (hl:liesAt P P.depth T (2 / P.cellsOf T) 0 (ρ.t 72) 1=true) (b:Nat) (w:World) (h0:w.cell? ⟨b,0,none⟩=some (.pointer none)) (hsh:w.shape? b=some (T,2)) (hfz:w.frozen? ⟨b,0,none⟩=false):
  Calls P (ρ.f 240) #[.pointer (some ⟨b,0,none⟩)] w fun e w'=>e=.returned (.tuple #[])∧w'=w.setCell ⟨b,0,none⟩ (.pointer (some ⟨b,0,none⟩)):=by
 obtain ⟨j,hj,hjs⟩:=Option.map_eq_some_iff.1 X.sizeBuilder
 have mixed:=L.mixed
 have t72:=L.t72;have a72:=L.a72;have z72:=L.z72;have v72:=L.v72;have u72:=run_underlying L.t72
 have t70:=L.t70;have a70:=L.a70;have z70:=L.z70;have v70:=L.v70;have u70:=run_underlying L.t70
 have t9:=L.t9;have a9:=L.a9;have z9:=L.z9;have v9:=L.v9;have u9:=run_underlying L.t9
 have t4:=L.t4;have a4:=L.a4;have z4:=L.z4;have v4:=L.v4;have u4:=run_underlying L.t4
 have t164:=L.t164;have a164:=L.a164;have z164:=L.z164;have v164:=L.v164;have u164:=run_underlying L.t164
 go_enter L.f240,Body.n240_ntmps ρ
 go_wp2
 rw [Lib.run_to_unsafe w ⟨b,0,none⟩ L.t70 L.t164 hj (by rw [hjs];decide) hsh (Nat.zero_lt_succ 1)]
 simp only [Result.andThen]
 rw [Oper.upon_value]
 go_wp2
 rw [run_callFunc_extern L.f276 (by kernel_rfl) (by kernel_rfl) (by kernel_rfl) (e:=Extern.AbiNoEscape.same) (by kernel_rfl)]
 rw [Lib.run_noEscape]
 simp only [Result.andThen]
 rw [Oper.upon_value]
 go_wp2
 rw [Lib.run_from_unsafe w ⟨b,0,none⟩ L.t164 L.t70 hj hsh hl]
 simp only [Result.andThen]
 rw [Oper.upon_value]
 go_wp2
 go_end0
 exact ⟨rfl,rfl⟩

/-- The check: behind it the first cell holds the builder's own address; nothing else turns. -/
theorem mp (L:Lays.n240 P ρ) (X:Builder.X72 P ρ) {T e:TypeId} (hl:liesAt P P.depth T (2 / P.cellsOf T) 0 (ρ.t 72) 1=true) (b:Nat) (p v:Value) (n:Nat) (bs:List Value) (w:World) (h:Jb T e b p v n bs w):
  Calls P (ρ.f 240) #[.pointer (some ⟨b,0,none⟩)] w fun e' w'=>e'=.returned (.tuple #[])∧Jb T e b (.pointer (some ⟨b,0,none⟩)) v n bs w'∧w.grownBy w' (some b)∧w'.heap.size=w.heap.size:=by
 obtain ⟨h1,hp,h3,h4⟩:=h
 rcases hp with rfl|rfl
 ·refine (gc L X hl b w (by rw [Lib.cell_of_heap h1];rfl) (by simp [World.shape?,h1]) (Lib.frozen_of_heap h1 0)).mono ?_
  rintro e' w' ⟨rfl,rfl⟩
  have hgr:w.grownBy (w.setCell ⟨b,0,none⟩ (.pointer (some ⟨b,0,none⟩))) (some b):=⟨rfl,rfl,rfl,by simp [World.setCell],fun k _ hk=>Below.heap_setCell _ _ _ _ (fun e=>hk (by simp [e]))⟩
  exact ⟨rfl,⟨by simp [World.setCell,Array.getElem?_modify,h1],.inr rfl,h3.kept hgr (.inr h4),h4⟩,hgr,by simp [World.setCell]⟩
 refine (Any.Builder_copyCheck_used L X b w (by rw [Lib.cell_of_heap h1];rfl)).mono ?_
 rintro e' w' ⟨rfl,rfl⟩
 exact ⟨rfl,⟨h1,.inr rfl,h3,h4⟩,⟨rfl,rfl,rfl,Nat.le_refl _,fun _ _ _=>rfl⟩,rfl⟩

set_option maxHeartbeats 1000000 in
set_option maxRecDepth 100000 in
/-- How many bytes there are. -/
theorem bldLen (L:Lays.n170 P ρ) {T e:TypeId} (b:Nat) (p v:Value) (n:Nat) (bs:List Value) (w:World) (h:Jb T e b p v n bs w):
  Calls P (ρ.f 170) #[.pointer (some ⟨b,0,none⟩)] w fun e' w'=>e'=.returned (.int .i64 n)∧w'=w:=by
 obtain ⟨h1,_,h3,_⟩:=h
 obtain ⟨ao,cap,rfl⟩:∃ao cap,v=.slice ao n cap:=by
  rcases h3.2 with ⟨hv,h0⟩|⟨g,cap,cur,hv,_⟩
  ·exact ⟨none,0,by rw [hv,h0]⟩
  exact ⟨_,_,hv⟩
 have c1:w.cell? ⟨b,1,none⟩=some (.slice ao n cap):=by rw [Lib.cell_of_heap h1];rfl
 have mixed:=L.mixed
 have t72:=L.t72;have a72:=L.a72;have z72:=L.z72;have v72:=L.v72;have u72:=run_underlying L.t72
 have t70:=L.t70;have a70:=L.a70;have z70:=L.z70;have v70:=L.v70;have u70:=run_underlying L.t70
 have t37:=L.t37;have a37:=L.a37;have z37:=L.z37;have v37:=L.v37;have u37:=run_underlying L.t37
 have t3:=L.t3;have a3:=L.a3;have z3:=L.z3;have v3:=L.v3;have u3:=run_underlying L.t3
 go_enter L.f170,Body.n170_ntmps ρ
 go_wp2
 go_ret
 exact ⟨rfl,rfl⟩

set_option maxHeartbeats 2000000 in
set_option maxRecDepth 100000 in
/-- A text is written behind it. -/
theorem bldWrite (L:Lays.n166 P ρ) (X:Builder.Extra P ρ) {T:TypeId} (hl:liesAt P P.depth T (2 / P.cellsOf T) 0 (ρ.t 72) 1=true) (hTe:T≠ρ.t 5) (b:Nat) (p v:Value) (n:Nat) (bs:List Value) (s:ByteArray) (w:World) (h:Jb T (ρ.t 5) b p v n bs w)
  (hlen:n+s.size≤140737488355328):
  Calls P (ρ.f 166) #[.pointer (some ⟨b,0,none⟩),.string s] w fun e w'=>e=.returned (.tuple #[.int .i64 s.size,.nilIface])∧∃v',Jb T (ρ.t 5) b (.pointer (some ⟨b,0,none⟩)) v' (n+s.size) (bs++Lib.strCells s) w' ∧
   (w'.os=w.os∧w'.tape=w.tape∧w'.output=w.output∧w.heap.size≤w'.heap.size)∧(∀k,k<w.heap.size→k≠b→v'.ownBlock≠some k→w'.heap[k]? = w.heap[k]?) ∧
   ((v=.slice none 0 0∧v'=v∧s.size=0)∨(∃g cap,v=.slice (some ⟨g,0,none⟩) n cap∧v'=.slice (some ⟨g,0,none⟩) (n+s.size) cap)∨∃cap,v'=.slice (some ⟨w.heap.size,0,none⟩) (n+s.size) cap∧0<n+s.size):=by
 obtain ⟨i0,hi,hz0,hz1,hz2⟩:=info_parts X.infoByte
 have mixed:=L.mixed
 have t72:=L.t72;have a72:=L.a72;have z72:=L.z72;have v72:=L.v72;have u72:=run_underlying L.t72
 have t70:=L.t70;have a70:=L.a70;have z70:=L.z70;have v70:=L.v70;have u70:=run_underlying L.t70
 have t37:=L.t37;have a37:=L.a37;have z37:=L.z37;have v37:=L.v37;have u37:=run_underlying L.t37
 have t3:=L.t3;have a3:=L.a3;have z3:=L.z3;have v3:=L.v3;have u3:=run_underlying L.t3
 have t9:=L.t9;have a9:=L.a9;have z9:=L.z9;have v9:=L.v9;have u9:=run_underlying L.t9
 have t4:=L.t4;have a4:=L.a4;have z4:=L.z4;have v4:=L.v4;have u4:=run_underlying L.t4
 have t164:=L.t164;have a164:=L.a164;have z164:=L.z164;have v164:=L.v164;have u164:=run_underlying L.t164
 have t5:=X.t5;have a5:=X.a5;have z5:=X.z5;have v5:=X.v5;have u5:=run_underlying X.t5
 have e240:∀args w,(callFunc (ρ.f 240) args).run P w=.ok (.enter (ρ.f 240) args) w:=enters_of L.f240 (by kernel_rfl) rfl
 go_enter L.f166,Body.n166_ntmps ρ
 go_wp2_with (go_at_fn (ρ.f 240);refine (mp { L with } X.toX72 hl b p v n bs _ h).mono ?_)
 rintro e w1 ⟨rfl,⟨hbk,_,hown,hne⟩,hg1,hs1⟩
 have c0:w1.cell? ⟨b,0,none⟩=some (.pointer (some ⟨b,0,none⟩)):=by rw [Lib.cell_of_heap hbk];rfl
 have c1:w1.cell? ⟨b,1,none⟩=some v:=by rw [Lib.cell_of_heap hbk];rfl
 obtain ⟨v',w2,hrun,hown',hgrow,hcase⟩:=gb (P:=P) w1 (ty:=ρ.t 37) L.t37 L.t9 hi hz0 hz1 hz2 v n bs hown s hlen
 have hlt:b<w1.heap.size:=(Array.getElem?_eq_some_iff.1 hbk).1
 have hne':v'.ownBlock≠some b:=by
  rcases hcase with ⟨_,e1,_⟩|⟨g,cap,e1,e2⟩|⟨cap,e1,_⟩
  ·rw [e1];exact hne
  ·rw [e2];rw [e1] at hne;exact hne
  rw [e1];simp [Value.ownBlock];omega
 have hb2:w2.heap[b]? = some (.cells #[.pointer (some ⟨b,0,none⟩),v] T (0,0)):=by
  rw [hgrow.block b hlt (fun e=>hne' e.symm)]
  exact hbk
 have d0:w2.cell? ⟨b,0,none⟩=some (.pointer (some ⟨b,0,none⟩)):=by rw [Lib.cell_of_heap hb2];rfl
 have d1:w2.cell? ⟨b,1,none⟩=some v:=by rw [Lib.cell_of_heap hb2];rfl
 have f1:w2.frozen? ⟨b,1,none⟩=false:=Lib.frozen_of_heap hb2 1
 obtain ⟨ao,n',cap,rfl⟩:∃ao n' cap,v'=.slice ao n' cap:=by
  rcases hown'.2 with ⟨hv,_⟩|⟨g,cap,cur,hv,_⟩
  ·exact ⟨_,_,_,hv⟩
  exact ⟨_,_,_,hv⟩
 go_wp2_with (at_builtin;refine Mz rfl _ _ (ρ.t 37) (ρ.t 9) (ρ.t 37) rfl rfl rfl rfl hrun ?_)
 go_ret2
 refine ⟨rfl,_,⟨by simp [World.setCell,Array.getElem?_modify,hb2],.inr rfl,hown'.kept (row:=some b) ⟨rfl,rfl,rfl,by simp [World.setCell],fun k _ hk=>Below.heap_setCell _ _ _ _ (fun e=>hk (by simp [e]))⟩ (.inr hne'),hne'⟩,⟨?_,?_,?_,?_⟩,fun k hk hkb hkr=>?_,?_⟩
 ·exact hgrow.os.trans hg1.os
 ·exact hgrow.tape.trans hg1.tape
 ·exact hgrow.output.trans hg1.output
 ·have:=hgrow.size
  simp [World.setCell];omega
 ·rw [Below.heap_setCell _ _ _ _ hkb,hgrow.block k (by omega) (fun e=>hkr e.symm),hg1.block k hk (by simpa using hkb)]
 rw [hs1] at hcase;exact hcase

set_option maxHeartbeats 2000000 in
set_option maxRecDepth 100000 in
/-- Its text: some of its row is frozen; nothing else turns. -/
theorem bldString (L:Lays.n169 P ρ) (X:Builder.Extra P ρ) {T:TypeId} (b:Nat) (p v:Value) (l:List UInt8) (w:World) (h:Jb T (ρ.t 5) b p v l.length (Lib.byteCells l) w) (hcap:∀g,v≠.slice (some ⟨g,0,none⟩) 0 0):
  Calls P (ρ.f 169) #[.pointer (some ⟨b,0,none⟩)] w fun e w'=>e=.returned (.string ⟨l.toArray⟩)∧(w'.os=w.os∧w'.tape=w.tape∧w'.output=w.output∧w.heap.size≤w'.heap.size)∧∀k,v.ownBlock≠some k→w'.heap[k]? = w.heap[k]? := by
 obtain ⟨hbk,_,hown,hne⟩:=h
 have mixed:=L.mixed
 have t72:=L.t72;have a72:=L.a72;have z72:=L.z72;have v72:=L.v72;have u72:=run_underlying L.t72
 have t70:=L.t70;have a70:=L.a70;have z70:=L.z70;have v70:=L.v70;have u70:=run_underlying L.t70
 have t37:=L.t37;have a37:=L.a37;have z37:=L.z37;have v37:=L.v37;have u37:=run_underlying L.t37
 have t127:=L.t127;have a127:=L.a127;have z127:=L.z127;have v127:=L.v127;have u127:=run_underlying L.t127
 have t3:=L.t3;have a3:=L.a3;have z3:=L.z3;have v3:=L.v3;have u3:=run_underlying L.t3
 have t9:=L.t9;have a9:=L.a9;have z9:=L.z9;have v9:=L.v9;have u9:=run_underlying L.t9
 have t5:=X.t5;have a5:=X.a5;have z5:=X.z5;have v5:=X.v5;have u5:=run_underlying X.t5
 rcases hown.2 with ⟨rfl,h0⟩|⟨g,cap,cur,rfl,hbg,hg,hnc,hcm,hcs,htake⟩
 ·have hl:l=[]:=List.eq_nil_of_length_eq_zero h0
  subst hl
  have hUS:=Any.unsafeString_none L X
  have c1:w.drew.cell? ⟨b,1,none⟩=some (.slice none 0 0):=by
   have:w.drew.heap[b]? = some (.cells #[p,.slice none 0 0] T (0,0)):=hbk
   rw [Lib.cell_of_heap this];rfl
  have hSD:(Builtin.unsafeSliceData_ #[(ρ.t 37)] (ρ.t 127) #[.slice none 0 0]).run P w.drew=.ok (.pointer none) w.drew:=rfl
  go_enter L.f169,Body.n169_ntmps ρ
  go_wp2
  go_region_o
  all_goals (go_wp2;go_ret;exact ⟨rfl,⟨rfl,rfl,rfl,Nat.le_refl _⟩,fun _ _=>rfl⟩)
 have hc0:cap≠0:=by
  rintro rfl
  exact hcap g (by rw [show l.length=0 by omega])
 have c1:w.drew.cell? ⟨b,1,none⟩=some (.slice (some ⟨g,0,none⟩) l.length cap):=by
  have:w.drew.heap[b]? = some (.cells #[p,.slice (some ⟨g,0,none⟩) l.length cap] T (0,0)):=hbk
  rw [Lib.cell_of_heap this];rfl
 have hSD:(Builtin.unsafeSliceData_ #[(ρ.t 37)] (ρ.t 127) #[.slice (some ⟨g,0,none⟩) l.length cap]).run P w.drew=.ok (.pointer (some ⟨g,0,none⟩)) w.drew:=
  Lib.run_unsafeSliceData_row _ _ _ _ _ _ hc0
 by_cases hl:l=[]
 ·subst hl
  have hUS:=Any.unsafeString_none L X
  clear hc0 hcap
  simp only [List.length_nil] at c1 hSD
  go_enter L.f169,Body.n169_ntmps ρ
  go_wp2
  go_region_o
  all_goals (go_wp2;go_ret;exact ⟨rfl,⟨rfl,rfl,rfl,Nat.le_refl _⟩,fun _ _=>rfl⟩)
 have hUS:(Builtin.unsafeString_ #[(ρ.t 127),(ρ.t 3)] (ρ.t 9) #[.pointer (some ⟨g,0,none⟩),.int .i64 l.length]).run P w.drew=.ok (.string ⟨l.toArray⟩) (w.drew.freeze ⟨g,0,none⟩ l.length):=by
  refine Lib.run_unsafeString_row w.drew (ρ.t 127) (ρ.t 3) (ρ.t 9) (ρ.t 5) L.t127 X.cellsByte g cur.size (by have hg':w.drew.heap[g]? = some (.cells cur (ρ.t 5) (0,0)):=hg;simp [World.shape?,hg']) l hl (by omega) (by unfold maxLen at hcm;omega) ?_
  intro j x hx
  exact hown.cells (g:=g) rfl j (.int .u8 x.toNat) (by simp [Lib.byteCells,hx])
 have hfz:∀k,g≠k→(w.drew.freeze ⟨g,0,none⟩ l.length).heap[k]? = w.heap[k]? := fun k hk=>by
  unfold World.freeze
  split
  ·rfl
  show (w.heap.modify g _)[k]? = _
  rw [Array.getElem?_modify,if_neg hk]
 have hfs:(w.drew.freeze ⟨g,0,none⟩ l.length).heap.size=w.heap.size:=by
  unfold World.freeze
  split
  ·rfl
  show (w.heap.modify g _).size=_
  simp
 have hfo:(w.drew.freeze ⟨g,0,none⟩ l.length).os=w.os∧(w.drew.freeze ⟨g,0,none⟩ l.length).tape=w.tape∧(w.drew.freeze ⟨g,0,none⟩ l.length).output=w.output:=by
  unfold World.freeze
  split<;>exact ⟨rfl,rfl,rfl⟩
 clear hc0 hcap
 go_enter L.f169,Body.n169_ntmps ρ
 go_wp2
 go_region_o
 all_goals (go_wp2;go_ret;exact ⟨rfl,⟨hfo.1,hfo.2.1,hfo.2.2,Nat.le_of_eq hfs.symm⟩,fun k hk=>hfz k (fun e=>hk (by rw [e];rfl))⟩)
end
end Go.Proofs

namespace Go.SX.Nb
open Go Go.SX Go.Proofs Go.Shelf
variable [ErrAt]
set_option maxRecDepth 8000
/-! show's builder. -/
theorem AA3:Builder.Extra Tryz.prog Tryz.ren155 where
 sizeBuilder:=by kernel_rfl
 liesBuilder:=by kernel_rfl
 t5:=Tryz.underlying5
 a5:=Tryz.isAgg5
 z5:=Tryz.sizeOf5
 v5:=Tryz.zeroValue5
 infoByte:=by kernel_rfl
 cellsByte:=by kernel_rfl
 sizeByte:=by kernel_rfl
 neB5:=by decide
theorem rk:liesAt Tryz.prog Tryz.prog.depth 109 (2 / Tryz.prog.cellsOf 109) 0 107 1=true:=by kernel_rfl
abbrev Qm (bs:Str):AObj:=.bld 109 5 bs
theorem C2 {n:Nat} {bs:Str}:ObjLow n (Qm bs):=trivial
/-- (*strings.Builder).WriteString. -/
theorem Qn (bs s:Str) (hl:bs.length+s.length≤140737488355328) (o:Nat) (Hp:List AObj) (ho:Hp[o]? = some (Qm bs)):
  ACall Tryz.prog 102 [.ptr o 0,A6 s] Hp (fun r H'=>r=.tup [A2 s.length,.v .nilIface]∧H'=Hp.set o (Qm (bs++s))):=by
 refine ACall.bldWrite ho (fun b p v w h=>?_)
 have hw:=bldWrite Tryz.lays166 AA3 (T:=109) rk (by decide) b p v bs.length (Lib.byteCells bs) ⟨s.toArray⟩ w h (by rw [Dh];exact hl)
 rw [Dh,Lib.strCells_eq,←Lib.byteCells_append] at hw
 exact hw
/-- (*strings.Builder).Len. -/
theorem c72 (bs:Str) (o:Nat) (Hp:List AObj) (ho:Hp[o]? = some (Qm bs)):AFun Tryz.prog 72 [.ptr o 0] Hp (A2 bs.length):=
 AFun.bldLen ho (fun b p v w h=>bldLen Tryz.lays170 (T:=109) (e:=5) b p v _ _ w h)
/-- (*strings.Builder).String. -/
theorem c73 (bs:Str) (o:Nat) (Hp:List AObj) (ho:Hp[o]? = some (Qm bs)):ACall Tryz.prog 73 [.ptr o 0] Hp (fun r H'=>r=A6 bs∧H'=Hp.set o (.cells 109 [.any,.any])):=
 ACall.bldString ho (fun b p v w h hc=>bldString (ρ:=Tryz.ren155) { Tryz.lays155 with } AA3 (T:=109) b p v bs w h hc)
end Go.SX.Nb
namespace Go.SX.Nb
open Go Go.SX Go.Proofs
variable [ErrAt]
set_option maxRecDepth 4000
abbrev sx:AV:=.v (.tuple #[])
abbrev F5:Nat:=1099511627776
/-- What node writes. -/
def mq (e:Expr):Prop:=∀(o:Nat) (bs:Str) (Hp:List AObj),Hp[o]? = some (Qm bs)→bs.length+(Ag e).length≤F5→ACall Tryz.prog 71 [.ptr o 0,A4 e] Hp (fun r H'=>r=sx∧H'=Hp.set o (Qm (bs++Ag e)))
theorem ge (e:Expr):Ag e=M0 e.op e.text e.val e.kids (e.kids.map Ag):=by
 cases e with
 | mk o t v k=>rw [Ag,L7];rfl
theorem rl {k:List Expr} {i:Nat} (h:i<k.length):(k.map Ag).getD i []=Ag (k.getD i Ab):=by
 rw [List.getD_eq_getElem?_getD,List.getD_eq_getElem?_getD,List.getElem?_map,List.getElem?_eq_getElem h]
 rfl
theorem Sm (l:List Str) (s:Str):F4 (l++[s])=F4 l++(44::32::s):=by
 induction l with
 | nil=>simp [F4]
 | cons a r ih=>simp [F4,ih]
theorem mr {k:List Expr} {x:Nat} (h:x<k.length):(F4 ((k.take (x+1)).map Ag)).drop 2=(F4 ((k.take x).map Ag)).drop 2++(if 0<x then [44,32] else [])++Ag k[x]:=by
 rw [List.take_succ_eq_append_getElem h,List.map_append,List.map_singleton,Sm]
 cases x with
 | zero=>simp [F4]
 | succ x =>
  have:2≤(F4 ((k.take (x+1)).map Ag)).length:=by
   rw [List.take_succ_eq_append_getElem (by omega),List.map_append,List.map_singleton,Sm]
   simp
   omega
  rw [List.drop_append_of_le_length this,if_pos (by omega)]
  simp
theorem vw {k:List Expr} (x:Nat):(F4 ((k.take x).map Ag)).length≤(F4 (k.map Ag)).length:=by
 have:k.map Ag=(k.take x).map Ag++(k.drop x).map Ag:=by rw [←List.map_append,List.take_append_drop]
 rw [this]
 have:∀a b:List Str,(F4 a).length≤(F4 (a++b)).length:=by
  intro a b
  induction a with
  | nil=>simp [F4]
  | cons c r ih=>simp [F4];exact ih
 exact this _ _
theorem Wx {H:List AObj} {o:Nat} {a b:AObj}:(H.set o a).set o b=H.set o b:=List.set_set _
theorem gg (e:Expr) (he:mq e) (hlev:Zt e=(levE e:Int)) (least:Nat) (l0:Int) (hl0:l0=(least:Int)) (o:Nat) (bs:Str) (Hp:List AObj) (ho:Hp[o]? = some (Qm bs)) (hb:bs.length+(Iv least e (Ag e)).length≤F5):ACall Tryz.prog 104 [.ptr o 0,A4 e,A2 l0] Hp (fun r H'=>r=sx∧H'=Hp.set o (Qm (bs++Iv least e (Ag e)))):=by
 subst hl0
 refine ACall.body [] [0,1,2] Tryz.func104 Tryz.ntmps104 (fun d=>?_)
 refine Z2 ?_;refine R.fin [0,2,4] ?_;refine Z31 ?_;refine R.call Tryz.call101 (AA2 e _) ?_;refine Z0 ?_;refine R.fin [0,4,9] ?_
 refine W.cond (fun ht9=>?_) (fun ht9=>?_)
 ·have hz:least≤levE e:=by
   have h:=ht9
   rw [hlev] at h
   simpa using h
  rw [show Iv least e (Ag e)=Ag e from if_pos hz] at hb ⊢
  refine Z1 ?_;refine R.callUp Tryz.call71 ho (by simp) C2 (he o bs _ (A5 ho) (by omega)) ?_;refine jo ?_;exact K.fin .nores ⟨rfl,by simp⟩
 have hz:¬least≤levE e:=by
  have h:=ht9
  rw [hlev] at h
  simpa using h
 rw [show Iv least e (Ag e)=40::(Ag e++[41]) from if_neg hz] at hb ⊢
 simp only [List.length_cons,List.length_append,List.length_nil,F5] at hb
 refine Z70 ?_
 refine R.callUp Tryz.call102 ho (by simp) C2 (Qn bs [40] (by simp only [F5,List.length_append,List.length_cons,List.length_nil] at *;omega) o _ (A5 ho)) ?_
 refine R.fin [0,4] ?_;refine Z1 ?_
 refine R.callUp Tryz.call71 (getset ho) (by simp) C2 (he o (bs++[40]) _ (A5 (getset ho)) (by simp only [F5,List.length_append,List.length_cons,List.length_nil] at *;omega)) ?_
 refine R.fin [0] ?_;refine Z29 ?_
 refine R.callUp Tryz.call102 (getset (getset ho)) (by simp) C2 (Qn (bs++[40]++Ag e) [41] (by simp only [F5,List.length_append,List.length_cons,List.length_nil] at *;omega) o _ (A5 (getset (getset ho)))) ?_
 refine R.fin [] ?_;exact K.finN .nores ⟨rfl,by simp⟩

theorem c71:∀(n:Nat) (e:Expr),okE n e→Cs C8 e=true→Cs Gg e=true→mq e:=by
 intro n
 induction n with
 | zero=>exact fun e h=>h.elim
 | succ n ih =>
 intro e hok hnd hrg o bs Hp ho hb
 have hnd0:=hnd
 have hrg0:=hrg
 rw [Ef,Bool.and_eq_true] at hnd0 hrg0
 have hev:∀y∈e.kids,mq y:=fun y hy=>ih y (hok.2.2 y hy) ((Co _ _).1 hnd0.2 y hy) ((Co _ _).1 hrg0.2 y hy)
 have hlv:∀y∈e.kids,Zt y=(levE y:Int):=fun y hy=>bx (by have:=(Co _ _).1 hnd0.2 y hy;rw [Ef,Bool.and_eq_true] at this;exact this.1)
 obtain ⟨k5,k34,k6,kall⟩:=mo hnd0.1
 have hi64:pj e.val.n:=by
  have:=hrg0.1
  simp only [Gg,Bool.and_eq_true,decide_eq_true_eq] at this
  exact this
 have hlv0:=bx hnd0.1
 have pe:=ge e
 have hol:=(List.getElem?_eq_some_iff.1 ho).1
 unfold M0 at pe
 refine ACall.body [] [0,1] Tryz.func71 Tryz.ntmps71 (fun d=>?_)
 refine Z2 ?_;refine It ?_;refine Z2 ?_;refine R.call Tryz.call101 (AA2 e _) ?_;refine R.go ?_;refine To ?_;refine Z1 ?_;refine R.fin [0,3,4,11] ?_;refine Lo ?_;refine R.fin [0,3,4,11,12] ?_
 refine W.cond (fun ht12=>?_) (fun ht12=>?_)
 ·rw [if_pos ht12] at pe
  refine W.drawQ0 [0,1,3,0,8,24,63] 6 Ad (by kernel_rfl) ?_;refine Y0 ?_;refine D.call Tryz.call103 (zd e.val hi64 _) ?_;refine D.tail ?_
  refine R.callUp Tryz.call102 ho (by simp) C2 (Qn bs (E8 e.val) (by rw [pe] at hb;simp only [F5] at hb;omega) o _ (A5 ho)) ?_
  exact Z73
 rw [if_neg (by rw [ht12];simp)] at pe
 refine Z1 ?_;refine R.fin [0,3,4,11,21] ?_
 refine W.cond (fun ht21=>?_) (fun ht21=>?_)
 ·rw [if_pos ht21] at pe
  refine W.drawQ0 [0,1,3,0,8,31] 5 Ad (by kernel_rfl) ?_;refine Y0 ?_;refine D.tail ?_
  refine R.callUp Tryz.call102 ho (by simp) C2 (Qn bs e.text (by rw [pe] at hb;simp only [F5] at hb;omega) o _ (A5 ho)) ?_
  exact Z73
 rw [if_neg (by rw [ht21];simp)] at pe
 refine Z1 ?_;refine R.fin [0,3,4,11,29] ?_
 refine W.cond (fun ht29=>?_) (fun ht29=>?_)
 ·rw [if_pos ht29] at pe
  have hkl:=k34 (.inl (by simpa using ht29))
  rw [rl (by omega)] at pe
  rw [pe] at hb
  simp only [List.length_cons,F5] at hb
  refine Z17 ?_
  refine R.callUp Tryz.call102 ho (by simp) C2 (Qn bs [45] (by simp only [F5,List.length_append,List.length_cons,List.length_nil] at *;omega) o _ (A5 ho)) ?_
  refine It ?_;refine Z29 ?_
  refine R.go (h:=Q.indexAddr (0) (A4 (e.kids.getD 0 Ab)) (fun _=>(Iw (by omega)).1)) (hr:=?_)
  refine R.go ?_
  refine R.callUp Tryz.call104 (getset ho) (by simp) C2 (gg (e.kids.getD 0 Ab) (hev _ (Iw (by omega)).2.1) (hlv _ (Iw (by omega)).2.1) (6) _ (rfl) o (bs++[45]) _ (A5 (getset ho)) (by simp only [F5,List.length_append,List.length_cons,List.length_nil] at *;omega)) ?_
  exact Z73
 rw [if_neg (by rw [ht29];simp)] at pe
 refine Z1 ?_;refine R.fin [0,3,4,11,41] ?_
 refine W.cond (fun ht41=>?_) (fun ht41=>?_)
 ·rw [if_pos ht41] at pe
  have hkl:=k34 (.inr (by simpa using ht41))
  rw [rl (by omega)] at pe
  rw [pe] at hb
  simp only [List.length_cons,List.length_append,fq,List.length_nil,F5] at hb
  refine Z17 ?_
  refine R.callUp Tryz.call102 ho (by simp) C2 (Qn bs [110,111,116,32] (by simp only [F5,List.length_append,List.length_cons,List.length_nil] at *;omega) o _ (A5 ho)) ?_
  refine It ?_;refine Z29 ?_
  refine R.go (h:=Q.indexAddr (0) (A4 (e.kids.getD 0 Ab)) (fun _=>(Iw (by omega)).1)) (hr:=?_)
  refine R.go ?_
  refine R.callUp Tryz.call104 (getset ho) (by simp) C2 (gg (e.kids.getD 0 Ab) (hev _ (Iw (by omega)).2.1) (hlv _ (Iw (by omega)).2.1) (2) _ (rfl) o (bs++[110,111,116,32]) _ (A5 (getset ho)) (by simp only [F5,List.length_append,List.length_cons,List.length_nil] at *;omega)) ?_
  exact Z73
 rw [if_neg (by rw [ht41];simp)] at pe
 refine Z1 ?_;refine R.fin [0,3,4,11,53] ?_
 refine W.cond (fun ht53=>?_) (fun ht53=>?_)
 ·rw [if_pos ht53] at pe
  have h5:e.op=5:=by simpa using ht53
  have hkl:=k5 h5
  have hlv5:levE e=(An e.text).toNat:=by simp [levE,h5]
  have hl5:=lx e.text
  rw [rl (by omega),rl (by omega)] at pe
  rw [pe] at hb
  simp only [List.length_cons,List.length_append,F5] at hb
  rw [hlv0,hlv5]
  refine Z1 ?_;refine R.fin [0,3,4,5] ?_;refine Z8 ?_;refine R.fin [0,3,4,5,57] ?_
  refine W.cond (fun ht57=>?_) (fun ht57=>?_)
  ·have h3:(An e.text).toNat=3:=by have:=ht57;simp at this;omega
   have hf1:(((An e.text).toNat:Int)+1)=((Fc (An e.text).toNat:Nat):Int):=by rw [h3];rfl
   refine Z29 ?_;refine R.fin [0,3,4,5] ?_;refine K.thN ?_;refine Z17 ?_
   refine R.go (h:=Q.indexAddr (0) (A4 (e.kids.getD 0 Ab)) (fun _=>(Iw (by omega)).1)) (hr:=?_)
   refine Z0 ?_
   refine R.callUp Tryz.call104 ho (by simp) C2 (gg (e.kids.getD 0 Ab) (hev _ (Iw (by omega)).2.1) (hlv _ (Iw (by omega)).2.1) (Fc (An e.text).toNat) _ (by first|exact hf1|rw [hf2]) o (bs) _ (A5 ho) (by simp only [F5,List.length_append,List.length_cons,List.length_nil] at *;omega)) ?_
   refine xz ?_;refine Y0 ?_
   refine D.go (h:=Q.sadd (hl:=fun _=>by simp only [List.length_cons,List.length_nil];omega)) (hr:=?_)
   refine D.go (h:=Q.sadd (hl:=fun _=>by simp only [List.length_cons,List.length_nil,List.length_append];omega)) (hr:=?_)
   refine D.tail ?_
   refine R.callUp Tryz.call102 (getset ho) (by simp) C2 (Qn (bs++Iv (Fc (An e.text).toNat) (e.kids.getD 0 Ab) (Ag (e.kids.getD 0 Ab))) (32::(e.text++[32])) (by simp only [F5,List.length_append,List.length_cons,List.length_nil] at *;omega) o _ (A5 (getset ho))) ?_
   refine To ?_;refine Z29 ?_
   refine R.go (h:=Q.indexAddr (1) (A4 (e.kids.getD 1 Ab)) (fun _=>(Iw (by omega)).1)) (hr:=?_)
   refine Z23 ?_
   refine R.callUp Tryz.call104 (getset (getset ho)) (by simp) C2 (gg (e.kids.getD 1 Ab) (hev _ (Iw (by omega)).2.1) (hlv _ (Iw (by omega)).2.1) ((An e.text).toNat+1) _ (by first|rfl|(push_cast;rfl)) o (bs++Iv (Fc (An e.text).toNat) (e.kids.getD 0 Ab) (Ag (e.kids.getD 0 Ab))++32::(e.text++[32])) _ (A5 (getset (getset ho))) (by simp only [F5,List.length_append,List.length_cons,List.length_nil] at *;omega)) ?_
   exact Z73
  have h3:(An e.text).toNat≠3:=by have:=ht57;simp at this;omega
  have hf2:Fc (An e.text).toNat=(An e.text).toNat:=by unfold Fc;rw [if_neg h3]
  refine Z70 ?_
  refine R.go (h:=Q.indexAddr (0) (A4 (e.kids.getD 0 Ab)) (fun _=>(Iw (by omega)).1)) (hr:=?_)
  refine Z0 ?_
  refine R.callUp Tryz.call104 ho (by simp) C2 (gg (e.kids.getD 0 Ab) (hev _ (Iw (by omega)).2.1) (hlv _ (Iw (by omega)).2.1) (Fc (An e.text).toNat) _ (by first|exact hf1|rw [hf2]) o (bs) _ (A5 ho) (by simp only [F5,List.length_append,List.length_cons,List.length_nil] at *;omega)) ?_
  refine xz ?_;refine Y0 ?_
  refine D.go (h:=Q.sadd (hl:=fun _=>by simp only [List.length_cons,List.length_nil];omega)) (hr:=?_)
  refine D.go (h:=Q.sadd (hl:=fun _=>by simp only [List.length_cons,List.length_nil,List.length_append];omega)) (hr:=?_)
  refine D.tail ?_
  refine R.callUp Tryz.call102 (getset ho) (by simp) C2 (Qn (bs++Iv (Fc (An e.text).toNat) (e.kids.getD 0 Ab) (Ag (e.kids.getD 0 Ab))) (32::(e.text++[32])) (by simp only [F5,List.length_append,List.length_cons,List.length_nil] at *;omega) o _ (A5 (getset ho))) ?_
  refine To ?_;refine Z29 ?_
  refine R.go (h:=Q.indexAddr (1) (A4 (e.kids.getD 1 Ab)) (fun _=>(Iw (by omega)).1)) (hr:=?_)
  refine Z23 ?_
  refine R.callUp Tryz.call104 (getset (getset ho)) (by simp) C2 (gg (e.kids.getD 1 Ab) (hev _ (Iw (by omega)).2.1) (hlv _ (Iw (by omega)).2.1) ((An e.text).toNat+1) _ (by first|rfl|(push_cast;rfl)) o (bs++Iv (Fc (An e.text).toNat) (e.kids.getD 0 Ab) (Ag (e.kids.getD 0 Ab))++32::(e.text++[32])) _ (A5 (getset (getset ho))) (by simp only [F5,List.length_append,List.length_cons,List.length_nil] at *;omega)) ?_
  exact Z73
 rw [if_neg (by rw [ht53];simp)] at pe
 refine Z1 ?_;refine R.fin [0,3,83] ?_
 refine W.cond (fun ht83=>?_) (fun ht83=>?_)
 ·have hsl:∀x,((F4 ((e.kids.take x).map Ag)).drop 2).length≤((F4 (e.kids.map Ag)).drop 2).length:=fun x=>by have:=vw (k:=e.kids) x;rw [List.length_drop,List.length_drop];omega
  have hkl6:=hok.2.1
  rw [pe] at hb
  simp only [List.length_cons,List.length_append,List.length_nil,F5] at hb
  refine W.drawQ [0,1,3,0,8,24,63] 6 Ad (by kernel_rfl) ?_;refine Y0 ?_
  refine D.go (h:=Q.sadd (hl:=fun _=>by simp only [List.length_cons,List.length_nil];omega)) (hr:=?_)
  refine D.tail ?_
  refine R.callUp Tryz.call102 ho (by simp) C2 (Qn bs (e.text++[40]) (by simp only [F5,List.length_append,List.length_cons,List.length_nil] at *;omega) o _ (A5 ho)) ?_
  refine It ?_;refine Z57 ?_;refine R.fin [0,93,94,95] ?_
  refine AW.loopC (α:=Nat) (fun x=>⟨114,A3 0 (.ptr o 0) (A3 93 (.slice false 6 (e.kids.map A4)) (A3 94 (A2 (e.kids.length:Nat)) (A3 95 (A2 (x:Nat)) (fun _=>.any)))),Hp.set o (Qm (bs++(e.text++[40])++(F4 ((e.kids.take x).map Ag)).drop 2)),[],[],none⟩) (fun x=>x≤e.kids.length) (fun x=>e.kids.length-x) (0) (Nat.zero_le _) (StLe.of_eq (by simp [F4])) rfl (fun x hx=>?_)
  refine Z2 ?_;refine R.fin [0,93,94,95,96] ?_
  refine W.condX (fun ht96=>?_) (fun ht96=>?_)
  ·have hlt:x<e.kids.length:=by simpa using ht96
   have hst:=mr hlt
   have hsl1:=hsl (x+1)
   have hslx:=hsl x
   refine O7 ?_
   refine R.go (h:=Q.indexAddr (x) (A4 e.kids[x]) (fun _=>Ae hlt)) (hr:=?_)
   refine dt ?_;refine R.fin [0,6,7,93,94,95] ?_;refine Z8 ?_;refine R.fin [0,7,93,94,95,101] ?_
   refine W.cond (fun ht101=>?_) (fun ht101=>?_)
   ·have h0x:0<x:=by simpa using ht101
    rw [if_pos h0x] at hst
    have hstl:=congrArg List.length hst
    simp only [List.length_append,List.length_cons,List.length_nil] at hstl
    refine Z29 ?_
    refine R.callUp Tryz.call102 (getset ho) (by simp) C2 (Qn (bs++(e.text++[40])++(F4 ((e.kids.take x).map Ag)).drop 2) [44,32] (by simp only [F5,List.length_append,List.length_cons,List.length_nil] at *;omega) o _ (A5 (getset ho))) ?_
    refine R.fin [0,7,93,94,95] ?_;refine K.thN ?_;refine Z11 ?_
    first|refine R.callUp Tryz.call71 (getset ho) (by simp) C2 (hev _ (List.getElem_mem hlt) o (bs++(e.text++[40])++(F4 ((e.kids.take x).map Ag)).drop 2) _ (A5 (getset ho)) (by simp only [F5,List.length_append,List.length_cons,List.length_nil] at *;omega)) ?_|refine R.callUp Tryz.call71 (getset (getset ho)) (by simp) C2 (hev _ (List.getElem_mem hlt) o (bs++(e.text++[40])++(F4 ((e.kids.take x).map Ag)).drop 2++[44,32]) _ (A5 (getset (getset ho))) (by simp only [F5,List.length_append,List.length_cons,List.length_nil] at *;omega)) ?_
    refine R.fin [0,93,94,95] ?_;refine O6 ?_;refine R.fin [0,93,94,95] ?_;refine jv ?_
    simp only [hst,Wx,List.append_assoc,List.append_nil]
    exact StCut.take (own:=[]) (fun _=>.refl _) (by repeat (first|exact Ar|refine Aq (by first|exact Cc|exact Ua|(simp [or_imp,forall_and,oid]<;>omega)) ?_)) (by simp) (by simp)
   have h0x:¬0<x:=by simpa using ht101
   rw [if_neg h0x] at hst
   have hstl:=congrArg List.length hst
   simp only [List.length_append,List.length_cons,List.length_nil] at hstl
   refine Z5 ?_;refine Z11 ?_
   first|refine R.callUp Tryz.call71 (getset ho) (by simp) C2 (hev _ (List.getElem_mem hlt) o (bs++(e.text++[40])++(F4 ((e.kids.take x).map Ag)).drop 2) _ (A5 (getset ho)) (by simp only [F5,List.length_append,List.length_cons,List.length_nil] at *;omega)) ?_|refine R.callUp Tryz.call71 (getset (getset ho)) (by simp) C2 (hev _ (List.getElem_mem hlt) o (bs++(e.text++[40])++(F4 ((e.kids.take x).map Ag)).drop 2++[44,32]) _ (A5 (getset (getset ho))) (by simp only [F5,List.length_append,List.length_cons,List.length_nil] at *;omega)) ?_
   refine R.fin [0,93,94,95] ?_;refine O6 ?_;refine R.fin [0,93,94,95] ?_;refine jv ?_
   simp only [hst,Wx,List.append_assoc,List.append_nil]
   exact StCut.take (own:=[]) (fun _=>.refl _) (by repeat (first|exact Ar|refine Aq (by first|exact Cc|exact Ua|(simp [or_imp,forall_and,oid]<;>omega)) ?_)) (by simp) (by simp)
  have hxe:e.kids.take x=e.kids:=List.take_of_length_le (by simp at ht96;omega)
  have hslx:=hsl x
  refine Z26 ?_;refine Z29 ?_
  refine R.callUp Tryz.call102 (getset ho) (by simp) C2 (Qn (bs++(e.text++[40])++(F4 ((e.kids.take x).map Ag)).drop 2) [41] (by simp only [F5,List.length_append,List.length_cons,List.length_nil] at *;omega) o _ (A5 (getset ho))) ?_
  refine Z65 ?_;exact K.finN .nores ⟨rfl,by rw [pe,hxe]<;>simp⟩
 exfalso
 have h6:=kall
 simp at ht12 ht21 ht29 ht41 ht53 ht83
 omega

set_option maxRecDepth 8000
/-! How long a print is. -/
theorem Zu {v:Val} (hp:Dk v=true) (hi:pj v.n):(E8 v).length≤402:=by
 unfold E8
 rw [hp]
 simp only [Bool.not_true,Bool.false_eq_true,if_false]
 split
 ·have:=Lib.itoa_length_le v.n hi.1 hi.2
  omega
 split
 ·rename_i h1 h2
  rw [Nn]
  have h3:=W3 v.s
  have h4:v.s.length≤200:=by
   have k2:v.kind=2:=by simpa using h2
   simp [Dk,k2] at hp
   omega
  simp
  omega
 split
 ·simp
 split<;>simp
theorem Oh (k:Nat) (x:Expr) (s:Str):(Iv k x s).length≤s.length+2:=by
 unfold Iv
 split<;>simp
theorem Wy {t:Str} (h:0≤An t):t.length≤3:=by
 rcases Jp t with hm|⟨hm,_⟩
 ·have h3:(levels.flatten.all fun s=>decide (s.length≤3))=true:=by kernel_rfl
  exact of_decide_eq_true (List.all_eq_true.1 h3 t hm)
 omega
theorem Qo {t:Str} {n:Nat} (h:B2 t=(n:Int)):t.length≤6:=by
 rcases Ql h with ⟨e,_⟩|⟨e,_⟩|⟨e,_⟩|⟨e,_⟩|⟨e,_⟩|⟨e,_⟩|⟨e,_⟩|⟨e,_⟩<;>rw [e]<;>decide
theorem mt {k:List Expr} (h:∀y∈k,(Ag y).length+10≤440*sizeE y):(F4 (k.map Ag)).length≤440*B1 k:=by
 induction k with
 | nil=>simp [F4]
 | cons y r ih =>
  have h1:=h y List.mem_cons_self
  have h2:=ih (fun z hz=>h z (List.mem_cons_of_mem _ hz))
  simp only [List.map_cons,F4,B1,List.length_cons,List.length_append]
  omega
theorem Sn:∀(n:Nat) (e:Expr),sizeE e≤n→Cs C8 e=true→Cs Gg e=true→(Ag e).length+10≤440*sizeE e
 | 0,e,h,_,_=>by rw [H6] at h;omega
 | n+1,e,h,hn,hr=>by
  rw [Ef,Bool.and_eq_true] at hn hr
  have hk:∀y∈e.kids,(Ag y).length+10≤440*sizeE y:=fun y hy=>by
   obtain ⟨i,hi⟩:=List.getElem?_of_mem hy
   obtain ⟨hlt,rfl⟩:=List.getElem?_eq_some_iff.1 hi
   exact Sn n _ (by have:=Vn e hlt;omega) ((Co _ _).1 hn.2 _ hy) ((Co _ _).1 hr.2 _ hy)
  have hi:pj e.val.n:=by
   have:=hr.1
   simp only [Gg,Bool.and_eq_true,decide_eq_true_eq] at this
   exact this
  rw [H6]
  cases L5 hn.1 with
  | val v hp h0 =>
   rw [vr]
   have:=Zu hp (v:=v) hi
   simp only [Iu,Expr.kids,B1]
   omega
  | name t ht =>
   rw [ri]
   have:t.length≤16:=by
    cases t with
    | nil=>simp
    | cons c r =>
     simp only [H4,Bool.and_eq_true,decide_eq_true_eq] at ht
     exact ht.1.1.1
   simp only [Bd,Expr.kids,B1]
   omega
  | neg a =>
   rw [vt]
   have h1:=Oh 6 a (Ag a)
   have h2:=hk a (by simp [F3,Expr.kids])
   simp only [F3,Expr.kids,B1,List.length_cons]
   omega
  | no a =>
   rw [AA1]
   have h1:=Oh 2 a (Ag a)
   have h2:=hk a (by simp [F3,Expr.kids])
   simp only [F3,Expr.kids,B1,List.length_cons,List.length_append,fq,List.length_nil]
   omega
  | bin t a b ht =>
   rw [vu]
   have h1:=Oh (Fc (An t).toNat) a (Ag a)
   have h2:=Oh ((An t).toNat+1) b (Ag b)
   have h3:=hk a (by simp [H8,Expr.kids])
   have h4:=hk b (by simp [H8,Expr.kids])
   have h5:=Wy ht
   simp only [H8,Expr.kids,B1,List.length_cons,List.length_append]
   omega
  | call t k ha =>
   rw [rj]
   have h1:=Qo ha
   have h2:=mt (k:=k) hk
   rw [←L7] at h2
   simp only [Expr.kids,List.length_cons,List.length_append,List.length_drop,List.length_nil]
   omega
theorem Wz {e:Expr} (hr:B7 e=true) (hg:Cs Gg e=true):(Ag e).length≤132000:=by
 have h1:=Ii hr
 have h2:sizeE e≤300:=by
  unfold B7 at hr
  simp only [Bool.and_eq_true,decide_eq_true_eq] at hr
  exact hr.1.2
 have:=Sn _ e (Nat.le_refl _) h1 hg
 omega
set_option maxRecDepth 4000
abbrev xo (own:Bool) (t:Str) (ks:List Expr):AObj:=.cells 45 [A2 6,A6 t,A2 0,A2 0,A6 [],.slice own 6 (ks.map A4)]
theorem vz {n:Nat} {own:Bool} {t:Str} {ks:List Expr}:ObjLow n (xo own t ks):=by
 show ∀z∈[A2 6,A6 t,A2 0,A2 0,A6 [],AV.slice own 6 (ks.map A4)],Low n z
 intro z hz
 simp only [List.mem_cons,List.not_mem_nil,or_false] at hz
 rcases hz with rfl|rfl|rfl|rfl|rfl|rfl
 all_goals first|exact Cc|simp
theorem rm:Cg (.agg #[.int .i64 0,.string ⟨#[]⟩,.int .i64 0,.int .i64 0,.string ⟨#[]⟩,.slice none 0 0])=.agg [A2 0,A6 [],A2 0,A2 0,A6 [],.nil]:=rfl
attribute [go_sem] rm
theorem gA {Hp:List AObj} {o ox:Nat} {z A B:AObj} (ho:Hp[o]? = some z) (hne:ox≠o):((Hp.set o A).set ox B)[o]? = some A:=by rw [List.getElem?_set_ne hne];exact getset ho
theorem gB {Hp:List AObj} {o ox:Nat} {z A B:AObj} (hox:Hp[ox]? = some z):((Hp.set o A).set ox B)[ox]? = some B:=by
 have:=(List.getElem?_eq_some_iff.1 hox).1
 simp [this]
theorem mu {Hp:List AObj} {o ox:Nat} {A A' B:AObj} (hne:ox≠o):((Hp.set o A).set ox B).set o A'=(Hp.set o A').set ox B:=by rw [List.set_comm _ _ hne,List.set_set]
theorem L9 (ks:List Expr) (x:Expr):ks.map A4++[.agg [.v (.int .i64 x.op),.v (sv x.text),.v (.int .i64 x.val.kind),.v (.int .i64 x.val.n),.v (sv x.val.s),.slice false 6 (x.kids.map A4)]]=(ks++[x]).map A4:=by rw [List.map_append,List.map_cons,List.map_nil,A8 x]
theorem AC8 (l:List Tok) (S:PS) (t:Str) (Dv:Fam) (o ox:Nat) (Hp:List AObj) (hne:ox≠o) (ho:Hp[o]? = some (pr l S)) (hox:Hp[ox]? = some (xo true t [])) (hi:S.i<l.length) (hl:TokEnd l) (hll:l.length≤1048576) (hf:Cu l S.nest Dv.ei) (hcf:PC 219 l Dv.ei S.nest):ACall Tryz.prog 269 [.ptr ox 0,.ro [.ptr o 0]] Hp (fun r H'=>r=A4 (.mk 6 t noV (Fl l Dv.ei S).1)∧H'=(Hp.set o (pr l (Fl l Dv.ei S).2)).set ox (xo true t (Fl l Dv.ei S).1)):=by
 have hoxl:=(List.getElem?_eq_some_iff.1 hox).1
 have hol:=(List.getElem?_eq_some_iff.1 ho).1
 refine ACall.body [.cell 2 45] [0,1] Tryz.func269 Tryz.ntmps269 (fun d=>?_)
 refine Z32 ?_;refine Tp ?_
 refine W.drawT [0,1,0,4,3,0,63,127,255,127,639] [1,3] [.q 1 [] [0],.s [4] (some 0) [] [],.q 1 [] [1],.s [6] (some 1) [] [],.q 2 [] []] (fun B=>(Hp.set o (if B 1=true then pr l (Dv.ei S).2 else pr l S)).set ox (if B 0=true then xo false t [] else xo true t [])) (fun _=>[Ht]) Ad (by kernel_rfl) (by simp only [Bool.false_eq_true,if_false];rw [Ek ho,Ek hox]) rfl (fun B=>by simp) ?_
 apply Y.q
 case h1 =>
  intro B hT hF
  exact Z91
 case hTF=>decide
 refine Y.loadUpT (o:=ox) (t':=45) (cs:=[A2 6,A6 t,A2 0,A2 0,A6 [],.slice true 6 ([].map A4)]) (cs':=[A2 6,A6 t,A2 0,A2 0,A6 [],.slice false 6 ([].map A4)]) Tryz.isAgg43 (fun B hB=>⟨by simp only [hB];exact gB hox,by simp [upd,List.set_set]<;>rfl,rfl⟩) ?_
 apply Y.q
 case h1 =>
  intro B hT hF
  exact Z91
 case hTF=>decide
 refine Y.callUp (r:=A4 (Dv.ei S).1) (o:=o) (x0:=pr l S) (x:=pr l (Dv.ei S).2) Tryz.call219 (fun B hT hF hB=>⟨by simp only [hB];exact gA ho hne,?_,rfl,Bp,?_⟩) ?_
 ·simp only [upd,hB,Nat.reduceEqDiff,if_false,if_true,Bool.false_eq_true]
  exact (mu hne).symm
 ·simp only [hB]
  exact hcf o _ S (A5 (gA ho hne)) hi rfl
 apply Y.q
 case h1 =>
  intro B hT hF
  exact jg
 case hTF=>decide
 refine Y.appendPut (tn:=[1,3]) (U:=(Hp.set o (pr l (Dv.ei S).2)).set ox (xo false t [])) (O:=[Ht]) (o:=ox) (t':=45) (cs:=[A2 6,A6 t,A2 0,A2 0,A6 [],.slice false 6 ([].map A4)]) (by kernel_rfl) jU Tryz.type45 Tryz.sizeOf45 Tryz.sizeOf43 jU (A5 (gB hox)) ?_ ?_ ?_ (hfsz:=Tryz.sizeOf43)
 ·simp [Tryz.t45]
 ·simp [Tryz.t45]
 refine R.go ?_
 refine R.storeUpT jS (gB hox) ?_ ?_
 ·first|(rw [L9];exact Cc)|(have:=Cc (n:=((Hp.set o (pr l (Dv.ei S).2)).set ox (xo false t [])).length) (k:=6) (o:=true) (l:=[(Dv.ei S).1]);simp only [List.map_cons,List.map_nil,A8] at this;exact this)
 refine Tp ?_;refine W.seq ?_
 refine AW.loopC (α:=List Expr×PS) (fun r=>⟨34,A3 0 (.ptr ox 0) (A3 1 (.ro [.ptr o 0]) (A3 2 (.ptr (oid Hp.length 0) 0) (fun _=>.any))),(Hp.set o (pr l r.2)).set ox (xo true t r.1),[Ht],[],none⟩) (fun r=>ArgsAt l Dv.ei S r) (fun r=>l.length-r.2.i) (([(Dv.ei S).1],(Dv.ei S).2)) (.start (hf S hi rfl)) (StLe.of_eq (by simp [List.set_set,xo,A8])) rfl (fun r hx=>?_)
 refine Z57 ?_
 refine R.go (h:=Q.loadUp (gA ho hne)) (hr:=?_)
 refine Jc ?_;refine G.call Tryz.call249 (fun hB=>Wd l r.2 Pz o _ (A5 (gA ho hne)) hx.fact.lt hl (by decide)) ?_;refine R.go ?_;refine R.fin [0,1,2,21] ?_
 refine W.cond (fun ht21=>?_) (fun ht21=>?_)
 ·have hon:=hx.on hl ht21 hf
  have hle:=hon.2.1.le
  have hlt0:=hx.fact.lt
  refine Z5 ?_;refine Fq ?_;refine Z2 ?_;refine R.callUp Tryz.call250 (gA ho hne) (by simp) Bp (ll l r.2 o _ (A5 (gA ho hne)) hx.fact.lt hll) ?_;refine Tp ?_
  refine W.drawT0 [0,1,0,4,3,0,63,127,255,127,639] [1,3] [.q 1 [] [0],.s [25] (some 0) [] [],.q 1 [] [1],.s [27] (some 1) [] [],.q 2 [] []] (fun B=>(Hp.set o (if B 1=true then pr l (Dv.ei (Aa r.2)).2 else pr l (Aa r.2))).set ox (if B 0=true then xo false t r.1 else xo true t r.1)) (fun _=>[Ht]) Ad (by kernel_rfl) (by simp only [Bool.false_eq_true,if_false];exact (mu hne).symm) rfl (fun B=>by simp) ?_
  apply Y.q
  case h1 =>
   intro B hT hF
   exact Z91
  case hTF=>decide
  refine Y.loadUpT (o:=ox) (t':=45) (cs:=[A2 6,A6 t,A2 0,A2 0,A6 [],.slice true 6 (r.1.map A4)]) (cs':=[A2 6,A6 t,A2 0,A2 0,A6 [],.slice false 6 (r.1.map A4)]) Tryz.isAgg43 (fun B hB=>⟨by simp only [hB];exact gB hox,by simp [upd,List.set_set]<;>rfl,rfl⟩) ?_
  apply Y.q
  case h1 =>
   intro B hT hF
   exact Z91
  case hTF=>decide
  refine Y.callUp (r:=A4 (Dv.ei (Aa r.2)).1) (o:=o) (x0:=pr l (Aa r.2)) (x:=pr l (Dv.ei (Aa r.2)).2) Tryz.call219 (fun B hT hF hB=>⟨by simp only [hB];exact gA ho hne,?_,rfl,Bp,?_⟩) ?_
  ·simp only [upd,hB,Nat.reduceEqDiff,if_false,if_true,Bool.false_eq_true]
   exact (mu hne).symm
  ·simp only [hB]
   exact hcf o _ (Aa r.2) (A5 (gA ho hne)) hon.1 hx.fact.nest
  apply Y.q
  case h1 =>
   intro B hT hF
   exact jg
  case hTF=>decide
  refine Y.appendPut (tn:=[1,3]) (U:=(Hp.set o (pr l (Dv.ei (Aa r.2)).2)).set ox (xo false t r.1)) (O:=[Ht]) (o:=ox) (t':=45) (cs:=[A2 6,A6 t,A2 0,A2 0,A6 [],.slice false 6 (r.1.map A4)]) (by kernel_rfl) jU Tryz.type45 Tryz.sizeOf45 Tryz.sizeOf43 jU (A5 (gB hox)) ?_ ?_ ?_ (hfsz:=Tryz.sizeOf43)
  ·have:=hx.fact.len;have:=hx.fact.lt;simp only [List.length_map,Tryz.t45];omega
  ·have:=hx.fact.len;have:=hx.fact.lt;simp only [List.length_map,Tryz.t45];omega
  refine R.go ?_
  refine R.storeUpT jS (gB hox) ?_ ?_
  ·first|(rw [L9];exact Cc)|(have:=Cc (n:=((Hp.set o (pr l (Dv.ei S).2)).set ox (xo false t [])).length) (k:=6) (o:=true) (l:=[(Dv.ei S).1]);simp only [List.map_cons,List.map_nil,A8] at this;exact this)
  refine Tp ?_;refine K.blN ?_
  refine K.lpN (r.1++[(Dv.ei (Aa r.2)).1],(Dv.ei (Aa r.2)).2) hon.2.2 (by show l.length-(Dv.ei (Aa r.2)).2.i<l.length-r.2.i;have:r.2.i+1≤(Dv.ei (Aa r.2)).2.i:=hle;omega) (StCut.of_eq ?_)
  simp only [show Tryz.t45.size=6 from rfl,L9,List.set_set]
 have hout:=hx.out (by rw [ht21];simp)
 refine Z47 ?_;refine D3 ?_
 refine R.go (h:=Q.loadUpN (gB hox)) (hr:=?_)
 refine Z13 ?_;exact K.fin (V.one (V.cellN jA jS)) ⟨by rw [hout,Qg];rfl,by rw [hout]⟩ (hlow:=by have:=Ac Hp.length (.mk 6 t noV r.1);rw [Qg] at this;simpa using this)

/-- within, with the function that gathers a call's kids. -/
theorem AA4 (l:List Tok) (S:PS) (a:Int) (t:Str) (Dv:Fam) (o:Nat) (Hp:List AObj) (A0 A1:AObj) (l0:ObjLow 0 A0) (ho:Hp[o]? = some (pr l S)) (hi:S.i<l.length) (hl:TokEnd l) (hll:l.length≤1048576) (hnl:S.nest≤30) (hd:DeepC l Dv S.nest):
  ACall Tryz.prog 260 [.ptr o 0,A2 a,.fn (.func 269) [] [.ptr (oid Hp.length 2) 0,.ro [.ptr o 0]]] (Hp++[A0,A1,xo true t []]) (fun r H'=>r=A4 (if S.nest=30 then Ab else .mk 6 t noV (Np l a Dv.ei S).1)∧H'=Hp.set o (pr l (Np l a Dv.ei S).2)++[A0,A1,xo true t (Np l a Dv.ei S).1]):=by
 have hlt:=(List.getElem?_eq_some_iff.1 ho).1
 have ho':(Hp++[A0,A1,xo true t []])[o]? = some (pr l S):=A5 ho
 by_cases h30:S.nest=30
 ·refine (qj l S a 269 [] [.ptr (oid Hp.length 2) 0,.ro [.ptr o 0]] Ab (Bu S) o (Hp++[A0,A1,xo true t []]) ((Hp++[A0,A1,xo true t []]).set o (pr l (Bu S))) ho' (by omega) Tryz.call269 (by simp) (getset ho') rfl (fun h=>h) (fun h=>absurd h30 h)).mono fun r H' h=>?_
  have e:Np l a Dv.ei S=([],Cl 18 a S):=if_pos (by rw [h30];rfl)
  rw [e,if_pos h30]
  obtain ⟨h1,h2⟩:=h.1 h30
  exact ⟨h1,by rw [h2,List.set_append_left _ _ hlt]⟩
 have hq:=Q3 (S:=Bu S) hl hi (hd.ei h30).1
 refine (qj l S a 269 [] [.ptr (oid Hp.length 2) 0,.ro [.ptr o 0]] (.mk 6 t noV (Fl l Dv.ei (Bu S)).1) (Fl l Dv.ei (Bu S)).2 o (Hp++[A0,A1,xo true t []]) (Hp.set o (pr l (Fl l Dv.ei (Bu S)).2)++[A0,A1,xo true t (Fl l Dv.ei (Bu S)).1]) ho' (by omega) Tryz.call269 (by simp) (A5 (getset ho)) hq.nest (fun h y hy=>?_) (fun _ own=>?_)).mono fun r H' h=>?_
 ·rw [List.set_append_left _ _ hlt] at h
  rcases List.mem_append.1 hy with hy|hy
  ·rcases List.mem_or_eq_of_mem_set hy with h1|h1
   ·obtain ⟨i,hi',rfl⟩:=List.getElem_of_mem h1
    by_cases hio:i=o
    ·subst hio
     have:Hp[i]=pr l S:=by rw [List.getElem?_eq_getElem hi'] at ho;injection ho
     rw [this];exact Bp
    refine h _ (List.mem_append_left _ ?_)
    rw [List.mem_iff_getElem?]
    exact ⟨i,by rw [List.getElem?_set_ne (Ne.symm hio),List.getElem?_eq_getElem hi']⟩
   rw [h1];exact Bp
  simp only [List.mem_cons,List.not_mem_nil,or_false] at hy
  rcases hy with rfl|rfl|rfl
  ·exact h _ (List.mem_append_right _ (by simp))
  ·exact h _ (List.mem_append_right _ (by simp))
  exact vz
 ·have hoid:oid Hp.length 2≠o:=by unfold oid;omega
  have e1:(Hp++[A0,A1,xo true t []]).set o (pr l (Bu S))++own=(Hp.set o (pr l (Bu S))++[A0,A1,xo true t []])++own:=by rw [List.set_append_left _ _ hlt]
  rw [e1]
  have g1:((Hp.set o (pr l (Bu S))++[A0,A1,xo true t []])++own)[o]? = some (pr l (Bu S)):=A5 (A5 (getset ho))
  have g2:((Hp.set o (pr l (Bu S))++[A0,A1,xo true t []])++own)[oid Hp.length 2]? = some (xo true t []):=A5 (by
   have:=Ao (U:=Hp.set o (pr l (Bu S))) (O:=[A0,A1,xo true t []]) (n:=2)
   rw [List.length_set] at this
   exact this)
  refine (AC8 l (Bu S) t Dv o (oid Hp.length 2) _ hoid g1 g2 hi hl hll (hd.ei h30).1 (hd.ei h30).2).mono fun r H' h=>⟨h.1,h.2.trans ?_⟩
  rw [List.append_assoc,List.set_append_left _ _ (by simpa using hlt),List.set_set]
  have:=Dj (U:=Hp.set o (pr l (Fl l Dv.ei (Bu S)).2)) (O:=[A0,A1,xo true t []]++own) (n:=2) (x:=xo true t (Fl l Dv.ei (Bu S)).1)
  rw [List.length_set] at this
  rw [this]
  simp
 have e:Np l a Dv.ei S=((Fl l Dv.ei (Bu S)).1,S4 (Fl l Dv.ei (Bu S)).2):=if_neg (by
  show ¬(((S.nest:Int)==30)=true)
  simp
  omega)
 rw [e,if_neg h30]
 obtain ⟨h1,h2⟩:=h.2 h30
 exact ⟨h1,by rw [h2,List.set_append_left _ _ (by simpa using hlt),List.set_set]⟩
theorem AC9 (l:List Tok) (S:PS) (Dv:Fam) (t:Tok) (o:Nat) (Hp:List AObj) (ho:Hp[o]? = some (pr l S)) (hi:(Aa S).i<l.length) (hl:TokEnd l) (hll:l.length≤1048576) (hnl:S.nest≤30) (hd:DeepC l Dv S.nest):ACall Tryz.prog 267 [.ptr o 0,H5 t] Hp (fun r H'=>r=A4 (Fm l Dv t S).1∧H'=Hp.set o (pr l (Fm l Dv t S).2)):=by
 have hi0:S.i<l.length:=by have:S.i+1<l.length:=hi;omega
 have hol:=(List.getElem?_eq_some_iff.1 ho).1
 have hkf:KFact l (Aa S) (C7 l Dv S):=Q4 hl _ hi (fun h=>(hd.ei h).1)
 refine ACall.body [.cell 4 45] [0,1] Tryz.func267 Tryz.ntmps267 (fun d=>?_)
 refine Z1 ?_;refine R.alloc jZ ?_;refine R.fin [2,3,4] ?_;refine Z1 ?_;refine R.call Tryz.call110 (un t.text _) ?_;refine R.go ?_;refine R.fin [2,3,4,5] ?_;refine Z8 ?_;refine R.fin [2,3,4,5,12] ?_
 refine W.cond (fun ht12=>?_) (fun ht12=>?_)
 ·have hlt0:B2 t.text<0:=by simpa using ht12
  have e:Fm l Dv t S=(Ab,Cl 9 t.at_ S):=if_pos hlt0
  refine Z17 ?_;refine R.callUp Tryz.call221 ho (by simp) Bp (fk l S 9 t.at_ o _ (A5 ho)) ?_;refine Fk ?_;refine Z22 ?_;exact Z80
 have hge:¬B2 t.text<0:=by simpa using ht12
 refine Kf ?_;refine R.callUp Tryz.call250 ho (by simp) Bp (ll l S o _ (A5 ho) hi0 hll) ?_;refine Z20 ?_;refine R.fin [2,3,4,5,6] ?_;refine td ?_;refine Z20 ?_;refine R.fin [2,3,4,5,6,7] ?_;refine D3 ?_;refine R.nilCell 2 5 6 ?_;refine Z23 ?_;refine R.makeFunc ?_
 refine R.callX (up':=(Hp.set o (pr l (Aa S))).set o (pr l (C7 l Dv S).2)) (own':=[Ht,.cells 125 [A2 (A7 l S.i).kind,A6 (A7 l S.i).text,A2 (A7 l S.i).at_],xo true t.text (C7 l Dv S).1]) Tryz.call260 (by have:=AA4 l (Aa S) (A7 l S.i).at_ t.text Dv o (Hp.set o (pr l (Aa S))) Ht (.cells 125 [A2 (A7 l S.i).kind,A6 (A7 l S.i).text,A2 (A7 l S.i).at_]) U7 (getset ho) hi hl hll hnl hd;rw [List.length_set] at this;exact this) (by simp) (fun h=>qm h Bp) ?_
 refine R.fin [2,3,4,5,7] ?_;refine Z2 ?_;refine R.callUp Tryz.call268 (getset (getset ho)) (by simp) Bp (zh l (C7 l Dv S).2 Dm o _ (A5 (getset (getset ho))) hkf.lt hll) ?_;refine R.fin [2,3,4,5,7] ?_;refine Z57 ?_
 refine R.go (h:=Q.loadUp (getset (getset (getset ho)))) (hr:=?_)
 refine Z56 ?_;refine Z66 ?_;refine R.fin [2,3,4,7,41] ?_
 refine W.cond (fun ht41=>?_) (fun ht41=>?_)
 ·have e:Fm l Dv t S=(Ab,Cl 8 t.at_ (Dr l Dm (C7 l Dv S).2)):=by
   unfold Fm
   rw [if_neg hge,if_pos (by have:=ht41;simp only [List.length_map] at this;exact this)]
  refine Z17 ?_;refine R.callUp Tryz.call221 (getset (getset (getset ho))) (by simp) Bp (fk l (Dr l Dm (C7 l Dv S).2) 8 t.at_ o _ (A5 (getset (getset (getset ho))))) ?_;refine Fk ?_;refine Z22 ?_;refine K.thR ?_;exact K.fin (V.one (V.cellN jA jS)) ⟨by rw [e,A8],by rw [e,List.set_set,List.set_set,List.set_set]⟩ (hlow:=low_agg _)
 have e:Fm l Dv t S=(.mk 6 t.text noV (C7 l Dv S).1,(Dr l Dm (C7 l Dv S).2)):=by
  unfold Fm
  rw [if_neg hge,if_neg (by have:=ht41;simp only [List.length_map] at this;rw [Bool.eq_false_iff] at this;exact this)]
 refine Kf ?_;refine Fk ?_;refine Z22 ?_;exact K.fin (V.one (V.cellN jA jS)) ⟨by rw [e,Qg];rfl,by rw [e,List.set_set,List.set_set]⟩ (hlow:=by have:=Ac Hp.length (.mk 6 t.text noV (C7 l Dv S).1);rw [Qg] at this;simpa using this)

theorem gh {l:List Tok} (hl:TokEnd l) (hll:l.length≤1048576) (n:Nat) (Dv:Fam) (hn:n≤30) (hd:DeepC l Dv n):We l Dv n:=fun o Hp S t ho hi hS _ _=>by
 subst hS
 exact AC9 l S Dv t o Hp ho hi hl hll hn hd
theorem Zv {e:Expr} (h:C8 e=true):e.text.length≤16∧e.kids.length≤8:=by
 cases L5 h with
 | val v hp h0=>exact ⟨by simp [Iu,Expr.text],by simp [Iu,Expr.kids]⟩
 | name t ht =>
  refine ⟨?_,by simp [Bd,Expr.kids]⟩
  show t.length≤16
  cases t with
  | nil=>simp
  | cons c r =>
   simp only [H4,Bool.and_eq_true,decide_eq_true_eq] at ht
   exact ht.1.1.1
 | neg a=>exact ⟨by simp [F3,Expr.text],by simp [F3,Expr.kids]⟩
 | no a=>exact ⟨by simp [F3,Expr.text],by simp [F3,Expr.kids]⟩
 | bin t a b ht=>exact ⟨by have:=Wy ht;show t.length≤16;omega,by simp [H8,Expr.kids]⟩
 | call t k ha =>
  refine ⟨by have:=Qo ha;show t.length≤16;omega,?_⟩
  show k.length≤8
  rcases Ql ha with ⟨_,e⟩|⟨_,e⟩|⟨_,e⟩|⟨_,e⟩|⟨_,e⟩|⟨_,e⟩|⟨_,e⟩|⟨_,e⟩<;>omega
theorem So:∀{l:List Expr} {y:Expr},y∈l→depthE y≤Cf l
 | a::r,y,h=>by
  rw [Cf]
  rcases List.mem_cons.1 h with rfl|h
  ·omega
  have:=So h
  omega
theorem c6:∀(n:Nat) (e:Expr),depthE e≤n→Cs C8 e=true→okE n e
 | 0,e,h,_=>by rw [Ka] at h;omega
 | n+1,e,h,hn=>by
  rw [Ef,Bool.and_eq_true] at hn
  rw [Ka] at h
  have hs:=Zv hn.1
  refine ⟨by omega,by omega,fun y hy=>c6 n y (by have:=So hy;omega) ((Co _ _).1 hn.2 y hy)⟩
theorem Sp {e:Expr} (h:B7 e=true):okE 30 e∧sizeE e≤300:=by
 have h1:=Ii h
 unfold B7 at h
 simp only [Bool.and_eq_true,decide_eq_true_eq] at h
 exact ⟨c6 30 e h.1.1 h1,h.1.2⟩
theorem c42 (n:Nat) (e:Expr) (hok:okE n e) (hn:n≤1048576) (hg:Cs Gg e=true) (Hp:List AObj):AFun Tryz.prog 42 [A4 e] Hp (.tup [A6 (Nt e).1,A2 (Nt e).2]):=by
 refine ACall.body [.tmp 2,.tmp 3] [0] Tryz.func42 Tryz.ntmps42 (fun d=>?_)
 refine Z17 ?_;refine R.fin [1] ?_;refine Z31 ?_;refine R.call Tryz.call44 (c44 n e hok hn _) ?_;refine R.go ?_;refine R.fin [1,7] ?_
 refine W.cond (fun ht7=>?_) (fun ht7=>?_)
 ·have hsh:Nt e=([],1):=if_pos ht7
  refine Z1 ?_;refine F8 ?_;exact xc
 have hnr:¬(!(Af e))=true:=by rw [ht7];simp
 have hr:B7 e=true:=by rw [←Ci];simpa using ht7
 have hps:=Wz hr hg
 refine du ?_;refine R.build (places:=#[(0,2)]) jU (fun w=>by simp) jZ ?_;refine R.box ?_;refine R.go ?_;refine R.fin [1,4] ?_;refine D3 ?_;refine R.toBld 0 109 5 ?_;refine Z0 ?_
 refine R.callOwn (n:=0) (x:=Qm (Ag e)) Tryz.call71 (c71 n e hok (Ii hr) hg (oid Hp.length 0) [] _ (by rw [Ao];rfl) (by simp only [F5,List.length_nil];omega)) ?_
 refine R.fin [4] ?_;refine Z35 ?_
 refine R.call Tryz.call72 (c72 (Ag e) (oid Hp.length 0) _ (by rw [Ao];rfl)) ?_
 refine R.go ?_;refine R.fin [4,17] ?_
 refine W.cond (fun ht17=>?_) (fun ht17=>?_)
 ·have hsh:Nt e=([],3):=by unfold Nt;rw [if_neg hnr,if_pos ht17]
  refine Z1 ?_;refine F8 ?_;exact xc
 have hsh:Nt e=(Ag e,0):=by unfold Nt;rw [if_neg hnr,if_neg (by rw [ht17];simp)]
 refine Z70 ?_
 refine R.callOwn (n:=0) (x:=.cells 109 [.any,.any]) Tryz.call73 (c73 (Ag e) (oid Hp.length 0) _ (by rw [Ao];rfl)) ?_
 refine Z0 ?_;refine F8 ?_;refine AW.ret ?_;exact yt

/-! fuse.Forth and plan.Text. -/
def Bc (c:List Col) (ms:List Mov):Nat→List Expr
 | 0=>Hi c
 | k+1=>match ms[k]? with
  | some m=>C1 m.take (colsAt c ms k) (Bc c ms k)++(Aw (colsAt c ms k) (Bc c ms k) m.ahead).1
  | none=>Bc c ms k
def Ex (c:List Col) (t:List Expr):List Mov→List Expr×Int
 | []=>(t,0)
 | m::r=>if (Aw c t m.ahead).2 != 0 then ([],(Aw c t m.ahead).2) else Ex (Ap c m).1 (C1 m.take c t++(Aw c t m.ahead).1) r
/-- fuse.Forth. -/
def Jw (c:List Col) (l:List Mov):List Expr×Int:=if (D9 c l).2 != 0 then ([],1) else Ex c (Hi c) l
def Ij (c:List Col) (ms:List Mov) (k:Nat):Prop:=Ex c (Hi c) ms=Ex (colsAt c ms k) (Bc c ms k) (ms.drop k)
theorem ACa {c:List Col} {ms:List Mov}:Ij c ms 0:=rfl
theorem rn {c:List Col} {ms:List Mov} {k:Nat} {m:Mov} (hk:ms[k]? = some m) (h:Ij c ms k) (he:((Aw (colsAt c ms k) (Bc c ms k) m.ahead).2 != 0)=false):Ij c ms (k+1):=by
 unfold Ij at h ⊢
 rw [h,Hb hk,Ex,if_neg (by rw [he];simp),Dw hk,Bc,hk]
theorem w4 {c:List Col} {ms:List Mov} {k:Nat} {m:Mov} (hk:ms[k]? = some m) (h:Ij c ms k) (he:((Aw (colsAt c ms k) (Bc c ms k) m.ahead).2 != 0)=true):Ex c (Hi c) ms=([],(Aw (colsAt c ms k) (Bc c ms k) m.ahead).2):=by
 unfold Ij at h
 rw [h,Hb hk,Ex,if_pos he]
theorem w5 {c:List Col} {ms:List Mov} (h:Ij c ms ms.length):Ex c (Hi c) ms=(Bc c ms ms.length,0):=by
 unfold Ij at h
 rw [h,List.drop_length,Ex]
/-- Trees that may be walked, printed and put again. -/
structure TOk (t:List Expr):Prop where
 ok:∀e∈t,okE 61 e
 rng:∀e∈t,Cs Gg e=true
theorem Kd {take:List Str}:∀{c:List Col} {l:List Expr},∀e∈C1 take c l,e∈l
 | [],[],e,h=>by cases h
 | [],_::_,e,h=>by cases h
 | _::_,[],e,h=>by cases h
 | y::c,x::l,e,h=>by
  unfold C1 at h
  split at h
  ·exact List.mem_cons_of_mem _ (Kd e h)
  rcases List.mem_cons.1 h with rfl|h
  ·exact List.mem_cons_self
  exact List.mem_cons_of_mem _ (Kd e h)
theorem X0 {c:List Col} {l:List Expr} (hl:∀e∈l,Cs Gg e=true) (hc:c.length=l.length):∀(n:Nat) (x y:Expr),okE n x→Cs Gg x=true→putF c l x=some y→Cs Gg y=true
 | 0,x,y,h,_,_=>h.elim
 | n+1,x,y,h,hr,hp=>by
  cases h2:x.op==2 with
  | true =>
   rw [Qh h2] at hp
   split at hp
   ·cases hp
   rename_i hf
   injection hp with hp
   subst hp
   obtain ⟨j,hj,hjl⟩:=Em hf
   rw [hj,Int.toNat_natCast,List.getD_eq_getElem?_getD,List.getElem?_eq_getElem (by omega)]
   exact hl _ (List.getElem_mem (by omega))
  | false =>
   rw [Qi h2] at hp
   cases hk:Hf c l x.kids with
   | none=>rw [hk] at hp;cases hp
   | some s =>
    rw [hk] at hp
    injection hp with hp
    subst hp
    obtain ⟨h3,h4⟩:=L6 hk
    rw [Ef,Bool.and_eq_true] at hr
    rw [Ef,Bool.and_eq_true]
    refine ⟨hr.1,(Co _ _).2 fun z hz=>?_⟩
    obtain ⟨e,he,hpe⟩:=h4 z hz
    exact X0 hl hc n e z (h.2.2 e he) ((Co _ _).1 hr.2 e he) hpe
theorem mv {x:Expr} {c:List Col} {l:List Expr} (hx:okE 61 x) (hr:Cs Gg x=true) (ht:TOk l) (he:(Db x c l).2=0):okE 61 (Db x c l).1∧Cs Gg (Db x c l).1=true∧Af (Db x c l).1=true:=by
 unfold Db at he ⊢
 split at he
 ·exact absurd (show (1:Int)=0 from he) (by decide)
 rename_i h1
 rw [if_neg h1]
 have hcl:c.length=l.length:=by
  simp only [Bool.not_eq_true,Bool.or_eq_false_iff,bne_eq_false_iff_eq] at h1
  have:=h1.2
  omega
 cases hp:putF c l x with
 | none=>rw [hp] at he;exact absurd (show (9:Int)=0 from he) (by decide)
 | some y =>
  rw [hp] at he
  simp only at he ⊢
  split at he
  ·rename_i h2
   rw [if_pos h2]
   have h3:B7 y=true:=by rw [←Ci];exact h2
   exact ⟨Ev (by decide) (Sp h3).1,X0 ht.rng hcl 61 x y hx hr hp,h2⟩
  exact absurd (show (3:Int)=0 from he) (by decide)
theorem N0 {c:List Col} {t:List Expr} (ht:TOk t):∀(l:List Expr),(∀e∈l,okE 61 e)→(∀e∈l,Cs Gg e=true)→(Aw c t l).2=0→TOk (Aw c t l).1
 | [],_,_,_=>⟨fun e h=>(List.not_mem_nil h).elim,fun e h=>(List.not_mem_nil h).elim⟩
 | x::r,h1,h2,he=>by
  unfold Aw at he ⊢
  split at he
  ·rename_i h3
   exact absurd he (by simpa using h3)
  rename_i h3
  rw [if_neg h3]
  split at he
  ·rename_i h4
   exact absurd he (by simpa using h4)
  rename_i h4
  rw [if_neg h4]
  have ih:=N0 (c:=c) ht r (fun e he=>h1 e (List.mem_cons_of_mem _ he)) (fun e he=>h2 e (List.mem_cons_of_mem _ he)) (by simpa using h4)
  have hx:=mv (c:=c) (h1 x List.mem_cons_self) (h2 x List.mem_cons_self) ht (by simpa using h3)
  refine ⟨fun e he=>?_,fun e he=>?_⟩
  ·rcases List.mem_cons.1 he with rfl|he
   ·exact hx.1
   exact ih.ok e he
  rcases List.mem_cons.1 he with rfl|he
  ·exact hx.2.1
  exact ih.rng e he
theorem mw {c:List Col} (hc:OkCols c):TOk (Hi c):=by
 refine ⟨fun e he=>?_,fun e he=>?_⟩
 ·obtain ⟨y,hy,rfl⟩:=List.mem_map.1 he
  exact ⟨hc.2 y hy,by simp [Bd,Expr.kids],fun z hz=>by simp [Bd,Expr.kids] at hz⟩
 obtain ⟨y,hy,rfl⟩:=List.mem_map.1 he
 rfl
/-- What holds of the trees behind k moves, if all went well till there. -/
theorem rp {c:List Col} {ms:List Mov} {k:Nat} {m:Mov} (hk:ms[k]? = some m) (hm:OkMov m) (h:TOk (Bc c ms k)) (he:((Aw (colsAt c ms k) (Bc c ms k) m.ahead).2 != 0)=false):TOk (Bc c ms (k+1)):=by
 have h1:=N0 (c:=colsAt c ms k) h m.ahead hm.ahead.ok hm.ahead.rng (by simpa using he)
 rw [Bc,hk]
 refine ⟨fun e he=>?_,fun e he=>?_⟩
 ·rcases List.mem_append.1 he with he|he
  ·exact h.ok e (Kd e he)
  exact h1.ok e he
 rcases List.mem_append.1 he with he|he
 ·exact h.rng e (Kd e he)
 exact h1.rng e he
theorem Jx {c:List Col} {m:Mov} (h:(Ap c m).2=0):(Ap c m).1=Bi c m.take++Ah c m∧Az c=true∧Az (Ap c m).1=true:=by
 unfold Ap at h ⊢
 split at h
 ·rename_i h1
  exact absurd h (by simpa using h1)
 rename_i h1
 rw [if_neg h1]
 split at h
 ·rename_i h2
  exact absurd h (by simpa using h2)
 rename_i h2
 rw [if_neg h2]
 split at h
 ·rename_i h3
  exact absurd h (by simpa using h3)
 rename_i h3
 rw [if_neg h3]
 obtain ⟨a,_,b,d,e⟩:=qg (by simpa using h1:(Bn c m.take (Ah c m)).2=0)
 rw [e]
 refine ⟨rfl,a,?_⟩
 unfold Az
 rw [b,Bool.and_true]
 refine decide_eq_true ?_
 show ((Bi c m.take++Ah c m).length:Int)≤12
 omega
theorem mx {c:List Col} {ms:List Mov} {k:Nat} {m:Mov} (hk:ms[k]? = some m) (hm:D7 m=true) (ht:(Ap (colsAt c ms k) m).2=0) (h:(Bc c ms k).length=(colsAt c ms k).length) (he:((Aw (colsAt c ms k) (Bc c ms k) m.ahead).2 != 0)=false):(Bc c ms (k+1)).length=(colsAt c ms (k+1)).length:=by
 rw [Bc,Dw hk,hk]
 show (C1 _ _ _++_).length=_
 rw [(Jx ht).1,List.length_append,List.length_append,F1,Gv h.symm,Hg _ (by simpa using he),(Do (I6 hm)).1]
/-! The text. -/
theorem Ik {n k:Nat} {o:Bool} {a:List Expr} {e:Expr}:Low n (.slice o k (a.map A4++[.agg (Bt e)])):=by
 have:=He (n:=n) (k:=k) (o:=o) (a:=a) (e:=e)
 rwa [A8] at this
theorem Sq {c:List Col} {t:List Expr}:∀{l:List Expr},(∀(j:Nat) (y:Expr),l[j]? = some y→((Db y c t).2 != 0)=false)→Aw c t l=(l.map (fun e=>(Db e c t).1),0)
 | [],_=>rfl
 | x::r,h=>by
  have h1:=h 0 x rfl
  have ih:=Sq (c:=c) (t:=t) (l:=r) (fun j y hy=>h (j+1) y hy)
  rw [Aw,if_neg (by rw [h1];simp),if_neg (by rw [ih];simp),ih]
  rfl
theorem Sr {c:List Col} {t:List Expr}:∀{l:List Expr} {x:Nat} {y:Expr},(∀(j:Nat) (z:Expr),j<x→l[j]? = some z→((Db z c t).2 != 0)=false)→l[x]? = some y→((Db y c t).2 != 0)=true→Aw c t l=([],(Db y c t).2)
 | [],_,_,_,h,_=>by simp at h
 | a::r,0,y,h0,h,h1=>by
  have:a=y:=by simpa using h
  subst this
  rw [Aw,if_pos h1]
 | a::r,x+1,y,h0,h,h1=>by
  have h2:=h0 0 a (by omega) rfl
  have ih:=Sr (c:=c) (t:=t) (l:=r) (x:=x) (y:=y) (fun j z hj hz=>h0 (j+1) z (by omega) hz) (by simpa using h) h1
  rw [Aw,if_neg (by rw [h2];simp),if_pos (by rw [ih];exact h1),ih]
theorem c55 (l:List Expr) (hl:l.length≤1048576) (hlo:∀e∈l,okE 61 e) (c:List Col) (hc:OkCols c) (by_:List Expr) (hbl:by_.length≤1048576) (hbo:∀e∈by_,okE 61 e) (Hp:List AObj):AFun Tryz.prog 55 [Ay l,A9 c,Ay by_] Hp (.tup [Ay (Aw c by_ l).1,A2 (Aw c by_ l).2]):=by
 refine ACall.body [.tmp 6,.tmp 7] [0,1,2] Tryz.func55 Tryz.ntmps55 (fun d=>?_)
 refine Z1 ?_;refine Tp ?_;refine Z2 ?_;refine R.fin [0,1,2,8] ?_;refine Z68 ?_;refine R.nilSl 8 6 ?_;refine Z23 ?_;refine R.fin [1,2,8,13,14,15] ?_
 refine AW.loopC (α:=Nat) (fun x=>⟨35,A3 1 (A9 c) (A3 2 (Ay by_) (A3 8 (.slice true 6 (((l.take x).map (fun e=>(Db e c by_).1)).map A4)) (A3 13 (Ay l) (A3 14 (A2 (l.length:Nat)) (A3 15 (A2 (x:Nat)) (fun _=>.any)))))),Hp,[],[],none⟩) (fun x=>x≤l.length∧∀(j:Nat) (y:Expr),j<x→l[j]? = some y→((Db y c by_).2 != 0)=false) (fun x=>l.length-x) (0) ⟨Nat.zero_le _,fun j y h=>by omega⟩ (StLe.of_eq (by simp)) rfl (fun x hx=>?_)
 refine Z2 ?_;refine R.fin [1,2,8,13,14,15,16] ?_
 refine W.condX (fun ht16=>?_) (fun ht16=>?_)
 ·have hlt:x<l.length:=by simpa using ht16
  refine O2 ?_
  refine R.go (h:=Q.indexAddr (x) (A4 l[x]) (fun _=>Ae hlt)) (hr:=?_)
  refine O5 ?_;refine R.fin [1,2,8,10,13,14,15] ?_;refine Z17 ?_;refine R.call Tryz.call23 (c23 l[x] (hlo _ (List.getElem_mem hlt)) c hc by_ hbl hbo _) ?_;refine Xz ?_;refine R.fin [1,2,8,11,12,13,14,15] ?_;refine Z8 ?_;refine R.fin [1,2,8,11,12,13,14,15,27] ?_
  refine W.cond (fun ht27=>?_) (fun ht27=>?_)
  ·have hm:=Sr hx.2 (List.getElem?_eq_getElem hlt) ht27
   refine Z1 ?_;refine R.nilTmp 6 6 false ?_;refine Z55 ?_;refine Z37 ?_;exact th
  refine Z5 ?_;refine V5 ?_;refine Z75 ?_
  refine R.append jU Tryz.type45 ?_ ?_ ?_
  ·simp only [List.length_map,List.length_take,List.length_cons,List.length_nil,Tryz.t45];omega
  ·simp only [List.length_map,List.length_take,List.length_cons,List.length_nil,Tryz.t45];omega
  refine Ic ?_;refine R.fin [1,2,8,13,14,15] ?_;refine O6 ?_;refine R.fin [1,2,8,13,14,15] ?_;refine K.lpN (x+1) ⟨hlt,Av hlt hx.2 ht27⟩ (by omega) ?_
  rw [Kc hlt,List.map_append]
  rw [List.map_cons,List.map_nil,A8]
  simp only [show Tryz.t45.size=6 from rfl]
  exact StCut.take (own:=[]) (fun _=>.refl _) (by repeat (first|exact Ar|refine Aq (by first|(simp [or_imp,forall_and];done)|exact Ik|exact C0|exact Cm) ?_)) (by simp) (by simp)
 have hxe:l.length≤x:=by simpa using ht16
 have hm:Aw c by_ l=(l.map (fun e=>(Db e c by_).1),0):=Sq fun j y hy=>hx.2 j y (by have:=(List.getElem?_eq_some_iff.1 hy).1;omega) hy
 refine Z26 ?_;refine Z17 ?_;refine R.fin [6,7] ?_;refine AW.ret ?_;exact K.fin (V.two V.tmp V.tmp) ⟨by rw [hm,List.take_of_length_le hxe],rfl⟩ (hlow:=by simp only [Lk,List.mem_cons,List.mem_nil_iff,or_false];rintro y (rfl|rfl);exact C0;simp)

theorem c56 (m:Mov) (c:List Col) (l:List Expr) (Hp:List AObj):AFun Tryz.prog 56 [E3 m,A9 c,Ay l] Hp (.fn (.func 81) [] [.ro [A9 c],.ro (Fy m),.ro [Ay l]]):=by
 refine ACall.body [.tmp 6] [0,1,2] Tryz.func56 Tryz.ntmps56 (fun d=>?_)
 refine Z41 ?_;refine R.fin [3,4,5] ?_;refine jh ?_;refine R.go ?_;refine Z86 ?_;exact K.fin (V.one V.tmp) (hlow:=by simp [or_imp,forall_and,Ac])

theorem Zw {take:List Str} {c:List Col} {l:List Expr} {k:Nat} {y:Col} (hcl:c.length=l.length) (hy:c[k]? = some y) (h:take.contains y.name=true):C1 take (c.take (k+1)) (l.take (k+1))=C1 take (c.take k) (l.take k):=by
 induction c generalizing l k with
 | nil=>simp at hy
 | cons a r ih =>
  cases l with
  | nil=>simp at hcl
  | cons b s =>
   cases k with
   | zero =>
    have:a=y:=by simpa using hy
    subst this
    simp only [List.take_succ_cons,List.take_zero]
    rw [C1,if_pos h]
   | succ k =>
    have ih':=ih (l:=s) (k:=k) (by simpa using hcl) (by simpa using hy)
    rw [List.take_succ_cons,List.take_succ_cons,List.take_succ_cons,List.take_succ_cons,C1,C1,ih']
theorem my {take:List Str} {c:List Col} {l:List Expr} {k:Nat} {y:Col} {e:Expr} (hcl:c.length=l.length) (hy:c[k]? = some y) (he:l[k]? = some e) (h:take.contains y.name=false):C1 take (c.take (k+1)) (l.take (k+1))=C1 take (c.take k) (l.take k)++[e]:=by
 induction c generalizing l k with
 | nil=>simp at hy
 | cons a r ih =>
  cases l with
  | nil=>simp at hcl
  | cons b s =>
   cases k with
   | zero =>
    have h1:a=y:=by simpa using hy
    have h2:b=e:=by simpa using he
    subst h1
    subst h2
    simp only [List.take_succ_cons,List.take_zero]
    rw [C1,if_neg (by rw [h];simp)]
    rfl
   | succ k =>
    have ih':=ih (l:=s) (k:=k) (by simpa using hcl) (by simpa using hy) (by simpa using he)
    rw [List.take_succ_cons,List.take_succ_cons,List.take_succ_cons,List.take_succ_cons,C1,C1,ih']
    split<;>rfl
theorem Zx {n:Nat} {m:Mov}:Low n (.ro (Fy m)):=by
 refine .ro _ fun y hy=>?_
 simp only [List.mem_cons,List.mem_nil_iff,or_false] at hy
 rcases hy with rfl|rfl|rfl|rfl|rfl
 ·exact .v _
 ·exact g9
 ·exact Cm
 ·exact C0
 exact C0
theorem c81 (l0:Nat) (m:Mov) (c:List Col) (l:List Expr) (hc:c.length≤1048576) (hcl:c.length=l.length) (ht:m.take.length≤1048576) (U:Nat→List AObj) (hlen:∀k,(U k).length=(U 0).length) (hll:l0<(U 0).length)
  (hlw:∀k,∀x∈U k,ObjLow (U 0).length x) (hn:∀k y,c[k]? = some y→m.take.contains y.name=true→U (k+1)=U k)
  (hy:∀k y e X,c[k]? = some y→l[k]? = some e→m.take.contains y.name=false→AYield Tryz.prog l0 [A4 e] (U k++X) (fun b H'=>b=true∧H'=U (k+1)++X)):ACall Tryz.prog 81 [.yield l0,.ro [A9 c],.ro (Fy m),.ro [Ay l]] (U 0) (fun _ H'=>H'=U c.length):=by
 refine ACall.body [] [0,1,2,3] Tryz.func81 Tryz.ntmps81 (fun d=>?_)
 refine Z17 ?_;refine R.fin [0,2,3,7,8,9] ?_
 refine AW.loopC (α:=Nat) (fun x=>⟨30,A3 0 (.yield l0) (A3 2 (.ro (Fy m)) (A3 3 (.ro [Ay l]) (A3 7 (A9 c) (A3 8 (A2 (c.length:Nat)) (A3 9 (A2 (x:Nat)) (fun _=>.any)))))),U x,[],[],none⟩) (fun x=>x≤c.length) (fun x=>c.length-x) (0) (Nat.zero_le _) (StLe.of_eq (by simp)) rfl (fun x hx=>?_)
 refine Z2 ?_;refine R.fin [0,2,3,7,8,9,10] ?_
 refine W.condX (fun ht10=>?_) (fun ht10=>?_)
 ·have hlt:x<c.length:=by simpa using ht10
  have hle:x<l.length:=by omega
  refine O7 ?_
  refine R.go (h:=Q.indexAddr (x) (Ak c[x]) (fun _=>Ae hlt)) (hr:=?_)
  refine dt ?_;refine R.fin [0,2,3,5,6,7,8,9] ?_;refine Z41 ?_;refine R.call Tryz.call40 (c40 m.take _ ht _) ?_;refine Z83 ?_
  refine G.go (h:=Q.indexAddr (x) (A4 l[x]) (fun _=>Ae hle)) (hr:=?_)
  refine G.go ?_
  refine G.yield (l:=l0) (C:=((!m.take.contains c[x].name)==true)) (args:=[A4 l[x]]) (fun hC=>hy x c[x] _ _ (List.getElem?_eq_getElem hlt) (List.getElem?_eq_getElem hle) (by simpa using hC)) ?_
  intro b V O hV hb hb0
  have hVO:V=U (x+1)∧O=[AObj.cells 58 [A6 c[x].name,A2 c[x].kind]]∧(m.take.contains c[x].name=false→b=true):=by
   cases hcn:m.take.contains c[x].name with
   | true =>
    obtain ⟨h1,h2⟩:=hb0 (by rw [hcn];rfl)
    exact ⟨h1.trans (hn x c[x] (List.getElem?_eq_getElem hlt) hcn).symm,h2,fun e=>by cases e⟩
   | false =>
    obtain ⟨h1,h2⟩:=hb (by rw [hcn];rfl)
    have h3:=List.append_inj h2 (by rw [hV,hlen x,hlen (x+1)])
    exact ⟨h3.1,h3.2,fun _=>h1⟩
  obtain ⟨rfl,rfl,hbt⟩:=hVO
  refine ⟨fun _=>by rw [hlen (x+1)];exact hlw (x+1),fun o ho=>(by cases ho),?_⟩
  refine Z66 ?_;refine R.fin [0,2,3,7,8,9,28] ?_
  refine W.cond (fun ht28=>?_) (fun ht28=>?_)
  ·exfalso
   have hcf:m.take.contains c[x].name=false:=by simp at ht28 ⊢;exact ht28.1
   rw [hbt hcf] at ht28
   simp at ht28
  refine Mc ?_;refine R.fin [0,2,3,7,8,9] ?_;refine jv ?_
  exact StCut.take (own:=[]) (fun _=>.refl _) (by repeat (first|exact Ar|refine Aq (by first|(simp [or_imp,forall_and];done)|exact Zx|(simp [or_imp,forall_and,Ac];done)|(have:=hlen (x+1);simp;omega)) ?_)) (by simp) (by simp)
 have hxe:x=c.length:=by simp at ht10;omega
 exact ye

/-! ONE LINE EACH. -/
theorem Zy {c:List Col} {ms:List Mov} (he:(Bj c ms).2=0):∀k,k≤ms.length→NS c ms k
 | 0,_=>vo
 | k+1,h=>by
  have ih:=Zy he k (by omega)
  have hk:ms[k]? = some ms[k]:=List.getElem?_eq_getElem (by omega)
  by_cases ht:(Ap (colsAt c ms k) ms[k]).2=0
  ·exact Ue hk ih ht
  exact absurd ((Zq hk ih ht).symm.trans he) ht
theorem Uf {c:List Col} {ms:List Mov} (he:(Bj c ms).2=0) {k:Nat} {m:Mov} (hk:ms[k]? = some m):(Ap (colsAt c ms k) m).2=0:=by
 have hl:=(List.getElem?_eq_some_iff.1 hk).1
 by_cases ht:(Ap (colsAt c ms k) m).2=0
 ·exact ht
 exact absurd ((Zq hk (Zy he k (by omega)) ht).symm.trans he) ht
theorem Gb {c:List Col} {ms:List Mov}:∀{n k:Nat},k≤n→(B0 c ms n)[k]? = some (colsAt c ms k)
 | 0,k,h=>by
  have:k=0:=by omega
  subst this;rfl
 | n+1,k,h=>by
  have hl:=Ff c ms n
  rw [B0]
  by_cases e:k=n+1
  ·subst e
   rw [List.getElem?_append_right (by omega),hl,Nat.sub_self]
   rfl
  rw [List.getElem?_append_left (by omega)]
  exact Gb (by omega)
theorem Ke {c:List Col} {ms:List Mov} (h:Jr c ms=true):∀m∈ms,D7 m=true:=by
 unfold Jr Jq at h
 simp only [Bool.and_eq_true,List.all_eq_true] at h
 exact h.2.2
theorem M1 {c:List Col} {ms:List Mov} (hc:Az c=true) (he:(Bj c ms).2=0):∀k,Az (colsAt c ms k)=true
 | 0=>hc
 | k+1=>by
  cases hk:ms[k]? with
  | none =>
   rw [colsAt,hk]
   exact M1 hc he k
  | some m =>
   rw [Dw hk]
   exact (Jx (Uf he hk)).2.2
/-- What a sound migration comes to. -/
theorem La {c:List Col} {ms:List Mov} (h:((D9 c ms).2 != 0)=false):Jr c ms=true∧(Bj c ms).2=0∧D9 c ms=(B0 c ms ms.length,0):=by
 cases hm:Jr c ms with
 | false=>rw [Se hm] at h;cases h
 | true =>
  by_cases he:(Bj c ms).2=0
  ·have e:=Zr (Zy he ms.length (Nat.le_refl _))
   exact ⟨rfl,he,Sf hm e⟩
  rw [Qf hm he] at h
  exact absurd (by simpa using h) he
theorem mz {n:Nat} {m:Mov} {t:TypeId}:ObjLow n (.cells t (Fy m)):=Ly
theorem n5 {c:List Col} {l:List Mov} (h:((D9 c l).2 != 0)=true):Jw c l=([],1):=if_pos h
theorem Ss {c:List Col} {l:List Mov} (h:((D9 c l).2 != 0)=false):Jw c l=Ex c (Hi c) l:=if_neg (by rw [h];simp)
theorem n6 {c:List Col} {ms:List Mov} {k:Nat} {m:Mov} (h:ms[k]? = some m):Ay (Bc c ms (k+1))=.slice false 6 ((C1 m.take (colsAt c ms k) (Bc c ms k)).map A4++(Aw (colsAt c ms k) (Bc c ms k) m.ahead).1.map A4):=by
 rw [Bc,h,←List.map_append]
theorem c27 (c:List Col) (hc:OkCols c) (hc2:c.length≤1000000) (l:List Mov) (h:OkMovs l) (Hp:List AObj):AFun Tryz.prog 27 [A9 c,Cp l] Hp (.tup [Ay (Jw c l).1,A2 (Jw c l).2]):=by
 refine ACall.body [.tmp 4,.tmp 5] [0,1] Tryz.func27 Tryz.ntmps27 (fun d=>?_)
 refine Z1 ?_;refine R.fin [0,1] ?_;refine Z1 ?_;refine R.call Tryz.call14 (c14 c hc hc2 l h _) ?_;refine Z89 ?_;refine R.fin [0,1,6,7] ?_;refine Z8 ?_;refine R.fin [0,1,6,22] ?_
 refine W.cond (fun ht22=>?_) (fun ht22=>?_)
 ·have hm:=n5 ht22
  refine Z2 ?_;refine R.nilTmp 4 6 false ?_;refine R.go ?_;exact Z84
 have hm:=Ss ht22
 obtain ⟨hmay,hst,hss⟩:=La ht22
 have hmvo:=Ke hmay
 rw [hss]
 refine Kf ?_;refine R.call Tryz.call54 (c54 c (by omega) _) ?_;refine R.go ?_;refine R.fin [1,6,8] ?_;refine Z35 ?_;refine R.fin [6,8,25,26,27] ?_
 refine AW.loopG (α:=Nat×List AObj×List Nat) (fun s=>⟨65,A3 6 (Hc (B0 c l l.length)) (A3 8 (Ay (Bc c l s.1)) (A3 25 (Cp l) (A3 26 (A2 (l.length:Nat)) (A3 27 (A2 (s.1:Nat)) (fun _=>.any))))),Hp,s.2.1,s.2.2,none⟩) (fun s=>s.1≤l.length∧Ij c l s.1∧TOk (Bc c l s.1)∧(Bc c l s.1).length=(colsAt c l s.1).length∧(∀x∈s.2.1,ObjLow (Hp.length+s.2.1.length) x)∧∀o∈s.2.2,(Hp++s.2.1)[o]? = some .defs) (fun s=>l.length-s.1) ((0,[],[])) ⟨Nat.zero_le _,ACa,mw hc,by simp [Bc,Hi,colsAt],(fun x hx=>(List.not_mem_nil hx).elim),fun o ho=>(List.not_mem_nil ho).elim⟩ (StLe.of_eq (by simp [Bc])) rfl (fun s hs=>?_)
 obtain ⟨k,O,Df⟩:=s
 obtain ⟨hk0,hnf,hTo,hTl,hOo,hDo⟩:=hs
 dsimp only at hk0 hnf hTo hTl hOo hDo ⊢
 refine Z2 ?_;refine R.fin [6,8,25,26,27,28] ?_
 refine W.condX (fun ht28=>?_) (fun ht28=>?_)
 ·have hlt:k<l.length:=by simpa using ht28
  have hll:=h.len
  have hmk:l[k]? = some l[k]:=List.getElem?_eq_getElem hlt
  have hmo:=h.each _ (List.getElem_mem hlt)
  have hCo:=Eg hc (fun m hm=>h.each m hm) k
  refine O7 ?_
  refine R.go (h:=Q.indexAddr (k) (E3 l[k]) (fun _=>Ae hlt)) (hr:=?_)
  refine R.go ?_;refine R.alloc (n:=O.length) (ho:=rfl) jZ ?_;refine R.go ?_
  refine R.storeOwn (n:=O.length+0) (ho:=oat.trans rfl) (hset:=by rw [j4]<;>simp only [List.set_cons_succ,List.set_cons_zero]<;>rfl) jS ?_
  refine R.fin [6,8,9,10,25,26,27] ?_;refine W.drawQ [0,1,0,0,12,28,0,127,255,511,511,1023,4095] 12 Ad (by kernel_rfl) ?_;refine D.go ?_
  refine D.go (h:=Q.loadOwn (n:=O.length+0) (ho:=oat.trans rfl)) (hr:=?_)
  refine Z14 ?_
  refine D.go (h:=Q.indexAddr (k) (A9 (colsAt c l k)) (fun _=>Zo (Gb (by omega)))) (hr:=?_)
  refine Z14 ?_
  refine D.call Tryz.call55 (c55 l[k].ahead hmo.ahead.len hmo.ahead.ok (colsAt c l k) hCo (Bc c l k) (by have:=hCo.1;omega) hTo.ok _) ?_
  refine Z81 ?_;refine V7 ?_;refine R.fin [6,8,9,10,11,12,25,26,27] ?_;refine Z8 ?_;refine R.fin [6,8,9,10,11,12,25,26,27,44] ?_
  refine W.cond (fun ht44=>?_) (fun ht44=>?_)
  ·have hm2:=w4 hmk hnf ht44
   refine Z1 ?_;refine R.nilTmp 4 6 false ?_;refine R.go ?_;refine Z42 ?_;refine Z6 ?_;refine K.lgR ?_;refine K.thR ?_;exact K.fin (V.two V.tmp V.tmp) ⟨by rw [hm,hm2]<;>rfl,rfl⟩
  refine du ?_
  refine R.alloc (n:=O.length+1) (hn:=by simp) (ho:=by simp only [List.append_assoc,List.cons_append,List.nil_append]<;>rfl) jZ ?_
  refine R.nilOwn (O.length+1) 6 ?_ (ho:=oat.trans rfl) (hset:=by rw [j4]<;>simp only [List.set_cons_succ,List.set_cons_zero]<;>rfl)
  refine R.assumeLow (fun hlow=>?_)
  refine R.fin [6,8,9,10,11,13,25,26,27] ?_;refine W.seq ?_;refine W.drawQ [0,0,0,6,14,0,63] 6 Ad (by kernel_rfl) ?_
  refine D.go (h:=Q.loadOwnN (n:=O.length+0) (ho:=oat.trans rfl)) (hr:=?_)
  refine Z14 ?_
  refine D.go (h:=Q.indexAddr (k) (A9 (colsAt c l k)) (fun _=>Zo (Gb (by omega)))) (hr:=?_)
  refine Z14 ?_;refine D.tail ?_;refine R.call Tryz.call56 (c56 l[k] (colsAt c l k) (Bc c l k) _) ?_;refine R.fin [6,11,13,25,26,27,52] ?_;refine Fq ?_
  refine W.rangeV (m:=O.length+2) (hm:=by simp) (ha:=rfl) Tryz.call81 (fun FR as' bd' hFR has hbd=>?_)
  generalize hCd:colsAt c l k=C at *
  generalize hTd:Bc c l k=T at *
  generalize hmd:l[k]=m at *
  have hFRl:∀s,Low (Hp.length+(O.length+4)) (FR s):=by
   intro s
   rw [hFR]
   refine Low.strip ?_
   revert s
   repeat (first|exact Ar|refine Aq (by first|exact C0|exact Gu|exact Jt|(simp [oid,or_imp,forall_and,Ac];done)|(simp [oid,or_imp,forall_and]<;>try omega)) ?_)
  have hstl:∀q,(C1 m.take (C.take q) (T.take q)).length≤1048576:=fun q=>by
   have h1:=Gv (take:=m.take) (c:=C.take q) (l:=T.take q) (by simp [hTl])
   have h2:=Dq (C.take q) m.take
   have h3:=hCo.1
   rw [List.length_take] at h2
   omega
  have hOl:∀{j:Nat} {o:Bool} {lp:AObj},ObjLow (Hp.length+(O.length+4)) lp→∀x∈O++[AObj.cells 64 (Fy m),AObj.cells 43 [AV.slice o 6 ((C1 m.take (C.take j) (T.take j)).map A4)],AObj.defs,lp],ObjLow (Hp.length+(O.length+4)) x:=by
   intro j o lp hlp x hx
   rcases List.mem_append.1 hx with hx|hx
   ·exact ObjLow.le (by omega) (hOo x hx)
   simp only [List.mem_cons,List.mem_nil_iff,or_false] at hx
   rcases hx with rfl|rfl|rfl|rfl
   ·exact mz
   ·intro y hy
    rw [List.mem_singleton.1 hy]
    exact C0
   ·trivial
   exact hlp
  refine ⟨_,ACall.heapEq (by rw [List.append_assoc];rfl) (c81 (oid Hp.length (O.length+3)) m C T hCo.1 hTl.symm hmo.takes (fun j=>Hp++(O++[AObj.cells 64 (Fy m),AObj.cells 43 [AV.slice true 6 ((C1 m.take (C.take j) (T.take j)).map A4)],AObj.defs,AObj.loop LoopState.ready none FR 65 #[53] as' bd' (oid Hp.length (O.length+2))])) (fun j=>by simp) (by simp [oid]) (fun j x hx=>?_) (fun j y hk hcn=>by simp only [Zw hTl.symm hk hcn]) (fun q y e X hk hke hcn=>?_)),?_⟩
  ·have:=Hn (fun x hx=>ObjLow.le (by omega) (hlow x hx)) (hOl (o:=true) (lp:=AObj.loop LoopState.ready none FR 65 #[53] as' bd' (oid Hp.length (O.length+2))) ⟨hFRl,by simp [oid]⟩) x hx
   simpa using this
  ·generalize hV:Hp++(O++[AObj.cells 64 (Fy m),AObj.cells 43 [AV.slice true 6 ((C1 m.take (C.take q) (T.take q)).map A4)],AObj.defs,AObj.loop LoopState.ready none FR 65 #[53] as' bd' (oid Hp.length (O.length+2))])++X=V
   have hL:V[(oid Hp.length (O.length+3))]? = some (AObj.loop LoopState.ready none FR 65 #[53] as' bd' (oid Hp.length (O.length+2))):=by rw [←hV,List.append_assoc,List.append_assoc,Ln];rfl
   have hA0:V[(oid Hp.length (O.length+1))]? = some (AObj.cells 43 [AV.slice true 6 ((C1 m.take (C.take q) (T.take q)).map A4)]):=by rw [←hV,List.append_assoc,List.append_assoc,Ln];rfl
   refine AYield.ofRound (pd:=none) (fr:=FR) (sz:=65) (ps:=#[53]) (df:=(oid Hp.length (O.length+2))) (asg:=as') (bd:=bd') hL rfl (by decide) (fun d=>?_)
   subst hFR has hbd
   refine W.keep [13,53] ?_;refine AW.region ?_;refine Z20 ?_;refine R.fin [13,14] ?_
   refine ⟨rfl,none,hL,?_⟩
   generalize hbz:(AObj.loop LoopState.busy _ _ _ _ _ _ _)=bz
   have hA:(V.set (oid Hp.length (O.length+3)) bz)[(oid Hp.length (O.length+1))]? = some (AObj.cells 43 [AV.slice true 6 ((C1 m.take (C.take q) (T.take q)).map A4)]):=by rw [List.getElem?_set_ne (C5 (by omega))];exact hA0
   refine Fq ?_
   refine W.drawT0 [0,0,1,0,15,31,63,31] [0] [.s [54] (some 0) [] [],.q 3 [] []] (fun B=>(V.set (oid Hp.length (O.length+3)) bz).set (oid Hp.length (O.length+1)) (if B 0=true then AObj.cells 43 [AV.slice false 6 ((C1 m.take (C.take q) (T.take q)).map A4)] else AObj.cells 43 [AV.slice true 6 ((C1 m.take (C.take q) (T.take q)).map A4)])) (fun _=>[.cells 45 (Bt e)]) Ad (by kernel_rfl) (by simp only [Bool.false_eq_true,if_false];exact Ek hA) rfl (fun B=>by simp) ?_
   refine Y.loadUpT (o:=(oid Hp.length (O.length+1))) (t':=43) (cs:=[.slice true 6 ((C1 m.take (C.take q) (T.take q)).map A4)]) (cs':=[.slice false 6 ((C1 m.take (C.take q) (T.take q)).map A4)]) Tryz.isAgg43 (fun B hB=>⟨by simp only [hB];exact getset hA,by simp only [upd,if_true,List.set_set],rfl⟩) ?_
   apply Y.q
   case h1 =>
    intro B hT hF
    refine Z14 ?_;exact Z50
   case hTF=>decide
   refine Y.appendPut3 (tn:=[0]) (U:=(V.set (oid Hp.length (O.length+3)) bz).set (oid Hp.length (O.length+1)) (AObj.cells 43 [AV.slice false 6 ((C1 m.take (C.take q) (T.take q)).map A4)])) (O:=[.cells 45 (Bt e)]) (o:=(oid Hp.length (O.length+1))) (t':=43) (cs:=[.slice false 6 ((C1 m.take (C.take q) (T.take q)).map A4)]) (by kernel_rfl) jU Tryz.type45 Tryz.sizeOf45 Tryz.sizeOf43 (A5 (getset hA)) ?_ ?_ ?_
   ·have:=hstl q;simp [Tryz.t45];omega
   ·have:=hstl q;simp [Tryz.t45];omega
   refine R.storeUpT jS (getset hA) ?_ ?_
   ·exact Ik
   refine Z65 ?_
   subst hbz
   refine K.rdN (iy hL (C5 (by omega)) (C5 (by omega))) ?_
   refine ⟨rfl,?_⟩
   subst hV
   simp only [List.append_assoc,j5,List.cons_append,List.nil_append,List.set_cons_succ,List.set_cons_zero]
   rw [my hTl.symm hk hke hcn,List.map_append,List.map_cons,List.map_nil,A8]
  rintro r H' rfl
  simp only [List.take_length,hTl ▸ List.take_length]
  refine ⟨Hp,_,_,_,rfl,rfl,fun h=>h,?_,(oat (i:=3)).trans rfl,by simp,?_⟩
  ·intro o ho
   rcases List.mem_cons.1 ho with rfl|ho
   ·rw [Ln]
    rfl
   rw [←List.append_assoc]
   exact A5 (hDo o ho)
  refine Z9 ?_;refine AW.region ?_
  refine ARun.ownEq (O++[AObj.cells 64 (Fy m),AObj.cells 43 [AV.slice true 6 ((C1 m.take C T).map A4)],AObj.defs,AObj.loop LoopState.exhausted none FR 65 #[53] as' bd' (oid Hp.length (O.length+2))]) (by rw [show O.length+2+1=O.length+3 from rfl,j4]<;>rfl) ?_
  refine R.loadOwnT (n:=O.length+1) (ho:=oat.trans rfl) (hset:=by rw [j4]<;>simp only [List.set_cons_succ,List.set_cons_zero]<;>rfl) jA ?_
  refine R.go ?_
  refine R.append jU Tryz.type45 ?_ ?_ ?_
  ·have h1:=Gv (take:=m.take) hTl.symm;have h2:=Dq C m.take;have h3:=hCo.1;have h4:=Hg (c:=C) (by_:=T) m.ahead (by simpa using ht44);have h5:=hmo.ahead.len;simp only [List.length_map,Tryz.t45];omega
  ·have h1:=Gv (take:=m.take) hTl.symm;have h2:=Dq C m.take;have h3:=hCo.1;have h4:=Hg (c:=C) (by_:=T) m.ahead (by simpa using ht44);have h5:=hmo.ahead.len;simp only [List.length_map,Tryz.t45];omega
  refine R.wk 62 _ (.strip true 6 _) ?_;refine R.go ?_;refine R.fin [6,8,25,26,27] ?_;refine O6 ?_;refine R.fin [6,8,25,26,27] ?_
  have hlp:ObjLow (Hp.length+(O.length+4)) (AObj.loop LoopState.exhausted none FR 65 #[53] as' bd' (oid Hp.length (O.length+2))):=⟨hFRl,by simp [oid]⟩
  have hOn:=hOl (j:=C.length) (o:=false) hlp
  have hse:C1 m.take (C.take C.length) (T.take C.length)=C1 m.take C T:=by rw [List.take_length,List.take_of_length_le (by omega)]
  rw [hse] at hOn
  refine K.lgN (k+1,O++[AObj.cells 64 (Fy m),AObj.cells 43 [AV.slice false 6 ((C1 m.take C T).map A4)],AObj.defs,AObj.loop LoopState.exhausted none FR 65 #[53] as' bd' (oid Hp.length (O.length+2))],(oid Hp.length (O.length+2))::Df) ⟨hlt,?_,?_,?_,?_,?_⟩ (by dsimp only;omega) (StCut.of_eq ?_) (by simp)
  ·subst hCd hTd hmd;exact rn hmk hnf ht44
  ·subst hCd hTd hmd;exact rp hmk hmo hTo ht44
  ·subst hCd hTd hmd;exact mx hmk (hmvo _ (List.getElem_mem hlt)) (Uf hst hmk) hTl ht44
  ·simpa using hOn
  ·intro o ho
   rcases List.mem_cons.1 ho with rfl|ho
   ·dsimp only;rw [Ln];rfl
   dsimp only;rw [←List.append_assoc];exact A5 (hDo o ho)
  dsimp only
  rw [n6 hmk,hCd,hTd]
  rfl
 have hke:k=l.length:=by simp at ht28;omega
 subst hke
 have hm2:=w5 hnf
 refine K.lgE ?_;refine K.thN ?_;refine Z17 ?_;refine Z18 ?_;exact K.fin (V.two V.tmp V.tmp) ⟨by rw [hm,hm2],rfl⟩ (hlow:=by simp only [Lk,List.mem_cons,List.mem_nil_iff,or_false];rintro y (rfl|rfl);exact C0;simp)

/-! slices.Backward of moves. -/
theorem c82 (l0:Nat) (ms:List Mov) (hml:ms.length≤1048576) (U:Nat→List AObj) (N:Nat→Prop) (Z:List AObj→Prop) (hlen:∀k,(U k).length=(U 0).length) (hll:l0<(U 0).length)
  (hlw:∀k,∀x∈U k,ObjLow (U 0).length x) (h0:N 0)
  (hy:∀k m X,k<ms.length→ms[ms.length-1-k]? = some m→N k→AYield Tryz.prog l0 [A2 ((ms.length-1-k:Nat):Int),E3 m] (U k++X) (fun b H'=>(b=true∧N (k+1)∧H'=U (k+1)++X)∨(b=false∧∃V,H'=V++X∧V.length=(U 0).length∧(∀x∈V,ObjLow (U 0).length x)∧Z V)))
  (hR:N ms.length→Z (U ms.length)):ACall Tryz.prog 82 [.yield l0,.ro [Cp ms]] (U 0) (fun _ H'=>Z H'):=by
 refine ACall.body [] [0,1] Tryz.func82 Tryz.ntmps82 (fun d=>?_)
 refine Z1 ?_
 refine R.go (h:=Q.sub64 (h2:=fun _=>by simp only [List.length_map];omega)) (hr:=?_)
 refine R.go ?_;refine R.fin [0,1,3] ?_
 refine AW.loopC (α:=Nat×Int) (fun s=>⟨19,A3 0 (.yield l0) (A3 1 (.ro [Cp ms]) (A3 3 (A2 s.2) (fun _=>.any))),U s.1,[],[],none⟩) (fun s=>s.1≤ms.length∧N s.1∧s.2=(ms.length:Int)-1-(s.1:Int)) (fun s=>ms.length-s.1) ((0,(ms.length:Int)-1)) ⟨Nat.zero_le _,h0,by simp⟩ (StLe.of_eq (by simp)) rfl (fun s hs=>?_)
 obtain ⟨x,i⟩:=s
 obtain ⟨hx,hN,hi⟩:=hs
 dsimp only at hx hN hi ⊢
 refine Z8 ?_;refine R.fin [0,1,3,8] ?_
 refine W.cond (fun ht8=>?_) (fun ht8=>?_)
 ·have hlt:x<ms.length:=by simp at ht8;omega
  have hlt2:ms.length-1-x<ms.length:=by omega
  have hi2:i=((ms.length-1-x:Nat):Int):=by omega
  subst hi2
  refine Z43 ?_;refine Z41 ?_
  refine R.go (h:=Q.indexAddr (ms.length-1-x) (E3 ms[ms.length-1-x]) (fun _=>Ae hlt2)) (hr:=?_)
  refine R.go ?_
  refine R.yield (l:=l0) (args:=[A2 ((ms.length-1-x:Nat):Int),E3 ms[ms.length-1-x]]) (hy x ms[ms.length-1-x] _ hlt (List.getElem?_eq_getElem hlt2) hN) ?_
  intro b V O hV hb
  have hVO:O=[]∧((b=true∧N (x+1)∧V=U (x+1))∨(b=false∧V.length=(U 0).length∧(∀y∈V,ObjLow (U 0).length y)∧Z V)):=by
   rcases hb with ⟨h1,h2,h3⟩|⟨h1,V',h2,h3,h4,h5⟩
   ·have h6:=List.append_inj h3 (by rw [hV,hlen x,hlen (x+1)])
    exact ⟨h6.2,.inl ⟨h1,h2,h6.1⟩⟩
   obtain ⟨rfl,rfl⟩:=List.append_inj h2 (by rw [hV,hlen x,h3])
   exact ⟨rfl,.inr ⟨h1,h3,h4,h5⟩⟩
  obtain ⟨rfl,hVO⟩:=hVO
  have hVl:V.length=(U 0).length:=by rw [hV,hlen x]
  have hVw:∀y∈V,ObjLow (U 0).length y:=by
   rcases hVO with ⟨_,_,rfl⟩|⟨_,_,h,_⟩
   ·exact hlw _
   exact h
  refine ⟨fun _=>by rw [hVl];exact hVw,fun o ho=>(by cases ho),?_⟩
  refine R.go ?_;refine R.fin [0,1,3,18] ?_
  refine W.cond (fun ht18=>?_) (fun ht18=>?_)
  ·have hZ:Z V:=by
    rcases hVO with ⟨h1,_,_⟩|⟨_,_,_,h⟩
    ·rw [h1] at ht18;cases ht18
    exact h
   refine Z72 ?_;refine K.lpR ?_;exact K.fin .nores (hp:=hZ)
  have hVn:N (x+1)∧V=U (x+1):=by
   rcases hVO with ⟨_,h2,h3⟩|⟨h1,_,_,_⟩
   ·exact ⟨h2,h3⟩
   rw [h1] at ht18;cases ht18
  obtain ⟨hN1,rfl⟩:=hVn
  refine Z64 ?_;refine R.fin [0,1,3] ?_
  refine K.lpN (x+1,((ms.length-1-x:Nat):Int)-1) ⟨hlt,hN1,by dsimp only;omega⟩ (by dsimp only;omega) ?_
  exact StCut.of_eq rfl
 have hxe:x=ms.length:=by simp at ht8;omega
 refine dw ?_;exact K.finN .nores (hp:=by rw [hxe];exact hR (hxe ▸ hN))

theorem c57 (l:List Mov) (Hp:List AObj):AFun Tryz.prog 57 [Cp l] Hp (.fn (.func 82) [] [.ro [Cp l]]):=by
 refine ACall.body [.tmp 2] [0] Tryz.func57 Tryz.ntmps57 (fun d=>?_)
 refine Z71 ?_;refine jh ?_;refine Xw ?_;exact K.fin (V.one V.tmp) ⟨rfl,rfl⟩ (hlow:=by simp [or_imp,forall_and];exact ⟨fun m _ a _=>Ac _ a,fun m _ a _=>Ac _ a⟩)

/-! fuse.Back: the trees of all columns ahead. -/
def N1:Mov:=⟨0,[],[],[],[]⟩
def Lc (c:List Col) (ms:List Mov) (i:Nat) (t:List Expr):List Expr×Int:=Aw (colsAt c ms (i+1)) t (ms.getD i N1).back
def Ir (take:List Str) (was t:List Expr) (d:List Col) (x:Col):Expr:=if 0≤Ig x.name take then was.getD (Ig x.name take).toNat Ab else t.getD (Aj x.name d).toNat Ab
def Gc (c:List Col) (take:List Str) (was t:List Expr) (d:List Col):List Expr:=c.map (Ir take was t d)
def Jy (c:List Col) (ms:List Mov):Nat→List Expr→List Expr×Int
 | 0,t=>(t,0)
 | i+1,t=>if (Lc c ms i t).2 != 0 then ([],(Lc c ms i t).2) else Jy c ms i (Gc (colsAt c ms i) (ms.getD i N1).take (Lc c ms i t).1 t (colsAt c ms (i+1)))
def Qp (c:List Col) (l:List Mov):List Expr×Int:=if (D9 c l).2 != 0 then ([],1) else Jy c l l.length (Hi (colsAt c l l.length))
def B8 (c:List Col) (ms:List Mov):Nat→List Expr
 | 0=>Hi (colsAt c ms ms.length)
 | k+1=>Gc (colsAt c ms (ms.length-1-k)) (ms.getD (ms.length-1-k) N1).take (Lc c ms (ms.length-1-k) (B8 c ms k)).1 (B8 c ms k) (colsAt c ms (ms.length-1-k+1))
theorem rq {c:List Col} {l:List Mov} (h:((D9 c l).2 != 0)=true):Qp c l=([],1):=if_pos h
theorem M2 {c:List Col} {l:List Mov} (h:((D9 c l).2 != 0)=false):Qp c l=Jy c l l.length (Hi (colsAt c l l.length)):=if_neg (by rw [h];simp)
theorem c8 {l:List Expr} {n:Nat}:l.getD n Ab∈l∨l.getD n Ab=Ab:=by
 rw [List.getD_eq_getElem?_getD]
 cases h:l[n]? with
 | none=>exact .inr rfl
 | some e=>exact .inl (List.mem_of_getElem? h)
theorem rr {take:List Str} {was t:List Expr} {d:List Col} {x:Col}:Ir take was t d x∈was∨Ir take was t d x∈t∨Ir take was t d x=Ab:=by
 unfold Ir
 split
 ·rcases c8 (l:=was) (n:=(Ig x.name take).toNat) with h|h
  ·exact .inl h
  exact .inr (.inr h)
 rcases c8 (l:=t) (n:=(Aj x.name d).toNat) with h|h
 ·exact .inr (.inl h)
 exact .inr (.inr h)
theorem n7 {c d:List Col} {take:List Str} {was t:List Expr} (hw:TOk was) (ht:TOk t):TOk (Gc c take was t d):=by
 have h0:okE 61 Ab:=⟨by simp [Ab,Expr.text],by simp [Ab,Expr.kids],fun z hz=>by simp [Ab,Expr.kids] at hz⟩
 refine ⟨fun e he=>?_,fun e he=>?_⟩<;>obtain ⟨x,_,rfl⟩:=List.mem_map.1 he<;>rcases rr (take:=take) (was:=was) (t:=t) (d:=d) (x:=x) with h|h|h
 ·exact hw.ok _ h
 ·exact ht.ok _ h
 ·rw [h];exact h0
 ·exact hw.rng _ h
 ·exact ht.rng _ h
 rw [h];rfl
/-- Where the way back stands behind k moves. -/
structure BackAt (c:List Col) (ms:List Mov) (k:Nat):Prop where
 eq:Jy c ms ms.length (Hi (colsAt c ms ms.length))=Jy c ms (ms.length-k) (B8 c ms k)
 ok:TOk (B8 c ms k)
 len:(B8 c ms k).length=(colsAt c ms (ms.length-k)).length
theorem BackAt.zero {c:List Col} {ms:List Mov} (hc:OkCols (colsAt c ms ms.length)):BackAt c ms 0:=⟨rfl,mw hc,by simp [B8,Hi]⟩
theorem BackAt.err {c:List Col} {ms:List Mov} {k:Nat} (h:BackAt c ms k) (hk:k<ms.length) (he:((Lc c ms (ms.length-1-k) (B8 c ms k)).2 != 0)=true):Jy c ms ms.length (Hi (colsAt c ms ms.length))=([],(Lc c ms (ms.length-1-k) (B8 c ms k)).2):=by
 rw [h.eq,show ms.length-k=ms.length-1-k+1 by omega,Jy,if_pos he]
theorem BackAt.next {c:List Col} {ms:List Mov} {k:Nat} (h:BackAt c ms k) (hk:k<ms.length) (hm:OkMov (ms.getD (ms.length-1-k) N1)) (he:((Lc c ms (ms.length-1-k) (B8 c ms k)).2 != 0)=false):BackAt c ms (k+1):=by
 refine ⟨?_,?_,?_⟩
 ·rw [h.eq,show ms.length-k=ms.length-1-k+1 by omega,Jy,if_neg (by rw [he];simp),show ms.length-(k+1)=ms.length-1-k by omega]
  rfl
 ·exact n7 (N0 h.ok _ hm.back.ok hm.back.rng (bne_eq_false_iff_eq.1 he)) h.ok
 rw [B8,Gc,List.length_map,show ms.length-(k+1)=ms.length-1-k by omega]
theorem BackAt.fin {c:List Col} {ms:List Mov} (h:BackAt c ms ms.length):Jy c ms ms.length (Hi (colsAt c ms ms.length))=(B8 c ms ms.length,0):=by
 have:=h.eq
 rw [Nat.sub_self] at this
 exact this
theorem n8 {v:Str} {l:List Str} (h:0≤Ig v l):∃j:Nat,Ig v l=j∧j<l.length:=by
 unfold Ig at h ⊢
 cases hf:l.findIdx? (·==v) with
 | none=>rw [hf] at h;exact absurd h (by decide)
 | some i=>exact ⟨i,rfl,(List.findIdx?_eq_some_iff_getElem.1 hf).1⟩
theorem rt {nm:Str} {c:List Col} {y:Col} (h:y∈c) (hn:y.name=nm):∃j:Nat,Aj nm c=j∧j<c.length:=by
 unfold Aj
 cases hf:c.findIdx? (fun y=>y.name==nm) with
 | none =>
  rw [List.findIdx?_eq_none_iff] at hf
  have:=hf y h
  rw [hn] at this
  simp at this
 | some i=>exact ⟨i,rfl,(List.findIdx?_eq_some_iff_getElem.1 hf).1⟩
/-- A column that is not taken is there behind the move. -/
theorem AA5 {c:List Col} {m:Mov} {y:Col} (ht:(Ap c m).2=0) (hy:y∈c) (hn:¬0≤Ig y.name m.take):∃j:Nat,Aj y.name (Ap c m).1=j∧j<(Ap c m).1.length:=by
 refine rt (y:=y) ?_ rfl
 rw [(Jx ht).1]
 refine List.mem_append_left _ ?_
 unfold Bi
 rw [List.mem_filter]
 refine ⟨hy,?_⟩
 rw [←U5,decide_eq_false hn]
 rfl
theorem X1 {c d:List Col} {take:List Str} {was t:List Expr} {z:Nat} (h:z<c.length):(Gc c take was t d).take (z+1)=(Gc c take was t d).take z++[Ir take was t d c[z]]:=by
 have hl:z<(Gc c take was t d).length:=by rw [Gc,List.length_map];exact h
 rw [List.take_succ_eq_append_getElem hl]
 simp [Gc]
theorem X2 {n k:Nat} {o:Bool} {l:List Expr}:∀z∈[AV.slice o k (l.map A4)],Low n z:=fun z hz=>by rw [List.mem_singleton.1 hz];exact C0
theorem AA6 {l:List Expr} {j:Nat} (h:j<l.length):(l.map A4)[j]? = some (A4 (l.getD j Ab)):=by
 rw [List.getElem?_map,List.getElem?_eq_getElem h,List.getD_eq_getElem?_getD,List.getElem?_eq_getElem h];rfl
theorem c28 (c:List Col) (hc:OkCols c) (hc2:c.length≤1000000) (l:List Mov) (h:OkMovs l) (Hp:List AObj):AFun Tryz.prog 28 [A9 c,Cp l] Hp (.tup [Ay (Qp c l).1,A2 (Qp c l).2]):=by
 refine ACall.body [.cell 4 43,.cell 5 27] [0,1] Tryz.func28 Tryz.ntmps28 (fun d=>?_)
 refine Z32 ?_;refine R.alloc jZ ?_;refine R.fin [0,1,4,5] ?_;refine Z1 ?_;refine R.call Tryz.call14 (c14 c hc hc2 l h _) ?_;refine Xz ?_;refine R.fin [1,4,5,6,7] ?_;refine Z8 ?_;refine R.fin [1,4,5,6,24] ?_
 refine W.cond (fun ht24=>?_) (fun ht24=>?_)
 ·have hm:=rq ht24
  refine D3 ?_;refine Fk ?_;refine R.nilOwn 0 6 ?_;refine Fk ?_;refine Z42 ?_;exact K.fin (V.two (V.cell jA) (V.cell jA)) ⟨by rw [hm]<;>rfl,rfl⟩
 have hm:=M2 ht24
 obtain ⟨hmay,hst,hss⟩:=La ht24
 have hmvo:=Ke hmay
 have hcn:=Eg hc (fun m hm=>h.each m hm) l.length
 have hlen:=h.len
 have hol:((B0 c l l.length).map A9).length=l.length+1:=by rw [List.length_map,Ff]
 rw [hss]
 refine Z5 ?_;refine Z41 ?_
 refine R.go (h:=Q.indexAddr (l.length) (A9 (colsAt c l l.length)) (fun _=>Zo (Gb (Nat.le_refl _)))) (hr:=?_)
 refine R.go ?_;refine R.call Tryz.call54 (c54 (colsAt c l l.length) hcn.len _) ?_;refine Z20 ?_;refine R.fin [1,4,5,6,8] ?_;refine Z68 ?_
 refine R.assumeLow (fun hlow=>?_)
 refine R.go ?_;refine R.call Tryz.call57 (c57 l _) ?_;refine R.fin [4,5,6,8,33] ?_;refine Fq ?_
 refine W.rangeV (m:=4) Tryz.call82 (fun FR as' bd' hFR has hbd=>?_)
 have hFRl:∀s,Low (Hp.length+6) (FR s):=by
  intro s
  rw [hFR]
  refine Low.strip ?_
  revert s
  repeat (first|exact Ar|refine Aq (by first|(simp [oid,or_imp,forall_and];done)|(simp [oid,or_imp,forall_and];exact ⟨fun m _ a _=>Ac _ a,fun m _ a _=>Ac _ a⟩)|(simp [oid,or_imp,forall_and]<;>omega)) ?_)
 have hOl:∀{e:Int} {t:List Expr} {lp:AObj},ObjLow (Hp.length+6) lp→∀x∈Hp++[AObj.cells 43 [AV.nil],AObj.cells 27 [A2 e],AObj.cells 34 [Hc (B0 c l l.length)],AObj.cells 43 [Ay (t)],AObj.defs,lp],ObjLow (Hp.length+6) x:=by
  intro e t lp hlp x hx
  refine Hn (fun x hx=>ObjLow.le (by omega) (hlow x hx)) (fun x hx=>?_) x hx
  simp only [List.mem_cons,List.mem_nil_iff,or_false] at hx
  rcases hx with rfl|rfl|rfl|rfl|rfl|rfl
  ·intro y hy;rw [List.mem_singleton.1 hy];simp
  ·intro y hy;rw [List.mem_singleton.1 hy];simp
  ·intro y hy;rw [List.mem_singleton.1 hy];exact Gu
  ·intro y hy;rw [List.mem_singleton.1 hy];exact C0
  ·trivial
  exact hlp
 refine ⟨_,c82 (oid Hp.length 5) l h.len (fun k=>Hp++[AObj.cells 43 [AV.nil],AObj.cells 27 [A2 0],AObj.cells 34 [Hc (B0 c l l.length)],AObj.cells 43 [Ay (B8 c l k)],AObj.defs,AObj.loop LoopState.ready none FR 91 #[34,35] as' bd' (oid Hp.length 4)]) (BackAt c l) (fun V=>(∃t,V=Hp++[AObj.cells 43 [AV.nil],AObj.cells 27 [A2 0],AObj.cells 34 [Hc (B0 c l l.length)],AObj.cells 43 [Ay (t)],AObj.defs,AObj.loop LoopState.ready none FR 91 #[34,35] as' bd' (oid Hp.length 4)]∧Qp c l=(t,0))∨(∃(e:Int) (t:List Expr),V=Hp++[AObj.cells 43 [AV.nil],AObj.cells 27 [A2 e],AObj.cells 34 [Hc (B0 c l l.length)],AObj.cells 43 [Ay (t)],AObj.defs,AObj.loop LoopState.done (some Code.ret) FR 91 #[34,35] as' bd' (oid Hp.length 4)]∧Qp c l=([],e))) (fun k=>by simp) (by simp [oid]) (fun k=>(fun x hx=>by rw [List.length_append];exact hOl (lp:=AObj.loop LoopState.ready none FR 91 #[34,35] as' bd' (oid Hp.length 4)) (by exact ⟨hFRl,by simp [oid]⟩) x hx)) (.zero hcn) (fun k m X hk hm hN=>?_) (fun hN=>.inl ⟨_,rfl,by rw [M2 (by simpa using ht24),hN.fin]⟩),?_⟩
 ·generalize hV:Hp++[AObj.cells 43 [AV.nil],AObj.cells 27 [A2 0],AObj.cells 34 [Hc (B0 c l l.length)],AObj.cells 43 [Ay (B8 c l k)],AObj.defs,AObj.loop LoopState.ready none FR 91 #[34,35] as' bd' (oid Hp.length 4)]++X=V
  have hL:V[oid Hp.length 5]? = some (AObj.loop LoopState.ready none FR 91 #[34,35] as' bd' (oid Hp.length 4)):=by rw [←hV,List.append_assoc,Ao];rfl
  have hA0:V[oid Hp.length 0]? = some (AObj.cells 43 [AV.nil]):=by rw [←hV,List.append_assoc,Ao];rfl
  have hB0:V[oid Hp.length 1]? = some (AObj.cells 27 [A2 0]):=by rw [←hV,List.append_assoc,Ao];rfl
  have hS0:V[oid Hp.length 2]? = some (AObj.cells 34 [Hc (B0 c l l.length)]):=by rw [←hV,List.append_assoc,Ao];rfl
  have hZ0:V[oid Hp.length 3]? = some (AObj.cells 43 [Ay (B8 c l k)]):=by rw [←hV,List.append_assoc,Ao];rfl
  refine AYield.ofRound (pd:=none) (fr:=FR) (sz:=91) (ps:=#[34,35]) (df:=oid Hp.length 4) (asg:=as') (bd:=bd') hL rfl (by decide) (fun d=>?_)
  subst hFR has hbd
  refine W.keep [4,5,6,8,34,35] ?_
  have hgm:l.getD (l.length-1-k) N1=m:=by rw [List.getD_eq_getElem?_getD,hm];rfl
  have hmo:=h.each m (List.mem_of_getElem? hm)
  have hmv:=hmvo m (List.mem_of_getElem? hm)
  have htn:=Uf hst hm
  have hcn:=Dw (c:=c) hm
  have hCo:=Eg hc (fun m hm=>h.each m hm) (l.length-1-k+1)
  have hCi:=Eg hc (fun m hm=>h.each m hm) (l.length-1-k)
  have herr:=hN.err hk
  have hnxt:=hN.next hk (by rw [hgm];exact hmo)
  have htb:B8 c l (k+1)=Gc (colsAt c l (l.length-1-k)) m.take (Lc c l (l.length-1-k) (B8 c l k)).1 (B8 c l k) (colsAt c l (l.length-1-k+1)):=by rw [B8,hgm]
  have hwe:Lc c l (l.length-1-k) (B8 c l k)=Aw (colsAt c l (l.length-1-k+1)) (B8 c l k) m.back:=by unfold Lc;rw [hgm]
  rw [hwe] at herr hnxt htb
  have htl:(B8 c l k).length=(colsAt c l (l.length-1-k+1)).length:=by rw [hN.len,show l.length-k=l.length-1-k+1 by omega]
  have hik:l.length-1-k<l.length:=by omega
  generalize l.length-1-k=i at *
  refine Z2 ?_;refine R.fin [4,5,6,8,9,35] ?_;refine AW.region ?_;refine Z20 ?_;refine R.fin [4,5,6,8,9,10] ?_
  refine ⟨rfl,none,hL,?_⟩
  generalize hbz:(AObj.loop LoopState.busy _ _ _ _ _ _ _)=bz
  have hA:(V.set (oid Hp.length 5) bz)[oid Hp.length 0]? = some (AObj.cells 43 [AV.nil]):=by rw [List.getElem?_set_ne (C5 (by decide))];exact hA0
  have hB:(V.set (oid Hp.length 5) bz)[oid Hp.length 1]? = some (AObj.cells 27 [A2 0]):=by rw [List.getElem?_set_ne (C5 (by decide))];exact hB0
  have hS:(V.set (oid Hp.length 5) bz)[oid Hp.length 2]? = some (AObj.cells 34 [Hc (B0 c l l.length)]):=by rw [List.getElem?_set_ne (C5 (by decide))];exact hS0
  have hZ:(V.set (oid Hp.length 5) bz)[oid Hp.length 3]? = some (AObj.cells 43 [Ay (B8 c l k)]):=by rw [List.getElem?_set_ne (C5 (by decide))];exact hZ0
  refine Fq ?_;refine W.drawQ [0,1,0,0,8,28,60,0,255,511,1023,1023,2047,8191] 13 Ad (by kernel_rfl) ?_;refine Z14 ?_
  refine D.go (h:=Q.loadUp hS) (hr:=?_)
  refine Z14 ?_
  refine D.go (h:=Q.indexAddr ((i+1)) (A9 (colsAt c l (i+1))) (fun _=>Zo (Gb (by omega)))) (hr:=?_)
  refine D.go ?_
  refine D.go (h:=Q.loadUp hZ) (hr:=?_)
  refine D.call Tryz.call55 (c55 m.back hmo.back.len hmo.back.ok (colsAt c l (i+1)) hCo (B8 c l k) (by have:=hCo.len;omega) hN.ok.ok _) ?_
  refine Z81 ?_;refine V7 ?_;refine R.fin [4,5,6,8,9,10,11,12] ?_;refine Z8 ?_;refine R.fin [4,5,6,8,9,10,11,12,49] ?_
  refine W.cond (fun ht49=>?_) (fun ht49=>?_)
  ·have herr:=herr ht49
   refine Z2 ?_
   refine R.storeUp jS hA ?_ ?_
   ·simp
   refine R.storeUp jS (zy hB (C5 (by decide))) ?_ ?_
   ·simp
   refine jo ?_;refine K.blR ?_
   subst hbz
   refine ue ?_
   refine .inr ⟨rfl,Hp++[AObj.cells 43 [AV.nil],AObj.cells 27 [A2 (Aw (colsAt c l (i+1)) (B8 c l k) m.back).2],AObj.cells 34 [Hc (B0 c l l.length)],AObj.cells 43 [Ay (B8 c l k)],AObj.defs,_],?_,by simp,(fun x hx=>by rw [List.length_append];exact hOl (lp:=_) (by exact ⟨hFRl,by simp [oid]⟩) x hx),.inr ⟨_,_,rfl,by rw [M2 (by simpa using ht24)];exact herr⟩⟩
   subst hV
   simp only [List.append_assoc,Dj,List.cons_append,List.nil_append,List.set_cons_succ,List.set_cons_zero]
  have hB1:=hnxt ht49
  have hwl:(Aw (colsAt c l (i+1)) (B8 c l k) m.back).1.length=m.take.length:=(Hg m.back (by simpa using ht49)).trans (Do (I6 hmv)).2
  refine Kf ?_;refine R.fin [6,8,9,10,11,13] ?_;refine Z68 ?_;refine R.nilSl 13 6 ?_
  refine R.go (h:=Q.loadUp hS) (hr:=?_)
  refine R.go ?_
  refine R.go (h:=Q.indexAddr (i) (A9 (colsAt c l i)) (fun _=>Zo (Gb (by omega)))) (hr:=?_)
  refine Z23 ?_;refine p9 ?_
  refine AW.loopC (α:=Nat) (fun z=>⟨91,A3 6 (.ptr (oid Hp.length 2) 0) (A3 8 (.ptr (oid Hp.length 3) 0) (A3 9 (A2 (i:Nat)) (A3 10 (.ptr (oid V.length 0) 0) (A3 11 (Ay (Aw (colsAt c l (i+1)) (B8 c l k) m.back).1) (A3 13 (.slice true 6 (((Gc (colsAt c l i) m.take (Aw (colsAt c l (i+1)) (B8 c l k) m.back).1 (B8 c l k) (colsAt c l (i+1))).take z).map A4)) (A3 54 (A9 (colsAt c l i)) (A3 55 (A2 ((colsAt c l i).length:Nat)) (A3 56 (A2 (z:Nat)) (fun _=>.any))))))))),(V.set (oid Hp.length 5) bz),[AObj.cells 64 (Fy m)],[],some _⟩) (fun z=>z≤(colsAt c l i).length) (fun z=>(colsAt c l i).length-z) (0) (Nat.zero_le _) (StLe.of_eq (by simp<;>rfl)) rfl (fun z hz=>?_)
  refine Z2 ?_;refine R.fin [6,8,9,10,11,13,54,55,56,57] ?_
  refine W.condX (fun ht57=>?_) (fun ht57=>?_)
  ·have hz2:z<(colsAt c l i).length:=by simpa using ht57
   have hnl:((Gc (colsAt c l i) m.take (Aw (colsAt c l (i+1)) (B8 c l k) m.back).1 (B8 c l k) (colsAt c l (i+1))).take z).length≤z:=List.length_take_le _ _
   have hcl:=hCi.len
   refine O2 ?_
   refine R.go (h:=Q.indexAddr (z) (Ak (colsAt c l i)[z]) (fun _=>Ae hz2)) (hr:=?_)
   refine O5 ?_;refine R.fin [6,8,9,10,11,13,15,54,55,56] ?_;refine Z57 ?_;refine R.call Tryz.call58 (c58 m.take (colsAt c l i)[z].name hmo.takes _) ?_;refine R.go ?_;refine R.fin [6,8,9,10,11,13,15,16,54,55,56] ?_;refine Z1 ?_;refine R.fin [6,8,9,10,11,13,15,16,54,55,56,66] ?_
   refine W.cond (fun ht66=>?_) (fun ht66=>?_)
   ·obtain ⟨j,hj,hjl⟩:=n8 (by simpa using ht66)
    have hpk:Ir m.take (Aw (colsAt c l (i+1)) (B8 c l k) m.back).1 (B8 c l k) (colsAt c l (i+1)) (colsAt c l i)[z]=(Aw (colsAt c l (i+1)) (B8 c l k) m.back).1.getD j Ab:=by unfold Ir;rw [if_pos (by rw [hj];omega),hj];rfl
    refine D3 ?_;refine R.moveT ?_;refine Z0 ?_
    refine R.go (h:=Q.indexAddr (j) (A4 ((Aw (colsAt c l (i+1)) (B8 c l k) m.back).1.getD j Ab)) (fun _=>AA6 (by omega))) (hr:=?_)
    refine Z75 ?_
    refine R.append jU Tryz.type45 ?_ ?_ ?_
    ·simp only [List.length_map,List.length_append,List.length_cons,List.length_nil,Tryz.t45];omega
    ·simp only [List.length_map,List.length_append,List.length_cons,List.length_nil,Tryz.t45];omega
    refine Ic ?_;refine p9 ?_;refine Z30 ?_;refine K.blE ?_;refine K.thN ?_;refine Z11 ?_;refine yf ?_
    rw [X1 hz2,hpk,List.map_append]
    simp only [List.map_cons,List.map_nil,A8]
    exact StCut.take (own:=[AObj.cells 64 (Fy m)]) (fun _=>.refl _) (by repeat (first|exact Ar|refine Aq (by first|(simp [oid,or_imp,forall_and];done)|exact C0|exact He|exact Ik|exact Cm|(simp [oid,←hV];done)|(simp [oid,←hV];omega)) ?_)) (by intro x hx;rw [List.mem_singleton.1 hx];exact Ly) (by simp)
   have hjn:¬0≤Ig (colsAt c l i)[z].name m.take:=by simpa using ht66
   obtain ⟨j,hj,hjl⟩:=AA5 htn (List.getElem_mem hz2) hjn
   rw [←hcn] at hj hjl
   have hpk:Ir m.take (Aw (colsAt c l (i+1)) (B8 c l k) m.back).1 (B8 c l k) (colsAt c l (i+1)) (colsAt c l i)[z]=(B8 c l k).getD j Ab:=by unfold Ir;rw [if_neg hjn,hj];rfl
   refine Z5 ?_;refine W.drawY0 [0,0,0,0,8,28,60,0,128,508,1022,2046,4094,8191,16383] [] [.s [13,74] none [] [],.q 12 [] []] (fun _=>(V.set (oid Hp.length 5) bz)) (fun _=>[AObj.cells 64 (Fy m),AObj.cells 58 [A6 (colsAt c l i)[z].name,A2 (colsAt c l i)[z].kind]]) Ad (by kernel_rfl) rfl rfl (fun _=>rfl) ?_;refine Y.moveT ?_
   apply Y.q
   case h1 =>
    intro B hT hF
    refine D.go (h:=Q.loadUp hZ) (hr:=?_)
    refine D.go (h:=Q.loadUp hS) (hr:=?_)
    refine Z14 ?_
    refine D.go (h:=Q.indexAddr ((i+1)) (A9 (colsAt c l (i+1))) (fun _=>Zo (Gb (by omega)))) (hr:=?_)
    refine Z53 ?_;refine D.call Tryz.call59 (c59 (colsAt c l (i+1)) hCo (colsAt c l i)[z].name _) ?_
    refine D.go (h:=Q.indexAddr (j) (A4 ((B8 c l k).getD j Ab)) (fun _=>AA6 (by omega))) (hr:=?_)
    exact jg
   case hTF=>decide
   refine Y.tail (tn:=[])  ?_
   refine R.append jU Tryz.type45 ?_ ?_ ?_
   ·simp only [List.length_map,List.length_append,List.length_cons,List.length_nil,Tryz.t45];omega
   ·simp only [List.length_map,List.length_append,List.length_cons,List.length_nil,Tryz.t45];omega
   refine Ic ?_;refine p9 ?_;refine O6 ?_;refine yf ?_
   rw [X1 hz2,hpk,List.map_append]
   simp only [List.map_cons,List.map_nil,A8]
   exact StCut.take (own:=[AObj.cells 64 (Fy m)]) (fun _=>.refl _) (by repeat (first|exact Ar|refine Aq (by first|(simp [oid,or_imp,forall_and];done)|exact C0|exact He|exact Ik|exact Cm|(simp [oid,←hV];done)|(simp [oid,←hV];omega)) ?_)) (by intro x hx;rw [List.mem_singleton.1 hx];exact Ly) (by simp)
  have hze:(colsAt c l i).length≤z:=by simpa using ht57
  refine Z26 ?_;refine Z61 ?_
  refine R.storeUp jS hZ ?_ ?_
  ·exact X2
  refine Z65 ?_
  subst hbz
  refine oy ?_
  refine .inl ⟨rfl,hB1,?_⟩
  subst hV
  simp only [List.append_assoc,Dj,List.cons_append,List.nil_append,List.set_cons_succ,List.set_cons_zero]
  rw [htb,List.take_of_length_le (by rw [Gc,List.length_map];exact hze)]
 rintro r H' (⟨t,rfl,hrun⟩|⟨e,t,rfl,hrun⟩)
 ·refine ⟨Hp,_,_,_,rfl,rfl,fun h=>h,?_,rfl,by simp,?_⟩
  ·intro o ho
   have:o=oid Hp.length 4:=by simpa using ho
   subst this
   rw [Ao]
   rfl
  refine Z9 ?_;refine Xv ?_;refine Fk ?_;refine Z18 ?_;exact K.fin (V.two (V.cell jA) (V.cell jA)) ⟨by rw [hrun],rfl⟩ (hlow:=by simp only [Lk,List.mem_cons,List.mem_nil_iff,or_false];rintro y (rfl|rfl);exact C0;simp)
 refine ⟨Hp,_,_,_,rfl,rfl,fun h=>h,?_,rfl,by simp,?_⟩
 ·intro o ho
  have:o=oid Hp.length 4:=by simpa using ho
  subst this
  rw [Ao]
  rfl
 refine W.nilOwn 0 6 ?_;refine Z72 ?_;exact K.fin (V.two (V.cell jA) (V.cell jA)) ⟨by rw [hrun];rfl,rfl⟩

/-! How long plan.Text's pieces are. -/
section
variable {O X U:List AObj} {i:Nat} {b y:AObj}
end
/-- Moves whose numbers are ones of 64 bits. -/
structure RngMv (m:Mov):Prop where
 ahead:∀e∈m.ahead,Cs Gg e=true
 back:∀e∈m.back,Cs Gg e=true
theorem X3 {l:List Expr} (h20:l.length≤1048576) (h:l.any Nm=false) (hr:∀e∈l,Cs Gg e=true):OkEs l:=by
 have h1:∀e∈l,Slim e:=fun e he=>ay (by
  rw [List.any_eq_false] at h
  simpa using h e he)
 exact ⟨h20,fun e he=>(h1 e he).ok,fun e he=>by have:=(h1 e he).size;omega,hr⟩
theorem gi {m:Mov} (h:Ha m=false) (hr:RngMv m):OkMov m:=by
 unfold Ha at h
 simp only [Bool.or_eq_false_iff,decide_eq_false_iff_not] at h
 obtain ⟨⟨⟨⟨⟨⟨h1,h2⟩,h3⟩,h4⟩,h5⟩,h6⟩,h7⟩:=h
 have h50:m.give.length≤1000000:=by
  unfold Ez at h1
  simp only [Bool.or_eq_false_iff,decide_eq_false_iff_not] at h1
  omega
 refine ⟨by omega,fun s hs=>?_,b8 h1,h50,X3 (by omega) h6 hr.ahead,X3 (by omega) h7 hr.back⟩
 rw [List.any_eq_false] at h5
 have:=h5 s hs
 simp only [decide_eq_true_eq] at this
 omega
theorem Su {l:List Mov} (h:Fe l=false) (hr:∀m∈l,RngMv m):OkMovs l:=by
 unfold Fe at h
 simp only [Bool.or_eq_false_iff,decide_eq_false_iff_not] at h
 refine ⟨by omega,fun m hm=>gi ?_ (hr m hm)⟩
 rw [List.any_eq_false] at h
 simpa using h.2 m hm
/-! ref21.Over: names that nothing has stand between. -/
/-! How great the trees of ref21.Over are on the way. -/
theorem N2 {take:List Str}:∀{c:List Col} {l:List Expr},C1 take c l=((c.zip l).filter fun p => !take.contains p.1.name).map (·.2)
 | [],[]=>rfl
 | [],_::_=>rfl
 | _::_,[]=>rfl
 | y::c,x::l=>by
  rw [C1,List.zip_cons_cons,List.filter_cons]
  cases h:take.contains y.name with
  | true=>simp only [Bool.not_true,Bool.false_eq_true,if_false,if_true];exact N2
  | false=>simp only [Bool.not_false,Bool.false_eq_true,if_false,if_true,List.map_cons];rw [N2]
theorem Sv {take:List Str}:∀{c:List Col} {l:List Expr},c.length=l.length→Bi c take=((c.zip l).filter fun p => !take.contains p.1.name).map (·.1)
 | [],[],_=>rfl
 | [],_::_,h=>by simp at h
 | _::_,[],h=>by simp at h
 | y::c,x::l,h=>by
  have ih:=Sv (take:=take) (c:=c) (l:=l) (by simpa using h)
  unfold Bi at ih ⊢
  rw [List.zip_cons_cons,List.filter_cons,List.filter_cons]
  cases h:take.contains y.name with
  | true=>simp only [Bool.not_true,Bool.false_eq_true,if_false];exact ih
  | false=>simp only [Bool.not_false,if_true,List.map_cons];rw [ih]
/-! The trees of all columns ahead, from the last move to the first. -/
def Eo (c:List Col):List Mov→List Expr×Int
 | []=>(Hi c,0)
 | m::r=>if (Eo (Ap c m).1 r).2 != 0 then ([],(Eo (Ap c m).1 r).2) else if (Aw (Ap c m).1 (Eo (Ap c m).1 r).1 m.back).2 != 0 then ([],(Aw (Ap c m).1 (Eo (Ap c m).1 r).1 m.back).2)
  else (Gc c m.take (Aw (Ap c m).1 (Eo (Ap c m).1 r).1 m.back).1 (Eo (Ap c m).1 r).1 (Ap c m).1,0)
theorem Qq {c:List Col} {m:Mov} {r:List Mov} (h:(Bj c (m::r)).2=0):(Ap c m).2=0∧(Bj (Ap c m).1 r).2=0:=by
 unfold Bj at h
 split at h
 ·rename_i h1;exact absurd h (by simpa using h1)
 rename_i h1;exact ⟨by simpa using h1,h⟩
set_option maxHeartbeats 1000000 in
/-! mig.Parse: the first fault is Xr. -/
inductive PR (α:Type) where
 | ok (r:α) (i:Nat)
 | bad (e a:Int)
def PR.bind {α β:Type} (x:PR α) (f:α→Nat→PR β):PR β:=match x with
 | .ok r i=>f r i
 | .bad e a=>.bad e a
def Sw {α:Type} (L:List Tok) (i:Nat) (e:Int):PR α:=.bad e (A7 L i).at_
def isP (L:List Tok) (s:Str) (i:Nat):Bool:=(((A7 L i).kind==5) || ((A7 L i).kind==2))&&((A7 L i).text==s)
def Bl (L:List Tok) (s:Str) (i:Nat):PR Unit:=if isP L s i then .ok () (i+1) else Sw L i 8
def Ep (L:List Tok) (i:Nat):PR Str:=if (A7 L i).kind != 1 then Sw L i 8 else .ok (A7 L i).text (i+1)
def ca (L:List Tok) (nm:Str) (j:Nat):PR Col:=if ((A7 L j).kind != 2) || (No (A7 L j).text==0) then Sw L j 8 else .ok ⟨nm,No (A7 L j).text⟩ (j+1)
def Gr (L:List Tok) (i:Nat):PR Col:=(Ep L i).bind (ca L)
def Is (L:List Tok) (i:Nat):PR Expr:=if (atM L i).2.2.1 != 0 then .bad (atM L i).2.2.1 (atM L i).2.2.2 else .ok (atM L i).1 (atM L i).2.1.toNat
def C4 (m:Mov) (c:Col):Mov:={ m with give:=m.give++[c] }
def cb (m:Mov) (x:Expr):Mov:={ m with ahead:=m.ahead++[x] }
def Cz (L:List Tok) (m:Mov) (i:Nat):PR Mov:=(Gr L i).bind fun c j=>(Bl L [61] j).bind fun _ j=>(Is L j).bind fun x j=>.ok (cb (C4 m c) x) j
def Nu (L:List Tok) (n:Int) (k:Nat) (i:Nat):Bool:=decide ((k:Int)<n) || ((n==0)&&(decide ((k:Int)<2) || isP L [44] i))
/-- Things with commas between, behind the first k. -/
def M3 (L:List Tok) (n:Int) (one:Mov→Nat→PR Mov):Nat→Nat→Mov→Nat→PR Mov
 | 0,_,m,i=>.ok m i
 | f+1,k,m,i=>if Nu L n k i then (Bl L [44] i).bind fun _ j=>(one m j).bind fun m j=>M3 L n one f (k+1) m j else .ok m i
def Fg (L:List Tok) (n:Int) (one:Mov→Nat→PR Mov) (m:Mov) (i:Nat):PR Mov:=(one m i).bind fun m j=>M3 L n one (L.length+1) 1 m j
def n9:Str:=[98,97,99,107]
def Gl:Str:=[105,110,116,111]
def toW:Str:=[116,111]
def cd (m:Mov) (x:Expr):Mov:={ m with back:=m.back++[x] }
def Nv (L:List Tok) (m:Mov) (i:Nat):PR Mov:=(Is L i).bind fun x j=>.ok (cd m x) j
def Dt (L:List Tok) (m:Mov) (i:Nat):PR Mov:=(Bl L n9 i).bind fun _ j=>Fg L m.take.length (Nv L) m j
def Gs (L:List Tok) (m:Mov) (i:Nat):PR Mov:=(Ep L i).bind fun s j=>(Bl L toW j).bind fun _ j=>(Ep L j).bind fun t j=>.ok ⟨m.kind,[s],[⟨t,0⟩],[Bd s],[Bd t]⟩ j
def takeS (m:Mov) (s:Str):Mov:={ m with take:=[s] }
def ce (m:Mov) (s:Str):Mov:={ m with take:=m.take++[s] }
def M4 (L:List Tok) (m:Mov) (i:Nat):PR Mov:=(Ep L i).bind fun s j=>.ok (ce m s) j
def Fh (L:List Tok) (m:Mov) (i:Nat):PR Mov:=
 if m.kind==1 then Cz L m i
 else if m.kind==2 then (Ep L i).bind fun s j=>Dt L (takeS m s) j
 else if m.kind==3 then Gs L m i
 else if m.kind==4 then (Ep L i).bind fun s j=>(Bl L Gl j).bind fun _ j=>(Fg L 0 (Cz L) (takeS m s) j).bind fun m j=>Dt L m j
 else if m.kind==5 then (Fg L 0 (M4 L) m i).bind fun m j=>(Bl L Gl j).bind fun _ j=>(Cz L m j).bind fun m j=>Dt L m j
 else if m.kind==6 then (Cz L m i).bind fun m j=>Dt L (takeS m (m.give.getD 0 ⟨[],0⟩).name) j
 else .ok m i
def migWords:List Str:=[[],[97,100,100],[100,114,111,112],[114,101,110,97,109,101],[115,112,108,105,116],[109,101,114,103,101],[114,101,116,121,112,101]]
def Cj (k:Int):Str:=if (decide (k<1) || decide (6<k))=true then [] else migWords.getD k.toNat []
def Et (s:Str):Int:=if Cj 1==s then 1 else if Cj 2==s then 2 else if Cj 3==s then 3 else if Cj 4==s then 4 else if Cj 5==s then 5 else if Cj 6==s then 6 else 0
def Jz (L:List Tok) (i:Nat):PR Mov:=
 if ((A7 L i).kind != 2) || (Et (A7 L i).text==0) then Sw L i 8
 else (Fh L ⟨Et (A7 L i).text,[],[],[],[]⟩ (i+1)).bind fun m j=>(Bl L [59] j).bind fun _ j=>.ok m j
/-- Moves, behind some. -/
def Il (L:List Tok):Nat→List Mov→Nat→PR (List Mov)
 | 0,l,i=>.ok l i
 | f+1,l,i=>if (A7 L i).kind != 0 then (if (l.length:Int)==8 then Sw L i 3 else (Jz L i).bind fun m j=>Il L f (l++[m]) j) else .ok l i
def Gi (L:List Tok):PR (List Mov):=Il L 9 [] 0
/-- The moves; the fault's code and place. -/
def Zz (s:Str):List Mov×Int×Int:=
 if (Ee s).2.1 != 0 then ([],(Ee s).2.1,(Ee s).2.2)
 else match Gi (Ee s).1 with
  | .ok l _=>(l,0,0)
  | .bad e a=>([],e,a)
end Go.SX.Nb
namespace Go.SX
variable [GI:GlobInv]
open Classical
section
variable {P:Program} {d:Nat}
variable {sz:Nat} {dfs:List Nat} {rnd:Option Nat} {l0:List Oper} {up own:(Nat→Bool)→List AObj} {KP:List PanicEntry→St→Prop} {E:List Oper→(Nat→AV)→Prop} {S:List SegY} {l:List Oper} {fr:Nat→AV} {ty:TypeId} {pos:String} {aft:Array Edge} {s:Nat} {T F:List Nat}
end
section
variable {P:Program} {d:Nat} {ops:Array Oper}
theorem AW.upEq {c:Code} {sz:Nat} {fr:Nat→AV} {up up' own:List AObj} {dfs:List Nat} {rnd:Option Nat} {K:Exit→St→Prop} (e:up=up') (h:AW P d c ⟨sz,fr,up',own,dfs,rnd⟩ K):AW P d c ⟨sz,fr,up,own,dfs,rnd⟩ K:=e ▸ h
end
end Go.SX
namespace Go.SX
variable [GI:GlobInv]
open Classical
section
variable {P:Program} {d:Nat} {st:St} {ty:TypeId} {pos:String} {aft:Array Edge} {gd:Option (Nat×Bool)}
/-- A variable of its own, not laid yet. -/
theorem AOp.allocP {t:TypeId} {z:Value} {k s:Nat} (hz:∀w,(zeroValue t).run P w=.ok z w) (hk:z.cells.size=k) (hs:s<st.sz):
  AOp P d ⟨some s,.alloc t,ty,pos,aft,gd⟩ st (·=st.set s (.cellp k)):=by
 subst hk
 intro G a w h Q'
 let G':Gh:={ G with tag:=fun b o=>if b=w.heap.size∧o<z.cells.size then .tail (.slot d s) else G.tag b o }
 have hfree:∀o,G.tag w.heap.size o=.free:=fun o=>Cw h.tags _ o (Nat.le_refl _)
 have hne:∀b o,G.tag b o≠.free→¬(b=w.heap.size∧o<z.cells.size):=fun b o hb hc=>by rw [hc.1] at hb;exact hb (hfree o)
 have hkeep:∀b o,G.tag b o≠.free→G'.tag b o=G.tag b o:=fun b o hb=>by simp only [G'];rw [if_neg (hne b o hb)]
 have hcell:∀b o,G.tag b o≠.free→(w.alloc (.cells z.cells t)).cell? ⟨b,o,none⟩=w.cell? ⟨b,o,none⟩:=fun b o hb=>by
  refine World.cell?_alloc_old _ _ _ ?_
  show b≠w.heap.size
  rintro rfl
  exact hb (hfree o)
 have T:Turn G w G' (w.alloc (.cells z.cells t)):=by
  refine ⟨fun b o hb=>⟨by rw [hkeep b o (by rw [hb];simp)];exact hb,hcell b o (by rw [hb];simp)⟩,fun b o L hb=>by rw [hkeep b o (by rw [hb];simp)];exact hb,fun b o i hb=>by rw [hkeep b o (by rw [hb];simp)];exact hb,Nat.le_refl _,fun o ho=>rfl,rfl,rfl,rfl,by simp,Still.alloc _ (fun b o hb=>.inl (by simp only [G'];rw [if_neg (by omega)])) (fun i hi=>.inl ⟨hi,rfl⟩)⟩
 have h1:StRel d G' st a (w.alloc (.cells z.cells t)):=by
  refine h.turn (U:=st.up) (O:=st.own) T ⟨fun i x hx=>T.objRel ?_ ?_ (h.heap.obj i x hx) (fun b hb=>?_),h.heap.n,h.heap.inj⟩ rfl h.defsAt ⟨fun b o hb=>?_,fun b o i hb=>?_,fun b o L hb=>?_,h.tags.globKeep T.old⟩ h.low
  ·rw [h.heap.n];exact (List.getElem?_eq_some_iff.1 hx).1
  ·have:=(h.heap.obj i x hx).blt
   show (w.heap.push _)[G.blk i]? = _
   rw [Array.getElem?_push,if_neg (by omega)]
  ·have:=hb.lt
   show (w.heap.push _)[b]? = _
   rw [Array.getElem?_push,if_neg (by omega)]
  ·simp only [G'] at hb
   split at hb
   ·rename_i hc
    obtain ⟨rfl,hlt⟩:=hc
    exact ⟨z.cells[o],by rw [World.cell?_alloc_new];exact Array.getElem?_eq_getElem hlt⟩
   rw [hcell b o hb]
   exact h.tags.ex b o hb
  ·simp only [G'] at hb
   split at hb
   ·cases hb
   rw [World.frozen?_alloc_old]
   ·exact h.tags.obj b o i hb
   show b≠w.heap.size
   rintro rfl
   rw [hfree] at hb;cases hb
  simp only [G'] at hb
  split at hb
  ·rename_i hc
   obtain ⟨rfl,hlt⟩:=hc
   exact World.frozen?_alloc_new _ _ _ _
  rw [World.frozen?_alloc_old]
  ·exact h.tags.tail b o L hb
  show b≠w.heap.size
  rintro rfl
  rw [hfree] at hb;cases hb
 have hrun:(execOp a.eval (⟨some s,.alloc t,ty,pos,aft,gd⟩:Oper)).run P w=.ok (.value (.pointer (some ⟨w.heap.size,0,none⟩))) (w.alloc (.cells z.cells t)):=by
  simp [execOp,Instr.alloc,hz,newVar,newRow]
 refine Bm (by intro c h;cases h) hrun ⟨G',_,h1.put (s:=s) (y:=.cellp z.cells.size) hs ?_,T.keep d,rfl,rfl,rfl,rfl⟩
 exact .cellp _ _ _ ⟨_,rfl,fun o ho=>by simp [G',ho]⟩

/-- It is laid: from now on nobody writes it. -/
theorem AOp.storeP {t:TypeId} {x:Operand} {r k:Nat} {y:AV} (hsz:∀w,(sizeOf t).run P w=.ok k w) (hf:st.fr r=.cellp k) (hx:st.ev x=y) (hk:y.cells.length=k) (hk0:0<k) (h1:y.cells.all AV.one=true):
  AOp P d ⟨none,.store t (.tmp r) x,ty,pos,aft,gd⟩ st (·=st.set r (.ro y.cells)):=by
 intro G a w h Q'
 have hone:∀c∈y.cells,c.one=true:=fun c hc=>List.all_eq_true.1 h1 c hc
 obtain ⟨hc,hcc⟩:=(hx ▸ h.eval x).cells hone
 have hsl:=h.slots r
 rw [hf] at hsl
 generalize hv:a.tmps.getD r undef=v at hsl
 cases hsl with
 | cellp l k b ho =>
  obtain ⟨L,hL,ht⟩:=ho
  injection hL with hL
  subst hL
  let us:=(a.eval x).cells.toList
  have hul:us.length=k:=by simp only [us,Array.length_toList];omega
  have huone:∀u∈us,u.oneCell'=true:=fun u hu=>by
   obtain ⟨j,hj⟩:=List.getElem?_of_mem hu
   have hj':(a.eval x).cells[j]? = some u:=by rw [←Array.getElem?_toList];exact hj
   have hlt:j<y.cells.length:=by rw [←hc];exact (Array.getElem?_eq_some_iff.1 hj').1
   exact (hcc j _ u (List.getElem?_eq_getElem hlt) hj').one (hone _ (List.getElem_mem hlt))
  have hrun0:=run_storeCells_cells (P:=P) b 0 us 0 w (fun j hj=>by
    obtain ⟨u,hu⟩:=h.tags.ex b j (by rw [ht j (by omega)];simp)
    simp only [Nat.add_zero,Nat.zero_add];rw [hu];rfl) (fun j hj=>by simpa using h.tags.tail _ _ _ (ht j (by omega))) huone
  simp only [Nat.add_zero] at hrun0
  let W:=w.setCells b 0 us
  let G':Gh:={ G with tag:=fun b' o=>if b'=b∧o<k then .fix else G.tag b' o }
  have htag:∀b' o,G.tag b' o≠.tail (.slot d r)→G'.tag b' o=G.tag b' o:=fun b' o hb=>by
   simp only [G']
   rw [if_neg]
   rintro ⟨rfl,ho⟩
   exact hb (ht o ho)
  have hout:∀b' o,¬(b'=b∧o<k)→W.cell? ⟨b',o,none⟩=w.cell? ⟨b',o,none⟩:=fun b' o hn =>
   World.cell?_setCells_out _ us 0 w ⟨b',o,none⟩ (fun hb _=>by
    simp only at hb ⊢
    exact .inr (Nat.le_of_not_lt fun h''=>hn ⟨hb,by omega⟩))
  have hcell:∀b' o,G.tag b' o≠.tail (.slot d r)→W.cell? ⟨b',o,none⟩=w.cell? ⟨b',o,none⟩:=fun b' o hb=>hout b' o (fun hn=>hb (by rw [hn.1];exact ht o hn.2))
  have hnb:∀i,i<G.n→G.blk i≠b:=Io h.heap h.tags (ht 0 hk0)
  have hheap:∀b',b'≠b→W.heap[b']? = w.heap[b']? := fun b' hb=>Bw _ _ _ _ _ hb
  have hsize:W.heap.size=w.heap.size:=Bv _ _ _ _
  have hstill:Still G w G' W:=Still.tags (fun b' hb'=>hheap b' (fun e=>Ge (ht 0 hk0) (e ▸ hb'))) (Nat.le_of_eq hsize.symm) (fun b' o _=>by
   by_cases hc:b'=b∧o<k
   ·exact .inr ⟨_,by rw [hc.1];exact ht o hc.2⟩
   exact .inl (by simp only [G'];rw [if_neg hc])) (fun i hi=>.inl ⟨hi,rfl⟩)
  have hfix:∀b' o,G.tag b' o=.fix→G'.tag b' o=.fix∧W.cell? ⟨b',o,none⟩=w.cell? ⟨b',o,none⟩:=fun b' o hb=>⟨by rw [htag b' o (by rw [hb];simp)];exact hb,hcell b' o (by rw [hb];simp)⟩
  have htail:∀b' o L,L≠.slot d r→G.tag b' o=.tail L→G'.tag b' o=.tail L:=fun b' o L hL hb=>by
   rw [htag b' o (by rw [hb];intro e;injection e with e;exact hL e)];exact hb
  have hobj:∀b' o i,G.tag b' o=.obj i→G'.tag b' o=.obj i:=fun b' o i hb=>by rw [htag b' o (by rw [hb];simp)];exact hb
  have hrep:∀{l:Option Loc} {z:AV} {u:Value},l≠some (.slot d r)→Rep G w l z u→Rep G' W l z u:=fun hl hz =>
   hz.mono (G':=G') hfix (Nat.le_refl _) (fun _ _=>rfl) (fun L hL b' o ht'=>htail b' o L (fun e=>hl (by rw [hL,e])) ht')
  have hkeep:Keep d G w G' W:=⟨hfix,fun b' o e s he ht'=>htail b' o _ (by rintro ⟨⟩;omega) ht',Nat.le_refl _,fun _ _=>rfl,E4 _ _ _ _,D0 _ _ _ _,Ce _ _ _ _,Nat.le_of_eq hsize.symm,hstill⟩
  have hvec:∀j u,us[j]? = some u→W.cell? ⟨b,j,none⟩=some u:=fun j u hu=>by
   have hj:=(List.getElem?_eq_some_iff.1 hu).1
   have hex:∃u',w.cell? ⟨b,j,none⟩=some u':=h.tags.ex b j (by rw [ht j (by omega)];simp)
   obtain ⟨u',hu'⟩:=hex
   have hbk:∃vs e fz,w.heap[b]? = some (.cells vs e fz):=by
    simp only [World.cell?] at hu'
    split at hu'
    ·rename_i vs e fz hb;exact ⟨vs,e,fz,hb⟩
    cases hu'
   obtain ⟨vs,e,fz,hbk⟩:=hbk
   have hlen:0+us.length≤vs.size:=by
    rw [hul,Nat.zero_add]
    rcases Nat.lt_or_ge vs.size k with h'|h'
    ·exfalso
     obtain ⟨u2,hu2⟩:=h.tags.ex b vs.size (by rw [ht _ h'];simp)
     simp [World.cell?,hbk] at hu2
    exact h'
   obtain ⟨vs',b1,b2,b3⟩:=Gy b e fz us 0 w vs hbk hlen
   have b3':=b3 j
   rw [if_pos (by omega)] at b3'
   show (w.setCells b 0 us).cell? ⟨b,j,none⟩=some u
   simp only [World.cell?,b1]
   rw [b3',Nat.sub_zero]
   exact hu
  have hst:StRel d G' (st.set r (.ro y.cells)) a W:=by
   refine ⟨h.size,fun s=>?_,⟨fun i z hz=>?_,h.heap.n,h.heap.inj⟩,h.defs,h.defsAt,h.defsNodup,h.defsGe,⟨fun b' o hb=>?_,fun b' o i hb=>?_,fun b' o L hb=>?_,h.tags.globKeep hstill⟩,h.rnd,h.low,h.top⟩
   ·show Rep G' W _ (A3 r (.ro y.cells) st.fr s) _
    unfold A3
    by_cases hs:s=r
    ·subst hs
     rw [if_pos rfl,hv]
     refine .ro _ _ ⟨b,0,none⟩ (fun j=>(a.eval x).cells.getD j undef) rfl hone (fun j c hj=>?_) (fun j c hj=>?_)
     all_goals
      have hlt:j<y.cells.length:=(List.getElem?_eq_some_iff.1 hj).1
      have hu:(a.eval x).cells[j]? = some ((a.eval x).cells[j]'(by omega)):=Array.getElem?_eq_getElem _
      have e1:(a.eval x).cells.getD j undef=(a.eval x).cells[j]'(by omega):=by rw [Array.getD_eq_getD_getElem?,hu];rfl
      rw [e1]
     ·refine ⟨by simp only [G',Nat.zero_add];rw [if_pos ⟨trivial,by omega⟩],?_⟩
      rw [Nat.zero_add]
      exact hvec j _ (by simp only [us];rw [Array.getElem?_toList];exact hu)
     exact hrep (by simp) (hcc j c _ hj hu)
    rw [if_neg hs]
    exact hrep (by simp;exact fun e=>hs e) (h.slots s)
   ·have hob:=h.heap.obj i z hz
    have hi:i<G.n:=by rw [h.heap.n];exact (List.getElem?_eq_some_iff.1 hz).1
    have hb:=hheap (G.blk i) (hnb i hi)
    cases z with
    | cells t cs =>
     obtain ⟨vs,a1,a2,a3,a4⟩:=hob
     exact ⟨vs,hb.trans a1,a2,fun j y u p q=>hrep (by simp) (a3 j y u p q),fun j hj=>hobj _ _ _ (a4 j hj)⟩
    | loop sta pd fr sz ps asg bd df =>
     obtain ⟨fn,tmps,a1,a2,a3,a4⟩:=hob
     exact ⟨fn,tmps,hb.trans a1,a2,fun s=>hrep (by simp) (a3 s),a4⟩
    | defs=>exact hb.trans hob
    | dead=>exact hb.trans hob
    | bld t e bs=>exact BldRel.turn hob rfl (fun b' o ho=>hobj b' o i ho) hb (fun b' ha=>hheap b' (fun e=>by
      have:=ha.tag h.tags (o:=0) (by rw [e,ht 0 hk0];simp)
      rw [e,ht 0 hk0] at this;cases this))
    | gone =>
     obtain ⟨vs,t,fz,a1,a2⟩:=hob
     exact ⟨vs,t,fz,hb.trans a1,fun j hj=>(hfix _ _ (a2 j hj)).1⟩
   ·by_cases hc:b'=b∧o<k
    ·obtain ⟨rfl,ho⟩:=hc
     exact ⟨us[o]'(by omega),hvec o _ (List.getElem?_eq_getElem _)⟩
    rw [hout b' o hc]
    simp only [G',if_neg hc] at hb
    exact h.tags.ex b' o hb
   ·rw [World.frozen?_setCells]
    simp only [G'] at hb
    split at hb
    ·cases hb
    exact h.tags.obj b' o i hb
   rw [World.frozen?_setCells]
   simp only [G'] at hb
   split at hb
   ·cases hb
   exact h.tags.tail b' o L hb
  have hrun:(execOp a.eval (⟨none,.store t (.tmp r) x,ty,pos,aft,gd⟩:Oper)).run P w=.ok .skip W:=
   E6 hsz (show a.eval (.tmp r)=_ from hv) (by omega) hrun0
  exact Eb (by intro c h;cases h) hrun ⟨G',_,hst,hkeep,rfl,rfl,rfl,rfl⟩
end
section
variable {P:Program} {d:Nat} {sz:Nat} {dfs:List Nat} {rnd:Option Nat} {l0:List Oper} {up own:(Nat→Bool)→List AObj} {KP:List PanicEntry→St→Prop} {E:List Oper→(Nat→AV)→Prop} {S:List SegY} {l:List Oper} {fr:Nat→AV} {ty:TypeId} {pos:String} {aft:Array Edge} {s:Nat} {T F:List Nat}
theorem Y.allocP {t:TypeId} {z:Value} {k:Nat} (hz:∀w,(zeroValue t).run P w=.ok z w) (h:ChainY P d l0 sz up own dfs rnd KP E S l (A3 s (.cellp k) fr)) (hk:z.cells.size=k:=by rfl) (hs:Nat.blt s sz=true:=by rfl):
  ChainY P d l0 sz up own dfs rnd KP E (.s [s] none T F::S) (⟨some s,.alloc t,ty,pos,aft,none⟩::l) fr:=by
 refine ⟨_,l,[(s,.cellp k)],rfl,⟨rfl,rfl,fun B f _ _ _ hf=>.of ?_⟩,h⟩
 exact AOp.allocP (st:=⟨sz,f,up B,own B,dfs,rnd⟩) hz hk (by simpa using hs)
theorem Y.storeP {t:TypeId} {x:Operand} {r k:Nat} {y:AV} {ys:List AV} (hsz:∀w,(Go.sizeOf t).run P w=.ok k w) (h:ChainY P d l0 sz up own dfs rnd KP E S l (A3 r (.ro ys) fr))
  (hf:fr r=.cellp k:=by exact sL0) (hx:Ai fr x=y:=by exact sL0) (hc:y.cells=ys:=by exact sL0)
  (hk:ys.length=k:=by rfl) (hk0:0<k:=by decide) (h1:ys.all AV.one=true:=by exact sL2):
  ChainY P d l0 sz up own dfs rnd KP E (.s [r] none T F::S) (⟨none,.store t (.tmp r) x,ty,pos,aft,none⟩::l) fr:=by
 subst hc
 refine ⟨_,l,[(r,.ro y.cells)],rfl,⟨rfl,rfl,fun B f _ _ _ hfr=>.of ?_⟩,h⟩
 have e:f r=fr r:=hfr r (by simp [lk,Om,Op.operands])
 have ex:Ai f x=y:=by rw [agr hfr (by simp [Op.operands])];exact hx
 exact AOp.storeP (st:=⟨sz,f,up B,own B,dfs,rnd⟩) hsz (e.trans hf) ex hk hk0 h1
end
end Go.SX
