/- Texts on the way to this: SoundTexts answers true for whatever it is handed: of any columns and any source that is a migration: printed, and parsed again, it is sound, or is not, at the same move, for the same reason (up to 50 columns, 3000 bytes). (part 9) -/
import Derived.Shelf.Strings.Builder1
import Derived.Lib.ItoaLen
import Derived.Test.YtlafnblklafbkaaGreatDoorSoundTextsCardSaidPart8
set_option linter.all false
namespace Go.SX.Nb
open Go Go.SX Go.Proofs
variable [ErrAt]
set_option maxRecDepth 4000
theorem ACf (l:List Col) (hl:l.length≤1000000) (Hp:List AObj):AFun Tryz.prog 150 [Ar l] Hp (Ar l):=by
 refine ACall.body [.tmp 2] [0] Tryz.func150 Tryz.ntmps150 (fun d=>?_)
 refine Z48 ?_;refine Z46 ?_
 refine R.eqlNil jU (by kernel_rfl) (fun b hb=>?_)
 refine R.fin [0,4] ?_
 refine W.cond (fun ht4=>?_) (fun ht4=>?_)
 ·have hl0:l=[]:=by simpa using hb ht4
  subst hl0
  refine Z3 ?_;refine R.nilTmp 2 2 false ?_;refine Z4 ?_;refine K.thR ?_;exact K.fin (V.one V.tmp) ⟨rfl,rfl⟩
 refine Uf ?_;refine Ru ?_;refine R.go ?_
 refine R.append jU Tryz.type64 ?_ ?_ ?_
 ·simp [Tryz.t64];omega
 ·simp [Tryz.t64];omega
 refine R.assignT ?_;refine Z4 ?_;exact K.fin (V.one V.tmp) ⟨rfl,rfl⟩

theorem ol {Hp:List AObj} {y:Col} {n:Nat} (h:∀x∈Hp,ObjLow Hp.length x):∀x∈Hp++[AObj.cells 64 [],AObj.cells 64 (A8 y.name::A2 y.kind::List.replicate n AV.any)],ObjLow (Hp.length+2) x:=by
 intro x hx
 rcases List.mem_append.1 hx with hx|hx
 ·exact ObjLow.le (by omega) (h x hx)
 simp only [List.mem_cons,List.mem_nil_iff,or_false] at hx
 rcases hx with rfl|rfl
 ·intro z hz;cases hz
 intro z hz
 simp only [List.mem_cons] at hz
 rcases hz with rfl|rfl|hz
 ·simp
 ·simp
 rw [List.eq_of_mem_replicate hz];simp
theorem ACg (y:Col) (Hp:List AObj):ACallO Tryz.prog 150 [Ar [y]] Hp (fun r H'=>∃cc,1≤cc∧r=.sl (oid Hp.length 1) 2 1 cc∧H'=Hp++[.cells 64 [],.cells 64 (A8 y.name::A2 y.kind::List.replicate ((cc-1)*2) AV.any)]):=by
 refine ACallO.body [.tmp 2] [0] Tryz.func150 Tryz.ntmps150 (fun d=>?_)
 refine Z48 ?_;refine Z49 ?_
 refine R.assumeLow (fun hlow=>?_)
 refine R.go ?_
 refine R.eqlNil jU (by kernel_rfl) (fun b hb=>?_)
 refine R.fin [0,4] ?_
 refine W.cond (fun ht4=>?_) (fun ht4=>?_)
 ·exact absurd (hb ht4) (by simp)
 refine Uf ?_;refine R.buildObj0 (n:=0) jU Tryz.sizeOf64 ?_;refine R.go ?_
 refine R.appendObj (k:=2) (n:=1) jU Tryz.type64 (show [Av y]≠[] by simp) ?_ ?_ (fun cc hcc=>?_)
 ·simp [Tryz.t64]
 ·simp
 have e0:J6 [Av y]++List.replicate ((cc-[Av y].length)*2) AV.any=A8 y.name::A2 y.kind::List.replicate ((cc-1)*2) AV.any:=rfl
 rw [e0]
 clear e0
 refine R.go ?_;refine Z4 ?_;exact K.finO 2 (V.tmp (t:=2)) ⟨cc,hcc,rfl,rfl⟩ (hlow:=by simp [oid]) (hobj:=ol hlow)

theorem AAf (c:List Col) (hc:OkCols c) (m:Mov) (h:OkMov m) (h3:(m.kind==3)=false) (Hp:List AObj):AFun Tryz.prog 114 [Ar c,Ge m] Hp (Ar (Be c m)):=by
 refine ACall.body [.tmp 4] [0,1] Tryz.func114 Tryz.ntmps114 (fun d=>?_)
 refine ln ?_;refine Z1 ?_;refine R.call Tryz.call150 (ACf m.give h.gives2 _) ?_;refine R.go ?_;refine R.fin [0,3,5] ?_;refine Z35 ?_;refine R.fin [0,3,5,12] ?_
 refine W.cond (fun ht12=>?_) (fun ht12=>?_)
 ·rw [h3] at ht12;cases ht12
 refine Z8 ?_;refine Yt ?_;exact K.fin (V.one V.tmp) ⟨by rw [u7 h3]<;>rfl,rfl⟩

theorem AAg (c:List Col) (hc:OkCols c) (m:Mov) (h:OkMov m) (h3:(m.kind==3)=true) (s:Str) (y:Col) (ht:m.take=[s]) (hg:m.give=[y]) (Hp:List AObj):AFun Tryz.prog 114 [Ar c,Ge m] Hp (Ar (Be c m)):=by
 have hgv:=ua (c:=c) h3 ht hg
 have hgy:=oi (c:=c) h3 ht hg
 obtain ⟨kd,tk,gv,ah,bk⟩:=m
 simp only at ht hg h3
 subst ht hg
 refine ACall.body [.tmp 4] [0,1] Tryz.func114 Tryz.ntmps114 (fun d=>?_)
 refine ln ?_;refine Z1 ?_;refine R.callO Tryz.call150 (ACg y _) ?_
 rintro _ _ ⟨cc,hcc,rfl,rfl⟩
 refine ⟨[.cells 64 [],.cells 64 (A8 y.name::A2 y.kind::List.replicate ((cc-1)*2) AV.any)],by simp,?_⟩
 simp only [List.append_nil,List.nil_append]
 refine R.go ?_;refine R.fin [0,3,5] ?_;refine Z35 ?_;refine R.fin [0,3,5,12] ?_
 refine W.cond (fun ht12=>?_) (fun ht12=>?_)
 ·refine Z13 ?_
  refine R.go (h:=Q.indexAddr (0) (A8 s) (fun _=>rfl)) (hr:=?_)
  refine R.go ?_;refine R.call Tryz.call149 (gi c hc s _) ?_;refine R.go ?_;refine R.fin [0,5,6] ?_;refine Z1 ?_;refine R.fin [0,5,6,20] ?_
  refine W.cond (fun ht20=>?_) (fun ht20=>?_)
  ·have hf:¬Bh s c<0:=by simp at ht20;omega
   obtain ⟨jj,hjj,hjc⟩:=Mn hf
   refine Z58 ?_
   refine R.go (h:=Q.indexAddr ((Bh s c).toNat) (Av (c.getD (Bh s c).toNat ⟨[],0⟩)) (fun _=>dr hf)) (hr:=?_)
   refine Z0 ?_;refine R.indexAddrSl (n:=1) 0 jU Tryz.sizeOf64 (by decide) ?_
   refine R.go (h:=Q.fieldAddrPtr (hc:=rfl)) (hr:=?_)
   refine R.storeOwn (y:=A2 (c.getD (Bh s c).toNat ⟨[],0⟩).kind) (ys:=[A2 (c.getD (Bh s c).toNat ⟨[],0⟩).kind]) (n:=1) (cs:=A8 y.name::A2 y.kind::List.replicate ((cc-1)*2) AV.any) (cs':=A8 y.name::A2 (c.getD (Bh s c).toNat ⟨[],0⟩).kind::List.replicate ((cc-1)*2) AV.any) (t':=64) jS ?_ (hc:=rfl) (hput:=rfl) (hfit:=by simp)
   refine R.fin [5] ?_;refine K.thN ?_;refine Dq ?_;refine R.freeze (k:=2) (n:=1) 5 1 [Av ⟨y.name,(c.getD (Bh s c).toNat ⟨[],0⟩).kind⟩] hcc rfl rfl (Xm [⟨y.name,(c.getD (Bh s c).toNat ⟨[],0⟩).kind⟩]) (Xn [⟨y.name,(c.getD (Bh s c).toNat ⟨[],0⟩).kind⟩]) (R8 [⟨y.name,(c.getD (Bh s c).toNat ⟨[],0⟩).kind⟩]) ?_;refine Z0 ?_;exact yn
  have hf:Bh s c<0:=by simp at ht20;omega
  refine Uf ?_;refine R.freeze (k:=2) (n:=1) 5 1 [Av ⟨y.name,y.kind⟩] hcc rfl rfl (Xm [⟨y.name,y.kind⟩]) (Xn [⟨y.name,y.kind⟩]) (R8 [⟨y.name,y.kind⟩]) ?_;refine Z0 ?_;exact yn
 rw [h3] at ht12;cases ht12

/-- What a move must have before it is turned. -/
structure MvOk (m:Mov):Prop where
 ok:OkMov m
 ahead:m.ahead.length=m.give.length
 back:m.back.length=m.take.length
 one:(m.kind==3)=true→m.take.length=1∧m.give.length=1
theorem ub {m:Mov} (h:OkMov m) (hc:C6 m=true):MvOk m:=⟨h,(Ef hc).1,(Ef hc).2,fun h3=>Jy hc (by rw [h3];rfl)⟩
theorem ACh (c:List Col) (hc:OkCols c) (m:Mov) (h:MvOk m) (Hp:List AObj):AFun Tryz.prog 114 [Ar c,Ge m] Hp (Ar (Be c m)):=by
 cases h3:m.kind==3 with
 | false=>exact AAf c hc m h.ok h3 Hp
 | true =>
  obtain ⟨h1,h2⟩:=h.one h3
  obtain ⟨s,hs⟩:=az h1
  obtain ⟨y,hy⟩:=az h2
  exact AAg c hc m h.ok h3 s y hs hy Hp
theorem Xo {c:List Col} {m:Mov} (h:OkMov m):OkCols (Be c m):=by
 refine ⟨by rw [Kj];exact Nat.le_trans h.gives2 (by decide),fun y hy=>?_⟩
 unfold Be at hy
 split at hy
 ·split at hy
  ·exact h.gives.2 y hy
  cases hg:m.give with
  | nil=>rw [hg] at hy;cases hy
  | cons z r =>
   rw [hg] at hy
   rcases List.mem_cons.1 hy with rfl|hy
   ·exact h.gives.2 z (by rw [hg];exact List.mem_cons_self)
   exact h.gives.2 y (by rw [hg];exact List.mem_cons_of_mem _ hy)
 exact h.gives.2 y hy
theorem Xp {c give:List Col} {take:List Str} (hc:OkCols c) (hg:OkCols give) (hg2:give.length≤1000000):OkCols (Cs c take give).1:=by
 have h0:OkCols ([]:List Col):=⟨by decide,fun y hy=>by cases hy⟩
 unfold Cs
 split
 ·exact h0
 rename_i hr
 split
 ·exact h0
 split
 ·exact h0
 split
 ·exact h0
 split
 ·exact h0
 exact n6 hc (by simpa using hr) hg hg2 rfl
theorem b6 {c give:List Col} {take:List Str} (h:((Cs c take give).2 != 0)=false):∀s∈take,¬Bh s c<0:=by
 have ht:Gr c take=true:=by
  unfold Cs at h
  split at h
  ·cases h
  split at h
  ·cases h
  rename_i ht
  simpa using ht
 intro s hs hf
 obtain ⟨j,hj⟩:=List.getElem?_of_mem hs
 have:=takenM_true.1 ht j s hj
 unfold Ki at this
 rw [show decide (Bh s c<0)=true by simpa using hf] at this
 simp at this
theorem j7 {over:List Col} {l:List Expr} {w:List Col} {x:Nat} (hl:x<l.length) (hw:x<w.length):
  D6 over (l.drop x) (w.drop x)=if V5 l[x] over w[x].kind != 0 then V5 l[x] over w[x].kind else D6 over (l.drop (x+1)) (w.drop (x+1)):=by
 rw [List.drop_eq_getElem_cons hl,List.drop_eq_getElem_cons hw]
 rfl
theorem oo {over:List Col} {l:List Expr} {w:List Col} {x:Nat} (hl:l.length≤x):D6 over (l.drop x) (w.drop x)=0:=by
 rw [List.drop_eq_nil_of_le hl]
 cases w.drop x<;>rfl
theorem Nr {α β:Type} {f:α→β} {l:List α} {x:Nat} (h:x<l.length):(l.take (x+1)).map f=(l.take x).map f++[f l[x]]:=by
 rw [List.take_succ_eq_append_getElem h,List.map_append];rfl
theorem uc {c:List Col} {m:Mov} (h:((Cs c m.take (Be c m)).2 != 0)=true):Cg c m=([],(Cs c m.take (Be c m)).2):=if_pos h
theorem ud {c:List Col} {m:Mov} (h:((Cs c m.take (Be c m)).2 != 0)=false) (h2:(D6 c m.ahead (Be c m) != 0)=true):Cg c m=([],D6 c m.ahead (Be c m)):=by
 unfold Cg;rw [if_neg (by rw [h];simp),if_pos h2]
theorem ue {c:List Col} {m:Mov} (h:((Cs c m.take (Be c m)).2 != 0)=false) (h2:(D6 c m.ahead (Be c m) != 0)=false) (h3:(D6 (Cs c m.take (Be c m)).1 m.back (Iu c m) != 0)=true):Cg c m=([],D6 (Cs c m.take (Be c m)).1 m.back (Iu c m)):=by
 unfold Cg;rw [if_neg (by rw [h];simp),if_neg (by rw [h2];simp),if_pos h3]
theorem uf {c:List Col} {m:Mov} (h:((Cs c m.take (Be c m)).2 != 0)=false) (h2:(D6 c m.ahead (Be c m) != 0)=false) (h3:(D6 (Cs c m.take (Be c m)).1 m.back (Iu c m) != 0)=false):Cg c m=((Cs c m.take (Be c m)).1,0):=by
 unfold Cg;rw [if_neg (by rw [h];simp),if_neg (by rw [h2];simp),if_neg (by rw [h3];simp)]
theorem AAh (l:List Expr) (h:OkEs l) (w:List Col) (hw:w.length=l.length) (c:List Col) (hc:OkCols c) (Hp:List AObj):AFun Tryz.prog 116 [It l,Ar w,Ar c] Hp (A2 (D6 c l w)):=by
 refine ACall.body [.tmp 6] [0,1,2] Tryz.func116 Tryz.ntmps116 (fun d=>?_)
 refine Z3 ?_;refine R.fin [0,1,2] ?_;refine Z35 ?_;refine R.fin [1,2,11,12,13] ?_
 refine AW.loopC (α:=Nat) (fun x=>⟨37,A6 1 (Ar w) (A6 2 (Ar c) (A6 11 (It l) (A6 12 (A2 (l.length:Nat)) (A6 13 (A2 (x:Nat)) (fun _=>.any))))),Hp,[],[],none⟩) (fun x=>x≤l.length∧D6 c l w=D6 c (l.drop x) (w.drop x)) (fun x=>l.length-x) (0) ⟨Nat.zero_le _,rfl⟩ (StLe.of_eq (by simp)) rfl (fun x hx=>?_)
 refine Z3 ?_;refine R.fin [1,2,11,12,13,14] ?_
 refine W.condX (fun ht14=>?_) (fun ht14=>?_)
 ·have hlt:x<l.length:=by simpa using ht14
  have hlw:x<w.length:=by omega
  have hlen:=h.len
  have hst:=j7 (over:=c) hlt hlw
  refine Z92 ?_
  refine R.go (h:=Q.indexAddr (x) (A7 l[x]) (fun _=>C4 hlt)) (hr:=?_)
  refine R.go ?_;refine Z87 ?_;refine R.fin [1,2,7,8,11,12,13] ?_;refine Z21 ?_;refine R.call Tryz.call154 (AAe 61 l[x] (h.ok _ (List.getElem_mem hlt)) (by decide) c hc _) ?_;refine Z45 ?_;refine R.fin [1,2,7,8,10,11,12,13] ?_;refine Z1 ?_;refine R.fin [1,2,7,8,10,11,12,13,25] ?_
  refine W.cond (fun ht25=>?_) (fun ht25=>?_)
  ·have he:V5 l[x] c w[x].kind=(Jw l[x] c).2:=if_pos ht25
   have hm:D6 c l w=(Jw l[x] c).2:=by rw [hx.2,hst,he,if_pos ht25]
   refine Z1 ?_;refine R.fin [6] ?_;refine Z22 ?_;refine Z80 ?_;exact rh
  refine Z8 ?_;refine W.drawQ [0,0,0,0,12,28,60,127,255] 7 Ac (by kernel_rfl) ?_;refine W7 ?_
  refine D.go (h:=Q.indexAddr (x) (Av w[x]) (fun _=>C4 hlw)) (hr:=?_)
  refine Z15 ?_;refine D.tail ?_;refine R.call Tryz.call155 (ACe 61 l[x] (h.ok _ (List.getElem_mem hlt)) (by decide) c hc w[x].kind _) ?_;refine R.go ?_;refine R.fin [1,2,11,12,13,35] ?_
  refine W.cond (fun ht35=>?_) (fun ht35=>?_)
  ·have he:V5 l[x] c w[x].kind=10:=by unfold V5;rw [if_neg (by rw [ht25];simp),if_pos ht35]
   have hm:D6 c l w=10:=by rw [hx.2,hst,he];rfl
   refine ls ?_;refine Z55 ?_;refine Z39 ?_;exact rh
  have he:V5 l[x] c w[x].kind=0:=by unfold V5;rw [if_neg (by rw [ht25];simp),if_neg (by rw [ht35];simp)]
  have hnx:D6 c l w=D6 c (l.drop (x+1)) (w.drop (x+1)):=by rw [hx.2,hst,he];rfl
  refine Z75 ?_;refine R.fin [1,2,11,12,13] ?_;refine K.lpN (x+1) ⟨hlt,hnx⟩ (by omega) ?_
  exact StCut.take (own:=[]) (fun _=>.refl _) (by repeat (first|exact B0|refine Az (by first|(simp [or_imp,forall_and];done)|exact D3) ?_)) (by simp) (by simp)
 have hxe:l.length≤x:=by simpa using ht14
 have hm:D6 c l w=0:=by rw [hx.2,oo hxe]
 refine Z63 ?_;refine Z96 ?_;exact rh

theorem ACi (c:List Col) (hc:OkCols c) (m:Mov) (h:OkMov m) (hf:∀s∈m.take,¬Bh s c<0) (Hp:List AObj):AFun Tryz.prog 117 [Ar c,Ge m] Hp (Ar (Iu c m)):=by
 refine ACall.body [.tmp 4] [0,1] Tryz.func117 Tryz.ntmps117 (fun d=>?_)
 refine ln ?_;refine Z3 ?_;refine R.fin [0,3,5] ?_;refine Z49 ?_;refine R.nilSl 5 2 ?_;refine Z62 ?_;refine R.fin [0,5,9,10,11] ?_
 refine AW.loopC (α:=Nat) (fun x=>⟨26,A6 0 (Ar c) (A6 5 (.slice true 2 (((m.take.take x).map fun s=>c.getD (Bh s c).toNat ⟨[],0⟩).map Av)) (A6 9 (Ed m.take) (A6 10 (A2 (m.take.length:Nat)) (A6 11 (A2 (x:Nat)) (fun _=>.any))))),Hp,[],[],none⟩) (fun x=>x≤m.take.length) (fun x=>m.take.length-x) (0) (Nat.zero_le _) (StLe.of_eq (by simp)) rfl (fun x hx=>?_)
 refine Z3 ?_;refine R.fin [0,5,9,10,11,12] ?_
 refine W.condX (fun ht12=>?_) (fun ht12=>?_)
 ·have hlt:x<m.take.length:=by simpa using ht12
  have htk:=h.takes
  have hfx:=hf _ (List.getElem_mem hlt)
  obtain ⟨jj,hjj,hjc⟩:=Mn hfx
  refine Z88 ?_
  refine R.go (h:=Q.indexAddr (x) (A8 m.take[x]) (fun _=>C4 hlt)) (hr:=?_)
  refine Z0 ?_;refine R.fin [0,5,7,9,10,11] ?_;refine AW.region ?_;refine R.moveT ?_;refine Z19 ?_;refine R.call Tryz.call149 (gi c hc m.take[x] _) ?_
  refine R.go (h:=Q.indexAddr ((Bh m.take[x] c).toNat) (Av (c.getD (Bh m.take[x] c).toNat ⟨[],0⟩)) (fun _=>dr hfx)) (hr:=?_)
  refine l8 ?_
  refine R.append jU Tryz.type64 ?_ ?_ ?_
  ·simp only [List.length_map,List.length_take,List.length_cons,List.length_nil,Tryz.t64];omega
  ·simp only [List.length_map,List.length_take,List.length_cons,List.length_nil,Tryz.t64];omega
  refine R.assignT ?_;refine R.fin [0,5,9,10,11] ?_;refine Rq ?_;refine R.fin [0,5,9,10,11] ?_
  refine K.lpN (x+1) hlt (by omega) (StCut.of_eq ?_)
  rw [Nr hlt,List.map_append]
  rfl
 have hxe:m.take.length≤x:=by simpa using ht12
 refine Z36 ?_;refine Yt ?_;exact K.fin (V.one V.tmp) ⟨by unfold Iu;rw [List.take_of_length_le hxe]<;>rfl,rfl⟩ (hlow:=H6)

theorem c86 (c:List Col) (hc:OkCols c) (m:Mov) (h:MvOk m) (Hp:List AObj):AFun Tryz.prog 86 [Ar c,Ge m] Hp (.tup [Ar (Cg c m).1,A2 (Cg c m).2]):=by
 refine ACall.body [.tmp 4,.tmp 5] [0,1] Tryz.func86 Tryz.ntmps86 (fun d=>?_)
 refine Z13 ?_;refine Kn ?_;refine Z1 ?_;refine R.call Tryz.call114 (ACh c hc m h _) ?_;refine R.go ?_;refine R.fin [0,3,6] ?_;refine Dq ?_
 have hg:=Xo (c:=c) h.ok
 have hg2:(Be c m).length≤1000000:=by rw [Kj];exact h.ok.gives2
 refine Z62 ?_;refine R.call Tryz.call115 (ACd c hc m.take h.ok.takes (Be c m) hg hg2 _) ?_;refine Z45 ?_;refine R.fin [0,3,6,7,8] ?_;refine Z21 ?_;refine R.fin [0,3,6,7,8,23] ?_
 refine W.cond (fun ht23=>?_) (fun ht23=>?_)
 ·have hm:=uc ht23
  refine Z1 ?_;refine R.nilTmp 4 2 false ?_;refine R.go ?_;exact w6
 refine Z8 ?_;refine Z77 ?_;refine R.call Tryz.call116 (AAh m.ahead h.ok.ahead (Be c m) (by rw [Kj,h.ahead]) c hc _) ?_;refine R.go ?_;refine R.fin [0,3,7,9] ?_;refine Z1 ?_;refine R.fin [0,3,7,9,31] ?_
 refine W.cond (fun ht31=>?_) (fun ht31=>?_)
 ·have hm:=ud ht23 ht31
  refine Z1 ?_;refine R.nilTmp 4 2 false ?_;refine R.go ?_;exact w6
 refine Z8 ?_;refine W.seq ?_;refine W.drawQ [0,1,0,0,12,0,63,127] 6 Ac (by kernel_rfl) ?_;refine W7 ?_;refine D.call Tryz.call117 (ACi c hc m h.ok (b6 ht23) _) ?_;refine D.go ?_;refine D.tail ?_;refine R.call Tryz.call116 (AAh m.back h.ok.back (Iu c m) (by rw [Iu,List.length_map,h.back]) (Cs c m.take (Be c m)).1 (Xp hc hg hg2) _) ?_;refine R.go ?_;refine R.fin [7,10] ?_;refine Z1 ?_;refine R.fin [7,10,41] ?_
 refine W.cond (fun ht41=>?_) (fun ht41=>?_)
 ·have hm:=ue ht23 ht31 ht41
  refine Z1 ?_;refine R.nilTmp 4 2 false ?_;refine R.go ?_;exact w6
 have hm:=uf ht23 ht31 ht41
 refine Uj ?_;refine g7 ?_;exact ri

def Mp {α:Type} (p:α→Bool) (l:List α):Int:=if l.any p then (l.findIdx p:Int) else -1
theorem ot {α:Type} {p:α→Bool} {l:List α} {i:Nat} (h:i<l.length) (hn:p l[i]=true) (hp:∀(j:Nat) (y:α),j<i→l[j]? = some y→p y=false):(i:Int)=Mp p l:=by
 unfold Mp
 rw [if_pos (List.any_eq_true.2 ⟨_,List.getElem_mem h,hn⟩)]
 congr 1
 refine (List.findIdx_eq h |>.2 ⟨hn,fun j hj=>?_⟩).symm
 exact hp j (l[j]'(by omega)) hj (List.getElem?_eq_getElem (by omega))
theorem b7 {α:Type} {p:α→Bool} {l:List α} (h:l.any p=false):(-1:Int)=Mp p l:=by
 unfold Mp
 rw [if_neg (by rw [h];simp)]
theorem j8 {α:Type} (p:α→Bool) (l:List α):decide (0≤Mp p l)=l.any p:=by
 unfold Mp
 cases l.any p<;>simp
def K2 (s:Str):Bool := !(C5 s)
def I2 (e:Expr):Bool := !(Ay e)
theorem ou {m:Mov} (h:(((m.ahead.length:Int) != (m.give.length:Int)) || ((m.back.length:Int) != (m.take.length:Int)))=true):C6 m=false:=if_pos h
theorem ov {m:Mov} (h:(((m.ahead.length:Int) != (m.give.length:Int)) || ((m.back.length:Int) != (m.take.length:Int)))=false):C6 m=if m.kind==1 then ((m.take.length:Int)==0)&&((m.give.length:Int)==1)
 else if m.kind==2 then ((m.take.length:Int)==1)&&((m.give.length:Int)==0)
 else if (m.kind==3) || (m.kind==6) then ((m.take.length:Int)==1)&&((m.give.length:Int)==1)
 else if m.kind==4 then ((m.take.length:Int)==1)&&decide ((1:Int)<(m.give.length:Int))
 else if m.kind==5 then decide ((1:Int)<(m.take.length:Int))&&((m.give.length:Int)==1)
 else false:=if_neg (by rw [h];simp)
theorem c66 (m:Mov) (Hp:List AObj):AFun Tryz.prog 66 [Ge m] Hp (B2 (C6 m)):=by
 refine ACall.body [.tmp 2] [0] Tryz.func66 Tryz.ntmps66 (fun d=>?_)
 refine Z89 ?_;refine W.drawQ [0,1,3,0,8,24,7,127] 7 Ac (by kernel_rfl) ?_;refine W7 ?_;refine Z54 ?_;refine D.tail ?_;refine R.go ?_;refine R.fin [1,3,4] ?_;refine Z49 ?_
 simp only [List.length_map]
 refine Z62 ?_;refine Z42 ?_;refine ga ?_;refine R.fin [1,3,4,22] ?_
 refine W.cond (fun ht22=>?_) (fun ht22=>?_)
 ·simp only [List.length_map] at ht22
  have hm:=ou ht22
  refine Z94 ?_;refine K.thR ?_;exact rh
 simp only [List.length_map] at ht22
 have hn:=ov ht22
 refine Z8 ?_;refine Z21 ?_;refine R.fin [3,4,24] ?_;refine Z69 ?_;refine R.fin [3,4,24,25] ?_
 refine W.cond (fun ht25=>?_) (fun ht25=>?_)
 ·refine Yr ?_;refine Z29 ?_;exact K.fin (V.one V.tmp) ⟨by rw [hn];first|(simp only [ht22,ht25,hk3,hk6,Bool.true_or,Bool.false_or,Bool.or_true,Bool.or_false,if_true,if_false,Bool.false_eq_true,↓reduceIte]<;>rfl)|(simp only [ht22,ht25,hk3,Bool.true_or,Bool.false_or,Bool.or_true,if_true,if_false,Bool.false_eq_true,↓reduceIte]<;>rfl)|(simp only [ht22,ht25,if_true,if_false,Bool.false_eq_true,↓reduceIte]<;>rfl),rfl⟩
 refine Z1 ?_;refine R.fin [3,4,24,33] ?_
 refine W.cond (fun ht33=>?_) (fun ht33=>?_)
 ·refine Yr ?_;refine Z29 ?_;exact K.fin (V.one V.tmp) ⟨by rw [hn];first|(simp only [ht22,ht25,ht33,hk3,hk6,Bool.true_or,Bool.false_or,Bool.or_true,Bool.or_false,if_true,if_false,Bool.false_eq_true,↓reduceIte]<;>rfl)|(simp only [ht22,ht25,ht33,hk3,Bool.true_or,Bool.false_or,Bool.or_true,if_true,if_false,Bool.false_eq_true,↓reduceIte]<;>rfl)|(simp only [ht22,ht25,ht33,if_true,if_false,Bool.false_eq_true,↓reduceIte]<;>rfl),rfl⟩
 refine Z21 ?_;refine R.fin [3,4,24,41] ?_
 refine W.cond (fun ht41=>?_) (fun ht41=>?_)
 ·have hk3:=ht41
  refine Z8 ?_
  refine W.cond (fun ht41=>?_) (fun ht41=>?_)
  ·refine Yr ?_;exact Z32
  rw [hk3] at ht41;cases ht41
 have hk3:=ht41
 refine Z11 ?_;refine R.fin [3,4,24,41] ?_;refine K.thN ?_
 refine W.cond (fun ht41=>?_) (fun ht41=>?_)
 ·have hk6:=ht41
  refine Yr ?_;exact Z32
 have hk6:=ht41
 refine Z1 ?_;refine R.fin [3,4,24,50] ?_
 refine W.cond (fun ht50=>?_) (fun ht50=>?_)
 ·refine Yr ?_;refine Z29 ?_;exact K.fin (V.one V.tmp) ⟨by rw [hn];first|(simp only [ht22,ht25,ht33,ht41,ht41,ht50,hk3,hk6,Bool.true_or,Bool.false_or,Bool.or_true,Bool.or_false,if_true,if_false,Bool.false_eq_true,↓reduceIte]<;>rfl)|(simp only [ht22,ht25,ht33,ht41,ht41,ht50,hk3,Bool.true_or,Bool.false_or,Bool.or_true,if_true,if_false,Bool.false_eq_true,↓reduceIte]<;>rfl)|(simp only [ht22,ht25,ht33,ht41,ht41,ht50,if_true,if_false,Bool.false_eq_true,↓reduceIte]<;>rfl),rfl⟩
 refine Z1 ?_;refine R.fin [3,4,58] ?_
 refine W.cond (fun ht58=>?_) (fun ht58=>?_)
 ·refine Yr ?_;refine Z29 ?_;exact zk
 refine Yp ?_;exact zk

theorem c72 (s:Str) (hs:s.length≤1048576) (Hp:List AObj):AFun Tryz.prog 72 [A8 s] Hp (B2 (K2 s)):=by
 refine ACall.body [.tmp 2] [0] Tryz.func72 Tryz.ntmps72 (fun d=>?_)
 refine Z48 ?_;refine Z3 ?_;refine R.call Tryz.call67 (c67 s hs _) ?_;exact lq

theorem c69 (e:Expr) (hok:okE 61 e) (Hp:List AObj):AFun Tryz.prog 69 [A7 e] Hp (B2 (I2 e)):=by
 refine ACall.body [.tmp 2] [0] Tryz.func69 Tryz.ntmps69 (fun d=>?_)
 refine Z89 ?_;refine Z3 ?_;refine R.call Tryz.call70 (c70 61 e hok (by decide) _) ?_;exact lq

theorem ACj (l:List Str) (hl:l.length≤1048576) (hn:∀s∈l,s.length≤1048576) (Hp:List AObj):AFun Tryz.prog 108 [Ed l,.fn (.func 72) [] []] Hp (A2 (Mp K2 l)):=by
 refine ACall.body [.tmp 4] [0,1] Tryz.func108 Tryz.ntmps108 (fun d=>?_)
 refine Z53 ?_;refine lf ?_
 refine AW.loopC (α:=Nat) (fun x=>⟨19,A6 0 (Ed l) (A6 1 (.fn (.func 72) [] []) (A6 7 (A2 l.length) (A6 8 (A2 (x:Nat)) (fun _=>.any)))),Hp,[],[],none⟩) (fun x=>x≤l.length∧∀(j:Nat) y,j<x→l[j]? = some y→K2 y=false) (fun x=>l.length-x) (0) ⟨Nat.zero_le _,fun j y h=>by omega⟩ (StLe.of_eq (by simp)) rfl (fun x hx=>?_)
 refine lb ?_
 refine W.condX (fun ht9=>?_) (fun ht9=>?_)
 ·have hlt:x<l.length:=by simpa using ht9
  refine Yu ?_;refine l9 ?_
  refine R.go (h:=Q.indexAddr (x) (A8 l[x]) (fun _=>C4 hlt)) (hr:=?_)
  refine R.go ?_;refine R.callV Tryz.call72 (c72 l[x] (hn _ (List.getElem_mem hlt)) _) ?_;refine lw ?_
  refine W.cond (fun ht16=>?_) (fun ht16=>?_)
  ·refine Yt ?_;exact Z85
  refine Z75 ?_;exact Z66
 have hxe:l.length≤x:=by simpa using ht9
 refine Z63 ?_;exact Z78

theorem c71 (l:List Str) (hl:l.length≤1048576) (hn:∀s∈l,s.length≤1048576) (Hp:List AObj):AFun Tryz.prog 71 [Ed l,.fn (.func 72) [] []] Hp (B2 (l.any K2)):=by
 refine ACall.body [.tmp 4] [0,1] Tryz.func71 Tryz.ntmps71 (fun d=>?_)
 refine Z53 ?_;refine Z1 ?_;refine R.call Tryz.call108 (ACj l hl hn _) ?_;refine Z0 ?_;exact Z91

theorem AAi (l:List Expr) (hl:l.length≤1048576) (hn:∀e∈l,okE 61 e) (Hp:List AObj):AFun Tryz.prog 109 [It l,.fn (.func 69) [] []] Hp (A2 (Mp I2 l)):=by
 refine ACall.body [.tmp 4] [0,1] Tryz.func109 Tryz.ntmps109 (fun d=>?_)
 refine Z53 ?_;refine lf ?_
 refine AW.loopC (α:=Nat) (fun x=>⟨19,A6 0 (It l) (A6 1 (.fn (.func 69) [] []) (A6 7 (A2 l.length) (A6 8 (A2 (x:Nat)) (fun _=>.any)))),Hp,[],[],none⟩) (fun x=>x≤l.length∧∀(j:Nat) y,j<x→l[j]? = some y→I2 y=false) (fun x=>l.length-x) (0) ⟨Nat.zero_le _,fun j y h=>by omega⟩ (StLe.of_eq (by simp)) rfl (fun x hx=>?_)
 refine lb ?_
 refine W.condX (fun ht9=>?_) (fun ht9=>?_)
 ·have hlt:x<l.length:=by simpa using ht9
  refine Yu ?_;refine l9 ?_
  refine R.go (h:=Q.indexAddr (x) (A7 l[x]) (fun _=>C4 hlt)) (hr:=?_)
  refine R.go ?_;refine R.callV Tryz.call69 (c69 l[x] (hn _ (List.getElem_mem hlt)) _) ?_;refine lw ?_
  refine W.cond (fun ht16=>?_) (fun ht16=>?_)
  ·refine Yt ?_;exact Z85
  refine Z75 ?_;exact Z66
 have hxe:l.length≤x:=by simpa using ht9
 refine Z63 ?_;exact Z78

theorem vk (l:List Expr) (hl:l.length≤1048576) (hn:∀e∈l,okE 61 e) (Hp:List AObj):AFun Tryz.prog 73 [It l,.fn (.func 69) [] []] Hp (B2 (l.any I2)):=by
 refine ACall.body [.tmp 4] [0,1] Tryz.func73 Tryz.ntmps73 (fun d=>?_)
 refine Z53 ?_;refine Z1 ?_;refine R.call Tryz.call109 (AAi l hl hn _) ?_;refine Z0 ?_;exact Z91

theorem c75 (s:Str) (Hp:List AObj):AFun Tryz.prog 75 [A8 s] Hp (A7 (B3 s)):=by
 refine ACall.body [.cell 2 69] [0] Tryz.func75 Tryz.ntmps75 (fun d=>?_)
 refine Z38 ?_;refine Z3 ?_;refine yw ?_;refine R.nilCell 0 5 6 ?_;refine Z4 ?_;exact K.fin (V.one (V.cellN jA jS)) ⟨by rw [Ab];rfl,rfl⟩

theorem Xq {m:Mov} {c:Col}:(((!(C5 c.name)) || (!((Ah c.kind==[])==(m.kind==3)))) || ((m.kind==3)&&(c.kind != 0))) = !Fs m c:=by
 unfold Fs
 cases C5 c.name<;>cases (Ah c.kind==([]:Str))<;>cases (m.kind==3)<;>cases (c.kind != 0)<;>rfl
theorem xk {m:Mov} (h:(!(C6 m))=true):Ek m=false:=by
 have:C6 m=false:=by simpa using h
 unfold Ek;rw [this];rfl
theorem xl {m:Mov} {c:Col} (hc:c∈m.give) (h:Fs m c=false):Ek m=false:=by
 have:m.give.all (Fs m)=false:=List.all_eq_false.2 ⟨c,hc,by rw [h];simp⟩
 unfold Ek;rw [this];simp
theorem xm {m:Mov} (h:((m.take.any K2 || m.ahead.any I2) || m.back.any I2)=true):Ek m=false:=by
 unfold Ek
 rw [show K2=fun s => !(C5 s) from rfl,show I2=fun e => !(Ay e) from rfl,Hw,Hw,Hw] at h
 cases h1:m.take.all C5<;>cases h2:m.ahead.all Ay<;>cases h3:m.back.all Ay<;>simp_all
theorem ug {m:Mov} (h1:C6 m=true) (h2:m.give.all (Fs m)=true) (h:((m.take.any K2 || m.ahead.any I2) || m.back.any I2)=false):Ek m=F1 m:=by
 unfold Ek
 rw [show K2=fun s => !(C5 s) from rfl,show I2=fun e => !(Ay e) from rfl,Hw,Hw,Hw] at h
 rw [h1,h2]
 cases h1:m.take.all C5<;>cases h2:m.ahead.all Ay<;>cases h3:m.back.all Ay<;>simp_all
theorem Oi {α β:Type} {f:α→β} {l:List α} {d:α} (h:0<l.length):(l.map f)[0]? = some (f (l.getD 0 d)):=by
 rw [List.getElem?_map,List.getElem?_eq_getElem h,List.getD_eq_getElem?_getD,List.getElem?_eq_getElem h]
 rfl
theorem Mq {α:Type} {l:List α} {d:α} (h:0<l.length):l.getD 0 d∈l:=by
 rw [List.getD_eq_getElem?_getD,List.getElem?_eq_getElem h]
 exact List.getElem_mem h
theorem xn {m:Mov} (h:(m.kind==3)=true):F1 m=(eqE (m.ahead.getD 0 Ag) (B3 (m.take.getD 0 []))&&eqE (m.back.getD 0 Ag) (B3 (m.give.getD 0 ⟨[],0⟩).name)):=if_pos h
theorem xp {m:Mov} (h:(m.kind==3)=false) (h6:(m.kind==6)=true):F1 m=(m.take.getD 0 []==(m.give.getD 0 ⟨[],0⟩).name):=by unfold F1;rw [if_neg (by rw [h];simp),if_pos h6]
theorem xq {m:Mov} (h:(m.kind==3)=false) (h6:(m.kind==6)=false):F1 m=true:=by unfold F1;rw [if_neg (by rw [h];simp),if_neg (by rw [h6];simp)]
theorem c36 (m:Mov) (h:OkMov m) (Hp:List AObj):AFun Tryz.prog 36 [Ge m] Hp (B2 (Ek m)):=by
 refine ACall.body [.tmp 2] [0] Tryz.func36 Tryz.ntmps36 (fun d=>?_)
 refine Z89 ?_;refine Z46 ?_;refine R.call Tryz.call66 (c66 m _) ?_;refine R.go ?_;refine R.fin [1,8] ?_
 refine W.cond (fun ht8=>?_) (fun ht8=>?_)
 ·have hm:=xk ht8
  refine Z94 ?_;exact Z98
 have hct:C6 m=true:=by simpa using ht8
 refine Z8 ?_;refine Z77 ?_;refine R.fin [1,10,11,12] ?_
 refine AW.loopC (α:=Nat) (fun x=>⟨95,A6 1 (.ro (aq m)) (A6 10 (Ar m.give) (A6 11 (A2 (m.give.length:Nat)) (A6 12 (A2 (x:Nat)) (fun _=>.any)))),Hp,[],[],none⟩) (fun x=>x≤m.give.length∧∀(j:Nat) (y:Col),j<x→m.give[j]? = some y→(!Fs m y)=false) (fun x=>m.give.length-x) (0) ⟨Nat.zero_le _,fun j y h=>by omega⟩ (StLe.of_eq (by simp)) rfl (fun x hx=>?_)
 refine Z3 ?_;refine R.fin [1,10,11,12,13] ?_
 refine W.condX (fun ht13=>?_) (fun ht13=>?_)
 ·have hlt:x<m.give.length:=by simpa using ht13
  have hgl:=h.gives2
  refine Z88 ?_
  refine R.go (h:=Q.indexAddr (x) (Av m.give[x]) (fun _=>C4 hlt)) (hr:=?_)
  refine Uh ?_;refine R.fin [1,4,10,11,12] ?_;refine W.drawQ [0,1,3,7,15,31,63,127,255,31,543,1567,4095,8191,16383,32767,65535,131071,262143,524287,1048575,2097151,4194303,8388607] 12 Ac (by kernel_rfl) ?_;refine Z15 ?_;refine D.call Tryz.call67 (c67 m.give[x].name (h.gives.2 _ (List.getElem_mem hlt)) _) ?_;refine Z15 ?_;refine Z97 ?_;refine H.call Tryz.call68 (fun hB=>c68 m.give[x].kind _) ?_;refine Z97 ?_;refine Z97 ?_;refine D.tail ?_;refine G.go ?_;refine Z42 ?_;refine Z9 ?_;refine Z9 ?_;refine Rr ?_;refine R.fin [1,10,11,12,39] ?_
  refine W.cond (fun ht39=>?_) (fun ht39=>?_)
  ·rw [Xq] at ht39
   have hm:=xl (List.getElem_mem hlt) (by simpa using ht39)
   refine Z3 ?_;refine Yq ?_;exact m8
  rw [Xq] at ht39
  refine Z75 ?_;refine R.fin [1,10,11,12] ?_;refine K.lpN (x+1) ⟨hlt,Eh hlt hx.2 ht39⟩ (by omega) ?_
  exact StCut.take (own:=[]) (fun _=>.refl _) (by repeat (first|exact B0|refine Az (by first|(simp [or_imp,forall_and];done)|exact H6|exact low_ro.2 Vb) ?_)) (by simp) (by simp)
 have hxe:m.give.length≤x:=by simpa using ht13
 have hga:m.give.all (Fs m)=true:=by have:=Xk hxe hx.2;rw [Hw] at this;simpa using this
 refine Z63 ?_;refine R.fin [1,5] ?_;refine Z21 ?_;refine R.call Tryz.call71 (c71 m.take h.takes h.names _) ?_;refine R.go ?_;refine Z65 ?_;refine G.call Tryz.call73 (fun hB=>vk m.ahead h.ahead.len h.ahead.ok _) ?_;refine g9 ?_;refine G.call Tryz.call73 (fun hB=>vk m.back h.back.len h.back.ok _) ?_;refine R.go ?_;refine R.fin [1,55] ?_
 refine W.cond (fun ht55=>?_) (fun ht55=>?_)
 ·have hm:=xm ht55
  refine Z94 ?_;exact Z98
 have hm0:=ug hct hga ht55
 refine Z8 ?_;refine Z21 ?_;refine R.fin [1,57] ?_;refine Z69 ?_;refine R.fin [1,57,58] ?_
 refine W.cond (fun ht58=>?_) (fun ht58=>?_)
 ·obtain ⟨hl1,hl2⟩:=Jy hct (by rw [ht58];simp)
  obtain ⟨hl3,hl4⟩:=Ef hct
  have g1:=Oi (f:=A7) (l:=m.ahead) (d:=Ag) (by omega)
  have g2:=Oi (f:=A7) (l:=m.back) (d:=Ag) (by omega)
  have g3:=Oi (f:=A8) (l:=m.take) (d:=[]) (by omega)
  have g4:=Oi (f:=Av) (l:=m.give) (d:=⟨[],0⟩) (by omega)
  have ok1:=h.ahead.ok _ (Mq (l:=m.ahead) (d:=Ag) (by omega))
  have ok2:=h.back.ok _ (Mq (l:=m.back) (d:=Ag) (by omega))
  have hm:=hm0.trans (xn ht58)
  refine W.drawQ [0,1,3,7,0,16,48,112,240,511,1023,2047,4095,8191,16383,2047,34815,100351,231423,493567,1017855,2097151,4194303,8388607] 21 Ac (by kernel_rfl) ?_;refine Z15 ?_
  refine D.go (h:=Q.indexAddr (0) (A7 (m.ahead.getD 0 Ag)) (fun _=>g1)) (hr:=?_)
  refine Z54 ?_
  refine D.go (h:=Q.indexAddr (0) (A8 (m.take.getD 0 [])) (fun _=>g3)) (hr:=?_)
  refine D.go ?_;refine D.call Tryz.call75 (c75 (m.take.getD 0 []) _) ?_;refine D.call Tryz.call74 (c74 61 (m.ahead.getD 0 Ag) ok1 (B3 (m.take.getD 0 [])) _) ?_;refine D.go ?_;refine Z97 ?_
  refine H.go (h:=Q.indexAddr (0) (A7 (m.back.getD 0 Ag)) (fun _=>g2)) (hr:=?_)
  refine Z97 ?_;refine H.go ?_
  refine H.go (h:=Q.indexAddr (0) (Av (m.give.getD 0 ⟨[],0⟩)) (fun _=>g4)) (hr:=?_)
  refine Z97 ?_;refine H.call Tryz.call75 (fun hB=>c75 (m.give.getD 0 ⟨[],0⟩).name _) ?_;refine D.tail ?_;refine G.call Tryz.call74 (fun hB=>c74 61 (m.back.getD 0 Ag) ok2 (B3 (m.give.getD 0 ⟨[],0⟩).name) _) ?_;refine Z0 ?_;exact yz
 refine Z1 ?_;refine R.fin [1,83] ?_
 refine W.cond (fun ht83=>?_) (fun ht83=>?_)
 ·obtain ⟨hl1,hl2⟩:=Jy hct (by rw [ht83];simp)
  obtain ⟨hl3,hl4⟩:=Ef hct
  have g1:=Oi (f:=A7) (l:=m.ahead) (d:=Ag) (by omega)
  have g2:=Oi (f:=A7) (l:=m.back) (d:=Ag) (by omega)
  have g3:=Oi (f:=A8) (l:=m.take) (d:=[]) (by omega)
  have g4:=Oi (f:=Av) (l:=m.give) (d:=⟨[],0⟩) (by omega)
  have ok1:=h.ahead.ok _ (Mq (l:=m.ahead) (d:=Ag) (by omega))
  have ok2:=h.back.ok _ (Mq (l:=m.back) (d:=Ag) (by omega))
  have hm:=hm0.trans (xp ht58 ht83)
  refine W.drawQ [0,1,3,7,0,16,48,112,240,511,1023] 9 Ac (by kernel_rfl) ?_;refine Z15 ?_
  refine D.go (h:=Q.indexAddr (0) (A8 (m.take.getD 0 [])) (fun _=>g3)) (hr:=?_)
  refine Z54 ?_
  refine D.go (h:=Q.indexAddr (0) (Av (m.give.getD 0 ⟨[],0⟩)) (fun _=>g4)) (hr:=?_)
  refine Z15 ?_;refine D.tail ?_;refine Z0 ?_;exact yz
 have hm:=hm0.trans (xq ht58 ht83)
 refine Yp ?_;exact m8

def j9 (m:Mov):Bool := !(Ek m)
theorem uh (l:List Mov):(decide ((l.length:Int)≤8) && !(l.any j9))=Nl l:=by
 unfold Nl
 rw [show j9=fun m => !(Ek m) from rfl,Hw]
 simp
theorem c35 (m:Mov) (h:OkMov m) (Hp:List AObj):AFun Tryz.prog 35 [Ge m] Hp (B2 (j9 m)):=by
 refine ACall.body [.tmp 2] [0] Tryz.func35 Tryz.ntmps35 (fun d=>?_)
 refine Z89 ?_;refine Z3 ?_;refine R.call Tryz.call36 (c36 m h _) ?_;exact lq

theorem c65 (l:List Mov) (h:OkMovs l) (Hp:List AObj):AFun Tryz.prog 65 [Gs l,.fn (.func 35) [] []] Hp (A2 (Mp j9 l)):=by
 refine ACall.body [.tmp 4] [0,1] Tryz.func65 Tryz.ntmps65 (fun d=>?_)
 refine Z53 ?_;refine lf ?_
 refine AW.loopC (α:=Nat) (fun x=>⟨19,A6 0 (Gs l) (A6 1 (.fn (.func 35) [] []) (A6 7 (A2 l.length) (A6 8 (A2 (x:Nat)) (fun _=>.any)))),Hp,[],[],none⟩) (fun x=>x≤l.length∧∀(j:Nat) (y:Mov),j<x→l[j]? = some y→j9 y=false) (fun x=>l.length-x) (0) ⟨Nat.zero_le _,fun j y h=>by omega⟩ (StLe.of_eq (by simp)) rfl (fun x hx=>?_)
 refine lb ?_
 refine W.condX (fun ht9=>?_) (fun ht9=>?_)
 ·have hlt:x<l.length:=by simpa using ht9
  have hlen:=h.len
  refine Yu ?_;refine l9 ?_
  refine R.go (h:=Q.indexAddr (x) (Ge l[x]) (fun _=>C4 hlt)) (hr:=?_)
  refine R.go ?_;refine R.callV Tryz.call35 (c35 l[x] (h.each _ (List.getElem_mem hlt)) _) ?_;refine lw ?_
  refine W.cond (fun ht16=>?_) (fun ht16=>?_)
  ·refine Yt ?_;exact Z85
  refine Z75 ?_;exact Z66
 have hxe:l.length≤x:=by simpa using ht9
 refine Z63 ?_;exact Z78

theorem c34 (l:List Mov) (h:OkMovs l) (Hp:List AObj):AFun Tryz.prog 34 [Gs l,.fn (.func 35) [] []] Hp (B2 (l.any j9)):=by
 refine ACall.body [.tmp 4] [0,1] Tryz.func34 Tryz.ntmps34 (fun d=>?_)
 refine Z53 ?_;refine Z1 ?_;refine R.call Tryz.call65 (c65 l h _) ?_;refine Z0 ?_;exact Z91

theorem c14 (l:List Mov) (h:OkMovs l) (Hp:List AObj):AFun Tryz.prog 14 [Gs l] Hp (B2 (Nl l)):=by
 refine ACall.body [.tmp 2] [0] Tryz.func14 Tryz.ntmps14 (fun d=>?_)
 refine Z48 ?_;refine Z28 ?_;refine G.go ?_;refine G.call Tryz.call34 (fun hB=>c34 l h _) ?_;refine G.go ?_;refine Z0 ?_;refine Z4 ?_;exact K.fin (V.one V.tmp) ⟨by rw [←uh,List.length_map],rfl⟩

theorem c44 (c:List Col) (hc:OkCols c) (l:List Mov) (h:OkMovs l) (Hp:List AObj):AFun Tryz.prog 44 [Ar c,Gs l] Hp (B2 (V6 c l)):=by
 refine ACall.body [.tmp 4] [0,1] Tryz.func44 Tryz.ntmps44 (fun d=>?_)
 refine Z53 ?_;refine Z3 ?_;refine R.call Tryz.call84 (c84 c hc _) ?_;refine R.go ?_;refine G.go ?_;refine G.call Tryz.call14 (fun hB=>c14 l h _) ?_;refine Z0 ?_;refine Z27 ?_;exact K.fin (V.one V.tmp) ⟨by unfold V6;rw [Q0],rfl⟩

theorem ja {Hp:List AObj} {c:List Col} (h:∀x∈Hp,ObjLow Hp.length x):∀x∈Hp++[AObj.cells 40 [Ar c]],ObjLow (Hp.length+1) x:=by
 intro x hx
 rcases List.mem_append.1 hx with hx|hx
 ·exact ObjLow.le (by omega) (h x hx)
 rw [List.mem_singleton.1 hx]
 intro z hz
 rw [List.mem_singleton.1 hz]
 exact H6
theorem c45 (c:List Col) (l:List Mov) (Hp:List AObj):ACallO Tryz.prog 45 [Ar c,Gs l] Hp (fun r H'=>r=.fn (.func 85) [] [.ro [Gs l],.ptr (oid Hp.length 0) 0]∧H'=Hp++[.cells 40 [Ar c]]):=by
 refine ACallO.body [.tmp 4] [0,1] Tryz.func45 Tryz.ntmps45 (fun d=>?_)
 refine Dq ?_;refine R.box ?_;refine Z0 ?_;refine Gn ?_;refine Dq ?_
 refine R.assumeLow (fun hlow=>?_)
 refine Km ?_;refine R.go ?_;refine Z27 ?_;exact K.finO 1 (V.tmp (t:=4)) ⟨rfl,rfl⟩ (hlow:=by simp [oid,or_imp,forall_and];exact ⟨fun m _ a _=>Ad _ a,fun m _ a _=>Ad _ a⟩) (hobj:=ja hlow)

theorem c85 (l oc:Nat) (ms:List Mov) (hm:∀m∈ms,MvOk m) (hml:ms.length≤1048576) (C:Nat→List Col) (hC:∀k,OkCols (C k)) (U T:Nat→List AObj) (N:Nat→Prop) (Z:List AObj→Prop) (hlen:∀k,(U k).length=(U 0).length) (hlenW:∀k,(T k).length=(U 0).length) (hll:l<(U 0).length) (hol:oc<(U 0).length)
  (hlw:∀k,∀x∈U k,ObjLow (U 0).length x) (hlW:∀k,∀x∈T k,ObjLow (U 0).length x) (h0:N 0) (hc:∀k,(U k)[oc]? = some (.cells 40 [Ar (C k)])) (hcW:∀k,(T k)[oc]? = some (.cells 40 [Ar (C k)]))
  (hn:∀k m,ms[k]? = some m→(Cg (C k) m).2=0→(T k).set oc (.cells 40 [Ar (Cg (C k) m).1])=U (k+1))
  (hy:∀k m X,ms[k]? = some m→N k→AYield Tryz.prog l [Ar (Cg (C k) m).1,A2 (Cg (C k) m).2] (U k++X) (fun b H'=>((Cg (C k) m).2≠0∧∃V,H'=V++X∧V.length=(U 0).length∧(∀x∈V,ObjLow (U 0).length x)∧Z V)∨((Cg (C k) m).2=0∧b=true∧N (k+1)∧H'=T k++X)))
  (hR:N ms.length→Z (U ms.length)):ACall Tryz.prog 85 [.yield l,.ro [Gs ms],.ptr oc 0] (U 0) (fun _ H'=>Z H'):=by
 refine ACall.body [] [0,1,2] Tryz.func85 Tryz.ntmps85 (fun d=>?_)
 refine Z13 ?_;refine R.fin [0,2,8,9,10] ?_
 refine AW.loopC (α:=Nat) (fun x=>⟨31,A6 0 (.yield l) (A6 2 (.ptr oc 0) (A6 8 (Gs ms) (A6 9 (A2 ms.length) (A6 10 (A2 (x:Nat)) (fun _=>.any))))),U x,[],[],none⟩) (fun x=>x≤ms.length∧N x) (fun x=>ms.length-x) (0) ⟨Nat.zero_le _,h0⟩ (StLe.of_eq (by simp)) rfl (fun x hx=>?_)
 refine Z3 ?_;refine R.fin [0,2,8,9,10,11] ?_
 refine W.condX (fun ht11=>?_) (fun ht11=>?_)
 ·have hlt:x<ms.length:=by simpa using ht11
  refine Z88 ?_
  refine R.go (h:=Q.indexAddr (x) (Ge ms[x]) (fun _=>C4 hlt)) (hr:=?_)
  refine Uh ?_;refine R.fin [0,2,5,8,9,10] ?_;refine Dq ?_
  refine R.go (h:=Q.loadUp (hc x)) (hr:=?_)
  refine R.go ?_;refine R.call Tryz.call86 (c86 (C x) (hC x) ms[x] (hm _ (List.getElem_mem hlt)) _) ?_;refine Z45 ?_;refine R.fin [0,2,6,7,8,9,10] ?_;refine Z35 ?_
  refine R.yield (l:=l) (args:=[Ar (Cg (C x) ms[x]).1,A2 (Cg (C x) ms[x]).2]) (hy x ms[x] _ (List.getElem?_eq_getElem hlt) hx.2) ?_
  intro b V O hV hb
  have hVO:O=[AObj.cells 47 (aq ms[x])]∧(((Cg (C x) ms[x]).2≠0∧V.length=(U 0).length∧(∀y∈V,ObjLow (U 0).length y)∧Z V)∨((Cg (C x) ms[x]).2=0∧b=true∧N (x+1)∧V=T x)):=by
   rcases hb with ⟨h1,V',h2,h3,h4,h5⟩|⟨h1,h2,h3,h4⟩
   ·obtain ⟨rfl,rfl⟩:=List.append_inj h2 (by rw [hV,hlen x,h3])
    exact ⟨rfl,.inl ⟨h1,h3,h4,h5⟩⟩
   have h6:=List.append_inj h4 (by rw [hV,hlen x,hlenW x])
   exact ⟨h6.2,.inr ⟨h1,h2,h3,h6.1⟩⟩
  obtain ⟨rfl,hVO⟩:=hVO
  have hVl:V.length=(U 0).length:=by rw [hV,hlen x]
  have hVw:∀y∈V,ObjLow (U 0).length y:=by
   rcases hVO with ⟨_,_,h,_⟩|⟨_,_,_,rfl⟩
   ·exact h
   exact hlW _
  refine ⟨fun _=>by rw [hVl];exact hVw,fun o ho=>(by cases ho),?_⟩
  refine Z42 ?_;refine R.go ?_;refine R.fin [0,2,6,8,9,10,28] ?_
  refine W.cond (fun ht28=>?_) (fun ht28=>?_)
  ·have hZ:Z V:=by
    rcases hVO with ⟨_,_,_,h⟩|⟨h1,h2,_,_⟩
    ·exact h
    rw [h1,h2] at ht28;simp at ht28
   refine Z22 ?_;refine Z10 ?_;refine K.lpR ?_;exact K.fin .nores (hp:=hZ)
  have hVn:(Cg (C x) ms[x]).2=0∧N (x+1)∧V=T x:=by
   rcases hVO with ⟨h1,_,_,_⟩|⟨h1,_,h3,h4⟩
   ·simp [h1] at ht28
   exact ⟨h1,h3,h4⟩
  obtain ⟨hz,hN,rfl⟩:=hVn
  have hnx:=hn x _ (List.getElem?_eq_getElem hlt) hz
  refine Z8 ?_;refine Z86 ?_
  refine R.storeUp jS (hcW x) ?_ ?_
  ·first|exact H6|(simp [or_imp,forall_and];done)
  refine R.fin [0,2,8,9,10] ?_;refine Rq ?_;refine R.fin [0,2,8,9,10] ?_;refine K.lpN (x+1) ⟨hlt,hN⟩ (by omega) ?_
  rw [hnx]
  exact StCut.take (own:=[]) (fun _=>.refl _) (by repeat (first|exact B0|refine Az (by first|(simp [or_imp,forall_and];done)|exact Mo|(have:=hlen (x+1);simp;omega)) ?_)) (by simp) (by simp)
 have hxe:x=ms.length:=by have:=hx.1;simp at ht11;omega
 refine K.lpE ?_;exact K.finN .nores (hp:=by rw [hxe];exact hR (hxe ▸ hx.2))

/-! The columns on the way through moves. -/
def colsAt (c:List Col) (ms:List Mov):Nat→List Col
 | 0=>c
 | k+1=>match ms[k]? with|some m=>(Cg (colsAt c ms k) m).1|none=>colsAt c ms k
def F3 (c:List Col) (ms:List Mov):Nat→List (List Col)
 | 0=>[c]
 | k+1=>F3 c ms k++[colsAt c ms (k+1)]
def NS (c:List Col) (ms:List Mov) (k:Nat):Prop:=D7 c ms=((F3 c ms k).dropLast++(D7 (colsAt c ms k) (ms.drop k)).1,(D7 (colsAt c ms k) (ms.drop k)).2)
theorem dt (c:List Col) (ms:List Mov) (k:Nat):(F3 c ms k).dropLast++[colsAt c ms k]=F3 c ms k:=by
 cases k with
 | zero=>rfl
 | succ k=>simp [F3]
theorem Tf {c:List Col} {ms:List Mov} {k:Nat} {m:Mov} (h:ms[k]? = some m):colsAt c ms (k+1)=(Cg (colsAt c ms k) m).1:=by rw [colsAt,h]
theorem R9 {ms:List Mov} {k:Nat} {m:Mov} (hk:ms[k]? = some m):ms.drop k=m::ms.drop (k+1):=by
 obtain ⟨h1,h2⟩:=List.getElem?_eq_some_iff.1 hk
 rw [List.drop_eq_getElem_cons h1,h2]
theorem ACk {c:List Col} {ms:List Mov}:NS c ms 0:=rfl
theorem ui {c:List Col} {ms:List Mov} {k:Nat} {m:Mov} (hk:ms[k]? = some m) (h:NS c ms k) (he:(Cg (colsAt c ms k) m).2=0):NS c ms (k+1):=by
 unfold NS at h ⊢
 rw [h,R9 hk]
 have e:D7 (colsAt c ms k) (m::ms.drop (k+1))=(colsAt c ms k::(D7 (Cg (colsAt c ms k) m).1 (ms.drop (k+1))).1,(D7 (Cg (colsAt c ms k) m).1 (ms.drop (k+1))).2):=by
  rw [D7,if_neg (by rw [he];simp)]
 have e2:(F3 c ms (k+1)).dropLast=F3 c ms k:=by simp [F3]
 rw [e,e2,Tf hk]
 have e3:=dt c ms k
 refine Prod.ext ?_ rfl
 show (F3 c ms k).dropLast++(colsAt c ms k::_)=F3 c ms k++_
 conv=>rhs;rw [←e3]
 simp
theorem xt {c:List Col} {ms:List Mov} {k:Nat} {m:Mov} (hk:ms[k]? = some m) (h:NS c ms k) (he:(Cg (colsAt c ms k) m).2≠0):(D7 c ms).2=(Cg (colsAt c ms k) m).2:=by
 unfold NS at h
 rw [h,R9 hk,D7,if_pos (by simpa using he)]
theorem xu {c:List Col} {ms:List Mov} (h:NS c ms ms.length):D7 c ms=(F3 c ms ms.length,0):=by
 unfold NS at h
 rw [h,List.drop_length,D7]
 exact Prod.ext (dt c ms ms.length) rfl
theorem ow {c:List Col} {m:Mov} (hc:OkCols c) (h:OkMov m):OkCols (Cg c m).1:=by
 have h0:OkCols ([]:List Col):=⟨by decide,fun y hy=>by cases hy⟩
 unfold Cg
 split
 ·exact h0
 split
 ·exact h0
 split
 ·exact h0
 exact Xp hc (Xo h) (by rw [Kj];exact h.gives2)
theorem Ns {c:List Col} {ms:List Mov} (hc:OkCols c) (h:∀m∈ms,OkMov m):∀k,OkCols (colsAt c ms k)
 | 0=>hc
 | k+1=>by
  rw [colsAt]
  cases hk:ms[k]? with
  | none=>exact Ns hc h k
  | some m=>exact ow (Ns hc h k) (h m (List.mem_of_getElem? hk))
theorem Ra (c:List Col) (ms:List Mov):∀k,(F3 c ms k).length=k+1
 | 0=>rfl
 | k+1=>by rw [F3,List.length_append,Ra c ms k];rfl
theorem xv {c:List Col} {ms:List Mov} (h:V6 c ms=true) (hk:OkMovs ms):(∀m∈ms,MvOk m)∧ms.length≤8:=by
 unfold V6 Nl at h
 simp only [Bool.and_eq_true,decide_eq_true_eq,List.all_eq_true] at h
 exact ⟨fun m hm=>ub (hk.each m hm) (Ib (h.2.2 m hm)),by omega⟩
theorem ACl {U:List AObj} {i j:Nat} {x y:AObj} (h:U[i]? = some x) (hne:j≠i):(U.set j y)[i]? = some x:=by rw [List.getElem?_set_ne hne];exact h
theorem Tg {n k:Nat} {o:Bool} {l:List Str}:Low n (.slice o k (l.map A8)):=by simp [or_imp,forall_and]
theorem b8 {n k:Nat} {o:Bool} {a:List Expr} {e:Expr}:Low n (.slice o k (a.map A7++[A7 e])):=low_slice.2 fun y hy=>by
 rcases List.mem_append.1 hy with h|h
 ·obtain ⟨m,_,rfl⟩:=List.mem_map.1 h
  exact Ad _ _
 rw [List.mem_singleton.1 h]
 exact Ad _ _
theorem Rb {n k:Nat} {o:Bool} {a:List Expr}:Low n (.slice o k (a.map A7)):=low_slice.2 fun y hy=>by
 obtain ⟨m,_,rfl⟩:=List.mem_map.1 hy
 exact Ad _ _
/-! fuse: trees in columns' places. -/
mutual
def putF (c:List Col) (l:List Expr):Expr→Option Expr
 | .mk o t v k=>if o==2 then (if Bh t c<0 then none else some (l.getD (Bh t c).toNat Ag)) else (vl c l k).map fun k'=>.mk o t v k'
def vl (c:List Col) (l:List Expr):List Expr→Option (List Expr)
  | []=>some []
  | e::r=>match putF c l e with
    | none=>none
    | some y=>(vl c l r).map fun s=>y::s
 end
set_option maxRecDepth 8000
/-! The parse laws where nothing is too deep. -/
/-! The parser from a word on, and of a source. -/
/-! Other trees have other words, and other prints. -/
/-! The laws of printing. -/
/-- show.Print. -/
def Ep (x:Expr):Str×Int:=if !(Ay x) then ([],1) else if decide ((4000:Int)<((A9 x).length:Int)) then ([],3) else (A9 x,0)
theorem uj {x:Expr} (h:(Ep x).2=0):Ch x=true∧(A9 x).length≤4000∧Ep x=(A9 x,0):=by
 unfold Ep at h ⊢
 split at h
 ·cases h
 rename_i h1
 split at h
 ·cases h
 rename_i h2
 rw [if_neg h1,if_neg h2]
 refine ⟨by rw [←Ei];simpa using h1,by simp at h2;omega,rfl⟩
theorem Hi {x:Expr} (h:Ch x=true):Bl B1 x=true:=by
 unfold Ch at h
 rw [Bool.and_eq_true] at h
 exact h.2
set_option maxRecDepth 4000
theorem J8 {k:List Expr} {i:Nat} (h:i<k.length):(k.map A7)[i]? = some (A7 (k.getD i Ag))∧k.getD i Ag∈k∧∀(f:Expr→Rs) (d:Rs),(k.map f).getD i d=f (k.getD i Ag):=by
 have e:k.getD i Ag=k[i]:=by rw [List.getD_eq_getElem?_getD,List.getElem?_eq_getElem h];rfl
 rw [e]
 refine ⟨by simp [h],List.getElem_mem h,fun f d=>?_⟩
 rw [List.getD_eq_getElem?_getD,List.getElem?_map,List.getElem?_eq_getElem h]
 rfl
theorem oy {e:Expr} (h:B1 e=true):(e.op=5→e.kids.length=2)∧(e.op=3∨e.op=4→e.kids.length=1)∧(e.op=6→Aw e.text=(e.kids.length:Int))∧(e.op=1∨e.op=2∨e.op=3∨e.op=4∨e.op=5∨e.op=6):=by
 cases Fq h with
 | val v hp h0=>simp [Ex,Expr.op]
 | name t ht=>simp [B3,Expr.op]
 | neg a=>simp [Bw,Expr.op,Expr.kids]
 | no a=>simp [Bw,Expr.op,Expr.kids]
 | bin t a b ht=>simp [Ca,Expr.op,Expr.kids]
 | call t k ht=>simpa [Expr.op,Expr.kids,Expr.text] using ht
def Lf (s:Str):Int:=if s==[111,114] then 0 else if s==[97,110,100] then 1 else if (((((s==[61]) || (s==[33,61])) || (s==[60])) || (s==[60,61])) || (s==[62])) || (s==[62,61]) then 3 else if ((s==[43]) || (s==[45])) || (s==[38]) then 4 else if ((s==[42]) || (s==[47])) || (s==[37]) then 5 else 7
theorem jb (s:Str):Lf s=if 0≤Af s then Af s else 7:=by
 by_cases hf:s∈levels.flatten
 ·have h3:(levels.flatten.all fun s=>decide (Lf s=if 0≤Af s then Af s else 7))=true:=by kernel_rfl
  exact of_decide_eq_true (List.all_eq_true.1 h3 s hf)
 have hn:=hf
 have h:Af s = -1:=by
  rcases Gc s with h|⟨h,_⟩
  ·exact absurd h hf
  exact h
 rw [h]
 simp only [levels,List.flatten_cons,List.flatten_nil,List.append_nil,List.cons_append,List.nil_append,List.mem_cons,List.not_mem_nil,or_false,not_or] at hn
 obtain ⟨a1,a2,a3,a4,a5,a6,a7,a8,a9,b1,b2,b3,b4,b5⟩:=hn
 simp [Lf, *]
/-- The level of a node. -/
def b9 (e:Expr):Int:=if e.op==4 then 2 else if e.op==3 then 6 else if e.op==5 then Lf e.text else 7
theorem du {e:Expr} (h:B1 e=true):b9 e=(levE e:Int):=by
 unfold b9 levE
 split
 ·rfl
 split
 ·rfl
 split
 ·rename_i h5
  have hb:0≤Af e.text:=by
   have h5':e.op=5:=by simpa using h5
   rw [Gb] at h
   unfold M4 at h
   simp [h5'] at h
   exact h.2.1
  rw [jb,if_pos hb]
  omega
 rfl
theorem ACm (s:Str) (Hp:List AObj):AFun Tryz.prog 199 [A8 s] Hp (A2 (Lf s)):=by
 refine ACall.body [.tmp 2] [0] Tryz.func199 Tryz.ntmps199 (fun d=>?_)
 refine Z48 ?_;refine Z46 ?_;refine R.fin [3] ?_;refine Z69 ?_;refine R.fin [3,4] ?_
 refine W.cond (fun ht4=>?_) (fun ht4=>?_)
 ·exact lm
 refine Z1 ?_;refine R.fin [3,6] ?_
 refine W.cond (fun ht6=>?_) (fun ht6=>?_)
 ·exact lm
 refine W.join ⟨23,A6 3 (A8 s) (A6 8 (B2 ((((((s==[61]) || (s==[33,61])) || (s==[60])) || (s==[60,61])) || (s==[62])) || (s==[62,61]))) (fun _=>.any)),Hp,[],[],none⟩ ?_ ?_
 ·refine ll ?_
  refine W.cond (fun ht8=>?_) (fun ht8=>?_)
  ·exact l7
  refine ll ?_
  refine W.cond (fun ht8=>?_) (fun ht8=>?_)
  ·exact l7
  refine ll ?_
  refine W.cond (fun ht8=>?_) (fun ht8=>?_)
  ·exact l7
  refine ll ?_
  refine W.cond (fun ht8=>?_) (fun ht8=>?_)
  ·exact l7
  refine ll ?_
  refine W.cond (fun ht8=>?_) (fun ht8=>?_)
  ·exact l7
  refine Z11 ?_;refine R.fin [3,8] ?_;exact Z37
 refine W.cond (fun ht8=>?_) (fun ht8=>?_)
 ·exact lm
 refine W.join ⟨23,A6 3 (A8 s) (A6 15 (B2 (((s==[43]) || (s==[45])) || (s==[38]))) (fun _=>.any)),Hp,[],[],none⟩ ?_ ?_
 ·refine Z1 ?_;refine R.fin [3,15] ?_
  refine W.cond (fun ht15=>?_) (fun ht15=>?_)
  ·refine W.keep [3,15] ?_;exact Z76
  refine Z1 ?_;refine R.fin [3,15] ?_
  refine W.cond (fun ht15=>?_) (fun ht15=>?_)
  ·refine W.keep [3,15] ?_;exact Z76
  refine Z11 ?_;refine R.fin [3,15] ?_;exact Z37
 refine W.cond (fun ht15=>?_) (fun ht15=>?_)
 ·exact lm
 refine W.join ⟨23,A6 19 (B2 (((s==[42]) || (s==[47])) || (s==[37]))) (fun _=>.any),Hp,[],[],none⟩ ?_ ?_
 ·refine Z1 ?_;refine R.fin [3,19] ?_
  refine W.cond (fun ht19=>?_) (fun ht19=>?_)
  ·refine W.keep [19] ?_;exact Z76
  refine Z1 ?_;refine R.fin [3,19] ?_
  refine W.cond (fun ht19=>?_) (fun ht19=>?_)
  ·refine W.keep [19] ?_;exact Z76
  refine Z11 ?_;refine R.fin [19] ?_;exact Z37
 refine W.cond (fun ht19=>?_) (fun ht19=>?_)
 ·exact lm
 refine Yp ?_;exact K.fin (V.one V.tmp) ⟨by simp_all [Lf],rfl⟩

theorem AAj (e:Expr) (Hp:List AObj):AFun Tryz.prog 169 [A7 e] Hp (A2 (b9 e)):=by
 refine ACall.body [.tmp 2] [0] Tryz.func169 Tryz.ntmps169 (fun d=>?_)
 refine Z89 ?_;refine Z21 ?_;refine R.fin [1,4] ?_;refine Z69 ?_;refine R.fin [1,4,5] ?_
 refine W.cond (fun ht5=>?_) (fun ht5=>?_)
 ·refine Z3 ?_;exact vu
 refine Z1 ?_;refine R.fin [1,4,7] ?_
 refine W.cond (fun ht7=>?_) (fun ht7=>?_)
 ·refine Z3 ?_;exact vu
 refine Z1 ?_;refine R.fin [1,9] ?_
 refine W.cond (fun ht9=>?_) (fun ht9=>?_)
 ·refine Z1 ?_;refine R.call Tryz.call199 (ACm e.text _) ?_;refine R.go ?_;exact vu
 refine Yp ?_;exact K.fin (V.one V.tmp) ⟨by simp_all [b9],rfl⟩

end Go.SX.Nb
namespace Go.Proofs
open Go.Shelf Go.RowKit

section
variable {P:Program} (w:World)

/-- Bytes behind a builder's bytes: what is handed back lies where it lay, or in the next block, or nowhere still. -/
theorem jc {t u ty e:TypeId} {i:TypeInfo} (ht:P.underlying t=some (.slice e)) (hu:P.underlying u=some .string) (hi:P.info? e=some i) (hz:i.zero=some (.int .u8 0)) (hsize:i.size=1) (hby:i.bytes=1)
  (v:Value) (n:Nat) (xs:List Value) (hown:w.ownsRow 0 e 1 v n xs) (s:ByteArray) (hb:n+s.size≤140737488355328):
  ∃v' w',(Builtin.append_ #[t,u] ty #[v,.string s]).run P w=.ok v' w'∧w'.ownsRow 0 e 1 v' (n+s.size) (xs++Lib.strCells s)∧w.grownBy w' v'.ownBlock ∧
   ((v=.slice none 0 0∧v'=v∧s.size=0)∨(∃g cap,v=.slice (some ⟨g,0,none⟩) n cap∧v'=.slice (some ⟨g,0,none⟩) (n+s.size) cap)∨∃cap,v'=.slice (some ⟨w.heap.size,0,none⟩) (n+s.size) cap∧0<n+s.size):=by
 have h63:n+s.size≤maxLen:=by unfold maxLen;omega
 obtain ⟨v',w',hr,h1,h2,h3⟩:=Lib.run_append_own_string (P:=P) w 0 t u ty e i ht hu hi hz hsize hby v n xs hown s h63 hb (Nat.zero_le _)
 have hxl:xs.length=n:=by simpa using hown.1
 refine ⟨v',w',hr,h1,?_⟩
 rcases hown.2 with ⟨rfl,rfl⟩|⟨g,cap,cur,rfl,hbg,hg,hnc,hcm,hcs,htake⟩
 ·by_cases hm:s.size=0
  ·have e1:=h3.2 ⟨rfl,hm⟩
   exact ⟨by rw [e1];exact h2,.inl ⟨rfl,e1,hm⟩⟩
  have hr2:=run_append_nil_string (P:=P) w t u ty e i (.int .u8 0) ht hu hi hz s (by omega) (by omega) (by rw [hby];omega)
  rw [hr] at hr2
  injection hr2 with e1 e2
  refine ⟨?_,.inr (.inr ⟨_,by rw [e1,Nat.zero_add],by omega⟩)⟩
  rw [e2]
  exact ⟨rfl,rfl,rfl,by simp,fun k hk _=>Lib.alloc_old w.drew _ k hk⟩
 by_cases hroom:n+s.size≤cap
 ·have hcs':cur.size=cap:=by simpa using hcs
  have hr2:=Lib.run_append_room_string (P:=P) w t u ty e i ht hu hi hsize g n cap cur hg s hroom (by omega)
  rw [hr] at hr2
  injection hr2 with e1 e2
  exact ⟨by rw [e1];exact h2,.inr (.inl ⟨g,cap,rfl,e1⟩)⟩
 have holds:∀j u,xs[j]? = some u→w.cell? ((⟨g,0,none⟩:Addr).add j)=some u:=hown.cells (g:=g) rfl
 have hr2:=Lib.run_append_grow_string (P:=P) w t u ty e i (.int .u8 0) ht hu hi hz ⟨g,0,none⟩ n cap xs (by rw [hsize];simpa using hxl) holds s (by omega) (by omega) (by rw [hby];exact growslice_fits (by omega) (by omega))
 rw [hr] at hr2
 injection hr2 with e1 e2
 refine ⟨?_,.inr (.inr ⟨_,e1,by omega⟩)⟩
 rw [e2]
 exact ⟨rfl,rfl,rfl,by simp,fun k hk _=>Lib.alloc_old w.drew _ k hk⟩
end

theorem Nt {P:Program} {w w':World} {ops:Array Oper} {rest:List Oper} {o:Oper} {a:Act} {Q:Exit→Act→World→Prop} {v v':Value} {s:ByteArray} (hgd:o.guard=none) (sl x:Operand) (t u ty:TypeId)
  (ho:o.op=.call { callee:=.builtin .append,args:=#[sl,x],argTypes:=#[t,u] }) (hty:o.type=ty) (hs:a.eval sl=v) (hx:a.eval x=.string s) (hrun:(Builtin.append_ #[t,u] ty #[v,.string s]).run P w=.ok v' w')
  (h:wpList P ops Q rest (a.put o.dst v') w'):wpList P ops Q (o::rest) a w:=by
 refine wpList_plain hgd fun K hK=>?_
 subst hty
 unfold Oper.wp execOp
 simp only [ho,resolve,invoke,builtin,Sem.run_bind,Sem.run_pure,Result.andThen_ok,List.map_toArray,List.map_cons,List.map_nil,hs,hx,hrun]
 exact hK _ _ h

section
variable {P:Program} {ρ:Ren}

set_option maxHeartbeats 1000000 in
set_option maxRecDepth 100000 in
/-- The check of an unused builder within a block of type T. -/
theorem jd (L:Lays.n240 P ρ) (X:Builder.X72 P ρ) {T:TypeId} (hl:liesAt P P.depth T (2 / P.cellsOf T) 0 (ρ.t 72) 1=true) (b:Nat) (w:World) (h0:w.cell? ⟨b,0,none⟩=some (.pointer none)) (hsh:w.shape? b=some (T,2)) (hfz:w.frozen? ⟨b,0,none⟩=false):
  Calls P (ρ.f 240) #[.pointer (some ⟨b,0,none⟩)] w fun e w'=>e=.returned (.tuple #[])∧w'=w.setCell ⟨b,0,none⟩ (.pointer (some ⟨b,0,none⟩)):=by
 obtain ⟨j,hj,hjs⟩:=Option.map_eq_some_iff.1 X.sizeBuilder
 have mixed:=L.mixed
 have t72:=L.t72;have a72:=L.a72;have z72:=L.z72;have v72:=L.v72;have u72:=run_underlying L.t72
 have t70:=L.t70;have a70:=L.a70;have z70:=L.z70;have v70:=L.v70;have u70:=run_underlying L.t70
 have t9:=L.t9;have a9:=L.a9;have z9:=L.z9;have v9:=L.v9;have u9:=run_underlying L.t9
 have t4:=L.t4;have a4:=L.a4;have z4:=L.z4;have v4:=L.v4;have u4:=run_underlying L.t4
 have t164:=L.t164;have a164:=L.a164;have z164:=L.z164;have v164:=L.v164;have u164:=run_underlying L.t164
 go_enter L.f240,Body.n240_ntmps ρ
 go_wp2
 rw [Lib.run_to_unsafe w ⟨b,0,none⟩ L.t70 L.t164 hj (by rw [hjs];decide) hsh (Nat.zero_lt_succ 1)]
 simp only [Result.andThen]
 rw [Oper.upon_value]
 go_wp2
 rw [run_callFunc_extern L.f276 (by kernel_rfl) (by kernel_rfl) (by kernel_rfl) (e:=Extern.AbiNoEscape.same) (by kernel_rfl)]
 rw [Lib.run_noEscape]
 simp only [Result.andThen]
 rw [Oper.upon_value]
 go_wp2
 rw [Lib.run_from_unsafe w ⟨b,0,none⟩ L.t164 L.t70 hj hsh hl]
 simp only [Result.andThen]
 rw [Oper.upon_value]
 go_wp2
 go_end0
 exact ⟨rfl,rfl⟩

/-- The check: behind it the first cell holds the builder's own address; nothing else turns. -/
theorem oz (L:Lays.n240 P ρ) (X:Builder.X72 P ρ) {T e:TypeId} (hl:liesAt P P.depth T (2 / P.cellsOf T) 0 (ρ.t 72) 1=true) (b:Nat) (p v:Value) (n:Nat) (bs:List Value) (w:World) (h:Jl T e b p v n bs w):
  Calls P (ρ.f 240) #[.pointer (some ⟨b,0,none⟩)] w fun e' w'=>e'=.returned (.tuple #[])∧Jl T e b (.pointer (some ⟨b,0,none⟩)) v n bs w'∧w.grownBy w' (some b)∧w'.heap.size=w.heap.size:=by
 obtain ⟨h1,hp,h3,h4⟩:=h
 rcases hp with rfl|rfl
 ·refine (jd L X hl b w (by rw [Lib.cell_of_heap h1];rfl) (by simp [World.shape?,h1]) (Lib.frozen_of_heap h1 0)).mono ?_
  rintro e' w' ⟨rfl,rfl⟩
  have hgr:w.grownBy (w.setCell ⟨b,0,none⟩ (.pointer (some ⟨b,0,none⟩))) (some b):=⟨rfl,rfl,rfl,by simp [World.setCell],fun k _ hk=>Below.heap_setCell _ _ _ _ (fun e=>hk (by simp [e]))⟩
  exact ⟨rfl,⟨by simp [World.setCell,Array.getElem?_modify,h1],.inr rfl,h3.kept hgr (.inr h4),h4⟩,hgr,by simp [World.setCell]⟩
 refine (Any.Builder_copyCheck_used L X b w (by rw [Lib.cell_of_heap h1];rfl)).mono ?_
 rintro e' w' ⟨rfl,rfl⟩
 exact ⟨rfl,⟨h1,.inr rfl,h3,h4⟩,⟨rfl,rfl,rfl,Nat.le_refl _,fun _ _ _=>rfl⟩,rfl⟩

set_option maxHeartbeats 1000000 in
set_option maxRecDepth 100000 in
/-- How many bytes there are. -/
theorem bldLen (L:Lays.n170 P ρ) {T e:TypeId} (b:Nat) (p v:Value) (n:Nat) (bs:List Value) (w:World) (h:Jl T e b p v n bs w):
  Calls P (ρ.f 170) #[.pointer (some ⟨b,0,none⟩)] w fun e' w'=>e'=.returned (.int .i64 n)∧w'=w:=by
 obtain ⟨h1,_,h3,_⟩:=h
 obtain ⟨ao,cap,rfl⟩:∃ao cap,v=.slice ao n cap:=by
  rcases h3.2 with ⟨hv,h0⟩|⟨g,cap,cur,hv,_⟩
  ·exact ⟨none,0,by rw [hv,h0]⟩
  exact ⟨_,_,hv⟩
 have c1:w.cell? ⟨b,1,none⟩=some (.slice ao n cap):=by rw [Lib.cell_of_heap h1];rfl
 have mixed:=L.mixed
 have t72:=L.t72;have a72:=L.a72;have z72:=L.z72;have v72:=L.v72;have u72:=run_underlying L.t72
 have t70:=L.t70;have a70:=L.a70;have z70:=L.z70;have v70:=L.v70;have u70:=run_underlying L.t70
 have t37:=L.t37;have a37:=L.a37;have z37:=L.z37;have v37:=L.v37;have u37:=run_underlying L.t37
 have t3:=L.t3;have a3:=L.a3;have z3:=L.z3;have v3:=L.v3;have u3:=run_underlying L.t3
 go_enter L.f170,Body.n170_ntmps ρ
 go_wp2
 go_ret
 exact ⟨rfl,rfl⟩

set_option maxHeartbeats 2000000 in
set_option maxRecDepth 100000 in
/-- A text is written behind it. -/
theorem bldWrite (L:Lays.n166 P ρ) (X:Builder.Extra P ρ) {T:TypeId} (hl:liesAt P P.depth T (2 / P.cellsOf T) 0 (ρ.t 72) 1=true) (hTe:T≠ρ.t 5) (b:Nat) (p v:Value) (n:Nat) (bs:List Value) (s:ByteArray) (w:World) (h:Jl T (ρ.t 5) b p v n bs w)
  (hlen:n+s.size≤140737488355328):
  Calls P (ρ.f 166) #[.pointer (some ⟨b,0,none⟩),.string s] w fun e w'=>e=.returned (.tuple #[.int .i64 s.size,.nilIface])∧∃v',Jl T (ρ.t 5) b (.pointer (some ⟨b,0,none⟩)) v' (n+s.size) (bs++Lib.strCells s) w' ∧
   (w'.os=w.os∧w'.tape=w.tape∧w'.output=w.output∧w.heap.size≤w'.heap.size)∧(∀k,k<w.heap.size→k≠b→v'.ownBlock≠some k→w'.heap[k]? = w.heap[k]?) ∧
   ((v=.slice none 0 0∧v'=v∧s.size=0)∨(∃g cap,v=.slice (some ⟨g,0,none⟩) n cap∧v'=.slice (some ⟨g,0,none⟩) (n+s.size) cap)∨∃cap,v'=.slice (some ⟨w.heap.size,0,none⟩) (n+s.size) cap∧0<n+s.size):=by
 obtain ⟨i0,hi,hz0,hz1,hz2⟩:=info_parts X.infoByte
 have mixed:=L.mixed
 have t72:=L.t72;have a72:=L.a72;have z72:=L.z72;have v72:=L.v72;have u72:=run_underlying L.t72
 have t70:=L.t70;have a70:=L.a70;have z70:=L.z70;have v70:=L.v70;have u70:=run_underlying L.t70
 have t37:=L.t37;have a37:=L.a37;have z37:=L.z37;have v37:=L.v37;have u37:=run_underlying L.t37
 have t3:=L.t3;have a3:=L.a3;have z3:=L.z3;have v3:=L.v3;have u3:=run_underlying L.t3
 have t9:=L.t9;have a9:=L.a9;have z9:=L.z9;have v9:=L.v9;have u9:=run_underlying L.t9
 have t4:=L.t4;have a4:=L.a4;have z4:=L.z4;have v4:=L.v4;have u4:=run_underlying L.t4
 have t164:=L.t164;have a164:=L.a164;have z164:=L.z164;have v164:=L.v164;have u164:=run_underlying L.t164
 have t5:=X.t5;have a5:=X.a5;have z5:=X.z5;have v5:=X.v5;have u5:=run_underlying X.t5
 have e240:∀args w,(callFunc (ρ.f 240) args).run P w=.ok (.enter (ρ.f 240) args) w:=enters_of L.f240 (by kernel_rfl) rfl
 go_enter L.f166,Body.n166_ntmps ρ
 go_wp2_with (go_at_fn (ρ.f 240);refine (oz { L with } X.toX72 hl b p v n bs _ h).mono ?_)
 rintro e w1 ⟨rfl,⟨hbk,_,hown,hne⟩,hg1,hs1⟩
 have c0:w1.cell? ⟨b,0,none⟩=some (.pointer (some ⟨b,0,none⟩)):=by rw [Lib.cell_of_heap hbk];rfl
 have c1:w1.cell? ⟨b,1,none⟩=some v:=by rw [Lib.cell_of_heap hbk];rfl
 obtain ⟨v',w2,hrun,hown',hgrow,hcase⟩:=jc (P:=P) w1 (ty:=ρ.t 37) L.t37 L.t9 hi hz0 hz1 hz2 v n bs hown s hlen
 have hlt:b<w1.heap.size:=(Array.getElem?_eq_some_iff.1 hbk).1
 have hne':v'.ownBlock≠some b:=by
  rcases hcase with ⟨_,e1,_⟩|⟨g,cap,e1,e2⟩|⟨cap,e1,_⟩
  ·rw [e1];exact hne
  ·rw [e2];rw [e1] at hne;exact hne
  rw [e1];simp [Value.ownBlock];omega
 have hb2:w2.heap[b]? = some (.cells #[.pointer (some ⟨b,0,none⟩),v] T (0,0)):=by
  rw [hgrow.block b hlt (fun e=>hne' e.symm)]
  exact hbk
 have d0:w2.cell? ⟨b,0,none⟩=some (.pointer (some ⟨b,0,none⟩)):=by rw [Lib.cell_of_heap hb2];rfl
 have d1:w2.cell? ⟨b,1,none⟩=some v:=by rw [Lib.cell_of_heap hb2];rfl
 have f1:w2.frozen? ⟨b,1,none⟩=false:=Lib.frozen_of_heap hb2 1
 obtain ⟨ao,n',cap,rfl⟩:∃ao n' cap,v'=.slice ao n' cap:=by
  rcases hown'.2 with ⟨hv,_⟩|⟨g,cap,cur,hv,_⟩
  ·exact ⟨_,_,_,hv⟩
  exact ⟨_,_,_,hv⟩
 go_wp2_with (at_builtin;refine Nt rfl _ _ (ρ.t 37) (ρ.t 9) (ρ.t 37) rfl rfl rfl rfl hrun ?_)
 go_ret2
 refine ⟨rfl,_,⟨by simp [World.setCell,Array.getElem?_modify,hb2],.inr rfl,hown'.kept (row:=some b) ⟨rfl,rfl,rfl,by simp [World.setCell],fun k _ hk=>Below.heap_setCell _ _ _ _ (fun e=>hk (by simp [e]))⟩ (.inr hne'),hne'⟩,⟨?_,?_,?_,?_⟩,fun k hk hkb hkr=>?_,?_⟩
 ·exact hgrow.os.trans hg1.os
 ·exact hgrow.tape.trans hg1.tape
 ·exact hgrow.output.trans hg1.output
 ·have:=hgrow.size
  simp [World.setCell];omega
 ·rw [Below.heap_setCell _ _ _ _ hkb,hgrow.block k (by omega) (fun e=>hkr e.symm),hg1.block k hk (by simpa using hkb)]
 rw [hs1] at hcase;exact hcase

set_option maxHeartbeats 2000000 in
set_option maxRecDepth 100000 in
/-- Its text: some of its row is frozen; nothing else turns. -/
theorem bldString (L:Lays.n169 P ρ) (X:Builder.Extra P ρ) {T:TypeId} (b:Nat) (p v:Value) (l:List UInt8) (w:World) (h:Jl T (ρ.t 5) b p v l.length (Lib.byteCells l) w) (hcap:∀g,v≠.slice (some ⟨g,0,none⟩) 0 0):
  Calls P (ρ.f 169) #[.pointer (some ⟨b,0,none⟩)] w fun e w'=>e=.returned (.string ⟨l.toArray⟩)∧(w'.os=w.os∧w'.tape=w.tape∧w'.output=w.output∧w.heap.size≤w'.heap.size)∧∀k,v.ownBlock≠some k→w'.heap[k]? = w.heap[k]? := by
 obtain ⟨hbk,_,hown,hne⟩:=h
 have mixed:=L.mixed
 have t72:=L.t72;have a72:=L.a72;have z72:=L.z72;have v72:=L.v72;have u72:=run_underlying L.t72
 have t70:=L.t70;have a70:=L.a70;have z70:=L.z70;have v70:=L.v70;have u70:=run_underlying L.t70
 have t37:=L.t37;have a37:=L.a37;have z37:=L.z37;have v37:=L.v37;have u37:=run_underlying L.t37
 have t127:=L.t127;have a127:=L.a127;have z127:=L.z127;have v127:=L.v127;have u127:=run_underlying L.t127
 have t3:=L.t3;have a3:=L.a3;have z3:=L.z3;have v3:=L.v3;have u3:=run_underlying L.t3
 have t9:=L.t9;have a9:=L.a9;have z9:=L.z9;have v9:=L.v9;have u9:=run_underlying L.t9
 have t5:=X.t5;have a5:=X.a5;have z5:=X.z5;have v5:=X.v5;have u5:=run_underlying X.t5
 rcases hown.2 with ⟨rfl,h0⟩|⟨g,cap,cur,rfl,hbg,hg,hnc,hcm,hcs,htake⟩
 ·have hl:l=[]:=List.eq_nil_of_length_eq_zero h0
  subst hl
  have hUS:=Any.unsafeString_none L X
  have c1:w.drew.cell? ⟨b,1,none⟩=some (.slice none 0 0):=by
   have:w.drew.heap[b]? = some (.cells #[p,.slice none 0 0] T (0,0)):=hbk
   rw [Lib.cell_of_heap this];rfl
  have hSD:(Builtin.unsafeSliceData_ #[(ρ.t 37)] (ρ.t 127) #[.slice none 0 0]).run P w.drew=.ok (.pointer none) w.drew:=rfl
  go_enter L.f169,Body.n169_ntmps ρ
  go_wp2
  go_region_o
  all_goals (go_wp2;go_ret;exact ⟨rfl,⟨rfl,rfl,rfl,Nat.le_refl _⟩,fun _ _=>rfl⟩)
 have hc0:cap≠0:=by
  rintro rfl
  exact hcap g (by rw [show l.length=0 by omega])
 have c1:w.drew.cell? ⟨b,1,none⟩=some (.slice (some ⟨g,0,none⟩) l.length cap):=by
  have:w.drew.heap[b]? = some (.cells #[p,.slice (some ⟨g,0,none⟩) l.length cap] T (0,0)):=hbk
  rw [Lib.cell_of_heap this];rfl
 have hSD:(Builtin.unsafeSliceData_ #[(ρ.t 37)] (ρ.t 127) #[.slice (some ⟨g,0,none⟩) l.length cap]).run P w.drew=.ok (.pointer (some ⟨g,0,none⟩)) w.drew:=
  Lib.run_unsafeSliceData_row _ _ _ _ _ _ hc0
 by_cases hl:l=[]
 ·subst hl
  have hUS:=Any.unsafeString_none L X
  clear hc0 hcap
  simp only [List.length_nil] at c1 hSD
  go_enter L.f169,Body.n169_ntmps ρ
  go_wp2
  go_region_o
  all_goals (go_wp2;go_ret;exact ⟨rfl,⟨rfl,rfl,rfl,Nat.le_refl _⟩,fun _ _=>rfl⟩)
 have hUS:(Builtin.unsafeString_ #[(ρ.t 127),(ρ.t 3)] (ρ.t 9) #[.pointer (some ⟨g,0,none⟩),.int .i64 l.length]).run P w.drew=.ok (.string ⟨l.toArray⟩) (w.drew.freeze ⟨g,0,none⟩ l.length):=by
  refine Lib.run_unsafeString_row w.drew (ρ.t 127) (ρ.t 3) (ρ.t 9) (ρ.t 5) L.t127 X.cellsByte g cur.size (by have hg':w.drew.heap[g]? = some (.cells cur (ρ.t 5) (0,0)):=hg;simp [World.shape?,hg']) l hl (by omega) (by unfold maxLen at hcm;omega) ?_
  intro j x hx
  exact hown.cells (g:=g) rfl j (.int .u8 x.toNat) (by simp [Lib.byteCells,hx])
 have hfz:∀k,g≠k→(w.drew.freeze ⟨g,0,none⟩ l.length).heap[k]? = w.heap[k]? := fun k hk=>by
  unfold World.freeze
  split
  ·rfl
  show (w.heap.modify g _)[k]? = _
  rw [Array.getElem?_modify,if_neg hk]
 have hfs:(w.drew.freeze ⟨g,0,none⟩ l.length).heap.size=w.heap.size:=by
  unfold World.freeze
  split
  ·rfl
  show (w.heap.modify g _).size=_
  simp
 have hfo:(w.drew.freeze ⟨g,0,none⟩ l.length).os=w.os∧(w.drew.freeze ⟨g,0,none⟩ l.length).tape=w.tape∧(w.drew.freeze ⟨g,0,none⟩ l.length).output=w.output:=by
  unfold World.freeze
  split<;>exact ⟨rfl,rfl,rfl⟩
 clear hc0 hcap
 go_enter L.f169,Body.n169_ntmps ρ
 go_wp2
 go_region_o
 all_goals (go_wp2;go_ret;exact ⟨rfl,⟨hfo.1,hfo.2.1,hfo.2.2,Nat.le_of_eq hfs.symm⟩,fun k hk=>hfz k (fun e=>hk (by rw [e];rfl))⟩)
end
end Go.Proofs

namespace Go.SX.Nb
open Go Go.SX Go.Proofs Go.Shelf
variable [ErrAt]
set_option maxRecDepth 8000
/-! show's builder. -/
theorem uk:Builder.Extra Tryz.prog Tryz.ren155 where
 sizeBuilder:=by kernel_rfl
 liesBuilder:=by kernel_rfl
 t5:=Tryz.underlying5
 a5:=Tryz.isAgg5
 z5:=Tryz.sizeOf5
 v5:=Tryz.zeroValue5
 infoByte:=by kernel_rfl
 cellsByte:=by kernel_rfl
 sizeByte:=by kernel_rfl
 neB5:=by decide
theorem ul:liesAt Tryz.prog Tryz.prog.depth 160 (2 / Tryz.prog.cellsOf 160) 0 74 1=true:=by kernel_rfl
abbrev Rc (bs:Str):AObj:=.bld 160 5 bs
theorem C7 {n:Nat} {bs:Str}:ObjLow n (Rc bs):=trivial
/-- (*strings.Builder).WriteString. -/
theorem c31 (bs s:Str) (hl:bs.length+s.length≤140737488355328) (o:Nat) (Hp:List AObj) (ho:Hp[o]? = some (Rc bs)):
  ACall Tryz.prog 31 [.ptr o 0,A8 s] Hp (fun r H'=>r=.tup [A2 s.length,.v .nilIface]∧H'=Hp.set o (Rc (bs++s))):=by
 refine ACall.bldWrite ho (fun b p v w h=>?_)
 have hw:=bldWrite Tryz.lays166 uk (T:=160) ul (by decide) b p v bs.length (Lib.byteCells bs) ⟨s.toArray⟩ w h (by rw [D4];exact hl)
 rw [D4,Lib.strCells_eq,←Lib.byteCells_append] at hw
 exact hw
/-- (*strings.Builder).Len. -/
theorem c32 (bs:Str) (o:Nat) (Hp:List AObj) (ho:Hp[o]? = some (Rc bs)):AFun Tryz.prog 32 [.ptr o 0] Hp (A2 bs.length):=
 AFun.bldLen ho (fun b p v w h=>bldLen Tryz.lays170 (T:=160) (e:=5) b p v _ _ w h)
/-- (*strings.Builder).String. -/
theorem c33 (bs:Str) (o:Nat) (Hp:List AObj) (ho:Hp[o]? = some (Rc bs)):ACall Tryz.prog 33 [.ptr o 0] Hp (fun r H'=>r=A8 bs∧H'=Hp.set o (.cells 160 [.any,.any])):=
 ACall.bldString ho (fun b p v w h hc=>bldString (ρ:=Tryz.ren155) { Tryz.lays155 with } uk (T:=160) b p v bs w h hc)
end Go.SX.Nb
namespace Go.SX.Nb
open Go Go.SX Go.Proofs
variable [ErrAt]
set_option maxRecDepth 4000
abbrev vm:AV:=.v (.tuple #[])
abbrev Fa:Nat:=1099511627776
/-- What node writes. -/
def p8 (e:Expr):Prop:=∀(o:Nat) (bs:Str) (Hp:List AObj),Hp[o]? = some (Rc bs)→bs.length+(A9 e).length≤Fa→ACall Tryz.prog 137 [.ptr o 0,A7 e] Hp (fun r H'=>r=vm∧H'=Hp.set o (Rc (bs++A9 e)))
theorem je (e:Expr):A9 e=Ml e.op e.text e.val e.kids (e.kids.map A9):=by
 cases e with
 | mk o t v k=>rw [A9,Iy];rfl
theorem um {k:List Expr} {i:Nat} (h:i<k.length):(k.map A9).getD i []=A9 (k.getD i Ag):=by
 rw [List.getD_eq_getElem?_getD,List.getD_eq_getElem?_getD,List.getElem?_map,List.getElem?_eq_getElem h]
 rfl
theorem Th (l:List Str) (s:Str):Dy (l++[s])=Dy l++(44::32::s):=by
 induction l with
 | nil=>simp [Dy]
 | cons a r ih=>simp [Dy,ih]
theorem p9 {k:List Expr} {x:Nat} (h:x<k.length):(Dy ((k.take (x+1)).map A9)).drop 2=(Dy ((k.take x).map A9)).drop 2++(if 0<x then [44,32] else [])++A9 k[x]:=by
 rw [List.take_succ_eq_append_getElem h,List.map_append,List.map_singleton,Th]
 cases x with
 | zero=>simp [Dy]
 | succ x =>
  have:2≤(Dy ((k.take (x+1)).map A9)).length:=by
   rw [List.take_succ_eq_append_getElem (by omega),List.map_append,List.map_singleton,Th]
   simp
   omega
  rw [List.drop_append_of_le_length this,if_pos (by omega)]
  simp
theorem xw {k:List Expr} (x:Nat):(Dy ((k.take x).map A9)).length≤(Dy (k.map A9)).length:=by
 have:k.map A9=(k.take x).map A9++(k.drop x).map A9:=by rw [←List.map_append,List.take_append_drop]
 rw [this]
 have:∀a b:List Str,(Dy a).length≤(Dy (a++b)).length:=by
  intro a b
  induction a with
  | nil=>simp [Dy]
  | cons c r ih=>simp [Dy];exact ih
 exact this _ _
theorem Xr {H:List AObj} {o:Nat} {a b:AObj}:(H.set o a).set o b=H.set o b:=List.set_set _
theorem c171 (e:Expr) (he:p8 e) (hlev:b9 e=(levE e:Int)) (least:Nat) (l0:Int) (hl0:l0=(least:Int)) (o:Nat) (bs:Str) (Hp:List AObj) (ho:Hp[o]? = some (Rc bs)) (hb:bs.length+(Ho least e (A9 e)).length≤Fa):ACall Tryz.prog 171 [.ptr o 0,A7 e,A2 l0] Hp (fun r H'=>r=vm∧H'=Hp.set o (Rc (bs++Ho least e (A9 e)))):=by
 subst hl0
 refine ACall.body [] [0,1,2] Tryz.func171 Tryz.ntmps171 (fun d=>?_)
 refine Z3 ?_;refine R.fin [0,2,4] ?_;refine Z46 ?_;refine R.call Tryz.call169 (AAj e _) ?_;refine Z0 ?_;refine R.fin [0,4,9] ?_
 refine W.cond (fun ht9=>?_) (fun ht9=>?_)
 ·have hz:least≤levE e:=by
   have h:=ht9
   rw [hlev] at h
   simpa using h
  rw [show Ho least e (A9 e)=A9 e from if_pos hz] at hb ⊢
  refine Z1 ?_;refine R.callUp Tryz.call137 ho (by simp) C7 (he o bs _ (A4 ho) (by omega)) ?_;refine R.fin [] ?_;refine Z22 ?_;exact K.fin .nores ⟨rfl,by simp⟩
 have hz:¬least≤levE e:=by
  have h:=ht9
  rw [hlev] at h
  simpa using h
 rw [show Ho least e (A9 e)=40::(A9 e++[41]) from if_neg hz] at hb ⊢
 simp only [List.length_cons,List.length_append,List.length_nil,Fa] at hb
 refine Uj ?_
 refine R.callUp Tryz.call31 ho (by simp) C7 (c31 bs [40] (by simp only [Fa,List.length_append,List.length_cons,List.length_nil] at *;omega) o _ (A4 ho)) ?_
 refine R.fin [0,4] ?_;refine Z1 ?_
 refine R.callUp Tryz.call137 (getset ho) (by simp) C7 (he o (bs++[40]) _ (A4 (getset ho)) (by simp only [Fa,List.length_append,List.length_cons,List.length_nil] at *;omega)) ?_
 refine R.fin [0] ?_;refine Z58 ?_
 refine R.callUp Tryz.call31 (getset (getset ho)) (by simp) C7 (c31 (bs++[40]++A9 e) [41] (by simp only [Fa,List.length_append,List.length_cons,List.length_nil] at *;omega) o _ (A4 (getset (getset ho)))) ?_
 refine R.fin [] ?_;exact K.finN .nores ⟨rfl,by simp⟩

theorem ACn:∀(n:Nat) (e:Expr),okE n e→Bl B1 e=true→Bl E8 e=true→p8 e:=by
 intro n
 induction n with
 | zero=>exact fun e h=>h.elim
 | succ n ih =>
 intro e hok hnd hrg o bs Hp ho hb
 have hnd0:=hnd
 have hrg0:=hrg
 rw [Dj,Bool.and_eq_true] at hnd0 hrg0
 have hev:∀y∈e.kids,p8 y:=fun y hy=>ih y (hok.2.2 y hy) ((Cr _ _).1 hnd0.2 y hy) ((Cr _ _).1 hrg0.2 y hy)
 have hlv:∀y∈e.kids,b9 y=(levE y:Int):=fun y hy=>du (by have:=(Cr _ _).1 hnd0.2 y hy;rw [Dj,Bool.and_eq_true] at this;exact this.1)
 obtain ⟨k5,k34,k6,kall⟩:=oy hnd0.1
 have hi64:rm e.val.n:=by
  have:=hrg0.1
  simp only [E8,Bool.and_eq_true,decide_eq_true_eq] at this
  exact this
 have hlv0:=du hnd0.1
 have pe:=je e
 have hol:=(List.getElem?_eq_some_iff.1 ho).1
 unfold Ml at pe
 refine ACall.body [] [0,1] Tryz.func137 Tryz.ntmps137 (fun d=>?_)
 refine Z3 ?_;refine Kn ?_;refine Z3 ?_;refine R.call Tryz.call169 (AAj e _) ?_;refine R.go ?_;refine R.fin [0,3,4] ?_;refine Z1 ?_;refine R.fin [0,3,4,11] ?_;refine Z69 ?_;refine R.fin [0,3,4,11,12] ?_
 refine W.cond (fun ht12=>?_) (fun ht12=>?_)
 ·rw [if_pos ht12] at pe
  refine W.drawQ0 [0,1,3,0,8,24,63] 6 Ac (by kernel_rfl) ?_;refine Ys ?_;refine D.call Tryz.call170 (zz e.val hi64 _) ?_;refine D.tail ?_
  refine R.callUp Tryz.call31 ho (by simp) C7 (c31 bs (Bq e.val) (by rw [pe] at hb;simp only [Fa] at hb;omega) o _ (A4 ho)) ?_
  exact Z50
 rw [if_neg (by rw [ht12];simp)] at pe
 refine Z1 ?_;refine R.fin [0,3,4,11,21] ?_
 refine W.cond (fun ht21=>?_) (fun ht21=>?_)
 ·rw [if_pos ht21] at pe
  refine W.drawQ0 [0,1,3,0,8,31] 5 Ac (by kernel_rfl) ?_;refine Ys ?_;refine D.tail ?_
  refine R.callUp Tryz.call31 ho (by simp) C7 (c31 bs e.text (by rw [pe] at hb;simp only [Fa] at hb;omega) o _ (A4 ho)) ?_
  exact Z50
 rw [if_neg (by rw [ht21];simp)] at pe
 refine Z1 ?_;refine R.fin [0,3,4,11,29] ?_
 refine W.cond (fun ht29=>?_) (fun ht29=>?_)
 ·rw [if_pos ht29] at pe
  have hkl:=k34 (.inl (by simpa using ht29))
  rw [um (by omega)] at pe
  rw [pe] at hb
  simp only [List.length_cons,Fa] at hb
  refine Z13 ?_
  refine R.callUp Tryz.call31 ho (by simp) C7 (c31 bs [45] (by simp only [Fa,List.length_append,List.length_cons,List.length_nil] at *;omega) o _ (A4 ho)) ?_
  refine Kn ?_;refine Z58 ?_
  refine R.go (h:=Q.indexAddr (0) (A7 (e.kids.getD 0 Ag)) (fun _=>(J8 (by omega)).1)) (hr:=?_)
  refine R.go ?_
  refine R.callUp Tryz.call171 (getset ho) (by simp) C7 (c171 (e.kids.getD 0 Ag) (hev _ (J8 (by omega)).2.1) (hlv _ (J8 (by omega)).2.1) (6) _ (rfl) o (bs++[45]) _ (A4 (getset ho)) (by simp only [Fa,List.length_append,List.length_cons,List.length_nil] at *;omega)) ?_
  exact Z50
 rw [if_neg (by rw [ht29];simp)] at pe
 refine Z1 ?_;refine R.fin [0,3,4,11,41] ?_
 refine W.cond (fun ht41=>?_) (fun ht41=>?_)
 ·rw [if_pos ht41] at pe
  have hkl:=k34 (.inr (by simpa using ht41))
  rw [um (by omega)] at pe
  rw [pe] at hb
  simp only [List.length_cons,List.length_append,Qn,List.length_nil,Fa] at hb
  refine Z13 ?_
  refine R.callUp Tryz.call31 ho (by simp) C7 (c31 bs [110,111,116,32] (by simp only [Fa,List.length_append,List.length_cons,List.length_nil] at *;omega) o _ (A4 ho)) ?_
  refine Kn ?_;refine Z58 ?_
  refine R.go (h:=Q.indexAddr (0) (A7 (e.kids.getD 0 Ag)) (fun _=>(J8 (by omega)).1)) (hr:=?_)
  refine R.go ?_
  refine R.callUp Tryz.call171 (getset ho) (by simp) C7 (c171 (e.kids.getD 0 Ag) (hev _ (J8 (by omega)).2.1) (hlv _ (J8 (by omega)).2.1) (2) _ (rfl) o (bs++[110,111,116,32]) _ (A4 (getset ho)) (by simp only [Fa,List.length_append,List.length_cons,List.length_nil] at *;omega)) ?_
  exact Z50
 rw [if_neg (by rw [ht41];simp)] at pe
 refine Z1 ?_;refine R.fin [0,3,4,11,53] ?_
 refine W.cond (fun ht53=>?_) (fun ht53=>?_)
 ·rw [if_pos ht53] at pe
  have h5:e.op=5:=by simpa using ht53
  have hkl:=k5 h5
  have hlv5:levE e=(Af e.text).toNat:=by simp [levE,h5]
  have hl5:=M8 e.text
  rw [um (by omega),um (by omega)] at pe
  rw [pe] at hb
  simp only [List.length_cons,List.length_append,Fa] at hb
  rw [hlv0,hlv5]
  refine Z1 ?_;refine R.fin [0,3,4,5] ?_;refine Z21 ?_;refine R.fin [0,3,4,5,57] ?_
  refine W.cond (fun ht57=>?_) (fun ht57=>?_)
  ·have h3:(Af e.text).toNat=3:=by have:=ht57;simp at this;omega
   have hf1:(((Af e.text).toNat:Int)+1)=((Cp (Af e.text).toNat:Nat):Int):=by rw [h3];rfl
   refine Z58 ?_;refine R.fin [0,3,4,5] ?_;refine K.thN ?_;refine Z13 ?_
   refine R.go (h:=Q.indexAddr (0) (A7 (e.kids.getD 0 Ag)) (fun _=>(J8 (by omega)).1)) (hr:=?_)
   refine Z0 ?_
   refine R.callUp Tryz.call171 ho (by simp) C7 (c171 (e.kids.getD 0 Ag) (hev _ (J8 (by omega)).2.1) (hlv _ (J8 (by omega)).2.1) (Cp (Af e.text).toNat) _ (by first|exact hf1|rw [hf2]) o (bs) _ (A4 ho) (by simp only [Fa,List.length_append,List.length_cons,List.length_nil] at *;omega)) ?_
   refine z8 ?_;refine Ys ?_
   refine D.go (h:=Q.sadd (hl:=fun _=>by simp only [List.length_cons,List.length_nil];omega)) (hr:=?_)
   refine D.go (h:=Q.sadd (hl:=fun _=>by simp only [List.length_cons,List.length_nil,List.length_append];omega)) (hr:=?_)
   refine D.tail ?_
   refine R.callUp Tryz.call31 (getset ho) (by simp) C7 (c31 (bs++Ho (Cp (Af e.text).toNat) (e.kids.getD 0 Ag) (A9 (e.kids.getD 0 Ag))) (32::(e.text++[32])) (by simp only [Fa,List.length_append,List.length_cons,List.length_nil] at *;omega) o _ (A4 (getset ho))) ?_
   refine R.fin [0,3,4] ?_;refine Z58 ?_
   refine R.go (h:=Q.indexAddr (1) (A7 (e.kids.getD 1 Ag)) (fun _=>(J8 (by omega)).1)) (hr:=?_)
   refine Z19 ?_
   refine R.callUp Tryz.call171 (getset (getset ho)) (by simp) C7 (c171 (e.kids.getD 1 Ag) (hev _ (J8 (by omega)).2.1) (hlv _ (J8 (by omega)).2.1) ((Af e.text).toNat+1) _ (by first|rfl|(push_cast;rfl)) o (bs++Ho (Cp (Af e.text).toNat) (e.kids.getD 0 Ag) (A9 (e.kids.getD 0 Ag))++32::(e.text++[32])) _ (A4 (getset (getset ho))) (by simp only [Fa,List.length_append,List.length_cons,List.length_nil] at *;omega)) ?_
   exact Z50
  have h3:(Af e.text).toNat≠3:=by have:=ht57;simp at this;omega
  have hf2:Cp (Af e.text).toNat=(Af e.text).toNat:=by unfold Cp;rw [if_neg h3]
  refine Uj ?_
  refine R.go (h:=Q.indexAddr (0) (A7 (e.kids.getD 0 Ag)) (fun _=>(J8 (by omega)).1)) (hr:=?_)
  refine Z0 ?_
  refine R.callUp Tryz.call171 ho (by simp) C7 (c171 (e.kids.getD 0 Ag) (hev _ (J8 (by omega)).2.1) (hlv _ (J8 (by omega)).2.1) (Cp (Af e.text).toNat) _ (by first|exact hf1|rw [hf2]) o (bs) _ (A4 ho) (by simp only [Fa,List.length_append,List.length_cons,List.length_nil] at *;omega)) ?_
  refine z8 ?_;refine Ys ?_
  refine D.go (h:=Q.sadd (hl:=fun _=>by simp only [List.length_cons,List.length_nil];omega)) (hr:=?_)
  refine D.go (h:=Q.sadd (hl:=fun _=>by simp only [List.length_cons,List.length_nil,List.length_append];omega)) (hr:=?_)
  refine D.tail ?_
  refine R.callUp Tryz.call31 (getset ho) (by simp) C7 (c31 (bs++Ho (Cp (Af e.text).toNat) (e.kids.getD 0 Ag) (A9 (e.kids.getD 0 Ag))) (32::(e.text++[32])) (by simp only [Fa,List.length_append,List.length_cons,List.length_nil] at *;omega) o _ (A4 (getset ho))) ?_
  refine R.fin [0,3,4] ?_;refine Z58 ?_
  refine R.go (h:=Q.indexAddr (1) (A7 (e.kids.getD 1 Ag)) (fun _=>(J8 (by omega)).1)) (hr:=?_)
  refine Z19 ?_
  refine R.callUp Tryz.call171 (getset (getset ho)) (by simp) C7 (c171 (e.kids.getD 1 Ag) (hev _ (J8 (by omega)).2.1) (hlv _ (J8 (by omega)).2.1) ((Af e.text).toNat+1) _ (by first|rfl|(push_cast;rfl)) o (bs++Ho (Cp (Af e.text).toNat) (e.kids.getD 0 Ag) (A9 (e.kids.getD 0 Ag))++32::(e.text++[32])) _ (A4 (getset (getset ho))) (by simp only [Fa,List.length_append,List.length_cons,List.length_nil] at *;omega)) ?_
  exact Z50
 rw [if_neg (by rw [ht53];simp)] at pe
 refine Z1 ?_;refine R.fin [0,3,83] ?_
 refine W.cond (fun ht83=>?_) (fun ht83=>?_)
 ·have hsl:∀x,((Dy ((e.kids.take x).map A9)).drop 2).length≤((Dy (e.kids.map A9)).drop 2).length:=fun x=>by have:=xw (k:=e.kids) x;rw [List.length_drop,List.length_drop];omega
  have hkl6:=hok.2.1
  rw [pe] at hb
  simp only [List.length_cons,List.length_append,List.length_nil,Fa] at hb
  refine W.drawQ [0,1,3,0,8,24,63] 6 Ac (by kernel_rfl) ?_;refine Ys ?_
  refine D.go (h:=Q.sadd (hl:=fun _=>by simp only [List.length_cons,List.length_nil];omega)) (hr:=?_)
  refine D.tail ?_
  refine R.callUp Tryz.call31 ho (by simp) C7 (c31 bs (e.text++[40]) (by simp only [Fa,List.length_append,List.length_cons,List.length_nil] at *;omega) o _ (A4 ho)) ?_
  refine Kn ?_;refine Z77 ?_;refine R.fin [0,93,94,95] ?_
  refine AW.loopC (α:=Nat) (fun x=>⟨114,A6 0 (.ptr o 0) (A6 93 (.slice false 6 (e.kids.map A7)) (A6 94 (A2 (e.kids.length:Nat)) (A6 95 (A2 (x:Nat)) (fun _=>.any)))),Hp.set o (Rc (bs++(e.text++[40])++(Dy ((e.kids.take x).map A9)).drop 2)),[],[],none⟩) (fun x=>x≤e.kids.length) (fun x=>e.kids.length-x) (0) (Nat.zero_le _) (StLe.of_eq (by simp [Dy])) rfl (fun x hx=>?_)
  refine Z3 ?_;refine R.fin [0,93,94,95,96] ?_
  refine W.condX (fun ht96=>?_) (fun ht96=>?_)
  ·have hlt:x<e.kids.length:=by simpa using ht96
   have hst:=p9 hlt
   have hsl1:=hsl (x+1)
   have hslx:=hsl x
   refine Z92 ?_
   refine R.go (h:=Q.indexAddr (x) (A7 e.kids[x]) (fun _=>C4 hlt)) (hr:=?_)
   refine R.go ?_;refine Z87 ?_;refine R.fin [0,6,7,93,94,95] ?_;refine Z21 ?_;refine R.fin [0,7,93,94,95,101] ?_
   refine W.cond (fun ht101=>?_) (fun ht101=>?_)
   ·have h0x:0<x:=by simpa using ht101
    rw [if_pos h0x] at hst
    have hstl:=congrArg List.length hst
    simp only [List.length_append,List.length_cons,List.length_nil] at hstl
    refine Z58 ?_
    refine R.callUp Tryz.call31 (getset ho) (by simp) C7 (c31 (bs++(e.text++[40])++(Dy ((e.kids.take x).map A9)).drop 2) [44,32] (by simp only [Fa,List.length_append,List.length_cons,List.length_nil] at *;omega) o _ (A4 (getset ho))) ?_
    refine R.fin [0,7,93,94,95] ?_;refine K.thN ?_;refine Z11 ?_
    first|refine R.callUp Tryz.call137 (getset ho) (by simp) C7 (hev _ (List.getElem_mem hlt) o (bs++(e.text++[40])++(Dy ((e.kids.take x).map A9)).drop 2) _ (A4 (getset ho)) (by simp only [Fa,List.length_append,List.length_cons,List.length_nil] at *;omega)) ?_|refine R.callUp Tryz.call137 (getset (getset ho)) (by simp) C7 (hev _ (List.getElem_mem hlt) o (bs++(e.text++[40])++(Dy ((e.kids.take x).map A9)).drop 2++[44,32]) _ (A4 (getset (getset ho))) (by simp only [Fa,List.length_append,List.length_cons,List.length_nil] at *;omega)) ?_
    refine R.fin [0,93,94,95] ?_;refine Rq ?_;refine R.fin [0,93,94,95] ?_;refine K.lpN (x+1) hlt (by omega) ?_
    simp only [hst,Xr,List.append_assoc,List.append_nil]
    exact StCut.take (own:=[]) (fun _=>.refl _) (by repeat (first|exact B0|refine Az (by first|exact D3|exact Va|(simp [or_imp,forall_and,oid]<;>omega)) ?_)) (by simp) (by simp)
   have h0x:¬0<x:=by simpa using ht101
   rw [if_neg h0x] at hst
   have hstl:=congrArg List.length hst
   simp only [List.length_append,List.length_cons,List.length_nil] at hstl
   refine Z8 ?_;refine Z11 ?_
   first|refine R.callUp Tryz.call137 (getset ho) (by simp) C7 (hev _ (List.getElem_mem hlt) o (bs++(e.text++[40])++(Dy ((e.kids.take x).map A9)).drop 2) _ (A4 (getset ho)) (by simp only [Fa,List.length_append,List.length_cons,List.length_nil] at *;omega)) ?_|refine R.callUp Tryz.call137 (getset (getset ho)) (by simp) C7 (hev _ (List.getElem_mem hlt) o (bs++(e.text++[40])++(Dy ((e.kids.take x).map A9)).drop 2++[44,32]) _ (A4 (getset (getset ho))) (by simp only [Fa,List.length_append,List.length_cons,List.length_nil] at *;omega)) ?_
   refine R.fin [0,93,94,95] ?_;refine Rq ?_;refine R.fin [0,93,94,95] ?_;refine K.lpN (x+1) hlt (by omega) ?_
   simp only [hst,Xr,List.append_assoc,List.append_nil]
   exact StCut.take (own:=[]) (fun _=>.refl _) (by repeat (first|exact B0|refine Az (by first|exact D3|exact Va|(simp [or_imp,forall_and,oid]<;>omega)) ?_)) (by simp) (by simp)
  have hxe:e.kids.take x=e.kids:=List.take_of_length_le (by simp at ht96;omega)
  have hslx:=hsl x
  refine Z36 ?_;refine Z58 ?_
  refine R.callUp Tryz.call31 (getset ho) (by simp) C7 (c31 (bs++(e.text++[40])++(Dy ((e.kids.take x).map A9)).drop 2) [41] (by simp only [Fa,List.length_append,List.length_cons,List.length_nil] at *;omega) o _ (A4 (getset ho))) ?_
  refine Z43 ?_;exact K.finN .nores ⟨rfl,by rw [pe,hxe]<;>simp⟩
 exfalso
 have h6:=kall
 simp at ht12 ht21 ht29 ht41 ht53 ht83
 omega

set_option maxRecDepth 8000
/-! How long a print is. -/
theorem ba {v:Val} (hp:By v=true) (hi:rm v.n):(Bq v).length≤402:=by
 unfold Bq
 rw [hp]
 simp only [Bool.not_true,Bool.false_eq_true,if_false]
 split
 ·have:=Lib.itoa_length_le v.n hi.1 hi.2
  omega
 split
 ·rename_i h1 h2
  rw [Ht]
  have h3:=Wt v.s
  have h4:v.s.length≤200:=by
   have k2:v.kind=2:=by simpa using h2
   simp [By,k2] at hp
   omega
  simp
  omega
 split
 ·simp
 split<;>simp
theorem P3 (k:Nat) (x:Expr) (s:Str):(Ho k x s).length≤s.length+2:=by
 unfold Ho
 split<;>simp
theorem Xs {t:Str} (h:0≤Af t):t.length≤3:=by
 rcases Gc t with hm|⟨hm,_⟩
 ·have h3:(levels.flatten.all fun s=>decide (s.length≤3))=true:=by kernel_rfl
  exact of_decide_eq_true (List.all_eq_true.1 h3 t hm)
 omega
theorem Rd {t:Str} {n:Nat} (h:Aw t=(n:Int)):t.length≤6:=by
 rcases Ld h with ⟨e,_⟩|⟨e,_⟩|⟨e,_⟩|⟨e,_⟩|⟨e,_⟩|⟨e,_⟩|⟨e,_⟩|⟨e,_⟩<;>rw [e]<;>decide
theorem pc {k:List Expr} (h:∀y∈k,(A9 y).length+10≤440*sizeE y):(Dy (k.map A9)).length≤440*Bk k:=by
 induction k with
 | nil=>simp [Dy]
 | cons y r ih =>
  have h1:=h y List.mem_cons_self
  have h2:=ih (fun z hz=>h z (List.mem_cons_of_mem _ hz))
  simp only [List.map_cons,Dy,Bk,List.length_cons,List.length_append]
  omega
theorem Ti:∀(n:Nat) (e:Expr),sizeE e≤n→Bl B1 e=true→Bl E8 e=true→(A9 e).length+10≤440*sizeE e
 | 0,e,h,_,_=>by rw [Em] at h;omega
 | n+1,e,h,hn,hr=>by
  rw [Dj,Bool.and_eq_true] at hn hr
  have hk:∀y∈e.kids,(A9 y).length+10≤440*sizeE y:=fun y hy=>by
   obtain ⟨i,hi⟩:=List.getElem?_of_mem hy
   obtain ⟨hlt,rfl⟩:=List.getElem?_eq_some_iff.1 hi
   exact Ti n _ (by have:=mq e hlt;omega) ((Cr _ _).1 hn.2 _ hy) ((Cr _ _).1 hr.2 _ hy)
  have hi:rm e.val.n:=by
   have:=hr.1
   simp only [E8,Bool.and_eq_true,decide_eq_true_eq] at this
   exact this
  rw [Em]
  cases Fq hn.1 with
  | val v hp h0 =>
   rw [nr]
   have:=ba hp (v:=v) hi
   simp only [Ex,Expr.kids,Bk]
   omega
  | name t ht =>
   rw [dd]
   have:t.length≤16:=by
    cases t with
    | nil=>simp
    | cons c r =>
     simp only [Dn,Bool.and_eq_true,decide_eq_true_eq] at ht
     exact ht.1.1.1
   simp only [B3,Expr.kids,Bk]
   omega
  | neg a =>
   rw [nt]
   have h1:=P3 6 a (A9 a)
   have h2:=hk a (by simp [Bw,Expr.kids])
   simp only [Bw,Expr.kids,Bk,List.length_cons]
   omega
  | no a =>
   rw [vj]
   have h1:=P3 2 a (A9 a)
   have h2:=hk a (by simp [Bw,Expr.kids])
   simp only [Bw,Expr.kids,Bk,List.length_cons,List.length_append,Qn,List.length_nil]
   omega
  | bin t a b ht =>
   rw [nu]
   have h1:=P3 (Cp (Af t).toNat) a (A9 a)
   have h2:=P3 ((Af t).toNat+1) b (A9 b)
   have h3:=hk a (by simp [Ca,Expr.kids])
   have h4:=hk b (by simp [Ca,Expr.kids])
   have h5:=Xs ht
   simp only [Ca,Expr.kids,Bk,List.length_cons,List.length_append]
   omega
  | call t k ha =>
   rw [de]
   have h1:=Rd ha
   have h2:=pc (k:=k) hk
   rw [←Iy] at h2
   simp only [Expr.kids,List.length_cons,List.length_append,List.length_drop,List.length_nil]
   omega
theorem Xt {e:Expr} (hr:Ch e=true) (hg:Bl E8 e=true):(A9 e).length≤132000:=by
 have h1:=Hi hr
 have h2:sizeE e≤300:=by
  unfold Ch at hr
  simp only [Bool.and_eq_true,decide_eq_true_eq] at hr
  exact hr.1.2
 have:=Ti _ e (Nat.le_refl _) h1 hg
 omega
set_option maxRecDepth 4000
abbrev xo (own:Bool) (t:Str) (ks:List Expr):AObj:=.cells 69 [A2 6,A8 t,A2 0,A2 0,A8 [],.slice own 6 (ks.map A7)]
theorem xy {n:Nat} {own:Bool} {t:Str} {ks:List Expr}:ObjLow n (xo own t ks):=by
 show ∀z∈[A2 6,A8 t,A2 0,A2 0,A8 [],AV.slice own 6 (ks.map A7)],Low n z
 intro z hz
 simp only [List.mem_cons,List.not_mem_nil,or_false] at hz
 rcases hz with rfl|rfl|rfl|rfl|rfl|rfl
 all_goals first|exact D3|simp
theorem un:Db (.agg #[.int .i64 0,.string ⟨#[]⟩,.int .i64 0,.int .i64 0,.string ⟨#[]⟩,.slice none 0 0])=.agg [A2 0,A8 [],A2 0,A2 0,A8 [],.nil]:=rfl
attribute [go_sem] un
theorem gA {Hp:List AObj} {o ox:Nat} {z A B:AObj} (ho:Hp[o]? = some z) (hne:ox≠o):((Hp.set o A).set ox B)[o]? = some A:=by rw [List.getElem?_set_ne hne];exact getset ho
theorem gB {Hp:List AObj} {o ox:Nat} {z A B:AObj} (hox:Hp[ox]? = some z):((Hp.set o A).set ox B)[ox]? = some B:=by
 have:=(List.getElem?_eq_some_iff.1 hox).1
 simp [this]
theorem pg {Hp:List AObj} {o ox:Nat} {A A' B:AObj} (hne:ox≠o):((Hp.set o A).set ox B).set o A'=(Hp.set o A').set ox B:=by rw [List.set_comm _ _ hne,List.set_set]
theorem Lg (ks:List Expr) (x:Expr):ks.map A7++[.agg [.v (.int .i64 x.op),.v (sv x.text),.v (.int .i64 x.val.kind),.v (.int .i64 x.val.n),.v (sv x.val.s),.slice false 6 (x.kids.map A7)]]=(ks++[x]).map A7:=by rw [List.map_append,List.map_cons,List.map_nil,Ab x]
theorem ACo (l:List Tok) (S:PS) (t:Str) (Dv:Fam) (o ox:Nat) (Hp:List AObj) (hne:ox≠o) (ho:Hp[o]? = some (pr l S)) (hox:Hp[ox]? = some (xo true t [])) (hi:S.i<l.length) (hl:TokEnd l) (hll:l.length≤1048576) (hf:Dg l S.nest Dv.ei) (hcf:PC 215 l Dv.ei S.nest):ACall Tryz.prog 275 [.ptr ox 0,.ro [.ptr o 0]] Hp (fun r H'=>r=A7 (.mk 6 t noV (En l Dv.ei S).1)∧H'=(Hp.set o (pr l (En l Dv.ei S).2)).set ox (xo true t (En l Dv.ei S).1)):=by
 have hoxl:=(List.getElem?_eq_some_iff.1 hox).1
 have hol:=(List.getElem?_eq_some_iff.1 ho).1
 refine ACall.body [.cell 2 69] [0,1] Tryz.func275 Tryz.ntmps275 (fun d=>?_)
 refine Z23 ?_;refine R.fin [0,1,2] ?_
 refine W.drawT [0,1,0,4,3,0,63,127,255,127,639] [1,3] [.q 1 [] [0],.s [4] (some 0) [] [],.q 1 [] [1],.s [6] (some 1) [] [],.q 2 [] []] (fun B=>(Hp.set o (if B 1=true then pr l (Dv.ei S).2 else pr l S)).set ox (if B 0=true then xo false t [] else xo true t [])) (fun _=>[I1]) Ac (by kernel_rfl) (by simp only [Bool.false_eq_true,if_false];rw [Eb ho,Eb hox]) rfl (fun B=>by simp) ?_
 apply Y.q
 case h1 =>
  intro B hT hF
  exact Z47
 case hTF=>decide
 refine Y.loadUpT (o:=ox) (t':=69) (cs:=[A2 6,A8 t,A2 0,A2 0,A8 [],.slice true 6 ([].map A7)]) (cs':=[A2 6,A8 t,A2 0,A2 0,A8 [],.slice false 6 ([].map A7)]) Tryz.isAgg45 (fun B hB=>⟨by simp only [hB];exact gB hox,by simp [upd,List.set_set]<;>rfl,rfl⟩) ?_
 apply Y.q
 case h1 =>
  intro B hT hF
  exact Z47
 case hTF=>decide
 refine Y.callUp (r:=A7 (Dv.ei S).1) (o:=o) (x0:=pr l S) (x:=pr l (Dv.ei S).2) Tryz.call215 (fun B hT hF hB=>⟨by simp only [hB];exact gA ho hne,?_,rfl,Bv,?_⟩) ?_
 ·simp only [upd,hB,Nat.reduceEqDiff,if_false,if_true,Bool.false_eq_true]
  exact (pg hne).symm
 ·simp only [hB]
  exact hcf o _ S (A4 (gA ho hne)) hi rfl
 apply Y.q
 case h1 =>
  intro B hT hF
  exact g8
 case hTF=>decide
 refine Y.appendPut (tn:=[1,3]) (U:=(Hp.set o (pr l (Dv.ei S).2)).set ox (xo false t [])) (O:=[I1]) (o:=ox) (t':=69) (cs:=[A2 6,A8 t,A2 0,A2 0,A8 [],.slice false 6 ([].map A7)]) (by kernel_rfl) jU Tryz.type69 Tryz.sizeOf69 Tryz.sizeOf45 jU (A4 (gB hox)) ?_ ?_ ?_ (hfsz:=Tryz.sizeOf45)
 ·simp [Tryz.t69]
 ·simp [Tryz.t69]
 refine R.go ?_
 refine R.storeUpT jS (gB hox) ?_ ?_
 ·first|(rw [Lg];exact D3)|(have:=D3 (n:=((Hp.set o (pr l (Dv.ei S).2)).set ox (xo false t [])).length) (k:=6) (o:=true) (l:=[(Dv.ei S).1]);simp only [List.map_cons,List.map_nil,Ab] at this;exact this)
 refine R.fin [0,1,2] ?_;refine W.seq ?_
 refine AW.loopC (α:=List Expr×PS) (fun r=>⟨34,A6 0 (.ptr ox 0) (A6 1 (.ro [.ptr o 0]) (A6 2 (.ptr (oid Hp.length 0) 0) (fun _=>.any))),(Hp.set o (pr l r.2)).set ox (xo true t r.1),[I1],[],none⟩) (fun r=>ArgsAt l Dv.ei S r) (fun r=>l.length-r.2.i) (([(Dv.ei S).1],(Dv.ei S).2)) (.start (hf S hi rfl)) (StLe.of_eq (by simp [List.set_set,xo,Ab])) rfl (fun r hx=>?_)
 refine Z77 ?_
 refine R.go (h:=Q.loadUp (gA ho hne)) (hr:=?_)
 refine Ui ?_;refine G.call Tryz.call244 (fun hB=>X5 l r.2 Jt o _ (A4 (gA ho hne)) hx.fact.lt hl (by decide)) ?_;refine R.go ?_;refine R.fin [0,1,2,21] ?_
 refine W.cond (fun ht21=>?_) (fun ht21=>?_)
 ·have hon:=hx.on hl ht21 hf
  have hle:=hon.2.1.le
  have hlt0:=hx.fact.lt
  refine Z8 ?_;refine AW.block ?_;refine Z3 ?_;refine R.callUp Tryz.call245 (gA ho hne) (by simp) Bv (n8 l r.2 o _ (A4 (gA ho hne)) hx.fact.lt hll) ?_;refine R.fin [0,1,2] ?_
  refine W.drawT0 [0,1,0,4,3,0,63,127,255,127,639] [1,3] [.q 1 [] [0],.s [25] (some 0) [] [],.q 1 [] [1],.s [27] (some 1) [] [],.q 2 [] []] (fun B=>(Hp.set o (if B 1=true then pr l (Dv.ei (A3 r.2)).2 else pr l (A3 r.2))).set ox (if B 0=true then xo false t r.1 else xo true t r.1)) (fun _=>[I1]) Ac (by kernel_rfl) (by simp only [Bool.false_eq_true,if_false];exact (pg hne).symm) rfl (fun B=>by simp) ?_
  apply Y.q
  case h1 =>
   intro B hT hF
   exact Z47
  case hTF=>decide
  refine Y.loadUpT (o:=ox) (t':=69) (cs:=[A2 6,A8 t,A2 0,A2 0,A8 [],.slice true 6 (r.1.map A7)]) (cs':=[A2 6,A8 t,A2 0,A2 0,A8 [],.slice false 6 (r.1.map A7)]) Tryz.isAgg45 (fun B hB=>⟨by simp only [hB];exact gB hox,by simp [upd,List.set_set]<;>rfl,rfl⟩) ?_
  apply Y.q
  case h1 =>
   intro B hT hF
   exact Z47
  case hTF=>decide
  refine Y.callUp (r:=A7 (Dv.ei (A3 r.2)).1) (o:=o) (x0:=pr l (A3 r.2)) (x:=pr l (Dv.ei (A3 r.2)).2) Tryz.call215 (fun B hT hF hB=>⟨by simp only [hB];exact gA ho hne,?_,rfl,Bv,?_⟩) ?_
  ·simp only [upd,hB,Nat.reduceEqDiff,if_false,if_true,Bool.false_eq_true]
   exact (pg hne).symm
  ·simp only [hB]
   exact hcf o _ (A3 r.2) (A4 (gA ho hne)) hon.1 hx.fact.nest
  apply Y.q
  case h1 =>
   intro B hT hF
   exact g8
  case hTF=>decide
  refine Y.appendPut (tn:=[1,3]) (U:=(Hp.set o (pr l (Dv.ei (A3 r.2)).2)).set ox (xo false t r.1)) (O:=[I1]) (o:=ox) (t':=69) (cs:=[A2 6,A8 t,A2 0,A2 0,A8 [],.slice false 6 (r.1.map A7)]) (by kernel_rfl) jU Tryz.type69 Tryz.sizeOf69 Tryz.sizeOf45 jU (A4 (gB hox)) ?_ ?_ ?_ (hfsz:=Tryz.sizeOf45)
  ·have:=hx.fact.len;have:=hx.fact.lt;simp only [List.length_map,Tryz.t69];omega
  ·have:=hx.fact.len;have:=hx.fact.lt;simp only [List.length_map,Tryz.t69];omega
  refine R.go ?_
  refine R.storeUpT jS (gB hox) ?_ ?_
  ·first|(rw [Lg];exact D3)|(have:=D3 (n:=((Hp.set o (pr l (Dv.ei S).2)).set ox (xo false t [])).length) (k:=6) (o:=true) (l:=[(Dv.ei S).1]);simp only [List.map_cons,List.map_nil,Ab] at this;exact this)
  refine R.fin [0,1,2] ?_;refine K.blN ?_
  refine K.lpN (r.1++[(Dv.ei (A3 r.2)).1],(Dv.ei (A3 r.2)).2) hon.2.2 (by show l.length-(Dv.ei (A3 r.2)).2.i<l.length-r.2.i;have:r.2.i+1≤(Dv.ei (A3 r.2)).2.i:=hle;omega) (StCut.of_eq ?_)
  simp only [show Tryz.t69.size=6 from rfl,Lg,List.set_set]
 have hout:=hx.out (by rw [ht21];simp)
 refine Z79 ?_;refine Z36 ?_;refine Dq ?_
 refine R.go (h:=Q.loadUpN (gB hox)) (hr:=?_)
 refine Z7 ?_;exact K.fin (V.one (V.cellN jA jS)) ⟨by rw [hout,V9];rfl,by rw [hout]⟩ (hlow:=by have:=Ad Hp.length (.mk 6 t noV r.1);rw [V9] at this;simpa using this)

/-- within, with the function that gathers a call's kids. -/
theorem AAk (l:List Tok) (S:PS) (a:Int) (t:Str) (Dv:Fam) (o:Nat) (Hp:List AObj) (A0 A1:AObj) (l0:ObjLow 0 A0) (ho:Hp[o]? = some (pr l S)) (hi:S.i<l.length) (hl:TokEnd l) (hll:l.length≤1048576) (hnl:S.nest≤30) (hd:DeepC l Dv S.nest):
  ACall Tryz.prog 259 [.ptr o 0,A2 a,.fn (.func 275) [] [.ptr (oid Hp.length 2) 0,.ro [.ptr o 0]]] (Hp++[A0,A1,xo true t []]) (fun r H'=>r=A7 (if S.nest=30 then Ag else .mk 6 t noV (Hf l a Dv.ei S).1)∧H'=Hp.set o (pr l (Hf l a Dv.ei S).2)++[A0,A1,xo true t (Hf l a Dv.ei S).1]):=by
 have hlt:=(List.getElem?_eq_some_iff.1 ho).1
 have ho':(Hp++[A0,A1,xo true t []])[o]? = some (pr l S):=A4 ho
 by_cases h30:S.nest=30
 ·refine (sj l S a 275 [] [.ptr (oid Hp.length 2) 0,.ro [.ptr o 0]] Ag (Al S) o (Hp++[A0,A1,xo true t []]) ((Hp++[A0,A1,xo true t []]).set o (pr l (Al S))) ho' (by omega) Tryz.call275 (by simp) (getset ho') rfl (fun h=>h) (fun h=>absurd h30 h)).mono fun r H' h=>?_
  have e:Hf l a Dv.ei S=([],Ci 18 a S):=if_pos (by rw [h30];rfl)
  rw [e,if_pos h30]
  obtain ⟨h1,h2⟩:=h.1 h30
  exact ⟨h1,by rw [h2,List.set_append_left _ _ hlt]⟩
 have hq:=Q9 (S:=Al S) hl hi (hd.ei h30).1
 refine (sj l S a 275 [] [.ptr (oid Hp.length 2) 0,.ro [.ptr o 0]] (.mk 6 t noV (En l Dv.ei (Al S)).1) (En l Dv.ei (Al S)).2 o (Hp++[A0,A1,xo true t []]) (Hp.set o (pr l (En l Dv.ei (Al S)).2)++[A0,A1,xo true t (En l Dv.ei (Al S)).1]) ho' (by omega) Tryz.call275 (by simp) (A4 (getset ho)) hq.nest (fun h y hy=>?_) (fun _ own=>?_)).mono fun r H' h=>?_
 ·rw [List.set_append_left _ _ hlt] at h
  rcases List.mem_append.1 hy with hy|hy
  ·rcases List.mem_or_eq_of_mem_set hy with h1|h1
   ·obtain ⟨i,hi',rfl⟩:=List.getElem_of_mem h1
    by_cases hio:i=o
    ·subst hio
     have:Hp[i]=pr l S:=by rw [List.getElem?_eq_getElem hi'] at ho;injection ho
     rw [this];exact Bv
    refine h _ (List.mem_append_left _ ?_)
    rw [List.mem_iff_getElem?]
    exact ⟨i,by rw [List.getElem?_set_ne (Ne.symm hio),List.getElem?_eq_getElem hi']⟩
   rw [h1];exact Bv
  simp only [List.mem_cons,List.not_mem_nil,or_false] at hy
  rcases hy with rfl|rfl|rfl
  ·exact h _ (List.mem_append_right _ (by simp))
  ·exact h _ (List.mem_append_right _ (by simp))
  exact xy
 ·have hoid:oid Hp.length 2≠o:=by unfold oid;omega
  have e1:(Hp++[A0,A1,xo true t []]).set o (pr l (Al S))++own=(Hp.set o (pr l (Al S))++[A0,A1,xo true t []])++own:=by rw [List.set_append_left _ _ hlt]
  rw [e1]
  have g1:((Hp.set o (pr l (Al S))++[A0,A1,xo true t []])++own)[o]? = some (pr l (Al S)):=A4 (A4 (getset ho))
  have g2:((Hp.set o (pr l (Al S))++[A0,A1,xo true t []])++own)[oid Hp.length 2]? = some (xo true t []):=A4 (by
   have:=Aq (U:=Hp.set o (pr l (Al S))) (O:=[A0,A1,xo true t []]) (n:=2)
   rw [List.length_set] at this
   exact this)
  refine (ACo l (Al S) t Dv o (oid Hp.length 2) _ hoid g1 g2 hi hl hll (hd.ei h30).1 (hd.ei h30).2).mono fun r H' h=>⟨h.1,h.2.trans ?_⟩
  rw [List.append_assoc,List.set_append_left _ _ (by simpa using hlt),List.set_set]
  have:=Er (U:=Hp.set o (pr l (En l Dv.ei (Al S)).2)) (O:=[A0,A1,xo true t []]++own) (n:=2) (x:=xo true t (En l Dv.ei (Al S)).1)
  rw [List.length_set] at this
  rw [this]
  simp
 have e:Hf l a Dv.ei S=((En l Dv.ei (Al S)).1,Ku (En l Dv.ei (Al S)).2):=if_neg (by
  show ¬(((S.nest:Int)==30)=true)
  simp
  omega)
 rw [e,if_neg h30]
 obtain ⟨h1,h2⟩:=h.2 h30
 exact ⟨h1,by rw [h2,List.set_append_left _ _ (by simpa using hlt),List.set_set]⟩
theorem ACp (l:List Tok) (S:PS) (Dv:Fam) (t:Tok) (o:Nat) (Hp:List AObj) (ho:Hp[o]? = some (pr l S)) (hi:(A3 S).i<l.length) (hl:TokEnd l) (hll:l.length≤1048576) (hnl:S.nest≤30) (hd:DeepC l Dv S.nest):ACall Tryz.prog 273 [.ptr o 0,Gv t] Hp (fun r H'=>r=A7 (Eo l Dv t S).1∧H'=Hp.set o (pr l (Eo l Dv t S).2)):=by
 have hi0:S.i<l.length:=by have:S.i+1<l.length:=hi;omega
 have hol:=(List.getElem?_eq_some_iff.1 ho).1
 have hkf:KFact l (A3 S) (Bc l Dv S):=Qa hl _ hi (fun h=>(hd.ei h).1)
 refine ACall.body [.cell 4 69] [0,1] Tryz.func273 Tryz.ntmps273 (fun d=>?_)
 refine Z1 ?_;refine R.alloc jZ ?_;refine R.fin [2,3,4] ?_;refine Z1 ?_;refine R.call Tryz.call145 (c145 t.text _) ?_;refine R.go ?_;refine R.fin [2,3,4,5] ?_;refine Z21 ?_;refine R.fin [2,3,4,5,12] ?_
 refine W.cond (fun ht12=>?_) (fun ht12=>?_)
 ·have hlt0:Aw t.text<0:=by simpa using ht12
  have e:Eo l Dv t S=(Ag,Ci 9 t.at_ S):=if_pos hlt0
  refine Z13 ?_;refine R.callUp Tryz.call217 ho (by simp) Bv (ii l S 9 t.at_ o _ (A4 ho)) ?_;refine Fk ?_;refine lr ?_;exact zl
 have hge:¬Aw t.text<0:=by simpa using ht12
 refine Rt ?_;refine R.callUp Tryz.call245 ho (by simp) Bv (n8 l S o _ (A4 ho) hi0 hll) ?_;refine Z16 ?_;refine R.fin [2,3,4,5,6] ?_;refine Z90 ?_;refine Z16 ?_;refine R.fin [2,3,4,5,6,7] ?_;refine Dq ?_;refine R.nilCell 2 5 6 ?_;refine Z19 ?_;refine Km ?_
 refine R.callX (up':=(Hp.set o (pr l (A3 S))).set o (pr l (Bc l Dv S).2)) (own':=[I1,.cells 59 [A2 (A5 l S.i).kind,A8 (A5 l S.i).text,A2 (A5 l S.i).at_],xo true t.text (Bc l Dv S).1]) Tryz.call259 (by have:=AAk l (A3 S) (A5 l S.i).at_ t.text Dv o (Hp.set o (pr l (A3 S))) I1 (.cells 59 [A2 (A5 l S.i).kind,A8 (A5 l S.i).text,A2 (A5 l S.i).at_]) cz (getset ho) hi hl hll hnl hd;rw [List.length_set] at this;exact this) (by simp) (fun h=>sm h Bv) ?_
 refine R.fin [2,3,4,5,7] ?_;refine Z3 ?_;refine R.callUp Tryz.call274 (getset (getset ho)) (by simp) Bv (AA4 l (Bc l Dv S).2 Cw o _ (A4 (getset (getset ho))) hkf.lt hll) ?_;refine R.fin [2,3,4,5,7] ?_;refine Z77 ?_
 refine R.go (h:=Q.loadUp (getset (getset (getset ho)))) (hr:=?_)
 refine Z42 ?_;refine ga ?_;refine R.fin [2,3,4,7,41] ?_
 refine W.cond (fun ht41=>?_) (fun ht41=>?_)
 ·have e:Eo l Dv t S=(Ag,Ci 8 t.at_ (Cj l Cw (Bc l Dv S).2)):=by
   unfold Eo
   rw [if_neg hge,if_pos (by have:=ht41;simp only [List.length_map] at this;exact this)]
  refine Z13 ?_;refine R.callUp Tryz.call217 (getset (getset (getset ho))) (by simp) Bv (ii l (Cj l Cw (Bc l Dv S).2) 8 t.at_ o _ (A4 (getset (getset (getset ho))))) ?_;refine Fk ?_;refine lr ?_;exact K.fin (V.one (V.cellN jA jS)) ⟨by rw [e,Ab],by rw [e,List.set_set,List.set_set,List.set_set]⟩ (hlow:=low_agg _)
 have e:Eo l Dv t S=(.mk 6 t.text noV (Bc l Dv S).1,(Cj l Cw (Bc l Dv S).2)):=by
  unfold Eo
  rw [if_neg hge,if_neg (by have:=ht41;simp only [List.length_map] at this;rw [Bool.eq_false_iff] at this;exact this)]
 refine Rt ?_;refine Fk ?_;refine Z27 ?_;exact K.fin (V.one (V.cellN jA jS)) ⟨by rw [e,V9];rfl,by rw [e,List.set_set,List.set_set]⟩ (hlow:=by have:=Ad Hp.length (.mk 6 t.text noV (Bc l Dv S).1);rw [V9] at this;simpa using this)

theorem jf {l:List Tok} (hl:TokEnd l) (hll:l.length≤1048576) (n:Nat) (Dv:Fam) (hn:n≤30) (hd:DeepC l Dv n):X6 l Dv n:=fun o Hp S t ho hi hS _ _=>by
 subst hS
 exact ACp l S Dv t o Hp ho hi hl hll hn hd
theorem bb {e:Expr} (h:B1 e=true):e.text.length≤16∧e.kids.length≤8:=by
 cases Fq h with
 | val v hp h0=>exact ⟨by simp [Ex,Expr.text],by simp [Ex,Expr.kids]⟩
 | name t ht =>
  refine ⟨?_,by simp [B3,Expr.kids]⟩
  show t.length≤16
  cases t with
  | nil=>simp
  | cons c r =>
   simp only [Dn,Bool.and_eq_true,decide_eq_true_eq] at ht
   exact ht.1.1.1
 | neg a=>exact ⟨by simp [Bw,Expr.text],by simp [Bw,Expr.kids]⟩
 | no a=>exact ⟨by simp [Bw,Expr.text],by simp [Bw,Expr.kids]⟩
 | bin t a b ht=>exact ⟨by have:=Xs ht;show t.length≤16;omega,by simp [Ca,Expr.kids]⟩
 | call t k ha =>
  refine ⟨by have:=Rd ha;show t.length≤16;omega,?_⟩
  show k.length≤8
  rcases Ld ha with ⟨_,e⟩|⟨_,e⟩|⟨_,e⟩|⟨_,e⟩|⟨_,e⟩|⟨_,e⟩|⟨_,e⟩|⟨_,e⟩<;>omega
theorem Tj:∀{l:List Expr} {y:Expr},y∈l→depthE y≤Ju l
 | a::r,y,h=>by
  rw [Ju]
  rcases List.mem_cons.1 h with rfl|h
  ·omega
  have:=Tj h
  omega
theorem dv:∀(n:Nat) (e:Expr),depthE e≤n→Bl B1 e=true→okE n e
 | 0,e,h,_=>by rw [Sx] at h;omega
 | n+1,e,h,hn=>by
  rw [Dj,Bool.and_eq_true] at hn
  rw [Sx] at h
  have hs:=bb hn.1
  refine ⟨by omega,by omega,fun y hy=>dv n y (by have:=Tj hy;omega) ((Cr _ _).1 hn.2 y hy)⟩
theorem Tk {e:Expr} (h:Ch e=true):okE 30 e∧sizeE e≤300:=by
 have h1:=Hi h
 unfold Ch at h
 simp only [Bool.and_eq_true,decide_eq_true_eq] at h
 exact ⟨dv 30 e h.1.1 h1,h.1.2⟩
theorem ACq (n:Nat) (e:Expr) (hok:okE n e) (hn:n≤1048576) (hg:Bl E8 e=true) (Hp:List AObj):AFun Tryz.prog 101 [A7 e] Hp (.tup [A8 (Ep e).1,A2 (Ep e).2]):=by
 refine ACall.body [.tmp 2,.tmp 3] [0] Tryz.func101 Tryz.ntmps101 (fun d=>?_)
 refine Z13 ?_;refine R.fin [1] ?_;refine Z46 ?_;refine R.call Tryz.call70 (c70 n e hok hn _) ?_;refine R.go ?_;refine R.fin [1,7] ?_
 refine W.cond (fun ht7=>?_) (fun ht7=>?_)
 ·have hsh:Ep e=([],1):=if_pos ht7
  refine Z1 ?_;exact yr
 have hnr:¬(!(Ay e))=true:=by rw [ht7];simp
 have hr:Ch e=true:=by rw [←Ei];simpa using ht7
 have hps:=Xt hr hg
 refine Uf ?_;refine R.build (places:=#[(0,2)]) jU (fun w=>by simp) jZ ?_;refine R.box ?_;refine R.go ?_;refine R.fin [1,4] ?_;refine Dq ?_;refine R.toBld 0 160 5 ?_;refine Z0 ?_
 refine R.callOwn (n:=0) (x:=Rc (A9 e)) Tryz.call137 (ACn n e hok (Hi hr) hg (oid Hp.length 0) [] _ (by rw [Aq];rfl) (by simp only [Fa,List.length_nil];omega)) ?_
 refine R.fin [4] ?_;refine Z35 ?_
 refine R.call Tryz.call32 (c32 (A9 e) (oid Hp.length 0) _ (by rw [Aq];rfl)) ?_
 refine R.go ?_;refine R.fin [4,17] ?_
 refine W.cond (fun ht17=>?_) (fun ht17=>?_)
 ·have hsh:Ep e=([],3):=by unfold Ep;rw [if_neg hnr,if_pos ht17]
  refine Z1 ?_;exact yr
 have hsh:Ep e=(A9 e,0):=by unfold Ep;rw [if_neg hnr,if_neg (by rw [ht17];simp)]
 refine Uj ?_
 refine R.callOwn (n:=0) (x:=.cells 160 [.any,.any]) Tryz.call33 (c33 (A9 e) (oid Hp.length 0) _ (by rw [Aq];rfl)) ?_
 refine Z0 ?_;refine Z34 ?_;exact zm

/-! fuse.Forth and plan.Text. -/
/-! The text. -/
/-! ONE LINE EACH. -/
/-! How long plan.Text's pieces are. -/
theorem ph:liesAt Tryz.prog Tryz.prog.depth 74 (2 / Tryz.prog.cellsOf 74) 0 74 1=true:=by kernel_rfl
abbrev Xu (bs:Str):AObj:=.bld 74 5 bs
theorem pi {n:Nat} {bs:Str}:ObjLow n (Xu bs):=trivial
theorem ACr (bs s:Str) (hl:bs.length+s.length≤140737488355328) (o:Nat) (Hp:List AObj) (ho:Hp[o]? = some (Xu bs)):
  ACall Tryz.prog 31 [.ptr o 0,A8 s] Hp (fun r H'=>r=.tup [A2 s.length,.v .nilIface]∧H'=Hp.set o (Xu (bs++s))):=by
 refine ACall.bldWrite ho (fun b p v w h=>?_)
 have hw:=bldWrite Tryz.lays166 uk (T:=74) ph (by decide) b p v bs.length (Lib.byteCells bs) ⟨s.toArray⟩ w h (by rw [D4];exact hl)
 rw [D4,Lib.strCells_eq,←Lib.byteCells_append] at hw
 exact hw
theorem ACs (bs:Str) (o:Nat) (Hp:List AObj) (ho:Hp[o]? = some (Xu bs)):ACall Tryz.prog 33 [.ptr o 0] Hp (fun r H'=>r=A8 bs∧H'=Hp.set o (.cells 74 [.any,.any])):=
 ACall.bldString ho (fun b p v w h hc=>bldString (ρ:=Tryz.ren155) { Tryz.lays155 with } uk (T:=74) b p v bs w h hc)
section
variable {O X U:List AObj} {i:Nat} {b y:AObj}
end
/-- Moves whose numbers are ones of 64 bits. -/
structure RngMv (m:Mov):Prop where
 ahead:∀e∈m.ahead,Bl E8 e=true
 back:∀e∈m.back,Bl E8 e=true
theorem Xv {l:List Expr} (h20:l.length≤1048576) (h:l.any cw=false) (hr:∀e∈l,Bl E8 e=true):OkEs l:=by
 have h1:∀e∈l,Slim e:=fun e he=>se (by
  rw [List.any_eq_false] at h
  simpa using h e he)
 exact ⟨h20,fun e he=>(h1 e he).ok,fun e he=>by have:=(h1 e he).size;omega,hr⟩
theorem jg {m:Mov} (h:oh m=false) (hr:RngMv m):OkMov m:=by
 unfold oh at h
 simp only [Bool.or_eq_false_iff,decide_eq_false_iff_not] at h
 obtain ⟨⟨⟨⟨⟨⟨h1,h2⟩,h3⟩,h4⟩,h5⟩,h6⟩,h7⟩:=h
 have h50:m.give.length≤1000000:=by
  unfold I8 at h1
  simp only [Bool.or_eq_false_iff,decide_eq_false_iff_not] at h1
  omega
 refine ⟨by omega,fun s hs=>?_,cx h1,h50,Xv (by omega) h6 hr.ahead,Xv (by omega) h7 hr.back⟩
 rw [List.any_eq_false] at h5
 have:=h5 s hs
 simp only [decide_eq_true_eq] at this
 omega
/-! What mig.Parse hands back is right, and may be walked. -/
structure TrE (e:Expr):Prop where
 right:Ch e=true
 rng:Bl E8 e=true
 need:At e≤30
theorem uo {l:List Tok} {i:Nat} (h0:(atM l i).2.2.1=0):At (atM l i).1≤30:=by
 unfold atM at h0 ⊢
 split
 ·exact iv
 rename_i hc
 have hc:(atS l i (atR l i)).code=0:=by simpa using hc
 have hr:(atR l i).2.code=0:=by
  unfold atS at hc
  split at hc
  ·exact hc
  rename_i hh;simpa using hh
 have:=((ax l 30 0 rfl).1 ⟨i,0,0,0⟩ rfl).need hr
 have h2:=(Mm 0 (atR l i).1 (At (atR l i).1)).1
 show At (atR l i).1≤30
 unfold atR at h2 ⊢
 omega
theorem pj {L:List Tok} (hw:∀i,WordOk (A5 L i)) {i:Nat} (ha:(atM L i).2.2.1=0):TrE (atM L i).1:=by
 have hneed:=uo ha
 revert hneed
 unfold atM at ha ⊢
 by_cases hc:((atS L i (atR L i)).code != 0)=true
 ·rw [if_pos hc] at ha
  rw [show (atS L i (atR L i)).code=0 from ha] at hc
  cases hc
 rw [if_neg hc]
 have hc:(atS L i (atR L i)).code=0:=by simpa using hc
 have h0:(atR L i).2.code=0∧depthE (atR L i).1≤30∧sizeE (atR L i).1≤300:=by
  unfold atS at hc
  split at hc
  ·rename_i hh;exact absurd hc (by simpa using hh)
  rename_i hh
  split at hc
  ·exact w8
  rename_i h2
  split at hc
  ·exact w8
  rename_i h3
  simp only [decide_eq_true_eq,Int.not_lt] at h2 h3
  exact ⟨by simpa using hh,by omega,by omega⟩
 have:=(o7 _ hw 30 0 rfl).1 ⟨i,0,0,0⟩ rfl h0.1
 refine fun hneed=>⟨?_,this.2,hneed⟩
 unfold Ch
 rw [Bool.and_eq_true,Bool.and_eq_true]
 exact ⟨⟨by simpa using h0.2.1,by simpa using h0.2.2⟩,this.1⟩
theorem bc {s:Str} (hl:(Cv s).2.1=0):∀i,WordOk (A5 (Cv s).1 i):=fun i=>by
 obtain ⟨_,hi,hM⟩:=Uz hl
 have hall:∀t∈(Cv s).1,WordOk t:=fun t ht=>by
  rw [hM] at ht
  rcases List.mem_append.1 ht with ht|ht
  ·obtain ⟨it,hit,rfl⟩:=List.mem_map.1 ht
   exact Xi _ _ _ it hit (hi it hit)
  rw [List.mem_singleton.1 ht]
  exact xh _
 unfold A5
 rw [List.getD_eq_getElem?_getD]
 cases hg:(Cv s).1[i]? with
 | none=>exact ⟨(fun h=>by cases h),(fun h=>by cases h)⟩
 | some t=>exact hall t (List.mem_of_getElem? hg)
theorem dw {L:List Tok} (hw:∀i,WordOk (A5 L i)) {i:Nat} {x:Expr} {j:Nat} (h:Gf L i=.ok x j):TrE x:=by
 unfold Gf at h
 split at h
 ·cases h
 rename_i h1
 injection h with h2 _
 rw [←h2]
 exact pj hw (by simpa using h1)
theorem Kl {L:List Tok} (hw:∀i,WordOk (A5 L i)) {i:Nat} {s:Str} {j:Nat} (h:Dk L i=.ok s j):Dn s=true:=by
 unfold Dk at h
 split at h
 ·cases h
 rename_i h1
 injection h with h2 _
 rw [←h2]
 exact (hw i).name (by simpa using h1)
theorem Tl {s:Str} (h:(Hs s==0)=false):1≤Hs s∧Hs s≤3:=by
 unfold Hs at h ⊢
 repeat' split at h
 all_goals simp_all
structure ColG (c:Col):Prop where
 name:Dn c.name=true
 lo:1≤c.kind
 hi:c.kind≤3
theorem jh {L:List Tok} (hw:∀i,WordOk (A5 L i)) {i:Nat} {c:Col} {j:Nat} (h:Ff L i=.ok c j):ColG c:=by
 obtain ⟨s,j1,h1,h2⟩:=PR.bind_ok h
 unfold Oe at h2
 split at h2
 ·cases h2
 rename_i h3
 injection h2 with h2 _
 have h3:(Hs (A5 L j1).text==0)=false:=by
  simp only [Bool.or_eq_true,not_or,Bool.not_eq_true] at h3
  exact h3.2
 rw [←h2]
 exact ⟨Kl hw h1,(Tl h3).1,(Tl h3).2⟩
/-- The parts of a move, so far. -/
structure MvG (m:Mov):Prop where
 takes:∀s∈m.take,Dn s=true
 gives:∀c∈m.give,ColG c
 len:m.ahead.length=m.give.length
 aheads:∀x∈m.ahead,TrE x
 backs:∀x∈m.back,TrE x
theorem MvG.nil (k:Int):MvG ⟨k,[],[],[],[]⟩:=⟨(fun s h=>by cases h),(fun s h=>by cases h),rfl,(fun s h=>by cases h),(fun s h=>by cases h)⟩
theorem P4 {L:List Tok} (hw:∀i,WordOk (A5 L i)) {m:Mov} (hm:MvG m) {i:Nat} {m':Mov} {j:Nat} (h:C9 L m i=.ok m' j):MvG m'∧∃c x,ColG c∧m'=Kx (Bi m c) x:=by
 obtain ⟨c,j1,h1,h2⟩:=PR.bind_ok h
 obtain ⟨u,j2,h3,h4⟩:=PR.bind_ok h2
 obtain ⟨x,j3,h5,h6⟩:=PR.bind_ok h4
 injection h6 with h6 _
 have hc:=jh hw h1
 have hx:=dw hw h5
 subst h6
 refine ⟨⟨hm.takes,fun y hy=>?_,?_,fun y hy=>?_,hm.backs⟩,c,x,hc,rfl⟩
 ·rcases List.mem_append.1 hy with h|h
  ·exact hm.gives y h
  rw [List.mem_singleton.1 h];exact hc
 ·show (m.ahead++[x]).length=(m.give++[c]).length
  rw [List.length_append,List.length_append,hm.len]
  rfl
 rcases List.mem_append.1 hy with h|h
 ·exact hm.aheads y h
 rw [List.mem_singleton.1 h];exact hx
theorem Xw {L:List Tok} (hl:TokEnd L) {n:Int} {one:Mov→Nat→PR Mov} {P:Nat→Mov→Prop} (hP:∀k m i m' j,P k m→i<L.length→one m i=.ok m' j→P (k+1) m'∧i≤j∧j<L.length):
  ∀(f k:Nat) (m:Mov) (i:Nat) (m':Mov) (j:Nat),i<L.length→L.length≤i+f→P k m→Gt L n one f k m i=.ok m' j→(∃c,P c m'∧(n=0→2≤c)∧(0<n→(k:Int)≤n→(c:Int)=n))∧j<L.length
 | 0,k,m,i,m',j,hi,hf,hm,h=>by omega
 | f+1,k,m,i,m',j,hi,hf,hm,h=>by
  rw [Gt] at h
  split at h
  ·rename_i hq
   obtain ⟨u,j1,h1,h2⟩:=PR.bind_ok h
   obtain ⟨m1,j2,h3,h4⟩:=PR.bind_ok h2
   have e:=Hg h1
   have a1:=Cy hl hi _ _ h1
   obtain ⟨b1,b2,b3⟩:=hP k m j1 m1 j2 hm a1.2 h3
   obtain ⟨⟨c,c1,c2,c3⟩,c4⟩:=Xw hl hP f (k+1) m1 j2 m' j b3 (by omega) b1 h4
   refine ⟨⟨c,c1,c2,fun h0 hk=>c3 h0 ?_⟩,c4⟩
   unfold Hv at hq
   have:(n==0)=false:=by simp;omega
   rw [this] at hq
   simp at hq
   omega
  rename_i hq
  injection h with h1 h2
  subst h1;subst h2
  unfold Hv at hq
  refine ⟨⟨k,hm,fun h0=>?_,fun h0 hk=>?_⟩,hi⟩
  ·rw [h0] at hq
   simp at hq
   omega
  simp at hq
  omega
theorem Vc {L:List Tok} (hl:TokEnd L) {n:Int} {one:Mov→Nat→PR Mov} {P:Nat→Mov→Prop} (hP:∀k m i m' j,P k m→i<L.length→one m i=.ok m' j→P (k+1) m'∧i≤j∧j<L.length) {m:Mov} {i:Nat} {m':Mov} {j:Nat} (hi:i<L.length) (hm:P 0 m) (h:Dr L n one m i=.ok m' j):(∃c,P c m'∧(n=0→2≤c)∧(0<n→(c:Int)=n))∧j<L.length:=by
 obtain ⟨m1,j1,h1,h2⟩:=PR.bind_ok h
 obtain ⟨b1,b2,b3⟩:=hP 0 m i m1 j1 hm hi h1
 obtain ⟨⟨c,c1,c2,c3⟩,c4⟩:=Xw hl hP _ 1 m1 j1 m' j b3 (by omega) b1 h2
 exact ⟨⟨c,c1,c2,fun h0=>c3 h0 (by omega)⟩,c4⟩
theorem Nu {L:List Tok} (hl:TokEnd L) (hll:L.length≤500000) {m:Mov} {i:Nat} {m':Mov} {j:Nat} (hi:i<L.length) (h:C9 L m i=.ok m' j):i≤j∧j<L.length:=by
 obtain ⟨c,j1,h1,h2⟩:=PR.bind_ok h
 obtain ⟨u,j2,h3,h4⟩:=PR.bind_ok h2
 obtain ⟨x,j3,h5,h6⟩:=PR.bind_ok h4
 injection h6 with _ h7
 subst h7
 have a1:=Nm hl hi _ _ h1
 have a2:=Cy hl a1.2 _ _ h3
 have a3:=Iv hl hll a2.2 h5
 exact ⟨by omega,a3.2⟩
/-- The trees back. -/
theorem P5 {L:List Tok} (hl:TokEnd L) (hll:L.length≤500000) (hw:∀i,WordOk (A5 L i)) {m:Mov} (hm:MvG m) (h0:m.back=[]) (h1:1≤m.take.length) {i:Nat} (hi:i<L.length) {m':Mov} {j:Nat} (h:Ct L m i=.ok m' j):MvG m'∧∃b,b.length=m.take.length∧m'=⟨m.kind,m.take,m.give,m.ahead,b⟩:=by
 obtain ⟨u,j1,h2,h3⟩:=PR.bind_ok h
 have a1:=Cy hl hi _ _ h2
 obtain ⟨⟨c,⟨c1,b,hb,e⟩,c2,c3⟩,_⟩:=Vc (P:=fun k m'=>MvG m'∧∃b:List Expr,b.length=k∧m'=⟨m.kind,m.take,m.give,m.ahead,b⟩) hl (fun k m1 i m2 j hq hi h=>by
  obtain ⟨g,b,hb,e⟩:=hq
  obtain ⟨x,j1,h1,h2⟩:=PR.bind_ok h
  injection h2 with h2 h3
  subst h3
  have a:=Iv hl hll hi h1
  have hx:=dw hw h1
  subst h2
  refine ⟨⟨⟨g.takes,g.gives,g.len,g.aheads,fun y hy=>?_⟩,b++[x],by rw [List.length_append,hb];rfl,by rw [e];rfl⟩,a.1,a.2⟩
  rcases List.mem_append.1 hy with h|h
  ·exact g.backs y h
  rw [List.mem_singleton.1 h];exact hx) a1.2 ⟨hm,[],rfl,by rw [←h0]⟩ h3
 have:=c3 (by omega)
 exact ⟨c1,b,by omega,e⟩
/-- A move that is parsed, its counts and last words. -/
structure MvP (m:Mov):Prop where
 takes:∀s∈m.take,Dn s=true
 gives:∀c∈m.give,Dn c.name=true
 kinds:m.kind≠3→∀c∈m.give,1≤c.kind∧c.kind≤3
 kind3:m.kind=3→∀c∈m.give,c.kind=0
 counts:C6 m=true
 last:F1 m=true
 aheads:∀x∈m.ahead,TrE x
 backs:∀x∈m.back,TrE x
theorem Xx {s:Str} (h:Dn s=true):TrE (B3 s):=⟨by
 have:=Pz s
 rw [←Ei]
 rw [this]
 exact h,rfl,by rw [B3];simp [At,Od,Jx]⟩
theorem MvG.p {m:Mov} (h:MvG m) (hk:m.kind≠3) (hc:C6 m=true) (hl:F1 m=true):MvP m:=⟨h.takes,fun c hc=>(h.gives c hc).name,fun _ c hc=>⟨(h.gives c hc).lo,(h.gives c hc).hi⟩,fun h3=>absurd h3 hk,hc,hl,h.aheads,h.backs⟩
theorem H7 {m:Mov} (h1:m.ahead.length=m.give.length) (h2:m.back.length=m.take.length) (h:(m.kind=1∧m.take.length=0∧m.give.length=1)∨(m.kind=2∧m.take.length=1∧m.give.length=0)∨((m.kind=3∨m.kind=6)∧m.take.length=1∧m.give.length=1)∨(m.kind=4∧m.take.length=1∧1<m.give.length)∨(m.kind=5∧1<m.take.length∧m.give.length=1)):C6 m=true:=by
 unfold C6
 rw [if_neg (by simp [h1,h2])]
 rcases h with ⟨e,a,b⟩|⟨e,a,b⟩|⟨e|e,a,b⟩|⟨e,a,b⟩|⟨e,a,b⟩<;>rw [e]<;>simp [a,b]<;>omega
theorem P6 {m:Mov} (h3:m.kind≠3) (h6:m.kind≠6):F1 m=true:=by
 unfold F1
 rw [if_neg (by simpa using h3),if_neg (by simpa using h6)]
theorem uq {L:List Tok} (hl:TokEnd L) (hll:L.length≤500000) (hw:∀i,WordOk (A5 L i)) {k:Int} (hk:1≤k∧k≤6) {i:Nat} (hi:i<L.length) {m:Mov} {j:Nat} (h:El L ⟨k,[],[],[],[]⟩ i=.ok m j):MvP m:=by
 have hg:=MvG.nil k
 unfold El at h
 split at h
 ·rename_i hk1
  have hk1:k=1:=by simpa using hk1
  obtain ⟨g,c,x,hc,e⟩:=P4 hw hg h
  subst e
  exact g.p (by show k≠3;omega) (H7 g.len rfl (.inl ⟨hk1,rfl,rfl⟩)) (P6 (by show k≠3;omega) (by show k≠6;omega))
 split at h
 ·rename_i hk1
  have hk1:k=2:=by simpa using hk1
  obtain ⟨s,j1,h1,h2⟩:=PR.bind_ok h
  have hs:=Kl hw h1
  have a1:=E7 hl hi _ _ h1
  have g0:MvG (takeS ⟨k,[],[],[],[]⟩ s):=⟨fun y hy=>by rw [List.mem_singleton.1 hy];exact hs,hg.gives,rfl,hg.aheads,hg.backs⟩
  obtain ⟨g,b,hb,e⟩:=P5 hl hll hw g0 rfl (Nat.le_refl _) a1.2 h2
  subst e
  exact g.p (by show k≠3;omega) (H7 rfl hb (.inr (.inl ⟨hk1,rfl,rfl⟩))) (P6 (by show k≠3;omega) (by show k≠6;omega))
 split at h
 ·rename_i hk1
  have hk1:k=3:=by simpa using hk1
  obtain ⟨s,j1,h1,h2⟩:=PR.bind_ok h
  obtain ⟨u,j2,h3,h4⟩:=PR.bind_ok h2
  obtain ⟨t,j3,h5,h6⟩:=PR.bind_ok h4
  injection h6 with h6 _
  have hs:=Kl hw h1
  have ht:=Kl hw h5
  subst h6
  refine ⟨fun y hy=>by rw [List.mem_singleton.1 hy];exact hs,fun y hy=>by rw [List.mem_singleton.1 hy];exact ht,fun h=>absurd hk1 h,fun _ y hy=>by rw [List.mem_singleton.1 hy],H7 rfl rfl (.inr (.inr (.inl ⟨.inl hk1,rfl,rfl⟩))),?_,fun y hy=>by rw [List.mem_singleton.1 hy];exact Xx hs,fun y hy=>by rw [List.mem_singleton.1 hy];exact Xx ht⟩
  unfold F1
  rw [if_pos (by simpa using hk1)]
  show (eqE (B3 s) (B3 s)&&eqE (B3 t) (B3 t))=true
  rw [Qi,Qi]
  rfl
 split at h
 ·rename_i hk1
  have hk1:k=4:=by simpa using hk1
  obtain ⟨s,j1,h1,h2⟩:=PR.bind_ok h
  obtain ⟨u,j2,h3,h4⟩:=PR.bind_ok h2
  obtain ⟨m1,j3,h5,h6⟩:=PR.bind_ok h4
  have hs:=Kl hw h1
  have a1:=E7 hl hi _ _ h1
  have a2:=Cy hl a1.2 _ _ h3
  have g0:MvG (takeS ⟨k,[],[],[],[]⟩ s):=⟨fun y hy=>by rw [List.mem_singleton.1 hy];exact hs,hg.gives,rfl,hg.aheads,hg.backs⟩
  obtain ⟨⟨c,⟨g1,e1,e2,e3,e4⟩,c2,_⟩,c4⟩:=Vc (P:=fun n m'=>MvG m'∧m'.kind=k∧m'.take=[s]∧m'.back=[]∧m'.give.length=n) hl (fun n m1 i m2 j hq hi h=>by
   obtain ⟨g,e1,e2,e3,e4⟩:=hq
   obtain ⟨g',c,x,hc,e⟩:=P4 hw g h
   have a:=Nu hl hll hi h
   subst e
   exact ⟨⟨g',e1,e2,e3,by show (m1.give++[c]).length=_;rw [List.length_append,e4];rfl⟩,a.1,a.2⟩) a2.2 ⟨g0,rfl,rfl,rfl,rfl⟩ h5
  have c2:=c2 rfl
  obtain ⟨g,b,hb,e⟩:=P5 hl hll hw g1 e3 (by rw [e2];exact Nat.le_refl _) c4 h6
  subst e
  exact g.p (by show m1.kind≠3;omega) (H7 g1.len hb (.inr (.inr (.inr (.inl ⟨by show m1.kind=4;omega,by show m1.take.length=1;rw [e2];rfl,by show 1<m1.give.length;omega⟩))))) (P6 (by show m1.kind≠3;omega) (by show m1.kind≠6;omega))
 split at h
 ·rename_i hk1
  have hk1:k=5:=by simpa using hk1
  obtain ⟨m1,j1,h1,h2⟩:=PR.bind_ok h
  obtain ⟨u,j2,h3,h4⟩:=PR.bind_ok h2
  obtain ⟨m2,j3,h5,h6⟩:=PR.bind_ok h4
  obtain ⟨⟨c,⟨g1,e1,e2,e3,e4,e5⟩,c2,_⟩,c4⟩:=Vc (P:=fun n m'=>MvG m'∧m'.kind=k∧m'.give=[]∧m'.ahead=[]∧m'.back=[]∧m'.take.length=n) hl (fun n m1 i m2 j hq hi h=>by
   obtain ⟨g,e1,e2,e3,e4,e5⟩:=hq
   obtain ⟨s,j1,h1,h2⟩:=PR.bind_ok h
   injection h2 with h2 h3
   have hs:=Kl hw h1
   have a:=E7 hl hi _ _ h1
   subst h3
   subst h2
   refine ⟨⟨⟨fun y hy=>?_,g.gives,g.len,g.aheads,g.backs⟩,e1,e2,e3,e4,by show (m1.take++[s]).length=_;rw [List.length_append,e5];rfl⟩,by omega,a.2⟩
   rcases List.mem_append.1 hy with h|h
   ·exact g.takes y h
   rw [List.mem_singleton.1 h];exact hs) hi ⟨hg,rfl,rfl,rfl,rfl,rfl⟩ h1
  have c2:=c2 rfl
  have a2:=Cy hl c4 _ _ h3
  obtain ⟨g2,cc,x,hc,e⟩:=P4 hw g1 h5
  have a3:=Nu hl hll a2.2 h5
  subst e
  obtain ⟨g,b,hb,e⟩:=P5 hl hll hw g2 e4 (by show 1≤m1.take.length;omega) a3.2 h6
  subst e
  exact g.p (by show m1.kind≠3;omega) (H7 g2.len hb (.inr (.inr (.inr (.inr ⟨by show m1.kind=5;omega,by show 1<m1.take.length;omega,by show (m1.give++[cc]).length=1;rw [e2];rfl⟩))))) (P6 (by show m1.kind≠3;omega) (by show m1.kind≠6;omega))
 split at h
 ·rename_i hk1
  have hk1:k=6:=by simpa using hk1
  obtain ⟨m1,j1,h1,h2⟩:=PR.bind_ok h
  obtain ⟨g,c,x,hc,e⟩:=P4 hw hg h1
  have a:=Nu hl hll hi h1
  subst e
  have g0:MvG (takeS (Kx (Bi ⟨k,[],[],[],[]⟩ c) x) c.name):=⟨fun y hy=>by rw [List.mem_singleton.1 hy];exact hc.name,g.gives,g.len,g.aheads,g.backs⟩
  obtain ⟨g1,b,hb,e⟩:=P5 hl hll hw g0 rfl (Nat.le_refl _) a.2 h2
  subst e
  refine g1.p (by show k≠3;omega) (H7 g0.len hb (.inr (.inr (.inl ⟨.inr hk1,rfl,rfl⟩)))) ?_
  unfold F1
  rw [if_neg (by show ¬((k==3)=true);simp;omega),if_pos (by show (k==6)=true;simp;omega)]
  show (c.name==c.name)=true
  simp
 rename_i h1 h2 h3 h4 h5 h6
 simp only [beq_iff_eq] at h1 h2 h3 h4 h5 h6
 omega
theorem be {s:Str} (h:(Cx s==0)=false):1≤Cx s∧Cx s≤6:=by
 unfold Cx at h ⊢
 repeat' split at h
 all_goals simp_all
theorem ur {L:List Tok} (hl:TokEnd L) (hll:L.length≤500000) (hw:∀i,WordOk (A5 L i)) {i:Nat} (hi:i<L.length) {m:Mov} {j:Nat} (h:Fg L i=.ok m j):MvP m:=by
 unfold Fg at h
 split at h
 ·cases h
 rename_i h1
 simp only [Bool.or_eq_true,not_or,Bool.not_eq_true] at h1
 obtain ⟨m1,j1,h2,h3⟩:=PR.bind_ok h
 obtain ⟨u,j2,h4,h5⟩:=PR.bind_ok h3
 injection h5 with h5 _
 subst h5
 exact uq hl hll hw (be h1.2) (hl.step hi (by have:=h1.1;simp at this;omega)) h2
theorem MvP.one {m:Mov} (h:MvP m):Ek m=true:=by
 unfold Ek
 simp only [Bool.and_eq_true,List.all_eq_true]
 refine ⟨⟨⟨⟨⟨h.counts,fun c hc=>?_⟩,fun s hs=>by rw [Dm];exact h.takes s hs⟩,fun x hx=>by rw [Ei];exact (h.aheads x hx).right⟩,fun x hx=>by rw [Ei];exact (h.backs x hx).right⟩,h.last⟩
 unfold Fs
 rw [Dm,h.gives c hc,Bool.true_and]
 by_cases h3:m.kind=3
 ·rw [h3,h.kind3 h3 c hc]
  decide
 have:=h.kinds h3 c hc
 have e:(m.kind==3)=false:=by simpa using h3
 rw [e]
 have:(Ah c.kind==([]:Str))=false:=by
  have hk:c.kind=1∨c.kind=2∨c.kind=3:=by omega
  rcases hk with h|h|h<;>rw [h]<;>decide
 rw [this]
 rfl
theorem Tm {s:Str} (h:Dn s=true):s.length≤16:=by
 rw [←Dm] at h
 unfold C5 at h
 simp only [Bool.and_eq_true,decide_eq_true_eq] at h
 omega
theorem pk {l:List Expr} (hl:l.length≤1048576) (h:∀x∈l,TrE x):OkEs l:=⟨hl,fun e he=>Fd (by decide) (Tk (h e he).right).1,fun e he=>Nat.le_trans (Tk (h e he).right).2 (by decide),fun e he=>(h e he).rng⟩
theorem MvP.ok {m:Mov} (h:MvP m) {n:Nat} (hn:MvLe m n) (h1:n≤1000000):OkMov m:=
 ⟨by have:=hn.take;omega,fun s hs=>by have:=Tm (h.takes s hs);omega,⟨by have:=hn.give;omega,fun y hy=>by have:=Tm (h.gives y hy);omega⟩,by have:=hn.give;omega,pk (by have:=hn.ahead;omega) h.aheads,pk (by have:=hn.back;omega) h.backs⟩
end Go.SX.Nb
namespace Go.SX
variable [GI:GlobInv]
open Classical
/-- An object that no memory holds: what is told of a state behind an operation that surely panics. -/
def ji:AObj:=.cells 0 [.agg [.agg []]]
def bot (b:Bool):List AObj:=if b then [ji] else []
theorem xz {G:Gh} {w:World} {i:Nat}:¬ObjRel G w i ji:=fun h=>by
 obtain ⟨u,_,hr⟩:=I5 (y:=.agg [.agg []]) (j:=0) h rfl
 cases hr with
 | agg _ _ vs hn h1 _=>exact absurd (h1 _ (List.mem_singleton.2 rfl)) (by simp [AV.one])
section
variable {P:Program} {d:Nat}
theorem StRel.bot {G:Gh} {st:St} {a:Act} {w:World} (h:StRel d G st a w) (hb:ji∈st.own):False:=by
 obtain ⟨i,hi⟩:=List.getElem?_of_mem (List.mem_append_right st.up hb)
 exact xz (h.heap.obj i _ hi)
theorem P7 {b:Bool} {l:List AObj} (h:b=true):ji∈l++bot b:=by subst h;exact List.mem_append_right _ (List.mem_singleton.2 rfl)
variable {sz:Nat} {dfs:List Nat} {rnd:Option Nat} {l0:List Oper} {up own:(Nat→Bool)→List AObj} {KP:List PanicEntry→St→Prop} {E:List Oper→(Nat→AV)→Prop} {S:List SegY} {l:List Oper} {fr:Nat→AV} {ty:TypeId} {pos:String} {aft:Array Edge} {s:Nat} {T F:List Nat}
/-- What stands behind the operation that panics never runs. -/
theorem Y.bot {W:List Nat} {o:Oper} (hb:∀B:Nat→Bool,(∀p∈T,B p=true)→ji∈own B) (h:ChainY P d l0 sz up own dfs rnd KP E S l (G8 (W.map fun s=>(s,.any)) fr)) (hg:o.guard=none:=by rfl):
  ChainY P d l0 sz up own dfs rnd KP E (.s W none T F::S) (o::l) fr:=by
 refine ⟨_,l,W.map fun s=>(s,.any),rfl,⟨?_,hg,fun B f hT _ _ _ G a w hr=>?_⟩,h⟩
 ·simp [Function.comp_def]
 exact (StRel.bot hr (hb B hT)).elim
theorem Y.endBot {tn:List Nat} {Q:St→Prop} (hb:ji∈own (fun p=>decide (p<tn.length))):ChainY P d l0 sz up own dfs rnd KP (fun l' f=>ARun P d l0.toArray l' ⟨sz,f,up (fun p=>decide (p<tn.length)),own (fun p=>decide (p<tn.length)),dfs,rnd⟩ Q) [] l fr:=
 fun G a w hr=>(StRel.bot hr hb).elim
/-- A call that surely panics. -/
theorem Y.callBad {f0:Operand} {g:FuncId} {xs:List Operand} {ats:Array TypeId} {first caps args:List AV} {pn:Nat} {up0 own0:List AObj} {pp:Value→List AObj→Prop} (hcall:∀args w,(callFunc g args).run P w=.ok (.enter g args) w)
  (hU:∀B:Nat→Bool,B pn=false→up B=up0∧own B=own0) (hA:ACallP P g args (up0++own0) (fun _ _=>False) pp)
  (hpp:∀x U O f,U.length=up0.length→(U++O).length=(up0++own0).length→pp x (U++O)→((∀x∈up0,ObjLow U.length x)→∀x∈U,ObjLow U.length x)∧(∀o∈dfs,(up0++own0)[o]? = some .defs→(U++O)[o]? = some .defs)∧KP (Eu x) ⟨sz,f,U,O,dfs,rnd⟩)
  (h:ChainY P d l0 sz up own dfs rnd KP E S l (A6 s .any fr))
  (hf0:Ae fr f0=.fn (.func g) first caps:=by exact sL0) (ha:first++xs.map (Ae fr)++caps=args:=by exact sL0):
  ChainY P d l0 sz up own dfs rnd KP E (.s [s] (some pn) T F::S) (⟨some s,.call ⟨.value f0,xs.toArray,ats⟩,ty,pos,aft,none⟩::l) fr:=by
 refine ⟨_,l,[(s,.any)],rfl,⟨rfl,rfl,fun B f _ _ hB hf G a w hr=>?_⟩,h⟩
 obtain ⟨e1,e2⟩:=hU B (hB pn rfl)
 rw [e1,e2] at hr ⊢
 have e:first++xs.map (Ae f)++caps=args:=by rw [Ym hf (fun x hx=>by simp [Op.operands,Call.operands,hx])];exact ha
 have e0:Ae f f0=.fn (.func g) first caps:=by rw [agr hf (by simp [Op.operands,Call.operands])];exact hf0
 have hev:St.ev ⟨sz,f,up0,own0,dfs,rnd⟩ f0=.fn (.func g) first caps:=e0
 have hfr:=hev ▸ hr.eval f0
 generalize hfv:a.eval f0=fv at hfr
 cases hfr with
 | fn _ _ _ _ va vc hna hnc h1 h2 =>
  have hxr:=Il hr xs
  subst e
  refine O3 (by intro c h;cases h) (Hb hcall hfv) (hA d G w _ (by simp [hna,hnc]) (fun i y u hy hu=>?_) hr.heap hr.tags hr.top) ?_
  ·rw [List.append_assoc] at hy
   rw [Array.append_assoc] at hu
   rcases Nat.lt_or_ge i first.length with hi|hi
   ·rw [List.getElem?_append_left hi] at hy
    rw [Array.getElem?_append_left (by omega)] at hu
    exact (h1 i y u hy hu).lift
   rw [List.getElem?_append_right hi] at hy
   rw [Array.getElem?_append_right (by omega),hna] at hu
   rcases Nat.lt_or_ge (i-first.length) xs.length with hj|hj
   ·rw [List.getElem?_append_left (by simpa using hj)] at hy
    rw [Array.getElem?_append_left (by simpa using hj)] at hu
    exact (hxr _ y u hy hu).lift
   rw [List.getElem?_append_right (by simpa using hj)] at hy
   rw [Array.getElem?_append_right (by simpa using hj)] at hu
   simp only [List.length_map,List.size_toArray] at hy hu
   exact (h2 _ y u hy hu).lift
  rintro e w' (⟨v,G',y,H',rfl,hrep,hH,hT,hk,hlen,hpo⟩|⟨x,G',H',rfl,hH,hT,hk,hlen,hpo⟩)
  ·exact hpo.elim
  have hl':up0.length≤H'.length:=by rw [hlen];simp
  obtain ⟨U,hU'⟩:∃U,U=H'.take up0.length:=⟨_,rfl⟩
  obtain ⟨O,hO⟩:∃O,O=H'.drop up0.length:=⟨_,rfl⟩
  have e1':H'=U++O:=by rw [hU',hO];exact (List.take_append_drop _ _).symm
  have e2':U.length=up0.length:=by rw [hU'];simp;omega
  subst e1'
  obtain ⟨q1,q2,q3⟩:=hpp x U O f e2' hlen hpo
  have h3:=hr.called hH hT hk rfl e2' (fun o ho=>q2 o ho (hr.defsAt o ho)) (q1 (by rw [e2'];exact hr.low))
  exact .inr ⟨_,rfl,_,rfl,_,_,h3,hk.less (Nat.le_succ d),e2',rfl,rfl,rfl,q3⟩
/-- A panic, drawn. -/
theorem Y.panic {x:Operand} {t:TypeId} {vs:List Value} {pn:Nat} (hq:∀B:Nat→Bool,B pn=false→∀f,KP (Eu (.iface t (.agg vs.toArray))) ⟨sz,f,up B,own B,dfs,rnd⟩) (h:ChainY P d l0 sz up own dfs rnd KP E S l fr)
  (hx:Ae fr x=.iface t (.agg (vs.map .v)):=by exact sL0):
  ChainY P d l0 sz up own dfs rnd KP E (.s [] (some pn) T F::S) (⟨none,.panic x,ty,pos,aft,none⟩::l) fr:=by
 refine ⟨_,l,[],rfl,⟨rfl,rfl,fun B f _ _ hB hf G a w hr=>?_⟩,h⟩
 have hxr:=hr.eval x
 have hev:St.ev ⟨sz,f,up B,own B,dfs,rnd⟩ x=.iface t (.agg (vs.map .v)):=by
  show Ae f x=_
  rw [agr hf (by simp [Op.operands])];exact hx
 rw [hev] at hxr
 refine ⟨fun _ _=>trivial,?_⟩
 rw [Oper.semAt_eq _ _ _ (by intro c h;cases h)]
 have he:(execOp a.eval ⟨none,.panic x,ty,pos,aft,none⟩).run P w=.halt (.panic (.iface t (.agg vs.toArray))) w:=by
  show ((do let v ←Instr.panic (a.eval x);pure (.value v)):Sem Next).run P w=_
  rw [Pj hxr]
  rfl
 rw [he]
 exact ⟨_,rfl,G,_,hr,Keep.refl _ _ _,rfl,rfl,rfl,rfl,hq B (hB pn rfl) f⟩
theorem H1 {U O A B:List AObj} (hl:U.length=A.length) (h:U++O=A++B):A=U∧B=O:=List.append_inj h.symm hl.symm
theorem B4 {U O A B:List AObj} {o:Nat} {x:AObj} (hl:U.length=A.length) (ho:o<A.length) (h:U++O=(A++B).set o x):A.set o x=U∧B=O:=by
 rw [List.set_append_left _ _ ho] at h
 exact List.append_inj h.symm (by simpa using hl.symm)
end
section
variable {P:Program} {d:Nat} {ops:Array Oper}
/-- A call that surely panics. -/
theorem RK.callBad {sz s:Nat} {fr:Nat→AV} {up own:List AObj} {dfs:List Nat} {rnd:Option Nat} {ty:TypeId} {pos:String} {aft:Array Edge} {rest:List Oper} {K:Exit→St→Prop} {f:Operand} {g:FuncId} {xs:List Operand} {ats:Array TypeId} {first caps args:List AV} {pp:Value→List AObj→Prop}
  (hcall:∀args w,(callFunc g args).run P w=.ok (.enter g args) w) (h:ACallP P g args (up++own) (fun _ _=>False) pp)
  (hpp:∀x U O,U.length=up.length→(U++O).length=(up++own).length→pp x (U++O)→((∀x∈up,ObjLow U.length x)→∀x∈U,ObjLow U.length x)∧(∀o∈dfs,(up++own)[o]? = some .defs→(U++O)[o]? = some .defs)∧K (.panic (Eu x)) ⟨sz,fr,U,O,dfs,rnd⟩)
  (hf:Ae fr f=.fn (.func g) first caps:=by exact sL0) (ha:first++xs.map (Ae fr)++caps=args:=by exact sL0) (hs:Nat.blt s sz=true:=by rfl):
  ARunK P d ops (⟨some s,.call ⟨.value f,xs.toArray,ats⟩,ty,pos,aft,none⟩::rest) ⟨sz,fr,up,own,dfs,rnd⟩ K:=RK.callV hcall h (fun _ _ _ _ _ h=>h.elim) hpp hf ha hs
theorem AW.upEq {c:Code} {sz:Nat} {fr:Nat→AV} {up up' own:List AObj} {dfs:List Nat} {rnd:Option Nat} {K:Exit→St→Prop} (e:up=up') (h:AW P d c ⟨sz,fr,up',own,dfs,rnd⟩ K):AW P d c ⟨sz,fr,up,own,dfs,rnd⟩ K:=e ▸ h
end
end Go.SX
namespace Go.SX
variable [GI:GlobInv]
open Classical
section
variable {P:Program} {d:Nat} {st:St} {ty:TypeId} {pos:String} {aft:Array Edge} {gd:Option (Nat×Bool)}
/-- A variable of its own, not laid yet. -/
theorem AOp.allocP {t:TypeId} {z:Value} {k s:Nat} (hz:∀w,(zeroValue t).run P w=.ok z w) (hk:z.cells.size=k) (hs:s<st.sz):
  AOp P d ⟨some s,.alloc t,ty,pos,aft,gd⟩ st (·=st.set s (.cellp k)):=by
 subst hk
 intro G a w h Q'
 let G':Gh:={ G with tag:=fun b o=>if b=w.heap.size∧o<z.cells.size then .tail (.slot d s) else G.tag b o }
 have hfree:∀o,G.tag w.heap.size o=.free:=fun o=>Dh h.tags _ o (Nat.le_refl _)
 have hne:∀b o,G.tag b o≠.free→¬(b=w.heap.size∧o<z.cells.size):=fun b o hb hc=>by rw [hc.1] at hb;exact hb (hfree o)
 have hkeep:∀b o,G.tag b o≠.free→G'.tag b o=G.tag b o:=fun b o hb=>by simp only [G'];rw [if_neg (hne b o hb)]
 have hcell:∀b o,G.tag b o≠.free→(w.alloc (.cells z.cells t)).cell? ⟨b,o,none⟩=w.cell? ⟨b,o,none⟩:=fun b o hb=>by
  refine World.cell?_alloc_old _ _ _ ?_
  show b≠w.heap.size
  rintro rfl
  exact hb (hfree o)
 have T:Turn G w G' (w.alloc (.cells z.cells t)):=by
  refine ⟨fun b o hb=>⟨by rw [hkeep b o (by rw [hb];simp)];exact hb,hcell b o (by rw [hb];simp)⟩,fun b o L hb=>by rw [hkeep b o (by rw [hb];simp)];exact hb,fun b o i hb=>by rw [hkeep b o (by rw [hb];simp)];exact hb,Nat.le_refl _,fun o ho=>rfl,rfl,rfl,rfl,by simp,Still.alloc _ (fun b o hb=>.inl (by simp only [G'];rw [if_neg (by omega)])) (fun i hi=>.inl ⟨hi,rfl⟩)⟩
 have h1:StRel d G' st a (w.alloc (.cells z.cells t)):=by
  refine h.turn (U:=st.up) (O:=st.own) T ⟨fun i x hx=>T.objRel ?_ ?_ (h.heap.obj i x hx) (fun b hb=>?_),h.heap.n,h.heap.inj⟩ rfl h.defsAt ⟨fun b o hb=>?_,fun b o i hb=>?_,fun b o L hb=>?_,h.tags.globKeep T.old⟩ h.low
  ·rw [h.heap.n];exact (List.getElem?_eq_some_iff.1 hx).1
  ·have:=(h.heap.obj i x hx).blt
   show (w.heap.push _)[G.blk i]? = _
   rw [Array.getElem?_push,if_neg (by omega)]
  ·have:=hb.lt
   show (w.heap.push _)[b]? = _
   rw [Array.getElem?_push,if_neg (by omega)]
  ·simp only [G'] at hb
   split at hb
   ·rename_i hc
    obtain ⟨rfl,hlt⟩:=hc
    exact ⟨z.cells[o],by rw [World.cell?_alloc_new];exact Array.getElem?_eq_getElem hlt⟩
   rw [hcell b o hb]
   exact h.tags.ex b o hb
  ·simp only [G'] at hb
   split at hb
   ·cases hb
   rw [World.frozen?_alloc_old]
   ·exact h.tags.obj b o i hb
   show b≠w.heap.size
   rintro rfl
   rw [hfree] at hb;cases hb
  simp only [G'] at hb
  split at hb
  ·rename_i hc
   obtain ⟨rfl,hlt⟩:=hc
   exact World.frozen?_alloc_new _ _ _ _
  rw [World.frozen?_alloc_old]
  ·exact h.tags.tail b o L hb
  show b≠w.heap.size
  rintro rfl
  rw [hfree] at hb;cases hb
 have hrun:(execOp a.eval (⟨some s,.alloc t,ty,pos,aft,gd⟩:Oper)).run P w=.ok (.value (.pointer (some ⟨w.heap.size,0,none⟩))) (w.alloc (.cells z.cells t)):=by
  simp [execOp,Instr.alloc,hz,newVar,newRow]
 refine Bp (by intro c h;cases h) hrun ⟨G',_,h1.put (s:=s) (y:=.cellp z.cells.size) hs ?_,T.keep d,rfl,rfl,rfl,rfl⟩
 exact .cellp _ _ _ ⟨_,rfl,fun o ho=>by simp [G',ho]⟩

/-- It is laid: from now on nobody writes it. -/
theorem AOp.storeP {t:TypeId} {x:Operand} {r k:Nat} {y:AV} (hsz:∀w,(sizeOf t).run P w=.ok k w) (hf:st.fr r=.cellp k) (hx:st.ev x=y) (hk:y.cells.length=k) (hk0:0<k) (h1:y.cells.all AV.one=true):
  AOp P d ⟨none,.store t (.tmp r) x,ty,pos,aft,gd⟩ st (·=st.set r (.ro y.cells)):=by
 intro G a w h Q'
 have hone:∀c∈y.cells,c.one=true:=fun c hc=>List.all_eq_true.1 h1 c hc
 obtain ⟨hc,hcc⟩:=(hx ▸ h.eval x).cells hone
 have hsl:=h.slots r
 rw [hf] at hsl
 generalize hv:a.tmps.getD r undef=v at hsl
 cases hsl with
 | cellp l k b ho =>
  obtain ⟨L,hL,ht⟩:=ho
  injection hL with hL
  subst hL
  let us:=(a.eval x).cells.toList
  have hul:us.length=k:=by simp only [us,Array.length_toList];omega
  have huone:∀u∈us,u.oneCell'=true:=fun u hu=>by
   obtain ⟨j,hj⟩:=List.getElem?_of_mem hu
   have hj':(a.eval x).cells[j]? = some u:=by rw [←Array.getElem?_toList];exact hj
   have hlt:j<y.cells.length:=by rw [←hc];exact (Array.getElem?_eq_some_iff.1 hj').1
   exact (hcc j _ u (List.getElem?_eq_getElem hlt) hj').one (hone _ (List.getElem_mem hlt))
  have hrun0:=run_storeCells_cells (P:=P) b 0 us 0 w (fun j hj=>by
    obtain ⟨u,hu⟩:=h.tags.ex b j (by rw [ht j (by omega)];simp)
    simp only [Nat.add_zero,Nat.zero_add];rw [hu];rfl) (fun j hj=>by simpa using h.tags.tail _ _ _ (ht j (by omega))) huone
  simp only [Nat.add_zero] at hrun0
  let W:=w.setCells b 0 us
  let G':Gh:={ G with tag:=fun b' o=>if b'=b∧o<k then .fix else G.tag b' o }
  have htag:∀b' o,G.tag b' o≠.tail (.slot d r)→G'.tag b' o=G.tag b' o:=fun b' o hb=>by
   simp only [G']
   rw [if_neg]
   rintro ⟨rfl,ho⟩
   exact hb (ht o ho)
  have hout:∀b' o,¬(b'=b∧o<k)→W.cell? ⟨b',o,none⟩=w.cell? ⟨b',o,none⟩:=fun b' o hn =>
   World.cell?_setCells_out _ us 0 w ⟨b',o,none⟩ (fun hb _=>by
    simp only at hb ⊢
    exact .inr (Nat.le_of_not_lt fun h''=>hn ⟨hb,by omega⟩))
  have hcell:∀b' o,G.tag b' o≠.tail (.slot d r)→W.cell? ⟨b',o,none⟩=w.cell? ⟨b',o,none⟩:=fun b' o hb=>hout b' o (fun hn=>hb (by rw [hn.1];exact ht o hn.2))
  have hnb:∀i,i<G.n→G.blk i≠b:=J4 h.heap h.tags (ht 0 hk0)
  have hheap:∀b',b'≠b→W.heap[b']? = w.heap[b']? := fun b' hb=>C1 _ _ _ _ _ hb
  have hsize:W.heap.size=w.heap.size:=C0 _ _ _ _
  have hstill:Still G w G' W:=Still.tags (fun b' hb'=>hheap b' (fun e=>Gl (ht 0 hk0) (e ▸ hb'))) (Nat.le_of_eq hsize.symm) (fun b' o _=>by
   by_cases hc:b'=b∧o<k
   ·exact .inr ⟨_,by rw [hc.1];exact ht o hc.2⟩
   exact .inl (by simp only [G'];rw [if_neg hc])) (fun i hi=>.inl ⟨hi,rfl⟩)
  have hfix:∀b' o,G.tag b' o=.fix→G'.tag b' o=.fix∧W.cell? ⟨b',o,none⟩=w.cell? ⟨b',o,none⟩:=fun b' o hb=>⟨by rw [htag b' o (by rw [hb];simp)];exact hb,hcell b' o (by rw [hb];simp)⟩
  have htail:∀b' o L,L≠.slot d r→G.tag b' o=.tail L→G'.tag b' o=.tail L:=fun b' o L hL hb=>by
   rw [htag b' o (by rw [hb];intro e;injection e with e;exact hL e)];exact hb
  have hobj:∀b' o i,G.tag b' o=.obj i→G'.tag b' o=.obj i:=fun b' o i hb=>by rw [htag b' o (by rw [hb];simp)];exact hb
  have hrep:∀{l:Option Loc} {z:AV} {u:Value},l≠some (.slot d r)→Rep G w l z u→Rep G' W l z u:=fun hl hz =>
   hz.mono (G':=G') hfix (Nat.le_refl _) (fun _ _=>rfl) (fun L hL b' o ht'=>htail b' o L (fun e=>hl (by rw [hL,e])) ht')
  have hkeep:Keep d G w G' W:=⟨hfix,fun b' o e s he ht'=>htail b' o _ (by rintro ⟨⟩;omega) ht',Nat.le_refl _,fun _ _=>rfl,E9 _ _ _ _,Dl _ _ _ _,Co _ _ _ _,Nat.le_of_eq hsize.symm,hstill⟩
  have hvec:∀j u,us[j]? = some u→W.cell? ⟨b,j,none⟩=some u:=fun j u hu=>by
   have hj:=(List.getElem?_eq_some_iff.1 hu).1
   have hex:∃u',w.cell? ⟨b,j,none⟩=some u':=h.tags.ex b j (by rw [ht j (by omega)];simp)
   obtain ⟨u',hu'⟩:=hex
   have hbk:∃vs e fz,w.heap[b]? = some (.cells vs e fz):=by
    simp only [World.cell?] at hu'
    split at hu'
    ·rename_i vs e fz hb;exact ⟨vs,e,fz,hb⟩
    cases hu'
   obtain ⟨vs,e,fz,hbk⟩:=hbk
   have hlen:0+us.length≤vs.size:=by
    rw [hul,Nat.zero_add]
    rcases Nat.lt_or_ge vs.size k with h'|h'
    ·exfalso
     obtain ⟨u2,hu2⟩:=h.tags.ex b vs.size (by rw [ht _ h'];simp)
     simp [World.cell?,hbk] at hu2
    exact h'
   obtain ⟨vs',b1,b2,b3⟩:=Ha b e fz us 0 w vs hbk hlen
   have b3':=b3 j
   rw [if_pos (by omega)] at b3'
   show (w.setCells b 0 us).cell? ⟨b,j,none⟩=some u
   simp only [World.cell?,b1]
   rw [b3',Nat.sub_zero]
   exact hu
  have hst:StRel d G' (st.set r (.ro y.cells)) a W:=by
   refine ⟨h.size,fun s=>?_,⟨fun i z hz=>?_,h.heap.n,h.heap.inj⟩,h.defs,h.defsAt,h.defsNodup,h.defsGe,⟨fun b' o hb=>?_,fun b' o i hb=>?_,fun b' o L hb=>?_,h.tags.globKeep hstill⟩,h.rnd,h.low,h.top⟩
   ·show Rep G' W _ (A6 r (.ro y.cells) st.fr s) _
    unfold A6
    by_cases hs:s=r
    ·subst hs
     rw [if_pos rfl,hv]
     refine .ro _ _ ⟨b,0,none⟩ (fun j=>(a.eval x).cells.getD j undef) rfl hone (fun j c hj=>?_) (fun j c hj=>?_)
     all_goals
      have hlt:j<y.cells.length:=(List.getElem?_eq_some_iff.1 hj).1
      have hu:(a.eval x).cells[j]? = some ((a.eval x).cells[j]'(by omega)):=Array.getElem?_eq_getElem _
      have e1:(a.eval x).cells.getD j undef=(a.eval x).cells[j]'(by omega):=by rw [Array.getD_eq_getD_getElem?,hu];rfl
      rw [e1]
     ·refine ⟨by simp only [G',Nat.zero_add];rw [if_pos ⟨trivial,by omega⟩],?_⟩
      rw [Nat.zero_add]
      exact hvec j _ (by simp only [us];rw [Array.getElem?_toList];exact hu)
     exact hrep (by simp) (hcc j c _ hj hu)
    rw [if_neg hs]
    exact hrep (by simp;exact fun e=>hs e) (h.slots s)
   ·have hob:=h.heap.obj i z hz
    have hi:i<G.n:=by rw [h.heap.n];exact (List.getElem?_eq_some_iff.1 hz).1
    have hb:=hheap (G.blk i) (hnb i hi)
    cases z with
    | cells t cs =>
     obtain ⟨vs,a1,a2,a3,a4⟩:=hob
     exact ⟨vs,hb.trans a1,a2,fun j y u p q=>hrep (by simp) (a3 j y u p q),fun j hj=>hobj _ _ _ (a4 j hj)⟩
    | loop sta pd fr sz ps asg bd df =>
     obtain ⟨fn,tmps,a1,a2,a3,a4⟩:=hob
     exact ⟨fn,tmps,hb.trans a1,a2,fun s=>hrep (by simp) (a3 s),a4⟩
    | defs=>exact hb.trans hob
    | dead=>exact hb.trans hob
    | bld t e bs=>exact BldRel.turn hob rfl (fun b' o ho=>hobj b' o i ho) hb (fun b' ha=>hheap b' (fun e=>by
      have:=ha.tag h.tags (o:=0) (by rw [e,ht 0 hk0];simp)
      rw [e,ht 0 hk0] at this;cases this))
    | gone =>
     obtain ⟨vs,t,fz,a1,a2⟩:=hob
     exact ⟨vs,t,fz,hb.trans a1,fun j hj=>(hfix _ _ (a2 j hj)).1⟩
   ·by_cases hc:b'=b∧o<k
    ·obtain ⟨rfl,ho⟩:=hc
     exact ⟨us[o]'(by omega),hvec o _ (List.getElem?_eq_getElem _)⟩
    rw [hout b' o hc]
    simp only [G',if_neg hc] at hb
    exact h.tags.ex b' o hb
   ·rw [World.frozen?_setCells]
    simp only [G'] at hb
    split at hb
    ·cases hb
    exact h.tags.obj b' o i hb
   rw [World.frozen?_setCells]
   simp only [G'] at hb
   split at hb
   ·cases hb
   exact h.tags.tail b' o L hb
  have hrun:(execOp a.eval (⟨none,.store t (.tmp r) x,ty,pos,aft,gd⟩:Oper)).run P w=.ok .skip W:=
   Ea hsz (show a.eval (.tmp r)=_ from hv) (by omega) hrun0
  exact Eg (by intro c h;cases h) hrun ⟨G',_,hst,hkeep,rfl,rfl,rfl,rfl⟩
end
section
variable {P:Program} {d:Nat} {sz:Nat} {dfs:List Nat} {rnd:Option Nat} {l0:List Oper} {up own:(Nat→Bool)→List AObj} {KP:List PanicEntry→St→Prop} {E:List Oper→(Nat→AV)→Prop} {S:List SegY} {l:List Oper} {fr:Nat→AV} {ty:TypeId} {pos:String} {aft:Array Edge} {s:Nat} {T F:List Nat}
theorem Y.allocP {t:TypeId} {z:Value} {k:Nat} (hz:∀w,(zeroValue t).run P w=.ok z w) (h:ChainY P d l0 sz up own dfs rnd KP E S l (A6 s (.cellp k) fr)) (hk:z.cells.size=k:=by rfl) (hs:Nat.blt s sz=true:=by rfl):
  ChainY P d l0 sz up own dfs rnd KP E (.s [s] none T F::S) (⟨some s,.alloc t,ty,pos,aft,none⟩::l) fr:=by
 refine ⟨_,l,[(s,.cellp k)],rfl,⟨rfl,rfl,fun B f _ _ _ hf=>.of ?_⟩,h⟩
 exact AOp.allocP (st:=⟨sz,f,up B,own B,dfs,rnd⟩) hz hk (by simpa using hs)
theorem Y.storeP {t:TypeId} {x:Operand} {r k:Nat} {y:AV} {ys:List AV} (hsz:∀w,(Go.sizeOf t).run P w=.ok k w) (h:ChainY P d l0 sz up own dfs rnd KP E S l (A6 r (.ro ys) fr))
  (hf:fr r=.cellp k:=by exact sL0) (hx:Ae fr x=y:=by exact sL0) (hc:y.cells=ys:=by exact sL0)
  (hk:ys.length=k:=by rfl) (hk0:0<k:=by decide) (h1:ys.all AV.one=true:=by exact sL2):
  ChainY P d l0 sz up own dfs rnd KP E (.s [r] none T F::S) (⟨none,.store t (.tmp r) x,ty,pos,aft,none⟩::l) fr:=by
 subst hc
 refine ⟨_,l,[(r,.ro y.cells)],rfl,⟨rfl,rfl,fun B f _ _ _ hfr=>.of ?_⟩,h⟩
 have e:f r=fr r:=hfr r (by simp [lk,Pb,Op.operands])
 have ex:Ae f x=y:=by rw [agr hfr (by simp [Op.operands])];exact hx
 exact AOp.storeP (st:=⟨sz,f,up B,own B,dfs,rnd⟩) hsz (e.trans hf) ex hk hk0 h1
end
end Go.SX
