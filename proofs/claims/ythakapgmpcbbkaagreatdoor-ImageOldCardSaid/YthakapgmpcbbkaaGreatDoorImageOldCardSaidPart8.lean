/- Texts on the way to this: ImageOld answers true for whatever it is handed: of any row over the columns behind that has an old row: that one comes forth as it, and again as itself by every further go (up to 50 columns and values, 12 moves). (part 8) -/
import Derived.Lib.ParseIntBTie
import Derived.Shelf.Strings.Builder1
import Derived.Lib.ItoaLen
import Derived.Test.YthakapgmpcbbkaaGreatDoorImageOldCardSaidPart7
set_option linter.all false
namespace Go.SX.Nb
open Go Go.SX Go.Proofs
variable [ErrAt]
set_option maxRecDepth 4000
theorem c35 (l:List Col) (hl:l.length≤1000000) (Hp:List AObj):AFun Tryz.prog 35 [Ac l] Hp (Ac l):=by
 refine ACall.body [.tmp 2] [0] Tryz.func35 Tryz.ntmps35 (fun d=>?_)
 refine Z48 ?_;refine Z36 ?_
 refine R.eqlNil jU (by kernel_rfl) (fun b hb=>?_)
 refine R.fin [0,4] ?_
 refine W.cond (fun ht4=>?_) (fun ht4=>?_)
 ·have hl0:l=[]:=by simpa using hb ht4
  subst hl0
  refine Z2 ?_;refine R.nilTmp 2 2 false ?_;refine Z4 ?_;exact xq
 refine Y3 ?_;refine Kz ?_;refine R.go ?_
 refine R.append jU Tryz.type48 ?_ ?_ ?_
 ·simp [Tryz.t48];omega
 ·simp [Tryz.t48];omega
 refine R.assignT ?_;exact xv

theorem mh {Hp:List AObj} {y:Col} {n:Nat} (h:∀x∈Hp,ObjLow Hp.length x):∀x∈Hp++[AObj.cells 48 [],AObj.cells 48 (A9 y.name::A2 y.kind::List.replicate n AV.any)],ObjLow (Hp.length+2) x:=by
 intro x hx
 rcases List.mem_append.1 hx with hx|hx
 ·exact ObjLow.le (by omega) (h x hx)
 simp only [List.mem_cons,List.mem_nil_iff,or_false] at hx
 rcases hx with rfl|rfl
 ·intro z hz;cases hz
 intro z hz
 simp only [List.mem_cons] at hz
 rcases hz with rfl|rfl|hz
 ·simp
 ·simp
 rw [List.eq_of_mem_replicate hz];simp
theorem ABa (y:Col) (Hp:List AObj):ACallO Tryz.prog 35 [Ac [y]] Hp (fun r H'=>∃cc,1≤cc∧r=.sl (oid Hp.length 1) 2 1 cc∧H'=Hp++[.cells 48 [],.cells 48 (A9 y.name::A2 y.kind::List.replicate ((cc-1)*2) AV.any)]):=by
 refine ACallO.body [.tmp 2] [0] Tryz.func35 Tryz.ntmps35 (fun d=>?_)
 refine Z48 ?_;refine Z67 ?_
 refine R.assumeLow (fun hlow=>?_)
 refine R.go ?_
 refine R.eqlNil jU (by kernel_rfl) (fun b hb=>?_)
 refine R.fin [0,4] ?_
 refine W.cond (fun ht4=>?_) (fun ht4=>?_)
 ·exact absurd (hb ht4) (by simp)
 refine Y3 ?_;refine R.buildObj0 (n:=0) jU Tryz.sizeOf48 ?_;refine R.go ?_
 refine R.appendObj (k:=2) (n:=1) jU Tryz.type48 (show [Av y]≠[] by simp) ?_ ?_ (fun cc hcc=>?_)
 ·simp [Tryz.t48]
 ·simp
 have e0:Iz [Av y]++List.replicate ((cc-[Av y].length)*2) AV.any=A9 y.name::A2 y.kind::List.replicate ((cc-1)*2) AV.any:=rfl
 rw [e0]
 clear e0
 refine R.go ?_;refine Z4 ?_;exact K.finO 2 (V.tmp (t:=2)) ⟨cc,hcc,rfl,rfl⟩ (hlow:=by simp [oid]) (hobj:=mh hlow)

theorem zg (c:List Col) (hc:OkCols c) (m:Mov) (h:OkMov m) (h3:(m.kind==3)=false) (Hp:List AObj):AFun Tryz.prog 80 [Ac c,Eg m] Hp (Ac (B7 c m)):=by
 refine ACall.body [.tmp 4] [0,1] Tryz.func80 Tryz.ntmps80 (fun d=>?_)
 refine jp ?_;refine Z1 ?_;refine R.call Tryz.call35 (c35 m.give h.gives2 _) ?_;refine R.go ?_;refine R.fin [0,3,5] ?_;refine Z31 ?_;refine R.fin [0,3,5,12] ?_
 refine W.cond (fun ht12=>?_) (fun ht12=>?_)
 ·rw [h3] at ht12;cases ht12
 refine Re ?_;refine Z21 ?_;exact K.fin (V.one V.tmp) ⟨by rw [rc h3]<;>rfl,rfl⟩

theorem zh (c:List Col) (hc:OkCols c) (m:Mov) (h:OkMov m) (h3:(m.kind==3)=true) (s:Str) (y:Col) (ht:m.take=[s]) (hg:m.give=[y]) (Hp:List AObj):AFun Tryz.prog 80 [Ac c,Eg m] Hp (Ac (B7 c m)):=by
 have hgv:=rd (c:=c) h3 ht hg
 have hgy:=mf (c:=c) h3 ht hg
 obtain ⟨kd,tk,gv,ah,bk⟩:=m
 simp only at ht hg h3
 subst ht hg
 refine ACall.body [.tmp 4] [0,1] Tryz.func80 Tryz.ntmps80 (fun d=>?_)
 refine jp ?_;refine Z1 ?_;refine R.callO Tryz.call35 (ABa y _) ?_
 rintro _ _ ⟨cc,hcc,rfl,rfl⟩
 refine ⟨[.cells 48 [],.cells 48 (A9 y.name::A2 y.kind::List.replicate ((cc-1)*2) AV.any)],by simp,?_⟩
 simp only [List.append_nil,List.nil_append]
 refine R.go ?_;refine R.fin [0,3,5] ?_;refine Z31 ?_;refine R.fin [0,3,5,12] ?_
 refine W.cond (fun ht12=>?_) (fun ht12=>?_)
 ·refine Z13 ?_
  refine R.go (h:=Q.indexAddr (0) (A9 s) (fun _=>rfl)) (hr:=?_)
  refine R.go ?_;refine R.call Tryz.call58 (c58 c hc s _) ?_;refine R.go ?_;refine R.fin [0,5,6] ?_;refine Z1 ?_;refine R.fin [0,5,6,20] ?_
  refine W.cond (fun ht20=>?_) (fun ht20=>?_)
  ·have hf:¬B0 s c<0:=by simp at ht20;omega
   obtain ⟨jj,hjj,hjc⟩:=Jt hf
   refine Z59 ?_
   refine R.go (h:=Q.indexAddr ((B0 s c).toNat) (Av (c.getD (B0 s c).toNat ⟨[],0⟩)) (fun _=>br hf)) (hr:=?_)
   refine Z0 ?_;refine R.indexAddrSl (n:=1) 0 jU Tryz.sizeOf48 (by decide) ?_
   refine R.go (h:=Q.fieldAddrPtr (hc:=rfl)) (hr:=?_)
   refine R.storeOwn (y:=A2 (c.getD (B0 s c).toNat ⟨[],0⟩).kind) (ys:=[A2 (c.getD (B0 s c).toNat ⟨[],0⟩).kind]) (n:=1) (cs:=A9 y.name::A2 y.kind::List.replicate ((cc-1)*2) AV.any) (cs':=A9 y.name::A2 (c.getD (B0 s c).toNat ⟨[],0⟩).kind::List.replicate ((cc-1)*2) AV.any) (t':=48) jS ?_ (hc:=rfl) (hput:=rfl) (hfit:=by simp)
   refine R.fin [5] ?_;refine K.thN ?_;refine Cu ?_;refine R.freeze (k:=2) (n:=1) 5 1 [Av ⟨y.name,(c.getD (B0 s c).toNat ⟨[],0⟩).kind⟩] hcc rfl rfl (Wp [⟨y.name,(c.getD (B0 s c).toNat ⟨[],0⟩).kind⟩]) (Wq [⟨y.name,(c.getD (B0 s c).toNat ⟨[],0⟩).kind⟩]) (Qn [⟨y.name,(c.getD (B0 s c).toNat ⟨[],0⟩).kind⟩]) ?_;refine Z0 ?_;exact wx
  have hf:B0 s c<0:=by simp at ht20;omega
  refine Y3 ?_;refine R.freeze (k:=2) (n:=1) 5 1 [Av ⟨y.name,y.kind⟩] hcc rfl rfl (Wp [⟨y.name,y.kind⟩]) (Wq [⟨y.name,y.kind⟩]) (Qn [⟨y.name,y.kind⟩]) ?_;refine Z0 ?_;exact wx
 rw [h3] at ht12;cases ht12

/-- What a move must have before it is turned. -/
structure MvOk (m:Mov):Prop where
 ok:OkMov m
 ahead:m.ahead.length=m.give.length
 back:m.back.length=m.take.length
 one:(m.kind==3)=true→m.take.length=1∧m.give.length=1
theorem re {m:Mov} (h:OkMov m) (hc:D4 m=true):MvOk m:=⟨h,(Fi hc).1,(Fi hc).2,fun h3=>Qm hc (by rw [h3];rfl)⟩
theorem c80 (c:List Col) (hc:OkCols c) (m:Mov) (h:MvOk m) (Hp:List AObj):AFun Tryz.prog 80 [Ac c,Eg m] Hp (Ac (B7 c m)):=by
 cases h3:m.kind==3 with
 | false=>exact zg c hc m h.ok h3 Hp
 | true =>
  obtain ⟨h1,h2⟩:=h.one h3
  obtain ⟨s,hs⟩:=mg h1
  obtain ⟨y,hy⟩:=mg h2
  exact zh c hc m h.ok h3 s y hs hy Hp
theorem Wr {c:List Col} {m:Mov} (h:OkMov m):OkCols (B7 c m):=by
 refine ⟨by rw [I5];exact Nat.le_trans h.gives2 (by decide),fun y hy=>?_⟩
 unfold B7 at hy
 split at hy
 ·split at hy
  ·exact h.gives.2 y hy
  cases hg:m.give with
  | nil=>rw [hg] at hy;cases hy
  | cons z r =>
   rw [hg] at hy
   rcases List.mem_cons.1 hy with rfl|hy
   ·exact h.gives.2 z (by rw [hg];exact List.mem_cons_self)
   exact h.gives.2 y (by rw [hg];exact List.mem_cons_of_mem _ hy)
 exact h.gives.2 y hy
theorem Ws {c give:List Col} {take:List Str} (hc:OkCols c) (hg:OkCols give) (hg2:give.length≤1000000):OkCols (Ce c take give).1:=by
 have h0:OkCols ([]:List Col):=⟨by decide,fun y hy=>by cases hy⟩
 unfold Ce
 split
 ·exact h0
 rename_i hr
 split
 ·exact h0
 split
 ·exact h0
 split
 ·exact h0
 split
 ·exact h0
 exact ll hc (by simpa using hr) hg hg2 rfl
theorem Zi {c give:List Col} {take:List Str} (h:((Ce c take give).2 != 0)=false):∀s∈take,¬B0 s c<0:=by
 have ht:F0 c take=true:=by
  unfold Ce at h
  split at h
  ·cases h
  split at h
  ·cases h
  rename_i ht
  simpa using ht
 intro s hs hf
 obtain ⟨j,hj⟩:=List.getElem?_of_mem hs
 have:=takenM_true.1 ht j s hj
 unfold Kd at this
 rw [show decide (B0 s c<0)=true by simpa using hf] at this
 simp at this
theorem g7 {over:List Col} {l:List Expr} {w:List Col} {x:Nat} (hl:x<l.length) (hw:x<w.length):
  Cz over (l.drop x) (w.drop x)=if Uf l[x] over w[x].kind != 0 then Uf l[x] over w[x].kind else Cz over (l.drop (x+1)) (w.drop (x+1)):=by
 rw [List.drop_eq_getElem_cons hl,List.drop_eq_getElem_cons hw]
 rfl
theorem mi {over:List Col} {l:List Expr} {w:List Col} {x:Nat} (hl:l.length≤x):Cz over (l.drop x) (w.drop x)=0:=by
 rw [List.drop_eq_nil_of_le hl]
 cases w.drop x<;>rfl
theorem Sr {α β:Type} {f:α→β} {l:List α} {x:Nat} (h:x<l.length):(l.take (x+1)).map f=(l.take x).map f++[f l[x]]:=by
 rw [List.take_succ_eq_append_getElem h,List.map_append];rfl
theorem rf {c:List Col} {m:Mov} (h:((Ce c m.take (B7 c m)).2 != 0)=true):Bf c m=([],(Ce c m.take (B7 c m)).2):=if_pos h
theorem rg {c:List Col} {m:Mov} (h:((Ce c m.take (B7 c m)).2 != 0)=false) (h2:(Cz c m.ahead (B7 c m) != 0)=true):Bf c m=([],Cz c m.ahead (B7 c m)):=by
 unfold Bf;rw [if_neg (by rw [h];simp),if_pos h2]
theorem rh {c:List Col} {m:Mov} (h:((Ce c m.take (B7 c m)).2 != 0)=false) (h2:(Cz c m.ahead (B7 c m) != 0)=false) (h3:(Cz (Ce c m.take (B7 c m)).1 m.back (Is c m) != 0)=true):Bf c m=([],Cz (Ce c m.take (B7 c m)).1 m.back (Is c m)):=by
 unfold Bf;rw [if_neg (by rw [h];simp),if_neg (by rw [h2];simp),if_pos h3]
theorem ri {c:List Col} {m:Mov} (h:((Ce c m.take (B7 c m)).2 != 0)=false) (h2:(Cz c m.ahead (B7 c m) != 0)=false) (h3:(Cz (Ce c m.take (B7 c m)).1 m.back (Is c m) != 0)=false):Bf c m=((Ce c m.take (B7 c m)).1,0):=by
 unfold Bf;rw [if_neg (by rw [h];simp),if_neg (by rw [h2];simp),if_neg (by rw [h3];simp)]
theorem c82 (l:List Expr) (h:OkEs l) (w:List Col) (hw:w.length=l.length) (c:List Col) (hc:OkCols c) (Hp:List AObj):AFun Tryz.prog 82 [Ht l,Ac w,Ac c] Hp (A2 (Cz c l w)):=by
 refine ACall.body [.tmp 6] [0,1,2] Tryz.func82 Tryz.ntmps82 (fun d=>?_)
 refine jl ?_;refine Z31 ?_;refine R.fin [1,2,11,12,13] ?_
 refine AW.loopC (α:=Nat) (fun x=>⟨37,A3 1 (Ac w) (A3 2 (Ac c) (A3 11 (Ht l) (A3 12 (A2 (l.length:Nat)) (A3 13 (A2 (x:Nat)) (fun _=>.any))))),Hp,[],[],none⟩) (fun x=>x≤l.length∧Cz c l w=Cz c (l.drop x) (w.drop x)) (fun x=>l.length-x) (0) ⟨Nat.zero_le _,rfl⟩ (StLe.of_eq (by simp)) rfl (fun x hx=>?_)
 refine Z2 ?_;refine R.fin [1,2,11,12,13,14] ?_
 refine W.condX (fun ht14=>?_) (fun ht14=>?_)
 ·have hlt:x<l.length:=by simpa using ht14
  have hlw:x<w.length:=by omega
  have hlen:=h.len
  have hst:=g7 (over:=c) hlt hlw
  refine Lp ?_
  refine R.go (h:=Q.indexAddr (x) (A5 l[x]) (fun _=>Am hlt)) (hr:=?_)
  refine Y5 ?_;refine R.fin [1,2,7,8,11,12,13] ?_;refine Z22 ?_;refine R.call Tryz.call116 (zf 61 l[x] (h.ok _ (List.getElem_mem hlt)) (by decide) c hc _) ?_;refine Z64 ?_;refine R.fin [1,2,7,8,10,11,12,13] ?_;refine Z1 ?_;refine R.fin [1,2,7,8,10,11,12,13,25] ?_
  refine W.cond (fun ht25=>?_) (fun ht25=>?_)
  ·have he:Uf l[x] c w[x].kind=(Jr l[x] c).2:=if_pos ht25
   have hm:Cz c l w=(Jr l[x] c).2:=by rw [hx.2,hst,he,if_pos ht25]
   refine Z1 ?_;refine Z43 ?_;refine K.thR ?_;exact Z93
  refine Z6 ?_;refine W.drawQ [0,0,0,0,12,28,60,127,255] 7 Aa (by kernel_rfl) ?_;refine Ol ?_
  refine D.go (h:=Q.indexAddr (x) (Av w[x]) (fun _=>Am hlw)) (hr:=?_)
  refine Z76 ?_;refine R.call Tryz.call117 (AB9 61 l[x] (h.ok _ (List.getElem_mem hlt)) (by decide) c hc w[x].kind _) ?_;refine R.go ?_;refine R.fin [1,2,11,12,13,35] ?_
  refine W.cond (fun ht35=>?_) (fun ht35=>?_)
  ·have he:Uf l[x] c w[x].kind=10:=by unfold Uf;rw [if_neg (by rw [ht25];simp),if_pos ht35]
   have hm:Cz c l w=10:=by rw [hx.2,hst,he];rfl
   refine Rc ?_;exact Z93
  have he:Uf l[x] c w[x].kind=0:=by unfold Uf;rw [if_neg (by rw [ht25];simp),if_neg (by rw [ht35];simp)]
  have hnx:Cz c l w=Cz c (l.drop (x+1)) (w.drop (x+1)):=by rw [hx.2,hst,he];rfl
  refine Z72 ?_;refine R.fin [1,2,11,12,13] ?_;refine K.lpN (x+1) ⟨hlt,hnx⟩ (by omega) ?_
  exact StCut.take (own:=[]) (fun _=>.refl _) (by repeat (first|exact Ap|refine Ao (by first|(simp [or_imp,forall_and];done)|exact Da) ?_)) (by simp) (by simp)
 have hxe:l.length≤x:=by simpa using ht14
 have hm:Cz c l w=0:=by rw [hx.2,mi hxe]
 refine Z35 ?_;refine Rc ?_;exact dy

theorem c83 (c:List Col) (hc:OkCols c) (m:Mov) (h:OkMov m) (hf:∀s∈m.take,¬B0 s c<0) (Hp:List AObj):AFun Tryz.prog 83 [Ac c,Eg m] Hp (Ac (Is c m)):=by
 refine ACall.body [.tmp 4] [0,1] Tryz.func83 Tryz.ntmps83 (fun d=>?_)
 refine jp ?_;refine Z2 ?_;refine R.fin [0,3,5] ?_;refine Z67 ?_;refine R.nilSl 5 2 ?_;refine Z71 ?_;refine R.fin [0,5,9,10,11] ?_
 refine AW.loopC (α:=Nat) (fun x=>⟨26,A3 0 (Ac c) (A3 5 (.slice true 2 (((m.take.take x).map fun s=>c.getD (B0 s c).toNat ⟨[],0⟩).map Av)) (A3 9 (Ez m.take) (A3 10 (A2 (m.take.length:Nat)) (A3 11 (A2 (x:Nat)) (fun _=>.any))))),Hp,[],[],none⟩) (fun x=>x≤m.take.length) (fun x=>m.take.length-x) (0) (Nat.zero_le _) (StLe.of_eq (by simp)) rfl (fun x hx=>?_)
 refine Z2 ?_;refine R.fin [0,5,9,10,11,12] ?_
 refine W.condX (fun ht12=>?_) (fun ht12=>?_)
 ·have hlt:x<m.take.length:=by simpa using ht12
  have htk:=h.takes
  have hfx:=hf _ (List.getElem_mem hlt)
  obtain ⟨jj,hjj,hjc⟩:=Jt hfx
  refine Z89 ?_
  refine R.go (h:=Q.indexAddr (x) (A9 m.take[x]) (fun _=>Am hlt)) (hr:=?_)
  refine Z0 ?_;refine R.fin [0,5,7,9,10,11] ?_;refine Xz ?_;refine Z19 ?_;refine R.call Tryz.call58 (c58 c hc m.take[x] _) ?_
  refine R.go (h:=Q.indexAddr ((B0 m.take[x] c).toNat) (Av (c.getD (B0 m.take[x] c).toNat ⟨[],0⟩)) (fun _=>br hfx)) (hr:=?_)
  refine Z70 ?_
  refine R.append jU Tryz.type48 ?_ ?_ ?_
  ·simp only [List.length_map,List.length_take,List.length_cons,List.length_nil,Tryz.t48];omega
  ·simp only [List.length_map,List.length_take,List.length_cons,List.length_nil,Tryz.t48];omega
  refine R.assignT ?_;refine R.fin [0,5,9,10,11] ?_;refine Tz ?_;refine R.fin [0,5,9,10,11] ?_
  refine K.lpN (x+1) hlt (by omega) (StCut.of_eq ?_)
  rw [Sr hlt,List.map_append]
  rfl
 have hxe:m.take.length≤x:=by simpa using ht12
 refine Z35 ?_;refine dt ?_;exact K.fin (V.one V.tmp) ⟨by unfold Is;rw [List.take_of_length_le hxe]<;>rfl,rfl⟩ (hlow:=Cm)

theorem c55 (c:List Col) (hc:OkCols c) (m:Mov) (h:MvOk m) (Hp:List AObj):AFun Tryz.prog 55 [Ac c,Eg m] Hp (.tup [Ac (Bf c m).1,A2 (Bf c m).2]):=by
 refine ACall.body [.tmp 4,.tmp 5] [0,1] Tryz.func55 Tryz.ntmps55 (fun d=>?_)
 refine Z13 ?_;refine Ij ?_;refine Z1 ?_;refine R.call Tryz.call80 (c80 c hc m h _) ?_;refine R.go ?_;refine R.fin [0,3,6] ?_;refine Cu ?_
 have hg:=Wr (c:=c) h.ok
 have hg2:(B7 c m).length≤1000000:=by rw [I5];exact h.ok.gives2
 refine Z71 ?_;refine R.call Tryz.call81 (c81 c hc m.take h.ok.takes (B7 c m) hg hg2 _) ?_;refine Z64 ?_;refine R.fin [0,3,6,7,8] ?_;refine Z22 ?_;refine R.fin [0,3,6,7,8,23] ?_
 refine W.cond (fun ht23=>?_) (fun ht23=>?_)
 ·have hm:=rf ht23
  refine Z1 ?_;refine R.nilTmp 4 2 false ?_;refine R.go ?_;refine Z12 ?_;exact Z46
 refine Z6 ?_;refine Z75 ?_;refine R.call Tryz.call82 (c82 m.ahead h.ok.ahead (B7 c m) (by rw [I5,h.ahead]) c hc _) ?_;refine R.go ?_;refine R.fin [0,3,7,9] ?_;refine Z1 ?_;refine R.fin [0,3,7,9,31] ?_
 refine W.cond (fun ht31=>?_) (fun ht31=>?_)
 ·have hm:=rg ht23 ht31
  refine Z1 ?_;refine R.nilTmp 4 2 false ?_;refine R.go ?_;refine Z12 ?_;exact Z46
 refine Z6 ?_;refine W.seq ?_;refine W.drawQ [0,1,0,0,12,0,63,127] 6 Aa (by kernel_rfl) ?_;refine Ol ?_;refine D.call Tryz.call83 (c83 c hc m h.ok (Zi ht23) _) ?_;refine js ?_;refine R.call Tryz.call82 (c82 m.back h.ok.back (Is c m) (by rw [Is,List.length_map,h.back]) (Ce c m.take (B7 c m)).1 (Ws hc hg hg2) _) ?_;refine R.go ?_;refine R.fin [7,10] ?_;refine Z1 ?_;refine R.fin [7,10,41] ?_
 refine W.cond (fun ht41=>?_) (fun ht41=>?_)
 ·have hm:=rh ht23 ht31 ht41
  refine Z1 ?_;refine R.nilTmp 4 2 false ?_;refine R.go ?_;refine Z12 ?_;exact Z46
 have hm:=ri ht23 ht31 ht41
 refine Lq ?_;refine Z12 ?_;exact ui

def M5 {α:Type} (p:α→Bool) (l:List α):Int:=if l.any p then (l.findIdx p:Int) else -1
theorem mj {α:Type} {p:α→Bool} {l:List α} {i:Nat} (h:i<l.length) (hn:p l[i]=true) (hp:∀(j:Nat) (y:α),j<i→l[j]? = some y→p y=false):(i:Int)=M5 p l:=by
 unfold M5
 rw [if_pos (List.any_eq_true.2 ⟨_,List.getElem_mem h,hn⟩)]
 congr 1
 refine (List.findIdx_eq h |>.2 ⟨hn,fun j hj=>?_⟩).symm
 exact hp j (l[j]'(by omega)) hj (List.getElem?_eq_getElem (by omega))
theorem Zj {α:Type} {p:α→Bool} {l:List α} (h:l.any p=false):(-1:Int)=M5 p l:=by
 unfold M5
 rw [if_neg (by rw [h];simp)]
theorem g8 {α:Type} (p:α→Bool) (l:List α):decide (0≤M5 p l)=l.any p:=by
 unfold M5
 cases l.any p<;>simp
def Jv (s:Str):Bool := !(Cg s)
def Hu (e:Expr):Bool := !(Ax e)
theorem ml {m:Mov} (h:(((m.ahead.length:Int) != (m.give.length:Int)) || ((m.back.length:Int) != (m.take.length:Int)))=true):D4 m=false:=if_pos h
theorem mm {m:Mov} (h:(((m.ahead.length:Int) != (m.give.length:Int)) || ((m.back.length:Int) != (m.take.length:Int)))=false):D4 m=if m.kind==1 then ((m.take.length:Int)==0)&&((m.give.length:Int)==1)
 else if m.kind==2 then ((m.take.length:Int)==1)&&((m.give.length:Int)==0)
 else if (m.kind==3) || (m.kind==6) then ((m.take.length:Int)==1)&&((m.give.length:Int)==1)
 else if m.kind==4 then ((m.take.length:Int)==1)&&decide ((1:Int)<(m.give.length:Int))
 else if m.kind==5 then decide ((1:Int)<(m.take.length:Int))&&((m.give.length:Int)==1)
 else false:=if_neg (by rw [h];simp)
theorem ABb (m:Mov) (Hp:List AObj):AFun Tryz.prog 105 [Eg m] Hp (Ar (D4 m)):=by
 refine ACall.body [.tmp 2] [0] Tryz.func105 Tryz.ntmps105 (fun d=>?_)
 refine Z97 ?_;refine W.drawQ [0,1,3,0,8,24,7,127] 7 Aa (by kernel_rfl) ?_;refine Ol ?_;refine Z37 ?_;refine D.tail ?_;refine R.go ?_;refine R.fin [1,3,4] ?_;refine Z67 ?_
 simp only [List.length_map]
 refine Z71 ?_;refine Z40 ?_;refine Z62 ?_;refine R.go ?_;refine R.fin [1,3,4,22] ?_
 refine W.cond (fun ht22=>?_) (fun ht22=>?_)
 ·simp only [List.length_map] at ht22
  have hm:=ml ht22
  exact pk
 simp only [List.length_map] at ht22
 have hn:=mm ht22
 refine Z6 ?_;refine Z22 ?_;refine R.fin [3,4,24] ?_;refine Z92 ?_;refine R.fin [3,4,24,25] ?_
 refine W.cond (fun ht25=>?_) (fun ht25=>?_)
 ·refine Rd ?_;refine Y4 ?_;exact K.fin (V.one V.tmp) ⟨by rw [hn];first|(simp only [ht22,ht25,hk3,hk6,Bool.true_or,Bool.false_or,Bool.or_true,Bool.or_false,if_true,if_false,Bool.false_eq_true,↓reduceIte]<;>rfl)|(simp only [ht22,ht25,hk3,Bool.true_or,Bool.false_or,Bool.or_true,if_true,if_false,Bool.false_eq_true,↓reduceIte]<;>rfl)|(simp only [ht22,ht25,if_true,if_false,Bool.false_eq_true,↓reduceIte]<;>rfl),rfl⟩
 refine Z1 ?_;refine R.fin [3,4,24,33] ?_
 refine W.cond (fun ht33=>?_) (fun ht33=>?_)
 ·refine Rd ?_;refine Y4 ?_;exact K.fin (V.one V.tmp) ⟨by rw [hn];first|(simp only [ht22,ht25,ht33,hk3,hk6,Bool.true_or,Bool.false_or,Bool.or_true,Bool.or_false,if_true,if_false,Bool.false_eq_true,↓reduceIte]<;>rfl)|(simp only [ht22,ht25,ht33,hk3,Bool.true_or,Bool.false_or,Bool.or_true,if_true,if_false,Bool.false_eq_true,↓reduceIte]<;>rfl)|(simp only [ht22,ht25,ht33,if_true,if_false,Bool.false_eq_true,↓reduceIte]<;>rfl),rfl⟩
 refine Z22 ?_;refine R.fin [3,4,24,41] ?_
 refine W.cond (fun ht41=>?_) (fun ht41=>?_)
 ·have hk3:=ht41
  refine Z6 ?_
  refine W.cond (fun ht41=>?_) (fun ht41=>?_)
  ·refine Rd ?_;refine Z63 ?_;exact Z44
  rw [hk3] at ht41;cases ht41
 have hk3:=ht41
 refine Z29 ?_;refine R.fin [3,4,24,41] ?_;refine K.thN ?_
 refine W.cond (fun ht41=>?_) (fun ht41=>?_)
 ·have hk6:=ht41
  refine Rd ?_;refine Z63 ?_;exact Z44
 have hk6:=ht41
 refine Z1 ?_;refine R.fin [3,4,24,50] ?_
 refine W.cond (fun ht50=>?_) (fun ht50=>?_)
 ·refine Rd ?_;refine Y4 ?_;exact K.fin (V.one V.tmp) ⟨by rw [hn];first|(simp only [ht22,ht25,ht33,ht41,ht41,ht50,hk3,hk6,Bool.true_or,Bool.false_or,Bool.or_true,Bool.or_false,if_true,if_false,Bool.false_eq_true,↓reduceIte]<;>rfl)|(simp only [ht22,ht25,ht33,ht41,ht41,ht50,hk3,Bool.true_or,Bool.false_or,Bool.or_true,if_true,if_false,Bool.false_eq_true,↓reduceIte]<;>rfl)|(simp only [ht22,ht25,ht33,ht41,ht41,ht50,if_true,if_false,Bool.false_eq_true,↓reduceIte]<;>rfl),rfl⟩
 refine Z1 ?_;refine R.fin [3,4,58] ?_
 refine W.cond (fun ht58=>?_) (fun ht58=>?_)
 ·refine Rd ?_;refine Y4 ?_;exact yb
 refine Z18 ?_;refine Z49 ?_;exact yb

theorem ABc (s:Str) (hs:s.length≤1048576) (Hp:List AObj):AFun Tryz.prog 109 [A9 s] Hp (Ar (Jv s)):=by
 refine ACall.body [.tmp 2] [0] Tryz.func109 Tryz.ntmps109 (fun d=>?_)
 refine Z48 ?_;refine Z2 ?_;refine R.call Tryz.call106 (kn s hs _) ?_;exact jf

theorem ABd (e:Expr) (hok:okE 61 e) (Hp:List AObj):AFun Tryz.prog 107 [A5 e] Hp (Ar (Hu e)):=by
 refine ACall.body [.tmp 2] [0] Tryz.func107 Tryz.ntmps107 (fun d=>?_)
 refine Z97 ?_;refine Z2 ?_;refine R.call Tryz.call56 (c56 61 e hok (by decide) _) ?_;exact jf

theorem ABe (l:List Str) (hl:l.length≤1048576) (hn:∀s∈l,s.length≤1048576) (Hp:List AObj):AFun Tryz.prog 146 [Ez l,.fn (.func 109) [] []] Hp (A2 (M5 Jv l)):=by
 refine ACall.body [.tmp 4] [0,1] Tryz.func146 Tryz.ntmps146 (fun d=>?_)
 refine Z51 ?_;refine jk ?_
 refine AW.loopC (α:=Nat) (fun x=>⟨19,A3 0 (Ez l) (A3 1 (.fn (.func 109) [] []) (A3 7 (A2 l.length) (A3 8 (A2 (x:Nat)) (fun _=>.any)))),Hp,[],[],none⟩) (fun x=>x≤l.length∧∀(j:Nat) y,j<x→l[j]? = some y→Jv y=false) (fun x=>l.length-x) (0) ⟨Nat.zero_le _,fun j y h=>by omega⟩ (StLe.of_eq (by simp)) rfl (fun x hx=>?_)
 refine jh ?_
 refine W.condX (fun ht9=>?_) (fun ht9=>?_)
 ·have hlt:x<l.length:=by simpa using ht9
  refine Z23 ?_;refine Z1 ?_;refine jg ?_
  refine R.go (h:=Q.indexAddr (x) (A9 l[x]) (fun _=>Am hlt)) (hr:=?_)
  refine R.go ?_;refine R.callV Tryz.call109 (ABc l[x] (hn _ (List.getElem_mem hlt)) _) ?_;refine ju ?_
  refine W.cond (fun ht16=>?_) (fun ht16=>?_)
  ·refine dt ?_;exact tt
  refine Z72 ?_;exact Z83
 have hxe:l.length≤x:=by simpa using ht9
 refine Z35 ?_;exact tm

theorem ABf (l:List Str) (hl:l.length≤1048576) (hn:∀s∈l,s.length≤1048576) (Hp:List AObj):AFun Tryz.prog 108 [Ez l,.fn (.func 109) [] []] Hp (Ar (l.any Jv)):=by
 refine ACall.body [.tmp 4] [0,1] Tryz.func108 Tryz.ntmps108 (fun d=>?_)
 refine Z51 ?_;refine Z1 ?_;refine R.call Tryz.call146 (ABe l hl hn _) ?_;refine Z0 ?_;exact tz

theorem zi (l:List Expr) (hl:l.length≤1048576) (hn:∀e∈l,okE 61 e) (Hp:List AObj):AFun Tryz.prog 147 [Ht l,.fn (.func 107) [] []] Hp (A2 (M5 Hu l)):=by
 refine ACall.body [.tmp 4] [0,1] Tryz.func147 Tryz.ntmps147 (fun d=>?_)
 refine Z51 ?_;refine jk ?_
 refine AW.loopC (α:=Nat) (fun x=>⟨19,A3 0 (Ht l) (A3 1 (.fn (.func 107) [] []) (A3 7 (A2 l.length) (A3 8 (A2 (x:Nat)) (fun _=>.any)))),Hp,[],[],none⟩) (fun x=>x≤l.length∧∀(j:Nat) y,j<x→l[j]? = some y→Hu y=false) (fun x=>l.length-x) (0) ⟨Nat.zero_le _,fun j y h=>by omega⟩ (StLe.of_eq (by simp)) rfl (fun x hx=>?_)
 refine jh ?_
 refine W.condX (fun ht9=>?_) (fun ht9=>?_)
 ·have hlt:x<l.length:=by simpa using ht9
  refine Z23 ?_;refine Z1 ?_;refine jg ?_
  refine R.go (h:=Q.indexAddr (x) (A5 l[x]) (fun _=>Am hlt)) (hr:=?_)
  refine R.go ?_;refine R.callV Tryz.call107 (ABd l[x] (hn _ (List.getElem_mem hlt)) _) ?_;refine ju ?_
  refine W.cond (fun ht16=>?_) (fun ht16=>?_)
  ·refine dt ?_;exact tt
  refine Z72 ?_;exact Z83
 have hxe:l.length≤x:=by simpa using ht9
 refine Z35 ?_;exact tm

theorem t7 (l:List Expr) (hl:l.length≤1048576) (hn:∀e∈l,okE 61 e) (Hp:List AObj):AFun Tryz.prog 110 [Ht l,.fn (.func 107) [] []] Hp (Ar (l.any Hu)):=by
 refine ACall.body [.tmp 4] [0,1] Tryz.func110 Tryz.ntmps110 (fun d=>?_)
 refine Z51 ?_;refine Z1 ?_;refine R.call Tryz.call147 (zi l hl hn _) ?_;refine Z0 ?_;exact tz

theorem rj (s:Str) (Hp:List AObj):AFun Tryz.prog 112 [A9 s] Hp (A5 (C3 s)):=by
 refine ACall.body [.cell 2 103] [0] Tryz.func112 Tryz.ntmps112 (fun d=>?_)
 refine Z52 ?_;refine Z2 ?_;refine xe ?_;refine R.nilCell 0 5 6 ?_;refine Z4 ?_;exact K.fin (V.one (V.cellN jA jS)) ⟨by rw [Ab];rfl,rfl⟩

theorem Wt {m:Mov} {c:Col}:(((!(Cg c.name)) || (!((Bh c.kind==[])==(m.kind==3)))) || ((m.kind==3)&&(c.kind != 0))) = !Js m c:=by
 unfold Js
 cases Cg c.name<;>cases (Bh c.kind==([]:Str))<;>cases (m.kind==3)<;>cases (c.kind != 0)<;>rfl
theorem vt {m:Mov} (h:(!(D4 m))=true):Gg m=false:=by
 have:D4 m=false:=by simpa using h
 unfold Gg;rw [this];rfl
theorem vu {m:Mov} {c:Col} (hc:c∈m.give) (h:Js m c=false):Gg m=false:=by
 have:m.give.all (Js m)=false:=List.all_eq_false.2 ⟨c,hc,by rw [h];simp⟩
 unfold Gg;rw [this];simp
theorem vw {m:Mov} (h:((m.take.any Jv || m.ahead.any Hu) || m.back.any Hu)=true):Gg m=false:=by
 unfold Gg
 rw [show Jv=fun s => !(Cg s) from rfl,show Hu=fun e => !(Ax e) from rfl,Hl,Hl,Hl] at h
 cases h1:m.take.all Cg<;>cases h2:m.ahead.all Ax<;>cases h3:m.back.all Ax<;>simp_all
theorem rk {m:Mov} (h1:D4 m=true) (h2:m.give.all (Js m)=true) (h:((m.take.any Jv || m.ahead.any Hu) || m.back.any Hu)=false):Gg m=Fh m:=by
 unfold Gg
 rw [show Jv=fun s => !(Cg s) from rfl,show Hu=fun e => !(Ax e) from rfl,Hl,Hl,Hl] at h
 rw [h1,h2]
 cases h1:m.take.all Cg<;>cases h2:m.ahead.all Ax<;>cases h3:m.back.all Ax<;>simp_all
theorem Oc {α β:Type} {f:α→β} {l:List α} {d:α} (h:0<l.length):(l.map f)[0]? = some (f (l.getD 0 d)):=by
 rw [List.getElem?_map,List.getElem?_eq_getElem h,List.getD_eq_getElem?_getD,List.getElem?_eq_getElem h]
 rfl
theorem M6 {α:Type} {l:List α} {d:α} (h:0<l.length):l.getD 0 d∈l:=by
 rw [List.getD_eq_getElem?_getD,List.getElem?_eq_getElem h]
 exact List.getElem_mem h
theorem vz {m:Mov} (h:(m.kind==3)=true):Fh m=(eqE (m.ahead.getD 0 Ah) (C3 (m.take.getD 0 []))&&eqE (m.back.getD 0 Ah) (C3 (m.give.getD 0 ⟨[],0⟩).name)):=if_pos h
theorem w4 {m:Mov} (h:(m.kind==3)=false) (h6:(m.kind==6)=true):Fh m=(m.take.getD 0 []==(m.give.getD 0 ⟨[],0⟩).name):=by unfold Fh;rw [if_neg (by rw [h];simp),if_pos h6]
theorem w5 {m:Mov} (h:(m.kind==3)=false) (h6:(m.kind==6)=false):Fh m=true:=by unfold Fh;rw [if_neg (by rw [h];simp),if_neg (by rw [h6];simp)]
theorem c79 (m:Mov) (h:OkMov m) (Hp:List AObj):AFun Tryz.prog 79 [Eg m] Hp (Ar (Gg m)):=by
 refine ACall.body [.tmp 2] [0] Tryz.func79 Tryz.ntmps79 (fun d=>?_)
 refine Z97 ?_;refine Z36 ?_;refine R.call Tryz.call105 (ABb m _) ?_;refine R.go ?_;refine R.fin [1,8] ?_
 refine W.cond (fun ht8=>?_) (fun ht8=>?_)
 ·have hm:=vt ht8
  refine Z49 ?_;exact Z87
 have hct:D4 m=true:=by simpa using ht8
 refine Z6 ?_;refine Z75 ?_;refine R.fin [1,10,11,12] ?_
 refine AW.loopC (α:=Nat) (fun x=>⟨95,A3 1 (.ro (Na m)) (A3 10 (Ac m.give) (A3 11 (A2 (m.give.length:Nat)) (A3 12 (A2 (x:Nat)) (fun _=>.any)))),Hp,[],[],none⟩) (fun x=>x≤m.give.length∧∀(j:Nat) (y:Col),j<x→m.give[j]? = some y→(!Js m y)=false) (fun x=>m.give.length-x) (0) ⟨Nat.zero_le _,fun j y h=>by omega⟩ (StLe.of_eq (by simp)) rfl (fun x hx=>?_)
 refine Z2 ?_;refine R.fin [1,10,11,12,13] ?_
 refine W.condX (fun ht13=>?_) (fun ht13=>?_)
 ·have hlt:x<m.give.length:=by simpa using ht13
  have hgl:=h.gives2
  refine Z89 ?_
  refine R.go (h:=Q.indexAddr (x) (Av m.give[x]) (fun _=>Am hlt)) (hr:=?_)
  refine Pd ?_;refine R.fin [1,4,10,11,12] ?_;refine W.drawQ [0,1,3,7,15,31,63,127,255,31,543,1567,4095,8191,16383,32767,65535,131071,262143,524287,1048575,2097151,4194303,8388607] 12 Aa (by kernel_rfl) ?_;refine Z11 ?_;refine D.call Tryz.call106 (kn m.give[x].name (h.gives.2 _ (List.getElem_mem hlt)) _) ?_;refine Z11 ?_;refine Z74 ?_;refine H.call Tryz.call57 (fun hB=>c57 m.give[x].kind _) ?_;refine Z74 ?_;refine Z74 ?_;refine D.tail ?_;refine G.go ?_;refine Z94 ?_;refine Ky ?_;refine R.go ?_;refine R.fin [1,10,11,12,39] ?_
  refine W.cond (fun ht39=>?_) (fun ht39=>?_)
  ·rw [Wt] at ht39
   have hm:=vu (List.getElem_mem hlt) (by simpa using ht39)
   refine dp ?_;exact dz
  rw [Wt] at ht39
  refine Z72 ?_;refine R.fin [1,10,11,12] ?_;refine K.lpN (x+1) ⟨hlt,Cd hlt hx.2 ht39⟩ (by omega) ?_
  exact StCut.take (own:=[]) (fun _=>.refl _) (by repeat (first|exact Ap|refine Ao (by first|(simp [or_imp,forall_and];done)|exact Cm|exact low_ro.2 Uh) ?_)) (by simp) (by simp)
 have hxe:m.give.length≤x:=by simpa using ht13
 have hga:m.give.all (Js m)=true:=by have:=I6 hxe hx.2;rw [Hl] at this;simpa using this
 refine Z35 ?_;refine Z2 ?_;refine R.fin [1,5] ?_;refine Z22 ?_;refine R.call Tryz.call108 (ABf m.take h.takes h.names _) ?_;refine R.go ?_;refine Z62 ?_;refine G.call Tryz.call110 (fun hB=>t7 m.ahead h.ahead.len h.ahead.ok _) ?_;refine Y6 ?_;refine G.call Tryz.call110 (fun hB=>t7 m.back h.back.len h.back.ok _) ?_;refine R.go ?_;refine R.fin [1,55] ?_
 refine W.cond (fun ht55=>?_) (fun ht55=>?_)
 ·have hm:=vw ht55
  refine Z49 ?_;exact Z87
 have hm0:=rk hct hga ht55
 refine Z6 ?_;refine Z22 ?_;refine R.fin [1,57] ?_;refine Z92 ?_;refine R.fin [1,57,58] ?_
 refine W.cond (fun ht58=>?_) (fun ht58=>?_)
 ·obtain ⟨hl1,hl2⟩:=Qm hct (by rw [ht58];simp)
  obtain ⟨hl3,hl4⟩:=Fi hct
  have g1:=Oc (f:=A5) (l:=m.ahead) (d:=Ah) (by omega)
  have g2:=Oc (f:=A5) (l:=m.back) (d:=Ah) (by omega)
  have g3:=Oc (f:=A9) (l:=m.take) (d:=[]) (by omega)
  have g4:=Oc (f:=Av) (l:=m.give) (d:=⟨[],0⟩) (by omega)
  have ok1:=h.ahead.ok _ (M6 (l:=m.ahead) (d:=Ah) (by omega))
  have ok2:=h.back.ok _ (M6 (l:=m.back) (d:=Ah) (by omega))
  have hm:=hm0.trans (vz ht58)
  refine W.drawQ [0,1,3,7,0,16,48,112,240,511,1023,2047,4095,8191,16383,2047,34815,100351,231423,493567,1017855,2097151,4194303,8388607] 21 Aa (by kernel_rfl) ?_;refine Z11 ?_
  refine D.go (h:=Q.indexAddr (0) (A5 (m.ahead.getD 0 Ah)) (fun _=>g1)) (hr:=?_)
  refine Z37 ?_
  refine D.go (h:=Q.indexAddr (0) (A9 (m.take.getD 0 [])) (fun _=>g3)) (hr:=?_)
  refine D.go ?_;refine D.call Tryz.call112 (rj (m.take.getD 0 []) _) ?_;refine D.call Tryz.call111 (zd 61 (m.ahead.getD 0 Ah) ok1 (C3 (m.take.getD 0 [])) _) ?_;refine D.go ?_;refine Z74 ?_
  refine H.go (h:=Q.indexAddr (0) (A5 (m.back.getD 0 Ah)) (fun _=>g2)) (hr:=?_)
  refine Z74 ?_;refine H.go ?_
  refine H.go (h:=Q.indexAddr (0) (Av (m.give.getD 0 ⟨[],0⟩)) (fun _=>g4)) (hr:=?_)
  refine Z74 ?_;refine H.call Tryz.call112 (fun hB=>rj (m.give.getD 0 ⟨[],0⟩).name _) ?_;refine D.tail ?_;refine G.call Tryz.call111 (fun hB=>zd 61 (m.back.getD 0 Ah) ok2 (C3 (m.give.getD 0 ⟨[],0⟩).name) _) ?_;exact xh
 refine Z1 ?_;refine R.fin [1,83] ?_
 refine W.cond (fun ht83=>?_) (fun ht83=>?_)
 ·obtain ⟨hl1,hl2⟩:=Qm hct (by rw [ht83];simp)
  obtain ⟨hl3,hl4⟩:=Fi hct
  have g1:=Oc (f:=A5) (l:=m.ahead) (d:=Ah) (by omega)
  have g2:=Oc (f:=A5) (l:=m.back) (d:=Ah) (by omega)
  have g3:=Oc (f:=A9) (l:=m.take) (d:=[]) (by omega)
  have g4:=Oc (f:=Av) (l:=m.give) (d:=⟨[],0⟩) (by omega)
  have ok1:=h.ahead.ok _ (M6 (l:=m.ahead) (d:=Ah) (by omega))
  have ok2:=h.back.ok _ (M6 (l:=m.back) (d:=Ah) (by omega))
  have hm:=hm0.trans (w4 ht58 ht83)
  refine W.drawQ [0,1,3,7,0,16,48,112,240,511,1023] 9 Aa (by kernel_rfl) ?_;refine Z11 ?_
  refine D.go (h:=Q.indexAddr (0) (A9 (m.take.getD 0 [])) (fun _=>g3)) (hr:=?_)
  refine Z37 ?_
  refine D.go (h:=Q.indexAddr (0) (Av (m.give.getD 0 ⟨[],0⟩)) (fun _=>g4)) (hr:=?_)
  refine Z76 ?_;exact xh
 have hm:=hm0.trans (w5 ht58 ht83)
 refine Z18 ?_;refine Z49 ?_;exact dz

def g9 (m:Mov):Bool := !(Gg m)
theorem rl (l:List Mov):(decide ((l.length:Int)≤8) && !(l.any g9))=fu l:=by
 unfold fu
 rw [show g9=fun m => !(Gg m) from rfl,Hl]
 simp
theorem c78 (m:Mov) (h:OkMov m) (Hp:List AObj):AFun Tryz.prog 78 [Eg m] Hp (Ar (g9 m)):=by
 refine ACall.body [.tmp 2] [0] Tryz.func78 Tryz.ntmps78 (fun d=>?_)
 refine Z97 ?_;refine Z2 ?_;refine R.call Tryz.call79 (c79 m h _) ?_;exact jf

theorem ABg (l:List Mov) (h:OkMovs l) (Hp:List AObj):AFun Tryz.prog 104 [Cq l,.fn (.func 78) [] []] Hp (A2 (M5 g9 l)):=by
 refine ACall.body [.tmp 4] [0,1] Tryz.func104 Tryz.ntmps104 (fun d=>?_)
 refine Z51 ?_;refine jk ?_
 refine AW.loopC (α:=Nat) (fun x=>⟨19,A3 0 (Cq l) (A3 1 (.fn (.func 78) [] []) (A3 7 (A2 l.length) (A3 8 (A2 (x:Nat)) (fun _=>.any)))),Hp,[],[],none⟩) (fun x=>x≤l.length∧∀(j:Nat) (y:Mov),j<x→l[j]? = some y→g9 y=false) (fun x=>l.length-x) (0) ⟨Nat.zero_le _,fun j y h=>by omega⟩ (StLe.of_eq (by simp)) rfl (fun x hx=>?_)
 refine jh ?_
 refine W.condX (fun ht9=>?_) (fun ht9=>?_)
 ·have hlt:x<l.length:=by simpa using ht9
  have hlen:=h.len
  refine Z23 ?_;refine Z1 ?_;refine jg ?_
  refine R.go (h:=Q.indexAddr (x) (Eg l[x]) (fun _=>Am hlt)) (hr:=?_)
  refine R.go ?_;refine R.callV Tryz.call78 (c78 l[x] (h.each _ (List.getElem_mem hlt)) _) ?_;refine ju ?_
  refine W.cond (fun ht16=>?_) (fun ht16=>?_)
  ·refine dt ?_;exact tt
  refine Z72 ?_;exact Z83
 have hxe:l.length≤x:=by simpa using ht9
 refine Z35 ?_;exact tm

theorem c77 (l:List Mov) (h:OkMovs l) (Hp:List AObj):AFun Tryz.prog 77 [Cq l,.fn (.func 78) [] []] Hp (Ar (l.any g9)):=by
 refine ACall.body [.tmp 4] [0,1] Tryz.func77 Tryz.ntmps77 (fun d=>?_)
 refine Z51 ?_;refine Z1 ?_;refine R.call Tryz.call104 (ABg l h _) ?_;refine Z0 ?_;exact tz

theorem c53 (l:List Mov) (h:OkMovs l) (Hp:List AObj):AFun Tryz.prog 53 [Cq l] Hp (Ar (fu l)):=by
 refine ACall.body [.tmp 2] [0] Tryz.func53 Tryz.ntmps53 (fun d=>?_)
 refine Z48 ?_;refine du ?_;refine G.call Tryz.call77 (fun hB=>c77 l h _) ?_;refine G.go ?_;refine Z63 ?_;exact K.fin (V.one V.tmp) ⟨by rw [←rl,List.length_map],rfl⟩

theorem c34 (c:List Col) (hc:OkCols c) (l:List Mov) (h:OkMovs l) (Hp:List AObj):AFun Tryz.prog 34 [Ac c,Cq l] Hp (Ar (Nc c l)):=by
 refine ACall.body [.tmp 4] [0,1] Tryz.func34 Tryz.ntmps34 (fun d=>?_)
 refine Z51 ?_;refine Z2 ?_;refine R.call Tryz.call25 (c25 c hc _) ?_;refine R.go ?_;refine G.go ?_;refine G.call Tryz.call53 (fun hB=>c53 l h _) ?_;refine Z0 ?_;refine Z21 ?_;exact K.fin (V.one V.tmp) ⟨by unfold Nc;rw [Pv],rfl⟩

theorem ga {Hp:List AObj} {c:List Col} (h:∀x∈Hp,ObjLow Hp.length x):∀x∈Hp++[AObj.cells 22 [Ac c]],ObjLow (Hp.length+1) x:=by
 intro x hx
 rcases List.mem_append.1 hx with hx|hx
 ·exact ObjLow.le (by omega) (h x hx)
 rw [List.mem_singleton.1 hx]
 intro z hz
 rw [List.mem_singleton.1 hz]
 exact Cm
theorem c36 (c:List Col) (l:List Mov) (Hp:List AObj):ACallO Tryz.prog 36 [Ac c,Cq l] Hp (fun r H'=>r=.fn (.func 54) [] [.ro [Cq l],.ptr (oid Hp.length 0) 0]∧H'=Hp++[.cells 22 [Ac c]]):=by
 refine ACallO.body [.tmp 4] [0,1] Tryz.func36 Tryz.ntmps36 (fun d=>?_)
 refine Cu ?_;refine R.box ?_;refine Z0 ?_;refine H7 ?_;refine Cu ?_
 refine R.assumeLow (fun hlow=>?_)
 refine jq ?_;refine Z21 ?_;exact K.finO 1 (V.tmp (t:=4)) ⟨rfl,rfl⟩ (hlow:=by simp [oid,or_imp,forall_and];exact ⟨fun m _ a _=>Ad _ a,fun m _ a _=>Ad _ a⟩) (hobj:=ga hlow)

theorem c54 (l oc:Nat) (ms:List Mov) (hm:∀m∈ms,MvOk m) (hml:ms.length≤1048576) (C:Nat→List Col) (hC:∀k,OkCols (C k)) (U T:Nat→List AObj) (N:Nat→Prop) (Z:List AObj→Prop) (hlen:∀k,(U k).length=(U 0).length) (hlenW:∀k,(T k).length=(U 0).length) (hll:l<(U 0).length) (hol:oc<(U 0).length)
  (hlw:∀k,∀x∈U k,ObjLow (U 0).length x) (hlW:∀k,∀x∈T k,ObjLow (U 0).length x) (h0:N 0) (hc:∀k,(U k)[oc]? = some (.cells 22 [Ac (C k)])) (hcW:∀k,(T k)[oc]? = some (.cells 22 [Ac (C k)]))
  (hn:∀k m,ms[k]? = some m→(Bf (C k) m).2=0→(T k).set oc (.cells 22 [Ac (Bf (C k) m).1])=U (k+1))
  (hy:∀k m X,ms[k]? = some m→N k→AYield Tryz.prog l [Ac (Bf (C k) m).1,A2 (Bf (C k) m).2] (U k++X) (fun b H'=>((Bf (C k) m).2≠0∧∃V,H'=V++X∧V.length=(U 0).length∧(∀x∈V,ObjLow (U 0).length x)∧Z V)∨((Bf (C k) m).2=0∧b=true∧N (k+1)∧H'=T k++X)))
  (hR:N ms.length→Z (U ms.length)):ACall Tryz.prog 54 [.yield l,.ro [Cq ms],.ptr oc 0] (U 0) (fun _ H'=>Z H'):=by
 refine ACall.body [] [0,1,2] Tryz.func54 Tryz.ntmps54 (fun d=>?_)
 refine Z13 ?_;refine R.fin [0,2,8,9,10] ?_
 refine AW.loopC (α:=Nat) (fun x=>⟨31,A3 0 (.yield l) (A3 2 (.ptr oc 0) (A3 8 (Cq ms) (A3 9 (A2 ms.length) (A3 10 (A2 (x:Nat)) (fun _=>.any))))),U x,[],[],none⟩) (fun x=>x≤ms.length∧N x) (fun x=>ms.length-x) (0) ⟨Nat.zero_le _,h0⟩ (StLe.of_eq (by simp)) rfl (fun x hx=>?_)
 refine Z2 ?_;refine R.fin [0,2,8,9,10,11] ?_
 refine W.condX (fun ht11=>?_) (fun ht11=>?_)
 ·have hlt:x<ms.length:=by simpa using ht11
  refine Z89 ?_
  refine R.go (h:=Q.indexAddr (x) (Eg ms[x]) (fun _=>Am hlt)) (hr:=?_)
  refine Pd ?_;refine R.fin [0,2,5,8,9,10] ?_;refine Cu ?_
  refine R.go (h:=Q.loadUp (hc x)) (hr:=?_)
  refine R.go ?_;refine R.call Tryz.call55 (c55 (C x) (hC x) ms[x] (hm _ (List.getElem_mem hlt)) _) ?_;refine Z64 ?_;refine R.fin [0,2,6,7,8,9,10] ?_;refine Z31 ?_
  refine R.yield (l:=l) (args:=[Ac (Bf (C x) ms[x]).1,A2 (Bf (C x) ms[x]).2]) (hy x ms[x] _ (List.getElem?_eq_getElem hlt) hx.2) ?_
  intro b V O hV hb
  have hVO:O=[AObj.cells 77 (Na ms[x])]∧(((Bf (C x) ms[x]).2≠0∧V.length=(U 0).length∧(∀y∈V,ObjLow (U 0).length y)∧Z V)∨((Bf (C x) ms[x]).2=0∧b=true∧N (x+1)∧V=T x)):=by
   rcases hb with ⟨h1,V',h2,h3,h4,h5⟩|⟨h1,h2,h3,h4⟩
   ·obtain ⟨rfl,rfl⟩:=List.append_inj h2 (by rw [hV,hlen x,h3])
    exact ⟨rfl,.inl ⟨h1,h3,h4,h5⟩⟩
   have h6:=List.append_inj h4 (by rw [hV,hlen x,hlenW x])
   exact ⟨h6.2,.inr ⟨h1,h2,h3,h6.1⟩⟩
  obtain ⟨rfl,hVO⟩:=hVO
  have hVl:V.length=(U 0).length:=by rw [hV,hlen x]
  have hVw:∀y∈V,ObjLow (U 0).length y:=by
   rcases hVO with ⟨_,_,h,_⟩|⟨_,_,_,rfl⟩
   ·exact h
   exact hlW _
  refine ⟨fun _=>by rw [hVl];exact hVw,fun o ho=>(by cases ho),?_⟩
  refine Z40 ?_;refine R.go ?_;refine R.fin [0,2,6,8,9,10,28] ?_
  refine W.cond (fun ht28=>?_) (fun ht28=>?_)
  ·have hZ:Z V:=by
    rcases hVO with ⟨_,_,_,h⟩|⟨h1,h2,_,_⟩
    ·exact h
    rw [h1,h2] at ht28;simp at ht28
   refine Y2 ?_;refine Z34 ?_;exact K.fin .nores (hp:=hZ)
  have hVn:(Bf (C x) ms[x]).2=0∧N (x+1)∧V=T x:=by
   rcases hVO with ⟨h1,_,_,_⟩|⟨h1,_,h3,h4⟩
   ·simp [h1] at ht28
   exact ⟨h1,h3,h4⟩
  obtain ⟨hz,hN,rfl⟩:=hVn
  have hnx:=hn x _ (List.getElem?_eq_getElem hlt) hz
  refine Z6 ?_;refine Z82 ?_
  refine R.storeUp jS (hcW x) ?_ ?_
  ·first|exact Cm|(simp [or_imp,forall_and];done)
  refine R.fin [0,2,8,9,10] ?_;refine Tz ?_;refine R.fin [0,2,8,9,10] ?_;refine K.lpN (x+1) ⟨hlt,hN⟩ (by omega) ?_
  rw [hnx]
  exact StCut.take (own:=[]) (fun _=>.refl _) (by repeat (first|exact Ap|refine Ao (by first|(simp [or_imp,forall_and];done)|exact Ec|(have:=hlen (x+1);simp;omega)) ?_)) (by simp) (by simp)
 have hxe:x=ms.length:=by have:=hx.1;simp at ht11;omega
 refine K.lpE ?_;exact K.finN .nores (hp:=by rw [hxe];exact hR (hxe ▸ hx.2))

/-! The columns on the way through moves. -/
def colsAt (c:List Col) (ms:List Mov):Nat→List Col
 | 0=>c
 | k+1=>match ms[k]? with|some m=>(Bf (colsAt c ms k) m).1|none=>colsAt c ms k
def Bt (c:List Col) (ms:List Mov):Nat→List (List Col)
 | 0=>[c]
 | k+1=>Bt c ms k++[colsAt c ms (k+1)]
def NS (c:List Col) (ms:List Mov) (k:Nat):Prop:=C9 c ms=((Bt c ms k).dropLast++(C9 (colsAt c ms k) (ms.drop k)).1,(C9 (colsAt c ms k) (ms.drop k)).2)
theorem bt (c:List Col) (ms:List Mov) (k:Nat):(Bt c ms k).dropLast++[colsAt c ms k]=Bt c ms k:=by
 cases k with
 | zero=>rfl
 | succ k=>simp [Bt]
theorem Gy {c:List Col} {ms:List Mov} {k:Nat} {m:Mov} (h:ms[k]? = some m):colsAt c ms (k+1)=(Bf (colsAt c ms k) m).1:=by rw [colsAt,h]
theorem Wu {ms:List Mov} {k:Nat} {m:Mov} (hk:ms[k]? = some m):ms.drop k=m::ms.drop (k+1):=by
 obtain ⟨h1,h2⟩:=List.getElem?_eq_some_iff.1 hk
 rw [List.drop_eq_getElem_cons h1,h2]
theorem zj {c:List Col} {ms:List Mov}:NS c ms 0:=rfl
theorem bu {c:List Col} {ms:List Mov} {k:Nat} {m:Mov} (hk:ms[k]? = some m) (h:NS c ms k) (he:(Bf (colsAt c ms k) m).2=0):NS c ms (k+1):=by
 unfold NS at h ⊢
 rw [h,Wu hk]
 have e:C9 (colsAt c ms k) (m::ms.drop (k+1))=(colsAt c ms k::(C9 (Bf (colsAt c ms k) m).1 (ms.drop (k+1))).1,(C9 (Bf (colsAt c ms k) m).1 (ms.drop (k+1))).2):=by
  rw [C9,if_neg (by rw [he];simp)]
 have e2:(Bt c ms (k+1)).dropLast=Bt c ms k:=by simp [Bt]
 rw [e,e2,Gy hk]
 have e3:=bt c ms k
 refine Prod.ext ?_ rfl
 show (Bt c ms k).dropLast++(colsAt c ms k::_)=Bt c ms k++_
 conv=>rhs;rw [←e3]
 simp
theorem Zk {c:List Col} {ms:List Mov} {k:Nat} {m:Mov} (hk:ms[k]? = some m) (h:NS c ms k) (he:(Bf (colsAt c ms k) m).2≠0):(C9 c ms).2=(Bf (colsAt c ms k) m).2:=by
 unfold NS at h
 rw [h,Wu hk,C9,if_pos (by simpa using he)]
theorem mn {c:List Col} {ms:List Mov} (h:NS c ms ms.length):C9 c ms=(Bt c ms ms.length,0):=by
 unfold NS at h
 rw [h,List.drop_length,C9]
 exact Prod.ext (bt c ms ms.length) rfl
theorem mo {c:List Col} {m:Mov} (hc:OkCols c) (h:OkMov m):OkCols (Bf c m).1:=by
 have h0:OkCols ([]:List Col):=⟨by decide,fun y hy=>by cases hy⟩
 unfold Bf
 split
 ·exact h0
 split
 ·exact h0
 split
 ·exact h0
 exact Ws hc (Wr h) (by rw [I5];exact h.gives2)
theorem Eh {c:List Col} {ms:List Mov} (hc:OkCols c) (h:∀m∈ms,OkMov m):∀k,OkCols (colsAt c ms k)
 | 0=>hc
 | k+1=>by
  rw [colsAt]
  cases hk:ms[k]? with
  | none=>exact Eh hc h k
  | some m=>exact mo (Eh hc h k) (h m (List.mem_of_getElem? hk))
theorem I7 (c:List Col) (ms:List Mov):∀k,(Bt c ms k).length=k+1
 | 0=>rfl
 | k+1=>by rw [Bt,List.length_append,I7 c ms k];rfl
theorem w6 {c:List Col} {ms:List Mov} (h:Nc c ms=true) (hk:OkMovs ms):(∀m∈ms,MvOk m)∧ms.length≤8:=by
 unfold Nc fu at h
 simp only [Bool.and_eq_true,decide_eq_true_eq,List.all_eq_true] at h
 exact ⟨fun m hm=>re (hk.each m hm) (Nd (h.2.2 m hm)),by omega⟩
theorem Ss {c:List Col} {ms:List Mov} (h:Nc c ms=false):D0 c ms=([],1):=by
 have:L8 c ms=([],1):=if_neg (by rw [h];simp)
 unfold D0
 rw [this];rfl
theorem Qo {c:List Col} {ms:List Mov} (h:Nc c ms=true) (he:(C9 c ms).2≠0):D0 c ms=([],(C9 c ms).2):=by
 have:L8 c ms=C9 c ms:=if_pos h
 unfold D0
 rw [this,if_pos (by simpa using he)]
theorem Su {c:List Col} {ms:List Mov} {o:List (List Col)} (h:Nc c ms=true) (he:C9 c ms=(o,0)):D0 c ms=(o,0):=by
 have:L8 c ms=C9 c ms:=if_pos h
 unfold D0
 rw [this,he];rfl
abbrev Hv (l:List (List Col)):AV:=.slice false 1 (l.map Ac)
theorem Dy {n k:Nat} {o:Bool} {l:List (List Col)}:Low n (.slice o k (l.map Ac)):=low_slice.2 fun y hy=>by
 obtain ⟨m,_,rfl⟩:=List.mem_map.1 hy
 exact Cm
theorem Ui {U:List AObj} {i j:Nat} {x y:AObj} (h:U[i]? = some x) (hne:j≠i):(U.set j y)[i]? = some x:=by rw [List.getElem?_set_ne hne];exact h
theorem gb {n k:Nat} {o:Bool} {l:List (List Col)} {c:List Col}:Low n (.slice o k (l.map Ac++[Ac c])):=by
 have:=Dy (n:=n) (k:=k) (o:=o) (l:=l++[c])
 rwa [List.map_append] at this
theorem c12 (c:List Col) (hc:OkCols c) (hc2:c.length≤1000000) (l:List Mov) (h:OkMovs l) (Hp:List AObj):AFun Tryz.prog 12 [Ac c,Cq l] Hp (.tup [Hv (D0 c l).1,A2 (D0 c l).2]):=by
 refine ACall.body [.cell 4 39,.cell 5 26] [0,1,7,8] Tryz.func12 Tryz.ntmps12 (fun d=>?_)
 refine Z27 ?_;refine Ki ?_;refine R.fin [0,1,4,5,7,8] ?_;refine Z22 ?_;refine R.call Tryz.call34 (c34 c hc l h _) ?_;refine R.go ?_;refine R.fin [0,1,4,5,7,8,12] ?_
 refine W.cond (fun ht12=>?_) (fun ht12=>?_)
 ·have hm:=Ss (by simpa using ht12)
  refine Cu ?_;refine Fc ?_;refine R.nilOwn 0 1 ?_;refine Fc ?_;refine Ve ?_;exact K.fin (V.two (V.cell jA) (V.cell jA)) ⟨by rw [hm];rfl,rfl⟩
 have hmay:Nc c l=true:=by simpa using ht12
 obtain ⟨hmv,hl8⟩:=w6 hmay h
 refine Z99 ?_;refine R.call Tryz.call35 (c35 c hc2 _) ?_;refine Kz ?_;refine Ki ?_;refine R.storeOwnT jS ?_;refine R.fin [0,1,4,5,6,7,8] ?_;refine Z67 ?_
 refine R.assumeLow (fun hlow=>?_)
 refine Z0 ?_;refine R.callO Tryz.call36 (c36 c l _) ?_
 rintro _ _ ⟨rfl,rfl⟩
 refine ⟨[.cells 22 [Ac c]],by simp,?_⟩
 rw [show oid (Hp++[AObj.cells 39 [AV.nil],AObj.cells 26 [A2 0],AObj.cells 39 [AV.slice true 1 [Ac c]]]).length 0=oid Hp.length 3 by simp [oid]]
 simp only [List.cons_append,List.nil_append]
 refine R.fin [4,5,6,7,8,18] ?_;refine Gl ?_
 refine W.rangeV (m:=4) Tryz.call54 (fun FR as' bd' hFR has hbd=>?_)
 have hFRl:∀s,Low (Hp.length+6) (FR s):=by
  intro s
  rw [hFR]
  refine Low.strip ?_
  revert s
  repeat (first|exact Ap|refine Ao (by first|(simp [oid,or_imp,forall_and];done)|(simp [oid,or_imp,forall_and];exact ⟨fun m _ a _=>Ad _ a,fun m _ a _=>Ad _ a⟩)|(simp [oid,or_imp,forall_and]<;>omega)) ?_)
 have hOl:∀{e:Int} {o:List (List Col)} {q:List Col} {lp:AObj},ObjLow (Hp.length+6) lp→∀x∈Hp++[AObj.cells 39 [AV.nil],AObj.cells 26 [A2 e],AObj.cells 39 [AV.slice true 1 ((o).map Ac)],AObj.cells 22 [Ac (q)],AObj.defs,lp],ObjLow (Hp.length+6) x:=by
  intro e o q lp hlp x hx
  refine Io (fun x hx=>ObjLow.le (by omega) (hlow x hx)) (fun x hx=>?_) x hx
  simp only [List.mem_cons,List.mem_nil_iff,or_false] at hx
  rcases hx with rfl|rfl|rfl|rfl|rfl|rfl
  ·intro y hy;rw [List.mem_singleton.1 hy];simp
  ·intro y hy;rw [List.mem_singleton.1 hy];simp
  ·intro y hy;rw [List.mem_singleton.1 hy];exact Dy
  ·intro y hy;rw [List.mem_singleton.1 hy];exact Cm
  ·trivial
  exact hlp
 refine ⟨_,c54 (oid Hp.length 5) (oid Hp.length 3) l hmv (by omega) (colsAt c l) (Eh hc fun m hm=>h.each m hm) (fun k=>Hp++[AObj.cells 39 [AV.nil],AObj.cells 26 [A2 0],AObj.cells 39 [AV.slice true 1 ((Bt c l k).map Ac)],AObj.cells 22 [Ac (colsAt c l k)],AObj.defs,AObj.loop LoopState.ready none FR 29 #[19,20] as' bd' (oid Hp.length 4)]) (fun k=>Hp++[AObj.cells 39 [AV.nil],AObj.cells 26 [A2 0],AObj.cells 39 [AV.slice true 1 ((Bt c l (k+1)).map Ac)],AObj.cells 22 [Ac (colsAt c l k)],AObj.defs,AObj.loop LoopState.ready none FR 29 #[19,20] as' bd' (oid Hp.length 4)]) (NS c l) (fun V=>(∃(o:List (List Col)) (q:List Col),V=Hp++[AObj.cells 39 [AV.nil],AObj.cells 26 [A2 0],AObj.cells 39 [AV.slice true 1 ((o).map Ac)],AObj.cells 22 [Ac (q)],AObj.defs,AObj.loop LoopState.ready none FR 29 #[19,20] as' bd' (oid Hp.length 4)]∧C9 c l=(o,0))∨(∃(e:Int) (o:List (List Col)) (q:List Col),V=Hp++[AObj.cells 39 [AV.nil],AObj.cells 26 [A2 e],AObj.cells 39 [AV.slice true 1 ((o).map Ac)],AObj.cells 22 [Ac (q)],AObj.defs,AObj.loop LoopState.done (some Code.ret) FR 29 #[19,20] as' bd' (oid Hp.length 4)]∧e≠0∧(C9 c l).2=e)) (fun k=>by simp) (fun k=>by simp) (by simp [oid]) (by simp [oid]) (fun k=>(fun x hx=>by rw [List.length_append];exact hOl (lp:=AObj.loop LoopState.ready none FR 29 #[19,20] as' bd' (oid Hp.length 4)) (by exact ⟨hFRl,by simp [oid]⟩) x hx)) (fun k=>(fun x hx=>by rw [List.length_append];exact hOl (lp:=AObj.loop LoopState.ready none FR 29 #[19,20] as' bd' (oid Hp.length 4)) (by exact ⟨hFRl,by simp [oid]⟩) x hx)) zj (fun k=>by rw [Aq];rfl) (fun k=>by rw [Aq];rfl) (fun k m hk he=>by rw [E1];simp only [Gy hk];rfl) (fun k m X hk hN=>?_) (fun hN=>.inl ⟨_,_,rfl,mn hN⟩),?_⟩
 ·generalize hV:Hp++[AObj.cells 39 [AV.nil],AObj.cells 26 [A2 0],AObj.cells 39 [AV.slice true 1 ((Bt c l k).map Ac)],AObj.cells 22 [Ac (colsAt c l k)],AObj.defs,AObj.loop LoopState.ready none FR 29 #[19,20] as' bd' (oid Hp.length 4)]++X=V
  have hL:V[oid Hp.length 5]? = some (AObj.loop LoopState.ready none FR 29 #[19,20] as' bd' (oid Hp.length 4)):=by rw [←hV,List.append_assoc,Aq];rfl
  have hA0:V[oid Hp.length 2]? = some (AObj.cells 39 [AV.slice true 1 ((Bt c l k).map Ac)]):=by rw [←hV,List.append_assoc,Aq];rfl
  have hB0:V[oid Hp.length 0]? = some (AObj.cells 39 [AV.nil]):=by rw [←hV,List.append_assoc,Aq];rfl
  have hC0:V[oid Hp.length 1]? = some (AObj.cells 26 [A2 0]):=by rw [←hV,List.append_assoc,Aq];rfl
  refine AYield.ofRound (pd:=none) (fr:=FR) (sz:=29) (ps:=#[19,20]) (df:=oid Hp.length 4) (asg:=as') (bd:=bd') hL rfl (by decide) (fun d=>?_)
  subst hFR has hbd
  refine W.keep [4,5,6,19,20] ?_;refine Z2 ?_;refine R.fin [4,5,6,7,20] ?_;refine Z82 ?_;refine R.fin [4,5,6,7,8] ?_
  refine ⟨rfl,none,hL,?_⟩
  generalize hbz:(AObj.loop LoopState.busy _ _ _ _ _ _ _)=bz
  have hA:(V.set (oid Hp.length 5) bz)[oid Hp.length 2]? = some (AObj.cells 39 [AV.slice true 1 ((Bt c l k).map Ac)]):=by rw [List.getElem?_set_ne (B5 (by decide))];exact hA0
  have hB:(V.set (oid Hp.length 5) bz)[oid Hp.length 0]? = some (AObj.cells 39 [AV.nil]):=by rw [List.getElem?_set_ne (B5 (by decide))];exact hB0
  have hC:(V.set (oid Hp.length 5) bz)[oid Hp.length 1]? = some (AObj.cells 26 [A2 0]):=by rw [List.getElem?_set_ne (B5 (by decide))];exact hC0
  refine Gl ?_;refine Z22 ?_;refine R.fin [4,5,6,7,8,22] ?_
  refine W.cond (fun ht22=>?_) (fun ht22=>?_)
  ·have he:(Bf (colsAt c l k) m).2≠0:=by simpa using ht22
   refine Z2 ?_
   refine R.storeUp jS hB ?_ ?_
   ·simp
   refine R.storeUp jS (Ui hC (B5 (by decide))) ?_ ?_
   ·simp
   refine R.fin [] ?_;refine Y2 ?_;refine K.blR ?_
   subst hbz
   refine K.rdR (ak hL (B5 (by decide)) (B5 (by decide))) ?_
   refine .inl ⟨he,Hp++[AObj.cells 39 [AV.nil],AObj.cells 26 [A2 (Bf (colsAt c l k) m).2],AObj.cells 39 [AV.slice true 1 ((Bt c l k).map Ac)],AObj.cells 22 [Ac (colsAt c l k)],AObj.defs,_],?_,by simp,(fun x hx=>by rw [List.length_append];exact hOl (lp:=_) (by exact ⟨hFRl,by simp [oid]⟩) x hx),.inr ⟨_,_,_,rfl,he,Zk hk hN he⟩⟩
   subst hV
   simp only [List.append_assoc,E1,List.cons_append,List.nil_append,List.set_cons_succ,List.set_cons_zero]
  have he:(Bf (colsAt c l k) m).2=0:=by simpa using ht22
  refine Z6 ?_;refine AW.region ?_;refine R.loadUpT jA hA ?_;refine Z70 ?_
  refine R.append jU Tryz.type22 ?_ ?_ ?_
  ·have hol:=I7 c l k;have hkl:=(List.getElem?_eq_some_iff.1 hk).1;simp [Tryz.t22];omega
  ·have hol:=I7 c l k;have hkl:=(List.getElem?_eq_some_iff.1 hk).1;simp [Tryz.t22];omega
  refine R.storeUpT jS (getset hA) ?_ ?_
  ·exact gb
  refine Z85 ?_
  subst hbz
  refine pq ?_
  refine .inr ⟨he,rfl,bu hk hN he,?_⟩
  subst hV
  simp only [List.append_assoc,E1,List.cons_append,List.nil_append,List.set_cons_succ,List.set_cons_zero]
  rw [Bt,Gy hk,List.map_append]
  rfl
 rintro r H' (⟨o,q,rfl,hrun⟩|⟨e,o,q,rfl,hne,hrun⟩)
 ·refine ⟨Hp,_,_,_,rfl,rfl,fun h=>h,?_,rfl,by simp,?_⟩
  ·intro o ho
   have:o=oid Hp.length 4:=by simpa using ho
   subst this
   rw [Aq]
   rfl
  refine Z14 ?_;refine Z2 ?_;refine Fc ?_;refine Fc ?_;refine Z12 ?_;exact K.fin (V.two (V.cell jA) (V.cell jA)) ⟨by rw [Su hmay hrun],rfl⟩ (hlow:=by simp only [aj,List.mem_cons,List.mem_nil_iff,or_false];rintro y (rfl|rfl);exact Dy;simp)
 refine ⟨Hp,_,_,_,rfl,rfl,fun h=>h,?_,rfl,by simp,?_⟩
 ·intro o ho
  have:o=oid Hp.length 4:=by simpa using ho
  subst this
  rw [Aq]
  rfl
 refine W.nilOwn 0 1 ?_;refine AW.ret ?_;refine Z5 ?_;exact K.fin (V.two (V.cell jA) (V.cell jA)) ⟨by rw [Qo hmay (by rw [hrun];exact hne),hrun];rfl,rfl⟩

theorem Qp:∀(c:List Col) (ms:List Mov),(C9 c ms).1.length≤ms.length+1
 | c,[]=>by simp [C9]
 | c,m::r=>by
  rw [C9]
  split
  ·simp
  have:=Qp (Bf c m).1 r
  simp only [List.length_cons]
  omega
theorem Zl {n k:Nat} {o:Bool} {a:List Expr} {e:Expr}:Low n (.slice o k (a.map A5++[A5 e])):=low_slice.2 fun y hy=>by
 rcases List.mem_append.1 hy with h|h
 ·obtain ⟨m,_,rfl⟩:=List.mem_map.1 h
  exact Ad _ _
 rw [List.mem_singleton.1 h]
 exact Ad _ _
theorem Fj {n k:Nat} {o:Bool} {a:List Expr}:Low n (.slice o k (a.map A5)):=low_slice.2 fun y hy=>by
 obtain ⟨m,_,rfl⟩:=List.mem_map.1 hy
 exact Ad _ _
/-! fuse: trees in columns' places. -/
mutual
def putF (c:List Col) (l:List Expr):Expr→Option Expr
 | .mk o t v k=>if o==2 then (if B0 t c<0 then none else some (l.getD (B0 t c).toNat Ah)) else (t8 c l k).map fun k'=>.mk o t v k'
def t8 (c:List Col) (l:List Expr):List Expr→Option (List Expr)
  | []=>some []
  | e::r=>match putF c l e with
    | none=>none
    | some y=>(t8 c l r).map fun s=>y::s
 end
theorem Uj (o:Int) (t:Str) (v:Val) (k:List Expr):A5 (.mk o t v k)=.agg [A2 o,.v (sv t),A2 v.kind,A2 v.n,.v (sv v.s),.slice false 6 (k.map A5)]:=by rw [Ab];rfl
set_option maxRecDepth 8000
/-! The words of a print. -/
theorem rm (c:UInt8) (of:Str):J1 [c] of=if of.contains c then 1 else 0:=by
 have e2:=N4 [c] of
 have e3:=Ou [c] of
 have hle:runN [c] of≤1:=Nat.sub_le _ _
 have hlen:(Bm [c] of).length=runN [c] of:=by unfold Bm;rw [List.length_take];simp;omega
 rw [e3,←hlen,e2,List.takeWhile_cons]
 cases of.contains c<;>rfl
/-! What a tree comes to: eval's model. -/
abbrev Rs:=Val×Int
def C1 (e:Int):Rs:=(noV,e)
def Rp (s:Str):Val:=⟨2,0,s.take 200⟩
def Fk (x:Int×Int):Rs:=if x.2 != 0 then C1 x.2 else (⟨1,x.1,[]⟩,0)
def Qq (a b:Int):Int×Int:=if decide (Rx .i64 (Ns .i64 a (IntKind.i64.wrap (a+b))) (Ns .i64 b (IntKind.i64.wrap (a+b)))<0) then (0,4) else (IntKind.i64.wrap (a+b),0)
def Jw (a b:Int):Int×Int:=if decide (Rx .i64 (Ns .i64 a b) (Ns .i64 a (IntKind.i64.wrap (a-b)))<0) then (0,4) else (IntKind.i64.wrap (a-b),0)
def Od (a:Int):Int:=if decide (a<0) then IntKind.u64.wrap (0-IntKind.u64.wrap a) else IntKind.u64.wrap a
def Dg:List Val→List Int→Bool
 | _,[]=>true
 | [],_::_=>false
 | v::vs,k::ks=>(v.kind==k)&&Dg vs ks
def M7 (a b:Val):Rs:=if !Dg [a,b] [2,2] then C1 10 else if decide ((200:Int)<(a.s.length:Int)+(b.s.length:Int)) then C1 3 else (Rp (a.s++b.s),0)
def Af (r:Rs):Rs:=if (r.2==0)&&(r.1.kind != 0)&&(r.1.kind != 3) then C1 10 else r
def Gf (strong:Val) (a b:Rs):Rs:=if ((Af a).2 != 0) || ((Af a).1==strong) then Af a else if (((Af b).2 != 0) || ((Af b).1==strong)) || ((Af a).1.kind != 0) then Af b else ((Af a).1,0)
def ifW:Str:=[105,102]
def Uk:Str:=[110,118,108]
def Bg:Str:=[105,115,110,117,108,108]
def E4 (t:Str) (a b c:Rs):Rs:=
 if t==ifW then (if (Af a).2 != 0 then C1 (Af a).2 else if (Af a).1==F8 true then b else c)
 else if a.2 != 0 then C1 a.2 else if t==Bg then (F8 (a.1.kind==0),0) else if a.1.kind != 0 then (a.1,0) else b
def Qr (strict:List Val→Rs) (l:List Rs):Rs:=match l.find? (fun q=>q.2 != 0) with|some q=>C1 q.2|none=>if l.any (fun q=>q.1.kind==0) then (noV,0) else strict (l.map (·.1))
def Jx (c:List Col) (l:List Val) (t:Str):Rs:=if B0 t c<0 then C1 9 else (l.getD (B0 t c).toNat noV,0)
def orW:Str:=[111,114]
def rn:Str:=[97,110,100]
/-- A node, of what its kids come to; what a strict node comes to is a parameter. -/
def Jy (strict:Int→Str→List Val→Rs) (c:List Col) (l:List Val) (o:Int) (t:Str) (v:Val) (ks:List Rs):Rs:=
 if o==1 then (v,0) else if o==2 then Jx c l t
 else if (o==5)&&(t==orW) then Gf (F8 true) (ks.getD 0 (noV,0)) (ks.getD 1 (noV,0))
 else if (o==5)&&(t==rn) then Gf (F8 false) (ks.getD 0 (noV,0)) (ks.getD 1 (noV,0))
 else if (o==6)&&(((t==ifW) || (t==Uk)) || (t==Bg)) then E4 t (ks.getD 0 (noV,0)) (ks.getD 1 (noV,0)) (ks.getD 2 (noV,0))
 else Qr (strict o t) ks
mutual
def Hd (strict:Int→Str→List Val→Rs) (c:List Col) (l:List Val):Expr→Rs
 | .mk o t v k=>Jy strict c l o t v (Kq strict c l k)
def Kq (strict:Int→Str→List Val→Rs) (c:List Col) (l:List Val):List Expr→List Rs
  | []=>[]
  | e::r=>Hd strict c l e::Kq strict c l r
 end
theorem Sv (f:Int→Str→List Val→Rs) (c:List Col) (l:List Val):∀k,Kq f c l k=k.map (Hd f c l)
 | []=>rfl
 | e::r=>by rw [Kq,Sv f c l r];rfl
theorem Wv (f:Int→Str→List Val→Rs) (c:List Col) (l:List Val) (e:Expr):Hd f c l e=Jy f c l e.op e.text e.val (e.kids.map (Hd f c l)):=by cases e;rw [Hd,Sv];rfl
def I8 (c:List Col) (l:List Val):Bool:=(Lv c&&(l.length==c.length))&&(l.zip c).all fun p=>By p.1&&((p.1.kind==0) || (p.1.kind==p.2.kind))
/-- eval.Eval. -/
def mp (f:Int→Str→List Val→Rs) (x:Expr) (c:List Col) (l:List Val):Rs:=if (!(Ax x)) || !(I8 c l) then C1 1 else Hd f c l x
/-! A tree in a column's place comes to what its value would there. -/
mutual
theorem eval_put {f:Int→Str→List Val→Rs} {c:List Col} {l m:List Val} {s:Str} {y:Expr} (hs:Jx c m s=Hd f c l y) (ho:∀t,t≠s→Jx c m t=Jx c l t):∀x:Expr,Hd f c l (vf s y x)=Hd f c m x
 | .mk o t v k=>by
  rw [vf]
  split
  ·rename_i h
   rw [Bool.and_eq_true,beq_iff_eq,beq_iff_eq] at h
   obtain ⟨rfl,rfl⟩:=h
   rw [←hs,Hd]
   rfl
  rename_i h
  rw [Hd,Hd,Sw hs ho k]
  unfold Jy
  by_cases h2:(o==2)=true
  ·have:t≠s:=fun e=>h (by rw [h2,e];simp)
   rw [ho t this]
  rw [if_neg h2,if_neg h2]
theorem Sw {f:Int→Str→List Val→Rs} {c:List Col} {l m:List Val} {s:Str} {y:Expr} (hs:Jx c m s=Hd f c l y) (ho:∀t,t≠s→Jx c m t=Jx c l t):∀k:List Expr,Kq f c l (qe s y k)=Kq f c m k
  | []=>rfl
  | e::r=>by rw [qe,Kq,Kq,eval_put hs ho e,Sw hs ho r]
 end
/-! Who is not named plays no part. -/
/-! What a strict node comes to. -/
def L9 (a b:Int):Int×Int:=
 let p:=Od a*Od b
 let below:=decide (a<0) != decide (b<0)
 if decide (0<p / 18446744073709551616) || decide ((if below then 9223372036854775808 else 9223372036854775807)<p % 18446744073709551616) then (0,4)
 else if below then (IntKind.i64.wrap (IntKind.u64.wrap (0-p % 18446744073709551616)),0) else (IntKind.i64.wrap (p % 18446744073709551616),0)
def Fl (a b:Int):Int×Int:=if b==0 then (0,5) else if (a == -9223372036854775808)&&(b == -1) then (0,4) else (IntKind.i64.wrap (a.tdiv b),0)
def M8 (a b:Int):Int×Int:=if b==0 then (0,5) else if b == -1 then (0,0) else (IntKind.i64.wrap (a.tmod b),0)
def Ai (t:Str) (a b:Int):Int×Int:=if t==[43] then Qq a b else if t==[45] then Jw a b else if t==[42] then L9 a b else if t==[47] then Fl a b else M8 a b
def A4 (t:Str) (c:Int):Bool×Bool:=if t==[61] then (c==0,true) else if t==[33,61] then (c != 0,true) else if t==[60] then (decide (c<0),true) else if t==[60,61] then (decide (c≤0),true) else if t==[62] then (decide (0<c),true) else if t==[62,61] then (decide (0≤c),true) else (false,false)
def J6 (a b:Int):Int:=if decide (a<b) then -1 else if decide (b<a) then 1 else 0
def orI:List Int→Int
 | []=>0
 | a::r=>if a != 0 then a else orI r
def gc (a b:Val):Int:=if (!(By a)) || !(By b) then 0 else orI [J6 a.kind b.kind,J6 a.n b.n,Lib.compareBytes a.s b.s]
def La (t:Str) (a b:Val):Rs:=if (A4 t (gc a b)).2 then (if a.kind != b.kind then C1 10 else (F8 (A4 t (gc a b)).1,0)) else if t==[38] then M7 a b else if !Dg [a,b] [1,1] then C1 10 else Fk (Ai t a.n b.n)
def J0 (t:Str) (v:Val):Rs:=if (t==[115,116,114])&&(v.kind==1) then (Rp (Lib.itoa v.n),0) else if (t==[108,101,110])&&(v.kind==2) then (⟨1,v.s.length,[]⟩,0) else if (t==[110,117,109])&&(v.kind==2) then Fk (Bx v.s) else C1 10
def Jz (t:Str) (s:Str) (n:Int):Val:=if t==[108,101,102,116] then Rp (s.take (max 0 (min n s.length)).toNat) else Rp (s.drop (s.length-(max 0 (min n s.length)).toNat))
def Bi (o:Int) (t:Str) (l:List Val):Rs:=
 if o==5 then La t (l.getD 0 noV) (l.getD 1 noV) else if (o==3)&&Dg l [1] then Fk (Jw 0 (l.getD 0 noV).n) else if (o==4)&&Dg l [3] then (F8 ((l.getD 0 noV).n==0),0)
 else if o != 6 then C1 10 else if (l.length:Int)==1 then J0 t (l.getD 0 noV) else if !Dg l [2,1] then C1 10 else (Jz t (l.getD 0 noV).s (l.getD 1 noV).n,0)
abbrev C4 (c:List Col) (l:List Val) (e:Expr):Rs:=Hd Bi c l e
abbrev Gi (x:Expr) (c:List Col) (l:List Val):Rs:=mp Bi x c l
/-! Values are plain, and their numbers have 64 bits. -/
structure Fine (v:Val):Prop where
 plain:By v=true
 lo : -9223372036854775808≤v.n
 hi:v.n≤9223372036854775807
theorem Hm:Fine noV:=⟨rfl,by decide,by decide⟩
theorem Nf (b:Bool):Fine (F8 b):=by cases b<;>exact ⟨rfl,by decide,by decide⟩
theorem Ww {n:Int} (h0 : -9223372036854775808≤n) (h1:n≤9223372036854775807):Fine ⟨1,n,[]⟩:=⟨rfl,h0,h1⟩
theorem M9 (s:Str):Fine (Rp s):=⟨by
 unfold By Rp
 simp only [show ((2:Int)==0)=false from rfl,show ((2:Int)==1)=false from rfl,show ((2:Int)==2)=true from rfl,Bool.false_eq_true,if_false,if_true,show ((0:Int)==0)=true from rfl,Bool.true_and,decide_eq_true_eq,List.length_take]
 omega,by show -9223372036854775808≤(0:Int);decide,by show (0:Int)≤9223372036854775807;decide⟩
theorem Fine.len {v:Val} (h:Fine v):v.s.length≤200:=by
 have h:=h.plain
 unfold By at h
 split at h
 ·simp only [Bool.and_eq_true,beq_iff_eq] at h;rw [h.2];exact Nat.zero_le _
 split at h
 ·rw [beq_iff_eq] at h;rw [h];exact Nat.zero_le _
 split at h
 ·simp only [Bool.and_eq_true,decide_eq_true_eq] at h;omega
 simp only [Bool.and_eq_true,beq_iff_eq] at h;rw [h.1.1.2];exact Nat.zero_le _
theorem Lc {x:Int×Int} (h0:x.2=0 → -9223372036854775808≤x.1) (h1:x.2=0→x.1≤9223372036854775807):Fine (Fk x).1:=by
 unfold Fk
 split
 ·exact Hm
 rename_i h
 have h:x.2=0:=by simpa using h
 exact Ww (h0 h) (h1 h)
theorem Qs (e:Int):Fine (C1 e).1:=Hm
theorem It (n:Int) : -9223372036854775808≤IntKind.i64.wrap n∧IntKind.i64.wrap n≤9223372036854775807:=by rw [IntKind.wrap_i64];omega
theorem mq (a b:Int):Fine (Fk (Jw a b)).1:=by
 refine Lc (fun _=>?_) (fun _=>?_)<;>unfold Jw<;>split
 ·show -9223372036854775808≤(0:Int);decide
 ·exact (It _).1
 ·show (0:Int)≤9223372036854775807;decide
 exact (It _).2
theorem Wx (t:Str) (a b:Int) : -9223372036854775808≤(Ai t a b).1∧(Ai t a b).1≤9223372036854775807:=by
 have z : -9223372036854775808≤(0:Int)∧(0:Int)≤9223372036854775807:=by decide
 unfold Ai
 split
 ·unfold Qq;split;exact z;exact It _
 split
 ·unfold Jw;split;exact z;exact It _
 split
 ·unfold L9
  simp only
  repeat' split
  all_goals first|exact z|exact It _
 split
 ·unfold Fl;split;exact z;split;exact z;exact It _
 unfold M8;split;exact z;split;exact z;exact It _
theorem mr {t:Str} {a b:Val}:Fine (La t a b).1:=by
 unfold La
 split
 ·split
  ·exact Rf
  exact Nf _
 split
 ·unfold M7
  split
  ·exact Rf
  split
  ·exact Rf
  exact M9 _
 split
 ·exact Rf
 exact Lc (fun _=>(Wx _ _ _).1) (fun _=>(Wx _ _ _).2)
theorem mt (s:Str) : -9223372036854775808≤(Bx s).1∧(Bx s).1≤9223372036854775807:=by
 unfold Bx
 split
 ·decide
 split
 ·rename_i v h
  have:=Lib.parseIntB_bounds h
  simp only [show ((2 ^ (64-1):Nat):Int)=9223372036854775808 by decide] at this
  show -9223372036854775808≤v∧v≤9223372036854775807
  omega
 ·decide
 decide
theorem mu {t:Str} {v:Val} (h:Fine v):Fine (J0 t v).1:=by
 unfold J0
 split
 ·exact M9 _
 split
 ·have:=h.len
  exact Ww (by omega) (by omega)
 split
 ·exact Lc (fun _=>(mt _).1) (fun _=>(mt _).2)
 exact Rf
theorem Wy {o:Int} {t:Str} {l:List Val} (h:∀v∈l,Fine v):Fine (Bi o t l).1:=by
 have h0:Fine (l.getD 0 noV):=by cases l with|nil=>exact Hm|cons a r=>exact h a List.mem_cons_self
 unfold Bi
 split
 ·exact mr
 split
 ·exact mq _ _
 split
 ·exact Nf _
 split
 ·exact Rf
 split
 ·exact mu h0
 split
 ·exact Rf
 unfold Jz
 split<;>exact M9 _
theorem Ld {r:Rs} (h:Fine r.1):Fine (Af r).1:=by
 unfold Af
 split
 ·exact Rf
 exact h
theorem Qt {s:Val} {a b:Rs} (ha:Fine a.1) (hb:Fine b.1):Fine (Gf s a b).1:=by
 unfold Gf
 split
 ·exact Ld ha
 split
 ·exact Ld hb
 exact Ld ha
theorem ge {t:Str} {a b c:Rs} (ha:Fine a.1) (hb:Fine b.1) (hc:Fine c.1):Fine (E4 t a b c).1:=by
 unfold E4
 repeat' split
 all_goals first|exact Qs _|exact hb|exact hc|exact ha|exact Nf _
theorem mv {f:List Val→Rs} {l:List Rs} (hf:∀k:List Val,(∀v∈k,Fine v)→Fine (f k).1) (h:∀r∈l,Fine r.1):Fine (Qr f l).1:=by
 unfold Qr
 split
 ·exact Rf
 split
 ·exact Hm
 refine hf _ fun v hv=>?_
 obtain ⟨r,hr,rfl⟩:=List.mem_map.1 hv
 exact h r hr
theorem gg {c:List Col} {l:List Val} (h:∀v∈l,Fine v) (t:Str):Fine (Jx c l t).1:=by
 unfold Jx
 split
 ·exact Rf
 show Fine (l.getD _ noV)
 rw [List.getD_eq_getElem?_getD]
 cases hg:l[(B0 t c).toNat]? with
 | none=>exact Hm
 | some v=>exact h v (List.mem_of_getElem? hg)
def I9 (e:Expr):Bool := !(e.op==1) || By e.val
theorem Fm {k:List Rs} (h:∀r∈k,Fine r.1) (i:Nat):Fine (k.getD i (noV,0)).1:=by
 rw [List.getD_eq_getElem?_getD]
 cases hg:k[i]? with
 | none=>exact Hm
 | some r=>exact h r (List.mem_of_getElem? hg)
mutual
theorem Ng {c:List Col} {l:List Val} (h:∀v∈l,Fine v):∀e:Expr,Bk I9 e=true→Bk Dr e=true→Fine (C4 c l e).1
 | .mk o t v k,h1,h2=>by
  rw [Bk,Bool.and_eq_true] at h1 h2
  have hk:=Qu (c:=c) h k h1.2 h2.2
  rw [C4,Hd]
  unfold Jy
  split
  ·rename_i ho
   have p:=h1.1
   unfold I9 at p
   rw [show (Expr.mk o t v k).op=o from rfl,ho] at p
   have q:=h2.1
   unfold Dr at q
   simp only [Bool.and_eq_true,decide_eq_true_eq] at q
   exact ⟨by show By (Expr.mk o t v k).val=true;simpa using p,q.1,q.2⟩
  split
  ·exact gg h t
  split
  ·exact Qt (Fm hk 0) (Fm hk 1)
  split
  ·exact Qt (Fm hk 0) (Fm hk 1)
  split
  ·exact ge (Fm hk 0) (Fm hk 1) (Fm hk 2)
  exact mv (fun _ hl=>Wy hl) hk
theorem Qu {c:List Col} {l:List Val} (h:∀v∈l,Fine v):∀k:List Expr,I3 I9 k=true→I3 Dr k=true→∀r∈Kq Bi c l k,Fine r.1
  | [],_,_=>fun r hr=>by cases hr
  | e::k,h1,h2=>by
    rw [I3,Bool.and_eq_true] at h1 h2
    intro r hr
    rw [Kq] at hr
    rcases List.mem_cons.1 hr with rfl|hr
    · exact Ng h e h1.1 h2.1
    exact Qu h k h1.2 h2.2 r hr
 end
/-! A text between marks. -/
set_option maxRecDepth 4000
set_option maxRecDepth 8000
/-! Who decides decides: the law's sources, columns and truths. -/
/-! Rows. -/
theorem row_iff {c:List Col} {l:List Val}:I8 c l=true↔Iy c=true∧l.length=c.length∧∀(i:Nat) (v:Val) (y:Col),l[i]? = some v→c[i]? = some y→By v=true∧(v.kind=0∨v.kind=y.kind):=by
 unfold I8
 rw [Bool.and_eq_true,Bool.and_eq_true,Lw,beq_iff_eq,List.all_eq_true,and_assoc]
 refine and_congr_right fun _=>and_congr_right fun hl=>⟨fun h i v y hv hy=>?_,fun h p hp=>?_⟩
 ·have:=h (v,y) (List.mem_of_getElem? (i:=i) (by rw [List.getElem?_zip_eq_some];exact ⟨hv,hy⟩))
  simpa using this
 obtain ⟨i,hi⟩:=List.getElem?_of_mem hp
 rw [List.getElem?_zip_eq_some] at hi
 have:=h i p.1 p.2 hi.1 hi.2
 simpa using this
/-! Rows that differ in what is not named. -/
/-! Who has a kind comes to it. -/
theorem Lf {t:Str} {n:Nat} (h:Ay t=(n:Int)):(t=[108,101,110]∧n=1)∨(t=[115,116,114]∧n=1)∨(t=[110,117,109]∧n=1)∨(t=Bg∧n=1)∨(t=Uk∧n=2)∨(t=[108,101,102,116]∧n=2)∨(t=[114,105,103,104,116]∧n=2)∨(t=ifW∧n=3):=by
 by_cases hm:t∈arityList.map (·.1)
 ·have ha:∀s∈arityList.map (·.1),(s=[108,101,110]∧Ay s=1)∨(s=[115,116,114]∧Ay s=1)∨(s=[110,117,109]∧Ay s=1)∨(s=Bg∧Ay s=1)∨(s=Uk∧Ay s=2)∨(s=[108,101,102,116]∧Ay s=2)∨(s=[114,105,103,104,116]∧Ay s=2)∨(s=ifW∧Ay s=3):=by
   have:((arityList.map (·.1)).all fun s=>decide ((s=[108,101,110]∧Ay s=1)∨(s=[115,116,114]∧Ay s=1)∨(s=[110,117,109]∧Ay s=1)∨(s=Bg∧Ay s=1)∨(s=Uk∧Ay s=2)∨(s=[108,101,102,116]∧Ay s=2)∨(s=[114,105,103,104,116]∧Ay s=2)∨(s=ifW∧Ay s=3)))=true:=by kernel_rfl
   exact fun s hs=>of_decide_eq_true (List.all_eq_true.1 this s hs)
  have:=ha t hm
  rw [h] at this
  rcases this with ⟨e,h2⟩|⟨e,h2⟩|⟨e,h2⟩|⟨e,h2⟩|⟨e,h2⟩|⟨e,h2⟩|⟨e,h2⟩|⟨e,h2⟩
  ·exact .inl ⟨e,by omega⟩
  ·exact .inr (.inl ⟨e,by omega⟩)
  ·exact .inr (.inr (.inl ⟨e,by omega⟩))
  ·exact .inr (.inr (.inr (.inl ⟨e,by omega⟩)))
  ·exact .inr (.inr (.inr (.inr (.inl ⟨e,by omega⟩))))
  ·exact .inr (.inr (.inr (.inr (.inr (.inl ⟨e,by omega⟩)))))
  ·exact .inr (.inr (.inr (.inr (.inr (.inr (.inl ⟨e,by omega⟩))))))
  exact .inr (.inr (.inr (.inr (.inr (.inr (.inr ⟨e,by omega⟩))))))
 have h1:Ay t = -1:=by
  unfold Ay
  rw [List.find?_eq_none.2 fun p hp=>by
   simp only [beq_iff_eq]
   rintro rfl
   exact hm (List.mem_map.2 ⟨p,hp,rfl⟩)]
 omega
theorem Ul {k:List Expr} (h:k.length=2):∃a b,k=[a,b]:=by match k,h with|[a,b],_=>exact ⟨a,b,rfl⟩
/-! The print of a tree, and its words. -/
/-! What was parsed nests no deeper than may be. -/
structure NB (N k:Nat) (r:Expr×PS):Prop where
 nest:r.2.nest=N
 need:r.2.code=0→N+F4 k r.1 (C0 r.1)≤30
def NF (N k:Nat) (f:PS→Expr×PS):Prop:=∀S:PS,S.nest=N→NB N k (f S)
theorem gh {k k':Nat} (h:k≤k') (x:Expr) (n:Nat):F4 k x n≤F4 k' x n:=by
 unfold F4
 split
 ·split<;>omega
 rw [if_neg (by omega)];exact Nat.le_refl _
theorem Ma (k:Nat) (x:Expr) (n:Nat):n≤F4 k x n∧F4 k x n≤n+1:=by unfold F4;split<;>omega
theorem NB.down {N k k':Nat} {r:Expr×PS} (h:NB N k' r) (hk:k≤k'):NB N k r:=⟨h.nest,fun h0=>by
 have:=h.need h0
 have:=gh hk r.1 (C0 r.1)
 omega⟩
theorem Kf (e a:Int) (S:PS):(Cf e a S).nest=S.nest:=by unfold Cf;split<;>rfl
theorem Gz {e a:Int} (he:e≠0) (S:PS):(Cf e a S).code≠0:=by
 unfold Cf
 split
 ·exact he
 rename_i h;simpa using h
theorem Nh (l:List Tok) (s:Str) (S:PS):(D7 l s S).nest=S.nest:=by
 unfold D7
 split
 ·rfl
 split
 ·exact Kf _ _ _
 rfl
theorem Ia {l:List Tok} {s:Str} {S:PS} (h:(D7 l s S).code=0):S.code=0:=by
 unfold D7 at h
 split at h
 ·exact h
 rename_i h0;simpa using h0
theorem Ni {N k:Nat} {a:Int} {f:PS→Expr×PS} (hN:N≤30) (hf:N<30→NF (N+1) k f) {S:PS} (hS:S.nest=N):(Aj a f S).2.nest=N∧((Aj a f S).2.code=0→N+1+F4 k (Aj a f S).1 (C0 (Aj a f S).1)≤30):=by
 unfold Aj
 split
 ·exact yd
 rename_i h
 have hlt:N<30:=by simp at h;omega
 have:=hf hlt (B9 S) (by show S.nest+1=N+1;omega)
 refine ⟨?_,fun h0=>this.need h0⟩
 show (f (B9 S)).2.nest-1=N
 rw [this.nest]
 rfl
theorem bv {N:Nat} {l:List Tok} {f:PS→Expr×PS} (hf:NF N 0 f):∀(n:Nat) (r:List Expr×PS),r.2.nest=N→(r.2.code=0→∀y∈r.1,N+C0 y≤30)→(argsF l f n r).2.nest=N∧((argsF l f n r).2.code=0→∀y∈(argsF l f n r).1,N+C0 y≤30)
 | 0,r,h1,h2=>⟨h1,h2⟩
 | n+1,r,h1,h2=>by
  rw [argsF]
  split
  ·rename_i hc
   simp only [Bool.and_eq_true,beq_iff_eq] at hc
   have hq:=hf (A8 r.2) h1
   refine bv hf n _ hq.nest (fun h0 y hy=>?_)
   rcases List.mem_append.1 hy with hy|hy
   ·exact h2 hc.1 y hy
   rw [List.mem_singleton.1 hy]
   have:=hq.need h0
   have:=(Ma 0 (f (A8 r.2)).1 (C0 (f (A8 r.2)).1)).1
   omega
  exact ⟨h1,h2⟩
theorem rp {l:List Expr} {m:Nat} (h:∀y∈l,C0 y≤m):lw (M4 l)≤m:=by
 induction l with
 | nil=>exact Nat.zero_le _
 | cons a r ih =>
  rw [M4,lw]
  have h1:=h a List.mem_cons_self
  have h2:=ih fun y hy=>h y (List.mem_cons_of_mem _ hy)
  omega
theorem rq {N:Nat} {l:List Tok} {a:Int} {f:PS→Expr×PS} (hN:N≤30) (hf:N<30→NF (N+1) 0 f) {S:PS} (hS:S.nest=N):(Hj l a f S).2.nest=N∧((Hj l a f S).2.code=0→∀y∈(Hj l a f S).1,N+1+C0 y≤30):=by
 unfold Hj
 split
 ·exact yd
 rename_i h
 have hlt:N<30:=by simp at h;omega
 have hq:=hf hlt (B9 S) (by show S.nest+1=N+1;omega)
 obtain ⟨h1,h2⟩:=bv (l:=l) (hf hlt) l.length ([(f (B9 S)).1],(f (B9 S)).2) hq.nest (fun h0 y hy=>by
  rw [List.mem_singleton.1 hy]
  have:=hq.need h0
  have:=(Ma 0 (f (B9 S)).1 (C0 (f (B9 S)).1)).1
  omega)
 refine ⟨?_,h2⟩
 show (Ev l f (B9 S)).2.nest-1=N
 unfold Ev
 rw [h1]
 rfl
theorem rr {N:Nat} {l:List Tok} {D:Fam} (hN:N≤30) (hD:N<30→NF (N+1) 0 D.ei):NF N 7 (Dk l D):=fun S hS=>by
 have leaf:∀(x:Expr) (S':PS),S'.nest=N→C0 x=0→J5 x=7→NB N 7 (x,S'):=fun x S' h1 h2 h3=>⟨h1,fun _=>by
  show N+F4 7 x (C0 x)≤30
  unfold F4
  rw [h3,h2,if_pos (by decide)]
  omega⟩
 have bad:∀(x:Expr) (S':PS),S'.nest=N→S'.code≠0→NB N 7 (x,S'):=fun x S' h1 h2=>⟨h1,fun h=>absurd h h2⟩
 unfold Dk
 split
 ·rename_i h;exact bad _ _ hS (by simpa using h)
 split
 ·exact leaf _ _ hS (Wk _) (bi _)
 split
 ·exact leaf _ _ hS (Wk _) (bi _)
 split
 ·split
  ·unfold Ew
   split
   ·exact ye
   have hk:=rq (l:=l) (a:=(A7 l (A8 S).i).at_) hN hD (show (A8 (A8 S)).nest=N from hS)
   split
   ·exact bad _ _ ((Kf _ _ _).trans ((Nh _ _ _).trans hk.1)) (Gz (by decide) _)
   refine ⟨(Nh _ _ _).trans hk.1,fun h0=>?_⟩
   have hkk:=hk.2 (Ia h0)
   show N+F4 7 (.mk 6 _ noV (Bl l D (A8 S)).1) (C0 (.mk 6 _ noV (Bl l D (A8 S)).1))≤30
   rw [fp]
   unfold F4
   rw [lz,if_pos (by decide)]
   by_cases hlt:N<30
   ·have:=rp (l:=(Bl l D (A8 S)).1) (m:=30-N-1) (fun y hy=>by have:=hkk y hy;omega)
    omega
   exfalso
   have hc:=Ia h0
   unfold Bl Hj at hc
   rw [if_pos (by show ((S.nest:Int)==30)=true;simp;omega)] at hc
   exact Gz (by decide) _ hc
  exact leaf _ _ hS (fm _) (ly _)
 split
 ·have hw:=Ni (a:=(A7 l S.i).at_) hN hD (show (A8 S).nest=N from hS)
  refine ⟨(Nh _ _ _).trans hw.1,fun h0=>?_⟩
  have h1:=hw.2 (Ia h0)
  have h2:=(Ma 0 (Aj (A7 l S.i).at_ D.ei (A8 S)).1 (C0 (Aj (A7 l S.i).at_ D.ei (A8 S)).1)).1
  have h3:=(Ma 7 (Aj (A7 l S.i).at_ D.ei (A8 S)).1 (C0 (Aj (A7 l S.i).at_ D.ei (A8 S)).1)).2
  show N+F4 7 (Aj (A7 l S.i).at_ D.ei (A8 S)).1 (C0 (Aj (A7 l S.i).at_ D.ei (A8 S)).1)≤30
  omega
 exact ye
theorem mw {N:Nat} {l:List Tok} {D:Fam} (hN:N≤30) (hD:N<30→NF (N+1) 0 D.ei) (hn:N<30→NF (N+1) 6 D.ne):NF N 6 (J3 l D):=fun S hS=>by
 unfold J3
 split
 ·exact (rr hN hD S hS).down (by decide)
 have hw:=Ni (a:=(A7 l S.i).at_) hN hn (show (A8 S).nest=N from hS)
 refine ⟨hw.1,fun h0=>?_⟩
 have h1:=hw.2 h0
 show N+F4 6 (Dh 3 (Aj (A7 l S.i).at_ D.ne (A8 S)).1) _≤30
 unfold F4
 rw [qz,if_pos (by decide),lx]
 omega
theorem Iu {N k:Nat} {l:List Tok} {f:PS→Expr×PS} (hk:k=0∨k=1∨k=4∨k=5) (hf:NF N (k+1) f):NF N k (Dj l (ofL k) f):=by
 have hloop:∀(n:Nat) (r:Expr×PS),NB N k r→NB N k (Ko l (ofL k) f n r):=by
  intro n
  induction n with
  | zero=>exact fun r h=>h
  | succ n ih =>
   intro r h
   rw [Ko]
   split
   ·rename_i hc
    simp only [Bool.and_eq_true,beq_iff_eq] at hc
    have hq:=hf (A8 r.2) h.nest
    refine ih _ ⟨hq.nest,fun h0=>?_⟩
    have hlv:Ci (A7 l r.2.i).text=(k:Int):=by
     have hm:=hc.2
     unfold isM at hm
     rw [Bool.and_eq_true] at hm
     have:=hm.2
     rw [Ir (Wm hk)] at this
     simpa using this
    have h1:=h.need hc.1
    have h2:=hq.need h0
    have hfl:N9 k=k:=by unfold N9;rw [if_neg (by omega)]
    show N+F4 k (Ej (A7 l r.2.i).text r.1 (f (A8 r.2)).1) (C0 (Ej (A7 l r.2.i).text r.1 (f (A8 r.2)).1))≤30
    rw [Wl,hlv]
    rw [show F4 k (Ej (A7 l r.2.i).text r.1 (f (A8 r.2)).1) _=_ from if_pos (by rw [bj,hlv];simp)]
    rw [Int.toNat_natCast,hfl]
    omega
   exact h
 exact fun S hS=>hloop _ _ ((hf S hS).down (Nat.le_succ k))
theorem mx {N:Nat} {l:List Tok} {D:Fam} (hf:NF N 4 (Bs l D)):NF N 3 (Ck l D):=fun S hS=>by
 unfold Ck
 split
 ·exact (hf S hS).down (by decide)
 rename_i hc
 simp only [Bool.or_eq_true,not_or,bne_iff_ne,ne_eq,Decidable.not_not,Bool.not_eq_true',Bool.not_eq_false] at hc
 have hx:=hf S hS
 have hq:=hf (A8 (Bs l D S).2) hx.nest
 refine ⟨hq.nest,fun h0=>?_⟩
 have hlv:Ci (A7 l (Bs l D S).2.i).text=((3:Nat):Int):=by
  have hm:=hc.2
  unfold isM at hm
  rw [Bool.and_eq_true] at hm
  have:=hm.2
  rw [show f9=ofL 3 from rfl,Ir (.inr (.inr (.inl rfl)))] at this
  simpa using this
 have h1:=hx.need hc.1
 have h2:=hq.need h0
 show N+F4 3 (Ej (A7 l (Bs l D S).2.i).text (Bs l D S).1 (Bs l D (A8 (Bs l D S).2)).1) (C0 (Ej (A7 l (Bs l D S).2.i).text (Bs l D S).1 (Bs l D (A8 (Bs l D S).2)).1))≤30
 rw [Wl,hlv]
 rw [show F4 3 (Ej (A7 l (Bs l D S).2.i).text (Bs l D S).1 (Bs l D (A8 (Bs l D S).2)).1) _=_ from if_pos (by rw [bj,hlv];simp)]
 rw [Int.toNat_natCast,show N9 3=4 from rfl,show 3+1=4 from rfl]
 omega
theorem my {N:Nat} {l:List Tok} {D:Fam} (hN:N≤30) (hf:NF N 3 (Ck l D)) (hn:N<30→NF (N+1) 2 D.no):NF N 2 (J4 l D):=fun S hS=>by
 unfold J4
 split
 ·exact (hf S hS).down (by decide)
 have hw:=Ni (a:=(A7 l S.i).at_) hN hn (show (A8 S).nest=N from hS)
 refine ⟨hw.1,fun h0=>?_⟩
 have h1:=hw.2 h0
 show N+F4 2 (Dh 4 (Aj (A7 l S.i).at_ D.no (A8 S)).1) _≤30
 unfold F4
 rw [vm,if_pos (by decide),qy]
 omega
theorem Zm (l:List Tok):∀(d N:Nat),N+d=30→NF N 0 (Ke l (Bv l d))∧NF N 2 (J4 l (Bv l d))∧NF N 6 (J3 l (Bv l d))
 | d,N,h=>by
  have ih:N<30→NF (N+1) 0 (Bv l d).ei∧NF (N+1) 2 (Bv l d).no∧NF (N+1) 6 (Bv l d).ne:=fun hlt=>by
   match d,h with
   | 0,h=>omega
   | d+1,h=>exact Zm l d (N+1) (by omega)
  have hneg:=mw (l:=l) (D:=Bv l d) (by omega) (fun h=>(ih h).1) (fun h=>(ih h).2.2)
  have hsum:NF N 4 (Bs l (Bv l d)):=Iu (k:=4) (by decide) (Iu (k:=5) (by decide) hneg)
  have hno:=my (by omega) (mx hsum) (fun h=>(ih h).2.1)
  exact ⟨Iu (k:=0) (by decide) (Iu (k:=1) (by decide) hno),hno,hneg⟩
theorem gi:C0 Ah≤30:=by decide
/-! What nests too deep is told to be too deep. -/
def F2 (l:List Tok) (x:Expr):Prop:=∀(k:Nat) (S:PS) (rest:List TK),(k=0∨k=1∨k=4∨k=5)→k≤J5 x→S.code=0→S.nest≤30→30<S.nest+C0 x→seg l S.i=Qj x++rest→lv (k+1) rest→(Dj l (ofL k) (pf l (fam l S.nest) (k+1)) S).2.code=18
/-! What was parsed is right, where the words are the lexer's. -/
/-- What the lexer's words are. -/
structure WordOk (t:Tok):Prop where
 name:t.kind=1→F7 t.text=true
 num:t.kind=3→By (D6 t.text).1=true∧0≤(D6 t.text).1.n∧(D6 t.text).1.n≤9223372036854775807
def RB (r:Expr×PS):Prop:=r.2.code=0→Bk Ba r.1=true∧Bk Dr r.1=true
def RF (N:Nat) (f:PS→Expr×PS):Prop:=∀S:PS,S.nest=N→RB (f S)
theorem mz {t:Str} {x y:Expr} (ht:0≤Ci t):Ba (Ej t x y)=true:=by
 rw [G7,Ej,Eb]
 simp [ht,show G6 noV=true from rfl]
theorem gj (x:Expr):Ba (Dh 3 x)=true:=by rw [G7,Dh,Eb];simp [show G6 noV=true from rfl]
theorem gk (x:Expr):Ba (Dh 4 x)=true:=by rw [G7,Dh,Eb];simp [show G6 noV=true from rfl]
theorem gm {v:Val} (h:By v=true) (h0:0≤v.n):Ba (Gr v)=true:=by rw [G7,Gr,Eb];simp [h,h0]
theorem Zn {t:Str} (h:F7 t=true):Ba (C3 t)=true:=by rw [G7,C3,Eb];simp [h,show G6 ⟨0,0,[]⟩=true from rfl]
theorem gn {t:Str} {k:List Expr} (h:Ay t=(k.length:Int)):Ba (.mk 6 t noV k)=true:=by rw [G7,Eb];simp [h,show G6 noV=true from rfl]
theorem n5 {t:Str} {x y:Expr} (ht:0≤Ci t) (hx:Bk Ba x=true∧Bk Dr x=true) (hy:Bk Ba y=true∧Bk Dr y=true):Bk Ba (Ej t x y)=true∧Bk Dr (Ej t x y)=true:=by
 rw [E2,E2]
 refine ⟨?_,?_⟩
 ·rw [mz ht]
  show (true&&(Bk Ba x&&(Bk Ba y&&true)))=true
  rw [hx.1,hy.1];rfl
 show (Dr (Ej t x y)&&(Bk Dr x&&(Bk Dr y&&true)))=true
 rw [hx.2,hy.2];rfl
theorem n6 {o:Int} {x:Expr} (ho:Ba (Dh o x)=true) (hx:Bk Ba x=true∧Bk Dr x=true):Bk Ba (Dh o x)=true∧Bk Dr (Dh o x)=true:=by
 rw [E2,E2]
 refine ⟨?_,?_⟩
 ·rw [ho]
  show (true&&(Bk Ba x&&true))=true
  rw [hx.1];rfl
 show (Dr (Dh o x)&&(Bk Dr x&&true))=true
 rw [hx.2];rfl
theorem bw {x:Expr} (hn:Ba x=true) (hr:Dr x=true) (hk:x.kids=[]):Bk Ba x=true∧Bk Dr x=true:=by
 rw [E2,E2,hk,hn,hr]
 exact ⟨rfl,rfl⟩
theorem Nj {N:Nat} {a:Int} {f:PS→Expr×PS} (hN:N≤30) (hf:N<30→RF (N+1) f) {S:PS} (hS:S.nest=N):RB (Aj a f S):=by
 unfold Aj
 split
 ·exact pt
 rename_i h
 exact hf (by simp at h;omega) (B9 S) (by show S.nest+1=N+1;omega)
theorem bx {N:Nat} {l:List Tok} {f:PS→Expr×PS} (hn:NF N 0 f) (hf:RF N f):∀(n:Nat) (r:List Expr×PS),r.2.nest=N→(r.2.code=0→∀y∈r.1,Bk Ba y=true∧Bk Dr y=true)→((argsF l f n r).2.code=0→∀y∈(argsF l f n r).1,Bk Ba y=true∧Bk Dr y=true)
 | 0,r,h1,h2=>h2
 | n+1,r,h1,h2=>by
  rw [argsF]
  split
  ·rename_i hc
   simp only [Bool.and_eq_true,beq_iff_eq] at hc
   refine bx hn hf n _ (hn (A8 r.2) h1).nest (fun h0 y hy=>?_)
   rcases List.mem_append.1 hy with hy|hy
   ·exact h2 hc.1 y hy
   rw [List.mem_singleton.1 hy]
   exact hf (A8 r.2) h1 h0
  exact h2
theorem rt {t:Str} (h:Gm t ff=true):By (D6 t).1=true∧0≤(D6 t).1.n∧(D6 t).1.n≤9223372036854775807:=by
 rw [vl] at h
 simp only [Bool.and_eq_true,litWords,List.contains_cons,List.contains_nil,Bool.or_false,Bool.or_eq_true,beq_iff_eq] at h
 rcases h.2 with rfl|rfl|rfl
 ·exact uj
 ·exact uj
 exact uj
theorem ru {v:Val} (h0:0≤v.n) (h1:v.n≤9223372036854775807):Dr (Gr v)=true:=by
 show (decide (-9223372036854775808≤v.n)&&decide (v.n≤9223372036854775807))=true
 simp only [Bool.and_eq_true,decide_eq_true_eq]
 omega
theorem rx {N:Nat} {l:List Tok} {D:Fam} (hw:∀i,WordOk (A7 l i)) (hN:N≤30) (hD:N<30→NF (N+1) 0 D.ei) (hR:N<30→RF (N+1) D.ei):RF N (Dk l D):=fun S hS=>by
 have val:∀(v:Val) (S':PS),By v=true→0≤v.n→v.n≤9223372036854775807→RB (Gr v,S'):=fun v S' h1 h2 h3 _=>bw (gm h1 h2) (ru h2 h3) rfl
 unfold Dk
 split
 ·rename_i h;exact fun h0=>absurd h0 (by simpa using h)
 split
 ·rename_i h1 h2
  rw [Bool.or_eq_true] at h2
  rcases h2 with h2|h2
  ·obtain ⟨a,b,c⟩:=(hw S.i).num (by simpa using h2)
   exact val _ _ a b c
  unfold isM at h2
  rw [Bool.and_eq_true] at h2
  obtain ⟨a,b,c⟩:=rt h2.2
  exact val _ _ a b c
 split
 ·refine val _ _ ?_ (by show (0:Int)≤0;decide) (by show (0:Int)≤9223372036854775807;decide)
  exact (M9 _).plain
 split
 ·rename_i h1
  have hnm:=(hw S.i).name (by simpa using h1)
  split
  ·unfold Ew
   split
   ·exact pt
   split
   ·exact pt
   rename_i h2 h3
   intro h0
   have h0':(D7 l Df (Bl l D (A8 S)).2).code=0:=h0
   have hlen:((Bl l D (A8 S)).1.length:Int)=Ay (A7 l S.i).text:=by
    rw [h0'] at h3
    simpa using h3
   have hc:=Ia h0'
   have hkids:∀y∈(Bl l D (A8 S)).1,Bk Ba y=true∧Bk Dr y=true:=by
    unfold Bl Hj at hc ⊢
    by_cases h30:((A8 (A8 S)).nest:Int)==30
    ·rw [if_pos h30] at hc
     exact uk
    rw [if_neg h30] at hc ⊢
    have hlt:N<30:=by
     have:(A8 (A8 S)).nest=N:=hS
     rw [this] at h30
     simp at h30
     omega
    have hd:(B9 (A8 (A8 S))).nest=N+1:=by show S.nest+1=N+1;omega
    exact bx (l:=l) (hD hlt) (hR hlt) l.length ([(D.ei (B9 (A8 (A8 S)))).1],(D.ei (B9 (A8 (A8 S)))).2) (hD hlt _ hd).nest (fun h0 y hy=>by rw [List.mem_singleton.1 hy];exact hR hlt _ hd h0) hc
   show Bk Ba (.mk 6 _ noV _)=true∧Bk Dr (.mk 6 _ noV _)=true
   rw [E2,E2,gn hlen.symm]
   exact ⟨by rw [Bool.true_and];exact (Du _ _).2 fun y hy=>(hkids y hy).1,by
    rw [Bool.and_eq_true]
    exact ⟨rfl,(Du _ _).2 fun y hy=>(hkids y hy).2⟩⟩
  exact fun _=>bw (Zn hnm) rfl rfl
 split
 ·intro h0
  exact Nj hN hR (show (A8 S).nest=N from hS) (Ia h0)
 exact pt
theorem Ox {N k:Nat} {l:List Tok} {f:PS→Expr×PS} (hk:k=0∨k=1∨k=4∨k=5) (hn:NF N (k+1) f) (hf:RF N f):RF N (Dj l (ofL k) f):=by
 have hloop:∀(n:Nat) (r:Expr×PS),r.2.nest=N→RB r→RB (Ko l (ofL k) f n r):=by
  intro n
  induction n with
  | zero=>exact fun r _ h=>h
  | succ n ih =>
   intro r hr h
   rw [Ko]
   split
   ·rename_i hc
    simp only [Bool.and_eq_true,beq_iff_eq] at hc
    refine ih _ (hn (A8 r.2) hr).nest (fun h0=>?_)
    have hlv:Ci (A7 l r.2.i).text=(k:Int):=by
     have hm:=hc.2
     unfold isM at hm
     rw [Bool.and_eq_true] at hm
     have:=hm.2
     rw [Ir (Wm hk)] at this
     simpa using this
    exact n5 (by omega) (h hc.1) (hf (A8 r.2) hr h0)
   exact h
 exact fun S hS=>hloop _ _ (hn S hS).nest (hf S hS)
theorem w7 {N:Nat} {l:List Tok} {D:Fam} (hn:NF N 4 (Bs l D)) (hf:RF N (Bs l D)):RF N (Ck l D):=fun S hS=>by
 unfold Ck
 split
 ·exact hf S hS
 rename_i hc
 simp only [Bool.or_eq_true,not_or,bne_iff_ne,ne_eq,Decidable.not_not,Bool.not_eq_true',Bool.not_eq_false] at hc
 intro h0
 have hlv:Ci (A7 l (Bs l D S).2.i).text=((3:Nat):Int):=by
  have hm:=hc.2
  unfold isM at hm
  rw [Bool.and_eq_true] at hm
  have:=hm.2
  rw [show f9=ofL 3 from rfl,Ir (.inr (.inr (.inl rfl)))] at this
  simpa using this
 exact n5 (by omega) (hf S hS hc.1) (hf (A8 (Bs l D S).2) (hn S hS).nest h0)
theorem n7 (l:List Tok) (hw:∀i,WordOk (A7 l i)):∀(d N:Nat),N+d=30→RF N (Ke l (Bv l d))∧RF N (J4 l (Bv l d))∧RF N (J3 l (Bv l d))
 | d,N,h=>by
  have ihn:N<30→NF (N+1) 0 (Bv l d).ei∧NF (N+1) 2 (Bv l d).no∧NF (N+1) 6 (Bv l d).ne:=fun hlt=>by
   match d,h with
   | 0,h=>omega
   | d+1,h=>exact Zm l d (N+1) (by omega)
  have ih:N<30→RF (N+1) (Bv l d).ei∧RF (N+1) (Bv l d).no∧RF (N+1) (Bv l d).ne:=fun hlt=>by
   match d,h with
   | 0,h=>omega
   | d+1,h=>exact n7 l hw d (N+1) (by omega)
  have hN:N≤30:=by omega
  have hnegN:=mw (l:=l) (D:=Bv l d) hN (fun h=>(ihn h).1) (fun h=>(ihn h).2.2)
  have hneg:RF N (J3 l (Bv l d)):=fun S hS=>by
   unfold J3
   split
   ·exact rx hw hN (fun h=>(ihn h).1) (fun h=>(ih h).1) S hS
   exact fun h0=>n6 (gj _) (Nj hN (fun h=>(ih h).2.2) (show (A8 S).nest=N from hS) h0)
  have hprodN:NF N 5 (Qd l (Bv l d)):=Iu (k:=5) (by decide) hnegN
  have hprod:RF N (Qd l (Bv l d)):=Ox (k:=5) (by decide) hnegN hneg
  have hsumN:NF N 4 (Bs l (Bv l d)):=Iu (k:=4) (by decide) hprodN
  have hsum:RF N (Bs l (Bv l d)):=Ox (k:=4) (by decide) hprodN hprod
  have hcmpN:=mx hsumN
  have hcmp:=w7 hsumN hsum
  have hnoN:=my (l:=l) (D:=Bv l d) hN hcmpN (fun h=>(ihn h).2.1)
  have hno:RF N (J4 l (Bv l d)):=fun S hS=>by
   unfold J4
   split
   ·exact hcmp S hS
   exact fun h0=>n6 (gk _) (Nj hN (fun h=>(ih h).2.1) (show (A8 S).nest=N from hS) h0)
  have hboN:NF N 1 (Qe l (Bv l d)):=Iu (k:=1) (by decide) hnoN
  have hbo:RF N (Qe l (Bv l d)):=Ox (k:=1) (by decide) hnoN hno
  exact ⟨Ox (k:=0) (by decide) hboN hbo,hno,hneg⟩
/-! The lexer's words. -/
theorem n8 {c:UInt8} {r of:Str} (h:decide (0<J1 ((c::r).take 1) of)=true):of.contains c=true:=by
 rw [show (c::r).take 1=[c] from rfl,rm] at h
 cases hc:of.contains c with
 | true=>rfl
 | false=>rw [hc] at h;simp at h
theorem n9 {q:Str} (h0:q≠[]) (ha:∀c∈q,digs.contains c=true) (he:(D6 q).2=0):By (D6 q).1=true∧0≤(D6 q).1.n∧(D6 q).1.n≤9223372036854775807:=by
 cases q with
 | nil=>exact absurd rfl h0
 | cons c r =>
 have hc:=ha c List.mem_cons_self
 have hn:=m0 c hc
 have n1:((c::r:Str)==[110,117,108,108])=false:=by rw [beq_eq_false_iff_ne];intro e;injection e with e;exact hn.2.2.2.1 e
 have n2:((c::r:Str)==[116,114,117,101])=false:=by rw [beq_eq_false_iff_ne];intro e;injection e with e;exact hn.2.2.2.2.1 e
 have n3:((c::r:Str)==[102,97,108,115,101])=false:=by rw [beq_eq_false_iff_ne];intro e;injection e with e;exact hn.2.2.2.2.2 e
 have hq:O2 (c::r)=false:=by
  unfold O2
  have:Lib.hasPrefix (c::r) [39]=false:=by simp [Lib.hasPrefix,List.isPrefixOf,Ne.symm hn.2.2.1]
  rw [this]
  simp
 unfold D6 at he ⊢
 rw [n1,n2,n3,hq] at he ⊢
 simp only [Bool.false_eq_true,if_false,Bool.or_self] at he ⊢
 split at he
 ·rename_i h1
  rw [if_pos h1]
  have hb:Fd (c::r)=false:=by
   cases hb:Fd (c::r) with
   | false=>rfl
   | true=>unfold Bx at h1;rw [hb] at h1;simp at h1
  unfold Bx at h1 ⊢
  rw [hb] at h1 ⊢
  simp only [Bool.false_eq_true,if_false] at h1 ⊢
  have h43:c.toNat≠43:=fun e=>hn.2.1 (UInt8.toNat_inj.1 (by rw [e];rfl))
  have h45:c.toNat≠45:=fun e=>hn.1 (UInt8.toNat_inj.1 (by rw [e];rfl))
  have hp:=Lib.parseIntB_plain 64 c r h43 h45
  cases hv:Lib.parseIntB 64 (c::r) with
  | ok v =>
   have hb:=Lib.parseIntB_bounds hv
   simp only [show ((2 ^ (64-1):Nat):Int)=9223372036854775808 by decide] at hb
   rw [hp] at hv
   have h0:0≤v:=by
    cases hu:Lib.parseUintB 64 (c::r) with
    | ok u =>
     rw [hu] at hv
     have e:Lib.signlessC (2 ^ (64-1)) (.ok u)=if 2 ^ (64-1)≤u then .range else .ok (u:Int):=rfl
     rw [e] at hv
     split at hv
     ·cases hv
     injection hv with hv
     omega
    | _=>rw [hu] at hv;cases hv
   exact ⟨rfl,h0,by show v≤9223372036854775807;omega⟩
  | _=>first|(rw [hv] at h1;simp at h1;done)|(exact ⟨rfl,Int.le_refl 0,by show (0:Int)≤9223372036854775807;decide⟩)
 rename_i h1
 split at he
 ·simp at he
 simp at he
theorem Wz {p:UInt8→Bool}:∀{l:Str} {b:UInt8},b∈l.takeWhile p→p b=true
 | [],_,h=>by cases h
 | a::r,b,h=>by
  rw [List.takeWhile_cons] at h
  by_cases ha:p a=true
  ·rw [if_pos ha] at h
   rcases List.mem_cons.1 h with rfl|h
   ·exact ha
   exact Wz h
  rw [if_neg ha] at h
  cases h
theorem gq {s:Str} {n:Nat} (h0:s≠[]) (he:(Az s).2.2.2=0):WordOk ⟨(Az s).1,(Az s).2.1,n⟩:=by
 cases s with
 | nil=>exact absurd rfl h0
 | cons c r =>
 unfold Az at he ⊢
 by_cases h1:decide (0<J1 ((c::r).take 1) letters)=true
 ·rw [if_pos h1] at he
  simp only [if_pos h1]
  unfold Jk at he ⊢
  by_cases r1:Dq (Bm (c::r) tails)=true
  ·simp only [if_pos r1]
   exact Yb
  rw [if_neg r1] at he
  simp only [if_neg r1]
  by_cases r2:(!Cg (Bm (c::r) tails))=true
  ·rw [if_pos r2] at he;simp at he
  simp only [if_neg r2]
  exact ⟨fun _=>by rw [←Fg];simpa using r2,fun h=>by cases h⟩
 rw [if_neg h1] at he
 simp only [if_neg h1]
 by_cases h2:decide (0<J1 ((c::r).take 1) digs)=true
 ·rw [if_pos h2] at he
  simp only [if_pos h2]
  unfold Ov at he ⊢
  refine ⟨(fun h=>by cases h),fun _=>n9 ?_ (fun b hb=>?_) he⟩
  ·show Bm (c::r) digs≠[]
   rw [N4,List.takeWhile_cons,n8 h2]
   simp
  have hb:b∈Bm (c::r) digs:=hb
  rw [N4] at hb
  exact Wz hb
 rw [if_neg h2] at he
 simp only [if_neg h2]
 by_cases h3:((((c::r).getD 0 0).toNat:Int)==39)=true
 ·rw [if_pos h3] at he
  simp only [if_pos h3]
  unfold Gn at he ⊢
  split
  ·exact Yb
  split
  ·exact Yb
  exact Yb
 simp only [if_neg h3]
 unfold O4
 split
 ·exact Yb
 split
 ·exact Yb
 exact Yb
theorem X0:∀(f q:Nat) (s:Str),∀it∈Ep f q s,it.2=0→WordOk it.1
 | 0,_,_,it,h,_=>by cases h
 | f+1,q,s,it,h,h0=>by
  rw [Ep] at h
  split at h
  ·cases h
  rename_i hs
  have hne:s≠[]:=by rintro rfl;exact hs rfl
  rcases List.mem_cons.1 h with rfl|h
  ·exact gq hne h0
  split at h
  ·exact X0 f _ _ it h h0
  cases h
theorem w8 (n:Nat):WordOk ⟨0,[],n⟩:=⟨(fun h=>by cases h),(fun h=>by cases h)⟩
/-! The parse laws where nothing is too deep. -/
/-! The parser from a word on, and of a source. -/
/-! Other trees have other words, and other prints. -/
/-! The laws of printing. -/
theorem Qv {x:Expr} (h:Ef x=true):Bk Ba x=true:=by
 unfold Ef at h
 rw [Bool.and_eq_true] at h
 exact h.2
set_option maxRecDepth 4000
end Go.SX.Nb
namespace Go.Proofs
open Go.Shelf Go.RowKit

section
variable {P:Program} (w:World)

end

section
variable {P:Program} {ρ:Ren}

set_option maxHeartbeats 1000000 in
set_option maxRecDepth 100000 in
set_option maxHeartbeats 1000000 in
set_option maxRecDepth 100000 in
set_option maxHeartbeats 2000000 in
set_option maxRecDepth 100000 in
set_option maxHeartbeats 2000000 in
set_option maxRecDepth 100000 in
end
end Go.Proofs

namespace Go.SX.Nb
open Go Go.SX Go.Proofs Go.Shelf
variable [ErrAt]
set_option maxRecDepth 8000
/-! show's builder. -/
end Go.SX.Nb
namespace Go.SX.Nb
open Go Go.SX Go.Proofs
variable [ErrAt]
set_option maxRecDepth 4000
set_option maxRecDepth 8000
/-! How long a print is. -/
theorem na {t:Str} (h:0≤Ci t):t.length≤3:=by
 rcases O9 t with hm|⟨hm,_⟩
 ·have h3:(levels.flatten.all fun s=>decide (s.length≤3))=true:=by kernel_rfl
  exact of_decide_eq_true (List.all_eq_true.1 h3 t hm)
 omega
theorem Zo {t:Str} {n:Nat} (h:Ay t=(n:Int)):t.length≤6:=by
 rcases Lf h with ⟨e,_⟩|⟨e,_⟩|⟨e,_⟩|⟨e,_⟩|⟨e,_⟩|⟨e,_⟩|⟨e,_⟩|⟨e,_⟩<;>rw [e]<;>decide
set_option maxRecDepth 4000
abbrev xo (own:Bool) (t:Str) (ks:List Expr):AObj:=.cells 103 [A2 6,A9 t,A2 0,A2 0,A9 [],.slice own 6 (ks.map A5)]
theorem w9 {n:Nat} {own:Bool} {t:Str} {ks:List Expr}:ObjLow n (xo own t ks):=by
 show ∀z∈[A2 6,A9 t,A2 0,A2 0,A9 [],AV.slice own 6 (ks.map A5)],Low n z
 intro z hz
 simp only [List.mem_cons,List.not_mem_nil,or_false] at hz
 rcases hz with rfl|rfl|rfl|rfl|rfl|rfl
 all_goals first|exact Da|simp
theorem ry:Cr (.agg #[.int .i64 0,.string ⟨#[]⟩,.int .i64 0,.int .i64 0,.string ⟨#[]⟩,.slice none 0 0])=.agg [A2 0,A9 [],A2 0,A2 0,A9 [],.nil]:=rfl
attribute [go_sem] ry
theorem gA {Hp:List AObj} {o ox:Nat} {z A B:AObj} (ho:Hp[o]? = some z) (hne:ox≠o):((Hp.set o A).set ox B)[o]? = some A:=by rw [List.getElem?_set_ne hne];exact getset ho
theorem gB {Hp:List AObj} {o ox:Nat} {z A B:AObj} (hox:Hp[ox]? = some z):((Hp.set o A).set ox B)[ox]? = some B:=by
 have:=(List.getElem?_eq_some_iff.1 hox).1
 simp [this]
theorem nb {Hp:List AObj} {o ox:Nat} {A A' B:AObj} (hne:ox≠o):((Hp.set o A).set ox B).set o A'=(Hp.set o A').set ox B:=by rw [List.set_comm _ _ hne,List.set_set]
theorem Lg (ks:List Expr) (x:Expr):ks.map A5++[.agg [.v (.int .i64 x.op),.v (sv x.text),.v (.int .i64 x.val.kind),.v (.int .i64 x.val.n),.v (sv x.val.s),.slice false 6 (x.kids.map A5)]]=(ks++[x]).map A5:=by rw [List.map_append,List.map_cons,List.map_nil,Ab x]
theorem ABh (l:List Tok) (S:PS) (t:Str) (Dv:Fam) (o ox:Nat) (Hp:List AObj) (hne:ox≠o) (ho:Hp[o]? = some (pr l S)) (hox:Hp[ox]? = some (xo true t [])) (hi:S.i<l.length) (hl:TokEnd l) (hll:l.length≤1048576) (hf:D9 l S.nest Dv.ei) (hcf:PC 213 l Dv.ei S.nest):ACall Tryz.prog 288 [.ptr ox 0,.ro [.ptr o 0]] Hp (fun r H'=>r=A5 (.mk 6 t noV (Ev l Dv.ei S).1)∧H'=(Hp.set o (pr l (Ev l Dv.ei S).2)).set ox (xo true t (Ev l Dv.ei S).1)):=by
 have hoxl:=(List.getElem?_eq_some_iff.1 hox).1
 have hol:=(List.getElem?_eq_some_iff.1 ho).1
 refine ACall.body [.cell 2 103] [0,1] Tryz.func288 Tryz.ntmps288 (fun d=>?_)
 refine Z27 ?_;refine U3 ?_
 refine W.drawT [0,1,0,4,3,0,63,127,255,127,639] [1,3] [.q 1 [] [0],.s [4] (some 0) [] [],.q 1 [] [1],.s [6] (some 1) [] [],.q 2 [] []] (fun B=>(Hp.set o (if B 1=true then pr l (Dv.ei S).2 else pr l S)).set ox (if B 0=true then xo false t [] else xo true t [])) (fun _=>[Hs]) Aa (by kernel_rfl) (by simp only [Bool.false_eq_true,if_false];rw [E8 ho,E8 hox]) rfl (fun B=>by simp) ?_
 apply Y.q
 case h1 =>
  intro B hT hF
  exact Z66
 case hTF=>decide
 refine Y.loadUpT (o:=ox) (t':=103) (cs:=[A2 6,A9 t,A2 0,A2 0,A9 [],.slice true 6 ([].map A5)]) (cs':=[A2 6,A9 t,A2 0,A2 0,A9 [],.slice false 6 ([].map A5)]) Tryz.isAgg75 (fun B hB=>⟨by simp only [hB];exact gB hox,by simp [upd,List.set_set]<;>rfl,rfl⟩) ?_
 apply Y.q
 case h1 =>
  intro B hT hF
  exact Z66
 case hTF=>decide
 refine Y.callUp (r:=A5 (Dv.ei S).1) (o:=o) (x0:=pr l S) (x:=pr l (Dv.ei S).2) Tryz.call213 (fun B hT hF hB=>⟨by simp only [hB];exact gA ho hne,?_,rfl,Bz,?_⟩) ?_
 ·simp only [upd,hB,Nat.reduceEqDiff,if_false,if_true,Bool.false_eq_true]
  exact (nb hne).symm
 ·simp only [hB]
  exact hcf o _ S (A6 (gA ho hne)) hi rfl
 apply Y.q
 case h1 =>
  intro B hT hF
  exact dk
 case hTF=>decide
 refine Y.appendPut (tn:=[1,3]) (U:=(Hp.set o (pr l (Dv.ei S).2)).set ox (xo false t [])) (O:=[Hs]) (o:=ox) (t':=103) (cs:=[A2 6,A9 t,A2 0,A2 0,A9 [],.slice false 6 ([].map A5)]) (by kernel_rfl) jU Tryz.type103 Tryz.sizeOf103 Tryz.sizeOf75 jU (A6 (gB hox)) ?_ ?_ ?_ (hfsz:=Tryz.sizeOf75)
 ·simp [Tryz.t103]
 ·simp [Tryz.t103]
 refine R.go ?_
 refine R.storeUpT jS (gB hox) ?_ ?_
 ·first|(rw [Lg];exact Da)|(have:=Da (n:=((Hp.set o (pr l (Dv.ei S).2)).set ox (xo false t [])).length) (k:=6) (o:=true) (l:=[(Dv.ei S).1]);simp only [List.map_cons,List.map_nil,Ab] at this;exact this)
 refine U3 ?_;refine W.seq ?_
 refine AW.loopC (α:=List Expr×PS) (fun r=>⟨34,A3 0 (.ptr ox 0) (A3 1 (.ro [.ptr o 0]) (A3 2 (.ptr (oid Hp.length 0) 0) (fun _=>.any))),(Hp.set o (pr l r.2)).set ox (xo true t r.1),[Hs],[],none⟩) (fun r=>ArgsAt l Dv.ei S r) (fun r=>l.length-r.2.i) (([(Dv.ei S).1],(Dv.ei S).2)) (.start (hf S hi rfl)) (StLe.of_eq (by simp [List.set_set,xo,Ab])) rfl (fun r hx=>?_)
 refine Z75 ?_
 refine R.go (h:=Q.loadUp (gA ho hne)) (hr:=?_)
 refine U0 ?_;refine G.call Tryz.call251 (fun hB=>Wh l r.2 Qc o _ (A6 (gA ho hne)) hx.fact.lt hl (by decide)) ?_;refine R.go ?_;refine R.fin [0,1,2,21] ?_
 refine W.cond (fun ht21=>?_) (fun ht21=>?_)
 ·have hon:=hx.on hl ht21 hf
  have hle:=hon.2.1.le
  have hlt0:=hx.fact.lt
  refine Z6 ?_;refine Gl ?_;refine Z2 ?_;refine R.callUp Tryz.call252 (gA ho hne) (by simp) Bz (lq l r.2 o _ (A6 (gA ho hne)) hx.fact.lt hll) ?_;refine U3 ?_
  refine W.drawT0 [0,1,0,4,3,0,63,127,255,127,639] [1,3] [.q 1 [] [0],.s [25] (some 0) [] [],.q 1 [] [1],.s [27] (some 1) [] [],.q 2 [] []] (fun B=>(Hp.set o (if B 1=true then pr l (Dv.ei (A8 r.2)).2 else pr l (A8 r.2))).set ox (if B 0=true then xo false t r.1 else xo true t r.1)) (fun _=>[Hs]) Aa (by kernel_rfl) (by simp only [Bool.false_eq_true,if_false];exact (nb hne).symm) rfl (fun B=>by simp) ?_
  apply Y.q
  case h1 =>
   intro B hT hF
   exact Z66
  case hTF=>decide
  refine Y.loadUpT (o:=ox) (t':=103) (cs:=[A2 6,A9 t,A2 0,A2 0,A9 [],.slice true 6 (r.1.map A5)]) (cs':=[A2 6,A9 t,A2 0,A2 0,A9 [],.slice false 6 (r.1.map A5)]) Tryz.isAgg75 (fun B hB=>⟨by simp only [hB];exact gB hox,by simp [upd,List.set_set]<;>rfl,rfl⟩) ?_
  apply Y.q
  case h1 =>
   intro B hT hF
   exact Z66
  case hTF=>decide
  refine Y.callUp (r:=A5 (Dv.ei (A8 r.2)).1) (o:=o) (x0:=pr l (A8 r.2)) (x:=pr l (Dv.ei (A8 r.2)).2) Tryz.call213 (fun B hT hF hB=>⟨by simp only [hB];exact gA ho hne,?_,rfl,Bz,?_⟩) ?_
  ·simp only [upd,hB,Nat.reduceEqDiff,if_false,if_true,Bool.false_eq_true]
   exact (nb hne).symm
  ·simp only [hB]
   exact hcf o _ (A8 r.2) (A6 (gA ho hne)) hon.1 hx.fact.nest
  apply Y.q
  case h1 =>
   intro B hT hF
   exact dk
  case hTF=>decide
  refine Y.appendPut (tn:=[1,3]) (U:=(Hp.set o (pr l (Dv.ei (A8 r.2)).2)).set ox (xo false t r.1)) (O:=[Hs]) (o:=ox) (t':=103) (cs:=[A2 6,A9 t,A2 0,A2 0,A9 [],.slice false 6 (r.1.map A5)]) (by kernel_rfl) jU Tryz.type103 Tryz.sizeOf103 Tryz.sizeOf75 jU (A6 (gB hox)) ?_ ?_ ?_ (hfsz:=Tryz.sizeOf75)
  ·have:=hx.fact.len;have:=hx.fact.lt;simp only [List.length_map,Tryz.t103];omega
  ·have:=hx.fact.len;have:=hx.fact.lt;simp only [List.length_map,Tryz.t103];omega
  refine R.go ?_
  refine R.storeUpT jS (gB hox) ?_ ?_
  ·first|(rw [Lg];exact Da)|(have:=Da (n:=((Hp.set o (pr l (Dv.ei S).2)).set ox (xo false t [])).length) (k:=6) (o:=true) (l:=[(Dv.ei S).1]);simp only [List.map_cons,List.map_nil,Ab] at this;exact this)
  refine U3 ?_;refine K.blN ?_
  refine K.lpN (r.1++[(Dv.ei (A8 r.2)).1],(Dv.ei (A8 r.2)).2) hon.2.2 (by show l.length-(Dv.ei (A8 r.2)).2.i<l.length-r.2.i;have:r.2.i+1≤(Dv.ei (A8 r.2)).2.i:=hle;omega) (StCut.of_eq ?_)
  simp only [show Tryz.t103.size=6 from rfl,Lg,List.set_set]
 have hout:=hx.out (by rw [ht21];simp)
 refine Z98 ?_;refine Cu ?_
 refine R.go (h:=Q.loadUpN (gB hox)) (hr:=?_)
 refine Z10 ?_;exact K.fin (V.one (V.cellN jA jS)) ⟨by rw [hout,Uj];rfl,by rw [hout]⟩ (hlow:=by have:=Ad Hp.length (.mk 6 t noV r.1);rw [Uj] at this;simpa using this)

/-- within, with the function that gathers a call's kids. -/
theorem zk (l:List Tok) (S:PS) (a:Int) (t:Str) (Dv:Fam) (o:Nat) (Hp:List AObj) (A0 A1:AObj) (l0:ObjLow 0 A0) (ho:Hp[o]? = some (pr l S)) (hi:S.i<l.length) (hl:TokEnd l) (hll:l.length≤1048576) (hnl:S.nest≤30) (hd:DeepC l Dv S.nest):
  ACall Tryz.prog 271 [.ptr o 0,A2 a,.fn (.func 288) [] [.ptr (oid Hp.length 2) 0,.ro [.ptr o 0]]] (Hp++[A0,A1,xo true t []]) (fun r H'=>r=A5 (if S.nest=30 then Ah else .mk 6 t noV (Hj l a Dv.ei S).1)∧H'=Hp.set o (pr l (Hj l a Dv.ei S).2)++[A0,A1,xo true t (Hj l a Dv.ei S).1]):=by
 have hlt:=(List.getElem?_eq_some_iff.1 ho).1
 have ho':(Hp++[A0,A1,xo true t []])[o]? = some (pr l S):=A6 ho
 by_cases h30:S.nest=30
 ·refine (qr l S a 288 [] [.ptr (oid Hp.length 2) 0,.ro [.ptr o 0]] Ah (B9 S) o (Hp++[A0,A1,xo true t []]) ((Hp++[A0,A1,xo true t []]).set o (pr l (B9 S))) ho' (by omega) Tryz.call288 (by simp) (getset ho') rfl (fun h=>h) (fun h=>absurd h30 h)).mono fun r H' h=>?_
  have e:Hj l a Dv.ei S=([],Cf 18 a S):=if_pos (by rw [h30];rfl)
  rw [e,if_pos h30]
  obtain ⟨h1,h2⟩:=h.1 h30
  exact ⟨h1,by rw [h2,List.set_append_left _ _ hlt]⟩
 have hq:=Qg (S:=B9 S) hl hi (hd.ei h30).1
 refine (qr l S a 288 [] [.ptr (oid Hp.length 2) 0,.ro [.ptr o 0]] (.mk 6 t noV (Ev l Dv.ei (B9 S)).1) (Ev l Dv.ei (B9 S)).2 o (Hp++[A0,A1,xo true t []]) (Hp.set o (pr l (Ev l Dv.ei (B9 S)).2)++[A0,A1,xo true t (Ev l Dv.ei (B9 S)).1]) ho' (by omega) Tryz.call288 (by simp) (A6 (getset ho)) hq.nest (fun h y hy=>?_) (fun _ own=>?_)).mono fun r H' h=>?_
 ·rw [List.set_append_left _ _ hlt] at h
  rcases List.mem_append.1 hy with hy|hy
  ·rcases List.mem_or_eq_of_mem_set hy with h1|h1
   ·obtain ⟨i,hi',rfl⟩:=List.getElem_of_mem h1
    by_cases hio:i=o
    ·subst hio
     have:Hp[i]=pr l S:=by rw [List.getElem?_eq_getElem hi'] at ho;injection ho
     rw [this];exact Bz
    refine h _ (List.mem_append_left _ ?_)
    rw [List.mem_iff_getElem?]
    exact ⟨i,by rw [List.getElem?_set_ne (Ne.symm hio),List.getElem?_eq_getElem hi']⟩
   rw [h1];exact Bz
  simp only [List.mem_cons,List.not_mem_nil,or_false] at hy
  rcases hy with rfl|rfl|rfl
  ·exact h _ (List.mem_append_right _ (by simp))
  ·exact h _ (List.mem_append_right _ (by simp))
  exact w9
 ·have hoid:oid Hp.length 2≠o:=by unfold oid;omega
  have e1:(Hp++[A0,A1,xo true t []]).set o (pr l (B9 S))++own=(Hp.set o (pr l (B9 S))++[A0,A1,xo true t []])++own:=by rw [List.set_append_left _ _ hlt]
  rw [e1]
  have g1:((Hp.set o (pr l (B9 S))++[A0,A1,xo true t []])++own)[o]? = some (pr l (B9 S)):=A6 (A6 (getset ho))
  have g2:((Hp.set o (pr l (B9 S))++[A0,A1,xo true t []])++own)[oid Hp.length 2]? = some (xo true t []):=A6 (by
   have:=Aq (U:=Hp.set o (pr l (B9 S))) (O:=[A0,A1,xo true t []]) (n:=2)
   rw [List.length_set] at this
   exact this)
  refine (ABh l (B9 S) t Dv o (oid Hp.length 2) _ hoid g1 g2 hi hl hll (hd.ei h30).1 (hd.ei h30).2).mono fun r H' h=>⟨h.1,h.2.trans ?_⟩
  rw [List.append_assoc,List.set_append_left _ _ (by simpa using hlt),List.set_set]
  have:=E1 (U:=Hp.set o (pr l (Ev l Dv.ei (B9 S)).2)) (O:=[A0,A1,xo true t []]++own) (n:=2) (x:=xo true t (Ev l Dv.ei (B9 S)).1)
  rw [List.length_set] at this
  rw [this]
  simp
 have e:Hj l a Dv.ei S=((Ev l Dv.ei (B9 S)).1,Sl (Ev l Dv.ei (B9 S)).2):=if_neg (by
  show ¬(((S.nest:Int)==30)=true)
  simp
  omega)
 rw [e,if_neg h30]
 obtain ⟨h1,h2⟩:=h.2 h30
 exact ⟨h1,by rw [h2,List.set_append_left _ _ (by simpa using hlt),List.set_set]⟩
theorem ABi (l:List Tok) (S:PS) (Dv:Fam) (t:Tok) (o:Nat) (Hp:List AObj) (ho:Hp[o]? = some (pr l S)) (hi:(A8 S).i<l.length) (hl:TokEnd l) (hll:l.length≤1048576) (hnl:S.nest≤30) (hd:DeepC l Dv S.nest):ACall Tryz.prog 286 [.ptr o 0,Gp t] Hp (fun r H'=>r=A5 (Ew l Dv t S).1∧H'=Hp.set o (pr l (Ew l Dv t S).2)):=by
 have hi0:S.i<l.length:=by have:S.i+1<l.length:=hi;omega
 have hol:=(List.getElem?_eq_some_iff.1 ho).1
 have hkf:KFact l (A8 S) (Bl l Dv S):=Qh hl _ hi (fun h=>(hd.ei h).1)
 refine ACall.body [.cell 4 103] [0,1] Tryz.func286 Tryz.ntmps286 (fun d=>?_)
 refine Z1 ?_;refine Ki ?_;refine R.fin [2,3,4] ?_;refine Z1 ?_;refine R.call Tryz.call121 (uv t.text _) ?_;refine R.go ?_;refine R.fin [2,3,4,5] ?_;refine Z22 ?_;refine R.fin [2,3,4,5,12] ?_
 refine W.cond (fun ht12=>?_) (fun ht12=>?_)
 ·have hlt0:Ay t.text<0:=by simpa using ht12
  have e:Ew l Dv t S=(Ah,Cf 9 t.at_ S):=if_pos hlt0
  refine Z13 ?_;refine R.callUp Tryz.call215 ho (by simp) Bz (fj l S 9 t.at_ o _ (A6 ho)) ?_;refine Fc ?_;refine Z21 ?_;exact Z69
 have hge:¬Ay t.text<0:=by simpa using ht12
 refine Z99 ?_;refine R.callUp Tryz.call252 ho (by simp) Bz (lq l S o _ (A6 ho) hi0 hll) ?_;refine Z20 ?_;refine R.fin [2,3,4,5,6] ?_;refine tw ?_;refine Z20 ?_;refine R.fin [2,3,4,5,6,7] ?_;refine Cu ?_;refine R.nilCell 2 5 6 ?_;refine Z19 ?_;refine R.makeFunc ?_
 refine R.callX (up':=(Hp.set o (pr l (A8 S))).set o (pr l (Bl l Dv S).2)) (own':=[Hs,.cells 130 [A2 (A7 l S.i).kind,A9 (A7 l S.i).text,A2 (A7 l S.i).at_],xo true t.text (Bl l Dv S).1]) Tryz.call271 (by have:=zk l (A8 S) (A7 l S.i).at_ t.text Dv o (Hp.set o (pr l (A8 S))) Hs (.cells 130 [A2 (A7 l S.i).kind,A9 (A7 l S.i).text,A2 (A7 l S.i).at_]) bf (getset ho) hi hl hll hnl hd;rw [List.length_set] at this;exact this) (by simp) (fun h=>qu h Bz) ?_
 refine R.fin [2,3,4,5,7] ?_;refine Z2 ?_;refine R.callUp Tryz.call287 (getset (getset ho)) (by simp) Bz (z7 l (Bl l Dv S).2 Df o _ (A6 (getset (getset ho))) hkf.lt hll) ?_;refine R.fin [2,3,4,5,7] ?_;refine Z75 ?_
 refine R.go (h:=Q.loadUp (getset (getset (getset ho)))) (hr:=?_)
 refine Z40 ?_;refine Z62 ?_;refine R.go ?_;refine R.fin [2,3,4,7,41] ?_
 refine W.cond (fun ht41=>?_) (fun ht41=>?_)
 ·have e:Ew l Dv t S=(Ah,Cf 8 t.at_ (D7 l Df (Bl l Dv S).2)):=by
   unfold Ew
   rw [if_neg hge,if_pos (by have:=ht41;simp only [List.length_map] at this;exact this)]
  refine Z13 ?_;refine R.callUp Tryz.call215 (getset (getset (getset ho))) (by simp) Bz (fj l (D7 l Df (Bl l Dv S).2) 8 t.at_ o _ (A6 (getset (getset (getset ho))))) ?_;refine Fc ?_;refine Z21 ?_;refine K.thR ?_;exact K.fin (V.one (V.cellN jA jS)) ⟨by rw [e,Ab],by rw [e,List.set_set,List.set_set,List.set_set]⟩ (hlow:=low_agg _)
 have e:Ew l Dv t S=(.mk 6 t.text noV (Bl l Dv S).1,(D7 l Df (Bl l Dv S).2)):=by
  unfold Ew
  rw [if_neg hge,if_neg (by have:=ht41;simp only [List.length_map] at this;rw [Bool.eq_false_iff] at this;exact this)]
 refine Z99 ?_;refine Fc ?_;refine Z21 ?_;exact K.fin (V.one (V.cellN jA jS)) ⟨by rw [e,Uj];rfl,by rw [e,List.set_set,List.set_set]⟩ (hlow:=by have:=Ad Hp.length (.mk 6 t.text noV (Bl l Dv S).1);rw [Uj] at this;simpa using this)

theorem gr {l:List Tok} (hl:TokEnd l) (hll:l.length≤1048576) (n:Nat) (Dv:Fam) (hn:n≤30) (hd:DeepC l Dv n):Wi l Dv n:=fun o Hp S t ho hi hS _ _=>by
 subst hS
 exact ABi l S Dv t o Hp ho hi hl hll hn hd
theorem Zp {e:Expr} (h:Ba e=true):e.text.length≤16∧e.kids.length≤8:=by
 cases L7 h with
 | val v hp h0=>exact ⟨by simp [Gr,Expr.text],by simp [Gr,Expr.kids]⟩
 | name t ht =>
  refine ⟨?_,by simp [C3,Expr.kids]⟩
  show t.length≤16
  cases t with
  | nil=>simp
  | cons c r =>
   simp only [F7,Bool.and_eq_true,decide_eq_true_eq] at ht
   exact ht.1.1.1
 | neg a=>exact ⟨by simp [Dh,Expr.text],by simp [Dh,Expr.kids]⟩
 | no a=>exact ⟨by simp [Dh,Expr.text],by simp [Dh,Expr.kids]⟩
 | bin t a b ht=>exact ⟨by have:=na ht;show t.length≤16;omega,by simp [Ej,Expr.kids]⟩
 | call t k ha =>
  refine ⟨by have:=Zo ha;show t.length≤16;omega,?_⟩
  show k.length≤8
  rcases Lf ha with ⟨_,e⟩|⟨_,e⟩|⟨_,e⟩|⟨_,e⟩|⟨_,e⟩|⟨_,e⟩|⟨_,e⟩|⟨_,e⟩<;>omega
theorem Sx:∀{l:List Expr} {y:Expr},y∈l→depthE y≤Jo l
 | a::r,y,h=>by
  rw [Jo]
  rcases List.mem_cons.1 h with rfl|h
  ·omega
  have:=Sx h
  omega
theorem c6:∀(n:Nat) (e:Expr),depthE e≤n→Bk Ba e=true→okE n e
 | 0,e,h,_=>by rw [Sf] at h;omega
 | n+1,e,h,hn=>by
  rw [E2,Bool.and_eq_true] at hn
  rw [Sf] at h
  have hs:=Zp hn.1
  refine ⟨by omega,by omega,fun y hy=>c6 n y (by have:=Sx hy;omega) ((Du _ _).1 hn.2 y hy)⟩
theorem Sy {e:Expr} (h:Ef e=true):okE 30 e∧sizeE e≤300:=by
 have h1:=Qv h
 unfold Ef at h
 simp only [Bool.and_eq_true,decide_eq_true_eq] at h
 exact ⟨c6 30 e h.1.1 h1,h.1.2⟩
/-! fuse.Forth and plan.Text. -/
theorem X1 {c:List Col} {m:Mov} (h:(Bf c m).2=0):(Bf c m).1=Cj c m.take++B7 c m∧De c=true∧De (Bf c m).1=true:=by
 unfold Bf at h ⊢
 split at h
 ·rename_i h1
  exact absurd h (by simpa using h1)
 rename_i h1
 rw [if_neg h1]
 split at h
 ·rename_i h2
  exact absurd h (by simpa using h2)
 rename_i h2
 rw [if_neg h2]
 split at h
 ·rename_i h3
  exact absurd h (by simpa using h3)
 rename_i h3
 rw [if_neg h3]
 obtain ⟨a,_,b,d,e⟩:=qo (by simpa using h1:(Ce c m.take (B7 c m)).2=0)
 rw [e]
 refine ⟨rfl,a,?_⟩
 unfold De
 rw [b,Bool.and_true]
 refine decide_eq_true ?_
 show ((Cj c m.take++B7 c m).length:Int)≤12
 omega
/-! The text. -/
/-! ONE LINE EACH. -/
theorem Zq {c:List Col} {ms:List Mov} (he:(C9 c ms).2=0):∀k,k≤ms.length→NS c ms k
 | 0,_=>zj
 | k+1,h=>by
  have ih:=Zq he k (by omega)
  have hk:ms[k]? = some ms[k]:=List.getElem?_eq_getElem (by omega)
  by_cases ht:(Bf (colsAt c ms k) ms[k]).2=0
  ·exact bu hk ih ht
  exact absurd ((Zk hk ih ht).symm.trans he) ht
theorem Um {c:List Col} {ms:List Mov} (he:(C9 c ms).2=0) {k:Nat} {m:Mov} (hk:ms[k]? = some m):(Bf (colsAt c ms k) m).2=0:=by
 have hl:=(List.getElem?_eq_some_iff.1 hk).1
 by_cases ht:(Bf (colsAt c ms k) m).2=0
 ·exact ht
 exact absurd ((Zk hk (Zq he k (by omega)) ht).symm.trans he) ht
theorem K1 {c:List Col} {ms:List Mov}:∀{n k:Nat},k≤n→(Bt c ms n)[k]? = some (colsAt c ms k)
 | 0,k,h=>by
  have:k=0:=by omega
  subst this;rfl
 | n+1,k,h=>by
  have hl:=I7 c ms n
  rw [Bt]
  by_cases e:k=n+1
  ·subst e
   rw [List.getElem?_append_right (by omega),hl,Nat.sub_self]
   rfl
  rw [List.getElem?_append_left (by omega)]
  exact K1 (by omega)
theorem Nk {c:List Col} {ms:List Mov} (h:Nc c ms=true):∀m∈ms,Gg m=true:=by
 unfold Nc fu at h
 simp only [Bool.and_eq_true,List.all_eq_true] at h
 exact h.2.2
/-- What a sound migration comes to. -/
theorem Iv {c:List Col} {ms:List Mov} (h:((D0 c ms).2 != 0)=false):Nc c ms=true∧(C9 c ms).2=0∧D0 c ms=(Bt c ms ms.length,0):=by
 cases hm:Nc c ms with
 | false=>rw [Ss hm] at h;cases h
 | true =>
  by_cases he:(C9 c ms).2=0
  ·have e:=mn (Zq he ms.length (Nat.le_refl _))
   exact ⟨rfl,he,Su hm e⟩
  rw [Qo hm he] at h
  exact absurd (by simpa using h) he
/-! SoundJoins: one behind the other, in one. -/
/-! image: rows forth and back. -/
/-- image.reckon. -/
def Al (c:List Col) (row:List Val):List Expr→List Val×Int
 | []=>([],0)
 | x::r=>if (Gi x c row).2 != 0 then ([],(Gi x c row).2) else if (Al c row r).2 != 0 then ([],(Al c row r).2) else ((Gi x c row).1::(Al c row r).1,0)
theorem Qw {c:List Col} {row:List Val}:∀{l:List Expr},(∀(j:Nat) (y:Expr),l[j]? = some y→((Gi y c row).2 != 0)=false)→Al c row l=(l.map (fun e=>(Gi e c row).1),0)
 | [],_=>rfl
 | x::r,h=>by
  rw [Al,Qw (l:=r) (fun j y hy=>h (j+1) y hy),if_neg (by rw [h 0 x rfl];simp),if_neg (by simp)]
  rfl
theorem Qx {c:List Col} {row:List Val}:∀{l:List Expr} {x:Nat} {y:Expr},(∀(j:Nat) (z:Expr),j<x→l[j]? = some z→((Gi z c row).2 != 0)=false)→l[x]? = some y→((Gi y c row).2 != 0)=true→Al c row l=([],(Gi y c row).2)
 | [],_,_,_,h,_=>by simp at h
 | a::r,0,y,_,h,h1=>by
  have:a=y:=by simpa using h
  subst this
  rw [Al,if_pos h1]
 | a::r,x+1,y,h0,h,h1=>by
  rw [Al,if_neg (by rw [h0 0 a (by omega) rfl];simp),Qx (l:=r) (x:=x) (fun j z hj hz=>h0 (j+1) z (by omega) hz) (by simpa using h) h1,if_pos h1]
theorem gt {e:Expr} (h:Ba e=true):I9 e=true:=by
 unfold I9
 rw [G7] at h
 cases hk:(e.op==1) with
 | false=>rfl
 | true =>
  show By e.val=true
  have e1:e.op=1:=by simpa using hk
  cases e with
  | mk o t v k =>
   have e1:o=1:=e1
   subst e1
   rw [Eb] at h
   simp at h
   exact h.1.1.1
mutual
theorem X2:∀e:Expr,Bk Ba e=true→Bk I9 e=true
 | .mk o t v k,h=>by
  rw [E2,Bool.and_eq_true] at h ⊢
  exact ⟨gt h.1,Sz k h.2⟩
theorem Sz:∀k:List Expr,I3 Ba k=true→I3 I9 k=true
 | [],_=>rfl
 | e::r,h=>by
  rw [I3,Bool.and_eq_true] at h ⊢
  exact ⟨X2 e h.1,Sz r h.2⟩
end
theorem nd {x:Expr} {c:List Col} {row:List Val} (hf:∀v∈row,Fine v) (hr:Bk Dr x=true):Fine (Gi x c row).1:=by
 show Fine (mp Bi x c row).1
 unfold mp
 split
 ·exact Hm
 rename_i h
 simp only [Bool.or_eq_true,Bool.not_eq_true',not_or,Bool.not_eq_false] at h
 exact Ng hf x (X2 x (Qv (by rw [←Ip];exact h.1))) hr
theorem K2 {c:List Col} {row:List Val} (hf:∀v∈row,Fine v):∀{l:List Expr},(∀e∈l,Bk Dr e=true)→∀v∈(Al c row l).1,Fine v
 | [],_,v,h=>by cases h
 | x::r,hr,v,h=>by
  rw [Al] at h
  split at h
  ·cases h
  split at h
  ·cases h
  rcases List.mem_cons.1 h with rfl|h
  ·exact nd hf (hr x List.mem_cons_self)
  exact K2 hf (fun e he=>hr e (.tail _ he)) v h
theorem Lh {c:List Col} {row:List Val}:∀{l:List Expr},(Al c row l).2=0→(Al c row l).1.length=l.length
 | [],_=>rfl
 | x::r,h=>by
  rw [Al] at h ⊢
  split at h
  ·rename_i h1
   rw [show (Gi x c row).2=0 from h] at h1
   cases h1
  rename_i h1
  rw [if_neg h1]
  split at h
  ·rename_i h2
   rw [show (Al c row r).2=0 from h] at h2
   cases h2
  rename_i h2
  rw [if_neg h2]
  simp only [List.length_cons]
  rw [Lh (l:=r) (by simpa using h2)]
/-- What is not taken. -/
def G9 (take:List Str) (c:List Col) (row:List Val):List Val:=((c.zip row).filter fun p => !take.contains p.1.name).map (·.2)
theorem Qy:∀{c:List Col} {row:List Val} {x:Nat} (hc:x<c.length) (hr:x<row.length),(c.take (x+1)).zip row=(c.take x).zip row++[(c[x],row[x])]
 | y::c,v::row,0,_,_=>by simp
 | y::c,v::row,x+1,hc,hr=>by
  simp only [List.take_succ_cons,List.zip_cons_cons,List.cons_append,List.getElem_cons_succ]
  rw [Qy (by simpa using hc) (by simpa using hr)]
 | [],_,_,hc,_=>by simp at hc
 | _::_,[],_,_,hr=>by simp at hr
theorem rz {take:List Str} {c:List Col} {row:List Val} {x:Nat} (hc:x<c.length) (hr:x<row.length) (h:take.contains c[x].name=false):G9 take (c.take (x+1)) row=G9 take (c.take x) row++[row[x]]:=by
 unfold G9
 have hb:(fun p:Col×Val => !take.contains p.1.name) (c[x],row[x])=true:=by show (!take.contains c[x].name)=true;rw [h];rfl
 rw [Qy hc hr,List.filter_append,List.map_append,List.filter_cons_of_pos (p:=fun p:Col×Val => !take.contains p.1.name) hb]
 rfl
theorem nf {take:List Str} {c:List Col} {row:List Val} {x:Nat} (hc:x<c.length) (hr:x<row.length) (h:take.contains c[x].name=true):G9 take (c.take (x+1)) row=G9 take (c.take x) row:=by
 unfold G9
 have hb:¬(fun p:Col×Val => !take.contains p.1.name) (c[x],row[x])=true:=by show ¬(!take.contains c[x].name)=true;rw [h];simp
 rw [Qy hc hr,List.filter_append,List.map_append,List.filter_cons_of_neg (p:=fun p:Col×Val => !take.contains p.1.name) hb]
 simp
theorem X3 {take:List Str}:∀{c:List Col} {row:List Val},row.length=c.length→(G9 take c row).length=(Cj c take).length
 | [],[],_=>rfl
 | y::c,v::row,h=>by
  have ih:=X3 (take:=take) (c:=c) (row:=row) (by simpa using h)
  unfold G9 Cj at ih ⊢
  rw [List.zip_cons_cons,List.filter_cons,List.filter_cons]
  cases hc:take.contains y.name<;>simp [hc] at ih ⊢<;>exact ih
 | [],_::_,h=>by simp at h
 | _::_,[],h=>by simp at h
theorem ng {take:List Str} {c:List Col} {row:List Val} {v:Val} (h:v∈G9 take c row):v∈row:=by
 unfold G9 at h
 obtain ⟨p,hp,rfl⟩:=List.mem_map.1 h
 exact (List.of_mem_zip (List.mem_filter.1 hp).1).2
/-- image.forth. -/
def Dc (c:List Col) (m:Mov) (row:List Val):List Val×Int:=if (Al c row m.ahead).2 != 0 then ([],(Al c row m.ahead).2) else (G9 m.take c row++(Al c row m.ahead).1,0)
/-- What a column ahead was. -/
def Nl (take:List Str) (was row:List Val) (d:List Col) (x:Col):Val:=if 0≤J2 x.name take then was.getD (J2 x.name take).toNat noV else row.getD (B0 x.name d).toNat noV
/-- image.back. -/
def Bd (a d:List Col) (m:Mov) (row:List Val):List Val×Int:=if (Al d row m.back).2 != 0 then ([],(Al d row m.back).2) else (a.map (Nl m.take (Al d row m.back).1 row d),0)
/-- The row behind k moves. -/
def fwM (c:List Col) (l:List Mov) (row:List Val):Nat→List Val×Int
 | 0=>(row,0)
 | k+1=>if (fwM c l row k).2 != 0 then ([],(fwM c l row k).2) else match l[k]? with
  | none=>fwM c l row k
  | some m=>Dc (colsAt c l k) m (fwM c l row k).1
/-- The row ahead of the last k moves. -/
def bkM (c:List Col) (l:List Mov) (row:List Val):Nat→List Val×Int
 | 0=>(row,0)
 | k+1=>if (bkM c l row k).2 != 0 then ([],(bkM c l row k).2) else match l[l.length-1-k]? with
  | none=>bkM c l row k
  | some m=>Bd (colsAt c l (l.length-1-k)) (colsAt c l (l.length-1-k+1)) m (bkM c l row k).1
/-- image.Forth. -/
def C2 (c:List Col) (l:List Mov) (row:List Val):List Val×Int:=if ((D0 c l).2 != 0) || !I8 c row then ([],1) else fwM c l row l.length
/-- image.Back. -/
def Bo (c:List Col) (l:List Mov) (row:List Val):List Val×Int:=if ((D0 c l).2 != 0) || !I8 (colsAt c l l.length) row then ([],1) else bkM c l row l.length
/-- image.Old. -/
def F6 (c:List Col) (l:List Mov) (row:List Val):List Val×Int:=if (Bo c l row).2 != 0 then ([],(Bo c l row).2) else if (C2 c l (Bo c l row).1).2 != 0 then ([],(C2 c l (Bo c l row).1).2) else if !decide ((C2 c l (Bo c l row).1).1=row) then ([],14) else ((Bo c l row).1,0)
/-- image.Faithful. -/
def Qz (c:List Col) (l:List Mov) (row:List Val):Bool:=if (C2 c l row).2 != 0 then false else ((Bo c l (C2 c l row).1).2==0)&&decide ((Bo c l (C2 c l row).1).1=row)
/-- The law of ImageOld. -/
theorem s6 {c:List Col} {l:List Mov} {row:List Val} (h:(F6 c l row).2=0):C2 c l (F6 c l row).1=(row,0)∧F6 c l (C2 c l (F6 c l row).1).1=F6 c l row∧Qz c l (F6 c l row).1=true:=by
 have key:(Bo c l row).2=0∧C2 c l (Bo c l row).1=(row,0)∧F6 c l row=((Bo c l row).1,0):=by
  unfold F6 at h ⊢
  split at h
  ·rename_i h1
   rw [show (Bo c l row).2=0 from h] at h1
   cases h1
  rename_i h1
  rw [if_neg h1]
  split at h
  ·rename_i h2
   rw [show (C2 c l (Bo c l row).1).2=0 from h] at h2
   cases h2
  rename_i h2
  rw [if_neg h2]
  split at h
  ·cases h
  rename_i h3
  rw [if_neg h3]
  refine ⟨by simpa using h1,?_,rfl⟩
  have e1:(C2 c l (Bo c l row).1).1=row:=by simpa using h3
  have e2:(C2 c l (Bo c l row).1).2=0:=by simpa using h2
  exact Prod.ext e1 e2
 obtain ⟨k1,k2,k3⟩:=key
 rw [k3]
 refine ⟨k2,by rw [k2];exact k3,?_⟩
 unfold Qz
 rw [k2]
 show (if ((0:Int) != 0)=true then false else ((Bo c l row).2==0)&&decide ((Bo c l row).1=(Bo c l row).1))=true
 rw [if_neg (by decide),k1]
 simp
theorem nh {c:List Col} {l:List Mov} {row:List Val} (h:(F6 c l row).2≠0):(F6 c l row).1=[]:=by
 unfold F6 at h ⊢
 repeat' split
 all_goals first|rfl|skip
 rename_i h1 h2 h3
 rw [if_neg h1,if_neg h2,if_neg h3] at h
 exact absurd rfl h
/-- A row that may be walked: as long as its columns are many, its values fine. -/
structure RowI (c:List Col) (row:List Val):Prop where
 len:row.length=c.length
 fine:∀v∈row,Fine v
theorem Mb {c:List Col} {row:List Val} (h:I8 c row=true) (hr:∀v∈row, -9223372036854775808≤v.n∧v.n≤9223372036854775807):RowI c row:=by
 unfold I8 at h
 simp only [Bool.and_eq_true,beq_iff_eq,List.all_eq_true] at h
 refine ⟨h.1.2,fun v hv=>⟨?_,(hr v hv).1,(hr v hv).2⟩⟩
 obtain ⟨j,hj,rfl⟩:=List.getElem_of_mem hv
 have hj2:j<c.length:=by omega
 have:=h.2 (row[j],c[j]) (List.mem_of_getElem? (i:=j) (by rw [List.getElem?_zip_eq_some];exact ⟨List.getElem?_eq_getElem hj,List.getElem?_eq_getElem hj2⟩))
 exact this.1
theorem T0 {c:List Col} {m:Mov} {row:List Val} (ht:(Bf c m).2=0) (hm:Gg m=true) (hg:∀e∈m.ahead,Bk Dr e=true) (h:RowI c row) (hf:(Dc c m row).2=0):RowI (Bf c m).1 (Dc c m row).1:=by
 unfold Dc at hf ⊢
 split at hf
 ·rename_i h1
  rw [show (Al c row m.ahead).2=0 from hf] at h1
  cases h1
 rename_i h1
 rw [if_neg h1]
 have hl:=Lh (c:=c) (row:=row) (l:=m.ahead) (by simpa using h1)
 refine ⟨?_,fun v hv=>?_⟩
 ·rw [(X1 ht).1,List.length_append,List.length_append,X3 h.len,hl,I5,(Fi (Nd hm)).1]
 rcases List.mem_append.1 hv with h2|h2
 ·exact h.fine v (ng h2)
 exact K2 h.fine hg v h2
theorem T3 {row:List Val} (h:∀v∈row,Fine v) (n:Nat):Fine (row.getD n noV):=by
 rw [List.getD_eq_getElem?_getD]
 cases hn:row[n]? with
 | none=>exact Hm
 | some v=>exact h v (List.mem_of_getElem? hn)
theorem ni {a d:List Col} {m:Mov} {row:List Val} (hg:∀e∈m.back,Bk Dr e=true) (h:RowI d row) (hf:(Bd a d m row).2=0):RowI a (Bd a d m row).1:=by
 unfold Bd at hf ⊢
 split at hf
 ·rename_i h1
  rw [show (Al d row m.back).2=0 from hf] at h1
  cases h1
 rename_i h1
 rw [if_neg h1]
 refine ⟨List.length_map _,fun v hv=>?_⟩
 obtain ⟨x,_,rfl⟩:=List.mem_map.1 hv
 unfold Nl
 split
 ·exact T3 (K2 h.fine hg) _
 exact T3 h.fine _
theorem Un {c:List Col} {l:List Mov} {row:List Val} {k:Nat} {m:Mov} (hk:l[k]? = some m) (h:(fwM c l row k).2=0):fwM c l row (k+1)=Dc (colsAt c l k) m (fwM c l row k).1:=by
 rw [fwM,if_neg (by rw [h];simp),hk]
theorem Oy {c:List Col} {l:List Mov} {row:List Val} {k:Nat} {m:Mov} (hk:l[l.length-1-k]? = some m) (h:(bkM c l row k).2=0):bkM c l row (k+1)=Bd (colsAt c l (l.length-1-k)) (colsAt c l (l.length-1-k+1)) m (bkM c l row k).1:=by
 rw [bkM,if_neg (by rw [h];simp),hk]
theorem Zr {c:List Col} {l:List Mov} {row:List Val} {k:Nat} (h:(fwM c l row k).2≠0):∀n,k<n→fwM c l row n=([],(fwM c l row k).2)
 | 0,hn=>by omega
 | n+1,hn=>by
  by_cases hk:k=n
  ·subst hk
   rw [fwM,if_pos (by simpa using h)]
  rw [fwM,Zr h n (by omega),if_pos (by simpa using h)]
theorem Zs {c:List Col} {l:List Mov} {row:List Val} {k:Nat} (h:(bkM c l row k).2≠0):∀n,k<n→bkM c l row n=([],(bkM c l row k).2)
 | 0,hn=>by omega
 | n+1,hn=>by
  by_cases hk:k=n
  ·subst hk
   rw [bkM,if_pos (by simpa using h)]
  rw [bkM,Zs h n (by omega),if_pos (by simpa using h)]
theorem Zt {c:List Col} {m:Mov} {row:List Val} (h:(Dc c m row).2≠0):(Dc c m row).1=[]:=by
 unfold Dc at h ⊢
 split
 ·rfl
 rename_i h1
 rw [if_neg h1] at h
 exact absurd rfl h
theorem T5 {a d:List Col} {m:Mov} {row:List Val} (h:(Bd a d m row).2≠0):(Bd a d m row).1=[]:=by
 unfold Bd at h ⊢
 split
 ·rfl
 rename_i h1
 rw [if_neg h1] at h
 exact absurd rfl h
/-- A failing move ends it. -/
theorem s7 {c:List Col} {l:List Mov} {row:List Val} {k:Nat} {m:Mov} (hk:l[k]? = some m) (h:(fwM c l row k).2=0) (hb:(Dc (colsAt c l k) m (fwM c l row k).1).2≠0):fwM c l row l.length=([],(Dc (colsAt c l k) m (fwM c l row k).1).2):=by
 have e:=Un hk h
 have hl:=(List.getElem?_eq_some_iff.1 hk).1
 by_cases h1:k+1=l.length
 ·rw [←h1,e]
  exact Prod.ext (Zt hb) rfl
 have:=Zr (c:=c) (l:=l) (row:=row) (k:=k+1) (by rw [e];exact hb) l.length (by omega)
 rw [this,e]
theorem s8 {c:List Col} {l:List Mov} {row:List Val} {k:Nat} {m:Mov} (hl:k<l.length) (hk:l[l.length-1-k]? = some m) (h:(bkM c l row k).2=0) (hb:(Bd (colsAt c l (l.length-1-k)) (colsAt c l (l.length-1-k+1)) m (bkM c l row k).1).2≠0):bkM c l row l.length=([],(Bd (colsAt c l (l.length-1-k)) (colsAt c l (l.length-1-k+1)) m (bkM c l row k).1).2):=by
 have e:=Oy hk h
 by_cases h1:k+1=l.length
 ·rw [h1] at e
  rw [e]
  exact Prod.ext (T5 hb) rfl
 have:=Zs (c:=c) (l:=l) (row:=row) (k:=k+1) (by rw [e];exact hb) l.length (by omega)
 rw [this,e]
abbrev Nm (r:Rs):AV:=.tup [Ak r.1,A2 r.2]
abbrev c7 (l:List Int):AV:=.slice false 1 (l.map A2)
abbrev R0 (c:List Col) (l:List Val):AV:=.agg [Ac c,Aw l]
theorem ABj (e:Int) (Hp:List AObj):AFun Tryz.prog 122 [A2 e] Hp (Nm (C1 e)):=by
 refine ACall.body [.cell 2 63,.tmp 3] [0] Tryz.func122 Tryz.ntmps122 (fun d=>?_)
 refine Vh ?_;refine R.fin [0,2] ?_;refine ue ?_;refine R.go ?_;refine Ok ?_;exact K.fin (V.two (V.cellN jA jS) V.tmp)

theorem ABk (n e:Int) (Hp:List AObj):AFun Tryz.prog 197 [A2 n,A2 e] Hp (Nm (Fk (n,e))):=by
 refine ACall.body [.cell 4 63,.tmp 5] [0,1] Tryz.func197 Tryz.ntmps197 (fun d=>?_)
 refine Vh ?_;refine R.fin [0,1,4] ?_;refine Z22 ?_;refine R.fin [0,1,4,7] ?_
 refine W.cond (fun ht7=>?_) (fun ht7=>?_)
 ·have hw:Fk (n,e)=C1 e:=if_pos ht7
  refine Z2 ?_;refine Z42 ?_;refine Z38 ?_;refine K.thR ?_;exact yf
 have hw:Fk (n,e)=(⟨1,n,[]⟩,0):=if_neg (by rw [ht7];simp)
 refine Z99 ?_;refine R.call Tryz.call189 (ux _ _) ?_;refine Z38 ?_;exact yf

theorem X4 {vs:List Val} {ks:List Int} (hl:ks.length≤vs.length) {x:Nat} (hk:x<ks.length) (hx:Dg vs ks=Dg (vs.drop x) (ks.drop x)):Dg vs ks=((vs[x].kind==ks[x])&&Dg (vs.drop (x+1)) (ks.drop (x+1))):=by
 rw [hx,List.drop_eq_getElem_cons hk,List.drop_eq_getElem_cons (show x<vs.length by omega),Dg]
theorem nj (vs:List Val) (ks:List Int) (hks:ks.length≤vs.length) (hk2:ks.length≤1048576) (Hp:List AObj):AFun Tryz.prog 196 [Aw vs,c7 ks] Hp (Ar (Dg vs ks)):=by
 refine ACall.body [.tmp 4] [0,1] Tryz.func196 Tryz.ntmps196 (fun d=>?_)
 refine Z51 ?_;refine Z31 ?_;refine R.fin [0,7,8,9] ?_
 refine AW.loopC (α:=Nat) (fun x=>⟨22,A3 0 (Aw vs) (A3 7 (c7 ks) (A3 8 (A2 (ks.length:Nat)) (A3 9 (A2 (x:Nat)) (fun _=>.any)))),Hp,[],[],none⟩) (fun x=>x≤ks.length∧Dg vs ks=Dg (vs.drop x) (ks.drop x)) (fun x=>ks.length-x) (0) ⟨Nat.zero_le _,rfl⟩ (StLe.of_eq (by simp)) rfl (fun x hx=>?_)
 refine Z2 ?_;refine R.fin [0,7,8,9,10] ?_
 refine W.condX (fun ht10=>?_) (fun ht10=>?_)
 ·have hlt:x<ks.length:=by simpa using ht10
  have hls:x<vs.length:=by omega
  have hst:=X4 hks hlt hx.2
  refine Lp ?_
  refine R.go (h:=Q.indexAddr (x) (A2 ks[x]) (fun _=>Am hlt)) (hr:=?_)
  refine Z19 ?_;refine R.fin [0,5,6,7,8,9] ?_;refine Z1 ?_
  refine R.go (h:=Q.indexAddr (x) (Ak vs[x]) (fun _=>Am hls)) (hr:=?_)
  refine Z71 ?_;refine R.fin [0,7,8,9,20] ?_
  refine W.cond (fun ht20=>?_) (fun ht20=>?_)
  ·have hm:Dg vs ks=false:=by rw [hst];simp only [bne_iff_ne,ne_eq] at ht20;simp [ht20]
   refine Z61 ?_;exact Z93
  have hn:Dg vs ks=Dg (vs.drop (x+1)) (ks.drop (x+1)):=by rw [hst];simp only [bne_eq_false_iff_eq] at ht20;simp [ht20]
  refine Z72 ?_;refine R.fin [0,7,8,9] ?_;exact x9
 have hxe:ks.length≤x:=by simpa using ht10
 have hm:Dg vs ks=true:=by rw [hx.2,List.drop_of_length_le hxe];cases vs.drop x<;>rfl
 refine Z35 ?_;exact oz

theorem ABl (t:Str) (c:Int) (Hp:List AObj):AFun Tryz.prog 217 [A9 t,A2 c] Hp (.tup [Ar (A4 t c).1,Ar (A4 t c).2]):=by
 refine ACall.body [.tmp 4,.tmp 5] [0,1] Tryz.func217 Tryz.ntmps217 (fun d=>?_)
 refine Y1 ?_;refine Z36 ?_;refine R.fin [1,6] ?_;refine Z92 ?_;refine R.fin [1,6,7] ?_
 refine W.cond (fun ht7=>?_) (fun ht7=>?_)
 ·refine dr ?_
  first|(by_cases e0:A4 t c=(c==0,true);exact K.fin (V.two V.tmp V.tmp) ⟨by rw [e0];try rfl,rfl⟩;exfalso;refine e0 ?_;clear e0;simp_all [A4];done)|(by_cases e0:A4 t c=(c != 0,true);exact K.fin (V.two V.tmp V.tmp) ⟨by rw [e0];try rfl,rfl⟩;exfalso;refine e0 ?_;clear e0;simp_all [A4];done)|(by_cases e0:A4 t c=(decide (c<0),true);exact K.fin (V.two V.tmp V.tmp) ⟨by rw [e0];try rfl,rfl⟩;exfalso;refine e0 ?_;clear e0;simp_all [A4];done)|(by_cases e0:A4 t c=(decide (c≤0),true);exact K.fin (V.two V.tmp V.tmp) ⟨by rw [e0];try rfl,rfl⟩;exfalso;refine e0 ?_;clear e0;simp_all [A4];done)|(by_cases e0:A4 t c=(decide (0<c),true);exact K.fin (V.two V.tmp V.tmp) ⟨by rw [e0];try rfl,rfl⟩;exfalso;refine e0 ?_;clear e0;simp_all [A4];done)|(by_cases e0:A4 t c=(decide (0≤c),true);exact K.fin (V.two V.tmp V.tmp) ⟨by rw [e0];try rfl,rfl⟩;exfalso;refine e0 ?_;clear e0;simp_all [A4];done)|(by_cases e0:A4 t c=(false,false);exact K.fin (V.two V.tmp V.tmp) ⟨by rw [e0];try rfl,rfl⟩;exfalso;refine e0 ?_;clear e0;simp_all [A4];done)
 refine Z1 ?_;refine R.fin [1,6,11] ?_
 refine W.cond (fun ht11=>?_) (fun ht11=>?_)
 ·refine dr ?_
  first|(by_cases e0:A4 t c=(c==0,true);exact K.fin (V.two V.tmp V.tmp) ⟨by rw [e0];try rfl,rfl⟩;exfalso;refine e0 ?_;clear e0;simp_all [A4];done)|(by_cases e0:A4 t c=(c != 0,true);exact K.fin (V.two V.tmp V.tmp) ⟨by rw [e0];try rfl,rfl⟩;exfalso;refine e0 ?_;clear e0;simp_all [A4];done)|(by_cases e0:A4 t c=(decide (c<0),true);exact K.fin (V.two V.tmp V.tmp) ⟨by rw [e0];try rfl,rfl⟩;exfalso;refine e0 ?_;clear e0;simp_all [A4];done)|(by_cases e0:A4 t c=(decide (c≤0),true);exact K.fin (V.two V.tmp V.tmp) ⟨by rw [e0];try rfl,rfl⟩;exfalso;refine e0 ?_;clear e0;simp_all [A4];done)|(by_cases e0:A4 t c=(decide (0<c),true);exact K.fin (V.two V.tmp V.tmp) ⟨by rw [e0];try rfl,rfl⟩;exfalso;refine e0 ?_;clear e0;simp_all [A4];done)|(by_cases e0:A4 t c=(decide (0≤c),true);exact K.fin (V.two V.tmp V.tmp) ⟨by rw [e0];try rfl,rfl⟩;exfalso;refine e0 ?_;clear e0;simp_all [A4];done)|(by_cases e0:A4 t c=(false,false);exact K.fin (V.two V.tmp V.tmp) ⟨by rw [e0];try rfl,rfl⟩;exfalso;refine e0 ?_;clear e0;simp_all [A4];done)
 refine Z1 ?_;refine R.fin [1,6,15] ?_
 refine W.cond (fun ht15=>?_) (fun ht15=>?_)
 ·refine dr ?_
  first|(by_cases e0:A4 t c=(c==0,true);exact K.fin (V.two V.tmp V.tmp) ⟨by rw [e0];try rfl,rfl⟩;exfalso;refine e0 ?_;clear e0;simp_all [A4];done)|(by_cases e0:A4 t c=(c != 0,true);exact K.fin (V.two V.tmp V.tmp) ⟨by rw [e0];try rfl,rfl⟩;exfalso;refine e0 ?_;clear e0;simp_all [A4];done)|(by_cases e0:A4 t c=(decide (c<0),true);exact K.fin (V.two V.tmp V.tmp) ⟨by rw [e0];try rfl,rfl⟩;exfalso;refine e0 ?_;clear e0;simp_all [A4];done)|(by_cases e0:A4 t c=(decide (c≤0),true);exact K.fin (V.two V.tmp V.tmp) ⟨by rw [e0];try rfl,rfl⟩;exfalso;refine e0 ?_;clear e0;simp_all [A4];done)|(by_cases e0:A4 t c=(decide (0<c),true);exact K.fin (V.two V.tmp V.tmp) ⟨by rw [e0];try rfl,rfl⟩;exfalso;refine e0 ?_;clear e0;simp_all [A4];done)|(by_cases e0:A4 t c=(decide (0≤c),true);exact K.fin (V.two V.tmp V.tmp) ⟨by rw [e0];try rfl,rfl⟩;exfalso;refine e0 ?_;clear e0;simp_all [A4];done)|(by_cases e0:A4 t c=(false,false);exact K.fin (V.two V.tmp V.tmp) ⟨by rw [e0];try rfl,rfl⟩;exfalso;refine e0 ?_;clear e0;simp_all [A4];done)
 refine Z1 ?_;refine R.fin [1,6,19] ?_
 refine W.cond (fun ht19=>?_) (fun ht19=>?_)
 ·refine dr ?_
  first|(by_cases e0:A4 t c=(c==0,true);exact K.fin (V.two V.tmp V.tmp) ⟨by rw [e0];try rfl,rfl⟩;exfalso;refine e0 ?_;clear e0;simp_all [A4];done)|(by_cases e0:A4 t c=(c != 0,true);exact K.fin (V.two V.tmp V.tmp) ⟨by rw [e0];try rfl,rfl⟩;exfalso;refine e0 ?_;clear e0;simp_all [A4];done)|(by_cases e0:A4 t c=(decide (c<0),true);exact K.fin (V.two V.tmp V.tmp) ⟨by rw [e0];try rfl,rfl⟩;exfalso;refine e0 ?_;clear e0;simp_all [A4];done)|(by_cases e0:A4 t c=(decide (c≤0),true);exact K.fin (V.two V.tmp V.tmp) ⟨by rw [e0];try rfl,rfl⟩;exfalso;refine e0 ?_;clear e0;simp_all [A4];done)|(by_cases e0:A4 t c=(decide (0<c),true);exact K.fin (V.two V.tmp V.tmp) ⟨by rw [e0];try rfl,rfl⟩;exfalso;refine e0 ?_;clear e0;simp_all [A4];done)|(by_cases e0:A4 t c=(decide (0≤c),true);exact K.fin (V.two V.tmp V.tmp) ⟨by rw [e0];try rfl,rfl⟩;exfalso;refine e0 ?_;clear e0;simp_all [A4];done)|(by_cases e0:A4 t c=(false,false);exact K.fin (V.two V.tmp V.tmp) ⟨by rw [e0];try rfl,rfl⟩;exfalso;refine e0 ?_;clear e0;simp_all [A4];done)
 refine Z1 ?_;refine R.fin [1,6,23] ?_
 refine W.cond (fun ht23=>?_) (fun ht23=>?_)
 ·refine dr ?_
  first|(by_cases e0:A4 t c=(c==0,true);exact K.fin (V.two V.tmp V.tmp) ⟨by rw [e0];try rfl,rfl⟩;exfalso;refine e0 ?_;clear e0;simp_all [A4];done)|(by_cases e0:A4 t c=(c != 0,true);exact K.fin (V.two V.tmp V.tmp) ⟨by rw [e0];try rfl,rfl⟩;exfalso;refine e0 ?_;clear e0;simp_all [A4];done)|(by_cases e0:A4 t c=(decide (c<0),true);exact K.fin (V.two V.tmp V.tmp) ⟨by rw [e0];try rfl,rfl⟩;exfalso;refine e0 ?_;clear e0;simp_all [A4];done)|(by_cases e0:A4 t c=(decide (c≤0),true);exact K.fin (V.two V.tmp V.tmp) ⟨by rw [e0];try rfl,rfl⟩;exfalso;refine e0 ?_;clear e0;simp_all [A4];done)|(by_cases e0:A4 t c=(decide (0<c),true);exact K.fin (V.two V.tmp V.tmp) ⟨by rw [e0];try rfl,rfl⟩;exfalso;refine e0 ?_;clear e0;simp_all [A4];done)|(by_cases e0:A4 t c=(decide (0≤c),true);exact K.fin (V.two V.tmp V.tmp) ⟨by rw [e0];try rfl,rfl⟩;exfalso;refine e0 ?_;clear e0;simp_all [A4];done)|(by_cases e0:A4 t c=(false,false);exact K.fin (V.two V.tmp V.tmp) ⟨by rw [e0];try rfl,rfl⟩;exfalso;refine e0 ?_;clear e0;simp_all [A4];done)
 refine Z1 ?_;refine R.fin [1,27] ?_
 refine W.cond (fun ht27=>?_) (fun ht27=>?_)
 ·refine dr ?_
  first|(by_cases e0:A4 t c=(c==0,true);exact K.fin (V.two V.tmp V.tmp) ⟨by rw [e0];try rfl,rfl⟩;exfalso;refine e0 ?_;clear e0;simp_all [A4];done)|(by_cases e0:A4 t c=(c != 0,true);exact K.fin (V.two V.tmp V.tmp) ⟨by rw [e0];try rfl,rfl⟩;exfalso;refine e0 ?_;clear e0;simp_all [A4];done)|(by_cases e0:A4 t c=(decide (c<0),true);exact K.fin (V.two V.tmp V.tmp) ⟨by rw [e0];try rfl,rfl⟩;exfalso;refine e0 ?_;clear e0;simp_all [A4];done)|(by_cases e0:A4 t c=(decide (c≤0),true);exact K.fin (V.two V.tmp V.tmp) ⟨by rw [e0];try rfl,rfl⟩;exfalso;refine e0 ?_;clear e0;simp_all [A4];done)|(by_cases e0:A4 t c=(decide (0<c),true);exact K.fin (V.two V.tmp V.tmp) ⟨by rw [e0];try rfl,rfl⟩;exfalso;refine e0 ?_;clear e0;simp_all [A4];done)|(by_cases e0:A4 t c=(decide (0≤c),true);exact K.fin (V.two V.tmp V.tmp) ⟨by rw [e0];try rfl,rfl⟩;exfalso;refine e0 ?_;clear e0;simp_all [A4];done)|(by_cases e0:A4 t c=(false,false);exact K.fin (V.two V.tmp V.tmp) ⟨by rw [e0];try rfl,rfl⟩;exfalso;refine e0 ?_;clear e0;simp_all [A4];done)
 refine Y9 ?_;refine Z12 ?_
 first|(by_cases e0:A4 t c=(c==0,true);exact K.fin (V.two V.tmp V.tmp) ⟨by rw [e0];try rfl,rfl⟩;exfalso;refine e0 ?_;clear e0;simp_all [A4];done)|(by_cases e0:A4 t c=(c != 0,true);exact K.fin (V.two V.tmp V.tmp) ⟨by rw [e0];try rfl,rfl⟩;exfalso;refine e0 ?_;clear e0;simp_all [A4];done)|(by_cases e0:A4 t c=(decide (c<0),true);exact K.fin (V.two V.tmp V.tmp) ⟨by rw [e0];try rfl,rfl⟩;exfalso;refine e0 ?_;clear e0;simp_all [A4];done)|(by_cases e0:A4 t c=(decide (c≤0),true);exact K.fin (V.two V.tmp V.tmp) ⟨by rw [e0];try rfl,rfl⟩;exfalso;refine e0 ?_;clear e0;simp_all [A4];done)|(by_cases e0:A4 t c=(decide (0<c),true);exact K.fin (V.two V.tmp V.tmp) ⟨by rw [e0];try rfl,rfl⟩;exfalso;refine e0 ?_;clear e0;simp_all [A4];done)|(by_cases e0:A4 t c=(decide (0≤c),true);exact K.fin (V.two V.tmp V.tmp) ⟨by rw [e0];try rfl,rfl⟩;exfalso;refine e0 ?_;clear e0;simp_all [A4];done)|(by_cases e0:A4 t c=(false,false);exact K.fin (V.two V.tmp V.tmp) ⟨by rw [e0];try rfl,rfl⟩;exfalso;refine e0 ?_;clear e0;simp_all [A4];done)

theorem zl (a b:Int) (Hp:List AObj):AFun Tryz.prog 221 [A2 a,A2 b] Hp (.tup [A2 (Jw a b).1,A2 (Jw a b).2]):=by
 refine ACall.body [.tmp 4,.tmp 5] [0,1] Tryz.func221 Tryz.ntmps221 (fun d=>?_)
 refine Y1 ?_;refine Z1 ?_
 refine R.go (h:=Q.sub) (hr:=?_)
 refine R.go ?_;refine R.fin [0,1,6] ?_;refine Z22 ?_;refine R.xor ?_;refine Z0 ?_;refine R.xor ?_;refine R.and ?_;refine R.go ?_;refine R.fin [6,17] ?_
 refine W.cond (fun ht17=>?_) (fun ht17=>?_)
 ·have hm:Jw a b=(0,4):=if_pos ht17
  refine Z1 ?_;exact xi
 have hm:Jw a b=(IntKind.i64.wrap (a-b),0):=if_neg (by rw [ht17];simp)
 refine Lq ?_;exact u6

theorem ABm (a b:Int) (Hp:List AObj):AFun Tryz.prog 239 [A2 a,A2 b] Hp (.tup [A2 (Qq a b).1,A2 (Qq a b).2]):=by
 refine ACall.body [.tmp 4,.tmp 5] [0,1] Tryz.func239 Tryz.ntmps239 (fun d=>?_)
 refine Y1 ?_;refine Z1 ?_
 refine R.go (h:=Q.add) (hr:=?_)
 refine R.go ?_;refine R.fin [0,1,6] ?_;refine Z22 ?_;refine R.xor ?_;refine Z0 ?_;refine R.xor ?_;refine R.and ?_;refine R.go ?_;refine R.fin [6,17] ?_
 refine W.cond (fun ht17=>?_) (fun ht17=>?_)
 ·have hm:Qq a b=(0,4):=if_pos ht17
  refine Z1 ?_;exact xi
 have hm:Qq a b=(IntKind.i64.wrap (a+b),0):=if_neg (by rw [ht17];simp)
 refine Lq ?_;exact u6

theorem ABn (a:Int) (Hp:List AObj):AFun Tryz.prog 198 [A2 a] Hp (.tup [A2 (Jw 0 a).1,A2 (Jw 0 a).2]):=by
 refine ACall.body [.tmp 2,.tmp 3] [0] Tryz.func198 Tryz.ntmps198 (fun d=>?_)
 refine Z1 ?_;refine R.fin [0] ?_;refine Z2 ?_;refine R.call Tryz.call221 (zl _ _ _) ?_;refine Z71 ?_;refine Z41 ?_;exact K.fin (V.two V.tmp V.tmp)

theorem zm (a:Int) (Hp:List AObj):AFun Tryz.prog 258 [A2 a] Hp (kb (Od a)):=by
 refine ACall.body [.tmp 2] [0] Tryz.func258 Tryz.ntmps258 (fun d=>?_)
 refine Z48 ?_;refine Z22 ?_;refine R.fin [0,4] ?_
 refine W.cond (fun ht4=>?_) (fun ht4=>?_)
 ·have hm:Od a=IntKind.u64.wrap (0-IntKind.u64.wrap a):=if_pos ht4
  refine Z30 ?_;refine Z4 ?_;exact Z24
 have hm:Od a=IntKind.u64.wrap a:=if_neg (by rw [ht4];simp)
 refine Lq ?_;exact xn

theorem wc (n:Int):0≤IntKind.u64.wrap n∧IntKind.u64.wrap n<18446744073709551616:=by rw [IntKind.wrap_u64];omega
theorem nk (a:Int):0≤Od a∧Od a<18446744073709551616:=by
 unfold Od
 split<;>exact wc _
theorem ABo (x y:Int) (hx:0≤x∧x<18446744073709551616) (hy:0≤y∧y<18446744073709551616) (Hp:List AObj):AFun Tryz.prog 257 [kb x,kb y] Hp (.tup [kb (x*y / 18446744073709551616),kb (x*y % 18446744073709551616)]):=by
 obtain ⟨m,rfl⟩:=Int.eq_ofNat_of_zero_le hx.1
 obtain ⟨n,rfl⟩:=Int.eq_ofNat_of_zero_le hy.1
 refine AFun.lib (xs:=[.int .u64 m,.int .u64 n]) (v:=.tuple #[.int .u64 ((m*n / 18446744073709551616:Nat):Int),.int .u64 ((m*n % 18446744073709551616:Nat):Int)]) (fun G w=>Ie rfl (fun i y u hy hu=>?_)) (fun w hg=>?_)
 ·match i with
  | 0=>simp at hy hu;subst hy;subst hu;exact .v _ _
  | 1=>simp at hy hu;subst hy;subst hu;exact .v _ _
  | i+2=>simp at hy
 refine (Any.bits_Mul64 Tryz.lays264 m n (by omega) (by omega) w).mono ?_
 rintro e w' ⟨rfl,rfl⟩
 exact ⟨rfl,Go.RowKit.Below.refl _ _⟩
theorem ABp (s t:Str) (Hp:List AObj):AFun Tryz.prog 238 [A9 s,A9 t] Hp (A2 (Lib.compareBytes s t)):=by
 refine AFun.lib (xs:=[sv s,sv t]) (v:=.int .i64 (Lib.compareBytes s t)) (fun G w=>.v _ _) (fun w hg=>?_)
 refine (Any.strings_Compare Tryz.lays106 ⟨s.toArray⟩ ⟨t.toArray⟩ w).mono ?_
 rintro e w' ⟨rfl,rfl⟩
 exact ⟨rfl,Go.RowKit.Below.refl _ _⟩
theorem ABq (a b:Int) (Hp:List AObj):AFun Tryz.prog 240 [A2 a,A2 b] Hp (.tup [A2 (L9 a b).1,A2 (L9 a b).2]):=by
 refine ACall.body [.tmp 4,.tmp 5] [0,1] Tryz.func240 Tryz.ntmps240 (fun d=>?_)
 refine Y1 ?_;refine Z2 ?_;refine R.call Tryz.call258 (zm _ _) ?_;refine R.go ?_;refine R.call Tryz.call258 (zm _ _) ?_;refine R.call Tryz.call257 (ABo _ _ (nk a) (nk b) _) ?_;refine Z64 ?_;refine R.fin [0,1,6,7] ?_;refine Z30 ?_;refine Z0 ?_;refine R.fin [6,7,8] ?_;refine Z2 ?_;refine R.fin [6,7,8,9] ?_;refine Z36 ?_;refine R.fin [6,7,8,9,23] ?_
 refine W.cond (fun ht23=>?_) (fun ht23=>?_)
 ·refine Z82 ?_
  refine R.go (h:=Q.add) (hr:=?_)
  refine R.go ?_;refine R.fin [6,7,8,9] ?_;refine K.thN ?_;refine Vj ?_;refine Mo ?_;refine R.fin [7,8,26] ?_
  refine W.cond (fun ht26=>?_) (fun ht26=>?_)
  ·refine Z1 ?_;refine Z81 ?_
   exact K.fin (V.two V.tmp V.tmp) ⟨by
    have w1:IntKind.u64.wrap 9223372036854775808=9223372036854775808:=rfl
    simp_all [L9]
    try first|(rw [if_pos ht26];simp;done)|(rw [if_neg (by omega)];simp;done),rfl⟩
  refine Z1 ?_;refine R.fin [7,34] ?_
  refine W.cond (fun ht34=>?_) (fun ht34=>?_)
  ·refine Z1 ?_;refine Z19 ?_;refine Z81 ?_
   exact K.fin (V.two V.tmp V.tmp) ⟨by
    have w1:IntKind.u64.wrap 9223372036854775808=9223372036854775808:=rfl
    simp_all [L9]
    try first|(rw [if_pos ht26];simp;done)|(rw [if_neg (by omega)];simp;done),rfl⟩
  refine Z18 ?_;refine Z30 ?_;refine Z12 ?_
  exact K.fin (V.two V.tmp V.tmp) ⟨by
   have w1:IntKind.u64.wrap 9223372036854775808=9223372036854775808:=rfl
   simp_all [L9]
   try first|(rw [if_pos ht26];simp;done)|(rw [if_neg (by omega)];simp;done),rfl⟩
 refine Z86 ?_;refine Z13 ?_;refine Mo ?_;refine R.fin [7,8,26] ?_
 refine W.cond (fun ht26=>?_) (fun ht26=>?_)
 ·refine Z1 ?_;refine Z81 ?_
  exact K.fin (V.two V.tmp V.tmp) ⟨by
   have w1:IntKind.u64.wrap 9223372036854775808=9223372036854775808:=rfl
   simp_all [L9]
   try first|(rw [if_pos ht26];simp;done)|(rw [if_neg (by omega)];simp;done),rfl⟩
 refine Z1 ?_;refine R.fin [7,34] ?_
 refine W.cond (fun ht34=>?_) (fun ht34=>?_)
 ·refine Z1 ?_;refine Z19 ?_;refine Z81 ?_
  exact K.fin (V.two V.tmp V.tmp) ⟨by
   have w1:IntKind.u64.wrap 9223372036854775808=9223372036854775808:=rfl
   simp_all [L9]
   try first|(rw [if_pos ht26];simp;done)|(rw [if_neg (by omega)];simp;done),rfl⟩
 refine Z18 ?_;refine Z30 ?_;refine Z12 ?_
 exact K.fin (V.two V.tmp V.tmp) ⟨by
  have w1:IntKind.u64.wrap 9223372036854775808=9223372036854775808:=rfl
  simp_all [L9]
  try first|(rw [if_pos ht26];simp;done)|(rw [if_neg (by omega)];simp;done),rfl⟩

theorem ABr (a b:Int) (Hp:List AObj):AFun Tryz.prog 241 [A2 a,A2 b] Hp (.tup [A2 (Fl a b).1,A2 (Fl a b).2]):=by
 refine ACall.body [.tmp 4,.tmp 5] [0,1] Tryz.func241 Tryz.ntmps241 (fun d=>?_)
 refine Y1 ?_;refine Vj ?_;refine R.fin [0,1,6] ?_
 refine W.cond (fun ht6=>?_) (fun ht6=>?_)
 ·refine Z1 ?_;refine Z81 ?_
  first|(by_cases e0:Fl a b=(0,5);exact K.fin (V.two V.tmp V.tmp) ⟨by rw [e0];try rfl,rfl⟩;exfalso;refine e0 ?_;clear e0;simp_all [Fl];done)|(by_cases e0:Fl a b=(0,4);exact K.fin (V.two V.tmp V.tmp) ⟨by rw [e0];try rfl,rfl⟩;exfalso;refine e0 ?_;clear e0;simp_all [Fl];done)|(by_cases e0:Fl a b=(IntKind.i64.wrap (a.tdiv b),0);exact K.fin (V.two V.tmp V.tmp) ⟨by rw [e0];try rfl,rfl⟩;exfalso;refine e0 ?_;clear e0;simp_all [Fl];done)
 refine Rd ?_;refine Z0 ?_;refine R.fin [0,1,9] ?_
 refine W.cond (fun ht9=>?_) (fun ht9=>?_)
 ·refine Z1 ?_;refine Z81 ?_
  first|(by_cases e0:Fl a b=(0,5);exact K.fin (V.two V.tmp V.tmp) ⟨by rw [e0];try rfl,rfl⟩;exfalso;refine e0 ?_;clear e0;simp_all [Fl];done)|(by_cases e0:Fl a b=(0,4);exact K.fin (V.two V.tmp V.tmp) ⟨by rw [e0];try rfl,rfl⟩;exfalso;refine e0 ?_;clear e0;simp_all [Fl];done)|(by_cases e0:Fl a b=(IntKind.i64.wrap (a.tdiv b),0);exact K.fin (V.two V.tmp V.tmp) ⟨by rw [e0];try rfl,rfl⟩;exfalso;refine e0 ?_;clear e0;simp_all [Fl];done)
 refine Y9 ?_
 refine R.go (h:=Q.quo (h0:=fun _=>by simpa using ht6)) (hr:=?_)
 refine Z0 ?_;refine Z12 ?_
 first|(by_cases e0:Fl a b=(0,5);exact K.fin (V.two V.tmp V.tmp) ⟨by rw [e0];try rfl,rfl⟩;exfalso;refine e0 ?_;clear e0;simp_all [Fl];done)|(by_cases e0:Fl a b=(0,4);exact K.fin (V.two V.tmp V.tmp) ⟨by rw [e0];try rfl,rfl⟩;exfalso;refine e0 ?_;clear e0;simp_all [Fl];done)|(by_cases e0:Fl a b=(IntKind.i64.wrap (a.tdiv b),0);exact K.fin (V.two V.tmp V.tmp) ⟨by rw [e0];try rfl,rfl⟩;exfalso;refine e0 ?_;clear e0;simp_all [Fl];done)

theorem gu {a b:Int} (ha : -9223372036854775808≤a∧a≤9223372036854775807):IntKind.i64.wrap (a.tmod b)=a.tmod b:=by
 have h1:(a.tmod b).natAbs≤a.natAbs:=by rw [Int.natAbs_tmod];exact Nat.mod_le _ _
 rw [IntKind.wrap_i64]
 rcases Int.le_total 0 a with h|h
 ·have:=Int.tmod_nonneg b h
  omega
 have h2:=Int.tmod_nonneg b (show 0 ≤ -a by omega)
 rw [Int.neg_tmod] at h2
 omega
theorem ABs (a b:Int) (ha : -9223372036854775808≤a∧a≤9223372036854775807) (Hp:List AObj):AFun Tryz.prog 242 [A2 a,A2 b] Hp (.tup [A2 (M8 a b).1,A2 (M8 a b).2]):=by
 refine ACall.body [.tmp 4,.tmp 5] [0,1] Tryz.func242 Tryz.ntmps242 (fun d=>?_)
 refine Y1 ?_;refine Z36 ?_;refine R.fin [0,1,6] ?_;refine Z92 ?_;refine R.fin [0,1,6,7] ?_
 refine W.cond (fun ht7=>?_) (fun ht7=>?_)
 ·have hm:M8 a b=(0,5):=if_pos ht7
  refine Z1 ?_;exact xj
 refine Z1 ?_;refine R.fin [0,1,9] ?_
 refine W.cond (fun ht9=>?_) (fun ht9=>?_)
 ·have hm:M8 a b=(0,0):=by unfold M8;rw [if_neg (by rw [ht7];simp),if_pos ht9]
  refine Z1 ?_;exact xj
 have hm:M8 a b=(a.tmod b,0):=by unfold M8;rw [if_neg (by rw [ht7];simp),if_neg (by rw [ht9];simp),gu ha]
 refine Y9 ?_
 refine R.go (h:=Q.rem (h0:=fun _=>by simpa using ht7)) (hr:=?_)
 refine Z0 ?_;exact u6

theorem zn (a:Int) (Hp:List AObj):AFun Tryz.prog 254 [A2 a] Hp (Ar false):=by
 refine ACall.body [.tmp 2] [0] Tryz.func254 Tryz.ntmps254 (fun d=>?_)
 refine Z48 ?_;refine Z30 ?_;exact xt

theorem zo (a:Int) (Hp:List AObj):AFun Tryz.prog 255 [A2 a] Hp (Ar false):=by
 refine ACall.body [.tmp 2] [0] Tryz.func255 Tryz.ntmps255 (fun d=>?_)
 refine Z48 ?_;refine Z30 ?_;exact xt

theorem ABt (a b:Int) (Hp:List AObj):AFun Tryz.prog 236 [A2 a,A2 b] Hp (A2 (J6 a b)):=by
 refine ACall.body [.tmp 4] [0,1] Tryz.func236 Tryz.ntmps236 (fun d=>?_)
 refine Z51 ?_;refine Z2 ?_;refine R.call Tryz.call254 (zn _ _) ?_;refine R.go ?_;refine R.fin [0,1,5] ?_;refine Z2 ?_;refine R.call Tryz.call254 (zn _ _) ?_;refine R.go ?_;refine R.fin [0,1,5,6] ?_;refine Z36 ?_;refine R.fin [0,1,6,11] ?_
 refine W.cond (fun ht11=>?_) (fun ht11=>?_)
 ·cases ht11
 refine Pe ?_;refine R.fin [0,1,13] ?_
 refine W.cond (fun ht13=>?_) (fun ht13=>?_)
 ·cases ht13
 refine Vl ?_;refine R.fin [0,1,16] ?_
 refine W.cond (fun ht16=>?_) (fun ht16=>?_)
 ·have hm:J6 a b = -1:=if_pos ht16
  exact dl
 refine Vl ?_;refine R.fin [19] ?_
 refine W.cond (fun ht19=>?_) (fun ht19=>?_)
 ·have hm:J6 a b=1:=by unfold J6;rw [if_neg (by rw [ht16];simp),if_pos ht19]
  exact dl
 have hm:J6 a b=0:=by unfold J6;rw [if_neg (by rw [ht16];simp),if_neg (by rw [ht19];simp)]
 refine Z6 ?_;exact oz

theorem ABu (a b:Int) (Hp:List AObj):AFun Tryz.prog 237 [A2 a,A2 b] Hp (A2 (J6 a b)):=by
 refine ACall.body [.tmp 4] [0,1] Tryz.func237 Tryz.ntmps237 (fun d=>?_)
 refine Z51 ?_;refine Z2 ?_;refine R.call Tryz.call255 (zo _ _) ?_;refine R.go ?_;refine R.fin [0,1,5] ?_;refine Z2 ?_;refine R.call Tryz.call255 (zo _ _) ?_;refine R.go ?_;refine R.fin [0,1,5,6] ?_;refine Z36 ?_;refine R.fin [0,1,6,11] ?_
 refine W.cond (fun ht11=>?_) (fun ht11=>?_)
 ·cases ht11
 refine Pe ?_;refine R.fin [0,1,13] ?_
 refine W.cond (fun ht13=>?_) (fun ht13=>?_)
 ·cases ht13
 refine Vl ?_;refine R.fin [0,1,16] ?_
 refine W.cond (fun ht16=>?_) (fun ht16=>?_)
 ·have hm:J6 a b = -1:=if_pos ht16
  exact dl
 refine Vl ?_;refine R.fin [19] ?_
 refine W.cond (fun ht19=>?_) (fun ht19=>?_)
 ·have hm:J6 a b=1:=by unfold J6;rw [if_neg (by rw [ht16];simp),if_pos ht19]
  exact dl
 have hm:J6 a b=0:=by unfold J6;rw [if_neg (by rw [ht16];simp),if_neg (by rw [ht19];simp)]
 refine Z6 ?_;exact oz

theorem nl {l:List Int} {x:Nat} (h:x<l.length) (hx:orI l=orI (l.drop x)):orI l=if l[x] != 0 then l[x] else orI (l.drop (x+1)):=by rw [hx,List.drop_eq_getElem_cons h,orI]
theorem ABv (l:List Int) (hl:l.length≤1048576) (Hp:List AObj):AFun Tryz.prog 235 [c7 l] Hp (A2 (orI l)):=by
 refine ACall.body [.tmp 2] [0] Tryz.func235 Tryz.ntmps235 (fun d=>?_)
 refine Z48 ?_;refine Z2 ?_;refine Ij ?_;refine Z31 ?_;refine R.fin [3,6,7,8] ?_
 refine AW.loopC (α:=Nat) (fun x=>⟨18,A3 3 (A2 0) (A3 6 (c7 l) (A3 7 (A2 (l.length:Nat)) (A3 8 (A2 (x:Nat)) (fun _=>.any)))),Hp,[],[],none⟩) (fun x=>x≤l.length∧orI l=orI (l.drop x)) (fun x=>l.length-x) (0) ⟨Nat.zero_le _,rfl⟩ (StLe.of_eq (by simp)) rfl (fun x hx=>?_)
 refine Z2 ?_;refine R.fin [3,6,7,8,9] ?_
 refine W.condX (fun ht9=>?_) (fun ht9=>?_)
 ·have hlt:x<l.length:=by simpa using ht9
  have hst:=nl hlt hx.2
  refine Z89 ?_
  refine R.go (h:=Q.indexAddr (x) (A2 l[x]) (fun _=>Am hlt)) (hr:=?_)
  refine Z0 ?_;refine R.fin [3,5,6,7,8] ?_;refine Z13 ?_;refine R.fin [3,5,6,7,8,14] ?_
  refine W.cond (fun ht14=>?_) (fun ht14=>?_)
  ·have hm:orI l=l[x]:=by rw [hst,if_pos ht14]
   refine Z1 ?_;refine Z4 ?_;exact Z93
  have hn:orI l=orI (l.drop (x+1)):=by rw [hst,if_neg (by rw [ht14];simp)]
  refine Z72 ?_;refine R.fin [3,6,7,8] ?_;exact x9
 have hxe:l.length≤x:=by simpa using ht9
 have hm:orI l=0:=by rw [hx.2,List.drop_of_length_le hxe];rfl
 refine Z35 ?_;refine Z1 ?_;exact xn

theorem ABw (a b:Val) (Hp:List AObj):AFun Tryz.prog 218 [Ak a,Ak b] Hp (A2 (gc a b)):=by
 refine ACall.body [.tmp 4] [0,1] Tryz.func218 Tryz.ntmps218 (fun d=>?_)
 refine Z13 ?_;refine H7 ?_;refine Z36 ?_;refine R.call Tryz.call38 (c38 a _) ?_;refine U0 ?_;refine G.call Tryz.call38 (fun hB=>c38 b _) ?_;refine Z88 ?_;refine R.fin [2,3,12] ?_
 refine W.cond (fun ht12=>?_) (fun ht12=>?_)
 ·have hm:gc a b=0:=if_pos ht12
  exact dl
 have hm:gc a b=orI [J6 a.kind b.kind,J6 a.n b.n,Lib.compareBytes a.s b.s]:=if_neg (by rw [ht12];simp)
 refine Z6 ?_;refine W.drawQ [0,1,0,4,15,0,32,0,128,511,0,1024,0,4096,16383,32767,65535,131071] 14 Aa (by kernel_rfl) ?_;refine Ol ?_;refine D.call Tryz.call236 (ABt _ _ _) ?_;refine Ol ?_;refine D.call Tryz.call237 (ABu _ _ _) ?_;refine Z11 ?_;refine Z76 ?_;refine R.call Tryz.call238 (ABp _ _ _) ?_;refine Kz ?_;refine R.call Tryz.call235 (ABv [J6 a.kind b.kind,J6 a.n b.n,Lib.compareBytes a.s b.s] (by simp) _) ?_;refine R.go ?_;refine Z21 ?_;exact dy

theorem ABx (t:Str) (a b:Int) (ha : -9223372036854775808≤a∧a≤9223372036854775807) (Hp:List AObj):AFun Tryz.prog 220 [A9 t,A2 a,A2 b] Hp (Nm (Fk (Ai t a b))):=by
 refine ACall.body [.cell 6 63,.tmp 7] [0,1,2] Tryz.func220 Tryz.ntmps220 (fun d=>?_)
 refine Vh ?_;refine R.fin [0,1,2,6] ?_;refine Z36 ?_;refine R.fin [1,2,6,8] ?_;refine Z92 ?_;refine R.fin [1,2,6,8,9] ?_
 refine W.cond (fun ht9=>?_) (fun ht9=>?_)
 ·refine Z1 ?_;refine R.call Tryz.call239 (ABm _ _ _) ?_;refine Y8 ?_;refine Ty ?_;refine Z5 ?_
  first|(by_cases e0:Ai t a b=Qq a b;exact K.fin (V.two (V.cellN Tryz.isAgg63 Tryz.sizeOf63) V.tmp) ⟨by rw [e0];try rfl,rfl⟩;exfalso;refine e0 ?_;clear e0;simp_all [Ai];done)|(by_cases e0:Ai t a b=Jw a b;exact K.fin (V.two (V.cellN Tryz.isAgg63 Tryz.sizeOf63) V.tmp) ⟨by rw [e0];try rfl,rfl⟩;exfalso;refine e0 ?_;clear e0;simp_all [Ai];done)|(by_cases e0:Ai t a b=L9 a b;exact K.fin (V.two (V.cellN Tryz.isAgg63 Tryz.sizeOf63) V.tmp) ⟨by rw [e0];try rfl,rfl⟩;exfalso;refine e0 ?_;clear e0;simp_all [Ai];done)|(by_cases e0:Ai t a b=Fl a b;exact K.fin (V.two (V.cellN Tryz.isAgg63 Tryz.sizeOf63) V.tmp) ⟨by rw [e0];try rfl,rfl⟩;exfalso;refine e0 ?_;clear e0;simp_all [Ai];done)|(by_cases e0:Ai t a b=M8 a b;exact K.fin (V.two (V.cellN Tryz.isAgg63 Tryz.sizeOf63) V.tmp) ⟨by rw [e0];try rfl,rfl⟩;exfalso;refine e0 ?_;clear e0;simp_all [Ai];done)
 refine Z1 ?_;refine R.fin [1,2,6,8,19] ?_
 refine W.cond (fun ht19=>?_) (fun ht19=>?_)
 ·refine Z1 ?_;refine R.call Tryz.call221 (zl _ _ _) ?_;refine Y8 ?_;refine Ty ?_;refine Z5 ?_
  first|(by_cases e0:Ai t a b=Qq a b;exact K.fin (V.two (V.cellN Tryz.isAgg63 Tryz.sizeOf63) V.tmp) ⟨by rw [e0];try rfl,rfl⟩;exfalso;refine e0 ?_;clear e0;simp_all [Ai];done)|(by_cases e0:Ai t a b=Jw a b;exact K.fin (V.two (V.cellN Tryz.isAgg63 Tryz.sizeOf63) V.tmp) ⟨by rw [e0];try rfl,rfl⟩;exfalso;refine e0 ?_;clear e0;simp_all [Ai];done)|(by_cases e0:Ai t a b=L9 a b;exact K.fin (V.two (V.cellN Tryz.isAgg63 Tryz.sizeOf63) V.tmp) ⟨by rw [e0];try rfl,rfl⟩;exfalso;refine e0 ?_;clear e0;simp_all [Ai];done)|(by_cases e0:Ai t a b=Fl a b;exact K.fin (V.two (V.cellN Tryz.isAgg63 Tryz.sizeOf63) V.tmp) ⟨by rw [e0];try rfl,rfl⟩;exfalso;refine e0 ?_;clear e0;simp_all [Ai];done)|(by_cases e0:Ai t a b=M8 a b;exact K.fin (V.two (V.cellN Tryz.isAgg63 Tryz.sizeOf63) V.tmp) ⟨by rw [e0];try rfl,rfl⟩;exfalso;refine e0 ?_;clear e0;simp_all [Ai];done)
 refine Z1 ?_;refine R.fin [1,2,6,8,29] ?_
 refine W.cond (fun ht29=>?_) (fun ht29=>?_)
 ·refine Z1 ?_;refine R.call Tryz.call240 (ABq _ _ _) ?_;refine Y8 ?_;refine Ty ?_;refine Z5 ?_
  first|(by_cases e0:Ai t a b=Qq a b;exact K.fin (V.two (V.cellN Tryz.isAgg63 Tryz.sizeOf63) V.tmp) ⟨by rw [e0];try rfl,rfl⟩;exfalso;refine e0 ?_;clear e0;simp_all [Ai];done)|(by_cases e0:Ai t a b=Jw a b;exact K.fin (V.two (V.cellN Tryz.isAgg63 Tryz.sizeOf63) V.tmp) ⟨by rw [e0];try rfl,rfl⟩;exfalso;refine e0 ?_;clear e0;simp_all [Ai];done)|(by_cases e0:Ai t a b=L9 a b;exact K.fin (V.two (V.cellN Tryz.isAgg63 Tryz.sizeOf63) V.tmp) ⟨by rw [e0];try rfl,rfl⟩;exfalso;refine e0 ?_;clear e0;simp_all [Ai];done)|(by_cases e0:Ai t a b=Fl a b;exact K.fin (V.two (V.cellN Tryz.isAgg63 Tryz.sizeOf63) V.tmp) ⟨by rw [e0];try rfl,rfl⟩;exfalso;refine e0 ?_;clear e0;simp_all [Ai];done)|(by_cases e0:Ai t a b=M8 a b;exact K.fin (V.two (V.cellN Tryz.isAgg63 Tryz.sizeOf63) V.tmp) ⟨by rw [e0];try rfl,rfl⟩;exfalso;refine e0 ?_;clear e0;simp_all [Ai];done)
 refine Z1 ?_;refine R.fin [1,2,6,39] ?_
 refine W.cond (fun ht39=>?_) (fun ht39=>?_)
 ·refine Z1 ?_;refine R.call Tryz.call241 (ABr _ _ _) ?_;refine Y8 ?_;refine Ty ?_;refine Z5 ?_
  first|(by_cases e0:Ai t a b=Qq a b;exact K.fin (V.two (V.cellN Tryz.isAgg63 Tryz.sizeOf63) V.tmp) ⟨by rw [e0];try rfl,rfl⟩;exfalso;refine e0 ?_;clear e0;simp_all [Ai];done)|(by_cases e0:Ai t a b=Jw a b;exact K.fin (V.two (V.cellN Tryz.isAgg63 Tryz.sizeOf63) V.tmp) ⟨by rw [e0];try rfl,rfl⟩;exfalso;refine e0 ?_;clear e0;simp_all [Ai];done)|(by_cases e0:Ai t a b=L9 a b;exact K.fin (V.two (V.cellN Tryz.isAgg63 Tryz.sizeOf63) V.tmp) ⟨by rw [e0];try rfl,rfl⟩;exfalso;refine e0 ?_;clear e0;simp_all [Ai];done)|(by_cases e0:Ai t a b=Fl a b;exact K.fin (V.two (V.cellN Tryz.isAgg63 Tryz.sizeOf63) V.tmp) ⟨by rw [e0];try rfl,rfl⟩;exfalso;refine e0 ?_;clear e0;simp_all [Ai];done)|(by_cases e0:Ai t a b=M8 a b;exact K.fin (V.two (V.cellN Tryz.isAgg63 Tryz.sizeOf63) V.tmp) ⟨by rw [e0];try rfl,rfl⟩;exfalso;refine e0 ?_;clear e0;simp_all [Ai];done)
 refine Y9 ?_;refine R.call Tryz.call242 (ABs _ _ ha _) ?_;refine Y8 ?_;refine Ty ?_
 first|(by_cases e0:Ai t a b=Qq a b;exact K.fin (V.two (V.cellN Tryz.isAgg63 Tryz.sizeOf63) V.tmp) ⟨by rw [e0];try rfl,rfl⟩;exfalso;refine e0 ?_;clear e0;simp_all [Ai];done)|(by_cases e0:Ai t a b=Jw a b;exact K.fin (V.two (V.cellN Tryz.isAgg63 Tryz.sizeOf63) V.tmp) ⟨by rw [e0];try rfl,rfl⟩;exfalso;refine e0 ?_;clear e0;simp_all [Ai];done)|(by_cases e0:Ai t a b=L9 a b;exact K.fin (V.two (V.cellN Tryz.isAgg63 Tryz.sizeOf63) V.tmp) ⟨by rw [e0];try rfl,rfl⟩;exfalso;refine e0 ?_;clear e0;simp_all [Ai];done)|(by_cases e0:Ai t a b=Fl a b;exact K.fin (V.two (V.cellN Tryz.isAgg63 Tryz.sizeOf63) V.tmp) ⟨by rw [e0];try rfl,rfl⟩;exfalso;refine e0 ?_;clear e0;simp_all [Ai];done)|(by_cases e0:Ai t a b=M8 a b;exact K.fin (V.two (V.cellN Tryz.isAgg63 Tryz.sizeOf63) V.tmp) ⟨by rw [e0];try rfl,rfl⟩;exfalso;refine e0 ?_;clear e0;simp_all [Ai];done)

theorem ABy (a b:Val) (fa:Fine a) (fb:Fine b) (Hp:List AObj):AFun Tryz.prog 219 [.slice false 3 [Ak a,Ak b]] Hp (Nm (M7 a b)):=by
 refine ACall.body [.cell 2 63,.tmp 3] [0] Tryz.func219 Tryz.ntmps219 (fun d=>?_)
 refine Vh ?_;refine R.fin [0,2] ?_;refine Lp ?_;refine R.buildSl jU jS jZ ?_;refine R.call Tryz.call196 (nj [a,b] [2,2] (by simp) (by simp) _) ?_;refine Z0 ?_;refine R.fin [0,2,4] ?_
 refine W.cond (fun ht4=>?_) (fun ht4=>?_)
 ·have hm:M7 a b=C1 10:=if_pos ht4
  refine Rb ?_;refine Ok ?_;exact Z16
 have hla:=fa.len
 have hlb:=fb.len
 refine W.drawQ [0,1,3,7,15,0,32,96,224,480,1023,2047,4095] 10 Aa (by kernel_rfl) ?_;refine D.go ?_
 refine D.go (h:=Q.indexAddr (0) (Ak a) (fun _=>show ([Ak a,Ak b]:List AV)[0]? = some (Ak a) from rfl)) (hr:=?_)
 refine Ol ?_
 refine D.go (h:=Q.indexAddr (1) (Ak b) (fun _=>show ([Ak a,Ak b]:List AV)[1]? = some (Ak b) from rfl)) (hr:=?_)
 refine Z37 ?_;refine D.tail ?_
 refine R.go (h:=Q.add64 (h1:=fun _=>by omega) (h2:=fun _=>by omega)) (hr:=?_)
 refine Z0 ?_;refine R.fin [0,2,12] ?_
 refine W.cond (fun ht12=>?_) (fun ht12=>?_)
 ·have hm:M7 a b=C1 3:=by unfold M7;rw [if_neg (by rw [ht4];simp),if_pos ht12]
  refine Rb ?_;refine Ok ?_;exact Z16
 have hm:M7 a b=(Rp (a.s++b.s),0):=by unfold M7;rw [if_neg (by rw [ht4];simp),if_neg (by rw [ht12];simp)]
 refine Z18 ?_;refine W.drawQ [0,1,3,7,0,16,48,112,255,511,1023,2047] 8 Aa (by kernel_rfl) ?_;refine D.go ?_
 refine D.go (h:=Q.indexAddr (0) (Ak a) (fun _=>show ([Ak a,Ak b]:List AV)[0]? = some (Ak a) from rfl)) (hr:=?_)
 refine Z37 ?_
 refine D.go (h:=Q.indexAddr (1) (Ak b) (fun _=>show ([Ak a,Ak b]:List AV)[1]? = some (Ak b) from rfl)) (hr:=?_)
 refine Z76 ?_
 refine R.go (h:=Q.sadd (hl:=fun _=>by omega)) (hr:=?_)
 refine R.call Tryz.call208 (eg _ _) ?_;refine Ok ?_;exact k8

theorem ABz (t:Str) (a b:Val) (fa:Fine a) (fb:Fine b) (Hp:List AObj):AFun Tryz.prog 195 [A9 t,.slice false 3 [Ak a,Ak b]] Hp (Nm (La t a b)):=by
 refine ACall.body [.cell 4 63,.tmp 5] [0,1] Tryz.func195 Tryz.ntmps195 (fun d=>?_)
 refine Vh ?_;refine R.fin [0,1,4] ?_;refine W.seq ?_;refine W.drawQ [0,0,2,6,0,16,48,126,255,511,1023,1023,2047,8191] 13 Aa (by kernel_rfl) ?_;refine Z11 ?_
 refine D.go (h:=Q.indexAddr (0) (Ak a) (fun _=>show ([Ak a,Ak b]:List AV)[0]? = some (Ak a) from rfl)) (hr:=?_)
 refine Z11 ?_
 refine D.go (h:=Q.indexAddr (1) (Ak b) (fun _=>show ([Ak a,Ak b]:List AV)[1]? = some (Ak b) from rfl)) (hr:=?_)
 refine D.go ?_;refine D.call Tryz.call218 (ABw _ _ _) ?_;refine D.call Tryz.call217 (ABl _ _ _) ?_;refine Z11 ?_;refine Z76 ?_;refine R.go ?_;refine R.fin [0,1,4,6,7] ?_;refine Z2 ?_;refine R.fin [0,1,4,6,20] ?_
 refine W.cond (fun ht20=>?_) (fun ht20=>?_)
 ·refine W.seq ?_;refine W.drawQ [0,1,3,7,0,16,48,112,255] 8 Aa (by kernel_rfl) ?_;refine D.go ?_
  refine D.go (h:=Q.indexAddr (0) (Ak a) (fun _=>show ([Ak a,Ak b]:List AV)[0]? = some (Ak a) from rfl)) (hr:=?_)
  refine Z37 ?_
  refine D.go (h:=Q.indexAddr (1) (Ak b) (fun _=>show ([Ak a,Ak b]:List AV)[1]? = some (Ak b) from rfl)) (hr:=?_)
  refine Z76 ?_;refine R.go ?_;refine R.fin [4,6,29] ?_
  refine W.cond (fun ht29=>?_) (fun ht29=>?_)
  ·have hm:La t a b=C1 10:=by unfold La;rw [if_pos ht20,if_pos ht29]
   refine Rb ?_;refine Z38 ?_;refine K.thR ?_;exact Z28
  have hm:La t a b=(F8 (A4 t (gc a b)).1,0):=by unfold La;rw [if_pos ht20,if_neg (by rw [ht29];simp)]
  refine Z99 ?_;refine R.call Tryz.call154 (Ym _ _) ?_;exact dm
 refine Z6 ?_;refine Z22 ?_;refine R.fin [0,1,4,36] ?_
 refine W.cond (fun ht36=>?_) (fun ht36=>?_)
 ·have hm:La t a b=M7 a b:=by unfold La;rw [if_neg (by rw [ht20];simp),if_pos ht36]
  refine Z2 ?_;refine R.call Tryz.call219 (ABy a b fa fb _) ?_;refine Z0 ?_;exact dm
 refine Pe ?_;refine R.buildSl jU jS jZ ?_;refine R.call Tryz.call196 (nj [a,b] [1,1] (by simp) (by simp) _) ?_;refine R.go ?_;refine R.fin [0,1,4,44] ?_
 refine W.cond (fun ht44=>?_) (fun ht44=>?_)
 ·have hm:La t a b=C1 10:=by unfold La;rw [if_neg (by rw [ht20];simp),if_neg (by rw [ht36];simp),if_pos ht44]
  refine Rb ?_;exact dm
 have hm:La t a b=Fk (Ai t a.n b.n):=by unfold La;rw [if_neg (by rw [ht20];simp),if_neg (by rw [ht36];simp),if_neg (by rw [ht44];simp)]
 refine Z6 ?_;refine W.drawQ [0,0,2,6,14,0,32,96,224,511,1023,1023,4095,8191] 12 Aa (by kernel_rfl) ?_;refine Z11 ?_
 refine D.go (h:=Q.indexAddr (0) (Ak a) (fun _=>show ([Ak a,Ak b]:List AV)[0]? = some (Ak a) from rfl)) (hr:=?_)
 refine Z37 ?_
 refine D.go (h:=Q.indexAddr (1) (Ak b) (fun _=>show ([Ak a,Ak b]:List AV)[1]? = some (Ak b) from rfl)) (hr:=?_)
 refine Z11 ?_;refine D.call Tryz.call220 (ABx _ _ _ ⟨fa.lo,fa.hi⟩ _) ?_;refine Z76 ?_;exact Z50

theorem wd (s:Str) (n:Int):∃k:Nat,(if (0:Int)<(if (s.length:Int)<n then (s.length:Int) else n) then (if (s.length:Int)<n then (s.length:Int) else n) else 0)=(k:Int)∧k≤s.length∧k=(max 0 (min n s.length)).toNat:=by
 refine ⟨(max 0 (min n s.length)).toNat,?_,?_,rfl⟩<;>repeat' split
 all_goals omega
theorem AC0 (t s:Str) (n:Int) (hs:s.length≤1048576) (Hp:List AObj):AFun Tryz.prog 200 [A9 t,A9 s,A2 n] Hp (Ak (Jz t s n)):=by
 refine ACall.body [.cell 6 63] [0,1,2] Tryz.func200 Tryz.ntmps200 (fun d=>?_)
 refine pe ?_;refine Z13 ?_;refine R.minI ?_;refine R.maxI ?_
 obtain ⟨k,hk,hks,hke⟩:=wd s n
 simp only [hk]
 refine R.go ?_;refine R.fin [0,1,6,7] ?_;refine Z22 ?_;refine R.fin [1,6,7,14] ?_
 refine W.cond (fun ht14=>?_) (fun ht14=>?_)
 ·have hm:Jz t s n=Rp (s.take k):=by unfold Jz;rw [if_pos ht14,←hke]
  refine Z1 ?_
  refine R.go (h:=Q.scutH k (fun _=>Nat.zero_le _) (fun _=>hks)) (hr:=?_)
  refine R.call Tryz.call208 (eg _ _) ?_;refine Y0 ?_;refine K.thR ?_;exact yg
 have hm:Jz t s n=Rp (s.drop (s.length-k)):=by unfold Jz;rw [if_neg (by rw [ht14];simp),←hke]
 refine Z6 ?_;refine Z30 ?_
 refine R.go (h:=Q.sub64 (h1:=fun _=>by omega) (h2:=fun _=>by omega)) (hr:=?_)
 refine R.go (h:=Q.scutL (s.length-k) (fun _=>show s.length-k≤s.length by omega) (fun _=>Nat.le_refl _)) (hr:=?_)
 refine R.call Tryz.call208 (eg _ _) ?_;refine Y0 ?_;exact yg

theorem AC1 (t:Str) (v:Val) (h:Fine v) (Hp:List AObj):AFun Tryz.prog 199 [A9 t,Ak v] Hp (Nm (J0 t v)):=by
 have hlen:=h.len
 refine ACall.body [.cell 4 63,.tmp 5] [0,1] Tryz.func199 Tryz.ntmps199 (fun d=>?_)
 refine Z2 ?_;refine Z65 ?_;refine R.fin [0,3,4] ?_;refine Vj ?_;refine Mo ?_;refine R.fin [0,3,4,6] ?_
 refine W.cond (fun ht6=>?_) (fun ht6=>?_)
 ·have hm:J0 t v=(Rp (Lib.itoa v.n),0):=if_pos ht6
  refine Z1 ?_;refine R.call Tryz.call202 (yy _ h.lo h.hi _) ?_;refine R.call Tryz.call208 (eg _ _) ?_;exact Z73
 refine Z13 ?_;refine Mo ?_;refine R.fin [0,3,4,18] ?_
 refine W.cond (fun ht18=>?_) (fun ht18=>?_)
 ·have hm:J0 t v=(⟨1,v.s.length,[]⟩,0):=by unfold J0;rw [if_neg (by rw [ht6];simp),if_pos ht18]
  refine Z13 ?_;refine R.call Tryz.call189 (ux _ _) ?_;exact Z73
 refine Z13 ?_;refine Mo ?_;refine R.fin [3,4,30] ?_
 refine W.cond (fun ht30=>?_) (fun ht30=>?_)
 ·have hm:J0 t v=Fk (Bx v.s):=by unfold J0;rw [if_neg (by rw [ht6];simp),if_neg (by rw [ht18];simp),if_pos ht30]
  refine Z1 ?_;refine R.call Tryz.call188 (yx v.s (by omega) _) ?_;refine Y8 ?_;exact Z73
 have hm:J0 t v=C1 10:=by unfold J0;rw [if_neg (by rw [ht6];simp),if_neg (by rw [ht18];simp),if_neg (by rw [ht30];simp)]
 refine Z18 ?_;refine Rb ?_;exact Z50

theorem s9 {vs:List Val} (h:0<vs.length):vs.getD 0 noV=vs[0]:=by rw [List.getD_eq_getElem?_getD,List.getElem?_eq_getElem h];rfl
/-- As many values as a node asks for. -/
structure ArgsOk (o:Int) (vs:List Val):Prop where
 two:o=5→∃a b,vs=[a,b]
 one:o=3∨o=4→vs.length=1
 call:o=6→vs.length=1∨∃a b,vs=[a,b]
 fine:∀v∈vs,Fine v
theorem AC2 (e:Expr) (vs:List Val) (h:ArgsOk e.op vs) (Hp:List AObj):AFun Tryz.prog 174 [A5 e,Aw vs] Hp (Nm (Bi e.op e.text vs)):=by
 refine ACall.body [.cell 4 63,.tmp 5] [0,1] Tryz.func174 Tryz.ntmps174 (fun d=>?_)
 refine Z2 ?_;refine Z65 ?_;refine R.fin [1,2,4] ?_;refine Z23 ?_;refine Z30 ?_;refine R.fin [1,2,4,6] ?_
 refine W.cond (fun ht6=>?_) (fun ht6=>?_)
 ·obtain ⟨a,b,rfl⟩:=h.two (by simpa using ht6)
  have hm:Bi e.op e.text [a,b]=La e.text a b:=if_pos ht6
  refine Z13 ?_;refine R.call Tryz.call195 (ABz e.text a b (h.fine a (by simp)) (h.fine b (by simp)) _) ?_;refine Z0 ?_;exact Z73
 refine du ?_;refine G.buildSl jU jS jZ ?_
 refine G.call Tryz.call196 (C:=((e.op==3)==true)) (fun hB=>nj vs [1] (by have:=h.one (.inl (by simpa using hB));simp [this]) (by simp) _) ?_
 refine Z0 ?_;refine R.fin [1,2,4,16] ?_
 refine W.cond (fun ht16=>?_) (fun ht16=>?_)
 ·have hm0:((e.op==3)&&Dg vs [1])=true:=ht16
  have hop:e.op=3:=by simp only [Bool.and_eq_true,beq_iff_eq] at hm0;exact hm0.1
  have hln:=h.one (.inl hop)
  have hg0:(vs.map Ak)[0]? = some (Ak (vs.getD 0 noV)):=by rw [s9 (by omega)];exact Am (by omega)
  have hm:Bi e.op e.text vs=Fk (Jw 0 (vs.getD 0 noV).n):=by unfold Bi;rw [if_neg (by rw [ht6];simp),if_pos ht16]
  refine Z2 ?_
  refine R.go (h:=Q.indexAddr (0) (Ak (vs.getD 0 noV)) (fun _=>hg0)) (hr:=?_)
  refine Z0 ?_;refine R.call Tryz.call198 (ABn _ _) ?_;refine Y8 ?_;exact Z73
 refine du ?_;refine G.buildSl jU jS jZ ?_
 refine G.call Tryz.call196 (C:=((e.op==4)==true)) (fun hB=>nj vs [3] (by have:=h.one (.inr (by simpa using hB));simp [this]) (by simp) _) ?_
 refine Z0 ?_;refine R.fin [1,2,4,35] ?_
 refine W.cond (fun ht35=>?_) (fun ht35=>?_)
 ·have hm0:((e.op==4)&&Dg vs [3])=true:=ht35
  have hop:e.op=4:=by simp only [Bool.and_eq_true,beq_iff_eq] at hm0;exact hm0.1
  have hln:=h.one (.inr hop)
  have hg0:(vs.map Ak)[0]? = some (Ak (vs.getD 0 noV)):=by rw [s9 (by omega)];exact Am (by omega)
  have hm:Bi e.op e.text vs=(F8 ((vs.getD 0 noV).n==0),0):=by unfold Bi;rw [if_neg (by rw [ht6];simp),if_neg (by rw [ht16];simp),if_pos ht35]
  refine Z2 ?_
  refine R.go (h:=Q.indexAddr (0) (Ak (vs.getD 0 noV)) (fun _=>hg0)) (hr:=?_)
  refine Z19 ?_;refine R.call Tryz.call154 (Ym _ _) ?_;exact Z73
 refine Z30 ?_;refine R.fin [1,2,4,50] ?_
 refine W.cond (fun ht50=>?_) (fun ht50=>?_)
 ·have hm:Bi e.op e.text vs=C1 10:=by unfold Bi;rw [if_neg (by rw [ht6];simp),if_neg (by rw [ht16];simp),if_neg (by rw [ht35];simp),if_pos ht50]
  refine Rb ?_;exact Z73
 have hop:e.op=6:=by simpa using ht50
 have hcl:=h.call hop
 refine Z30 ?_;refine R.fin [1,2,4,57] ?_
 refine W.cond (fun ht57=>?_) (fun ht57=>?_)
 ·rw [List.length_map] at ht57
  have hln:vs.length=1:=by have:=ht57;simp only [beq_iff_eq] at this;omega
  have hg0:(vs.map Ak)[0]? = some (Ak (vs.getD 0 noV)):=by rw [s9 (by omega)];exact Am (by omega)
  have hf0:Fine (vs.getD 0 noV):=by rw [s9 (by omega)];exact h.fine _ (List.getElem_mem _)
  have hm:Bi e.op e.text vs=J0 e.text (vs.getD 0 noV):=by unfold Bi;rw [if_neg (by rw [ht6];simp),if_neg (by rw [ht16];simp),if_neg (by rw [ht35];simp),if_neg (by rw [ht50];simp),if_pos ht57]
  refine W.drawQ [0,1,0,4,12,31,63,63,255,511] 8 Aa (by kernel_rfl) ?_;refine Z37 ?_
  refine D.go (h:=Q.indexAddr (0) (Ak (vs.getD 0 noV)) (fun _=>hg0)) (hr:=?_)
  refine D.go ?_;refine D.call Tryz.call199 (AC1 _ _ hf0 _) ?_;refine Z76 ?_;exact Z73
 rw [List.length_map] at ht57
 obtain ⟨a,b,rfl⟩:∃a b,vs=[a,b]:=by
  rcases hcl with h1|h1
  ·exfalso
   have:=ht57
   rw [h1] at this
   simp at this
  exact h1
 refine Z2 ?_;refine R.buildSl jU jS jZ ?_;refine R.call Tryz.call196 (nj [a,b] [2,1] (by simp) (by simp) _) ?_;refine Z0 ?_;refine R.fin [1,2,4,69] ?_
 refine W.cond (fun ht69=>?_) (fun ht69=>?_)
 ·have hm:Bi e.op e.text [a,b]=C1 10:=by unfold Bi;rw [if_neg (by rw [ht6];simp),if_neg (by rw [ht16];simp),if_neg (by rw [ht35];simp),if_neg (by rw [ht50];simp),if_neg (by rw [ht57];simp),if_pos ht69]
  refine Rb ?_;exact Z73
 have hm:Bi e.op e.text [a,b]=(Jz e.text a.s b.n,0):=by unfold Bi;rw [if_neg (by rw [ht6];simp),if_neg (by rw [ht16];simp),if_neg (by rw [ht35];simp),if_neg (by rw [ht50];simp),if_neg (by rw [ht57];simp),if_neg (by rw [ht69];simp)];rfl
 refine Z18 ?_;refine W.drawQ [0,1,0,4,12,28,0,64,192,448,1023,2047,4095] 10 Aa (by kernel_rfl) ?_;refine Z37 ?_
 refine D.go (h:=Q.indexAddr (0) (Ak a) (fun _=>show ([Ak a,Ak b]:List AV)[0]? = some (Ak a) from rfl)) (hr:=?_)
 refine Z37 ?_
 refine D.go (h:=Q.indexAddr (1) (Ak b) (fun _=>show ([Ak a,Ak b]:List AV)[1]? = some (Ak b) from rfl)) (hr:=?_)
 refine Z76 ?_
 refine R.call Tryz.call200 (AC0 e.text a.s b.n (by have:=(h.fine a (by simp)).len;omega) _) ?_
 exact Z50

theorem Kg (a b:Val):((a.kind==b.kind&&a.n==b.n)&&a.s==b.s)=(a==b):=by
 obtain ⟨k,n,s⟩:=a
 obtain ⟨k',n',s'⟩:=b
 by_cases h:(⟨k,n,s⟩:Val)=⟨k',n',s'⟩
 ·injection h with h1 h2 h3
  subst h1;subst h2;subst h3
  simp
 have:((⟨k,n,s⟩:Val)==⟨k',n',s'⟩)=false:=by simpa using h
 rw [this]
 simp only [Bool.and_eq_false_iff,beq_eq_false_iff_ne]
 by_cases h1:k=k'
 ·by_cases h2:n=n'
  ·right
   rintro rfl
   exact h (by rw [h1,h2])
  exact .inl (.inr h2)
 exact .inl (.inl h1)
/-- What eval answers for a tree, over any heap. -/
abbrev Gt (c:List Col) (l:List Val) (e:Expr) (r:Rs):Prop:=∀Hp,AFun Tryz.prog 123 [R0 c l,A5 e] Hp (Nm r)
theorem c173 (c:List Col) (l:List Val) (x:Expr) (r:Rs) (h:Gt c l x r) (Hp:List AObj):AFun Tryz.prog 173 [R0 c l,A5 x] Hp (Nm (Af r)):=by
 refine ACall.body [.cell 4 63,.tmp 5] [0,1] Tryz.func173 Tryz.ntmps173 (fun d=>?_)
 refine Z1 ?_;refine pl ?_;refine Z1 ?_;refine R.call Tryz.call123 (h _) ?_;refine dq ?_;refine R.fin [4,6,7] ?_;refine Z31 ?_;refine Z62 ?_;refine Z40 ?_;refine Z88 ?_;refine R.fin [4,6,7,25] ?_
 refine W.cond (fun ht25=>?_) (fun ht25=>?_)
 ·have hm:Af r=C1 10:=if_pos ht25
  refine Rb ?_;exact dm
 have hm:Af r=r:=if_neg (by rw [ht25];simp)
 refine Re ?_;exact Z50

theorem zp (c:List Col) (l:List Val) (x k0 k1:Expr) (s:Val) (ra rb:Rs) (h0:(x.kids.map A5)[0]? = some (A5 k0)) (h1:(x.kids.map A5)[1]? = some (A5 k1)) (ha:Gt c l k0 ra) (hb:Gt c l k1 rb) (Hp:List AObj):AFun Tryz.prog 153 [R0 c l,A5 x,Ak s] Hp (Nm (Gf s ra rb)):=by
 refine ACall.body [.cell 6 63,.tmp 7] [0,1,2] Tryz.func153 Tryz.ntmps153 (fun d=>?_)
 refine Z13 ?_;refine Z65 ?_;refine R.fin [3,4,5,6] ?_;refine W.drawY [0,0,2,6,14,31,63,127,127,0,767,2047] [9,10] [.q 9 [] [],.s [8] (some 0) [] [1],.s [] (some 1) [0] []] (fun _=>Hp) (fun B=>if B 0=true then [.cells 63 [A2 0,A2 0,A9 []],(if B 1=true then .cells 63 [A2 (Af ra).1.kind,A2 (Af ra).1.n,A9 (Af ra).1.s] else .cells 63 [A2 0,A2 0,A9 []]:AObj)] else [.cells 63 [A2 0,A2 0,A9 []]]) Aa (by kernel_rfl) rfl rfl (fun _=>rfl) ?_
 apply Y.q
 case h1 =>
  intro B hT hF
  refine Z37 ?_
  refine D.go (h:=Q.indexAddr (0) (A5 k0) (fun _=>h0)) (hr:=?_)
  refine D.go ?_;exact xm
 case hTF=>decide
 refine Z53 ?_;refine wu ?_;refine R.fin [3,4,5,6,8,9] ?_;refine Z31 ?_;refine Z9 ?_
 refine G.go (h:=Q.eqlAgg Rg (fun w=>Fq (Af ra).1.kind (Af ra).1.n s.kind s.n (Af ra).1.s s.s w)) (hr:=?_)
 refine R.go ?_;refine R.fin [3,4,5,6,8,9,26] ?_
 refine W.cond (fun ht26=>?_) (fun ht26=>?_)
 ·rw [Kg] at ht26
  have hm:Gf s ra rb=Af ra:=if_pos ht26
  refine Z1 ?_;refine Ty ?_;exact Z28
 rw [Kg] at ht26
 refine Z6 ?_;refine W.drawY [0,0,2,6,14,31,63,127,127,0,767,2047] [9,10] [.q 9 [] [],.s [10] (some 0) [] [1],.s [] (some 1) [0] []] (fun _=>Hp) (fun B=>if B 0=true then [.cells 63 [A2 0,A2 0,A9 []],.cells 63 [A2 (Af ra).1.kind,A2 (Af ra).1.n,A9 (Af ra).1.s],(if B 1=true then .cells 63 [A2 (Af rb).1.kind,A2 (Af rb).1.n,A9 (Af rb).1.s] else .cells 63 [A2 0,A2 0,A9 []]:AObj)] else [.cells 63 [A2 0,A2 0,A9 []],.cells 63 [A2 (Af ra).1.kind,A2 (Af ra).1.n,A9 (Af ra).1.s]]) Aa (by kernel_rfl) rfl rfl (fun _=>rfl) ?_
 apply Y.q
 case h1 =>
  intro B hT hF
  refine Z37 ?_
  refine D.go (h:=Q.indexAddr (1) (A5 k1) (fun _=>h1)) (hr:=?_)
  refine D.go ?_;refine D.call Tryz.call173 (c173 c l k1 rb hb _) ?_;exact p9
 case hTF=>decide
 refine Y.alloc (zs:=[A2 0,A2 0,A9 []]) (n:=2) (u:=Hp.length) Tryz.zeroValue63 (fun B hT hF hB=>⟨rfl,by simp [hB],by simp [upd,hB,hF 1 (by simp)],rfl⟩) ?_;refine Y.storeOwnT (u:=Hp.length) (n:=2) (t':=63) (cs:=[A2 0,A2 0,A9 []]) (cs':=[A2 (Af rb).1.kind,A2 (Af rb).1.n,A9 (Af rb).1.s]) Tryz.sizeOf63 (fun B hT hF hB=>⟨rfl,by simp [hT 0 (by simp),hB],by simp [upd,hT 0 (by simp),hB],rfl⟩) ?_;refine Y.tail (tn:=[9,10]) (O:=[.cells 63 [A2 0,A2 0,A9 []],.cells 63 [A2 (Af ra).1.kind,A2 (Af ra).1.n,A9 (Af ra).1.s],.cells 63 [A2 (Af rb).1.kind,A2 (Af rb).1.n,A9 (Af rb).1.s]]) ?_;refine R.go ?_;refine R.fin [5,6,8,9,10] ?_;refine Z31 ?_;refine Z9 ?_
 refine G.go (h:=Q.eqlAgg Rg (fun w=>Fq (Af rb).1.kind (Af rb).1.n s.kind s.n (Af rb).1.s s.s w)) (hr:=?_)
 refine Z40 ?_;refine Z88 ?_;refine R.fin [6,8,9,10,49] ?_
 refine W.cond (fun ht49=>?_) (fun ht49=>?_)
 ·rw [Kg] at ht49
  have hm:Gf s ra rb=Af rb:=by unfold Gf;rw [if_neg (by rw [ht26];simp),if_pos ht49]
  refine Z1 ?_;refine Ty ?_;exact Z28
 rw [Kg] at ht49
 have hm:Gf s ra rb=((Af ra).1,0):=by unfold Gf;rw [if_neg (by rw [ht26];simp),if_neg (by rw [ht49];simp)]
 refine Z99 ?_;exact x7

theorem AC3 (c:List Col) (l:List Val) (x k0 k1 k2:Expr) (ra rb d2:Rs) (h0:(x.kids.map A5)[0]? = some (A5 k0)) (h1:(x.text==Bg)=false→(x.kids.map A5)[1]? = some (A5 k1)) (h2:(x.text==ifW)=true→(x.kids.map A5)[2]? = some (A5 k2)) (ha:Gt c l k0 ra) (hb:(x.text==Bg)=false→Gt c l k1 rb) (hd:(x.text==ifW)=true→Gt c l k2 d2) (Hp:List AObj):AFun Tryz.prog 155 [R0 c l,A5 x] Hp (Nm (E4 x.text ra rb d2)):=by
 refine ACall.body [.cell 4 63,.tmp 5] [0,1] Tryz.func155 Tryz.ntmps155 (fun d=>?_)
 refine Z1 ?_;refine pl ?_;refine Z31 ?_;refine R.fin [2,3,4,12] ?_
 refine W.cond (fun ht12=>?_) (fun ht12=>?_)
 ·have hni:(x.text==Bg)=false:=by
   have e:x.text=ifW:=by simpa [ifW] using ht12
   rw [e];rfl
  have hc:E4 x.text ra rb d2=(if (Af ra).2 != 0 then C1 (Af ra).2 else if (Af ra).1==F8 true then rb else d2):=if_pos ht12
  refine W.drawY [0,0,2,6,14,31,63,127,127,0,767,2047] [9,10] [.q 9 [] [],.s [6] (some 0) [] [1],.s [] (some 1) [0] []] (fun _=>Hp) (fun B=>if B 0=true then [.cells 63 [A2 0,A2 0,A9 []],(if B 1=true then .cells 63 [A2 (Af ra).1.kind,A2 (Af ra).1.n,A9 (Af ra).1.s] else .cells 63 [A2 0,A2 0,A9 []]:AObj)] else [.cells 63 [A2 0,A2 0,A9 []]]) Aa (by kernel_rfl) rfl rfl (fun _=>rfl) ?_
  apply Y.q
  case h1 =>
   intro B hT hF
   refine Z37 ?_
   refine D.go (h:=Q.indexAddr (0) (A5 k0) (fun _=>h0)) (hr:=?_)
   refine D.go ?_;exact xm
  case hTF=>decide
  refine Z53 ?_;refine wu ?_;refine R.fin [2,3,4,6,7] ?_;refine Vj ?_;refine R.fin [2,3,4,6,7,22] ?_
  refine W.cond (fun ht22=>?_) (fun ht22=>?_)
  ·have hm:E4 x.text ra rb d2=C1 (Af ra).2:=by rw [hc,if_pos ht22]
   refine Z2 ?_;refine Z42 ?_;refine Z38 ?_;refine Z5 ?_;exact Z28
  refine W.drawQ [0,0,3,7] 2 Aa (by kernel_rfl) ?_;refine D.go ?_;refine D.call Tryz.call154 (Ym true _) ?_;refine D.tail ?_
  refine R.go (h:=Q.eqlAgg Rg (fun w=>Fq (Af ra).1.kind (Af ra).1.n 3 1 (Af ra).1.s [] w)) (hr:=?_)
  refine R.go ?_;refine R.fin [2,3,4,29] ?_
  refine W.cond (fun ht29=>?_) (fun ht29=>?_)
  ·rw [Kg (Af ra).1 ⟨3,1,[]⟩] at ht29
   have ht29b:((Af ra).1==F8 true)=true:=ht29
   have hm:E4 x.text ra rb d2=rb:=by rw [hc,if_neg (by rw [ht22];simp),if_pos ht29b]
   refine u4 ?_
   refine D.go (h:=Q.indexAddr (1) (A5 k1) (fun _=>h1 hni)) (hr:=?_)
   refine D.go ?_;refine D.call Tryz.call123 (hb hni _) ?_;refine Z76 ?_;refine Z38 ?_;refine Z5 ?_;exact Z28
  rw [Kg (Af ra).1 ⟨3,1,[]⟩] at ht29
  have hm:E4 x.text ra rb d2=d2:=by rw [hc,if_neg (by rw [ht22];simp),if_neg (by show ¬((Af ra).1==⟨3,1,[]⟩)=true;rw [ht29];simp)]
  refine Z18 ?_;refine u4 ?_
  refine D.go (h:=Q.indexAddr (2) (A5 k2) (fun _=>h2 ht12)) (hr:=?_)
  refine D.go ?_;refine D.call Tryz.call123 (hd ht12 _) ?_;refine Z76 ?_;exact dm
 have hc:E4 x.text ra rb d2=(if ra.2 != 0 then C1 ra.2 else if x.text==Bg then (F8 (ra.1.kind==0),0) else if ra.1.kind != 0 then (ra.1,0) else rb):=if_neg (by show ¬(x.text==ifW)=true;rw [show (x.text==ifW)=false from ht12];simp)
 refine Z6 ?_;refine W.drawY [0,0,2,6,14,31,63,127,127,0,767,2047] [9,10] [.q 9 [] [],.s [8] (some 0) [] [1],.s [] (some 1) [0] []] (fun _=>Hp) (fun B=>if B 0=true then [.cells 63 [A2 0,A2 0,A9 []],(if B 1=true then .cells 63 [A2 ra.1.kind,A2 ra.1.n,A9 ra.1.s] else .cells 63 [A2 0,A2 0,A9 []]:AObj)] else [.cells 63 [A2 0,A2 0,A9 []]]) Aa (by kernel_rfl) rfl rfl (fun _=>rfl) ?_
 apply Y.q
 case h1 =>
  intro B hT hF
  refine Z37 ?_
  refine D.go (h:=Q.indexAddr (0) (A5 k0) (fun _=>h0)) (hr:=?_)
  refine D.go ?_;refine D.call Tryz.call123 (ha _) ?_;exact p9
 case hTF=>decide
 refine yh ?_;refine Y.storeOwnT (u:=Hp.length) (n:=1) (t':=63) (cs:=[A2 0,A2 0,A9 []]) (cs':=[A2 ra.1.kind,A2 ra.1.n,A9 ra.1.s]) Tryz.sizeOf63 (fun B hT hF hB=>⟨rfl,by simp [hT 0 (by simp),hB],by simp [upd,hT 0 (by simp),hB],rfl⟩) ?_;refine Y.tail (tn:=[9,10]) (O:=[.cells 63 [A2 0,A2 0,A9 []],.cells 63 [A2 ra.1.kind,A2 ra.1.n,A9 ra.1.s]]) ?_;refine R.go ?_;refine R.fin [2,3,4,8,9] ?_;refine Vj ?_;refine R.fin [2,3,4,8,9,58] ?_
 refine W.cond (fun ht58=>?_) (fun ht58=>?_)
 ·have hm:E4 x.text ra rb d2=C1 ra.2:=by rw [hc,if_pos ht58]
  refine Z2 ?_;refine Z42 ?_;exact Z73
 refine Z30 ?_;refine R.fin [2,3,4,8,65] ?_
 refine W.cond (fun ht65=>?_) (fun ht65=>?_)
 ·have hm:E4 x.text ra rb d2=(F8 (ra.1.kind==0),0):=by rw [hc,if_neg (by rw [ht58];simp),if_pos (show (x.text==Bg)=true from ht65)]
  refine Z13 ?_;refine R.call Tryz.call154 (Ym _ _) ?_;exact Z73
 refine Z30 ?_;refine R.fin [2,3,4,8,73] ?_
 refine W.cond (fun ht73=>?_) (fun ht73=>?_)
 ·have hm:E4 x.text ra rb d2=(ra.1,0):=by rw [hc,if_neg (by rw [ht58];simp),if_neg (by show ¬(x.text==Bg)=true;rw [show (x.text==Bg)=false from ht65];simp),if_pos ht73]
  refine Z2 ?_;exact Z73
 have hm:E4 x.text ra rb d2=rb:=by rw [hc,if_neg (by rw [ht58];simp),if_neg (by show ¬(x.text==Bg)=true;rw [show (x.text==Bg)=false from ht65];simp),if_neg (by rw [ht73];simp)]
 refine Z18 ?_;refine u4 ?_
 refine D.go (h:=Q.indexAddr (1) (A5 k1) (fun _=>h1 ht65)) (hr:=?_)
 refine D.go ?_;refine D.call Tryz.call123 (hb ht65 _) ?_;refine Z76 ?_;exact Z50

/-- The first fault of those that were asked. -/
structure AllAt (f:Expr→Rs) (k:List Expr) (x:Nat):Prop where
 le:x≤k.length
 ok:∀(j:Nat) (y:Expr),j<x→k[j]? = some y→((f y).2 != 0)=false
theorem AllAt.bad {f:Expr→Rs} {k:List Expr} {x:Nat} (h:AllAt f k x) (hx:x<k.length) (hb:((f k[x]).2 != 0)=true) (g:List Val→Rs):Qr g (k.map f)=C1 (f k[x]).2:=by
 unfold Qr
 have:(k.map f).find? (fun q=>q.2 != 0)=some ((k.map f)[x]'(by simpa using hx)):=U5 (by simpa using hx) (by simpa using hb) (fun j y hj hy=>by
  rw [List.getElem?_map,Option.map_eq_some_iff] at hy
  obtain ⟨z,hz,rfl⟩:=hy
  exact h.ok j z hj hz)
 rw [this]
 simp
theorem AllAt.all {f:Expr→Rs} {k:List Expr} {x:Nat} (h:AllAt f k x) (hx:k.length≤x) (g:List Val→Rs):Qr g (k.map f)=if (k.take x).any (fun y=>(f y).1.kind==0) then (noV,0) else g ((k.take x).map fun y=>(f y).1):=by
 unfold Qr
 have:(k.map f).find? (fun q=>q.2 != 0)=none:=Mr (fun j y hy=>by
  rw [List.getElem?_map,Option.map_eq_some_iff] at hy
  obtain ⟨z,hz,rfl⟩:=hy
  exact h.ok j z (by have:=(List.getElem?_eq_some_iff.1 hz).1;omega) hz)
 rw [this,List.take_of_length_le hx]
 simp only [List.any_map,List.map_map]
 rfl
theorem AllAt.next {f:Expr→Rs} {k:List Expr} {x:Nat} (h:AllAt f k x) (hx:x<k.length) (hb:((f k[x]).2 != 0)=false):AllAt f k (x+1):=⟨hx,Cd hx h.ok hb⟩
theorem nn (f:Expr→Bool) (k:List Expr) {x:Nat} (h:x<k.length):(k.take (x+1)).any f=((k.take x).any f || f k[x]):=by rw [List.take_succ_eq_append_getElem h,List.any_append];simp
theorem gw (f:Expr→Val) (l:List Expr) {x:Nat} (h:x<l.length):((l.take x).map f).map Ak++[Ak (f l[x])]=((l.take (x+1)).map f).map Ak:=by rw [List.take_succ_eq_append_getElem h,List.map_append,List.map_append];rfl
theorem X5 {n k:Nat} {own:Bool} {l:List Val}:Low n (.slice own k (l.map Ak)):=low_slice.2 fun y hy=>by
 obtain ⟨z,_,rfl⟩:=List.mem_map.1 hy
 simp [or_imp,forall_and]
theorem AC4 (c:List Col) (l:List Val) (e:Expr) (hk:e.kids.length≤1048576) (hev:∀y∈e.kids,Gt c l y (C4 c l y)) (hargs:((∀y∈e.kids,(C4 c l y).2=0)→ArgsOk e.op (e.kids.map fun y=>(C4 c l y).1))) (Hp:List AObj):AFun Tryz.prog 156 [R0 c l,A5 e] Hp (Nm (Qr (Bi e.op e.text) (e.kids.map (C4 c l)))):=by
 refine ACall.body [.cell 4 63,.tmp 5] [0,1] Tryz.func156 Tryz.ntmps156 (fun d=>?_)
 refine Z1 ?_;refine pl ?_;refine Z2 ?_;refine R.fin [2,3,4,6] ?_;refine Cu ?_;refine R.nilSl 6 3 ?_;refine R.go ?_;refine R.fin [2,3,4,6,7] ?_;refine Z75 ?_;refine R.fin [2,3,4,6,7,13,14,15] ?_
 refine AW.loopC (α:=Nat) (fun x=>⟨49,A3 2 (.ro [Ac c,Aw l]) (A3 3 (.ro (Dt e)) (A3 4 (.ptr (oid Hp.length 0) 0) (A3 6 (.slice true 3 (((e.kids.take x).map fun y=>(C4 c l y).1).map Ak)) (A3 7 (Ar ((e.kids.take x).any fun y=>(C4 c l y).1.kind==0)) (A3 13 (.slice false 6 (e.kids.map A5)) (A3 14 (A2 (e.kids.length:Nat)) (A3 15 (A2 (x:Nat)) (fun _=>.any)))))))),Hp,[.cells 63 [A2 0,A2 0,A9 []]],[],none⟩) (fun x=>AllAt (C4 c l) e.kids x) (fun x=>e.kids.length-x) (0) ⟨Nat.zero_le _,fun j y h=>by omega⟩ (StLe.of_eq (by simp)) rfl (fun x hx=>?_)
 refine Z2 ?_;refine R.fin [2,3,4,6,7,13,14,15,16] ?_
 refine W.condX (fun ht16=>?_) (fun ht16=>?_)
 ·have hlt:x<e.kids.length:=by simpa using ht16
  refine Z89 ?_
  refine R.go (h:=Q.indexAddr (x) (A5 e.kids[x]) (fun _=>Am hlt)) (hr:=?_)
  refine Pd ?_;refine R.fin [2,3,4,6,7,9,13,14,15] ?_;refine Z1 ?_;refine R.call Tryz.call123 (hev _ (List.getElem_mem hlt) _) ?_;refine dq ?_;refine R.fin [2,3,4,6,7,10,11,13,14,15] ?_;refine Z22 ?_;refine R.fin [2,3,4,6,7,10,11,13,14,15,26] ?_
  refine W.cond (fun ht26=>?_) (fun ht26=>?_)
  ·have hm:=hx.bad hlt ht26 (Bi e.op e.text)
   refine Z2 ?_;refine Z42 ?_;refine Z38 ?_;refine K.thR ?_;refine Z34 ?_;exact Z28
  refine Re ?_;refine Mo ?_;refine R.fin [2,3,4,6,7,10,13,14,15] ?_;refine Xz ?_;refine Z70 ?_
  refine R.append jU Tryz.type63 ?_ ?_ ?_
  ·simp only [List.length_map,List.length_take,List.length_cons,List.length_nil,Tryz.t63];omega
  ·simp only [List.length_map,List.length_take,List.length_cons,List.length_nil,Tryz.t63];omega
  refine R.assignT ?_;refine R.fin [2,3,4,6,7,13,14,15] ?_;refine Tz ?_;refine R.fin [2,3,4,6,7,13,14,15] ?_;refine K.lpN (x+1) (hx.next hlt ht26) (by omega) ?_
  simp only [show Tryz.t63.size=3 from rfl,nn _ _ hlt]
  have hvs:((e.kids.take x).map fun y=>(C4 c l y).1).map Ak++[.agg [.v (.int .i64 (C4 c l e.kids[x]).1.kind),.v (.int .i64 (C4 c l e.kids[x]).1.n),.v (sv (C4 c l e.kids[x]).1.s)]]=((e.kids.take (x+1)).map fun y=>(C4 c l y).1).map Ak:=gw _ _ hlt
  simp only [hvs]
  exact StCut.take (own:=[.cells 63 [A2 0,A2 0,A9 []]]) (fun _=>.refl _) (by repeat (first|exact Ap|refine Ao (by first|exact Da|exact X5|exact bo|(simp [or_imp,forall_and,oid]<;>omega)) ?_)) (by intro y hy;rw [List.mem_singleton.1 hy];intro z hz;simp only [List.mem_cons,List.not_mem_nil,or_false] at hz;rcases hz with rfl|rfl|rfl<;>simp) (by simp)
 have hxe:e.kids.length≤x:=by simpa using ht16
 have ha:=hx.all hxe (Bi e.op e.text)
 have htk:e.kids.take x=e.kids:=List.take_of_length_le hxe
 have h00:∀y∈e.kids,(C4 c l y).2=0:=fun y hy=>by
  obtain ⟨j,hj⟩:=List.getElem?_of_mem hy
  have:=hx.ok j y (by have:=(List.getElem?_eq_some_iff.1 hj).1;omega) hj
  simpa using this
 have hao:=hargs h00
 rw [←htk] at hao
 refine Z35 ?_;refine Z36 ?_;refine R.fin [3,4,6,42] ?_
 refine W.cond (fun ht42=>?_) (fun ht42=>?_)
 ·have hm:Qr (Bi e.op e.text) (e.kids.map (C4 c l))=(noV,0):=by rw [ha,if_pos ht42]
  refine ue ?_;exact dm
 have hm:Qr (Bi e.op e.text) (e.kids.map (C4 c l))=Bi e.op e.text ((e.kids.take x).map fun y=>(C4 c l y).1):=by rw [ha,if_neg (by rw [ht42];simp)]
 refine Re ?_;refine R.call Tryz.call174 (AC2 e _ hao _) ?_;refine Z0 ?_;exact Z50

theorem T6 {e:Expr} (h:Ba e=true):(e.op=5→e.kids.length=2)∧(e.op=3∨e.op=4→e.kids.length=1)∧(e.op=6→Ay e.text=(e.kids.length:Int))∧(e.op=1∨e.op=2∨e.op=3∨e.op=4∨e.op=5∨e.op=6):=by
 cases L7 h with
 | val v hp h0=>simp [Gr,Expr.op]
 | name t ht=>simp [C3,Expr.op]
 | neg a=>simp [Dh,Expr.op,Expr.kids]
 | no a=>simp [Dh,Expr.op,Expr.kids]
 | bin t a b ht=>simp [Ej,Expr.op,Expr.kids]
 | call t k ht=>simpa [Expr.op,Expr.kids,Expr.text] using ht
theorem El {k:List Expr} {i:Nat} (h:i<k.length):(k.map A5)[i]? = some (A5 (k.getD i Ah))∧k.getD i Ah∈k∧∀(f:Expr→Rs) (d:Rs),(k.map f).getD i d=f (k.getD i Ah):=by
 have e:k.getD i Ah=k[i]:=by rw [List.getD_eq_getElem?_getD,List.getElem?_eq_getElem h];rfl
 rw [e]
 refine ⟨by simp [h],List.getElem_mem h,fun f d=>?_⟩
 rw [List.getD_eq_getElem?_getD,List.getElem?_map,List.getElem?_eq_getElem h]
 rfl
theorem Uo {c:List Col} {l:List Val} {e:Expr} (h1:(e.op==1)=false) (h2:(e.op==2)=false) (h3:((e.op==5)&&(e.text==orW))=false) (h4:((e.op==5)&&(e.text==rn))=false) (h5:((e.op==6)&&(((e.text==ifW) || (e.text==Uk)) || (e.text==Bg)))=false):C4 c l e=Qr (Bi e.op e.text) (e.kids.map (C4 c l)):=by
 rw [C4,Wv]
 unfold Jy
 rw [h1,h2,h3,h4,h5]
 rfl
theorem sa {c:List Col} {l:List Val} (hf:∀v∈l,Fine v) {e:Expr} (hnd:Bk Ba e=true) (hrg:Bk Dr e=true) (hv:Bk I9 e=true) (h5:((e.op==6)&&(((e.text==ifW) || (e.text==Uk)) || (e.text==Bg)))=false):ArgsOk e.op (e.kids.map fun y=>(C4 c l y).1):=by
 rw [E2,Bool.and_eq_true] at hnd hrg hv
 obtain ⟨k5,k34,k6,_⟩:=T6 hnd.1
 refine ⟨fun h=>?_,fun h=>by rw [List.length_map];exact k34 h,fun h=>?_,fun v hv'=>?_⟩
 ·obtain ⟨a,b,e⟩:=Ul (k5 h)
  rw [e]
  exact ⟨_,_,rfl⟩
 ·rw [List.length_map]
  rw [h] at h5
  simp only [beq_self_eq_true,Bool.true_and,Bool.or_eq_false_iff,beq_eq_false_iff_ne] at h5
  rcases Lf (k6 h) with ⟨_,h⟩|⟨_,h⟩|⟨_,h⟩|⟨e,_⟩|⟨e,_⟩|⟨_,h⟩|⟨_,h⟩|⟨e,_⟩
  ·exact .inl h
  ·exact .inl h
  ·exact .inl h
  ·exact absurd e h5.2
  ·exact absurd e h5.1.2
  ·obtain ⟨a,b,e⟩:=Ul h
   rw [e]
   exact .inr ⟨_,_,rfl⟩
  ·obtain ⟨a,b,e⟩:=Ul h
   rw [e]
   exact .inr ⟨_,_,rfl⟩
  exact absurd e h5.1.1
 obtain ⟨y,hy,rfl⟩:=List.mem_map.1 hv'
 exact Ng hf y ((Du _ _).1 hv.2 y hy) ((Du _ _).1 hrg.2 y hy)
theorem Oe (a b d:Rs):E4 Bg a b d=E4 Bg a (noV,0) (noV,0):=by
 unfold E4
 rw [show (Bg==ifW)=false from rfl,show (Bg==Bg)=true from rfl]
 rfl
theorem Zu {t:Str} (h:(t==ifW)=false) (a b d d':Rs):E4 t a b d=E4 t a b d':=by
 unfold E4
 rw [h]
 rfl
theorem X6 {t:Str} (h:(t==Bg)=true) (a b b' d d':Rs):E4 t a b d=E4 t a b' d':=by
 have e:t=Bg:=by simpa using h
 subst e
 rw [Oe,Oe a b' d']
theorem gx {t:Str} {k:List Expr} {f:Expr→Rs} {a:Rs} (h1:(t==Bg)=false→1<k.length) (h2:(t==ifW)=true→2<k.length):E4 t a ((k.map f).getD 1 (noV,0)) ((k.map f).getD 2 (noV,0))=E4 t a (f (k.getD 1 Ah)) (f (k.getD 2 Ah)):=by
 cases hn:t==Bg with
 | true=>exact X6 hn _ _ _ _ _
 | false =>
  rw [(El (h1 hn)).2.2]
  cases hi:t==ifW with
  | true=>rw [(El (h2 hi)).2.2]
  | false=>exact Zu hi _ _ _ _
theorem AC5 (c:List Col) (l:List Val) (hc:OkCols c) (hl:l.length=c.length) (hf:∀v∈l,Fine v):∀(n:Nat) (e:Expr),okE n e→Bk Ba e=true→Bk Dr e=true→Bk I9 e=true→Gt c l e (C4 c l e):=by
 intro n
 induction n with
 | zero=>exact fun e h=>h.elim
 | succ n ih =>
 intro e hok hnd hrg hvo Hp
 have hnd0:=hnd
 have hrg0:=hrg
 have hvo0:=hvo
 rw [E2,Bool.and_eq_true] at hnd0 hrg0 hvo0
 have hev:∀y∈e.kids,Gt c l y (C4 c l y):=fun y hy=>ih y (hok.2.2 y hy) ((Du _ _).1 hnd0.2 y hy) ((Du _ _).1 hrg0.2 y hy) ((Du _ _).1 hvo0.2 y hy)
 obtain ⟨k5,k34,k6,_⟩:=T6 hnd0.1
 have hev0:C4 c l e=Jy Bi c l e.op e.text e.val (e.kids.map (C4 c l)):=Wv _ _ _ _
 refine ACall.body [.cell 4 63,.tmp 5] [0,1] Tryz.func123 Tryz.ntmps123 (fun d=>?_)
 refine Z1 ?_;refine pl ?_;refine Z23 ?_;refine Z30 ?_;refine R.fin [2,3,4,7] ?_
 refine W.cond (fun ht7=>?_) (fun ht7=>?_)
 ·have hm:C4 c l e=(e.val,0):=by rw [hev0];unfold Jy;rw [if_pos ht7]
  refine Z1 ?_;exact Z73
 refine Z30 ?_;refine R.fin [2,3,4,13] ?_
 refine W.cond (fun ht13=>?_) (fun ht13=>?_)
 ·have hm0:C4 c l e=Jx c l e.text:=by rw [hev0];unfold Jy;rw [if_neg (by rw [ht7];simp),if_pos ht13]
  refine Z30 ?_;refine R.call Tryz.call58 (c58 c hc e.text _) ?_;refine R.go ?_;refine R.fin [2,4,6] ?_;refine Z22 ?_;refine R.fin [2,4,6,23] ?_
  refine W.cond (fun ht23=>?_) (fun ht23=>?_)
  ·have hm:C4 c l e=C1 9:=by rw [hm0];exact if_pos (by simpa using ht23)
   refine Rb ?_;refine Z38 ?_;refine K.thR ?_;exact Z16
  have hneg:¬(B0 e.text c<0):=by simpa using ht23
  obtain ⟨j,hj,hjc⟩:=Jt hneg
  have hjl:j<l.length:=by omega
  have hm:C4 c l e=(l[j],0):=by
   rw [hm0]
   unfold Jx
   rw [if_neg hneg,hj,Int.toNat_natCast,List.getD_eq_getElem?_getD,List.getElem?_eq_getElem hjl]
   rfl
  rw [hj]
  refine Lq ?_
  refine R.go (h:=Q.indexAddr (j) (Ak l[j]) (fun _=>Am hjl)) (hr:=?_)
  refine R.go ?_;exact Z73
 refine Z30 ?_;refine Mo ?_;refine R.fin [2,3,4,32] ?_
 refine W.cond (fun ht32=>?_) (fun ht32=>?_)
 ·have h32:((e.op==5)&&(e.text==orW))=true:=ht32
  have hop:e.op=5:=by simp only [Bool.and_eq_true,beq_iff_eq] at h32;exact h32.1
  have hkl:=k5 hop
  have hm:C4 c l e=Gf (F8 true) (C4 c l (e.kids.getD 0 Ah)) (C4 c l (e.kids.getD 1 Ah)):=by rw [hev0];unfold Jy;rw [if_neg (by rw [ht7];simp),if_neg (by rw [ht13];simp),if_pos h32,(El (by omega)).2.2,(El (by omega)).2.2]
  refine xw ?_;refine D.call Tryz.call154 (Ym _ _) ?_;refine D.call Tryz.call153 (zp c l e (e.kids.getD 0 Ah) (e.kids.getD 1 Ah) (F8 true) _ _ (El (by omega)).1 (El (by omega)).1 (hev _ (El (by omega)).2.1) (hev _ (El (by omega)).2.1) _) ?_;refine Z76 ?_;exact Z73
 have h32:((e.op==5)&&(e.text==orW))=false:=ht32
 refine Z30 ?_;refine Mo ?_;refine R.fin [2,3,4,47] ?_
 refine W.cond (fun ht47=>?_) (fun ht47=>?_)
 ·have h47:((e.op==5)&&(e.text==rn))=true:=ht47
  have hop:e.op=5:=by simp only [Bool.and_eq_true,beq_iff_eq] at h47;exact h47.1
  have hkl:=k5 hop
  have hm:C4 c l e=Gf (F8 false) (C4 c l (e.kids.getD 0 Ah)) (C4 c l (e.kids.getD 1 Ah)):=by rw [hev0];unfold Jy;rw [if_neg (by rw [ht7];simp),if_neg (by rw [ht13];simp),if_neg (by rw [h32];simp),if_pos h47,(El (by omega)).2.2,(El (by omega)).2.2]
  refine xw ?_;refine D.call Tryz.call154 (Ym _ _) ?_;refine D.call Tryz.call153 (zp c l e (e.kids.getD 0 Ah) (e.kids.getD 1 Ah) (F8 false) _ _ (El (by omega)).1 (El (by omega)).1 (hev _ (El (by omega)).2.1) (hev _ (El (by omega)).2.1) _) ?_;refine Z76 ?_;exact Z73
 have h47:((e.op==5)&&(e.text==rn))=false:=ht47
 refine Z30 ?_;refine Ky ?_;refine Ky ?_;refine Z9 ?_;refine Mo ?_;refine R.fin [2,3,4,62] ?_
 refine W.cond (fun ht62=>?_) (fun ht62=>?_)
 ·have h62:((e.op==6)&&(((e.text==ifW) || (e.text==Uk)) || (e.text==Bg)))=true:=ht62
  obtain ⟨hkl,hl1,hl2⟩:0<e.kids.length∧((e.text==Bg)=false→1<e.kids.length)∧((e.text==ifW)=true→2<e.kids.length):=by
   have h:=h62
   simp only [Bool.and_eq_true,Bool.or_eq_true,beq_iff_eq] at h
   have ha:=k6 h.1
   rcases h.2 with (h1|h1)|h1
   ·rw [h1] at ha ⊢
    have:e.kids.length=3:=by
     have:Ay ifW=3:=by kernel_rfl
     omega
    exact ⟨by omega,fun _=>by omega,fun _=>by omega⟩
   ·rw [h1] at ha ⊢
    have:e.kids.length=2:=by
     have:Ay Uk=2:=by kernel_rfl
     omega
    exact ⟨by omega,fun _=>by omega,fun h=>absurd h (by decide)⟩
   rw [h1] at ha ⊢
   have:e.kids.length=1:=by
    have:Ay Bg=1:=by kernel_rfl
    omega
   exact ⟨by omega,fun h=>absurd h (by decide),fun h=>absurd h (by decide)⟩
  have hm:C4 c l e=E4 e.text (C4 c l (e.kids.getD 0 Ah)) (C4 c l (e.kids.getD 1 Ah)) (C4 c l (e.kids.getD 2 Ah)):=by
   rw [hev0]
   unfold Jy
   rw [if_neg (by rw [ht7];simp),if_neg (by rw [ht13];simp),if_neg (by rw [h32];simp),if_neg (by rw [h47];simp),if_pos h62,(El hkl).2.2]
   exact gx hl1 hl2
  refine Z1 ?_;refine R.call Tryz.call155 (AC3 c l e (e.kids.getD 0 Ah) (e.kids.getD 1 Ah) (e.kids.getD 2 Ah) _ _ _ (El (by omega)).1 (fun h=>(El (hl1 h)).1) (fun h=>(El (hl2 h)).1) (hev _ (El (by omega)).2.1) (fun h=>hev _ (El (hl1 h)).2.1) (fun h=>hev _ (El (hl2 h)).2.1) _) ?_;refine Z0 ?_;exact Z73
 have h62:((e.op==6)&&(((e.text==ifW) || (e.text==Uk)) || (e.text==Bg)))=false:=ht62
 have hm:=Uo (c:=c) (l:=l) ht7 ht13 h32 h47 h62
 refine Y9 ?_;refine R.call Tryz.call156 (AC4 c l e hok.2.1 hev (fun _=>sa hf hnd hrg hvo h62) _) ?_;refine Z0 ?_;exact Z50

def Mc (l:List Val):Bool:=decide ((50:Int)<(l.length:Int)) || l.any fun v=>decide ((400:Int)<(v.s.length:Int))
theorem c33 (l:List Val) (Hp:List AObj):AFun Tryz.prog 33 [Aw l] Hp (Ar (Mc l)):=by
 refine ACall.body [.tmp 2] [0] Tryz.func33 Tryz.ntmps33 (fun d=>?_)
 refine Vk ?_;refine R.fin [0,6] ?_
 refine W.cond (fun ht6=>?_) (fun ht6=>?_)
 ·rw [List.length_map] at ht6
  have hm:Mc l=true:=by unfold Mc;rw [ht6];rfl
  exact pk
 rw [List.length_map] at ht6
 have hl50:l.length≤50:=by simp at ht6;omega
 refine Pe ?_;refine Ij ?_
 refine AW.loopC (α:=Nat) (fun x=>⟨20,A3 0 (Aw l) (A3 3 (A2 (x:Nat)) (fun _=>.any)),Hp,[],[],none⟩) (fun x=>x≤l.length∧∀(j:Nat) (v:Val),j<x→l[j]? = some v→decide ((400:Int)<(v.s.length:Int))=false) (fun x=>l.length-x) (0) ⟨Nat.zero_le _,fun j v h=>by omega⟩ (StLe.of_eq (by simp)) rfl (fun x hx=>?_)
 refine Z75 ?_;refine R.fin [0,3,10] ?_
 refine W.cond (fun ht10=>?_) (fun ht10=>?_)
 ·have hlt:x<l.length:=by simpa using ht10
  refine Z86 ?_;refine Z1 ?_
  refine R.go (h:=Q.indexAddr (x) (Ak l[x]) (fun _=>Am hlt)) (hr:=?_)
  refine Z71 ?_;refine R.fin [0,3,19] ?_
  refine W.cond (fun ht19=>?_) (fun ht19=>?_)
  ·have hm:Mc l=true:=by unfold Mc;rw [Bool.or_eq_true];exact .inr (List.any_eq_true.2 ⟨l[x],List.getElem_mem hlt,ht19⟩)
   refine Z49 ?_;exact Z93
  refine Z18 ?_;refine Z82 ?_
  refine R.go (h:=Q.add64 (h1:=fun _=>by omega) (h2:=fun _=>by omega)) (hr:=?_)
  refine R.go ?_;refine Ij ?_;exact wy
 have hxe:l.length≤x:=by simpa using ht10
 have hm:Mc l=false:=by
  unfold Mc
  rw [ht6,Bool.false_or,List.any_eq_false]
  intro v hv
  obtain ⟨j,hj⟩:=List.getElem?_of_mem hv
  have:=hx.2 j v (by have:=(List.getElem?_eq_some_iff.1 hj).1;omega) hj
  rw [this]
  simp
 refine Z98 ?_;exact u9

structure RowAt (c:List Col) (l:List Val) (x:Nat):Prop where
 le:x≤l.length
 ok:∀(i:Nat) (v:Val) (y:Col),i<x→l[i]? = some v→c[i]? = some y→By v=true∧(v.kind=0∨v.kind=y.kind)
theorem RowAt.next {c:List Col} {l:List Val} {x:Nat} (h:RowAt c l x) (hl:x<l.length) (hc:x<c.length) (hb:((!(By l[x])) || ((l[x].kind != 0)&&(l[x].kind != c[x].kind)))=false):RowAt c l (x+1):=⟨hl,fun i v y hi hv hy=>by
 rcases Nat.lt_or_ge i x with h'|h'
 ·exact h.ok i v y h' hv hy
 have e:i=x:=by omega
 subst e
 rw [List.getElem?_eq_getElem hl] at hv
 rw [List.getElem?_eq_getElem hc] at hy
 injection hv with hv
 injection hy with hy
 subst hv
 subst hy
 simp only [Bool.or_eq_false_iff,Bool.not_eq_false',Bool.and_eq_false_iff,bne_eq_false_iff_eq] at hb
 exact ⟨hb.1,hb.2⟩⟩
theorem RowAt.bad {c:List Col} {l:List Val} {x:Nat} (hl:x<l.length) (hc:x<c.length) (hb:((!(By l[x])) || ((l[x].kind != 0)&&(l[x].kind != c[x].kind)))=true):I8 c l=false:=by
 cases h:I8 c l with
 | false=>rfl
 | true =>
  obtain ⟨h1,h2⟩:=(row_iff.1 h).2.2 x l[x] c[x] (List.getElem?_eq_getElem hl) (List.getElem?_eq_getElem hc)
  rw [h1] at hb
  simp only [Bool.not_true,Bool.false_or,Bool.and_eq_true,bne_iff_ne] at hb
  omega
theorem c13 (c:List Col) (hc:OkCols c) (l:List Val) (hll:l.length≤1048576) (Hp:List AObj):AFun Tryz.prog 13 [Ac c,Aw l] Hp (Ar (I8 c l)):=by
 refine ACall.body [.tmp 4] [0,1] Tryz.func13 Tryz.ntmps13 (fun d=>?_)
 refine Z51 ?_;refine Z36 ?_;refine R.call Tryz.call37 (c37 c hc _) ?_;refine Z40 ?_;refine Z62 ?_;refine R.go ?_;refine R.fin [0,1,16] ?_
 refine W.cond (fun ht16=>?_) (fun ht16=>?_)
 ·have hm:I8 c l=false:=by
   simp only [List.length_map,Bool.or_eq_true,Bool.not_eq_true',bne_iff_ne,ne_eq] at ht16
   unfold I8
   rcases ht16 with h|h
   ·rw [h];rfl
   rw [show (l.length==c.length)=false by simpa using (show l.length≠c.length by omega)];simp
  exact dl
 have hcl:Lv c=true∧l.length=c.length:=by
  simp only [List.length_map,Bool.or_eq_false_iff,Bool.not_eq_false',bne_eq_false_iff_eq] at ht16
  exact ⟨ht16.1,by omega⟩
 refine Vl ?_;refine R.fin [0,17,18,19] ?_
 refine AW.loopC (α:=Nat) (fun x=>⟨43,A3 0 (Ac c) (A3 17 (Aw l) (A3 18 (A2 (l.length:Nat)) (A3 19 (A2 (x:Nat)) (fun _=>.any)))),Hp,[],[],none⟩) (fun x=>RowAt c l x) (fun x=>l.length-x) (0) ⟨Nat.zero_le _,fun i v y h=>by omega⟩ (StLe.of_eq (by simp)) rfl (fun x hx=>?_)
 refine Z2 ?_;refine R.fin [0,17,18,19,20] ?_
 refine W.condX (fun ht20=>?_) (fun ht20=>?_)
 ·have hlt:x<l.length:=by simpa using ht20
  have hlc:x<c.length:=by omega
  refine Lp ?_
  refine R.go (h:=Q.indexAddr (x) (Ak l[x]) (fun _=>Am hlt)) (hr:=?_)
  refine Y5 ?_;refine R.fin [0,5,6,17,18,19] ?_;refine W.drawQ [0,1,3,7,15,31,63,127,255,511,255,255,3327,7423,15615,32767,65535,131071] 15 Aa (by kernel_rfl) ?_;refine D.go ?_;refine D.call Tryz.call38 (c38 _ _) ?_;refine Z11 ?_;refine Z74 ?_;refine Z74 ?_;refine Z74 ?_;refine Z74 ?_
  refine H.go (h:=Q.indexAddr (x) (Av c[x]) (fun _=>Am hlc)) (hr:=?_)
  refine Z74 ?_;refine D.tail ?_;refine Vi ?_;refine R.fin [0,17,18,19,41] ?_
  refine W.cond (fun ht41=>?_) (fun ht41=>?_)
  ·have hm:=RowAt.bad hlt hlc ht41
   refine Z61 ?_;exact Z93
  refine Z72 ?_;refine R.fin [0,17,18,19] ?_;refine K.lpN (x+1) (hx.next hlt hlc ht41) (by omega) ?_
  exact StCut.take (own:=[]) (fun _=>.refl _) (by repeat (first|exact Ap|refine Ao (by first|exact X5|exact low_cols|(simp [or_imp,forall_and];done)) ?_)) (by simp) (by simp)
 have hxe:l.length≤x:=by simpa using ht20
 have hm:I8 c l=true:=row_iff.2 ⟨by rw [←Lw];exact hcl.1,hcl.2,fun i v y hv hy=>hx.ok i v y (by have:=(List.getElem?_eq_some_iff.1 hv).1;omega) hv hy⟩
 refine Z35 ?_;exact oz

theorem np {e:Expr} (h:Ba e=true):I9 e=true:=by
 unfold I9
 cases L7 h with
 | val v hp h0=>simpa [Gr,Expr.op,Expr.val] using hp
 | name t ht=>rfl
 | neg a=>rfl
 | no a=>rfl
 | bin t a b ht=>rfl
 | call t k ht=>rfl
mutual
theorem c8:∀e:Expr,Bk Ba e=true→Bk I9 e=true
 | .mk o t v k,h=>by
  rw [Bk,Bool.and_eq_true] at h ⊢
  exact ⟨np h.1,X7 k h.2⟩
theorem X7:∀k:List Expr,I3 Ba k=true→I3 I9 k=true
  | [],_=>rfl
  | e::r,h=>by
    rw [I3,Bool.and_eq_true] at h ⊢
    exact ⟨c8 e h.1,X7 r h.2⟩
 end
theorem nq {c:List Col} {l:List Val} (h:I8 c l=true) (hr:∀v∈l, -9223372036854775808≤v.n∧v.n≤9223372036854775807):∀v∈l,Fine v:=fun v hv=>by
 obtain ⟨i,hi⟩:=List.getElem?_of_mem hv
 obtain ⟨_,h2,h3⟩:=row_iff.1 h
 have hil:=(List.getElem?_eq_some_iff.1 hi).1
 exact ⟨(h3 i v _ hi (List.getElem?_eq_getElem (show i<c.length by omega))).1,(hr v hv).1,(hr v hv).2⟩
theorem c88 (n:Nat) (x:Expr) (hok:okE n x) (hn:n≤1048576) (hrg:Bk Dr x=true) (c:List Col) (hc:OkCols c) (l:List Val) (hll:l.length≤1048576) (hlr:∀v∈l, -9223372036854775808≤v.n∧v.n≤9223372036854775807) (Hp:List AObj):AFun Tryz.prog 88 [A5 x,Ac c,Aw l] Hp (Nm (Gi x c l)):=by
 refine ACall.body [.cell 6 63,.tmp 7] [0,1,2] Tryz.func88 Tryz.ntmps88 (fun d=>?_)
 refine Z2 ?_;refine Z65 ?_;refine R.fin [1,2,3,6] ?_;refine Z36 ?_;refine R.call Tryz.call56 (c56 n x hok hn _) ?_;refine Z40 ?_;refine G.call Tryz.call13 (fun hB=>c13 c hc l hll _) ?_;refine Z88 ?_;refine R.fin [1,2,3,6,16] ?_
 refine W.cond (fun ht16=>?_) (fun ht16=>?_)
 ·have hm:Gi x c l=C1 1:=if_pos ht16
  refine Rb ?_;refine Ty ?_;exact Z28
 have hm:Gi x c l=C4 c l x:=if_neg (by rw [ht16];simp)
 have hrr:Ax x=true∧I8 c l=true:=by simpa using ht16
 obtain ⟨hr,hrow⟩:=hrr
 refine Re ?_;refine U1 ?_;refine R.go ?_;refine R.call Tryz.call123 (AC5 c l hc (row_iff.1 hrow).2.1 (nq hrow hlr) n x hok (Ju hr) hrg (c8 x (Ju hr)) _) ?_;refine Z0 ?_;exact x7

/-! mig.Parse: the first fault is Eo. -/
inductive PR (α:Type) where
 | ok (r:α) (i:Nat)
 | bad (e a:Int)
def PR.bind {α β:Type} (x:PR α) (f:α→Nat→PR β):PR β:=match x with
 | .ok r i=>f r i
 | .bad e a=>.bad e a
def T7 {α:Type} (L:List Tok) (i:Nat) (e:Int):PR α:=.bad e (A7 L i).at_
def isP (L:List Tok) (s:Str) (i:Nat):Bool:=(((A7 L i).kind==5) || ((A7 L i).kind==2))&&((A7 L i).text==s)
def Bp (L:List Tok) (s:Str) (i:Nat):PR Unit:=if isP L s i then .ok () (i+1) else T7 L i 8
def Ed (L:List Tok) (i:Nat):PR Str:=if (A7 L i).kind != 1 then T7 L i 8 else .ok (A7 L i).text (i+1)
def X8 (L:List Tok) (nm:Str) (j:Nat):PR Col:=if ((A7 L j).kind != 2) || (I4 (A7 L j).text==0) then T7 L j 8 else .ok ⟨nm,I4 (A7 L j).text⟩ (j+1)
def Fu (L:List Tok) (i:Nat):PR Col:=(Ed L i).bind (X8 L)
def Hn (L:List Tok) (i:Nat):PR Expr:=if (atM L i).2.2.1 != 0 then .bad (atM L i).2.2.1 (atM L i).2.2.2 else .ok (atM L i).1 (atM L i).2.1.toNat
def Bu (m:Mov) (c:Col):Mov:={ m with give:=m.give++[c] }
def T8 (m:Mov) (x:Expr):Mov:={ m with ahead:=m.ahead++[x] }
def Cy (L:List Tok) (m:Mov) (i:Nat):PR Mov:=(Fu L i).bind fun c j=>(Bp L [61] j).bind fun _ j=>(Hn L j).bind fun x j=>.ok (T8 (Bu m c) x) j
def Kr (L:List Tok) (n:Int) (k:Nat) (i:Nat):Bool:=decide ((k:Int)<n) || ((n==0)&&(decide ((k:Int)<2) || isP L [44] i))
/-- Things with commas between, behind the first k. -/
def K3 (L:List Tok) (n:Int) (one:Mov→Nat→PR Mov):Nat→Nat→Mov→Nat→PR Mov
 | 0,_,m,i=>.ok m i
 | f+1,k,m,i=>if Kr L n k i then (Bp L [44] i).bind fun _ j=>(one m j).bind fun m j=>K3 L n one f (k+1) m j else .ok m i
def Ex (L:List Tok) (n:Int) (one:Mov→Nat→PR Mov) (m:Mov) (i:Nat):PR Mov:=(one m i).bind fun m j=>K3 L n one (L.length+1) 1 m j
def ca:Str:=[98,97,99,107]
def F9:Str:=[105,110,116,111]
def toW:Str:=[116,111]
def cb (m:Mov) (x:Expr):Mov:={ m with back:=m.back++[x] }
def Md (L:List Tok) (m:Mov) (i:Nat):PR Mov:=(Hn L i).bind fun x j=>.ok (cb m x) j
def Dl (L:List Tok) (m:Mov) (i:Nat):PR Mov:=(Bp L ca i).bind fun _ j=>Ex L m.take.length (Md L) m j
def Gu (L:List Tok) (m:Mov) (i:Nat):PR Mov:=(Ed L i).bind fun s j=>(Bp L toW j).bind fun _ j=>(Ed L j).bind fun t j=>.ok ⟨m.kind,[s],[⟨t,0⟩],[C3 s],[C3 t]⟩ j
def takeS (m:Mov) (s:Str):Mov:={ m with take:=[s] }
def cd (m:Mov) (s:Str):Mov:={ m with take:=m.take++[s] }
def Ks (L:List Tok) (m:Mov) (i:Nat):PR Mov:=(Ed L i).bind fun s j=>.ok (cd m s) j
def Em (L:List Tok) (m:Mov) (i:Nat):PR Mov:=
 if m.kind==1 then Cy L m i
 else if m.kind==2 then (Ed L i).bind fun s j=>Dl L (takeS m s) j
 else if m.kind==3 then Gu L m i
 else if m.kind==4 then (Ed L i).bind fun s j=>(Bp L F9 j).bind fun _ j=>(Ex L 0 (Cy L) (takeS m s) j).bind fun m j=>Dl L m j
 else if m.kind==5 then (Ex L 0 (Ks L) m i).bind fun m j=>(Bp L F9 j).bind fun _ j=>(Cy L m j).bind fun m j=>Dl L m j
 else if m.kind==6 then (Cy L m i).bind fun m j=>Dl L (takeS m (m.give.getD 0 ⟨[],0⟩).name) j
 else .ok m i
def migWords:List Str:=[[],[97,100,100],[100,114,111,112],[114,101,110,97,109,101],[115,112,108,105,116],[109,101,114,103,101],[114,101,116,121,112,101]]
def Cv (k:Int):Str:=if (decide (k<1) || decide (6<k))=true then [] else migWords.getD k.toNat []
def D5 (s:Str):Int:=if Cv 1==s then 1 else if Cv 2==s then 2 else if Cv 3==s then 3 else if Cv 4==s then 4 else if Cv 5==s then 5 else if Cv 6==s then 6 else 0
def Ga (L:List Tok) (i:Nat):PR Mov:=
 if ((A7 L i).kind != 2) || (D5 (A7 L i).text==0) then T7 L i 8
 else (Em L ⟨D5 (A7 L i).text,[],[],[],[]⟩ (i+1)).bind fun m j=>(Bp L [59] j).bind fun _ j=>.ok m j
/-- Moves, behind some. -/
def Ds (L:List Tok):Nat→List Mov→Nat→PR (List Mov)
 | 0,l,i=>.ok l i
 | f+1,l,i=>if (A7 L i).kind != 0 then (if (l.length:Int)==8 then T7 L i 3 else (Ga L i).bind fun m j=>Ds L f (l++[m]) j) else .ok l i
def He (L:List Tok):PR (List Mov):=Ds L 9 [] 0
/-- The moves; the fault's code and place. -/
def Me (s:Str):List Mov×Int×Int:=
 if (D8 s).2.1 != 0 then ([],(D8 s).2.1,(D8 s).2.2)
 else match He (D8 s).1 with
  | .ok l _=>(l,0,0)
  | .bad e a=>([],e,a)
/-! Where the parser of moves comes to. -/
def PR.In {α:Type} (x:PR α) (i n:Nat):Prop:=∀r j,x=.ok r j→i<j∧j<n
theorem PR.bind_ok {α β:Type} {x:PR α} {f:α→Nat→PR β} {r:β} {j:Nat} (h:x.bind f=.ok r j):∃a k,x=.ok a k∧f a k=.ok r j:=by
 cases x with
 | ok a k=>exact ⟨a,k,rfl,h⟩
 | bad e a=>cases h
theorem sb {L:List Tok} {s:Str} {i:Nat} (h:isP L s i=true):(A7 L i).kind≠0:=by
 unfold isP at h
 simp only [Bool.and_eq_true,Bool.or_eq_true,beq_iff_eq] at h
 rcases h.1 with h|h<;>rw [h]<;>decide
theorem Cw {L:List Tok} (hl:TokEnd L) {s:Str} {i:Nat} (hi:i<L.length):(Bp L s i).In i L.length:=by
 intro r j h
 unfold Bp at h
 split at h
 ·rename_i h1
  injection h with _ h
  subst h
  exact ⟨Nat.lt_succ_self i,hl.step hi (sb h1)⟩
 cases h
theorem E5 {L:List Tok} (hl:TokEnd L) {i:Nat} (hi:i<L.length):(Ed L i).In i L.length:=by
 intro r j h
 unfold Ed at h
 split at h
 ·cases h
 rename_i h1
 injection h with _ h
 subst h
 have hk:(A7 L i).kind=1:=by simpa using h1
 exact yi
theorem sc {L:List Tok} (hl:TokEnd L) {nm:Str} {i:Nat} (hi:i<L.length):(X8 L nm i).In i L.length:=by
 intro r j h
 unfold X8 at h
 split at h
 ·cases h
 rename_i h1
 injection h with _ h
 subst h
 have hk:(A7 L i).kind=2:=by simp only [Bool.not_eq_true,Bool.or_eq_false_iff,bne_eq_false_iff_eq] at h1;exact h1.1
 exact yi
theorem Nn {L:List Tok} (hl:TokEnd L) {i:Nat} (hi:i<L.length):(Fu L i).In i L.length:=by
 intro r j h
 obtain ⟨a,k,h1,h2⟩:=PR.bind_ok h
 obtain ⟨a1,a2⟩:=E5 hl hi _ _ h1
 obtain ⟨b1,b2⟩:=sc hl a2 _ _ h2
 exact ⟨by omega,b2⟩
theorem Iw {L:List Tok} (hl:TokEnd L) (hll:L.length≤500000) {i:Nat} (hi:i<L.length) {x:Expr} {k:Nat} (h:Hn L i=.ok x k):i≤k∧k<L.length:=by
 unfold Hn at h
 split at h
 ·cases h
 rename_i h0
 injection h with _ h
 subst h
 have h0:(atM L i).2.2.1=0:=by simpa using h0
 have hq:=Qk hl (by omega:L.length≤1048576) hi
 unfold atM at h0 ⊢
 split at h0
 ·rename_i h1
  have:(atS L i (atR L i)).code=0:=h0
  rw [this] at h1
  cases h1
 rename_i h1
 rw [if_neg h1]
 have e:(atS L i (atR L i)).i=(atR L i).2.i:=by
  unfold atS
  repeat' split
  all_goals first|rfl|exact failM_i.1
 show i≤((atS L i (atR L i)).i:Int).toNat∧((atS L i (atR L i)).i:Int).toNat<_
 rw [Int.toNat_natCast,e]
 exact ⟨hq.le,hq.lt⟩
/-- A move has no more parts than so many. -/
structure MvLe (m:Mov) (n:Nat):Prop where
 take:m.take.length≤n
 give:m.give.length≤n
 ahead:m.ahead.length≤n
 back:m.back.length≤n
theorem MvLe.mono {m:Mov} {i j:Nat} (h:MvLe m i) (hij:i≤j):MvLe m j:=⟨Nat.le_trans h.take hij,Nat.le_trans h.give hij,Nat.le_trans h.ahead hij,Nat.le_trans h.back hij⟩
/-- What a part of a move comes to. -/
def we (x:PR Mov) (i n:Nat):Prop:=∀m j,x=.ok m j→i≤j∧j<n∧MvLe m (2*j)
/-- A part of a move that goes on from i. -/
def Rq (L:List Tok) (one:Mov→Nat→PR Mov):Prop:=∀m i,MvLe m (2*i-1)→0<i→i<L.length→we (one m i) i L.length
theorem Gv {L:List Tok} (hl:TokEnd L) (hll:L.length≤500000):Rq L (Cy L):=by
 intro m i hm _ hi m' k h
 obtain ⟨c,j,h1,h2⟩:=PR.bind_ok h
 obtain ⟨u,j2,h3,h4⟩:=PR.bind_ok h2
 obtain ⟨x,j3,h5,h6⟩:=PR.bind_ok h4
 injection h6 with h6 h7
 subst h6;subst h7
 have a1:=Nn hl hi _ _ h1
 have a2:=Cw hl a1.2 _ _ h3
 have a3:=Iw hl hll a2.2 h5
 obtain ⟨b1,b2,b3,b4⟩:=hm
 exact ⟨by omega,a3.2,by show m.take.length≤_;omega,by show (m.give++[c]).length≤_;rw [List.length_append,List.length_singleton];omega,by show (m.ahead++[x]).length≤_;rw [List.length_append,List.length_singleton];omega,by show m.back.length≤_;omega⟩
theorem R1 {L:List Tok} (hl:TokEnd L) (hll:L.length≤500000):Rq L (Md L):=by
 intro m i hm h0 hi m' k h
 obtain ⟨x,j,h1,h2⟩:=PR.bind_ok h
 injection h2 with h6 h7
 subst h6;subst h7
 have a3:=Iw hl hll hi h1
 obtain ⟨b1,b2,b3,b4⟩:=hm
 exact ⟨by omega,a3.2,by show m.take.length≤_;omega,by show m.give.length≤_;omega,by show m.ahead.length≤_;omega,by show (m.back++[x]).length≤_;rw [List.length_append,List.length_singleton];omega⟩
theorem Mf {L:List Tok} (hl:TokEnd L):Rq L (Ks L):=by
 intro m i hm _ hi m' k h
 obtain ⟨s,j,h1,h2⟩:=PR.bind_ok h
 injection h2 with h6 h7
 subst h6;subst h7
 have a1:=E5 hl hi _ _ h1
 obtain ⟨b1,b2,b3,b4⟩:=hm
 exact ⟨by omega,a1.2,by show (m.take++[s]).length≤_;rw [List.length_append,List.length_singleton];omega,by show m.give.length≤_;omega,by show m.ahead.length≤_;omega,by show m.back.length≤_;omega⟩
theorem Hf {L:List Tok} {s:Str} {i:Nat} {u:Unit} {j:Nat} (h:Bp L s i=.ok u j):j=i+1:=by
 unfold Bp at h
 split at h
 ·injection h with _ h;exact h.symm
 cases h
theorem X9 {L:List Tok} (hl:TokEnd L) {n:Int} {one:Mov→Nat→PR Mov} (hP:Rq L one):∀(f k:Nat) (m:Mov) (i:Nat),MvLe m (2*i)→0<i→i<L.length→we (K3 L n one f k m i) i L.length
 | 0,k,m,i,hm,h0,hi=>fun m' j h=>by
  injection h with h1 h2
  subst h1;subst h2
  exact ⟨Nat.le_refl _,hi,hm⟩
 | f+1,k,m,i,hm,h0,hi=>fun m' j h=>by
  rw [K3] at h
  split at h
  ·obtain ⟨u,j1,h1,h2⟩:=PR.bind_ok h
   obtain ⟨m1,j2,h3,h4⟩:=PR.bind_ok h2
   have e:=Hf h1
   have a1:=Cw hl hi _ _ h1
   obtain ⟨b1,b2,b3⟩:=hP m j1 (hm.mono (by omega)) (by omega) a1.2 _ _ h3
   obtain ⟨c1,c2,c3⟩:=X9 hl hP f (k+1) m1 j2 b3 (by omega) b2 _ _ h4
   exact Yc
  injection h with h1 h2
  subst h1;subst h2
  exact ⟨Nat.le_refl _,hi,hm⟩
theorem Mg {L:List Tok} (hl:TokEnd L) {n:Int} {one:Mov→Nat→PR Mov} (hP:Rq L one):Rq L (Ex L n one):=by
 intro m i hm h0 hi m' k h
 obtain ⟨m1,j,h1,h2⟩:=PR.bind_ok h
 obtain ⟨b1,b2,b3⟩:=hP m i hm h0 hi _ _ h1
 obtain ⟨c1,c2,c3⟩:=X9 hl hP _ _ m1 j b3 (by omega) b2 _ _ h2
 exact Yc
theorem Oz {L:List Tok} (hl:TokEnd L) (hll:L.length≤500000) {m:Mov} {i:Nat} (hm:MvLe m (2*i)) (hi:i<L.length):we (Dl L m i) i L.length:=by
 intro m' k h
 obtain ⟨u,j,h1,h2⟩:=PR.bind_ok h
 have e:=Hf h1
 have a1:=Cw hl hi _ _ h1
 obtain ⟨c1,c2,c3⟩:=Mg hl (R1 hl hll) m j (hm.mono (by omega)) (by omega) a1.2 _ _ h2
 exact Yc
theorem gy {L:List Tok} (hl:TokEnd L):Rq L (Gu L):=by
 intro m i hm h0 hi m' k h
 obtain ⟨s,j,h1,h2⟩:=PR.bind_ok h
 obtain ⟨u,j2,h3,h4⟩:=PR.bind_ok h2
 obtain ⟨t,j3,h5,h6⟩:=PR.bind_ok h4
 injection h6 with h6 h7
 subst h6;subst h7
 have a1:=E5 hl hi _ _ h1
 have a2:=Cw hl a1.2 _ _ h3
 have a3:=E5 hl a2.2 _ _ h5
 exact ⟨by omega,a3.2,by show 1≤_;omega,by show 1≤_;omega,by show 1≤_;omega,by show 1≤_;omega⟩
theorem MvLe.takeS {m:Mov} {n:Nat} (h:MvLe m n) {s:Str} (h1:1≤n):MvLe (takeS m s) n:=⟨h1,h.give,h.ahead,h.back⟩
theorem Up {L:List Tok} (hl:TokEnd L) (hll:L.length≤500000):Rq L (Em L):=by
 intro m i hm h0 hi m' k h
 unfold Em at h
 split at h
 ·exact Gv hl hll m i hm h0 hi _ _ h
 split at h
 ·obtain ⟨s,j,h1,h2⟩:=PR.bind_ok h
  have a1:=E5 hl hi _ _ h1
  obtain ⟨c1,c2,c3⟩:=Oz hl hll ((hm.mono (by omega:2*i-1≤2*j)).takeS (by omega)) a1.2 _ _ h2
  exact Yc
 split at h
 ·exact gy hl m i hm h0 hi _ _ h
 split at h
 ·obtain ⟨s,j,h1,h2⟩:=PR.bind_ok h
  obtain ⟨u,j2,h3,h4⟩:=PR.bind_ok h2
  obtain ⟨m1,j3,h5,h6⟩:=PR.bind_ok h4
  have a1:=E5 hl hi _ _ h1
  have a2:=Cw hl a1.2 _ _ h3
  obtain ⟨b1,b2,b3⟩:=Mg hl (Gv hl hll) (takeS m s) j2 ((hm.mono (by omega:2*i-1≤2*j2-1)).takeS (by omega)) (by omega) a2.2 _ _ h5
  obtain ⟨c1,c2,c3⟩:=Oz hl hll b3 b2 _ _ h6
  exact Yc
 split at h
 ·obtain ⟨m1,j,h1,h2⟩:=PR.bind_ok h
  obtain ⟨u,j2,h3,h4⟩:=PR.bind_ok h2
  obtain ⟨m2,j3,h5,h6⟩:=PR.bind_ok h4
  obtain ⟨b1,b2,b3⟩:=Mg hl (Mf hl) m i hm h0 hi _ _ h1
  have e:=Hf h3
  have a2:=Cw hl b2 _ _ h3
  obtain ⟨d1,d2,d3⟩:=Gv hl hll m1 j2 (b3.mono (by omega)) (by omega) a2.2 _ _ h5
  obtain ⟨c1,c2,c3⟩:=Oz hl hll d3 d2 _ _ h6
  exact Yc
 split at h
 ·obtain ⟨m1,j,h1,h2⟩:=PR.bind_ok h
  obtain ⟨d1,d2,d3⟩:=Gv hl hll m i hm h0 hi _ _ h1
  obtain ⟨c1,c2,c3⟩:=Oz hl hll (d3.takeS (by omega)) d2 _ _ h2
  exact Yc
 injection h with h1 h2
 subst h1;subst h2
 exact ⟨Nat.le_refl _,hi,hm.mono (by omega)⟩
/-! The words of moves, and what is parsed from them. -/
/-! Two sources, one behind the other, with a line's end between. -/
/-! The text of moves, and its words. -/
/-! The same where brackets may nest too deep: then 18 is told. -/
/-! How long plan.Text's pieces are. -/
section
variable {O X U:List AObj} {i:Nat} {b y:AObj}
end
end Go.SX.Nb
namespace Go.SX
variable [GI:GlobInv]
open Classical
/-- An object that no memory holds: what is told of a state behind an operation that surely panics. -/
def gz:AObj:=.cells 0 [.agg [.agg []]]
def bot (b:Bool):List AObj:=if b then [gz] else []
theorem wg {G:Gh} {w:World} {i:Nat}:¬ObjRel G w i gz:=fun h=>by
 obtain ⟨u,_,hr⟩:=Hy (y:=.agg [.agg []]) (j:=0) h rfl
 cases hr with
 | agg _ _ vs hn h1 _=>exact absurd (h1 _ (List.mem_singleton.2 rfl)) (by simp [AV.one])
section
variable {P:Program} {d:Nat}
theorem StRel.bot {G:Gh} {st:St} {a:Act} {w:World} (h:StRel d G st a w) (hb:gz∈st.own):False:=by
 obtain ⟨i,hi⟩:=List.getElem?_of_mem (List.mem_append_right st.up hb)
 exact wg (h.heap.obj i _ hi)
theorem P0 {b:Bool} {l:List AObj} (h:b=true):gz∈l++bot b:=by subst h;exact List.mem_append_right _ (List.mem_singleton.2 rfl)
variable {sz:Nat} {dfs:List Nat} {rnd:Option Nat} {l0:List Oper} {up own:(Nat→Bool)→List AObj} {KP:List PanicEntry→St→Prop} {E:List Oper→(Nat→AV)→Prop} {S:List SegY} {l:List Oper} {fr:Nat→AV} {ty:TypeId} {pos:String} {aft:Array Edge} {s:Nat} {T F:List Nat}
/-- What stands behind the operation that panics never runs. -/
theorem Y.bot {W:List Nat} {o:Oper} (hb:∀B:Nat→Bool,(∀p∈T,B p=true)→gz∈own B) (h:ChainY P d l0 sz up own dfs rnd KP E S l (G5 (W.map fun s=>(s,.any)) fr)) (hg:o.guard=none:=by rfl):
  ChainY P d l0 sz up own dfs rnd KP E (.s W none T F::S) (o::l) fr:=by
 refine ⟨_,l,W.map fun s=>(s,.any),rfl,⟨?_,hg,fun B f hT _ _ _ G a w hr=>?_⟩,h⟩
 ·simp [Function.comp_def]
 exact (StRel.bot hr (hb B hT)).elim
theorem Y.endBot {tn:List Nat} {Q:St→Prop} (hb:gz∈own (fun p=>decide (p<tn.length))):ChainY P d l0 sz up own dfs rnd KP (fun l' f=>ARun P d l0.toArray l' ⟨sz,f,up (fun p=>decide (p<tn.length)),own (fun p=>decide (p<tn.length)),dfs,rnd⟩ Q) [] l fr:=
 fun G a w hr=>(StRel.bot hr hb).elim
/-- A call that surely panics. -/
theorem Y.callBad {f0:Operand} {g:FuncId} {xs:List Operand} {ats:Array TypeId} {first caps args:List AV} {pn:Nat} {up0 own0:List AObj} {pp:Value→List AObj→Prop} (hcall:∀args w,(callFunc g args).run P w=.ok (.enter g args) w)
  (hU:∀B:Nat→Bool,B pn=false→up B=up0∧own B=own0) (hA:ACallP P g args (up0++own0) (fun _ _=>False) pp)
  (hpp:∀x U O f,U.length=up0.length→(U++O).length=(up0++own0).length→pp x (U++O)→((∀x∈up0,ObjLow U.length x)→∀x∈U,ObjLow U.length x)∧(∀o∈dfs,(up0++own0)[o]? = some .defs→(U++O)[o]? = some .defs)∧KP (Eo x) ⟨sz,f,U,O,dfs,rnd⟩)
  (h:ChainY P d l0 sz up own dfs rnd KP E S l (A3 s .any fr))
  (hf0:Ae fr f0=.fn (.func g) first caps:=by exact sL0) (ha:first++xs.map (Ae fr)++caps=args:=by exact sL0):
  ChainY P d l0 sz up own dfs rnd KP E (.s [s] (some pn) T F::S) (⟨some s,.call ⟨.value f0,xs.toArray,ats⟩,ty,pos,aft,none⟩::l) fr:=by
 refine ⟨_,l,[(s,.any)],rfl,⟨rfl,rfl,fun B f _ _ hB hf G a w hr=>?_⟩,h⟩
 obtain ⟨e1,e2⟩:=hU B (hB pn rfl)
 rw [e1,e2] at hr ⊢
 have e:first++xs.map (Ae f)++caps=args:=by rw [Xw hf (fun x hx=>by simp [Op.operands,Call.operands,hx])];exact ha
 have e0:Ae f f0=.fn (.func g) first caps:=by rw [agr hf (by simp [Op.operands,Call.operands])];exact hf0
 have hev:St.ev ⟨sz,f,up0,own0,dfs,rnd⟩ f0=.fn (.func g) first caps:=e0
 have hfr:=hev ▸ hr.eval f0
 generalize hfv:a.eval f0=fv at hfr
 cases hfr with
 | fn _ _ _ _ va vc hna hnc h1 h2 =>
  have hxr:=If hr xs
  subst e
  refine Nx (by intro c h;cases h) (H6 hcall hfv) (hA d G w _ (by simp [hna,hnc]) (fun i y u hy hu=>?_) hr.heap hr.tags hr.top) ?_
  ·rw [List.append_assoc] at hy
   rw [Array.append_assoc] at hu
   rcases Nat.lt_or_ge i first.length with hi|hi
   ·rw [List.getElem?_append_left hi] at hy
    rw [Array.getElem?_append_left (by omega)] at hu
    exact (h1 i y u hy hu).lift
   rw [List.getElem?_append_right hi] at hy
   rw [Array.getElem?_append_right (by omega),hna] at hu
   rcases Nat.lt_or_ge (i-first.length) xs.length with hj|hj
   ·rw [List.getElem?_append_left (by simpa using hj)] at hy
    rw [Array.getElem?_append_left (by simpa using hj)] at hu
    exact (hxr _ y u hy hu).lift
   rw [List.getElem?_append_right (by simpa using hj)] at hy
   rw [Array.getElem?_append_right (by simpa using hj)] at hu
   simp only [List.length_map,List.size_toArray] at hy hu
   exact (h2 _ y u hy hu).lift
  rintro e w' (⟨v,G',y,H',rfl,hrep,hH,hT,hk,hlen,hpo⟩|⟨x,G',H',rfl,hH,hT,hk,hlen,hpo⟩)
  ·exact hpo.elim
  have hl':up0.length≤H'.length:=by rw [hlen];simp
  obtain ⟨U,hU'⟩:∃U,U=H'.take up0.length:=⟨_,rfl⟩
  obtain ⟨O,hO⟩:∃O,O=H'.drop up0.length:=⟨_,rfl⟩
  have e1':H'=U++O:=by rw [hU',hO];exact (List.take_append_drop _ _).symm
  have e2':U.length=up0.length:=by rw [hU'];simp;omega
  subst e1'
  obtain ⟨q1,q2,q3⟩:=hpp x U O f e2' hlen hpo
  have h3:=hr.called hH hT hk rfl e2' (fun o ho=>q2 o ho (hr.defsAt o ho)) (q1 (by rw [e2'];exact hr.low))
  exact .inr ⟨_,rfl,_,rfl,_,_,h3,hk.less (Nat.le_succ d),e2',rfl,rfl,rfl,q3⟩
/-- A panic, drawn. -/
theorem Y.panic {x:Operand} {t:TypeId} {vs:List Value} {pn:Nat} (hq:∀B:Nat→Bool,B pn=false→∀f,KP (Eo (.iface t (.agg vs.toArray))) ⟨sz,f,up B,own B,dfs,rnd⟩) (h:ChainY P d l0 sz up own dfs rnd KP E S l fr)
  (hx:Ae fr x=.iface t (.agg (vs.map .v)):=by exact sL0):
  ChainY P d l0 sz up own dfs rnd KP E (.s [] (some pn) T F::S) (⟨none,.panic x,ty,pos,aft,none⟩::l) fr:=by
 refine ⟨_,l,[],rfl,⟨rfl,rfl,fun B f _ _ hB hf G a w hr=>?_⟩,h⟩
 have hxr:=hr.eval x
 have hev:St.ev ⟨sz,f,up B,own B,dfs,rnd⟩ x=.iface t (.agg (vs.map .v)):=by
  show Ae f x=_
  rw [agr hf (by simp [Op.operands])];exact hx
 rw [hev] at hxr
 refine ⟨fun _ _=>trivial,?_⟩
 rw [Oper.semAt_eq _ _ _ (by intro c h;cases h)]
 have he:(execOp a.eval ⟨none,.panic x,ty,pos,aft,none⟩).run P w=.halt (.panic (.iface t (.agg vs.toArray))) w:=by
  show ((do let v ←Instr.panic (a.eval x);pure (.value v)):Sem Next).run P w=_
  rw [Pc hxr]
  rfl
 rw [he]
 exact ⟨_,rfl,G,_,hr,Keep.refl _ _ _,rfl,rfl,rfl,rfl,hq B (hB pn rfl) f⟩
theorem Gw {U O A B:List AObj} (hl:U.length=A.length) (h:U++O=A++B):A=U∧B=O:=List.append_inj h.symm hl.symm
theorem B1 {U O A B:List AObj} {o:Nat} {x:AObj} (hl:U.length=A.length) (ho:o<A.length) (h:U++O=(A++B).set o x):A.set o x=U∧B=O:=by
 rw [List.set_append_left _ _ ho] at h
 exact List.append_inj h.symm (by simpa using hl.symm)
end
section
variable {P:Program} {d:Nat} {ops:Array Oper}
/-- A call that surely panics. -/
theorem RK.callBad {sz s:Nat} {fr:Nat→AV} {up own:List AObj} {dfs:List Nat} {rnd:Option Nat} {ty:TypeId} {pos:String} {aft:Array Edge} {rest:List Oper} {K:Exit→St→Prop} {f:Operand} {g:FuncId} {xs:List Operand} {ats:Array TypeId} {first caps args:List AV} {pp:Value→List AObj→Prop}
  (hcall:∀args w,(callFunc g args).run P w=.ok (.enter g args) w) (h:ACallP P g args (up++own) (fun _ _=>False) pp)
  (hpp:∀x U O,U.length=up.length→(U++O).length=(up++own).length→pp x (U++O)→((∀x∈up,ObjLow U.length x)→∀x∈U,ObjLow U.length x)∧(∀o∈dfs,(up++own)[o]? = some .defs→(U++O)[o]? = some .defs)∧K (.panic (Eo x)) ⟨sz,fr,U,O,dfs,rnd⟩)
  (hf:Ae fr f=.fn (.func g) first caps:=by exact sL0) (ha:first++xs.map (Ae fr)++caps=args:=by exact sL0) (hs:Nat.blt s sz=true:=by rfl):
  ARunK P d ops (⟨some s,.call ⟨.value f,xs.toArray,ats⟩,ty,pos,aft,none⟩::rest) ⟨sz,fr,up,own,dfs,rnd⟩ K:=RK.callV hcall h (fun _ _ _ _ _ h=>h.elim) hpp hf ha hs
theorem AW.upEq {c:Code} {sz:Nat} {fr:Nat→AV} {up up' own:List AObj} {dfs:List Nat} {rnd:Option Nat} {K:Exit→St→Prop} (e:up=up') (h:AW P d c ⟨sz,fr,up',own,dfs,rnd⟩ K):AW P d c ⟨sz,fr,up,own,dfs,rnd⟩ K:=e ▸ h
end
end Go.SX
namespace Go.SX
variable [GI:GlobInv]
open Classical
section
variable {P:Program} {d:Nat} {st:St} {ty:TypeId} {pos:String} {aft:Array Edge} {gd:Option (Nat×Bool)}
/-- A variable of its own, not laid yet. -/
theorem AOp.allocP {t:TypeId} {z:Value} {k s:Nat} (hz:∀w,(zeroValue t).run P w=.ok z w) (hk:z.cells.size=k) (hs:s<st.sz):
  AOp P d ⟨some s,.alloc t,ty,pos,aft,gd⟩ st (·=st.set s (.cellp k)):=by
 subst hk
 intro G a w h Q'
 let G':Gh:={ G with tag:=fun b o=>if b=w.heap.size∧o<z.cells.size then .tail (.slot d s) else G.tag b o }
 have hfree:∀o,G.tag w.heap.size o=.free:=fun o=>Dn h.tags _ o (Nat.le_refl _)
 have hne:∀b o,G.tag b o≠.free→¬(b=w.heap.size∧o<z.cells.size):=fun b o hb hc=>by rw [hc.1] at hb;exact hb (hfree o)
 have hkeep:∀b o,G.tag b o≠.free→G'.tag b o=G.tag b o:=fun b o hb=>by simp only [G'];rw [if_neg (hne b o hb)]
 have hcell:∀b o,G.tag b o≠.free→(w.alloc (.cells z.cells t)).cell? ⟨b,o,none⟩=w.cell? ⟨b,o,none⟩:=fun b o hb=>by
  refine World.cell?_alloc_old _ _ _ ?_
  show b≠w.heap.size
  rintro rfl
  exact hb (hfree o)
 have T:Turn G w G' (w.alloc (.cells z.cells t)):=by
  refine ⟨fun b o hb=>⟨by rw [hkeep b o (by rw [hb];simp)];exact hb,hcell b o (by rw [hb];simp)⟩,fun b o L hb=>by rw [hkeep b o (by rw [hb];simp)];exact hb,fun b o i hb=>by rw [hkeep b o (by rw [hb];simp)];exact hb,Nat.le_refl _,fun o ho=>rfl,rfl,rfl,rfl,by simp,Still.alloc _ (fun b o hb=>.inl (by simp only [G'];rw [if_neg (by omega)])) (fun i hi=>.inl ⟨hi,rfl⟩)⟩
 have h1:StRel d G' st a (w.alloc (.cells z.cells t)):=by
  refine h.turn (U:=st.up) (O:=st.own) T ⟨fun i x hx=>T.objRel ?_ ?_ (h.heap.obj i x hx) (fun b hb=>?_),h.heap.n,h.heap.inj⟩ rfl h.defsAt ⟨fun b o hb=>?_,fun b o i hb=>?_,fun b o L hb=>?_,h.tags.globKeep T.old⟩ h.low
  ·rw [h.heap.n];exact (List.getElem?_eq_some_iff.1 hx).1
  ·have:=(h.heap.obj i x hx).blt
   show (w.heap.push _)[G.blk i]? = _
   rw [Array.getElem?_push,if_neg (by omega)]
  ·have:=hb.lt
   show (w.heap.push _)[b]? = _
   rw [Array.getElem?_push,if_neg (by omega)]
  ·simp only [G'] at hb
   split at hb
   ·rename_i hc
    obtain ⟨rfl,hlt⟩:=hc
    exact ⟨z.cells[o],by rw [World.cell?_alloc_new];exact Array.getElem?_eq_getElem hlt⟩
   rw [hcell b o hb]
   exact h.tags.ex b o hb
  ·simp only [G'] at hb
   split at hb
   ·cases hb
   rw [World.frozen?_alloc_old]
   ·exact h.tags.obj b o i hb
   show b≠w.heap.size
   rintro rfl
   rw [hfree] at hb;cases hb
  simp only [G'] at hb
  split at hb
  ·rename_i hc
   obtain ⟨rfl,hlt⟩:=hc
   exact World.frozen?_alloc_new _ _ _ _
  rw [World.frozen?_alloc_old]
  ·exact h.tags.tail b o L hb
  show b≠w.heap.size
  rintro rfl
  rw [hfree] at hb;cases hb
 have hrun:(execOp a.eval (⟨some s,.alloc t,ty,pos,aft,gd⟩:Oper)).run P w=.ok (.value (.pointer (some ⟨w.heap.size,0,none⟩))) (w.alloc (.cells z.cells t)):=by
  simp [execOp,Instr.alloc,hz,newVar,newRow]
 refine Bq (by intro c h;cases h) hrun ⟨G',_,h1.put (s:=s) (y:=.cellp z.cells.size) hs ?_,T.keep d,rfl,rfl,rfl,rfl⟩
 exact .cellp _ _ _ ⟨_,rfl,fun o ho=>by simp [G',ho]⟩

/-- It is laid: from now on nobody writes it. -/
theorem AOp.storeP {t:TypeId} {x:Operand} {r k:Nat} {y:AV} (hsz:∀w,(sizeOf t).run P w=.ok k w) (hf:st.fr r=.cellp k) (hx:st.ev x=y) (hk:y.cells.length=k) (hk0:0<k) (h1:y.cells.all AV.one=true):
  AOp P d ⟨none,.store t (.tmp r) x,ty,pos,aft,gd⟩ st (·=st.set r (.ro y.cells)):=by
 intro G a w h Q'
 have hone:∀c∈y.cells,c.one=true:=fun c hc=>List.all_eq_true.1 h1 c hc
 obtain ⟨hc,hcc⟩:=(hx ▸ h.eval x).cells hone
 have hsl:=h.slots r
 rw [hf] at hsl
 generalize hv:a.tmps.getD r undef=v at hsl
 cases hsl with
 | cellp l k b ho =>
  obtain ⟨L,hL,ht⟩:=ho
  injection hL with hL
  subst hL
  let us:=(a.eval x).cells.toList
  have hul:us.length=k:=by simp only [us,Array.length_toList];omega
  have huone:∀u∈us,u.oneCell'=true:=fun u hu=>by
   obtain ⟨j,hj⟩:=List.getElem?_of_mem hu
   have hj':(a.eval x).cells[j]? = some u:=by rw [←Array.getElem?_toList];exact hj
   have hlt:j<y.cells.length:=by rw [←hc];exact (Array.getElem?_eq_some_iff.1 hj').1
   exact (hcc j _ u (List.getElem?_eq_getElem hlt) hj').one (hone _ (List.getElem_mem hlt))
  have hrun0:=run_storeCells_cells (P:=P) b 0 us 0 w (fun j hj=>by
    obtain ⟨u,hu⟩:=h.tags.ex b j (by rw [ht j (by omega)];simp)
    simp only [Nat.add_zero,Nat.zero_add];rw [hu];rfl) (fun j hj=>by simpa using h.tags.tail _ _ _ (ht j (by omega))) huone
  simp only [Nat.add_zero] at hrun0
  let W:=w.setCells b 0 us
  let G':Gh:={ G with tag:=fun b' o=>if b'=b∧o<k then .fix else G.tag b' o }
  have htag:∀b' o,G.tag b' o≠.tail (.slot d r)→G'.tag b' o=G.tag b' o:=fun b' o hb=>by
   simp only [G']
   rw [if_neg]
   rintro ⟨rfl,ho⟩
   exact hb (ht o ho)
  have hout:∀b' o,¬(b'=b∧o<k)→W.cell? ⟨b',o,none⟩=w.cell? ⟨b',o,none⟩:=fun b' o hn =>
   World.cell?_setCells_out _ us 0 w ⟨b',o,none⟩ (fun hb _=>by
    simp only at hb ⊢
    exact .inr (Nat.le_of_not_lt fun h''=>hn ⟨hb,by omega⟩))
  have hcell:∀b' o,G.tag b' o≠.tail (.slot d r)→W.cell? ⟨b',o,none⟩=w.cell? ⟨b',o,none⟩:=fun b' o hb=>hout b' o (fun hn=>hb (by rw [hn.1];exact ht o hn.2))
  have hnb:∀i,i<G.n→G.blk i≠b:=Ix h.heap h.tags (ht 0 hk0)
  have hheap:∀b',b'≠b→W.heap[b']? = w.heap[b']? := fun b' hb=>C7 _ _ _ _ _ hb
  have hsize:W.heap.size=w.heap.size:=C6 _ _ _ _
  have hstill:Still G w G' W:=Still.tags (fun b' hb'=>hheap b' (fun e=>Gc (ht 0 hk0) (e ▸ hb'))) (Nat.le_of_eq hsize.symm) (fun b' o _=>by
   by_cases hc:b'=b∧o<k
   ·exact .inr ⟨_,by rw [hc.1];exact ht o hc.2⟩
   exact .inl (by simp only [G'];rw [if_neg hc])) (fun i hi=>.inl ⟨hi,rfl⟩)
  have hfix:∀b' o,G.tag b' o=.fix→G'.tag b' o=.fix∧W.cell? ⟨b',o,none⟩=w.cell? ⟨b',o,none⟩:=fun b' o hb=>⟨by rw [htag b' o (by rw [hb];simp)];exact hb,hcell b' o (by rw [hb];simp)⟩
  have htail:∀b' o L,L≠.slot d r→G.tag b' o=.tail L→G'.tag b' o=.tail L:=fun b' o L hL hb=>by
   rw [htag b' o (by rw [hb];intro e;injection e with e;exact hL e)];exact hb
  have hobj:∀b' o i,G.tag b' o=.obj i→G'.tag b' o=.obj i:=fun b' o i hb=>by rw [htag b' o (by rw [hb];simp)];exact hb
  have hrep:∀{l:Option Loc} {z:AV} {u:Value},l≠some (.slot d r)→Rep G w l z u→Rep G' W l z u:=fun hl hz =>
   hz.mono (G':=G') hfix (Nat.le_refl _) (fun _ _=>rfl) (fun L hL b' o ht'=>htail b' o L (fun e=>hl (by rw [hL,e])) ht')
  have hkeep:Keep d G w G' W:=⟨hfix,fun b' o e s he ht'=>htail b' o _ (by rintro ⟨⟩;omega) ht',Nat.le_refl _,fun _ _=>rfl,E6 _ _ _ _,Db _ _ _ _,Co _ _ _ _,Nat.le_of_eq hsize.symm,hstill⟩
  have hvec:∀j u,us[j]? = some u→W.cell? ⟨b,j,none⟩=some u:=fun j u hu=>by
   have hj:=(List.getElem?_eq_some_iff.1 hu).1
   have hex:∃u',w.cell? ⟨b,j,none⟩=some u':=h.tags.ex b j (by rw [ht j (by omega)];simp)
   obtain ⟨u',hu'⟩:=hex
   have hbk:∃vs e fz,w.heap[b]? = some (.cells vs e fz):=by
    simp only [World.cell?] at hu'
    split at hu'
    ·rename_i vs e fz hb;exact ⟨vs,e,fz,hb⟩
    cases hu'
   obtain ⟨vs,e,fz,hbk⟩:=hbk
   have hlen:0+us.length≤vs.size:=by
    rw [hul,Nat.zero_add]
    rcases Nat.lt_or_ge vs.size k with h'|h'
    ·exfalso
     obtain ⟨u2,hu2⟩:=h.tags.ex b vs.size (by rw [ht _ h'];simp)
     simp [World.cell?,hbk] at hu2
    exact h'
   obtain ⟨vs',b1,b2,b3⟩:=H5 b e fz us 0 w vs hbk hlen
   have b3':=b3 j
   rw [if_pos (by omega)] at b3'
   show (w.setCells b 0 us).cell? ⟨b,j,none⟩=some u
   simp only [World.cell?,b1]
   rw [b3',Nat.sub_zero]
   exact hu
  have hst:StRel d G' (st.set r (.ro y.cells)) a W:=by
   refine ⟨h.size,fun s=>?_,⟨fun i z hz=>?_,h.heap.n,h.heap.inj⟩,h.defs,h.defsAt,h.defsNodup,h.defsGe,⟨fun b' o hb=>?_,fun b' o i hb=>?_,fun b' o L hb=>?_,h.tags.globKeep hstill⟩,h.rnd,h.low,h.top⟩
   ·show Rep G' W _ (A3 r (.ro y.cells) st.fr s) _
    unfold A3
    by_cases hs:s=r
    ·subst hs
     rw [if_pos rfl,hv]
     refine .ro _ _ ⟨b,0,none⟩ (fun j=>(a.eval x).cells.getD j undef) rfl hone (fun j c hj=>?_) (fun j c hj=>?_)
     all_goals
      have hlt:j<y.cells.length:=(List.getElem?_eq_some_iff.1 hj).1
      have hu:(a.eval x).cells[j]? = some ((a.eval x).cells[j]'(by omega)):=Array.getElem?_eq_getElem _
      have e1:(a.eval x).cells.getD j undef=(a.eval x).cells[j]'(by omega):=by rw [Array.getD_eq_getD_getElem?,hu];rfl
      rw [e1]
     ·refine ⟨by simp only [G',Nat.zero_add];rw [if_pos ⟨trivial,by omega⟩],?_⟩
      rw [Nat.zero_add]
      exact hvec j _ (by simp only [us];rw [Array.getElem?_toList];exact hu)
     exact hrep (by simp) (hcc j c _ hj hu)
    rw [if_neg hs]
    exact hrep (by simp;exact fun e=>hs e) (h.slots s)
   ·have hob:=h.heap.obj i z hz
    have hi:i<G.n:=by rw [h.heap.n];exact (List.getElem?_eq_some_iff.1 hz).1
    have hb:=hheap (G.blk i) (hnb i hi)
    cases z with
    | cells t cs =>
     obtain ⟨vs,a1,a2,a3,a4⟩:=hob
     exact ⟨vs,hb.trans a1,a2,fun j y u p q=>hrep (by simp) (a3 j y u p q),fun j hj=>hobj _ _ _ (a4 j hj)⟩
    | loop sta pd fr sz ps asg bd df =>
     obtain ⟨fn,tmps,a1,a2,a3,a4⟩:=hob
     exact ⟨fn,tmps,hb.trans a1,a2,fun s=>hrep (by simp) (a3 s),a4⟩
    | defs=>exact hb.trans hob
    | dead=>exact hb.trans hob
    | bld t e bs=>exact BldRel.turn hob rfl (fun b' o ho=>hobj b' o i ho) hb (fun b' ha=>hheap b' (fun e=>by
      have:=ha.tag h.tags (o:=0) (by rw [e,ht 0 hk0];simp)
      rw [e,ht 0 hk0] at this;cases this))
    | gone =>
     obtain ⟨vs,t,fz,a1,a2⟩:=hob
     exact ⟨vs,t,fz,hb.trans a1,fun j hj=>(hfix _ _ (a2 j hj)).1⟩
   ·by_cases hc:b'=b∧o<k
    ·obtain ⟨rfl,ho⟩:=hc
     exact ⟨us[o]'(by omega),hvec o _ (List.getElem?_eq_getElem _)⟩
    rw [hout b' o hc]
    simp only [G',if_neg hc] at hb
    exact h.tags.ex b' o hb
   ·rw [World.frozen?_setCells]
    simp only [G'] at hb
    split at hb
    ·cases hb
    exact h.tags.obj b' o i hb
   rw [World.frozen?_setCells]
   simp only [G'] at hb
   split at hb
   ·cases hb
   exact h.tags.tail b' o L hb
  have hrun:(execOp a.eval (⟨none,.store t (.tmp r) x,ty,pos,aft,gd⟩:Oper)).run P w=.ok .skip W:=
   E7 hsz (show a.eval (.tmp r)=_ from hv) (by omega) hrun0
  exact Ee (by intro c h;cases h) hrun ⟨G',_,hst,hkeep,rfl,rfl,rfl,rfl⟩
end
section
variable {P:Program} {d:Nat} {sz:Nat} {dfs:List Nat} {rnd:Option Nat} {l0:List Oper} {up own:(Nat→Bool)→List AObj} {KP:List PanicEntry→St→Prop} {E:List Oper→(Nat→AV)→Prop} {S:List SegY} {l:List Oper} {fr:Nat→AV} {ty:TypeId} {pos:String} {aft:Array Edge} {s:Nat} {T F:List Nat}
theorem Y.allocP {t:TypeId} {z:Value} {k:Nat} (hz:∀w,(zeroValue t).run P w=.ok z w) (h:ChainY P d l0 sz up own dfs rnd KP E S l (A3 s (.cellp k) fr)) (hk:z.cells.size=k:=by rfl) (hs:Nat.blt s sz=true:=by rfl):
  ChainY P d l0 sz up own dfs rnd KP E (.s [s] none T F::S) (⟨some s,.alloc t,ty,pos,aft,none⟩::l) fr:=by
 refine ⟨_,l,[(s,.cellp k)],rfl,⟨rfl,rfl,fun B f _ _ _ hf=>.of ?_⟩,h⟩
 exact AOp.allocP (st:=⟨sz,f,up B,own B,dfs,rnd⟩) hz hk (by simpa using hs)
theorem Y.storeP {t:TypeId} {x:Operand} {r k:Nat} {y:AV} {ys:List AV} (hsz:∀w,(Go.sizeOf t).run P w=.ok k w) (h:ChainY P d l0 sz up own dfs rnd KP E S l (A3 r (.ro ys) fr))
  (hf:fr r=.cellp k:=by exact sL0) (hx:Ae fr x=y:=by exact sL0) (hc:y.cells=ys:=by exact sL0)
  (hk:ys.length=k:=by rfl) (hk0:0<k:=by decide) (h1:ys.all AV.one=true:=by exact sL2):
  ChainY P d l0 sz up own dfs rnd KP E (.s [r] none T F::S) (⟨none,.store t (.tmp r) x,ty,pos,aft,none⟩::l) fr:=by
 subst hc
 refine ⟨_,l,[(r,.ro y.cells)],rfl,⟨rfl,rfl,fun B f _ _ _ hfr=>.of ?_⟩,h⟩
 have e:f r=fr r:=hfr r (by simp [lk,Tl,Op.operands])
 have ex:Ae f x=y:=by rw [agr hfr (by simp [Op.operands])];exact hx
 exact AOp.storeP (st:=⟨sz,f,up B,own B,dfs,rnd⟩) hsz (e.trans hf) ex hk hk0 h1
end
end Go.SX
