/- On the way (part 10). -/
import Derived.Shelf.Strings.Builder1
import Derived.Lib.ItoaLen
import Derived.Test.YtejjpdbfdmdgpaaGreatDoorImageForthCardSaidPart9
set_option linter.all false
namespace Go.SX.Nb
open Go Go.SX Go.Proofs
variable [ErrAt]
set_option maxRecDepth 4000
theorem c41 (l:List Col) (hl:l.length≤1000000) (Hp:List AObj):AFun Tryz.prog 41 [Ao l] Hp (Ao l):=by
 refine Ag [.tmp 2] [0] Tryz.func41 Tryz.ntmps41 (fun d=>?_)
 refine rx ?_
 refine R.eqlNil jU (by kernel_rfl) (fun b hb=>?_)
 refine A2 [0,4] ?_
 refine A3 (fun ht4=>?_) (fun ht4=>?_)
 ·have hl0:l=[]:=by simpa using hb ht4
  subst hl0
  refine Z2 ?_;refine R.nilTmp 2 2 false ?_;refine Z3 ?_;exact AQ5
 refine Z4 ?_;refine Z85 ?_;refine A4 ?_
 refine Ed jU Tryz.type36 ?_ ?_ ?_
 ·simp [Tryz.t36];omega
 ·simp [Tryz.t36];omega
 refine Lr ?_;exact AQa

theorem AG9 {Hp:List AObj} {y:Col} {n:Nat} (h:∀x∈Hp,ObjLow Hp.length x):∀x∈Hp++[AObj.cells 36 [],AObj.cells 36 (Ae y.name::A5 y.kind::List.replicate n AV.any)],ObjLow (Hp.length+2) x:=by
 intro x hx
 rcases En.1 hx with hx|hx
 ·exact Vi (by omega) (h x hx)
 simp only [Bu,Fi,or_false] at hx
 rcases hx with rfl|rfl
 ·intro z hz;cases hz
 intro z hz
 simp only [Bu] at hz
 rcases hz with rfl|rfl|hz
 ·simp
 ·simp
 rw [List.eq_of_mem_replicate hz];simp
theorem AV3 (y:Col) (Hp:List AObj):ACallO Tryz.prog 41 [Ao [y]] Hp (fun r H'=>∃cc,1≤cc∧r=.sl (oid Hp.length 1) 2 1 cc∧H'=Hp++[.cells 36 [],.cells 36 (Ae y.name::A5 y.kind::List.replicate ((cc-1)*2) AV.any)]):=by
 refine ACallO.body [.tmp 2] [0] Tryz.func41 Tryz.ntmps41 (fun d=>?_)
 refine Z48 ?_;refine Z75 ?_
 refine Pu (fun hlow=>?_)
 refine A4 ?_
 refine R.eqlNil jU (by kernel_rfl) (fun b hb=>?_)
 refine A2 [0,4] ?_
 refine A3 (fun ht4=>?_) (fun ht4=>?_)
 ·exact absurd (hb ht4) (by simp)
 refine rm ?_;refine R.buildObj0 (n:=0) jU Tryz.sizeOf36 ?_;refine A4 ?_
 refine R.appendObj (k:=2) (n:=1) jU Tryz.type36 (show [Bj y]≠[] by simp) ?_ ?_ (fun cc hcc=>?_)
 ·simp [Tryz.t36]
 ·simp
 have e0:Ns [Bj y]++List.replicate ((cc-[Bj y].length)*2) AV.any=Ae y.name::A5 y.kind::List.replicate ((cc-1)*2) AV.any:=rfl
 rw [e0]
 clear e0
 refine A4 ?_;refine Z3 ?_;exact K.finO 2 (A7 (t:=2)) ⟨cc,hcc,rfl,rfl⟩ (hlow:=by simp [oid]) (hobj:=AG9 hlow)

theorem AS9 (c:List Col) (hc:OkCols c) (m:Mov) (h:OkMov m) (h3:(m.kind==3)=false) (Hp:List AObj):AFun Tryz.prog 100 [Ao c,Fv m] Hp (Ao (Ba c m)):=by
 refine Ag [.tmp 4] [0,1] Tryz.func100 Tryz.ntmps100 (fun d=>?_)
 refine ri ?_;refine Z1 ?_;refine A8 Tryz.call41 (c41 m.give h.gives2 _) ?_;refine A4 ?_;refine AHq ?_;refine A2 [0,3,5,12] ?_
 refine A3 (fun ht12=>?_) (fun ht12=>?_)
 ·rw [h3] at ht12;cases ht12
 refine Lq ?_;exact APb

theorem ASa (c:List Col) (hc:OkCols c) (m:Mov) (h:OkMov m) (h3:(m.kind==3)=true) (s:Str) (y:Col) (ht:m.take=[s]) (hg:m.give=[y]) (Hp:List AObj):AFun Tryz.prog 100 [Ao c,Fv m] Hp (Ao (Ba c m)):=by
 have hgv:=xa (c:=c) h3 ht hg
 have hgy:=p8 (c:=c) h3 ht hg
 obtain ⟨kd,tk,gv,ah,bk⟩:=m
 simp only at ht hg h3
 subst ht hg
 refine Ag [.tmp 4] [0,1] Tryz.func100 Tryz.ntmps100 (fun d=>?_)
 refine ri ?_;refine Z1 ?_;refine R.callO Tryz.call41 (AV3 y _) ?_
 rintro _ _ ⟨cc,hcc,rfl,rfl⟩
 refine ⟨[.cells 36 [],.cells 36 (Ae y.name::A5 y.kind::List.replicate ((cc-1)*2) AV.any)],by simp,?_⟩
 simp only [Hs,F6]
 refine A4 ?_;refine AHq ?_;refine A2 [0,3,5,12] ?_
 refine A3 (fun ht12=>?_) (fun ht12=>?_)
 ·refine Z19 ?_
  refine A4 (h:=Ac (0) (Ae s) (fun _=>rfl)) (hr:=?_)
  refine A4 ?_;refine A8 Tryz.call46 (c46 c hc s _) ?_;refine A4 ?_;refine A2 [0,5,6] ?_;refine Z1 ?_;refine A2 [0,5,6,20] ?_
  refine A3 (fun ht20=>?_) (fun ht20=>?_)
  ·have hf:¬Bn s c<0:=by simp at ht20;omega
   obtain ⟨jj,hjj,hjc⟩:=Jl hf
   refine Z23 ?_
   refine A4 (h:=Ac ((Bn s c).toNat) (Bj (c.getD (Bn s c).toNat ⟨[],0⟩)) (fun _=>Y0 hf)) (hr:=?_)
   refine Z0 ?_;refine R.indexAddrSl (n:=1) 0 jU Tryz.sizeOf36 (by decide) ?_
   refine A4 (h:=Q.fieldAddrPtr (hc:=rfl)) (hr:=?_)
   refine Nf (y:=A5 (c.getD (Bn s c).toNat ⟨[],0⟩).kind) (ys:=[A5 (c.getD (Bn s c).toNat ⟨[],0⟩).kind]) (n:=1) (cs:=Ae y.name::A5 y.kind::List.replicate ((cc-1)*2) AV.any) (cs':=Ae y.name::A5 (c.getD (Bn s c).toNat ⟨[],0⟩).kind::List.replicate ((cc-1)*2) AV.any) (t':=36) jS ?_ (hc:=rfl) (hput:=rfl) (hfit:=by simp)
   refine A2 [5] ?_;refine Er ?_;refine Z97 ?_;exact AHj
  have hf:Bn s c<0:=by simp at ht20;omega
  refine Z4 ?_;refine AOg ?_;exact AHj
 rw [h3] at ht12;cases ht12

/-- What a move must have before it is turned. -/
structure MvOk (m:Mov):Prop where
 ok:OkMov m
 ahead:m.ahead.length=m.give.length
 back:m.back.length=m.take.length
 one:(m.kind==3)=true→m.take.length=1∧m.give.length=1
theorem AJv {m:Mov} (h:OkMov m) (hc:G8 m=true):MvOk m:=⟨h,(Gf hc).1,(Gf hc).2,fun h3=>Qa hc (by rw [h3];rfl)⟩
theorem AV4 (c:List Col) (hc:OkCols c) (m:Mov) (h:MvOk m) (Hp:List AObj):AFun Tryz.prog 100 [Ao c,Fv m] Hp (Ao (Ba c m)):=by
 cases h3:m.kind==3 with
 | false=>exact AS9 c hc m h.ok h3 Hp
 | true =>
  obtain ⟨h1,h2⟩:=h.one h3
  obtain ⟨s,hs⟩:=ke h1
  obtain ⟨y,hy⟩:=ke h2
  exact ASa c hc m h.ok h3 s y hs hy Hp
theorem c48 (c:List Col) (hc:OkCols c) (m:Mov) (h:MvOk m) (Hp:List AObj):AFun Tryz.prog 48 [Ao c,Fv m] Hp (Ao (Ba c m)):=by
 cases h3:m.kind==3 with
 | false=>exact AV1 c hc m h.ok h3 Hp
 | true =>
  obtain ⟨h1,h2⟩:=h.one h3
  obtain ⟨s,hs⟩:=ke h1
  obtain ⟨y,hy⟩:=ke h2
  exact AV2 c hc m h.ok h3 s y hs hy Hp
theorem bi {c:List Col} {m:Mov} (h:OkMov m):OkCols (Ba c m):=by
 refine ⟨by rw [J9];exact Ir h.gives2 (by decide),fun y hy=>?_⟩
 unfold Ba at hy
 split at hy
 ·split at hy
  ·exact h.gives.2 y hy
  cases hg:m.give with
  | nil=>rw [hg] at hy;cases hy
  | cons z r =>
   rw [hg] at hy
   rcases Bu.1 hy with rfl|hy
   ·exact h.gives.2 z (by rw [hg];exact Lj)
   exact h.gives.2 y (by rw [hg];exact Qk _ hy)
 exact h.gives.2 y hy
theorem bj {c give:List Col} {take:List Str} (hc:OkCols c) (hg:OkCols give) (hg2:give.length≤1000000):OkCols (D4 c take give).1:=by
 have h0:OkCols ([]:List Col):=⟨by decide,fun y hy=>by cases hy⟩
 unfold D4
 split
 ·exact h0
 rename_i hr
 split
 ·exact h0
 split
 ·exact h0
 split
 ·exact h0
 split
 ·exact h0
 exact u9 hc (by simpa using hr) hg hg2 rfl
theorem bn {c give:List Col} {take:List Str} (h:((D4 c take give).2 != 0)=false):∀s∈take,¬Bn s c<0:=by
 have ht:Gz c take=true:=by
  unfold D4 at h
  split at h
  ·cases h
  split at h
  ·cases h
  rename_i ht
  simpa using ht
 intro s hs hf
 obtain ⟨j,hj⟩:=Cf hs
 have:=takenM_true.1 ht j s hj
 unfold I8 at this
 rw [show decide (Bn s c<0)=true by simpa using hf] at this
 simp at this
theorem W6 {over:List Col} {l:List Expr} {w:List Col} {x:Nat} (hl:x<l.length) (hw:x<w.length):
  Ct over (l.drop x) (w.drop x)=if O1 l[x] over w[x].kind != 0 then O1 l[x] over w[x].kind else Ct over (l.drop (x+1)) (w.drop (x+1)):=by
 rw [Hd hl,Hd hw]
 rfl
theorem bo {over:List Col} {l:List Expr} {w:List Col} {x:Nat} (hl:l.length≤x):Ct over (l.drop x) (w.drop x)=0:=by
 rw [List.drop_eq_nil_of_le hl]
 cases w.drop x<;>rfl
theorem Kd {α β:Type} {f:α→β} {l:List α} {x:Nat} (h:x<l.length):(l.take (x+1)).map f=(l.take x).map f++[f l[x]]:=by
 rw [Ip h,C5];rfl
theorem kg {c:List Col} {m:Mov} (h:((D4 c m.take (Ba c m)).2 != 0)=true):Bc c m=([],(D4 c m.take (Ba c m)).2):=if_pos h
theorem ki {c:List Col} {m:Mov} (h:((D4 c m.take (Ba c m)).2 != 0)=false) (h2:(Ct c m.ahead (Ba c m) != 0)=true):Bc c m=([],Ct c m.ahead (Ba c m)):=by
 unfold Bc;rw [if_neg (by rw [h];simp),if_pos h2]
theorem kj {c:List Col} {m:Mov} (h:((D4 c m.take (Ba c m)).2 != 0)=false) (h2:(Ct c m.ahead (Ba c m) != 0)=false) (h3:(Ct (D4 c m.take (Ba c m)).1 m.back (Ge c m) != 0)=true):Bc c m=([],Ct (D4 c m.take (Ba c m)).1 m.back (Ge c m)):=by
 unfold Bc;rw [if_neg (by rw [h];simp),if_neg (by rw [h2];simp),if_pos h3]
theorem km {c:List Col} {m:Mov} (h:((D4 c m.take (Ba c m)).2 != 0)=false) (h2:(Ct c m.ahead (Ba c m) != 0)=false) (h3:(Ct (D4 c m.take (Ba c m)).1 m.back (Ge c m) != 0)=false):Bc c m=((D4 c m.take (Ba c m)).1,0):=by
 unfold Bc;rw [if_neg (by rw [h];simp),if_neg (by rw [h2];simp),if_neg (by rw [h3];simp)]
theorem ASb (l:List Expr) (h:OkEs l) (w:List Col) (hw:w.length=l.length) (c:List Col) (hc:OkCols c) (Hp:List AObj):AFun Tryz.prog 102 [L8 l,Ao w,Ao c] Hp (A5 (Ct c l w)):=by
 refine Ag [.tmp 6] [0,1,2] Tryz.func102 Tryz.ntmps102 (fun d=>?_)
 refine ADc ?_;refine Z33 ?_;refine A2 [1,2,11,12,13] ?_
 refine Az (α:=Nat) (fun x=>⟨37,A6 1 (Ao w) (A6 2 (Ao c) (A6 11 (L8 l) (A6 12 (A5 (l.length:Nat)) (A6 13 (A5 (x:Nat)) (fun _=>.any))))),Hp,[],[],none⟩) (fun x=>x≤l.length∧Ct c l w=Ct c (l.drop x) (w.drop x)) (fun x=>l.length-x) (0) ⟨An _,rfl⟩ (B5 (by simp)) rfl (fun x hx=>?_)
 refine Z2 ?_;refine A2 [1,2,11,12,13,14] ?_
 refine Ei (fun ht14=>?_) (fun ht14=>?_)
 ·have hlt:x<l.length:=by simpa using ht14
  have hlw:x<w.length:=by omega
  have hlen:=h.len
  have hst:=W6 (over:=c) hlt hlw
  refine Ts ?_
  refine A4 (h:=Ac (x) (Ab l[x]) (fun _=>Aw hlt)) (hr:=?_)
  refine rn ?_;refine A2 [1,2,7,8,11,12,13] ?_;refine Z8 ?_;refine A8 Tryz.call141 (AS2 61 l[x] (h.ok _ (Av hlt)) (by decide) c hc _) ?_;refine Z59 ?_;refine A2 [1,2,7,8,10,11,12,13] ?_;refine Z1 ?_;refine A2 [1,2,7,8,10,11,12,13,25] ?_
  refine A3 (fun ht25=>?_) (fun ht25=>?_)
  ·have he:O1 l[x] c w[x].kind=(Et l[x] c).2:=if_pos ht25
   have hm:Ct c l w=(Et l[x] c).2:=by rw [hx.2,hst,he,if_pos ht25]
   refine Z1 ?_;refine j4 ?_;exact rf
  refine Z4 ?_;refine Cb [0,0,0,0,12,28,60,127,255] 7 Ai (by kernel_rfl) ?_;refine Tr ?_
  refine Ak (h:=Ac (x) (Bj w[x]) (fun _=>Aw hlw)) (hr:=?_)
  refine Z89 ?_;refine A8 Tryz.call142 (AUz 61 l[x] (h.ok _ (Av hlt)) (by decide) c hc w[x].kind _) ?_;refine A4 ?_;refine A2 [1,2,11,12,13,35] ?_
  refine A3 (fun ht35=>?_) (fun ht35=>?_)
  ·have he:O1 l[x] c w[x].kind=10:=by unfold O1;rw [if_neg (by rw [ht25];simp),if_pos ht35]
   have hm:Ct c l w=10:=by rw [hx.2,hst,he];rfl
   refine Z2 ?_;refine A2 [6] ?_;exact AHg
  have he:O1 l[x] c w[x].kind=0:=by unfold O1;rw [if_neg (by rw [ht25];simp),if_neg (by rw [ht35];simp)]
  have hnx:Ct c l w=Ct c (l.drop (x+1)) (w.drop (x+1)):=by rw [hx.2,hst,he];rfl
  refine Nm ?_;refine A2 [1,2,11,12,13] ?_;refine Ay (x+1) ⟨hlt,hnx⟩ (by omega) ?_
  exact Dp (own:=[]) (fun _=>.refl _) (by repeat (first|exact Bq|refine Bp (by first|(simp [or_imp,forall_and];done)|exact Fx) ?_)) (by simp) (by simp)
 have hxe:l.length≤x:=by simpa using ht14
 have hm:Ct c l w=0:=by rw [hx.2,bo hxe]
 refine Tt ?_;exact AQ0

theorem AV5 (c:List Col) (hc:OkCols c) (m:Mov) (h:OkMov m) (hf:∀s∈m.take,¬Bn s c<0) (Hp:List AObj):AFun Tryz.prog 103 [Ao c,Fv m] Hp (Ao (Ge c m)):=by
 refine Ag [.tmp 4] [0,1] Tryz.func103 Tryz.ntmps103 (fun d=>?_)
 refine ri ?_;refine Z2 ?_;refine A2 [0,3,5] ?_;refine Z75 ?_;refine Sa 5 2 ?_;refine Z72 ?_;refine A2 [0,5,9,10,11] ?_
 refine Az (α:=Nat) (fun x=>⟨26,A6 0 (Ao c) (A6 5 (.slice true 2 (((m.take.take x).map fun s=>c.getD (Bn s c).toNat ⟨[],0⟩).map Bj)) (A6 9 (Gi m.take) (A6 10 (A5 (m.take.length:Nat)) (A6 11 (A5 (x:Nat)) (fun _=>.any))))),Hp,[],[],none⟩) (fun x=>x≤m.take.length) (fun x=>m.take.length-x) (0) (An _) (B5 (by simp)) rfl (fun x hx=>?_)
 refine Z2 ?_;refine A2 [0,5,9,10,11,12] ?_
 refine Ei (fun ht12=>?_) (fun ht12=>?_)
 ·have hlt:x<m.take.length:=by simpa using ht12
  have htk:=h.takes
  have hfx:=hf _ (Av hlt)
  obtain ⟨jj,hjj,hjc⟩:=Jl hfx
  refine X9 ?_
  refine A4 (h:=Ac (x) (Ae m.take[x]) (fun _=>Aw hlt)) (hr:=?_)
  refine Z0 ?_;refine A2 [0,5,7,9,10,11] ?_;refine Z92 ?_;refine Z10 ?_;refine A8 Tryz.call46 (c46 c hc m.take[x] _) ?_
  refine A4 (h:=Ac ((Bn m.take[x] c).toNat) (Bj (c.getD (Bn m.take[x] c).toNat ⟨[],0⟩)) (fun _=>Y0 hfx)) (hr:=?_)
  refine Z53 ?_
  refine Ed jU Tryz.type36 ?_ ?_ ?_
  ·simp only [Am,Bx,B6,Bw,Tryz.t36];omega
  ·simp only [Am,Bx,B6,Bw,Tryz.t36];omega
  refine Lr ?_;refine A2 [0,5,9,10,11] ?_;refine j6 ?_;refine A2 [0,5,9,10,11] ?_
  refine Ay (x+1) hlt (by omega) (Bh ?_)
  rw [Kd hlt,C5]
  rfl
 have hxe:m.take.length≤x:=by simpa using ht12
 refine Z26 ?_;refine Z1 ?_;refine Z39 ?_;exact A9 (Ah A7) ⟨by unfold Ge;rw [D8 hxe]<;>rfl,rfl⟩ (hlow:=Di)

theorem c71 (c:List Col) (hc:OkCols c) (m:Mov) (h:MvOk m) (Hp:List AObj):AFun Tryz.prog 71 [Ao c,Fv m] Hp (.tup [Ao (Bc c m).1,A5 (Bc c m).2]):=by
 refine Ag [.tmp 4,.tmp 5] [0,1] Tryz.func71 Tryz.ntmps71 (fun d=>?_)
 refine Z19 ?_;refine Oi ?_;refine Z1 ?_;refine A8 Tryz.call100 (AV4 c hc m h _) ?_;refine A4 ?_;refine A2 [0,3,6] ?_;refine Eb ?_
 have hg:=bi (c:=c) h.ok
 have hg2:(Ba c m).length≤1000000:=by rw [J9];exact h.ok.gives2
 refine Z72 ?_;refine A8 Tryz.call101 (AUy c hc m.take h.ok.takes (Ba c m) hg hg2 _) ?_;refine Z59 ?_;refine A2 [0,3,6,7,8] ?_;refine Z8 ?_;refine A2 [0,3,6,7,8,23] ?_
 refine A3 (fun ht23=>?_) (fun ht23=>?_)
 ·have hm:=kg ht23
  exact AHn
 refine Z4 ?_;refine Z54 ?_;refine A8 Tryz.call102 (ASb m.ahead h.ok.ahead (Ba c m) (by rw [J9,h.ahead]) c hc _) ?_;refine A4 ?_;refine A2 [0,3,7,9] ?_;refine Z1 ?_;refine A2 [0,3,7,9,31] ?_
 refine A3 (fun ht31=>?_) (fun ht31=>?_)
 ·have hm:=ki ht23 ht31
  exact AHn
 refine Z4 ?_;refine Mh ?_;refine Cb [0,1,0,0,12,0,63,127] 6 Ai (by kernel_rfl) ?_;refine Tr ?_;refine Dd Tryz.call103 (AV5 c hc m h.ok (bn ht23) _) ?_;refine Sd ?_;refine A8 Tryz.call102 (ASb m.back h.ok.back (Ge c m) (by rw [Ge,Am,h.back]) (D4 c m.take (Ba c m)).1 (bj hc hg hg2) _) ?_;refine A4 ?_;refine A2 [7,10] ?_;refine Z1 ?_;refine A2 [7,10,41] ?_
 refine A3 (fun ht41=>?_) (fun ht41=>?_)
 ·have hm:=kj ht23 ht31 ht41
  exact AHn
 have hm:=km ht23 ht31 ht41
 refine No ?_;exact APh

theorem c29 (c:List Col) (hc:OkCols c) (m:Mov) (h:MvOk m) (Hp:List AObj):AFun Tryz.prog 29 [Ao c,Fv m] Hp (.tup [Ao (Bc c m).1,A5 (Bc c m).2]):=by
 refine Ag [.tmp 4,.tmp 5] [0,1] Tryz.func29 Tryz.ntmps29 (fun d=>?_)
 refine Z19 ?_;refine Oi ?_;refine Z1 ?_;refine A8 Tryz.call48 (c48 c hc m h _) ?_;refine A4 ?_;refine A2 [0,3,6] ?_;refine Eb ?_
 have hg:=bi (c:=c) h.ok
 have hg2:(Ba c m).length≤1000000:=by rw [J9];exact h.ok.gives2
 have hgl:=J9 c m
 have hah:=h.ahead
 have hbk:=h.back
 have htk:=h.ok.takes
 refine Z72 ?_;refine A8 Tryz.call49 (c49 c hc m.take h.ok.takes (Ba c m) hg hg2 _) ?_;refine Z59 ?_;refine A2 [0,3,6,7,8] ?_;refine Z8 ?_;refine A2 [0,3,6,7,8,25] ?_
 refine A3 (fun ht25=>?_) (fun ht25=>?_)
 ·have hm:=kg ht25
  exact AHn
 have hfd:=bn ht25
 refine Se ?_;refine A2 [0,3,6,7,9] ?_
 refine Az (α:=Nat) (fun x=>⟨77,A6 0 (Ao c) (A6 3 (.ro (Nj m)) (A6 6 (Ao (Ba c m)) (A6 7 (Ao (D4 c m.take (Ba c m)).1) (A6 9 (A5 (x:Nat)) (fun _=>.any))))),Hp,[],[],none⟩) (fun x=>x≤(Ba c m).length∧Ct c m.ahead (Ba c m)=Ct c (m.ahead.drop x) ((Ba c m).drop x)) (fun x=>(Ba c m).length-x) (0) ⟨An _,rfl⟩ (B5 (by simp)) rfl (fun x hx=>?_)
 refine Z54 ?_;refine A2 [0,3,6,7,9,30] ?_
 refine A3 (fun ht30=>?_) (fun ht30=>?_)
 ·have hlt:x<(Ba c m).length:=by simpa using ht30
  have hla:x<m.ahead.length:=by omega
  have hst:=W6 (over:=c) hla hlt
  refine Z42 ?_;refine Cb [0,1,0,7,15,0,0,96,224,480,0,2047,4095] 11 Ai (by kernel_rfl) ?_;refine Z40 ?_
  refine Ak (h:=Ac (x) (Ab m.ahead[x]) (fun _=>Aw hla)) (hr:=?_)
  refine Z40 ?_
  refine Ak (h:=Ac (x) (Bj (Ba c m)[x]) (fun _=>Aw hlt)) (hr:=?_)
  refine z8 ?_;refine A8 Tryz.call50 (c50 61 m.ahead[x] (h.ok.ahead.ok _ (Av hla)) (by decide) (h.ok.ahead.size _ (Av hla)) (Ba c m)[x].kind c hc _) ?_;refine A4 ?_;refine A2 [0,3,6,7,9,10] ?_;refine Z1 ?_;refine A2 [0,3,6,7,9,10,46] ?_
  refine A3 (fun ht46=>?_) (fun ht46=>?_)
  ·have hf1:Ct c m.ahead (Ba c m)=O1 m.ahead[x] c (Ba c m)[x].kind:=by rw [hx.2,hst,if_pos ht46]
   have hm:=ki ht25 (by rw [hf1];exact ht46)
   rw [hf1] at hm
   refine Z1 ?_;refine ALx ?_;refine Z76 ?_;exact AP4
  have hnx:Ct c m.ahead (Ba c m)=Ct c (m.ahead.drop (x+1)) ((Ba c m).drop (x+1)):=by rw [hx.2,hst,if_neg (by rw [ht46];simp)]
  refine Z70 ?_;refine A2 [0,3,6,7,9] ?_;exact Ay (x+1) ⟨hlt,hnx⟩ (by omega) (Bh rfl)
 have hxe:(Ba c m).length≤x:=by simpa using ht30
 have hf1:Ct c m.ahead (Ba c m)=0:=by rw [hx.2,bo (by omega)]
 refine Z44 ?_;refine Z29 ?_;refine A2 [0,3,7,11] ?_
 refine Az (α:=Nat) (fun k=>⟨77,A6 0 (Ao c) (A6 3 (.ro (Nj m)) (A6 7 (Ao (D4 c m.take (Ba c m)).1) (A6 11 (A5 (k:Nat)) (fun _=>.any)))),Hp,[],[],none⟩) (fun k=>k≤m.take.length∧Ct (D4 c m.take (Ba c m)).1 m.back (Ge c m)=Ct (D4 c m.take (Ba c m)).1 (m.back.drop k) ((Ge c m).drop k)) (fun k=>m.take.length-k) (0) ⟨An _,rfl⟩ (B5 (by simp)) rfl (fun k hk=>?_)
 refine Oh ?_;refine A2 [0,3,7,11,52] ?_
 refine A3 (fun ht52=>?_) (fun ht52=>?_)
 ·have hkt:k<m.take.length:=by simpa using ht52
  have hkb:k<m.back.length:=by omega
  have hfx:=hfd _ (Av hkt)
  obtain ⟨jj,hjj,hjc⟩:=Jl hfx
  have hkc:k<(Ge c m).length:=by rw [Ge,Am];exact hkt
  have htc:(Ge c m)[k]=c.getD (Bn m.take[k] c).toNat ⟨[],0⟩:=by simp only [Ge,Li]
  have hst:=W6 (over:=(D4 c m.take (Ba c m)).1) hkb hkc
  rw [htc] at hst
  refine Z42 ?_;refine Cb [0,1,0,7,15,0,0,0,128,0,896,1920,4032,8160,16352,32736,0,131071,262143] 17 Ai (by kernel_rfl) ?_;refine Z40 ?_
  refine Ak (h:=Ac (k) (Ab m.back[k]) (fun _=>Aw hkb)) (hr:=?_)
  refine Tr ?_;refine Z12 ?_
  refine Ak (h:=Ac (k) (Ae m.take[k]) (fun _=>Aw hkt)) (hr:=?_)
  refine Ak ?_;refine Dd Tryz.call33 (c33 c hc m.take[k] _) ?_
  refine Ak (h:=Ac ((Bn m.take[k] c).toNat) (Bj (c.getD (Bn m.take[k] c).toNat ⟨[],0⟩)) (fun _=>Y0 hfx)) (hr:=?_)
  refine z8 ?_;refine A8 Tryz.call50 (c50 61 m.back[k] (h.ok.back.ok _ (Av hkb)) (by decide) (h.ok.back.size _ (Av hkb)) (c.getD (Bn m.take[k] c).toNat ⟨[],0⟩).kind (D4 c m.take (Ba c m)).1 (bj hc hg hg2) _) ?_;refine A4 ?_;refine A2 [0,3,7,11,12] ?_;refine Z1 ?_;refine A2 [0,3,7,11,12,74] ?_
  refine A3 (fun ht74=>?_) (fun ht74=>?_)
  ·have hf2:=hk.2.trans hst
   rw [if_pos ht74] at hf2
   have hm:=kj ht25 (by rw [hf1];rfl) (by rw [hf2];exact ht74)
   rw [hf2] at hm
   refine Z1 ?_;refine ALx ?_;refine Z76 ?_;exact AP4
  have hnx:=hk.2.trans hst
  rw [if_neg (by rw [ht74];simp)] at hnx
  refine Z70 ?_;refine A2 [0,3,7,11] ?_;exact Ay (k+1) ⟨hkt,hnx⟩ (by omega) (Bh rfl)
 have hke:m.take.length≤k:=by simpa using ht52
 have hm:=km ht25 (by rw [hf1];rfl) (by rw [hk.2,bo (by omega)];rfl)
 refine Z44 ?_;refine Z19 ?_;exact APh

def Uf {α:Type} (p:α→Bool) (l:List α):Int:=if l.any p then (l.findIdx p:Int) else -1
theorem AGa {α:Type} {p:α→Bool} {l:List α} {i:Nat} (h:i<l.length) (hn:p l[i]=true) (hp:∀(j:Nat) (y:α),j<i→l[j]? = some y→p y=false):(i:Int)=Uf p l:=by
 unfold Uf
 rw [if_pos (Jw.2 ⟨_,Av h,hn⟩)]
 congr 1
 refine (List.findIdx_eq h |>.2 ⟨hn,fun j hj=>?_⟩).symm
 exact hp j (l[j]'(by omega)) hj (Aa (by omega))
theorem uo {α:Type} {p:α→Bool} {l:List α} (h:l.any p=false):(-1:Int)=Uf p l:=by
 unfold Uf
 rw [if_neg (by rw [h];simp)]
theorem ABa {α:Type} (p:α→Bool) (l:List α):decide (0≤Uf p l)=l.any p:=by
 unfold Uf
 cases l.any p<;>simp
def Qb (s:Str):Bool := !(Df s)
def Nk (e:Expr):Bool := !(Bk e)
theorem pe {m:Mov} (h:(((m.ahead.length:Int) != (m.give.length:Int)) || ((m.back.length:Int) != (m.take.length:Int)))=true):G8 m=false:=if_pos h
theorem pg {m:Mov} (h:(((m.ahead.length:Int) != (m.give.length:Int)) || ((m.back.length:Int) != (m.take.length:Int)))=false):G8 m=if m.kind==1 then ((m.take.length:Int)==0)&&((m.give.length:Int)==1)
 else if m.kind==2 then ((m.take.length:Int)==1)&&((m.give.length:Int)==0)
 else if (m.kind==3) || (m.kind==6) then ((m.take.length:Int)==1)&&((m.give.length:Int)==1)
 else if m.kind==4 then ((m.take.length:Int)==1)&&decide ((1:Int)<(m.give.length:Int))
 else if m.kind==5 then decide ((1:Int)<(m.take.length:Int))&&((m.give.length:Int)==1)
 else false:=if_neg (by rw [h];simp)
theorem AV6 (m:Mov) (Hp:List AObj):AFun Tryz.prog 131 [Fv m] Hp (B3 (G8 m)):=by
 refine Ag [.tmp 2] [0] Tryz.func131 Tryz.ntmps131 (fun d=>?_)
 refine Pv ?_;refine Cb [0,1,3,0,8,24,7,127] 7 Ai (by kernel_rfl) ?_;refine Tr ?_;refine z8 ?_;refine A4 ?_;refine jb ?_;refine Z75 ?_
 simp only [Am]
 refine Z72 ?_;refine Z38 ?_;refine Yt ?_;refine A2 [1,3,4,22] ?_
 refine A3 (fun ht22=>?_) (fun ht22=>?_)
 ·simp only [Am] at ht22
  have hm:=pe ht22
  exact ADd
 simp only [Am] at ht22
 have hn:=pg ht22
 refine Sg ?_;refine A2 [3,4,24] ?_;refine Z99 ?_;refine A2 [3,4,24,25] ?_
 refine A3 (fun ht25=>?_) (fun ht25=>?_)
 ·refine m8 ?_;refine Z6 ?_;exact A9 (Ah A7) ⟨by rw [hn];first|(simp only [ht22,ht25,hk3,hk6,Da,C8,Fp,Ky,if_true,if_false,Af,↓reduceIte]<;>rfl)|(simp only [ht22,ht25,hk3,Da,C8,Fp,if_true,if_false,Af,↓reduceIte]<;>rfl)|(simp only [ht22,ht25,if_true,if_false,Af,↓reduceIte]<;>rfl),rfl⟩
 refine Z1 ?_;refine A2 [3,4,24,33] ?_
 refine A3 (fun ht33=>?_) (fun ht33=>?_)
 ·refine m8 ?_;refine Z6 ?_;exact A9 (Ah A7) ⟨by rw [hn];first|(simp only [ht22,ht25,ht33,hk3,hk6,Da,C8,Fp,Ky,if_true,if_false,Af,↓reduceIte]<;>rfl)|(simp only [ht22,ht25,ht33,hk3,Da,C8,Fp,if_true,if_false,Af,↓reduceIte]<;>rfl)|(simp only [ht22,ht25,ht33,if_true,if_false,Af,↓reduceIte]<;>rfl),rfl⟩
 refine Z8 ?_;refine A2 [3,4,24,41] ?_
 refine A3 (fun ht41=>?_) (fun ht41=>?_)
 ·have hk3:=ht41
  refine Z4 ?_
  refine A3 (fun ht41=>?_) (fun ht41=>?_)
  ·refine m8 ?_;exact Z66
  rw [hk3] at ht41;cases ht41
 have hk3:=ht41
 refine Z31 ?_;refine A2 [3,4,24,41] ?_;refine Er ?_
 refine A3 (fun ht41=>?_) (fun ht41=>?_)
 ·have hk6:=ht41
  refine m8 ?_;exact Z66
 have hk6:=ht41
 refine Z1 ?_;refine A2 [3,4,24,50] ?_
 refine A3 (fun ht50=>?_) (fun ht50=>?_)
 ·refine m8 ?_;refine Z6 ?_;exact A9 (Ah A7) ⟨by rw [hn];first|(simp only [ht22,ht25,ht33,ht41,ht41,ht50,hk3,hk6,Da,C8,Fp,Ky,if_true,if_false,Af,↓reduceIte]<;>rfl)|(simp only [ht22,ht25,ht33,ht41,ht41,ht50,hk3,Da,C8,Fp,if_true,if_false,Af,↓reduceIte]<;>rfl)|(simp only [ht22,ht25,ht33,ht41,ht41,ht50,if_true,if_false,Af,↓reduceIte]<;>rfl),rfl⟩
 refine Z1 ?_;refine A2 [3,4,58] ?_
 refine A3 (fun ht58=>?_) (fun ht58=>?_)
 ·refine m8 ?_;refine Z6 ?_;exact AQu
 refine Z17 ?_;refine Z28 ?_;exact AQu

theorem AV7 (s:Str) (hs:s.length≤1048576) (Hp:List AObj):AFun Tryz.prog 134 [Ae s] Hp (B3 (Qb s)):=by
 refine Ag [.tmp 2] [0] Tryz.func134 Tryz.ntmps134 (fun d=>?_)
 refine Z48 ?_;refine Z2 ?_;refine A8 Tryz.call111 (AE8 s hs _) ?_;exact AD5

theorem AV8 (e:Expr) (hok:okE 61 e) (Hp:List AObj):AFun Tryz.prog 132 [Ab e] Hp (B3 (Nk e)):=by
 refine Ag [.tmp 2] [0] Tryz.func132 Tryz.ntmps132 (fun d=>?_)
 refine Pv ?_;refine Z2 ?_;refine A8 Tryz.call59 (c59 61 e hok (by decide) _) ?_;exact AD5

theorem AV9 (l:List Str) (hl:l.length≤1048576) (hn:∀s∈l,s.length≤1048576) (Hp:List AObj):AFun Tryz.prog 164 [Gi l,.fn (.func 134) [] []] Hp (A5 (Uf Qb l)):=by
 refine Ag [.tmp 4] [0,1] Tryz.func164 Tryz.ntmps164 (fun d=>?_)
 refine Z62 ?_;refine ADa ?_
 refine Az (α:=Nat) (fun x=>⟨19,A6 0 (Gi l) (A6 1 (.fn (.func 134) [] []) (A6 7 (A5 l.length) (A6 8 (A5 (x:Nat)) (fun _=>.any)))),Hp,[],[],none⟩) (fun x=>x≤l.length∧∀(j:Nat) y,j<x→l[j]? = some y→Qb y=false) (fun x=>l.length-x) (0) ⟨An _,fun j y h=>by omega⟩ (B5 (by simp)) rfl (fun x hx=>?_)
 refine AD8 ?_
 refine Ei (fun ht9=>?_) (fun ht9=>?_)
 ·have hlt:x<l.length:=by simpa using ht9
  refine Z18 ?_;refine Z1 ?_;refine AD6 ?_
  refine A4 (h:=Ac (x) (Ae l[x]) (fun _=>Aw hlt)) (hr:=?_)
  refine A4 ?_;refine R.callV Tryz.call134 (AV7 l[x] (hn _ (Av hlt)) _) ?_;refine ADo ?_
  refine A3 (fun ht16=>?_) (fun ht16=>?_)
  ·refine z3 ?_;exact ALo
  refine Nm ?_;exact ALh
 have hxe:l.length≤x:=by simpa using ht9
 refine Tt ?_;exact ALm

theorem AVa (l:List Str) (hl:l.length≤1048576) (hn:∀s∈l,s.length≤1048576) (Hp:List AObj):AFun Tryz.prog 133 [Gi l,.fn (.func 134) [] []] Hp (B3 (l.any Qb)):=by
 refine Ag [.tmp 4] [0,1] Tryz.func133 Tryz.ntmps133 (fun d=>?_)
 refine Z62 ?_;refine Z1 ?_;refine A8 Tryz.call164 (AV9 l hl hn _) ?_;refine Z0 ?_;exact ALq

theorem ASc (l:List Expr) (hl:l.length≤1048576) (hn:∀e∈l,okE 61 e) (Hp:List AObj):AFun Tryz.prog 165 [L8 l,.fn (.func 132) [] []] Hp (A5 (Uf Nk l)):=by
 refine Ag [.tmp 4] [0,1] Tryz.func165 Tryz.ntmps165 (fun d=>?_)
 refine Z62 ?_;refine ADa ?_
 refine Az (α:=Nat) (fun x=>⟨19,A6 0 (L8 l) (A6 1 (.fn (.func 132) [] []) (A6 7 (A5 l.length) (A6 8 (A5 (x:Nat)) (fun _=>.any)))),Hp,[],[],none⟩) (fun x=>x≤l.length∧∀(j:Nat) y,j<x→l[j]? = some y→Nk y=false) (fun x=>l.length-x) (0) ⟨An _,fun j y h=>by omega⟩ (B5 (by simp)) rfl (fun x hx=>?_)
 refine AD8 ?_
 refine Ei (fun ht9=>?_) (fun ht9=>?_)
 ·have hlt:x<l.length:=by simpa using ht9
  refine Z18 ?_;refine Z1 ?_;refine AD6 ?_
  refine A4 (h:=Ac (x) (Ab l[x]) (fun _=>Aw hlt)) (hr:=?_)
  refine A4 ?_;refine R.callV Tryz.call132 (AV8 l[x] (hn _ (Av hlt)) _) ?_;refine ADo ?_
  refine A3 (fun ht16=>?_) (fun ht16=>?_)
  ·refine z3 ?_;exact ALo
  refine Nm ?_;exact ALh
 have hxe:l.length≤x:=by simpa using ht9
 refine Tt ?_;exact ALm

theorem AL8 (l:List Expr) (hl:l.length≤1048576) (hn:∀e∈l,okE 61 e) (Hp:List AObj):AFun Tryz.prog 135 [L8 l,.fn (.func 132) [] []] Hp (B3 (l.any Nk)):=by
 refine Ag [.tmp 4] [0,1] Tryz.func135 Tryz.ntmps135 (fun d=>?_)
 refine Z62 ?_;refine Z1 ?_;refine A8 Tryz.call165 (ASc l hl hn _) ?_;refine Z0 ?_;exact ALq

theorem AJw (s:Str) (Hp:List AObj):AFun Tryz.prog 137 [Ae s] Hp (Ab (Ds s)):=by
 refine Ag [.cell 2 62] [0] Tryz.func137 Tryz.ntmps137 (fun d=>?_)
 refine Z67 ?_;refine Z2 ?_;refine APg ?_;refine Sb 0 5 6 ?_;refine Z3 ?_;exact A9 (Ah (B8 jA jS)) ⟨by rw [Ax];rfl,rfl⟩

theorem ph {m:Mov} {c:Col}:(((!(Df c.name)) || (!((Ci c.kind==[])==(m.kind==3)))) || ((m.kind==3)&&(c.kind != 0))) = !Kc m c:=by
 unfold Kc
 cases Df c.name<;>cases (Ci c.kind==([]:Str))<;>cases (m.kind==3)<;>cases (c.kind != 0)<;>rfl
theorem ANr {m:Mov} (h:(!(G8 m))=true):Fo m=false:=by
 have:G8 m=false:=by simpa using h
 unfold Fo;rw [this];rfl
theorem ANs {m:Mov} {c:Col} (hc:c∈m.give) (h:Kc m c=false):Fo m=false:=by
 have:m.give.all (Kc m)=false:=Rw.2 ⟨c,hc,by rw [h];simp⟩
 unfold Fo;rw [this];simp
theorem ANt {m:Mov} (h:((m.take.any Qb || m.ahead.any Nk) || m.back.any Nk)=true):Fo m=false:=by
 unfold Fo
 rw [show Qb=fun s => !(Df s) from rfl,show Nk=fun e => !(Bk e) from rfl,Iv,Iv,Iv] at h
 cases h1:m.take.all Df<;>cases h2:m.ahead.all Bk<;>cases h3:m.back.all Bk<;>simp_all
theorem AJx {m:Mov} (h1:G8 m=true) (h2:m.give.all (Kc m)=true) (h:((m.take.any Qb || m.ahead.any Nk) || m.back.any Nk)=false):Fo m=Mq m:=by
 unfold Fo
 rw [show Qb=fun s => !(Df s) from rfl,show Nk=fun e => !(Bk e) from rfl,Iv,Iv,Iv] at h
 rw [h1,h2]
 cases h1:m.take.all Df<;>cases h2:m.ahead.all Bk<;>cases h3:m.back.all Bk<;>simp_all
theorem P6 {α β:Type} {f:α→β} {l:List α} {d:α} (h:0<l.length):(l.map f)[0]? = some (f (l.getD 0 d)):=by
 rw [Ce,Aa h,D3,Aa h]
 rfl
theorem O2 {α:Type} {l:List α} {d:α} (h:0<l.length):l.getD 0 d∈l:=by
 rw [D3,Aa h]
 exact Av h
theorem AGb {m:Mov} (h:(m.kind==3)=true):Mq m=(eqE (m.ahead.getD 0 At) (Ds (m.take.getD 0 []))&&eqE (m.back.getD 0 At) (Ds (m.give.getD 0 ⟨[],0⟩).name)):=if_pos h
theorem AGc {m:Mov} (h:(m.kind==3)=false) (h6:(m.kind==6)=true):Mq m=(m.take.getD 0 []==(m.give.getD 0 ⟨[],0⟩).name):=by unfold Mq;rw [if_neg (by rw [h];simp),if_pos h6]
theorem AGd {m:Mov} (h:(m.kind==3)=false) (h6:(m.kind==6)=false):Mq m=true:=by unfold Mq;rw [if_neg (by rw [h];simp),if_neg (by rw [h6];simp)]
theorem c99 (m:Mov) (h:OkMov m) (Hp:List AObj):AFun Tryz.prog 99 [Fv m] Hp (B3 (Fo m)):=by
 refine Ag [.tmp 2] [0] Tryz.func99 Tryz.ntmps99 (fun d=>?_)
 refine Pv ?_;refine Z29 ?_;refine A8 Tryz.call131 (AV6 m _) ?_;refine A4 ?_;refine A2 [1,8] ?_
 refine A3 (fun ht8=>?_) (fun ht8=>?_)
 ·have hm:=ANr ht8
  exact ADg
 have hct:G8 m=true:=by simpa using ht8
 refine Z4 ?_;refine Z54 ?_;refine A2 [1,10,11,12] ?_
 refine Az (α:=Nat) (fun x=>⟨95,A6 1 (.ro (Nj m)) (A6 10 (Ao m.give) (A6 11 (A5 (m.give.length:Nat)) (A6 12 (A5 (x:Nat)) (fun _=>.any)))),Hp,[],[],none⟩) (fun x=>x≤m.give.length∧∀(j:Nat) (y:Col),j<x→m.give[j]? = some y→(!Kc m y)=false) (fun x=>m.give.length-x) (0) ⟨An _,fun j y h=>by omega⟩ (B5 (by simp)) rfl (fun x hx=>?_)
 refine Z2 ?_;refine A2 [1,10,11,12,13] ?_
 refine Ei (fun ht13=>?_) (fun ht13=>?_)
 ·have hlt:x<m.give.length:=by simpa using ht13
  have hgl:=h.gives2
  refine X9 ?_
  refine A4 (h:=Ac (x) (Bj m.give[x]) (fun _=>Aw hlt)) (hr:=?_)
  refine Xc ?_;refine A2 [1,4,10,11,12] ?_;refine Cb [0,1,3,7,15,31,63,127,255,31,543,1567,4095,8191,16383,32767,65535,131071,262143,524287,1048575,2097151,4194303,8388607] 12 Ai (by kernel_rfl) ?_;refine Z12 ?_;refine Dd Tryz.call111 (AE8 m.give[x].name (h.gives.2 _ (Av hlt)) _) ?_;refine Z12 ?_;refine Z56 ?_;refine V2 Tryz.call60 (fun hB=>c60 m.give[x].kind _) ?_;refine Z56 ?_;refine Z56 ?_;refine J0 ?_;refine Bd ?_;refine Z38 ?_;refine Pw ?_;refine Z96 ?_;refine A2 [1,10,11,12,39] ?_
  refine A3 (fun ht39=>?_) (fun ht39=>?_)
  ·rw [ph] at ht39
   have hm:=ANs (Av hlt) (by simpa using ht39)
   exact ALv
  rw [ph] at ht39
  refine Nm ?_;refine A2 [1,10,11,12] ?_;refine Ay (x+1) ⟨hlt,C1 hlt hx.2 ht39⟩ (by omega) ?_
  exact Dp (own:=[]) (fun _=>.refl _) (by repeat (first|exact Bq|refine Bp (by first|(simp [or_imp,forall_and];done)|exact Di|exact low_ro.2 Lw) ?_)) (by simp) (by simp)
 have hxe:m.give.length≤x:=by simpa using ht13
 have hga:m.give.all (Kc m)=true:=by have:=Il hxe hx.2;rw [Iv] at this;simpa using this
 refine Tt ?_;refine A2 [1,5] ?_;refine Z8 ?_;refine A8 Tryz.call133 (AVa m.take h.takes h.names _) ?_;refine A4 ?_;refine Z49 ?_;refine Bm Tryz.call135 (fun hB=>AL8 m.ahead h.ahead.len h.ahead.ok _) ?_;refine j5 ?_;refine Bm Tryz.call135 (fun hB=>AL8 m.back h.back.len h.back.ok _) ?_;refine A4 ?_;refine A2 [1,55] ?_
 refine A3 (fun ht55=>?_) (fun ht55=>?_)
 ·have hm:=ANt ht55
  exact ADg
 have hm0:=AJx hct hga ht55
 refine Sg ?_;refine A2 [1,57] ?_;refine Z99 ?_;refine A2 [1,57,58] ?_
 refine A3 (fun ht58=>?_) (fun ht58=>?_)
 ·obtain ⟨hl1,hl2⟩:=Qa hct (by rw [ht58];simp)
  obtain ⟨hl3,hl4⟩:=Gf hct
  have g1:=P6 (f:=Ab) (l:=m.ahead) (d:=At) (by omega)
  have g2:=P6 (f:=Ab) (l:=m.back) (d:=At) (by omega)
  have g3:=P6 (f:=Ae) (l:=m.take) (d:=[]) (by omega)
  have g4:=P6 (f:=Bj) (l:=m.give) (d:=⟨[],0⟩) (by omega)
  have ok1:=h.ahead.ok _ (O2 (l:=m.ahead) (d:=At) (by omega))
  have ok2:=h.back.ok _ (O2 (l:=m.back) (d:=At) (by omega))
  have hm:=hm0.trans (AGb ht58)
  refine Cb [0,1,3,7,0,16,48,112,240,511,1023,2047,4095,8191,16383,2047,34815,100351,231423,493567,1017855,2097151,4194303,8388607] 21 Ai (by kernel_rfl) ?_;refine Z12 ?_
  refine Ak (h:=Ac (0) (Ab (m.ahead.getD 0 At)) (fun _=>g1)) (hr:=?_)
  refine Z40 ?_
  refine Ak (h:=Ac (0) (Ae (m.take.getD 0 [])) (fun _=>g3)) (hr:=?_)
  refine Ak ?_;refine Dd Tryz.call137 (AJw (m.take.getD 0 []) _) ?_;refine Dd Tryz.call136 (AS3 61 (m.ahead.getD 0 At) ok1 (Ds (m.take.getD 0 [])) _) ?_;refine Ak ?_;refine Z56 ?_
  refine Eh (h:=Ac (0) (Ab (m.back.getD 0 At)) (fun _=>g2)) (hr:=?_)
  refine m9 ?_
  refine Eh (h:=Ac (0) (Bj (m.give.getD 0 ⟨[],0⟩)) (fun _=>g4)) (hr:=?_)
  refine Z56 ?_;refine V2 Tryz.call137 (fun hB=>AJw (m.give.getD 0 ⟨[],0⟩).name _) ?_;refine J0 ?_;refine Bm Tryz.call136 (fun hB=>AS3 61 (m.back.getD 0 At) ok2 (Ds (m.give.getD 0 ⟨[],0⟩).name) _) ?_;refine Z52 ?_;exact APp
 refine Z1 ?_;refine A2 [1,83] ?_
 refine A3 (fun ht83=>?_) (fun ht83=>?_)
 ·obtain ⟨hl1,hl2⟩:=Qa hct (by rw [ht83];simp)
  obtain ⟨hl3,hl4⟩:=Gf hct
  have g1:=P6 (f:=Ab) (l:=m.ahead) (d:=At) (by omega)
  have g2:=P6 (f:=Ab) (l:=m.back) (d:=At) (by omega)
  have g3:=P6 (f:=Ae) (l:=m.take) (d:=[]) (by omega)
  have g4:=P6 (f:=Bj) (l:=m.give) (d:=⟨[],0⟩) (by omega)
  have ok1:=h.ahead.ok _ (O2 (l:=m.ahead) (d:=At) (by omega))
  have ok2:=h.back.ok _ (O2 (l:=m.back) (d:=At) (by omega))
  have hm:=hm0.trans (AGc ht58 ht83)
  refine APt ?_
  refine Ak (h:=Ac (0) (Ae (m.take.getD 0 [])) (fun _=>g3)) (hr:=?_)
  refine Z40 ?_
  refine Ak (h:=Ac (0) (Bj (m.give.getD 0 ⟨[],0⟩)) (fun _=>g4)) (hr:=?_)
  refine Z89 ?_;refine Z52 ?_;exact APp
 have hm:=hm0.trans (AGd ht58 ht83)
 refine Z17 ?_;refine Z28 ?_;exact s8

def ABb (m:Mov):Bool := !(Fo m)
theorem AJy (l:List Mov):(decide ((l.length:Int)≤8) && !(l.any ABb))=Pa l:=by
 unfold Pa
 rw [show ABb=fun m => !(Fo m) from rfl,Iv]
 simp
theorem c98 (m:Mov) (h:OkMov m) (Hp:List AObj):AFun Tryz.prog 98 [Fv m] Hp (B3 (ABb m)):=by
 refine Ag [.tmp 2] [0] Tryz.func98 Tryz.ntmps98 (fun d=>?_)
 refine Pv ?_;refine Z2 ?_;refine A8 Tryz.call99 (c99 m h _) ?_;exact AD5

theorem AVb (l:List Mov) (h:OkMovs l) (Hp:List AObj):AFun Tryz.prog 130 [Dz l,.fn (.func 98) [] []] Hp (A5 (Uf ABb l)):=by
 refine Ag [.tmp 4] [0,1] Tryz.func130 Tryz.ntmps130 (fun d=>?_)
 refine Z62 ?_;refine ADa ?_
 refine Az (α:=Nat) (fun x=>⟨19,A6 0 (Dz l) (A6 1 (.fn (.func 98) [] []) (A6 7 (A5 l.length) (A6 8 (A5 (x:Nat)) (fun _=>.any)))),Hp,[],[],none⟩) (fun x=>x≤l.length∧∀(j:Nat) (y:Mov),j<x→l[j]? = some y→ABb y=false) (fun x=>l.length-x) (0) ⟨An _,fun j y h=>by omega⟩ (B5 (by simp)) rfl (fun x hx=>?_)
 refine AD8 ?_
 refine Ei (fun ht9=>?_) (fun ht9=>?_)
 ·have hlt:x<l.length:=by simpa using ht9
  have hlen:=h.len
  refine Z18 ?_;refine Z1 ?_;refine AD6 ?_
  refine A4 (h:=Ac (x) (Fv l[x]) (fun _=>Aw hlt)) (hr:=?_)
  refine A4 ?_;refine R.callV Tryz.call98 (c98 l[x] (h.each _ (Av hlt)) _) ?_;refine ADo ?_
  refine A3 (fun ht16=>?_) (fun ht16=>?_)
  ·refine z3 ?_;exact ALo
  refine Nm ?_;exact ALh
 have hxe:l.length≤x:=by simpa using ht9
 refine Tt ?_;exact ALm

theorem c97 (l:List Mov) (h:OkMovs l) (Hp:List AObj):AFun Tryz.prog 97 [Dz l,.fn (.func 98) [] []] Hp (B3 (l.any ABb)):=by
 refine Ag [.tmp 4] [0,1] Tryz.func97 Tryz.ntmps97 (fun d=>?_)
 refine Z62 ?_;refine Z1 ?_;refine A8 Tryz.call130 (AVb l h _) ?_;refine Z0 ?_;exact ALq

theorem c69 (l:List Mov) (h:OkMovs l) (Hp:List AObj):AFun Tryz.prog 69 [Dz l] Hp (B3 (Pa l)):=by
 refine Ag [.tmp 2] [0] Tryz.func69 Tryz.ntmps69 (fun d=>?_)
 refine Z48 ?_;refine rr ?_;refine Bm Tryz.call97 (fun hB=>c97 l h _) ?_;refine Bd ?_;refine Z52 ?_;exact A9 (Ah A7) ⟨by rw [←AJy,Am],rfl⟩

theorem c40 (c:List Col) (hc:OkCols c) (l:List Mov) (h:OkMovs l) (Hp:List AObj):AFun Tryz.prog 40 [Ao c,Dz l] Hp (B3 (Mr c l)):=by
 refine Ag [.tmp 4] [0,1] Tryz.func40 Tryz.ntmps40 (fun d=>?_)
 refine Z62 ?_;refine Z2 ?_;refine A8 Tryz.call68 (c68 c hc _) ?_;refine z7 ?_;refine Bm Tryz.call69 (fun hB=>c69 l h _) ?_;refine Z0 ?_;refine Z39 ?_;exact A9 (Ah A7) ⟨by unfold Mr;rw [Nw],rfl⟩

theorem ABc {Hp:List AObj} {c:List Col} (h:∀x∈Hp,ObjLow Hp.length x):∀x∈Hp++[AObj.cells 22 [Ao c]],ObjLow (Hp.length+1) x:=by
 intro x hx
 rcases En.1 hx with hx|hx
 ·exact Vi (by omega) (h x hx)
 rw [Br.1 hx]
 intro z hz
 rw [Br.1 hz]
 exact Di
theorem c42 (c:List Col) (l:List Mov) (Hp:List AObj):ACallO Tryz.prog 42 [Ao c,Dz l] Hp (fun r H'=>r=.fn (.func 70) [] [.ro [Dz l],.ptr (oid Hp.length 0) 0]∧H'=Hp++[.cells 22 [Ao c]]):=by
 refine ACallO.body [.tmp 4] [0,1] Tryz.func42 Tryz.ntmps42 (fun d=>?_)
 refine rk ?_;refine Z0 ?_;refine Ja ?_;refine Eb ?_
 refine Pu (fun hlow=>?_)
 refine ADj ?_;refine Z39 ?_;exact K.finO 1 (A7 (t:=4)) ⟨rfl,rfl⟩ (hlow:=by simp [oid,or_imp,forall_and];exact ⟨fun m _ a _=>B7 _ a,fun m _ a _=>B7 _ a⟩) (hobj:=ABc hlow)

theorem c70 (l oc:Nat) (ms:List Mov) (hm:∀m∈ms,MvOk m) (hml:ms.length≤1048576) (C:Nat→List Col) (hC:∀k,OkCols (C k)) (U T:Nat→List AObj) (N:Nat→Prop) (Z:List AObj→Prop) (hlen:∀k,(U k).length=(U 0).length) (hlenW:∀k,(T k).length=(U 0).length) (hll:l<(U 0).length) (hol:oc<(U 0).length)
  (hlw:∀k,∀x∈U k,ObjLow (U 0).length x) (hlW:∀k,∀x∈T k,ObjLow (U 0).length x) (h0:N 0) (hc:∀k,(U k)[oc]? = some (.cells 22 [Ao (C k)])) (hcW:∀k,(T k)[oc]? = some (.cells 22 [Ao (C k)]))
  (hn:∀k m,ms[k]? = some m→(Bc (C k) m).2=0→(T k).set oc (.cells 22 [Ao (Bc (C k) m).1])=U (k+1))
  (hy:∀k m X,ms[k]? = some m→N k→AYield Tryz.prog l [Ao (Bc (C k) m).1,A5 (Bc (C k) m).2] (U k++X) (fun b H'=>((Bc (C k) m).2≠0∧∃V,H'=V++X∧V.length=(U 0).length∧(∀x∈V,ObjLow (U 0).length x)∧Z V)∨((Bc (C k) m).2=0∧b=true∧N (k+1)∧H'=T k++X)))
  (hR:N ms.length→Z (U ms.length)):ACall Tryz.prog 70 [.yield l,.ro [Dz ms],.ptr oc 0] (U 0) (fun _ H'=>Z H'):=by
 refine Ag [] [0,1,2] Tryz.func70 Tryz.ntmps70 (fun d=>?_)
 refine Z19 ?_;refine A2 [0,2,8,9,10] ?_
 refine Az (α:=Nat) (fun x=>⟨31,A6 0 (.yield l) (A6 2 (.ptr oc 0) (A6 8 (Dz ms) (A6 9 (A5 ms.length) (A6 10 (A5 (x:Nat)) (fun _=>.any))))),U x,[],[],none⟩) (fun x=>x≤ms.length∧N x) (fun x=>ms.length-x) (0) ⟨An _,h0⟩ (B5 (by simp)) rfl (fun x hx=>?_)
 refine Z2 ?_;refine A2 [0,2,8,9,10,11] ?_
 refine Ei (fun ht11=>?_) (fun ht11=>?_)
 ·have hlt:x<ms.length:=by simpa using ht11
  refine X9 ?_
  refine A4 (h:=Ac (x) (Fv ms[x]) (fun _=>Aw hlt)) (hr:=?_)
  refine Xc ?_;refine A2 [0,2,5,8,9,10] ?_;refine Eb ?_
  refine A4 (h:=Cm (hc x)) (hr:=?_)
  refine A4 ?_;refine A8 Tryz.call71 (c71 (C x) (hC x) ms[x] (hm _ (Av hlt)) _) ?_;refine Z59 ?_;refine A2 [0,2,6,7,8,9,10] ?_;refine Z33 ?_
  refine R.yield (l:=l) (args:=[Ao (Bc (C x) ms[x]).1,A5 (Bc (C x) ms[x]).2]) (hy x ms[x] _ (Aa hlt) hx.2) ?_
  intro b V O hV hb
  have hVO:O=[AObj.cells 54 (Nj ms[x])]∧(((Bc (C x) ms[x]).2≠0∧V.length=(U 0).length∧(∀y∈V,ObjLow (U 0).length y)∧Z V)∨((Bc (C x) ms[x]).2=0∧b=true∧N (x+1)∧V=T x)):=by
   rcases hb with ⟨h1,V',h2,h3,h4,h5⟩|⟨h1,h2,h3,h4⟩
   ·obtain ⟨rfl,rfl⟩:=Us h2 (by rw [hV,hlen x,h3])
    exact ⟨rfl,.inl ⟨h1,h3,h4,h5⟩⟩
   have h6:=Us h4 (by rw [hV,hlen x,hlenW x])
   exact ⟨h6.2,.inr ⟨h1,h2,h3,h6.1⟩⟩
  obtain ⟨rfl,hVO⟩:=hVO
  have hVl:V.length=(U 0).length:=by rw [hV,hlen x]
  have hVw:∀y∈V,ObjLow (U 0).length y:=by
   rcases hVO with ⟨_,_,h,_⟩|⟨_,_,_,rfl⟩
   ·exact h
   exact hlW _
  refine ⟨fun _=>by rw [hVl];exact hVw,fun o ho=>(by cases ho),?_⟩
  refine Z38 ?_;refine A4 ?_;refine A2 [0,2,6,8,9,10,28] ?_
  refine A3 (fun ht28=>?_) (fun ht28=>?_)
  ·have hZ:Z V:=by
    rcases hVO with ⟨_,_,_,h⟩|⟨h1,h2,_,_⟩
    ·exact h
    rw [h1,h2] at ht28;simp at ht28
   refine Z13 ?_;refine Z6 ?_;refine Mg ?_;exact A9 .nores (hp:=hZ)
  have hVn:(Bc (C x) ms[x]).2=0∧N (x+1)∧V=T x:=by
   rcases hVO with ⟨h1,_,_,_⟩|⟨h1,_,h3,h4⟩
   ·simp [h1] at ht28
   exact ⟨h1,h3,h4⟩
  obtain ⟨hz,hN,rfl⟩:=hVn
  have hnx:=hn x _ (Aa hlt) hz
  refine Z4 ?_;refine Z51 ?_
  refine Gn jS (hcW x) ?_ ?_
  ·first|exact Di|(simp [or_imp,forall_and];done)
  refine A2 [0,2,8,9,10] ?_;refine j6 ?_;refine A2 [0,2,8,9,10] ?_;refine Ay (x+1) ⟨hlt,hN⟩ (by omega) ?_
  rw [hnx]
  exact Dp (own:=[]) (fun _=>.refl _) (by repeat (first|exact Bq|refine Bp (by first|(simp [or_imp,forall_and];done)|exact Fg|(have:=hlen (x+1);simp;omega)) ?_)) (by simp) (by simp)
 have hxe:x=ms.length:=by have:=hx.1;simp at ht11;omega
 refine K.lpE ?_;exact Gp .nores (hp:=by rw [hxe];exact hR (hxe ▸ hx.2))

/-! The columns on the way through moves. -/
def colsAt (c:List Col) (ms:List Mov):Nat→List Col
 | 0=>c
 | k+1=>match ms[k]? with|some m=>(Bc (colsAt c ms k) m).1|none=>colsAt c ms k
def Cu (c:List Col) (ms:List Mov):Nat→List (List Col)
 | 0=>[c]
 | k+1=>Cu c ms k++[colsAt c ms (k+1)]
def NS (c:List Col) (ms:List Mov) (k:Nat):Prop:=Du c ms=((Cu c ms k).dropLast++(Du (colsAt c ms k) (ms.drop k)).1,(Du (colsAt c ms k) (ms.drop k)).2)
theorem kn (c:List Col) (ms:List Mov) (k:Nat):(Cu c ms k).dropLast++[colsAt c ms k]=Cu c ms k:=by
 cases k with
 | zero=>rfl
 | succ k=>simp [Cu]
theorem Fz {c:List Col} {ms:List Mov} {k:Nat} {m:Mov} (h:ms[k]? = some m):colsAt c ms (k+1)=(Bc (colsAt c ms k) m).1:=by rw [colsAt,h]
theorem bq {ms:List Mov} {k:Nat} {m:Mov} (hk:ms[k]? = some m):ms.drop k=m::ms.drop (k+1):=by
 obtain ⟨h1,h2⟩:=Ad.1 hk
 rw [Hd h1,h2]
theorem AJz {c:List Col} {ms:List Mov}:NS c ms 0:=rfl
theorem Y1 {c:List Col} {ms:List Mov} {k:Nat} {m:Mov} (hk:ms[k]? = some m) (h:NS c ms k) (he:(Bc (colsAt c ms k) m).2=0):NS c ms (k+1):=by
 unfold NS at h ⊢
 rw [h,bq hk]
 have e:Du (colsAt c ms k) (m::ms.drop (k+1))=(colsAt c ms k::(Du (Bc (colsAt c ms k) m).1 (ms.drop (k+1))).1,(Du (Bc (colsAt c ms k) m).1 (ms.drop (k+1))).2):=by
  rw [Du,if_neg (by rw [he];simp)]
 have e2:(Cu c ms (k+1)).dropLast=Cu c ms k:=by simp [Cu]
 rw [e,e2,Fz hk]
 have e3:=kn c ms k
 refine N1 ?_ rfl
 show (Cu c ms k).dropLast++(colsAt c ms k::_)=Cu c ms k++_
 conv=>rhs;rw [←e3]
 simp
theorem uq {c:List Col} {ms:List Mov} {k:Nat} {m:Mov} (hk:ms[k]? = some m) (h:NS c ms k) (he:(Bc (colsAt c ms k) m).2≠0):(Du c ms).2=(Bc (colsAt c ms k) m).2:=by
 unfold NS at h
 rw [h,bq hk,Du,if_pos (by simpa using he)]
theorem ko {c:List Col} {ms:List Mov} (h:NS c ms ms.length):Du c ms=(Cu c ms ms.length,0):=by
 unfold NS at h
 rw [h,List.drop_length,Du]
 exact N1 (kn c ms ms.length) rfl
theorem pi {c:List Col} {m:Mov} (hc:OkCols c) (h:OkMov m):OkCols (Bc c m).1:=by
 have h0:OkCols ([]:List Col):=⟨by decide,fun y hy=>by cases hy⟩
 unfold Bc
 split
 ·exact h0
 split
 ·exact h0
 split
 ·exact h0
 exact bj hc (bi h) (by rw [J9];exact h.gives2)
theorem G5 {c:List Col} {ms:List Mov} (hc:OkCols c) (h:∀m∈ms,OkMov m):∀k,OkCols (colsAt c ms k)
 | 0=>hc
 | k+1=>by
  rw [colsAt]
  cases hk:ms[k]? with
  | none=>exact G5 hc h k
  | some m=>exact pi (G5 hc h k) (h m (B2 hk))
theorem Jn (c:List Col) (ms:List Mov):∀k,(Cu c ms k).length=k+1
 | 0=>rfl
 | k+1=>by rw [Cu,Ap,Jn c ms k];rfl
theorem kp {c:List Col} {ms:List Mov} (h:Mr c ms=true) (hk:OkMovs ms):(∀m∈ms,MvOk m)∧ms.length≤8:=by
 unfold Mr Pa at h
 simp only [As,decide_eq_true_eq,B4] at h
 exact ⟨fun m hm=>AJv (hk.each m hm) (M5 (h.2.2 m hm)),by omega⟩
theorem fq {c:List Col} {ms:List Mov} (h:Mr c ms=false):Cp c ms=([],1):=by
 have:Gr c ms=([],1):=if_neg (by rw [h];simp)
 unfold Cp
 rw [this];rfl
theorem br {c:List Col} {ms:List Mov} (h:Mr c ms=true) (he:(Du c ms).2≠0):Cp c ms=([],(Du c ms).2):=by
 have:Gr c ms=Du c ms:=if_pos h
 unfold Cp
 rw [this,if_pos (by simpa using he)]
theorem W7 {c:List Col} {ms:List Mov} {o:List (List Col)} (h:Mr c ms=true) (he:Du c ms=(o,0)):Cp c ms=(o,0):=by
 have:Gr c ms=Du c ms:=if_pos h
 unfold Cp
 rw [this,he];rfl
abbrev Mt (l:List (List Col)):AV:=.slice false 1 (l.map Ao)
theorem El {n k:Nat} {o:Bool} {l:List (List Col)}:Low n (.slice o k (l.map Ao)):=low_slice.2 fun y hy=>by
 obtain ⟨m,_,rfl⟩:=D5.1 hy
 exact Di
theorem kq {U:List AObj} {i j:Nat} {x y:AObj} (h:U[i]? = some x) (hne:j≠i):(U.set j y)[i]? = some x:=by rw [Ec hne];exact h
theorem ABd {n k:Nat} {o:Bool} {l:List (List Col)} {c:List Col}:Low n (.slice o k (l.map Ao++[Ao c])):=by
 have:=El (n:=n) (k:=k) (o:=o) (l:=l++[c])
 rwa [C5] at this
theorem c22 (c:List Col) (hc:OkCols c) (hc2:c.length≤1000000) (l:List Mov) (h:OkMovs l) (Hp:List AObj):AFun Tryz.prog 22 [Ao c,Dz l] Hp (.tup [Mt (Cp c l).1,A5 (Cp c l).2]):=by
 refine Ag [.cell 4 30,.cell 5 27] [0,1,7,8] Tryz.func22 Tryz.ntmps22 (fun d=>?_)
 refine Z37 ?_;refine Mj ?_;refine A2 [0,1,4,5,7,8] ?_;refine Z8 ?_;refine A8 Tryz.call40 (c40 c hc l h _) ?_;refine A4 ?_;refine A2 [0,1,4,5,7,8,12] ?_
 refine A3 (fun ht12=>?_) (fun ht12=>?_)
 ·have hm:=fq (by simpa using ht12)
  refine Eb ?_;refine Gd ?_;refine Yo 0 1 ?_;refine Gd ?_;refine Z86 ?_;exact A9 (B1 (Hg jA) (Hg jA)) ⟨by rw [hm];rfl,rfl⟩
 have hmay:Mr c l=true:=by simpa using ht12
 obtain ⟨hmv,hl8⟩:=kp hmay h
 refine Z93 ?_;refine A8 Tryz.call41 (c41 c hc2 _) ?_;refine Rc ?_;refine Mj ?_;refine ir jS ?_;refine A2 [0,1,4,5,6,7,8] ?_;refine Z75 ?_
 refine Pu (fun hlow=>?_)
 refine Z0 ?_;refine R.callO Tryz.call42 (c42 c l _) ?_
 rintro _ _ ⟨rfl,rfl⟩
 refine ⟨[.cells 22 [Ao c]],by simp,?_⟩
 rw [show oid (Hp++[AObj.cells 30 [AV.nil],AObj.cells 27 [A5 0],AObj.cells 30 [AV.slice true 1 [Ao c]]]).length 0=oid Hp.length 3 by simp [oid]]
 simp only [Fe,F6]
 refine A2 [4,5,6,7,8,18] ?_;refine Mi ?_
 refine Sc (m:=4) Tryz.call70 (fun FR as' bd' hFR has hbd=>?_)
 have hFRl:∀s,Low (Hp.length+6) (FR s):=by
  intro s
  rw [hFR]
  refine Ux ?_
  revert s
  repeat (first|exact Bq|refine Bp (by first|(simp [oid,or_imp,forall_and];done)|(simp [oid,or_imp,forall_and];exact ⟨fun m _ a _=>B7 _ a,fun m _ a _=>B7 _ a⟩)|(simp [oid,or_imp,forall_and]<;>omega)) ?_)
 have hOl:∀{e:Int} {o:List (List Col)} {q:List Col} {lp:AObj},ObjLow (Hp.length+6) lp→∀x∈Hp++[AObj.cells 30 [AV.nil],AObj.cells 27 [A5 e],AObj.cells 30 [AV.slice true 1 ((o).map Ao)],AObj.cells 22 [Ao (q)],AObj.defs,lp],ObjLow (Hp.length+6) x:=by
  intro e o q lp hlp x hx
  refine Ol (fun x hx=>Vi (by omega) (hlow x hx)) (fun x hx=>?_) x hx
  simp only [Bu,Fi,or_false] at hx
  rcases hx with rfl|rfl|rfl|rfl|rfl|rfl
  ·intro y hy;rw [Br.1 hy];simp
  ·intro y hy;rw [Br.1 hy];simp
  ·intro y hy;rw [Br.1 hy];exact El
  ·intro y hy;rw [Br.1 hy];exact Di
  ·trivial
  exact hlp
 refine ⟨_,c70 (oid Hp.length 5) (oid Hp.length 3) l hmv (by omega) (colsAt c l) (G5 hc fun m hm=>h.each m hm) (fun k=>Hp++[AObj.cells 30 [AV.nil],AObj.cells 27 [A5 0],AObj.cells 30 [AV.slice true 1 ((Cu c l k).map Ao)],AObj.cells 22 [Ao (colsAt c l k)],AObj.defs,AObj.loop LoopState.ready none FR 29 #[19,20] as' bd' (oid Hp.length 4)]) (fun k=>Hp++[AObj.cells 30 [AV.nil],AObj.cells 27 [A5 0],AObj.cells 30 [AV.slice true 1 ((Cu c l (k+1)).map Ao)],AObj.cells 22 [Ao (colsAt c l k)],AObj.defs,AObj.loop LoopState.ready none FR 29 #[19,20] as' bd' (oid Hp.length 4)]) (NS c l) (fun V=>(∃(o:List (List Col)) (q:List Col),V=Hp++[AObj.cells 30 [AV.nil],AObj.cells 27 [A5 0],AObj.cells 30 [AV.slice true 1 ((o).map Ao)],AObj.cells 22 [Ao (q)],AObj.defs,AObj.loop LoopState.ready none FR 29 #[19,20] as' bd' (oid Hp.length 4)]∧Du c l=(o,0))∨(∃(e:Int) (o:List (List Col)) (q:List Col),V=Hp++[AObj.cells 30 [AV.nil],AObj.cells 27 [A5 e],AObj.cells 30 [AV.slice true 1 ((o).map Ao)],AObj.cells 22 [Ao (q)],AObj.defs,AObj.loop LoopState.done (some Code.ret) FR 29 #[19,20] as' bd' (oid Hp.length 4)]∧e≠0∧(Du c l).2=e)) (fun k=>by simp) (fun k=>by simp) (by simp [oid]) (by simp [oid]) (fun k=>(fun x hx=>by rw [Ap];exact hOl (lp:=AObj.loop LoopState.ready none FR 29 #[19,20] as' bd' (oid Hp.length 4)) (by exact ⟨hFRl,by simp [oid]⟩) x hx)) (fun k=>(fun x hx=>by rw [Ap];exact hOl (lp:=AObj.loop LoopState.ready none FR 29 #[19,20] as' bd' (oid Hp.length 4)) (by exact ⟨hFRl,by simp [oid]⟩) x hx)) AJz (fun k=>by rw [C0];rfl) (fun k=>by rw [C0];rfl) (fun k m hk he=>by rw [Hl];simp only [Fz hk];rfl) (fun k m X hk hN=>?_) (fun hN=>.inl ⟨_,_,rfl,ko hN⟩),?_⟩
 ·generalize hV:Hp++[AObj.cells 30 [AV.nil],AObj.cells 27 [A5 0],AObj.cells 30 [AV.slice true 1 ((Cu c l k).map Ao)],AObj.cells 22 [Ao (colsAt c l k)],AObj.defs,AObj.loop LoopState.ready none FR 29 #[19,20] as' bd' (oid Hp.length 4)]++X=V
  have hL:V[oid Hp.length 5]? = some (AObj.loop LoopState.ready none FR 29 #[19,20] as' bd' (oid Hp.length 4)):=by rw [←hV,Ca,C0];rfl
  have hA0:V[oid Hp.length 2]? = some (AObj.cells 30 [AV.slice true 1 ((Cu c l k).map Ao)]):=by rw [←hV,Ca,C0];rfl
  have hB0:V[oid Hp.length 0]? = some (AObj.cells 30 [AV.nil]):=by rw [←hV,Ca,C0];rfl
  have hC0:V[oid Hp.length 1]? = some (AObj.cells 27 [A5 0]):=by rw [←hV,Ca,C0];rfl
  refine S4 (pd:=none) (fr:=FR) (sz:=29) (ps:=#[19,20]) (df:=oid Hp.length 4) (asg:=as') (bd:=bd') hL rfl (by decide) (fun d=>?_)
  subst hFR has hbd
  refine Hy [4,5,6,19,20] ?_;refine Z2 ?_;refine A2 [4,5,6,7,20] ?_;refine Z51 ?_;refine A2 [4,5,6,7,8] ?_
  refine ⟨rfl,none,hL,?_⟩
  generalize hbz:(AObj.loop LoopState.busy _ _ _ _ _ _ _)=bz
  have hA:(V.set (oid Hp.length 5) bz)[oid Hp.length 2]? = some (AObj.cells 30 [AV.slice true 1 ((Cu c l k).map Ao)]):=by rw [Ec (Cv (by decide))];exact hA0
  have hB:(V.set (oid Hp.length 5) bz)[oid Hp.length 0]? = some (AObj.cells 30 [AV.nil]):=by rw [Ec (Cv (by decide))];exact hB0
  have hC:(V.set (oid Hp.length 5) bz)[oid Hp.length 1]? = some (AObj.cells 27 [A5 0]):=by rw [Ec (Cv (by decide))];exact hC0
  refine Mi ?_;refine Z8 ?_;refine A2 [4,5,6,7,8,22] ?_
  refine A3 (fun ht22=>?_) (fun ht22=>?_)
  ·have he:(Bc (colsAt c l k) m).2≠0:=by simpa using ht22
   refine Z2 ?_
   refine Gn jS hB ?_ ?_
   ·simp
   refine Gn jS (kq hC (Cv (by decide))) ?_ ?_
   ·simp
   refine A2 [] ?_;refine Z13 ?_;refine Mf ?_
   subst hbz
   refine K.rdR (vl hL (Cv (by decide)) (Cv (by decide))) ?_
   refine .inl ⟨he,Hp++[AObj.cells 30 [AV.nil],AObj.cells 27 [A5 (Bc (colsAt c l k) m).2],AObj.cells 30 [AV.slice true 1 ((Cu c l k).map Ao)],AObj.cells 22 [Ao (colsAt c l k)],AObj.defs,_],?_,by simp,(fun x hx=>by rw [Ap];exact hOl (lp:=_) (by exact ⟨hFRl,by simp [oid]⟩) x hx),.inr ⟨_,_,_,rfl,he,uq hk hN he⟩⟩
   subst hV
   simp only [Ca,Hl,Fe,F6,List.set_cons_succ,List.set_cons_zero]
  have he:(Bc (colsAt c l k) m).2=0:=by simpa using ht22
  refine Z4 ?_;refine Ix ?_;refine R.loadUpT jA hA ?_;refine Z53 ?_
  refine Ed jU Tryz.type22 ?_ ?_ ?_
  ·have hol:=Jn c l k;have hkl:=(Ad.1 hk).1;simp [Tryz.t22];omega
  ·have hol:=Jn c l k;have hkl:=(Ad.1 hk).1;simp [Tryz.t22];omega
  refine J1 jS (getset hA) ?_ ?_
  ·exact ABd
  refine Yr ?_
  subst hbz
  refine AHt ?_
  refine .inr ⟨he,rfl,Y1 hk hN he,?_⟩
  subst hV
  simp only [Ca,Hl,Fe,F6,List.set_cons_succ,List.set_cons_zero]
  rw [Cu,Fz hk,C5]
  rfl
 rintro r H' (⟨o,q,rfl,hrun⟩|⟨e,o,q,rfl,hne,hrun⟩)
 ·refine ⟨Hp,_,_,_,rfl,rfl,fun h=>h,?_,rfl,by simp,?_⟩
  ·intro o ho
   have:o=oid Hp.length 4:=by simpa using ho
   subst this
   rw [C0]
   rfl
  refine Z11 ?_;refine Z2 ?_;refine Gd ?_;refine Gd ?_;refine Z78 ?_;exact A9 (B1 (Hg jA) (Hg jA)) ⟨by rw [W7 hmay hrun],rfl⟩ (hlow:=by simp only [iq,Bu,Fi,or_false];rintro y (rfl|rfl);exact El;simp)
 refine ⟨Hp,_,_,_,rfl,rfl,fun h=>h,?_,rfl,by simp,?_⟩
 ·intro o ho
  have:o=oid Hp.length 4:=by simpa using ho
  subst this
  rw [C0]
  rfl
 refine W.nilOwn 0 1 ?_;refine Z21 ?_;exact A9 (B1 (Hg jA) (Hg jA)) ⟨by rw [br hmay (by rw [hrun];exact hne),hrun];rfl,rfl⟩

theorem Sz:∀(c:List Col) (ms:List Mov),(Du c ms).1.length≤ms.length+1
 | c,[]=>by simp [Du]
 | c,m::r=>by
  rw [Du]
  split
  ·simp
  have:=Sz (Bc c m).1 r
  simp only [B6]
  omega
theorem ACall.argLe {P:Program} {g:FuncId} {args args':List AV} {H:List AObj} {post:AV→List AObj→Prop} (h:ACall P g args' H post) (hl:args.length=args'.length) (hle:∀(i:Nat) (y y':AV),args[i]? = some y→args'[i]? = some y'→Le y y'):ACall P g args H post:=
 fun d G w vs h1 h2 h3 h4=>h d G w vs (h1.trans hl) (fun i y u hy hu=>by
  have hi:i<args.length:=by rw [hl];exact (Ad.1 hy).1
  exact (h2 i _ u (Aa hi) hu).le (hle i _ y (Aa hi) hy)) h3 h4
theorem ABe (s:Str):Le (.agg [A5 2,Ae s,A5 0,A5 0,Ae [],.nil]) (Ab (Ds s)):=by
 rw [Ax]
 refine .agg _ _ rfl (fun y hy=>?_) (fun i y y' hy hy'=>?_)
 ·simp only [Dy,Bu,Fi,or_false] at hy
  rcases hy with rfl|rfl|rfl|rfl|rfl|rfl<;>rfl
 match i with
 | 0=>simp at hy;subst hy;simp [Dy,Ds] at hy';subst hy';exact .inl rfl
 | 1=>simp at hy;subst hy;simp [Dy,Ds] at hy';subst hy';exact .inl rfl
 | 2=>simp at hy;subst hy;simp [Dy,Ds] at hy';subst hy';exact .inl rfl
 | 3=>simp at hy;subst hy;simp [Dy,Ds] at hy';subst hy';exact .inl rfl
 | 4=>simp at hy;subst hy;simp [Dy,Ds] at hy';subst hy';exact .inl rfl
 | 5=>simp at hy;subst hy;simp [Dy,Ds] at hy';subst hy';exact .inr ⟨rfl,6,rfl⟩
 | i+6=>simp at hy
theorem ASd (x:Expr) (hx:okE 61 x) (s:Str) (Hp:List AObj):AFun Tryz.prog 77 [Ab x,.agg [A5 2,Ae s,A5 0,A5 0,Ae [],.nil]] Hp (B3 (eqE x (Ds s))):=
 ACall.argLe (c77 61 x hx (Ds s) Hp) rfl fun i y y' hy hy'=>by
  match i with
  | 0=>simp at hy hy';subst hy;subst hy';exact .refl _
  | 1=>simp only [Pf,qm,O9] at hy hy';subst hy;subst hy';exact ABe s
  | i+2=>simp at hy
def Mu (m:Mov):Bool:=
 if m.kind==1 then ((m.take.length:Int)==0)&&((m.give.length:Int)==1)
 else if m.kind==2 then ((m.take.length:Int)==1)&&((m.give.length:Int)==0)
 else if (m.kind==3) || (m.kind==6) then ((m.take.length:Int)==1)&&((m.give.length:Int)==1)
 else if m.kind==4 then ((m.take.length:Int)==1)&&decide ((2:Int)≤(m.give.length:Int))
 else if m.kind==5 then decide ((2:Int)≤(m.take.length:Int))&&((m.give.length:Int)==1)
 else false
theorem AGe (n:Nat):decide ((1:Int)<(n:Int))=decide ((2:Int)≤(n:Int)):=by
 by_cases h:2≤n
 ·have h1:(1:Int)<n:=by omega
  have h2:(2:Int)≤n:=by omega
  simp [h1,h2]
 have h1:¬(1:Int)<n:=by omega
 have h2:¬(2:Int)≤n:=by omega
 simp [h1,h2]
theorem AGf {m:Mov} (h:(((m.ahead.length:Int) != (m.give.length:Int)) || ((m.back.length:Int) != (m.take.length:Int)))=false):G8 m=Mu m:=by
 rw [pg h,AGe,AGe]
 rfl
theorem ABf (k:Int):(Ci k==([]:Str))=(decide (k<1) || decide (3<k)):=by
 unfold Ci
 by_cases h:k<1∨3<k
 ·rw [if_pos (by first|exact h|omega)]
  rcases h with h|h<;>simp [h]
 rw [if_neg (by first|exact h|omega)]
 have hk:k=1∨k=2∨k=3:=by omega
 rcases hk with rfl|rfl|rfl<;>rfl
theorem fu {m:Mov} {c:Col}:(((!(Df c.name)) || ((m.kind==3)&&(c.kind != 0))) || ((m.kind != 3)&&(decide (c.kind<1) || decide (3<c.kind)))) = !Kc m c:=by
 rw [←ABf]
 unfold Kc
 rw [show (m.kind != 3) = !(m.kind==3) from rfl]
 cases h3:(m.kind==3) with
 | false=>cases Df c.name<;>cases (Ci c.kind==([]:Str))<;>cases (c.kind != 0)<;>rfl
 | true =>
  by_cases h0:c.kind=0
  ·have e:(Ci c.kind==([]:Str))=true:=by rw [h0];rfl
   have e0:(c.kind != 0)=false:=by rw [h0];rfl
   rw [e,e0]
   cases Df c.name<;>rfl
  have e0:(c.kind != 0)=true:=by simpa using h0
  rw [e0]
  cases Df c.name<;>cases (Ci c.kind==([]:Str))<;>rfl
theorem Y2 (l:List Expr):l.all Ea=l.all Bk:=by
 congr 1
 funext e
 exact (G6 e).symm
theorem AK0 {m:Mov} (h:(((((m.ahead.length:Int) != (m.give.length:Int)) || ((m.back.length:Int) != (m.take.length:Int))) || (!(m.ahead.all Ea))) || (!(m.back.all Ea)))=true):Fo m=false:=by
 rw [Y2,Y2] at h
 unfold Fo
 cases h1:(((m.ahead.length:Int) != (m.give.length:Int)) || ((m.back.length:Int) != (m.take.length:Int))) with
 | true=>rw [pe h1];rfl
 | false =>
  rw [h1] at h
  cases h2:m.ahead.all Bk<;>cases h3:m.back.all Bk<;>simp_all
theorem AK1 {m:Mov} (h:(((((m.ahead.length:Int) != (m.give.length:Int)) || ((m.back.length:Int) != (m.take.length:Int))) || (!(m.ahead.all Ea))) || (!(m.back.all Ea)))=false):G8 m=Mu m∧Fo m=(((Mu m&&m.give.all (Kc m))&&m.take.all Df)&&Mq m):=by
 rw [Y2,Y2] at h
 simp only [Cr,Jv] at h
 have hk:=AGf (m:=m) (by simp only [Cr];exact h.1.1)
 refine ⟨hk,?_⟩
 unfold Fo
 rw [hk,h.1.2,h.2]
 simp
theorem AK2 {m:Mov} (h6:(m.kind==6)=false):Mq m=((m.kind != 3) || (eqE (m.ahead.getD 0 At) (Ds (m.take.getD 0 []))&&eqE (m.back.getD 0 At) (Ds (m.give.getD 0 ⟨[],0⟩).name))):=by
 rw [show (m.kind != 3) = !(m.kind==3) from rfl]
 cases h:(m.kind==3) with
 | true=>rw [AGb h];rfl
 | false=>rw [AGd h h6];rfl
theorem AK3 {m:Mov} (h6:(m.kind==6)=true):Mq m=(m.take.getD 0 []==(m.give.getD 0 ⟨[],0⟩).name):=AGc (by simp at h6 ⊢;omega) h6
theorem c47 (m:Mov) (h:OkMov m) (Hp:List AObj):AFun Tryz.prog 47 [Fv m] Hp (B3 (Fo m)):=by
 refine Ag [.tmp 2] [0] Tryz.func47 Tryz.ntmps47 (fun d=>?_)
 refine Pv ?_;refine Cb [0,1,3,0,8,24,7,127] 7 Ai (by kernel_rfl) ?_;refine Tr ?_;refine z8 ?_;refine A4 ?_;refine jb ?_;refine Z75 ?_
 simp only [Am]
 refine Z72 ?_;refine Z38 ?_;refine V5 ?_;refine Bm Tryz.call76 (fun hB=>c76 m.ahead h.ahead _) ?_;refine Bd ?_;refine Z38 ?_;refine Bm Tryz.call76 (fun hB=>c76 m.back h.back _) ?_;refine Z74 ?_;refine A2 [1,3,4,38] ?_
 refine A3 (fun ht38=>?_) (fun ht38=>?_)
 ·simp only [Am] at ht38
  have hm:=AK0 ht38
  exact ADg
 simp only [Am] at ht38
 obtain ⟨hck,hm0⟩:=AK1 ht38
 refine Z93 ?_;refine A2 [1,3,4,5] ?_
 refine W.join ⟨178,A6 1 (.ro (Nj m)) (A6 3 (A5 (m.take.length:Nat)) (A6 4 (A5 (m.give.length:Nat)) (A6 5 (B3 (Mu m)) (fun _=>.any)))),Hp,[],[],none⟩ ?_ ?_
 ·refine Z1 ?_;refine A2 [1,3,4,5,40] ?_;refine Z99 ?_;refine A2 [1,3,4,5,40,41] ?_
  refine A3 (fun ht41=>?_) (fun ht41=>?_)
  ·refine z9 ?_;refine Z91 ?_;exact B5 (by unfold Mu;first|(simp only [ht38,ht41,hk3,hk6,Da,C8,Fp,Ky,if_true,if_false,Af,↓reduceIte]<;>rfl)|(simp only [ht38,ht41,hk3,Da,C8,Fp,if_true,if_false,Af,↓reduceIte]<;>rfl)|(simp only [ht38,ht41,if_true,if_false,Af,↓reduceIte]<;>rfl))
  refine Z1 ?_;refine A2 [1,3,4,5,40,49] ?_
  refine A3 (fun ht49=>?_) (fun ht49=>?_)
  ·refine z9 ?_;refine Z91 ?_;exact B5 (by unfold Mu;first|(simp only [ht38,ht41,ht49,hk3,hk6,Da,C8,Fp,Ky,if_true,if_false,Af,↓reduceIte]<;>rfl)|(simp only [ht38,ht41,ht49,hk3,Da,C8,Fp,if_true,if_false,Af,↓reduceIte]<;>rfl)|(simp only [ht38,ht41,ht49,if_true,if_false,Af,↓reduceIte]<;>rfl))
  refine Z8 ?_;refine A2 [1,3,4,5,40,57] ?_
  refine A3 (fun ht57=>?_) (fun ht57=>?_)
  ·have hk3:=ht57
   refine Z4 ?_
   refine A3 (fun ht57=>?_) (fun ht57=>?_)
   ·refine z9 ?_;refine L3 ?_;exact Z68
   rw [hk3] at ht57;cases ht57
  have hk3:=ht57
  refine Z31 ?_;refine A2 [1,3,4,5,40,57] ?_;refine Er ?_
  refine A3 (fun ht57=>?_) (fun ht57=>?_)
  ·have hk6:=ht57
   refine z9 ?_;refine L3 ?_;exact Z68
  have hk6:=ht57
  refine Z1 ?_;refine A2 [1,3,4,5,40,66] ?_
  refine A3 (fun ht66=>?_) (fun ht66=>?_)
  ·refine z9 ?_;refine Z91 ?_;exact B5 (by unfold Mu;first|(simp only [ht38,ht41,ht49,ht57,ht57,ht66,hk3,hk6,Da,C8,Fp,Ky,if_true,if_false,Af,↓reduceIte]<;>rfl)|(simp only [ht38,ht41,ht49,ht57,ht57,ht66,hk3,Da,C8,Fp,if_true,if_false,Af,↓reduceIte]<;>rfl)|(simp only [ht38,ht41,ht49,ht57,ht57,ht66,if_true,if_false,Af,↓reduceIte]<;>rfl))
  refine Z1 ?_;refine A2 [1,3,4,5,74] ?_
  refine A3 (fun ht74=>?_) (fun ht74=>?_)
  ·refine z9 ?_;refine L3 ?_;exact Z60
  refine Hy [1,3,4,5] ?_;refine ADk ?_;exact Z60
 refine Z8 ?_;refine A2 [1,3,4,83] ?_
 refine A3 (fun ht83=>?_) (fun ht83=>?_)
 ·have hkf:Mu m=false:=by simpa using ht83
  have hm:Fo m=false:=by rw [hm0,hkf];rfl
  exact ADg
 have hkm:Mu m=true:=by simpa using ht83
 have hct:G8 m=true:=hck.trans hkm
 obtain ⟨hl3,hl4⟩:=Gf hct
 refine Se ?_;refine A2 [1,3,4,6] ?_
 refine Az (α:=Nat) (fun x=>⟨178,A6 1 (.ro (Nj m)) (A6 3 (A5 (m.take.length:Nat)) (A6 4 (A5 (m.give.length:Nat)) (A6 6 (A5 (x:Nat)) (fun _=>.any)))),Hp,[],[],none⟩) (fun x=>x≤m.take.length∧∀(j:Nat) (y:Str),j<x→m.take[j]? = some y→(!Df y)=false) (fun x=>m.take.length-x) (0) ⟨An _,fun j y h=>by omega⟩ (B5 (by simp)) rfl (fun x hx=>?_)
 refine Z33 ?_;refine A2 [1,3,4,6,86] ?_
 refine A3 (fun ht86=>?_) (fun ht86=>?_)
 ·have hlt:x<m.take.length:=by simpa using ht86
  have htk:=h.takes
  refine Xd ?_
  refine A4 (h:=Ac (x) (Ae m.take[x]) (fun _=>Aw hlt)) (hr:=?_)
  refine A4 ?_;refine A8 Tryz.call51 (c51 m.take[x] (h.names _ (Av hlt)) _) ?_;refine A4 ?_;refine A2 [1,3,4,6,95] ?_
  refine A3 (fun ht95=>?_) (fun ht95=>?_)
  ·rw [←Gy] at ht95
   have hm:Fo m=false:=by
    rw [hm0,Rw.2 ⟨_,Av hlt,by simpa using ht95⟩]
    simp
   exact ALv
  rw [←Gy] at ht95
  refine Z70 ?_;refine A2 [1,3,4,6] ?_;exact Ay (x+1) ⟨hlt,C1 hlt hx.2 ht95⟩ (by omega) (Bh rfl)
 have hxe:m.take.length≤x:=by simpa using ht86
 have hta:m.take.all Df=true:=by have:=Il hxe hx.2;rw [Iv] at this;simpa using this
 refine Z44 ?_;refine Z29 ?_;refine A2 [1,4,7] ?_
 refine Az (α:=Nat) (fun k=>⟨178,A6 1 (.ro (Nj m)) (A6 4 (A5 (m.give.length:Nat)) (A6 7 (A5 (k:Nat)) (fun _=>.any))),Hp,[],[],none⟩) (fun k=>k≤m.give.length∧∀(j:Nat) (y:Col),j<k→m.give[j]? = some y→(!Kc m y)=false) (fun k=>m.give.length-k) (0) ⟨An _,fun j y h=>by omega⟩ (B5 (by simp)) rfl (fun k hk=>?_)
 refine Z33 ?_;refine A2 [1,4,7,98] ?_
 refine A3 (fun ht98=>?_) (fun ht98=>?_)
 ·have hlk:k<m.give.length:=by simpa using ht98
  have hgl:=h.gives2
  refine Xd ?_
  refine A4 (h:=Ac (k) (Bj m.give[k]) (fun _=>Aw hlk)) (hr:=?_)
  refine Z10 ?_;refine A2 [1,4,7,8] ?_;refine Z19 ?_
  refine A4 (h:=Ac (k) (Bj m.give[k]) (fun _=>Aw hlk)) (hr:=?_)
  refine Z0 ?_;refine A8 Tryz.call51 (c51 m.give[k].name (h.gives.2 _ (Av hlk)) _) ?_;refine ry ?_;refine V5 ?_;refine Pw ?_;refine Z7 ?_;refine Yt ?_;refine A2 [1,4,7,136] ?_
  refine A3 (fun ht136=>?_) (fun ht136=>?_)
  ·rw [←Gy,fu] at ht136
   have hm:Fo m=false:=by
    rw [hm0,Rw.2 ⟨_,Av hlk,by simpa using ht136⟩]
    simp
   exact ALv
  rw [←Gy,fu] at ht136
  refine Z70 ?_;refine A2 [1,4,7] ?_;exact Ay (k+1) ⟨hlk,C1 hlk hk.2 ht136⟩ (by omega) (Bh rfl)
 have hke:m.give.length≤k:=by simpa using ht98
 have hga:m.give.all (Kc m)=true:=by have:=Il hke hk.2;rw [Iv] at this;simpa using this
 have hm1:Fo m=Mq m:=by rw [hm0,hkm,hga,hta];rfl
 have g1:=fun h0=>P6 (f:=Ab) (l:=m.ahead) (d:=At) h0
 have g2:=fun h0=>P6 (f:=Ab) (l:=m.back) (d:=At) h0
 have g3:=fun h0=>P6 (f:=Ae) (l:=m.take) (d:=[]) h0
 have g4:=fun h0=>P6 (f:=Bj) (l:=m.give) (d:=⟨[],0⟩) h0
 refine Z44 ?_;refine Z33 ?_;refine A2 [1,139] ?_
 refine A3 (fun ht139=>?_) (fun ht139=>?_)
 ·obtain ⟨hl1,hl2⟩:=Qa hct (by rw [ht139];simp)
  have hm:=hm1.trans (AK3 ht139)
  refine APt ?_
  refine Ak (h:=Ac (0) (Ae (m.take.getD 0 [])) (fun _=>g3 (by omega))) (hr:=?_)
  refine Z40 ?_
  refine Ak (h:=Ac (0) (Bj (m.give.getD 0 ⟨[],0⟩)) (fun _=>g4 (by omega))) (hr:=?_)
  refine Z89 ?_;refine Z52 ?_;exact Z94
 have hm:=hm1.trans (AK2 ht139)
 have len3:((m.kind != 3)==false)=true→0<m.ahead.length∧0<m.take.length∧0<m.back.length∧0<m.give.length:=fun hB=>by
  obtain ⟨a1,a2⟩:=Qa hct (by simp at hB;rw [hB];rfl)
  omega
 have and3:∀{b:Bool},(((m.kind != 3)==false)&&b)=true→((m.kind != 3)==false)=true:=fun h=>AJt h
 refine Z4 ?_;refine Cb [0,1,3,7,15,31,63,127,15,271,783,1807,3855,8191,16383,32767,65535,131071,262143,32767,557055,1605631,3702783,7897087,16285695,33554431,67108863,134217727,268435455] 25 Ai (by kernel_rfl) ?_;refine Tr ?_;refine Z56 ?_
 refine Eh (h:=Ac (0) (Ab (m.ahead.getD 0 At)) (fun hB=>g1 (len3 hB).1)) (hr:=?_)
 refine m9 ?_
 refine Eh (h:=Ac (0) (Ae (m.take.getD 0 [])) (fun hB=>g3 (len3 hB).2.1)) (hr:=?_)
 refine Eh ?_;refine H.build (places:=#[(0,1),(1,1),(2,3),(5,1)]) jU (fun w=>by simp) jZ ?_;refine V2 Tryz.call77 (fun hB=>ASd (m.ahead.getD 0 At) (h.ahead.ok _ (O2 (len3 hB).1)) (m.take.getD 0 []) _) ?_;refine m9 ?_
 refine Eh (h:=Ac (0) (Ab (m.back.getD 0 At)) (fun hB=>g2 (len3 (and3 hB)).2.2.1)) (hr:=?_)
 refine m9 ?_
 refine Eh (h:=Ac (0) (Bj (m.give.getD 0 ⟨[],0⟩)) (fun hB=>g4 (len3 (and3 hB)).2.2.2)) (hr:=?_)
 refine Z56 ?_;refine H.build (places:=#[(0,1),(1,1),(2,3),(5,1)]) jU (fun w=>by simp) jZ ?_;refine J0 ?_;refine Bm Tryz.call77 (fun hB=>ASd (m.back.getD 0 At) (h.back.ok _ (O2 (len3 (and3 hB)).2.2.1)) (m.give.getD 0 ⟨[],0⟩).name _) ?_;refine Bd ?_;exact APr

theorem c28 (l:List Mov) (h:OkMovs l) (Hp:List AObj):AFun Tryz.prog 28 [Dz l] Hp (B3 (Pa l)):=by
 refine Ag [.tmp 2] [0] Tryz.func28 Tryz.ntmps28 (fun d=>?_)
 refine j7 ?_;refine A2 [0,6] ?_
 refine A3 (fun ht6=>?_) (fun ht6=>?_)
 ·rw [Am] at ht6
  have hm:Pa l=false:=by
   unfold Pa
   rw [show decide ((l.length:Int)≤8)=false by simp at ht6 ⊢;omega]
   rfl
  exact ADd
 rw [Am] at ht6
 have h8:decide ((l.length:Int)≤8)=true:=by simp at ht6 ⊢;omega
 have hl8:l.length≤8:=by simp at h8;omega
 refine yw ?_
 refine Az (α:=Nat) (fun x=>⟨19,A6 0 (Dz l) (A6 3 (A5 (x:Nat)) (fun _=>.any)),Hp,[],[],none⟩) (fun x=>x≤l.length∧∀(j:Nat) (y:Mov),j<x→l[j]? = some y→(!Fo y)=false) (fun x=>l.length-x) (0) ⟨An _,fun j y h=>by omega⟩ (B5 (by simp)) rfl (fun x hx=>?_)
 refine AHk ?_
 refine A3 (fun ht10=>?_) (fun ht10=>?_)
 ·have hlt:x<l.length:=by simpa using ht10
  refine Sf ?_
  refine A4 (h:=Ac (x) (Fv l[x]) (fun _=>Aw hlt)) (hr:=?_)
  refine A4 ?_;refine A8 Tryz.call47 (c47 l[x] (h.each _ (Av hlt)) _) ?_;refine A4 ?_;refine A2 [0,3,18] ?_
  refine A3 (fun ht18=>?_) (fun ht18=>?_)
  ·have hm:Pa l=false:=by
    unfold Pa
    rw [Rw.2 ⟨_,Av hlt,by simpa using ht18⟩]
    simp
   exact AHd
  refine rg ?_;exact Ay (x+1) ⟨hlt,C1 hlt hx.2 ht18⟩ (by omega) (Bh rfl)
 have hxe:l.length≤x:=by simpa using ht10
 have hm:Pa l=true:=by
  have h2:=Il hxe hx.2
  rw [Iv] at h2
  unfold Pa
  rw [h8]
  simpa using h2
 exact ADh

theorem AK4 (c:List Col) (ms:List Mov):∀k,((Cu c ms k).map Ao)[k]? = some (Ao (colsAt c ms k))
 | 0=>rfl
 | k+1=>by
  have h:=Jn c ms k
  rw [Cu,C5,Dm (by rw [Am];omega),Am,h,O8]
  rfl
theorem ur {c:List Col} {ms:List Mov} {k:Nat} {m:Mov} (hk:ms[k]? = some m) (h:NS c ms k) (he:(Bc (colsAt c ms k) m).2≠0):Du c ms=(Cu c ms k,(Bc (colsAt c ms k) m).2):=by
 unfold NS at h
 rw [h,bq hk,Du,if_pos (by simpa using he)]
 exact N1 (kn c ms k) rfl
theorem ANu {c:List Col} {l:List Mov} (h:((!(D7 c)) || (!(Pa l)))=true):Gr c l=([],1):=if_neg (by unfold Mr;cases h1:D7 c<;>cases h2:Pa l<;>simp_all)
theorem AK5 {c:List Col} {l:List Mov} (h:((!(D7 c)) || (!(Pa l)))=false):Mr c l=true:=by unfold Mr;cases h1:D7 c<;>cases h2:Pa l<;>simp_all
theorem c9 (c:List Col) (hc:OkCols c) (l:List Mov) (h:OkMovs l) (Hp:List AObj):AFun Tryz.prog 9 [Ao c,Dz l] Hp (.tup [Mt (Gr c l).1,A5 (Gr c l).2]):=by
 refine Ag [.tmp 4,.tmp 5] [0,1] Tryz.func9 Tryz.ntmps9 (fun d=>?_)
 refine lv ?_;refine Z29 ?_;refine A8 Tryz.call27 (c27 c hc _) ?_;refine P8 ?_;refine Bm Tryz.call28 (fun hB=>c28 l h _) ?_;refine Z74 ?_;refine A2 [0,1,17] ?_
 refine A3 (fun ht17=>?_) (fun ht17=>?_)
 ·have hm:=ANu ht17
  refine Z2 ?_;refine R.nilTmp 4 1 false ?_;refine A4 ?_;refine Z86 ?_;exact A9 (B1 A7 A7) ⟨by rw [hm];rfl,rfl⟩
 have hmay:=AK5 ht17
 obtain ⟨hmv,hl8⟩:=kp hmay h
 have hmr:Gr c l=Du c l:=if_pos hmay
 refine Z93 ?_;refine Rc ?_;refine Lr ?_;refine A2 [1,6] ?_;refine Z29 ?_;refine A2 [1,6,7] ?_
 refine Az (α:=Nat) (fun x=>⟨47,A6 1 (Dz l) (A6 6 (.slice true 1 ((Cu c l x).map Ao)) (A6 7 (A5 (x:Nat)) (fun _=>.any))),Hp,[],[],none⟩) (fun x=>x≤l.length∧NS c l x) (fun x=>l.length-x) (0) ⟨An _,AJz⟩ (B5 (by simp [Cu])) rfl (fun x hx=>?_)
 refine Z54 ?_;refine A2 [1,6,7,23] ?_
 refine A3 (fun ht23=>?_) (fun ht23=>?_)
 ·have hlt:x<l.length:=by simpa using ht23
  refine Z42 ?_;refine Cb [0,0,3,7,0,0,48,112,255,511,1023,1023,2047,8191] 13 Ai (by kernel_rfl) ?_;refine Z12 ?_
  refine Ak (h:=Ac (x) (Ao (colsAt c l x)) (fun _=>AK4 c l x)) (hr:=?_)
  refine Z40 ?_
  refine Ak (h:=Ac (x) (Fv l[x]) (fun _=>Aw hlt)) (hr:=?_)
  refine Ak ?_;refine Dd Tryz.call29 (c29 (colsAt c l x) (G5 hc (fun m hm=>h.each m hm) x) l[x] (hmv _ (Av hlt)) _) ?_;refine Z12 ?_;refine rq ?_;refine A2 [1,6,7,8,9] ?_;refine Z8 ?_;refine A2 [1,6,7,8,9,39] ?_
  refine A3 (fun ht39=>?_) (fun ht39=>?_)
  ·have he:(Bc (colsAt c l x) l[x]).2≠0:=by simpa using ht39
   have hm:Gr c l=(Cu c l x,(Bc (colsAt c l x) l[x]).2):=hmr.trans (ur (Aa hlt) hx.2 he)
   refine Z25 ?_;refine Z86 ?_;refine Z73 ?_;exact AQv
  have he:(Bc (colsAt c l x) l[x]).2=0:=by simpa using ht39
  refine za ?_
  refine Ed jU Tryz.type22 ?_ ?_ ?_
  ·have hol:=Jn c l x;simp [Tryz.t22];omega
  ·have hol:=Jn c l x;simp [Tryz.t22];omega
  refine Lr ?_;refine A2 [1,6,7] ?_;refine Z84 ?_;refine A2 [1,6,7] ?_
  refine Ay (x+1) ⟨hlt,Y1 (Aa hlt) hx.2 he⟩ (by omega) (Bh ?_)
  rw [Cu,Fz (Aa hlt),C5]
  rfl
 have hxe:x=l.length:=by have:=hx.1;simp at ht23;omega
 have hm:Gr c l=(Cu c l x,0):=by rw [hmr];subst hxe;exact ko hx.2
 refine Z44 ?_;refine Z19 ?_;refine Z78 ?_;exact AQv

theorem ut {n k:Nat} {o:Bool} {a:List Expr} {e:Expr}:Low n (.slice o k (a.map Ab++[Ab e])):=low_slice.2 fun y hy=>by
 rcases En.1 hy with h|h
 ·obtain ⟨m,_,rfl⟩:=D5.1 h
  exact B7 _ _
 rw [Br.1 h]
 exact B7 _ _
theorem Gg {n k:Nat} {o:Bool} {a:List Expr}:Low n (.slice o k (a.map Ab)):=low_slice.2 fun y hy=>by
 obtain ⟨m,_,rfl⟩:=D5.1 hy
 exact B7 _ _
/-! fuse: trees in columns' places. -/
mutual
def putF (c:List Col) (l:List Expr):Expr→Option Expr
 | .mk o t v k=>if o==2 then (if Bn t c<0 then none else some (l.getD (Bn t c).toNat At)) else (AL9 c l k).map fun k'=>.mk o t v k'
def AL9 (c:List Col) (l:List Expr):List Expr→Option (List Expr)
  | []=>some []
  | e::r=>match putF c l e with
    | none=>none
    | some y=>(AL9 c l r).map fun s=>y::s
 end
set_option maxRecDepth 8000
/-! The words of a print. -/
/-! A text between marks. -/
/-! The print of a tree, and its words. -/
/-! What was parsed nests no deeper than may be. -/
/-! What nests too deep is told to be too deep. -/
def F2 (l:List Tok) (x:Expr):Prop:=∀(k:Nat) (S:PS) (rest:List TK),(k=0∨k=1∨k=4∨k=5)→k≤AFb x→S.code=0→S.nest≤30→30<S.nest+wl x→seg l S.i=al x++rest→AFa (k+1) rest→(Hn l (ofL k) (pf l (fam l S.nest) (k+1)) S).2.code=18
/-! What was parsed is right, where the words are the lexer's. -/
/-! The lexer's words. -/
/-! The parse laws where nothing is too deep. -/
/-! The parser from a word on, and of a source. -/
/-! Other trees have other words, and other prints. -/
/-! The laws of printing. -/
theorem T0 {x:Expr} (h:Ea x=true):Es E8 x=true:=by
 unfold Ea at h
 rw [As] at h
 exact h.2
set_option maxRecDepth 4000
end Go.SX.Nb
namespace Go.Proofs
open Go.Shelf Go.RowKit

section
variable {P:Program} (w:World)

end

section
variable {P:Program} {ρ:Ren}

set_option maxHeartbeats 1000000 in
set_option maxRecDepth 100000 in
set_option maxHeartbeats 1000000 in
set_option maxRecDepth 100000 in
set_option maxHeartbeats 2000000 in
set_option maxRecDepth 100000 in
set_option maxHeartbeats 2000000 in
set_option maxRecDepth 100000 in
end
end Go.Proofs

namespace Go.SX.Nb
open Go Go.SX Go.Proofs Go.Shelf
variable [ErrAt]
set_option maxRecDepth 8000
/-! show's builder. -/
end Go.SX.Nb
namespace Go.SX.Nb
open Go Go.SX Go.Proofs
variable [ErrAt]
set_option maxRecDepth 4000
set_option maxRecDepth 8000
/-! How long a print is. -/
set_option maxRecDepth 4000
/-! fuse.Forth and plan.Text. -/
theorem O3 {c:List Col} {m:Mov} (h:(Bc c m).2=0):(Bc c m).1=Ch c m.take++Ba c m∧D7 c=true∧D7 (Bc c m).1=true:=by
 unfold Bc at h ⊢
 split at h
 ·rename_i h1
  exact AMh
 rename_i h1
 rw [if_neg h1]
 split at h
 ·rename_i h2
  exact absurd h (by simpa using h2)
 rename_i h2
 rw [if_neg h2]
 split at h
 ·rename_i h3
  exact absurd h (by simpa using h3)
 rename_i h3
 rw [if_neg h3]
 obtain ⟨a,_,b,d,e⟩:=w8 (by simpa using h1:(D4 c m.take (Ba c m)).2=0)
 rw [e]
 refine ⟨rfl,a,?_⟩
 unfold D7
 rw [b,Pc]
 refine decide_eq_true ?_
 show ((Ch c m.take++Ba c m).length:Int)≤12
 omega
/-! The text. -/
/-! ONE LINE EACH. -/
theorem uu {c:List Col} {ms:List Mov} (he:(Du c ms).2=0):∀k,k≤ms.length→NS c ms k
 | 0,_=>AJz
 | k+1,h=>by
  have ih:=uu he k (by omega)
  have hk:ms[k]? = some ms[k]:=Aa (by omega)
  by_cases ht:(Bc (colsAt c ms k) ms[k]).2=0
  ·exact Y1 hk ih ht
  exact absurd ((uq hk ih ht).symm.trans he) ht
theorem Lx {c:List Col} {ms:List Mov} (he:(Du c ms).2=0) {k:Nat} {m:Mov} (hk:ms[k]? = some m):(Bc (colsAt c ms k) m).2=0:=by
 have hl:=(Ad.1 hk).1
 by_cases ht:(Bc (colsAt c ms k) m).2=0
 ·exact ht
 exact absurd ((uq hk (uu he k (by omega)) ht).symm.trans he) ht
theorem Qc {c:List Col} {ms:List Mov}:∀{n k:Nat},k≤n→(Cu c ms n)[k]? = some (colsAt c ms k)
 | 0,k,h=>by
  have:k=0:=by omega
  subst this;rfl
 | n+1,k,h=>by
  have hl:=Jn c ms n
  rw [Cu]
  by_cases e:k=n+1
  ·subst e
   rw [Dm (by omega),hl,O8]
   rfl
  rw [Dg (by omega)]
  exact Qc (by omega)
theorem Ke {c:List Col} {ms:List Mov} (h:Mr c ms=true):∀m∈ms,Fo m=true:=by
 unfold Mr Pa at h
 simp only [As,B4] at h
 exact h.2.2
theorem Oq {c:List Col} {ms:List Mov} (hc:D7 c=true) (he:(Du c ms).2=0):∀k,D7 (colsAt c ms k)=true
 | 0=>hc
 | k+1=>by
  cases hk:ms[k]? with
  | none =>
   rw [colsAt,hk]
   exact Oq hc he k
  | some m =>
   rw [Fz hk]
   exact (O3 (Lx he hk)).2.2
/-- What a sound migration comes to. -/
theorem H3 {c:List Col} {ms:List Mov} (h:((Cp c ms).2 != 0)=false):Mr c ms=true∧(Du c ms).2=0∧Cp c ms=(Cu c ms ms.length,0):=by
 cases hm:Mr c ms with
 | false=>rw [fq hm] at h;cases h
 | true =>
  by_cases he:(Du c ms).2=0
  ·have e:=ko (uu he ms.length (Aj _))
   exact ⟨rfl,he,W7 hm e⟩
  rw [br hm he] at h
  exact absurd (by simpa using h) he
/-! SoundJoins: one behind the other, in one. -/
/-! image: rows forth and back. -/
/-- image.reckon. -/
def Bf (c:List Col) (row:List Val):List Expr→List Val×Int
 | []=>([],0)
 | x::r=>if (Em x c row).2 != 0 then ([],(Em x c row).2) else if (Bf c row r).2 != 0 then ([],(Bf c row r).2) else ((Em x c row).1::(Bf c row r).1,0)
theorem Ot {c:List Col} {row:List Val}:∀{l:List Expr},(∀(j:Nat) (y:Expr),l[j]? = some y→((Em y c row).2 != 0)=false)→Bf c row l=(l.map (fun e=>(Em e c row).1),0)
 | [],_=>rfl
 | x::r,h=>by
  rw [Bf,Ot (l:=r) (fun j y hy=>h (j+1) y hy),if_neg (by rw [h 0 x rfl];simp),if_neg (by simp)]
  rfl
theorem Ou {c:List Col} {row:List Val}:∀{l:List Expr} {x:Nat} {y:Expr},(∀(j:Nat) (z:Expr),j<x→l[j]? = some z→((Em z c row).2 != 0)=false)→l[x]? = some y→((Em y c row).2 != 0)=true→Bf c row l=([],(Em y c row).2)
 | [],_,_,_,h,_=>by simp at h
 | a::r,0,y,_,h,h1=>by
  have:a=y:=by simpa using h
  subst this
  rw [Bf,if_pos h1]
 | a::r,x+1,y,h0,h,h1=>by
  rw [Bf,if_neg (by rw [h0 0 a (by omega) rfl];simp),Ou (l:=r) (x:=x) (fun j z hj hz=>h0 (j+1) z (by omega) hz) (by simpa using h) h1,if_pos h1]
theorem ABg {e:Expr} (h:E8 e=true):Nz e=true:=by
 unfold Nz
 rw [Zy] at h
 cases hk:(e.op==1) with
 | false=>rfl
 | true =>
  show Cg e.val=true
  have e1:e.op=1:=by simpa using hk
  cases e with
  | mk o t v k =>
   have e1:o=1:=e1
   subst e1
   rw [am] at h
   simp at h
   exact h.1.1.1
mutual
theorem pj:∀e:Expr,Es E8 e=true→Es Nz e=true
 | .mk o t v k,h=>by
  rw [Jj,As] at h ⊢
  exact ⟨ABg h.1,fw k h.2⟩
theorem fw:∀k:List Expr,Ji E8 k=true→Ji Nz k=true
 | [],_=>rfl
 | e::r,h=>by
  rw [Ji,As] at h ⊢
  exact ⟨pj e h.1,fw r h.2⟩
end
theorem AGg {x:Expr} {c:List Col} {row:List Val} (hf:∀v∈row,Fine v) (hr:Es L5 x=true):Fine (Em x c row).1:=by
 show Fine (wm B0 x c row).1
 unfold wm
 split
 ·exact N7
 rename_i h
 simp only [Co,Jc,not_or,gm] at h
 exact R1 hf x (pj x (T0 (by rw [←G6];exact h.1))) hr
theorem Qd {c:List Col} {row:List Val} (hf:∀v∈row,Fine v):∀{l:List Expr},(∀e∈l,Es L5 e=true)→∀v∈(Bf c row l).1,Fine v
 | [],_,v,h=>by cases h
 | x::r,hr,v,h=>by
  rw [Bf] at h
  split at h
  ·cases h
  split at h
  ·cases h
  rcases Bu.1 h with rfl|h
  ·exact AGg hf (hr x Lj)
  exact Qd hf (fun e he=>hr e (.tail _ he)) v h
theorem Ov {c:List Col} {row:List Val}:∀{l:List Expr},(Bf c row l).2=0→(Bf c row l).1.length=l.length
 | [],_=>rfl
 | x::r,h=>by
  rw [Bf] at h ⊢
  split at h
  ·rename_i h1
   rw [show (Em x c row).2=0 from h] at h1
   cases h1
  rename_i h1
  rw [if_neg h1]
  split at h
  ·rename_i h2
   rw [show (Bf c row r).2=0 from h] at h2
   cases h2
  rename_i h2
  rw [if_neg h2]
  simp only [B6]
  rw [Ov (l:=r) (by simpa using h2)]
/-- What is not taken. -/
def Gk (take:List Str) (c:List Col) (row:List Val):List Val:=((c.zip row).filter fun p => !take.contains p.1.name).map (·.2)
theorem bt:∀{c:List Col} {row:List Val} {x:Nat} (hc:x<c.length) (hr:x<row.length),(c.take (x+1)).zip row=(c.take x).zip row++[(c[x],row[x])]
 | y::c,v::row,0,_,_=>by simp
 | y::c,v::row,x+1,hc,hr=>by
  simp only [List.take_succ_cons,List.zip_cons_cons,Fe,List.getElem_cons_succ]
  rw [bt (by simpa using hc) (by simpa using hr)]
 | [],_,_,hc,_=>by simp at hc
 | _::_,[],_,_,hr=>by simp at hr
theorem AK6 {take:List Str} {c:List Col} {row:List Val} {x:Nat} (hc:x<c.length) (hr:x<row.length) (h:take.contains c[x].name=false):Gk take (c.take (x+1)) row=Gk take (c.take x) row++[row[x]]:=by
 unfold Gk
 have hb:(fun p:Col×Val => !take.contains p.1.name) (c[x],row[x])=true:=by show (!take.contains c[x].name)=true;rw [h];rfl
 rw [bt hc hr,gr,C5,List.filter_cons_of_pos (p:=fun p:Col×Val => !take.contains p.1.name) hb]
 rfl
theorem AGh {take:List Str} {c:List Col} {row:List Val} {x:Nat} (hc:x<c.length) (hr:x<row.length) (h:take.contains c[x].name=true):Gk take (c.take (x+1)) row=Gk take (c.take x) row:=by
 unfold Gk
 have hb:¬(fun p:Col×Val => !take.contains p.1.name) (c[x],row[x])=true:=by show ¬(!take.contains c[x].name)=true;rw [h];simp
 rw [bt hc hr,gr,C5,List.filter_cons_of_neg (p:=fun p:Col×Val => !take.contains p.1.name) hb]
 simp
theorem Uh {take:List Str}:∀{c:List Col} {row:List Val},row.length=c.length→(Gk take c row).length=(Ch c take).length
 | [],[],_=>rfl
 | y::c,v::row,h=>by
  have ih:=Uh (take:=take) (c:=c) (row:=row) (by simpa using h)
  unfold Gk Ch at ih ⊢
  rw [List.zip_cons_cons,Pe,Pe]
  cases hc:take.contains y.name<;>simp [hc] at ih ⊢<;>exact ih
 | [],_::_,h=>by simp at h
 | _::_,[],h=>by simp at h
theorem AGi {take:List Str} {c:List Col} {row:List Val} {v:Val} (h:v∈Gk take c row):v∈row:=by
 unfold Gk at h
 obtain ⟨p,hp,rfl⟩:=D5.1 h
 exact (List.of_mem_zip (Ql.1 hp).1).2
/-- image.forth. -/
def E1 (c:List Col) (m:Mov) (row:List Val):List Val×Int:=if (Bf c row m.ahead).2 != 0 then ([],(Bf c row m.ahead).2) else (Gk m.take c row++(Bf c row m.ahead).1,0)
/-- What a column ahead was. -/
def Mx (take:List Str) (was row:List Val) (d:List Col) (x:Col):Val:=if 0≤H6 x.name take then was.getD (H6 x.name take).toNat noV else row.getD (Bn x.name d).toNat noV
/-- image.back. -/
def Cn (a d:List Col) (m:Mov) (row:List Val):List Val×Int:=if (Bf d row m.back).2 != 0 then ([],(Bf d row m.back).2) else (a.map (Mx m.take (Bf d row m.back).1 row d),0)
/-- The row behind k moves. -/
def fwM (c:List Col) (l:List Mov) (row:List Val):Nat→List Val×Int
 | 0=>(row,0)
 | k+1=>if (fwM c l row k).2 != 0 then ([],(fwM c l row k).2) else match l[k]? with
  | none=>fwM c l row k
  | some m=>E1 (colsAt c l k) m (fwM c l row k).1
/-- The row ahead of the last k moves. -/
def bkM (c:List Col) (l:List Mov) (row:List Val):Nat→List Val×Int
 | 0=>(row,0)
 | k+1=>if (bkM c l row k).2 != 0 then ([],(bkM c l row k).2) else match l[l.length-1-k]? with
  | none=>bkM c l row k
  | some m=>Cn (colsAt c l (l.length-1-k)) (colsAt c l (l.length-1-k+1)) m (bkM c l row k).1
/-- image.Forth. -/
def C4 (c:List Col) (l:List Mov) (row:List Val):List Val×Int:=if ((Cp c l).2 != 0) || !F4 c row then ([],1) else fwM c l row l.length
/-- image.Back. -/
def Ew (c:List Col) (l:List Mov) (row:List Val):List Val×Int:=if ((Cp c l).2 != 0) || !F4 (colsAt c l l.length) row then ([],1) else bkM c l row l.length
/-- image.Old. -/
def di (c:List Col) (l:List Mov) (row:List Val):List Val×Int:=if (Ew c l row).2 != 0 then ([],(Ew c l row).2) else if (C4 c l (Ew c l row).1).2 != 0 then ([],(C4 c l (Ew c l row).1).2) else if !decide ((C4 c l (Ew c l row).1).1=row) then ([],14) else ((Ew c l row).1,0)
/-- image.Faithful. -/
def Ow (c:List Col) (l:List Mov) (row:List Val):Bool:=if (C4 c l row).2 != 0 then false else ((Ew c l (C4 c l row).1).2==0)&&decide ((Ew c l (C4 c l row).1).1=row)
/-- A row that may be walked: as long as its columns are many, its values fine. -/
structure RowI (c:List Col) (row:List Val):Prop where
 len:row.length=c.length
 fine:∀v∈row,Fine v
theorem Qe {c:List Col} {row:List Val} (h:F4 c row=true) (hr:∀v∈row, -9223372036854775808≤v.n∧v.n≤9223372036854775807):RowI c row:=by
 unfold F4 at h
 simp only [As,beq_iff_eq,B4] at h
 refine ⟨h.1.2,fun v hv=>⟨?_,(hr v hv).1,(hr v hv).2⟩⟩
 obtain ⟨j,hj,rfl⟩:=Qi hv
 have hj2:j<c.length:=by omega
 have:=h.2 (row[j],c[j]) (B2 (i:=j) (by rw [Ry];exact ⟨Aa hj,Aa hj2⟩))
 exact this.1
theorem W8 {c:List Col} {m:Mov} {row:List Val} (ht:(Bc c m).2=0) (hm:Fo m=true) (hg:∀e∈m.ahead,Es L5 e=true) (h:RowI c row) (hf:(E1 c m row).2=0):RowI (Bc c m).1 (E1 c m row).1:=by
 unfold E1 at hf ⊢
 split at hf
 ·rename_i h1
  rw [show (Bf c row m.ahead).2=0 from hf] at h1
  cases h1
 rename_i h1
 rw [if_neg h1]
 have hl:=Ov (c:=c) (row:=row) (l:=m.ahead) (by simpa using h1)
 refine ⟨?_,fun v hv=>?_⟩
 ·rw [(O3 ht).1,Ap,Ap,Uh h.len,hl,J9,(Gf (M5 hm)).1]
 rcases En.1 hv with h2|h2
 ·exact h.fine v (AGi h2)
 exact Qd h.fine hg v h2
theorem fx {row:List Val} (h:∀v∈row,Fine v) (n:Nat):Fine (row.getD n noV):=by
 rw [D3]
 cases hn:row[n]? with
 | none=>exact N7
 | some v=>exact h v (B2 hn)
theorem pk {a d:List Col} {m:Mov} {row:List Val} (hg:∀e∈m.back,Es L5 e=true) (h:RowI d row) (hf:(Cn a d m row).2=0):RowI a (Cn a d m row).1:=by
 unfold Cn at hf ⊢
 split at hf
 ·rename_i h1
  rw [show (Bf d row m.back).2=0 from hf] at h1
  cases h1
 rename_i h1
 rw [if_neg h1]
 refine ⟨Am _,fun v hv=>?_⟩
 obtain ⟨x,_,rfl⟩:=D5.1 hv
 unfold Mx
 split
 ·exact fx (Qd h.fine hg) _
 exact fx h.fine _
theorem Ui {c:List Col} {l:List Mov} {row:List Val} {k:Nat} {m:Mov} (hk:l[k]? = some m) (h:(fwM c l row k).2=0):fwM c l row (k+1)=E1 (colsAt c l k) m (fwM c l row k).1:=by
 rw [fwM,if_neg (by rw [h];simp),hk]
theorem Uj {c:List Col} {l:List Mov} {row:List Val} {k:Nat} {m:Mov} (hk:l[l.length-1-k]? = some m) (h:(bkM c l row k).2=0):bkM c l row (k+1)=Cn (colsAt c l (l.length-1-k)) (colsAt c l (l.length-1-k+1)) m (bkM c l row k).1:=by
 rw [bkM,if_neg (by rw [h];simp),hk]
theorem kr {c:List Col} {l:List Mov} {row:List Val} {k:Nat} (h:(fwM c l row k).2≠0):∀n,k<n→fwM c l row n=([],(fwM c l row k).2)
 | 0,hn=>by omega
 | n+1,hn=>by
  by_cases hk:k=n
  ·subst hk
   rw [fwM,if_pos (by simpa using h)]
  rw [fwM,kr h n (by omega),if_pos (by simpa using h)]
theorem kt {c:List Col} {l:List Mov} {row:List Val} {k:Nat} (h:(bkM c l row k).2≠0):∀n,k<n→bkM c l row n=([],(bkM c l row k).2)
 | 0,hn=>by omega
 | n+1,hn=>by
  by_cases hk:k=n
  ·subst hk
   rw [bkM,if_pos (by simpa using h)]
  rw [bkM,kt h n (by omega),if_pos (by simpa using h)]
theorem bu {c:List Col} {m:Mov} {row:List Val} (h:(E1 c m row).2≠0):(E1 c m row).1=[]:=by
 unfold E1 at h ⊢
 split
 ·rfl
 rename_i h1
 rw [if_neg h1] at h
 exact absurd rfl h
theorem g0 {a d:List Col} {m:Mov} {row:List Val} (h:(Cn a d m row).2≠0):(Cn a d m row).1=[]:=by
 unfold Cn at h ⊢
 split
 ·rfl
 rename_i h1
 rw [if_neg h1] at h
 exact absurd rfl h
/-- A failing move ends it. -/
theorem xc {c:List Col} {l:List Mov} {row:List Val} {k:Nat} {m:Mov} (hk:l[k]? = some m) (h:(fwM c l row k).2=0) (hb:(E1 (colsAt c l k) m (fwM c l row k).1).2≠0):fwM c l row l.length=([],(E1 (colsAt c l k) m (fwM c l row k).1).2):=by
 have e:=Ui hk h
 have hl:=(Ad.1 hk).1
 by_cases h1:k+1=l.length
 ·rw [←h1,e]
  exact N1 (bu hb) rfl
 have:=kr (c:=c) (l:=l) (row:=row) (k:=k+1) (by rw [e];exact hb) l.length (by omega)
 rw [this,e]
theorem AK7 {c:List Col} {l:List Mov} {row:List Val} {k:Nat} {m:Mov} (hl:k<l.length) (hk:l[l.length-1-k]? = some m) (h:(bkM c l row k).2=0) (hb:(Cn (colsAt c l (l.length-1-k)) (colsAt c l (l.length-1-k+1)) m (bkM c l row k).1).2≠0):bkM c l row l.length=([],(Cn (colsAt c l (l.length-1-k)) (colsAt c l (l.length-1-k+1)) m (bkM c l row k).1).2):=by
 have e:=Uj hk h
 by_cases h1:k+1=l.length
 ·rw [h1] at e
  rw [e]
  exact N1 (g0 hb) rfl
 have:=kt (c:=c) (l:=l) (row:=row) (k:=k+1) (by rw [e];exact hb) l.length (by omega)
 rw [this,e]
theorem Db {n k:Nat} {o:Bool} {l:List Val}:Low n (.slice o k (l.map Bi)):=by simp [or_imp,forall_and]
theorem Hc {n k:Nat} {o:Bool} {l:List Val} {v:Val}:Low n (.slice o k (l.map Bi++[Bi v])):=by simp [or_imp,forall_and]
theorem pl {l:List Val} {j:Nat} (h:j<l.length):(l.map Bi)[j]? = some (Bi (l.getD j noV)):=by
 rw [Ce,Aa h,D3,Aa h];rfl
theorem Qf {l:List Val} (h:∀v∈l,Fine v):∀v∈l, -9223372036854775808≤v.n∧v.n≤9223372036854775807:=fun v hv=>⟨(h v hv).lo,(h v hv).hi⟩
theorem g7 {c:List Col} {row:List Val}:∀{l:List Expr},(Bf c row l).1.length≤l.length
 | []=>Aj _
 | x::r=>by
  rw [Bf]
  repeat' split
  ·exact rz
  ·exact rz
  have:=g7 (c:=c) (row:=row) (l:=r)
  simp only [B6]
  omega
theorem xd {take:List Str} {c:List Col} {row:List Val}:(Gk take c row).length≤c.length:=by
 unfold Gk
 rw [Am]
 refine Ir (v6 _ _) ?_
 rw [List.length_zip]
 omega
theorem Y3 {v:Str} {l:List Str} (h:0≤H6 v l):∃j:Nat,H6 v l=j∧j<l.length:=by
 unfold H6 at h ⊢
 cases hf:l.findIdx? (·==v) with
 | none=>rw [hf] at h;exact absurd h (by decide)
 | some i=>exact ⟨i,rfl,(Jx.1 hf).1⟩
theorem pm {nm:Str} {c:List Col} {y:Col} (h:y∈c) (hn:y.name=nm):∃j:Nat,Bn nm c=j∧j<c.length:=by
 unfold Bn
 cases hf:c.findIdx? (fun y=>y.name==nm) with
 | none =>
  rw [Rx] at hf
  have:=hf y h
  rw [hn] at this
  simp at this
 | some i=>exact ⟨i,rfl,(Jx.1 hf).1⟩
/-- A column that is not taken is there behind the move. -/
theorem AGj {c:List Col} {m:Mov} {y:Col} (ht:(Bc c m).2=0) (hy:y∈c) (hn:¬0≤H6 y.name m.take):∃j:Nat,Bn y.name (Bc c m).1=j∧j<(Bc c m).1.length:=by
 refine pm (y:=y) ?_ rfl
 rw [(O3 ht).1]
 refine Xl _ ?_
 unfold Ch
 rw [Ql]
 refine ⟨hy,?_⟩
 rw [←jq,decide_eq_false hn]
 rfl
theorem c26 (a b:List Val) (ha:a.length≤1048576) (Hp:List AObj):AFun Tryz.prog 26 [Bt a,Bt b] Hp (B3 (decide (a=b))):=by
 refine Ag [.tmp 4] [0,1] Tryz.func26 Tryz.ntmps26 (fun d=>?_)
 refine Z62 ?_;refine Oh ?_;refine A2 [0,1,10] ?_
 refine A3 (fun ht10=>?_) (fun ht10=>?_)
 ·refine Z90 ?_;exact AP0
 refine Nn ?_;refine A2 [0,1,12,13] ?_
 refine Az (α:=Nat) (fun x=>⟨26,A6 0 (Bt a) (A6 1 (Bt b) (A6 12 (A5 (a.length:Nat)) (A6 13 (A5 (x:Nat)) (fun _=>.any)))),Hp,[],[],none⟩) (fun x=>x≤a.length∧∀(j:Nat) (y:Val),j<x→a[j]? = some y→b[j]? = some y) (fun x=>a.length-x) (0) (by simp) (B5 (by simp)) rfl (fun x hx=>?_)
 refine Z2 ?_;refine A2 [0,1,12,13,14] ?_
 refine Ei (fun ht14=>?_) (fun ht14=>?_)
 ·have hlt:x<a.length:=by simpa using ht14
  have hlb:x<b.length:=by have:=AE7 ht10;omega
  refine Z18 ?_;refine Z1 ?_;refine A2 [0,1,5,12,13] ?_;refine ALu ?_
  refine Ak (h:=Ac (x) (Bi a[x]) (fun _=>Aw hlt)) (hr:=?_)
  refine Z40 ?_
  refine Ak (h:=Ac (x) (Bi b[x]) (fun _=>Aw hlb)) (hr:=?_)
  refine Sd ?_
  refine A4 (h:=Q.neqAgg Tu (Hm a[x].kind a[x].n b[x].kind b[x].n a[x].s b[x].s)) (hr:=?_)
  refine A2 [0,1,12,13,24] ?_
  refine A3 (fun ht24=>?_) (fun ht24=>?_)
  ·rw [Xv] at ht24
   refine Z90 ?_;refine Tq ?_;exact A9 (Ah A7) ⟨by rw [AR8 hlt hlb (by simpa using ht24)],rfl⟩
  rw [Xv] at ht24
  refine Nm ?_;refine A2 [0,1,12,13] ?_
  exact Ay (x+1) ⟨hlt,I1 (p:=fun j y=>b[j]? = some y) hlt hx.2 (by rw [Aa hlb];simpa using (Eq.symm (by simpa using ht24):b[x]=a[x]))⟩ (by omega) (Bh rfl)
 have hxe:a.length≤x:=by simpa using ht14
 refine Tt ?_;refine Z39 ?_;exact A9 (Ah A7) ⟨by rw [AKz (by simpa using ht10) (J5 hxe hx.2)],rfl⟩

theorem c23 (l:List Val) (hl:l.length≤1048576) (Hp:List AObj):AFun Tryz.prog 23 [Bt l] Hp (Bt l):=by
 refine Ag [.tmp 2] [0] Tryz.func23 Tryz.ntmps23 (fun d=>?_)
 refine rx ?_
 refine R.eqlNil jU (by kernel_rfl) (fun b hb=>?_)
 refine A2 [0,4] ?_
 refine A3 (fun ht4=>?_) (fun ht4=>?_)
 ·have hl0:l=[]:=by simpa using hb ht4
  subst hl0
  refine Z2 ?_;refine R.nilTmp 2 3 false ?_;refine Z3 ?_;exact AQ5
 refine Z4 ?_;refine Z85 ?_;refine A4 ?_
 refine Ed jU Tryz.type42 ?_ ?_ ?_
 ·simp [Tryz.t42];omega
 ·simp [Tryz.t42];omega
 refine Lr ?_;exact AQa

theorem c44 (c:List Col) (hc:OkCols c) (row:List Val) (hf:∀v∈row,Fine v) (hrl:row.length≤1048576) (l:List Expr) (h:OkEs l) (Hp:List AObj):AFun Tryz.prog 44 [L8 l,Ao c,Bt row] Hp (.tup [Bt (Bf c row l).1,A5 (Bf c row l).2]):=by
 refine Ag [.tmp 6,.tmp 7] [0,1,2] Tryz.func44 Tryz.ntmps44 (fun d=>?_)
 refine yu ?_;refine Z2 ?_;refine s6 ?_;refine Z75 ?_
 have hlen:=h.len
 refine Sa 8 3 ?_;refine Z10 ?_;refine A2 [1,2,8,13,14,15] ?_
 refine Az (α:=Nat) (fun x=>⟨35,A6 1 (Ao c) (A6 2 (Bt row) (A6 8 (.slice true 3 (((l.take x).map fun e=>(Em e c row).1).map Bi)) (A6 13 (L8 l) (A6 14 (A5 (l.length:Nat)) (A6 15 (A5 (x:Nat)) (fun _=>.any)))))),Hp,[],[],none⟩) (fun x=>x≤l.length∧∀(j:Nat) (y:Expr),j<x→l[j]? = some y→((Em y c row).2 != 0)=false) (fun x=>l.length-x) (0) ⟨An _,fun j y h=>by omega⟩ (B5 (by simp)) rfl (fun x hx=>?_)
 refine Z2 ?_;refine A2 [1,2,8,13,14,15,16] ?_
 refine Ei (fun ht16=>?_) (fun ht16=>?_)
 ·have hlt:x<l.length:=by simpa using ht16
  refine X9 ?_
  refine A4 (h:=Ac (x) (Ab l[x]) (fun _=>Aw hlt)) (hr:=?_)
  refine Xc ?_;refine A2 [1,2,8,10,13,14,15] ?_;refine Z19 ?_;refine A8 Tryz.call73 (c73 61 l[x] (h.ok _ (Av hlt)) (by decide) (h.rng _ (Av hlt)) c hc row hrl (Qf hf) _) ?_;refine Yu ?_;refine A2 [1,2,8,11,12,13,14,15] ?_;refine Z8 ?_;refine A2 [1,2,8,11,12,13,14,15,27] ?_
  refine A3 (fun ht27=>?_) (fun ht27=>?_)
  ·have hm:=Ou hx.2 (Aa hlt) ht27
   refine ma ?_;refine Z13 ?_;exact AP5
  refine za ?_
  refine Ed jU Tryz.type42 ?_ ?_ ?_
  ·simp only [Am,Bx,Ap,B6,Bw,Tryz.t42];omega
  ·simp only [Am,Bx,Ap,B6,Bw,Tryz.t42];omega
  refine Lr ?_;refine A2 [1,2,8,13,14,15] ?_;refine j6 ?_;refine A2 [1,2,8,13,14,15] ?_;refine Ay (x+1) ⟨hlt,C1 hlt hx.2 ht27⟩ (by omega) ?_
  rw [Kd hlt,C5,C6,Ee]
  exact Dp (own:=[]) (fun _=>.refl _) (by repeat (first|exact Bq|refine Bp (by first|exact Gg|exact Db|exact Hc|exact Fg|exact Di|exact El|exact Low.ro _ Lw|(simp [or_imp,forall_and];done)) ?_)) (by simp) (by simp)
 have hxe:l.length≤x:=by simpa using ht16
 have hm:=Ot (c:=c) (row:=row) fun j y hy=>hx.2 j y (by have:=(Ad.1 hy).1;omega) hy
 rw [D8 hxe]
 refine Z26 ?_;refine rh ?_;refine Dc ?_;exact A9 (B1 A7 A7) ⟨by rw [hm],rfl⟩ (hlow:=by simpa using (Db (n:=Hp.length) (k:=3) (o:=false) (l:=l.map fun e=>(Em e c row).1)))

theorem c36 (c:List Col) (hc:OkCols c) (m:Mov) (h:OkMov m) (row:List Val) (hf:∀v∈row,Fine v) (hl:row.length=c.length) (Hp:List AObj):AFun Tryz.prog 36 [Ao c,Fv m,Bt row] Hp (.tup [Bt (E1 c m row).1,A5 (E1 c m row).2]):=by
 have hcl:=hc.len
 have hrk:=g7 (c:=c) (row:=row) (l:=m.ahead)
 have hal:=h.ahead.len
 refine Ag [.tmp 6,.tmp 7] [0,1,2] Tryz.func36 Tryz.ntmps36 (fun d=>?_)
 refine Z19 ?_;refine A2 [0,2,4] ?_;refine Z25 ?_;refine A8 Tryz.call44 (c44 c hc row hf (by omega) m.ahead h.ahead _) ?_;refine Z59 ?_;refine A2 [0,2,4,8,9] ?_;refine Z8 ?_;refine A2 [0,2,4,8,9,22] ?_
 refine A3 (fun ht22=>?_) (fun ht22=>?_)
 ·have hm:E1 c m row=([],(Bf c row m.ahead).2):=if_pos ht22
  refine ma ?_;exact Z55
 have hm:E1 c m row=(Gk m.take c row++(Bf c row m.ahead).1,0):=if_neg (by rw [ht22];simp)
 refine Z93 ?_;refine A2 [0,2,4,8,10] ?_;refine Z75 ?_;refine Sa 10 3 ?_;refine Z10 ?_;refine A2 [2,4,8,10,24,25,26] ?_
 refine Az (α:=Nat) (fun x=>⟨48,A6 2 (Bt row) (A6 4 (.ro (Nj m)) (A6 8 (Bt (Bf c row m.ahead).1) (A6 10 (.slice true 3 ((Gk m.take (c.take x) row).map Bi)) (A6 24 (Ao c) (A6 25 (A5 (c.length:Nat)) (A6 26 (A5 (x:Nat)) (fun _=>.any))))))),Hp,[],[],none⟩) (fun x=>x≤c.length) (fun x=>c.length-x) (0) (An _) (B5 (by simp [Gk])) rfl (fun x hx=>?_)
 refine Z2 ?_;refine A2 [2,4,8,10,24,25,26,27] ?_
 refine Ei (fun ht27=>?_) (fun ht27=>?_)
 ·have hlt:x<c.length:=by simpa using ht27
  have hxr:x<row.length:=by omega
  have hkl:=xd (take:=m.take) (c:=c.take x) (row:=row)
  rw [Bx] at hkl
  refine Ts ?_
  refine A4 (h:=Ac (x) (Bj c[x]) (fun _=>Aw hlt)) (hr:=?_)
  refine rn ?_;refine A2 [2,4,8,10,11,12,24,25,26] ?_;refine Z25 ?_;refine A8 Tryz.call61 (c61 m.take c[x].name h.takes _) ?_;refine A4 ?_;refine A2 [2,4,8,10,11,24,25,26,36] ?_
  refine A3 (fun ht36=>?_) (fun ht36=>?_)
  ·have hk:=AK6 hlt hxr (by simpa using ht36)
   refine Z92 ?_;refine Z0 ?_
   refine A4 (h:=Ac (x) (Bi row[x]) (fun _=>Aw hxr)) (hr:=?_)
   refine Z53 ?_
   refine Ed jU Tryz.type42 ?_ ?_ ?_
   ·simp only [Am,Bx,Ap,B6,Bw,Tryz.t42];omega
   ·simp only [Am,Bx,Ap,B6,Bw,Tryz.t42];omega
   refine Lr ?_;refine A2 [2,4,8,10,24,25,26] ?_;refine j6 ?_;refine A2 [2,4,8,10,24,25,26] ?_;refine ADs ?_
   simp only [hk,C5,C6,Ee]
   exact Dp (own:=[]) (fun _=>.refl _) (by repeat (first|exact Bq|refine Bp (by first|exact Gg|exact Db|exact Hc|exact Fg|exact Di|exact El|exact Low.ro _ Lw|(simp [or_imp,forall_and];done)) ?_)) (by simp) (by simp)
  have hk:=AGh hlt hxr (by simpa using ht36)
  refine Nm ?_;refine A2 [2,4,8,10,24,25,26] ?_;refine ADs ?_
  simp only [hk,C5,C6,Ee]
  exact Dp (own:=[]) (fun _=>.refl _) (by repeat (first|exact Bq|refine Bp (by first|exact Gg|exact Db|exact Hc|exact Fg|exact Di|exact El|exact Low.ro _ Lw|(simp [or_imp,forall_and];done)) ?_)) (by simp) (by simp)
 have hxe:c.length≤x:=by simpa using ht27
 rw [D8 hxe]
 have hkl:=xd (take:=m.take) (c:=c) (row:=row)
 refine Z26 ?_;refine Eb ?_;refine R.moveT ?_;refine A4 ?_
 refine Ed jU Tryz.type42 ?_ ?_ ?_
 ·simp only [Am,Bx,Ap,B6,Bw,Tryz.t42];omega
 ·simp only [Am,Bx,Ap,B6,Bw,Tryz.t42];omega
 refine Lr ?_;refine Z61 ?_;refine Dc ?_;exact A9 (B1 A7 A7) ⟨by rw [hm,←C5]<;>rfl,rfl⟩ (hlow:=by rw [←C5];simpa using (Db (n:=Hp.length) (k:=3) (o:=false) (l:=Gk m.take c row++(Bf c row m.ahead).1)))

theorem c25 (a dd:List Col) (ha:a.length≤1048576) (hd:OkCols dd) (m:Mov) (h:OkMov m) (hb:m.back.length=m.take.length) (hs:∀y∈a,¬0≤H6 y.name m.take→∃j:Nat,Bn y.name dd=j∧j<dd.length) (row:List Val) (hf:∀v∈row,Fine v) (hl:row.length=dd.length) (Hp:List AObj):AFun Tryz.prog 25 [Ao a,Ao dd,Fv m,Bt row] Hp (.tup [Bt (Cn a dd m row).1,A5 (Cn a dd m row).2]):=by
 have hdl:=hd.len
 refine Ag [.tmp 8,.tmp 9] [0,1,2,3] Tryz.func25 Tryz.ntmps25 (fun d=>?_)
 refine Z19 ?_;refine A2 [0,1,3,6] ?_;refine Z25 ?_;refine A8 Tryz.call44 (c44 dd hd row hf (by omega) m.back h.back _) ?_;refine Z59 ?_;refine A2 [0,1,3,6,10,11] ?_;refine Z8 ?_;refine A2 [0,1,3,6,10,11,25] ?_
 refine A3 (fun ht25=>?_) (fun ht25=>?_)
 ·have hm:Cn a dd m row=([],(Bf dd row m.back).2):=if_pos ht25
  refine Z1 ?_;refine R.nilTmp 8 3 false ?_;refine A4 ?_;refine A2 [8,9] ?_;exact Z55
 have hm:Cn a dd m row=((a.map (Mx m.take (Bf dd row m.back).1 row dd)),0):=if_neg (by rw [ht25];simp)
 have hwl:=Ov (c:=dd) (row:=row) (l:=m.back) (by simpa using ht25)
 refine Z93 ?_;refine A2 [0,1,3,6,10,12] ?_;refine Z75 ?_;refine Sa 12 3 ?_;refine Z10 ?_;refine ADx ?_
 refine Az (α:=Nat) (fun x=>⟨59,A6 1 (Ao dd) (A6 3 (Bt row) (A6 6 (.ro (Nj m)) (A6 10 (Bt (Bf dd row m.back).1) (A6 12 (.slice true 3 (((a.map (Mx m.take (Bf dd row m.back).1 row dd)).take x).map Bi)) (A6 27 (Ao a) (A6 28 (A5 (a.length:Nat)) (A6 29 (A5 (x:Nat)) (fun _=>.any)))))))),Hp,[],[],none⟩) (fun x=>x≤a.length) (fun x=>a.length-x) (0) (An _) (B5 (by simp)) rfl (fun x hx=>?_)
 refine Z2 ?_;refine A2 [1,3,6,10,12,27,28,29,30] ?_
 refine Ei (fun ht30=>?_) (fun ht30=>?_)
 ·have hlt:x<a.length:=by simpa using ht30
  have hol:((a.map (Mx m.take (Bf dd row m.back).1 row dd)).take x).length≤x:=List.length_take_le _ _
  have hon:(a.map (Mx m.take (Bf dd row m.back).1 row dd)).take (x+1)=(a.map (Mx m.take (Bf dd row m.back).1 row dd)).take x++[Mx m.take (Bf dd row m.back).1 row dd a[x]]:=by
   rw [Ip (by rw [Am];exact hlt),Li]
  refine X9 ?_
  refine A4 (h:=Ac (x) (Bj a[x]) (fun _=>Aw hlt)) (hr:=?_)
  refine Xc ?_;refine A2 [1,3,6,10,12,14,27,28,29] ?_;refine Z54 ?_;refine A8 Tryz.call45 (c45 m.take a[x].name h.takes _) ?_;refine A4 ?_;refine A2 [1,3,6,10,12,14,15,27,28,29] ?_;refine Z1 ?_;refine A2 [1,3,6,10,12,14,15,27,28,29,39] ?_
  refine A3 (fun ht39=>?_) (fun ht39=>?_)
  ·have hj0:0≤H6 a[x].name m.take:=by simpa using ht39
   obtain ⟨j,hj,hjl⟩:=Y3 hj0
   have hw:Mx m.take (Bf dd row m.back).1 row dd a[x]=(Bf dd row m.back).1.getD j noV:=by unfold Mx;rw [if_pos hj0,hj];rfl
   refine Eb ?_;refine R.moveT ?_;refine Z0 ?_
   refine A4 (h:=Ac (j) (Bi ((Bf dd row m.back).1.getD j noV)) (fun _=>pl (by omega))) (hr:=?_)
   refine Z53 ?_
   refine Ed jU Tryz.type42 ?_ ?_ ?_
   ·simp only [Am,Bx,Ap,B6,Bw,Tryz.t42];omega
   ·simp only [Am,Bx,Ap,B6,Bw,Tryz.t42];omega
   refine Lr ?_;refine ADx ?_;refine Z32 ?_;refine K.blE ?_;refine Er ?_;refine Z31 ?_;refine ADx ?_;refine ADs ?_
   rw [hon,hw,C5,C6,Ee]
   exact Dp (own:=[]) (fun _=>.refl _) (by repeat (first|exact Bq|refine Bp (by first|exact Gg|exact Db|exact Hc|exact Fg|exact Di|exact El|exact Low.ro _ Lw|(simp [or_imp,forall_and];done)) ?_)) (by simp) (by simp)
  have hjn:¬0≤H6 a[x].name m.take:=by simpa using ht39
  obtain ⟨j,hj,hjl⟩:=hs a[x] (Av hlt) hjn
  have hw:Mx m.take (Bf dd row m.back).1 row dd a[x]=row.getD j noV:=by unfold Mx;rw [if_neg hjn,hj];rfl
  refine AM7 ?_;refine Z72 ?_;refine A8 Tryz.call46 (c46 dd hd a[x].name _) ?_
  refine A4 (h:=Ac (j) (Bi (row.getD j noV)) (fun _=>pl (by omega))) (hr:=?_)
  refine Z53 ?_
  refine Ed jU Tryz.type42 ?_ ?_ ?_
  ·simp only [Am,Bx,Ap,B6,Bw,Tryz.t42];omega
  ·simp only [Am,Bx,Ap,B6,Bw,Tryz.t42];omega
  refine Lr ?_;refine ADx ?_;refine j6 ?_;refine ADx ?_;refine ADs ?_
  rw [hon,hw,C5,C6,Ee]
  exact Dp (own:=[]) (fun _=>.refl _) (by repeat (first|exact Bq|refine Bp (by first|exact Gg|exact Db|exact Hc|exact Fg|exact Di|exact El|exact Low.ro _ Lw|(simp [or_imp,forall_and];done)) ?_)) (by simp) (by simp)
 have hxe:a.length≤x:=by simpa using ht30
 rw [D8 (by rw [Am];exact hxe)]
 refine Z26 ?_;refine Z19 ?_;refine A2 [8,9] ?_;refine Dc ?_;exact A9 (B1 A7 A7) ⟨by rw [hm],rfl⟩ (hlow:=by simpa using (Db (n:=Hp.length) (k:=3) (o:=false) (l:=(a.map (Mx m.take (Bf dd row m.back).1 row dd)))))

theorem O4 {ks:List Expr} {i:Nat} (h:i<ks.length):(ks.map Ab)[i]? = some (Ab (ks.getD i At)):=by
 rw [Ce,Aa h,D3,Aa h]
 rfl
theorem AK8 (v:Val) (k n:Int) (s:Str):(v.kind==k&&v.n==n&&v.s==s)=(v==⟨k,n,s⟩):=by
 obtain ⟨a,b,c⟩:=v
 rw [N9]
 simp [Val.mk.injEq,and_assoc]
theorem Y4 (v s:Val):(v.kind==s.kind&&v.n==s.n&&v.s==s.s)=(v==s):=AK8 v s.kind s.n s.s
theorem AK9 {x:Expr} (k6:x.op=6→Cc x.text=(x.kids.length:Int)) (h:(x.op==6)=true) (ht:(x.text==P9)=true):1<x.kids.length:=by
 have e:=eq_of_beq ht
 rcases Kb (k6 (eq_of_beq h)) with ⟨q,_⟩|⟨q,_⟩|⟨q,_⟩|⟨q,_⟩|⟨_,q⟩|⟨q,_⟩|⟨q,_⟩|⟨q,_⟩
 all_goals first|omega|(rw [e] at q;exact absurd q (by decide))
theorem ANv {x:Expr} (k6:x.op=6→Cc x.text=(x.kids.length:Int)) (h:(x.op==6)=true) (ht:(x.text==ifW)=true):2<x.kids.length:=by
 have e:=eq_of_beq ht
 rcases Kb (k6 (eq_of_beq h)) with ⟨q,_⟩|⟨q,_⟩|⟨q,_⟩|⟨q,_⟩|⟨q,_⟩|⟨q,_⟩|⟨q,_⟩|⟨_,q⟩
 all_goals first|omega|(rw [e] at q;exact absurd q (by decide))
theorem AGk {l:List Val} {i:Nat} (h:i<l.length):(l.map Bi)[i]? = some (Bi (l.getD i noV)):=by
 rw [Ce,Aa h,D3,Aa h]
 rfl
/-- What the second kid comes to. -/
def bR (c:List Col) (l:List Val) (x:Expr):Val:=if x.kids.length=2 then (Al c l (x.kids.getD 1 At)).1 else ⟨9,0,[]⟩
theorem ABh (n:Int) (k:Nat):∃m:Nat,Oo n (k:Int)=(m:Int)∧m≤k:=by
 unfold Oo
 split
 ·exact ⟨0,rfl,An _⟩
 split
 ·rename_i h h2
  simp at h h2
  exact ⟨n.toNat,by omega,by omega⟩
 exact ⟨k,rfl,Aj _⟩




set_option maxHeartbeats 8000000 in
theorem c32 (c:List Col) (l:List Val) (hc:OkCols c) (hl:l.length=c.length) (hf:∀v∈l,Fine v):∀(n:Nat) (x:Expr),okE n x→Es E8 x=true→Es L5 x=true→∀Hp:List AObj,AFun Tryz.prog 32 [Ab x,Ao c,Bt l] Hp (Q6 (Al c l x)):=by
 intro n
 induction n with
 | zero=>exact fun x h=>h.elim
 | succ n ih =>
 intro x hok hnode hrng Hp
 have hn0:=hnode
 have hr0:=hrng
 rw [Jj,As] at hn0 hr0
 have hev:∀y∈x.kids,∀Hp:List AObj,AFun Tryz.prog 32 [Ab y,Ao c,Bt l] Hp (Q6 (Al c l y)):=fun y hy=>ih y (hok.2.2 y hy) ((F3 _ _).1 hn0.2 y hy) ((F3 _ _).1 hr0.2 y hy)
 have hfe:∀y∈x.kids,Fine (Al c l y).1∧Mp (Al c l y):=fun y hy=>⟨R1 hf y (ka y ((F3 _ _).1 hn0.2 y hy)) ((F3 _ _).1 hr0.2 y hy),ba c l _ y (Aj _)⟩
 obtain ⟨k5,k34,k6,kall⟩:=W0 hn0.1
 have hev0:Al c l x=J8 B0 c l x.op x.text x.val (x.kids.map (Al c l)):=U7 _ _ _ _
 refine Ag [.cell 6 42,.tmp 7] [0,1,2] Tryz.func32 Tryz.ntmps32 (fun d=>?_)
 refine Z2 ?_;refine Z81 ?_;refine A2 [1,2,3,6] ?_;refine Z34 ?_;refine Z20 ?_;refine A2 [1,2,3,6,8] ?_;refine Z18 ?_;refine Z25 ?_;refine A2 [1,2,3,6,8,23] ?_
 refine A3 (fun ht23=>?_) (fun ht23=>?_)
 ·have hm:Al c l x=(x.val,0):=by rw [hev0];unfold J8;rw [if_pos ht23]
  refine Z1 ?_;refine Z27 ?_;exact Z24
 refine Z25 ?_;refine A2 [1,2,3,6,8,29] ?_
 refine A3 (fun ht29=>?_) (fun ht29=>?_)
 ·have hm0:Al c l x=Lf c l x.text:=by rw [hev0];unfold J8;rw [if_neg (by rw [ht23];simp),if_pos ht29]
  refine Z19 ?_;refine A8 Tryz.call33 (c33 c hc x.text _) ?_;refine A4 ?_;refine A2 [2,6,8,9] ?_;refine Z8 ?_;refine A2 [2,6,8,9,38] ?_
  refine A3 (fun ht38=>?_) (fun ht38=>?_)
  ·have hm:Al c l x=(noV,9):=by rw [hm0];exact if_pos (by simpa using ht38)
   refine zb ?_;exact AOy
  have hnn:¬Bn x.text c<0:=by simpa using ht38
  obtain ⟨j,hj,hjc⟩:=Jl hnn
  have hm:Al c l x=(l.getD j noV,0):=by
   rw [hm0]
   unfold Lf
   rw [if_neg hnn,hj]
   rfl
  rw [hj]
  refine Lq ?_
  refine A4 (h:=Ac (j) (Bi (l.getD j noV)) (fun _=>AGk (by omega))) (hr:=?_)
  refine A4 ?_;refine Z27 ?_;exact Z24
 have href:=ANl hn0.1 hfe ht23 ht29
 clear hev0
 simp only [Ka,AFv,ifW,P9,C7,orW,Re] at href
 have hk0:0<x.kids.length:=by
  simp only [beq_eq_false_iff_ne,ne_eq] at ht23 ht29
  rcases kall with h|h|h|h|h|h
  ·exact absurd h ht23
  ·exact absurd h ht29
  ·have:=k34 (.inl h);omega
  ·have:=k34 (.inr h);omega
  ·have:=k5 h;omega
  have:=k6 h
  rcases Kb this with ⟨_,e⟩|⟨_,e⟩|⟨_,e⟩|⟨_,e⟩|⟨_,e⟩|⟨_,e⟩|⟨_,e⟩|⟨_,e⟩<;>omega
 have fa:=(hfe _ (R8 hk0)).1
 refine j9 ?_
 refine A4 (h:=Ac (0) (Ab (x.kids.getD 0 At)) (fun _=>O4 hk0)) (hr:=?_)
 refine Z10 ?_;refine A8 Tryz.call32 (hev (x.kids.getD 0 At) (R8 hk0) _) ?_;refine Yu ?_;refine A2 [1,2,3,6,8,10,11] ?_;refine Z8 ?_;refine A2 [1,2,3,6,8,10,11,55] ?_
 refine A3 (fun ht55=>?_) (fun ht55=>?_)
 ·refine Z1 ?_;refine Z64 ?_
  try simp only [*,Af,C9,D0,↓reduceIte] at href
  exact Jb
 refine Yv ?_;refine Rb ?_;refine A2 [1,2,3,6,8,10,12] ?_;refine Z8 ?_;refine Z38 ?_;refine Pw ?_;refine Z96 ?_;refine A2 [1,2,3,6,8,10,12,78] ?_
 refine A3 (fun ht78=>?_) (fun ht78=>?_)
 ·have hk2l:x.kids.length=2:=k5 (by simp only [As,beq_iff_eq] at ht78;exact ht78.1)
  refine Z19 ?_;refine A8 Tryz.call52 (c52 _ _) ?_;refine Z20 ?_;refine A2 [1,2,3,6,8,10,12,13] ?_;refine Z8 ?_;refine A2 [1,2,3,6,8,10,13,84] ?_
  refine A3 (fun ht84=>?_) (fun ht84=>?_)
  ·refine lz ?_
   try simp only [*,Af,C9,D0,↓reduceIte] at href
   exact Jb
  refine Sg ?_
  refine A4 (h:=Oc Tu (fun w=>Hm (Al c l (x.kids.getD 0 At)).1.kind (Al c l (x.kids.getD 0 At)).1.n (E4 (x.text==[111,114])).kind (E4 (x.text==[111,114])).n (Al c l (x.kids.getD 0 At)).1.s (E4 (x.text==[111,114])).s w)) (hr:=?_)
  refine A2 [1,2,3,6,8,10,13,88] ?_
  refine A3 (fun ht88=>?_) (fun ht88=>?_)
  ·rw [Y4] at ht88
   refine lz ?_
   try simp only [*,Af,C9,D0,↓reduceIte] at href
   exact Jb
  rw [Y4] at ht88
  refine Lq ?_
  refine A4 (h:=Ac (1) (Ab (x.kids.getD 1 At)) (fun _=>O4 (by omega))) (hr:=?_)
  refine Z10 ?_;refine A8 Tryz.call32 (hev (x.kids.getD 1 At) (R8 (by omega)) _) ?_;refine Yu ?_;refine A2 [3,6,8,10,13,14,15] ?_;refine Z8 ?_;refine A2 [3,6,8,10,13,14,15,101] ?_
  refine A3 (fun ht101=>?_) (fun ht101=>?_)
  ·refine Z1 ?_;refine yr ?_
   try simp only [*,Af,C9,D0,↓reduceIte] at href
   exact Jb
  refine Sg ?_;refine rt ?_;refine A2 [3,6,8,10,13,14,111] ?_
  refine A3 (fun ht111=>?_) (fun ht111=>?_)
  ·refine lz ?_
   try simp only [*,Af,C9,D0,↓reduceIte] at href
   exact Jb
  refine Sg ?_
  refine A4 (h:=Oc Tu (fun w=>Hm (Al c l (x.kids.getD 1 At)).1.kind (Al c l (x.kids.getD 1 At)).1.n (E4 (x.text==[111,114])).kind (E4 (x.text==[111,114])).n (Al c l (x.kids.getD 1 At)).1.s (E4 (x.text==[111,114])).s w)) (hr:=?_)
  refine A2 [3,6,8,10,14,115] ?_
  refine A3 (fun ht115=>?_) (fun ht115=>?_)
  ·rw [Y4] at ht115
   refine lz ?_
   try simp only [*,Af,C9,D0,↓reduceIte] at href
   exact Jb
  rw [Y4] at ht115
  refine Sg ?_;refine rt ?_;refine A2 [3,6,8,124] ?_
  refine A3 (fun ht124=>?_) (fun ht124=>?_)
  ·refine lz ?_
   try simp only [*,Af,C9,D0,↓reduceIte] at href
   exact Jb
  refine No ?_;refine AMd ?_
  try simp only [*,Af,C9,D0,↓reduceIte] at href
  exact Jb
 have h78:(x.op==5)=true→((x.text==[111,114]) || (x.text==[97,110,100]))=false:=fun h=>by rw [h] at ht78;exact ht78
 refine Z4 ?_
 refine W.joinP ⟨316,A6 1 (Ao c) (A6 2 (Bt l) (A6 3 (.ro (Dy x)) (A6 6 (.ptr (oid Hp.length 0) 0) (A6 8 (.ptr (oid Hp.length 1) 0) (A6 10 (.ptr (oid Hp.length 2) 0) (fun _=>.any)))))),Hp,[.cells 42 [A5 0,A5 0,Ae []],.cells 42 [A5 0,A5 0,Ae []],.cells 42 [A5 (Al c l (x.kids.getD 0 At)).1.kind,A5 (Al c l (x.kids.getD 0 At)).1.n,Ae (Al c l (x.kids.getD 0 At)).1.s]],[],none⟩ (Al c l x=AAx (x.kids.length:Int) x.op x.text (Al c l (x.kids.getD 0 At)).1 (Al c l (x.kids.getD 1 At))) ?_ (fun hQ=>?_)
 ·refine Z19 ?_;refine A2 [1,2,3,6,8,10,12,132] ?_
  refine A3 (fun ht132=>?_) (fun ht132=>?_)
  ·refine Z1 ?_;refine A2 [1,2,3,6,8,10,12,134] ?_;refine Z99 ?_;refine A2 [1,2,3,6,8,10,12,134,135] ?_
   refine A3 (fun ht135=>?_) (fun ht135=>?_)
   ·refine Z19 ?_;refine APu ?_
    try simp only [*,Af,C9,D0,↓reduceIte] at href
    exact Jb
   refine Z1 ?_;refine A2 [1,2,3,6,8,10,12,134,141] ?_
   refine A3 (fun ht141=>?_) (fun ht141=>?_)
   ·have hk1:1<x.kids.length:=AK9 k6 ht132 ht141
    refine Z33 ?_;refine A2 [1,2,3,6,10,145] ?_
    refine A3 (fun ht145=>?_) (fun ht145=>?_)
    ·refine zb ?_;refine Z6 ?_
     try simp only [*,Af,C9,D0,↓reduceIte] at href
     exact Jb
    refine Lq ?_
    refine A4 (h:=Ac (1) (Ab (x.kids.getD 1 At)) (fun _=>O4 hk1)) (hr:=?_)
    refine ALy ?_;refine lw ?_;refine Z21 ?_
    try simp only [*,Af,C9,D0,↓reduceIte] at href
    exact Jb
   refine Z1 ?_;refine A2 [1,2,3,6,8,10,12,156] ?_
   refine A3 (fun ht156=>?_) (fun ht156=>?_)
   ·have hk2:2<x.kids.length:=ANv k6 ht132 ht156
    have hk1:1<x.kids.length:=by omega
    refine Z8 ?_;refine A2 [1,2,3,6,8,10,159] ?_
    refine A3 (fun ht159=>?_) (fun ht159=>?_)
    ·refine zb ?_;refine Z6 ?_
     try simp only [*,Af,C9,D0,↓reduceIte] at href
     exact Jb
    refine Nn ?_;refine A2 [1,2,3,6,163] ?_
    refine A3 (fun ht163=>?_) (fun ht163=>?_)
    ·refine Z1 ?_
     refine A4 (h:=Ac (1) (Ab (x.kids.getD 1 At)) (fun _=>O4 hk1)) (hr:=?_)
     refine ALy ?_;refine Z0 ?_;refine Z64 ?_;refine Z6 ?_
     try simp only [*,Af,C9,D0,↓reduceIte] at href
     exact Jb
    refine Lq ?_
    refine A4 (h:=Ac (2) (Ab (x.kids.getD 2 At)) (fun _=>O4 hk2)) (hr:=?_)
    refine Z10 ?_;refine A8 Tryz.call32 (hev (x.kids.getD 2 At) (R8 hk2) _) ?_;refine lw ?_;refine Z21 ?_
    try simp only [*,Af,C9,D0,↓reduceIte] at href
    exact Jb
   refine Hy [1,2,3,6,8,10] ?_;refine ADk ?_
   refine K.thJP ?_ ?_
   ·exact B5 rfl
   simp only [*,Af,C9,D0,↓reduceIte] at href
   exact href
  refine Hy [1,2,3,6,8,10] ?_;refine Jy ?_
  refine K.thJP ?_ ?_
  ·exact B5 rfl
  simp only [*,Af,C9,D0,↓reduceIte] at href
  exact href
 clear href
 refine Z34 ?_;refine Z20 ?_;refine A2 [1,2,3,6,8,10,16] ?_
 refine W.joinC ⟨316,A6 3 (.ro (Dy x)) (A6 6 (.ptr (oid Hp.length 0) 0) (A6 8 (.ptr (oid Hp.length 1) 0) (A6 10 (.ptr (oid Hp.length 2) 0) (A6 16 (.ptr (oid Hp.length 3) 0) (fun _=>.any))))),Hp,[.cells 42 [A5 0,A5 0,Ae []],.cells 42 [A5 0,A5 0,Ae []],.cells 42 [A5 (Al c l (x.kids.getD 0 At)).1.kind,A5 (Al c l (x.kids.getD 0 At)).1.n,Ae (Al c l (x.kids.getD 0 At)).1.s],.cells 42 [A5 (bR c l x).kind,A5 (bR c l x).n,Ae (bR c l x).s]],[],none⟩ (Al c l x=Sx x.op x.text (Al c l (x.kids.getD 0 At)).1 (bR c l x)) ?_ (fun hQ2=>?_)
 ·refine Z25 ?_;refine A2 [1,2,3,6,8,10,16,186] ?_
  refine A3 (fun ht186=>?_) (fun ht186=>?_)
  ·rw [Am] at ht186
   have hk2:x.kids.length=2:=by simp only [beq_iff_eq] at ht186;omega
   have hk1:1<x.kids.length:=by omega
   have hB:(bR c l x)=(Al c l (x.kids.getD 1 At)).1:=if_pos hk2
   refine Z1 ?_
   refine A4 (h:=Ac (1) (Ab (x.kids.getD 1 At)) (fun _=>O4 hk1)) (hr:=?_)
   refine ALy ?_;refine Yu ?_;refine A2 [3,6,8,10,16,17,18] ?_;refine Z8 ?_;refine A2 [3,6,8,10,16,17,18,198] ?_
   refine A3 (fun ht198=>?_) (fun ht198=>?_)
   ·have href:Al c l x=(noV,(Al c l (x.kids.getD 1 At)).2):=by rw [hQ];unfold AAx;rw [if_pos ht186,if_pos ht198]
    clear hQ
    refine Z1 ?_;refine yr ?_
    try simp only [*,Af,C9,D0,↓reduceIte] at href
    exact Jb
   refine Z4 ?_;refine Z51 ?_;refine Gd ?_;refine A2 [3,6,8,10,16] ?_
   refine K.thJC ?_ ?_
   ·rw [hB]
    exact Dp (own:=[.cells 42 [A5 0,A5 0,Ae []],.cells 42 [A5 0,A5 0,Ae []],.cells 42 [A5 (Al c l (x.kids.getD 0 At)).1.kind,A5 (Al c l (x.kids.getD 0 At)).1.n,Ae (Al c l (x.kids.getD 0 At)).1.s],.cells 42 [A5 (Al c l (x.kids.getD 1 At)).1.kind,A5 (Al c l (x.kids.getD 1 At)).1.n,Ae (Al c l (x.kids.getD 1 At)).1.s]]) (fun _=>.refl _) (by repeat (first|exact Bq|refine Bp (by first|exact Di|(simp [oid,or_imp,forall_and,B7];done)) ?_)) (by simp [ObjLow,or_imp,forall_and]) (by simp)
   rw [hB,hQ]
   unfold AAx
   first|rw [if_pos ht186,if_neg (by rw [ht198];simp)]|rw [if_neg (by rw [ht186];simp)]
  rw [Am] at ht186
  have hB:(bR c l x)=⟨9,0,[]⟩:=if_neg (by simp only [beq_eq_false_iff_ne] at ht186;omega)
  refine Hy [3,6,8,10,16] ?_;refine Jy ?_
  refine K.thJC ?_ ?_
  ·rw [hB]
   exact Bh rfl
  rw [hB,hQ]
  unfold AAx
  first|rw [if_pos ht186,if_neg (by rw [ht198];simp)]|rw [if_neg (by rw [ht186];simp)]
 have href:=hQ2
 clear hQ hQ2
 simp only [Sx,dh,Rf,Rg,Rh] at href
 refine Z8 ?_;refine rt ?_;refine A2 [3,6,8,10,16,209] ?_
 refine A3 (fun ht209=>?_) (fun ht209=>?_)
 ·refine zb ?_
  try simp only [*,Af,C9,D0,↓reduceIte] at href
  exact Jb
 refine Nn ?_;refine A2 [3,6,8,10,16,213] ?_
 refine A3 (fun ht213=>?_) (fun ht213=>?_)
 ·have hk2:x.kids.length=2:=k5 (eq_of_beq ht213)
  have hk1:1<x.kids.length:=by omega
  have fb:Fine (bR c l x):=by rw [show (bR c l x)=(Al c l (x.kids.getD 1 At)).1 from if_pos hk2];exact (hfe _ (R8 hk1)).1
  have h79:=h78 ht213
  refine Z25 ?_
  refine A8 Tryz.call53 (c53 x.text (Al c l (x.kids.getD 0 At)).1 (bR c l x) fa fb (by have:=fa.len;omega) (by have:=fb.len;omega) _) ?_
  refine Z0 ?_;refine Z64 ?_
  try simp only [*,Af,C9,D0,↓reduceIte,h79,Dl] at href
  exact Jb
 refine Nn ?_;refine A2 [3,6,8,10,16,223] ?_
 refine A3 (fun ht223=>?_) (fun ht223=>?_)
 ·refine Z33 ?_;refine A2 [6,8,10,226] ?_
  refine A3 (fun ht226=>?_) (fun ht226=>?_)
  ·refine lz ?_
   try simp only [*,Af,C9,D0,↓reduceIte] at href
   exact Jb
  refine Lq ?_;refine A8 Tryz.call56 (AAi (Al c l (x.kids.getD 0 At)).1.n fa.lo fa.hi _) ?_;refine A8 Tryz.call55 (c55 _ _ _) ?_;refine A8 Tryz.call54 (c54 _ _ (AN9 fa.lo fa.hi).1 _) ?_;refine Z0 ?_;refine Z64 ?_
  try simp only [*,Af,C9,D0,↓reduceIte] at href
  exact Jb
 refine Nn ?_;refine A2 [3,6,8,10,16,237] ?_
 refine A3 (fun ht237=>?_) (fun ht237=>?_)
 ·refine Z33 ?_;refine A2 [6,8,10,240] ?_
  refine A3 (fun ht240=>?_) (fun ht240=>?_)
  ·refine lz ?_
   try simp only [*,Af,C9,D0,↓reduceIte] at href
   exact Jb
  refine No ?_;refine AMd ?_
  try simp only [*,Af,C9,D0,↓reduceIte] at href
  exact Jb
 refine Nn ?_;refine A2 [3,6,8,10,16,248] ?_
 refine A3 (fun ht248=>?_) (fun ht248=>?_)
 ·refine Z33 ?_;refine A2 [6,8,10,251] ?_
  refine A3 (fun ht251=>?_) (fun ht251=>?_)
  ·refine lz ?_
   try simp only [*,Af,C9,D0,↓reduceIte] at href
   exact Jb
  refine Lq ?_;refine A8 Tryz.call57 (c57 (Al c l (x.kids.getD 0 At)).1.n ⟨fa.lo,fa.hi⟩ _) ?_;refine ALs ?_
  try simp only [*,Af,C9,D0,↓reduceIte] at href
  exact Jb
 refine Nn ?_;refine A2 [3,6,8,10,16,259] ?_
 refine A3 (fun ht259=>?_) (fun ht259=>?_)
 ·refine zb ?_
  try simp only [*,Af,C9,D0,↓reduceIte] at href
  exact Jb
 refine Sg ?_;refine A2 [3,6,8,10,16,262] ?_;refine Z99 ?_;refine A2 [3,6,8,10,16,262,263] ?_
 refine A3 (fun ht263=>?_) (fun ht263=>?_)
 ·refine Z19 ?_;refine ALt ?_;refine Z21 ?_
  try simp only [*,Af,C9,D0,↓reduceIte] at href
  exact Jb
 refine Z1 ?_;refine A2 [3,6,8,10,16,269] ?_
 refine A3 (fun ht269=>?_) (fun ht269=>?_)
 ·refine Z1 ?_
  refine A8 Tryz.call58 (c58 (Al c l (x.kids.getD 0 At)).1.s (by have:=fa.len;omega) _) ?_
  refine Z59 ?_;refine A2 [6,8,19,20] ?_;refine Z8 ?_;refine A2 [6,8,19,20,278] ?_
  refine A3 (fun ht278=>?_) (fun ht278=>?_)
  ·refine Z1 ?_;refine Z64 ?_;refine Z6 ?_
   try simp only [*,Af,C9,D0,↓reduceIte] at href
   exact Jb
  refine Z93 ?_;refine ALt ?_;refine Z21 ?_
  try simp only [*,Af,C9,D0,↓reduceIte] at href
  exact Jb
 refine Z17 ?_;refine Z33 ?_;refine A2 [3,6,8,10,16,285] ?_
 refine A3 (fun ht285=>?_) (fun ht285=>?_)
 ·refine zb ?_
  try simp only [*,Af,C9,D0,↓reduceIte] at href
  exact Jb
 refine Yv ?_;refine A2 [3,6,10,16,21] ?_
 refine W.join ⟨316,A6 3 (.ro (Dy x)) (A6 6 (.ptr (oid Hp.length 0) 0) (A6 10 (.ptr (oid Hp.length 2) 0) (A6 16 (.ptr (oid Hp.length 3) 0) (A6 21 (A5 (if decide ((bR c l x).n<(((Al c l (x.kids.getD 0 At)).1.s.length:Nat):Int))=true then (bR c l x).n else (((Al c l (x.kids.getD 0 At)).1.s.length:Nat):Int))) (fun _=>.any))))),Hp,[.cells 42 [A5 0,A5 0,Ae []],.cells 42 [A5 0,A5 0,Ae []],.cells 42 [A5 (Al c l (x.kids.getD 0 At)).1.kind,A5 (Al c l (x.kids.getD 0 At)).1.n,Ae (Al c l (x.kids.getD 0 At)).1.s],.cells 42 [A5 (bR c l x).kind,A5 (bR c l x).n,Ae (bR c l x).s]],[],none⟩ ?_ ?_
 ·refine Z25 ?_;refine A2 [3,6,10,16,21,293] ?_
  refine A3 (fun ht293=>?_) (fun ht293=>?_)
  ·refine Z23 ?_;refine A2 [3,6,10,16,21] ?_;refine K.thJ ?_
   first|(rw [if_pos ht293];exact B5 rfl)|(rw [if_neg (by rw [ht293];simp)];exact B5 rfl)
  refine Hy [3,6,10,16,21] ?_;refine Jy ?_;refine K.thJ ?_
  first|(rw [if_pos ht293];exact B5 rfl)|(rw [if_neg (by rw [ht293];simp)];exact B5 rfl)
 refine W.join ⟨316,A6 3 (.ro (Dy x)) (A6 6 (.ptr (oid Hp.length 0) 0) (A6 10 (.ptr (oid Hp.length 2) 0) (A6 21 (A5 (Oo (bR c l x).n (((Al c l (x.kids.getD 0 At)).1.s.length:Nat):Int))) (fun _=>.any)))),Hp,[.cells 42 [A5 0,A5 0,Ae []],.cells 42 [A5 0,A5 0,Ae []],.cells 42 [A5 (Al c l (x.kids.getD 0 At)).1.kind,A5 (Al c l (x.kids.getD 0 At)).1.n,Ae (Al c l (x.kids.getD 0 At)).1.s],.cells 42 [A5 (bR c l x).kind,A5 (bR c l x).n,Ae (bR c l x).s]],[],none⟩ ?_ ?_
 ·refine Z19 ?_;refine A2 [3,6,10,21,298] ?_
  refine A3 (fun ht298=>?_) (fun ht298=>?_)
  ·refine Z51 ?_;refine A2 [3,6,10,21] ?_;refine K.thJ ?_
   unfold Oo
   first|(rw [if_pos ht298];exact B5 rfl)|(rw [if_neg (show ¬decide ((bR c l x).n<0)=true by rw [ht298];simp)];exact B5 rfl)
  refine Hy [3,6,10,21] ?_;refine Jy ?_;refine K.thJ ?_
  unfold Oo
  first|(rw [if_pos ht298];exact B5 rfl)|(rw [if_neg (show ¬decide ((bR c l x).n<0)=true by rw [ht298];simp)];exact B5 rfl)
 refine Z75 ?_
 obtain ⟨n0,hcl,hn0l⟩:=ABh (bR c l x).n (Al c l (x.kids.getD 0 At)).1.s.length
 rw [hcl]
 refine Z10 ?_;refine A2 [6,10,21,301] ?_
 refine A3 (fun ht301=>?_) (fun ht301=>?_)
 ·refine Z19 ?_
  refine A4 (h:=L1 n0 (fun _=>An _) (fun _=>hn0l)) (hr:=?_)
  refine ALs ?_
  try simp only [*,Af,C9,D0,↓reduceIte,uj,Wu,hcl,Int.toNat_natCast] at href
  exact Jb
 refine Yv ?_;refine Z0 ?_
 refine A4 (h:=Q.sub64 (h1:=fun _=>by omega) (h2:=fun _=>by have:=fa.len;omega)) (hr:=?_)
 rw [show (((Al c l (x.kids.getD 0 At)).1.s.length:Int)-(n0:Int))=(((Al c l (x.kids.getD 0 At)).1.s.length-n0:Nat):Int) by omega]
 refine A4 (h:=S5 ((Al c l (x.kids.getD 0 At)).1.s.length-n0) (fun _=>show (Al c l (x.kids.getD 0 At)).1.s.length-n0≤(Al c l (x.kids.getD 0 At)).1.s.length by omega) (fun _=>Aj _)) (hr:=?_)
 refine ALt ?_;refine Dc ?_
 try simp only [*,Af,C9,D0,↓reduceIte,uj,Wu,hcl,Int.toNat_natCast] at href
 exact Jb

theorem c15 (c:List Col) (hc:OkCols c) (hc2:c.length≤1000000) (l:List Mov) (h:OkMovs l) (row:List Val) (hrr:∀v∈row, -9223372036854775808≤v.n∧v.n≤9223372036854775807) (hrl:row.length≤1048576) (Hp:List AObj):AFun Tryz.prog 15 [Ao c,Dz l,Bt row] Hp (.tup [Bt (C4 c l row).1,A5 (C4 c l row).2]):=by
 refine Ag [.tmp 6,.tmp 7] [0,1,2] Tryz.func15 Tryz.ntmps15 (fun d=>?_)
 refine yu ?_;refine Z1 ?_;refine A8 Tryz.call22 (c22 c hc hc2 l h _) ?_;refine AHa ?_;refine Z33 ?_;refine Z7 ?_;refine Bm Tryz.call14 (fun hB=>c14 c hc row hrl _) ?_;refine Z74 ?_;refine A2 [1,2,8,26] ?_
 refine A3 (fun ht26=>?_) (fun ht26=>?_)
 ·have hm:C4 c l row=([],1):=if_pos ht26
  refine Z2 ?_;refine ALf ?_;exact Z55
 have hm0:C4 c l row=fwM c l row l.length:=if_neg (by rw [ht26];simp)
 have h26:((Cp c l).2 != 0)=false∧F4 c row=true:=by simpa using ht26
 obtain ⟨hmay,hst,hss⟩:=H3 h26.1
 have hR0:=Qe h26.2 hrr
 have hmvo:=Ke hmay
 have hlen:=h.len
 rw [hss]
 refine Z93 ?_;refine A8 Tryz.call23 (c23 row hrl _) ?_;refine A4 ?_;refine A2 [1,8,10] ?_;refine Z33 ?_;refine A2 [8,10,29,30,31] ?_
 refine Az (α:=Nat) (fun x=>⟨51,A6 8 (Mt (Cu c l l.length)) (A6 10 (Bt (fwM c l row x).1) (A6 29 (Dz l) (A6 30 (A5 (l.length:Nat)) (A6 31 (A5 (x:Nat)) (fun _=>.any))))),Hp,[],[],none⟩) (fun x=>x≤l.length∧(fwM c l row x).2=0∧RowI (colsAt c l x) (fwM c l row x).1) (fun x=>l.length-x) (0) ⟨An _,rfl,hR0⟩ (B5 (by simp [fwM])) rfl (fun x hx=>?_)
 refine Z2 ?_;refine A2 [8,10,29,30,31,32] ?_
 refine Ei (fun ht32=>?_) (fun ht32=>?_)
 ·have hlt:x<l.length:=by simpa using ht32
  obtain ⟨hxl,hfx,hR⟩:=hx
  obtain ⟨m,hm⟩:∃m,m=l[x]:=⟨_,rfl⟩
  have hml:l[x]? = some m:=by rw [hm];exact Aa hlt
  have hmx:(l.map Fv)[x]? = some (Fv m):=by rw [hm];exact Aw hlt
  have hmo:=h.each m (B2 hml)
  have hmv:=hmvo m (B2 hml)
  have hCx:=G5 hc (fun m hm=>h.each m hm) x
  have htn:=Lx hst hml
  refine Ts ?_
  refine A4 (h:=Ac (x) (Fv m) (fun _=>hmx)) (hr:=?_)
  refine rn ?_;refine A2 [8,10,11,12,29,30,31] ?_;refine Cb [0,0,3,7,0,0,63,127,255,255,511,2047] 11 Ai (by kernel_rfl) ?_;refine Z12 ?_
  refine Ak (h:=Ac (x) (Ao (colsAt c l x)) (fun _=>AJs (Qc (by omega)))) (hr:=?_)
  refine Z40 ?_;refine Dd Tryz.call36 (c36 (colsAt c l x) hCx m hmo (fwM c l row x).1 hR.fine hR.len _) ?_;refine Z12 ?_;refine rq ?_;refine A2 [8,9,10,29,30,31] ?_;refine Z1 ?_;refine A2 [8,9,10,29,30,31,47] ?_
  refine A3 (fun ht47=>?_) (fun ht47=>?_)
  ·have hm2:C4 c l row=([],(E1 (colsAt c l x) m (fwM c l row x).1).2):=by rw [hm0];exact xc hml hfx (by simpa using ht47)
   refine ma ?_;refine Tq ?_;exact AQw
  have hnx:=Ui hml hfx
  have hok:(E1 (colsAt c l x) m (fwM c l row x).1).2=0:=by simpa using ht47
  have hRn:=W8 htn hmv (fun e he=>hmo.ahead.rng e he) hR hok
  refine Nm ?_;refine A2 [8,10,29,30,31] ?_
  refine Ay (x+1) ⟨hlt,by rw [hnx];exact hok,by rw [hnx,Fz hml];exact hRn⟩ (by omega) ?_
  rw [hnx]
  exact Dp (own:=[]) (fun _=>.refl _) (by repeat (first|exact Bq|refine Bp (by first|exact Gg|exact Db|exact Hc|exact Fg|exact Di|exact El|exact Low.ro _ Lw|(simp [or_imp,forall_and];done)) ?_)) (by simp) (by simp)
 have hxe:x=l.length:=by simp at ht32;have:=hx.1;omega
 subst hxe
 have hm1:C4 c l row=((fwM c l row l.length).1,0):=by rw [hm0];exact N1 rfl hx.2.1
 refine Z26 ?_;refine rh ?_;exact AOf

/-! slices.Backward of moves. -/
theorem c72 (l0:Nat) (ms:List Mov) (hml:ms.length≤1048576) (U:Nat→List AObj) (N:Nat→Prop) (Z:List AObj→Prop) (hlen:∀k,(U k).length=(U 0).length) (hll:l0<(U 0).length)
  (hlw:∀k,∀x∈U k,ObjLow (U 0).length x) (h0:N 0)
  (hy:∀k m X,k<ms.length→ms[ms.length-1-k]? = some m→N k→AYield Tryz.prog l0 [A5 ((ms.length-1-k:Nat):Int),Fv m] (U k++X) (fun b H'=>(b=true∧N (k+1)∧H'=U (k+1)++X)∨(b=false∧∃V,H'=V++X∧V.length=(U 0).length∧(∀x∈V,ObjLow (U 0).length x)∧Z V)))
  (hR:N ms.length→Z (U ms.length)):ACall Tryz.prog 72 [.yield l0,.ro [Dz ms]] (U 0) (fun _ H'=>Z H'):=by
 refine Ag [] [0,1] Tryz.func72 Tryz.ntmps72 (fun d=>?_)
 refine Z1 ?_
 refine A4 (h:=Q.sub64 (h2:=fun _=>by simp only [Am];omega)) (hr:=?_)
 refine A4 ?_;refine A2 [0,1,3] ?_
 refine Az (α:=Nat×Int) (fun s=>⟨19,A6 0 (.yield l0) (A6 1 (.ro [Dz ms]) (A6 3 (A5 s.2) (fun _=>.any))),U s.1,[],[],none⟩) (fun s=>s.1≤ms.length∧N s.1∧s.2=(ms.length:Int)-1-(s.1:Int)) (fun s=>ms.length-s.1) ((0,(ms.length:Int)-1)) ⟨An _,h0,by simp⟩ (B5 (by simp)) rfl (fun s hs=>?_)
 obtain ⟨x,i⟩:=s
 obtain ⟨hx,hN,hi⟩:=hs
 dsimp only at hx hN hi ⊢
 refine Z8 ?_;refine A2 [0,1,3,8] ?_
 refine A3 (fun ht8=>?_) (fun ht8=>?_)
 ·have hlt:x<ms.length:=by simp at ht8;omega
  have hlt2:ms.length-1-x<ms.length:=by omega
  have hi2:i=((ms.length-1-x:Nat):Int):=by omega
  subst hi2
  refine Z42 ?_;refine Z25 ?_
  refine A4 (h:=Ac (ms.length-1-x) (Fv ms[ms.length-1-x]) (fun _=>Aw hlt2)) (hr:=?_)
  refine A4 ?_
  refine R.yield (l:=l0) (args:=[A5 ((ms.length-1-x:Nat):Int),Fv ms[ms.length-1-x]]) (hy x ms[ms.length-1-x] _ hlt (Aa hlt2) hN) ?_
  intro b V O hV hb
  have hVO:O=[]∧((b=true∧N (x+1)∧V=U (x+1))∨(b=false∧V.length=(U 0).length∧(∀y∈V,ObjLow (U 0).length y)∧Z V)):=by
   rcases hb with ⟨h1,h2,h3⟩|⟨h1,V',h2,h3,h4,h5⟩
   ·have h6:=Us h3 (by rw [hV,hlen x,hlen (x+1)])
    exact ⟨h6.2,.inl ⟨h1,h2,h6.1⟩⟩
   obtain ⟨rfl,rfl⟩:=Us h2 (by rw [hV,hlen x,h3])
   exact ⟨rfl,.inr ⟨h1,h3,h4,h5⟩⟩
  obtain ⟨rfl,hVO⟩:=hVO
  have hVl:V.length=(U 0).length:=by rw [hV,hlen x]
  have hVw:∀y∈V,ObjLow (U 0).length y:=by
   rcases hVO with ⟨_,_,rfl⟩|⟨_,_,h,_⟩
   ·exact hlw _
   exact h
  refine ⟨fun _=>by rw [hVl];exact hVw,fun o ho=>(by cases ho),?_⟩
  refine A4 ?_;refine A2 [0,1,3,18] ?_
  refine A3 (fun ht18=>?_) (fun ht18=>?_)
  ·have hZ:Z V:=by
    rcases hVO with ⟨h1,_,_⟩|⟨_,_,_,h⟩
    ·rw [h1] at ht18;cases ht18
    exact h
   refine Z21 ?_;refine Mg ?_;exact A9 .nores (hp:=hZ)
  have hVn:N (x+1)∧V=U (x+1):=by
   rcases hVO with ⟨_,h2,h3⟩|⟨h1,_,_,_⟩
   ·exact ⟨h2,h3⟩
   rw [h1] at ht18;cases ht18
  obtain ⟨hN1,rfl⟩:=hVn
  refine Z70 ?_;refine A2 [0,1,3] ?_
  refine Ay (x+1,((ms.length-1-x:Nat):Int)-1) ⟨hlt,hN1,by dsimp only;omega⟩ (by dsimp only;omega) ?_
  exact Bh rfl
 have hxe:x=ms.length:=by simp at ht8;omega
 refine rp ?_;exact Gp .nores (hp:=by rw [hxe];exact hR (hxe ▸ hN))

theorem c43 (l:List Mov) (Hp:List AObj):AFun Tryz.prog 43 [Dz l] Hp (.fn (.func 72) [] [.ro [Dz l]]):=by
 refine Ag [.tmp 2] [0] Tryz.func43 Tryz.ntmps43 (fun d=>?_)
 refine Pv ?_;refine Eb ?_;refine ADj ?_;exact AOh

theorem bv {n k:Nat} {o:Bool} {l:List Val}:∀z∈[AV.slice o k (l.map Bi)],Low n z:=fun z hz=>by rw [Br.1 hz];exact Db
/-- Where the way back stands behind k moves. -/
structure BkAt (c:List Col) (l:List Mov) (row:List Val) (k:Nat):Prop where
 ok:(bkM c l row k).2=0
 row:RowI (colsAt c l (l.length-k)) (bkM c l row k).1
theorem BkAt.zero {c:List Col} {l:List Mov} {row:List Val} (h:RowI (colsAt c l l.length) row):BkAt c l row 0:=⟨rfl,h⟩
theorem BkAt.fin {c:List Col} {l:List Mov} {row:List Val} (h:BkAt c l row l.length):bkM c l row l.length=((bkM c l row l.length).1,0):=N1 rfl h.ok
theorem BkAt.next {c:List Col} {l:List Mov} {row:List Val} {k:Nat} {m:Mov} (h:BkAt c l row k) (hk:k<l.length) (hm:l[l.length-1-k]? = some m) (hg:∀e∈m.back,Es L5 e=true) (he:(Cn (colsAt c l (l.length-1-k)) (colsAt c l (l.length-1-k+1)) m (bkM c l row k).1).2=0):BkAt c l row (k+1):=by
 have e:=Uj hm h.ok
 have hr:=h.row
 rw [show l.length-k=l.length-1-k+1 by omega] at hr
 refine ⟨by rw [e];exact he,?_⟩
 rw [e,show l.length-(k+1)=l.length-1-k by omega]
 exact pk hg hr he
theorem W9 {c:List Col} {l:List Mov} {row:List Val} (h:(((Cp c l).2 != 0) || !F4 (colsAt c l l.length) row)=false):Ew c l row=bkM c l row l.length:=if_neg (by rw [h];simp)
theorem ASe {U:List AObj} {l a b c e:Nat} {x y X Y Z T:AObj} (h:U[l]? = some x) (ha:a≠l) (hb:b≠l) (hc:c≠l) (he:e≠l):(((((U.set l y).set a X).set b Y).set c Z).set e T)[l]? = some y:=by rw [Ec he];exact AOd h ha hb hc
theorem ABi (c:List Col) (l:List Mov):(Cp c l).1.length≤l.length+1:=by
 unfold Cp Gr
 repeat' split
 all_goals first|exact An _|exact Sz c l
theorem Wa {c:List Col} {l:List Mov} (h:((Cp c l).2 != 0)=false):((Cp c l).1.map Ao)[l.length]? = some (Ao (colsAt c l l.length))∧((((Cp c l).1.map Ao).length:Nat):Int)-1=((l.length:Nat):Int):=by
 obtain ⟨_,_,hss⟩:=H3 h
 rw [hss]
 refine ⟨AJs (Qc (Aj _)),?_⟩
 rw [Am,Jn]
 omega
theorem c24 (l:List Mov) (Hp:List AObj):AFun Tryz.prog 24 [Dz l] Hp (.fn (.func 72) [] [.ro [Dz l]]):=by
 refine Ag [.tmp 2] [0] Tryz.func24 Tryz.ntmps24 (fun d=>?_)
 refine Z48 ?_;refine Z2 ?_;refine A8 Tryz.call43 (c43 l _) ?_;refine A4 ?_;exact AOh

theorem c7 (c:List Col) (hc:OkCols c) (hc2:c.length≤1000000) (l:List Mov) (h:OkMovs l) (row:List Val) (hrr:∀v∈row, -9223372036854775808≤v.n∧v.n≤9223372036854775807) (hrl:row.length≤1048576) (Hp:List AObj):AFun Tryz.prog 7 [Ao c,Dz l,Bt row] Hp (.tup [Bt (Ew c l row).1,A5 (Ew c l row).2]):=by
 refine Ag [.cell 6 24,.cell 7 27] [0,1,2] Tryz.func7 Tryz.ntmps7 (fun d=>?_)
 refine Z37 ?_;refine Mj ?_;refine A2 [0,1,2,6,7] ?_;refine Z1 ?_;refine A8 Tryz.call22 (c22 c hc hc2 l h _) ?_;refine ALg ?_;refine ADf ?_;refine A2 [1,2,6,7,8,9] ?_;refine Z75 ?_
 have hlen:=h.len
 have hsl:((Cp c l).1.map Ao).length≤2000000:=by rw [Am];have:=ABi c l;omega
 have hcn:=G5 hc (fun m hm=>h.each m hm) l.length
 refine Z10 ?_;refine Pw ?_
 refine Bd (h:=Ac (l.length) (Ao (colsAt c l l.length)) (fun hB=>(Wa (by simpa using hB)).1) (hn:=fun hB=>(Wa (by simpa using hB)).2)) (hr:=?_)
 refine Z7 ?_;refine Bm Tryz.call14 (fun hB=>c14 (colsAt c l l.length) hcn row hrl _) ?_;refine Z74 ?_;refine A2 [1,2,6,7,8,9,31] ?_
 refine A3 (fun ht31=>?_) (fun ht31=>?_)
 ·have hm:Ew c l row=([],1):=if_pos ht31
  refine Eb ?_;refine Gd ?_;refine Yo 0 3 ?_;refine Gd ?_;refine A2 [6,7] ?_;refine Z13 ?_;exact A9 (B1 (Hg jA) (Hg jA)) ⟨by rw [hm]<;>rfl,rfl⟩
 have hm:=W9 ht31
 have h31:((Cp c l).2 != 0)=false∧F4 (colsAt c l l.length) row=true:=by simpa using ht31
 obtain ⟨hmay,hst,hss⟩:=H3 h31.1
 have hmvo:=Ke hmay
 have hlen:=h.len
 have hR0:=Qe h31.2 hrr
 have hol:((Cu c l l.length).map Ao).length=l.length+1:=by rw [Am,Jn]
 rw [hss]
 refine Z93 ?_;refine A8 Tryz.call23 (c23 row hrl _) ?_;refine Z20 ?_;refine A2 [1,6,7,8,9,10] ?_;refine Z75 ?_
 refine Pu (fun hlow=>?_)
 refine A4 ?_;refine A8 Tryz.call24 (c24 l _) ?_;refine A2 [6,7,8,9,10,35] ?_;refine Mi ?_
 refine Sc (m:=5) Tryz.call72 (fun FR as' bd' hFR has hbd=>?_)
 have hFRl:∀s,Low (Hp.length+7) (FR s):=by
  intro s
  rw [hFR]
  refine Ux ?_
  revert s
  repeat (first|exact Bq|refine Bp (by first|(simp [oid,or_imp,forall_and];done)|exact Fg|exact Di|exact Db|(simp [oid,or_imp,forall_and];exact ⟨fun m _ a _=>B7 _ a,fun m _ a _=>B7 _ a⟩)|(simp [oid,or_imp,forall_and]<;>omega)) ?_)
 have hOl:∀{e e2:Int} {t:List Val} {lp:AObj},ObjLow (Hp.length+7) lp→∀x∈Hp++[AObj.cells 24 [AV.nil],AObj.cells 27 [A5 e],AObj.cells 30 [Mt (Cu c l l.length)],AObj.cells 27 [A5 e2],AObj.cells 24 [Bt (t)],AObj.defs,lp],ObjLow (Hp.length+7) x:=by
  intro e e2 t lp hlp x hx
  refine Ol (fun x hx=>Vi (by omega) (hlow x hx)) (fun x hx=>?_) x hx
  simp only [Bu,Fi,or_false] at hx
  rcases hx with rfl|rfl|rfl|rfl|rfl|rfl|rfl
  ·intro y hy;rw [Br.1 hy];simp
  ·intro y hy;rw [Br.1 hy];simp
  ·intro y hy;rw [Br.1 hy];exact El
  ·intro y hy;rw [Br.1 hy];simp
  ·exact bv
  ·trivial
  exact hlp
 refine ⟨_,c72 (oid Hp.length 6) l h.len (fun k=>Hp++[AObj.cells 24 [AV.nil],AObj.cells 27 [A5 0],AObj.cells 30 [Mt (Cu c l l.length)],AObj.cells 27 [A5 0],AObj.cells 24 [Bt ((bkM c l row k).1)],AObj.defs,AObj.loop LoopState.ready none FR 57 #[36,37] as' bd' (oid Hp.length 5)]) (BkAt c l row) (fun V=>(∃t,V=Hp++[AObj.cells 24 [AV.nil],AObj.cells 27 [A5 0],AObj.cells 30 [Mt (Cu c l l.length)],AObj.cells 27 [A5 0],AObj.cells 24 [Bt (t)],AObj.defs,AObj.loop LoopState.ready none FR 57 #[36,37] as' bd' (oid Hp.length 5)]∧Ew c l row=(t,0)∧RowI c t)∨(∃(e:Int) (t:List Val),V=Hp++[AObj.cells 24 [AV.nil],AObj.cells 27 [A5 e],AObj.cells 30 [Mt (Cu c l l.length)],AObj.cells 27 [A5 e],AObj.cells 24 [Bt (t)],AObj.defs,AObj.loop LoopState.done (some Code.ret) FR 57 #[36,37] as' bd' (oid Hp.length 5)]∧Ew c l row=([],e))) (fun k=>by simp) (by simp [oid]) (fun k=>(fun x hx=>by rw [Ap];exact hOl (lp:=AObj.loop LoopState.ready none FR 57 #[36,37] as' bd' (oid Hp.length 5)) (by exact ⟨hFRl,by simp [oid]⟩) x hx)) (.zero hR0) (fun k m X hk hm hN=>?_) (fun hN=>.inl ⟨_,rfl,by rw [W9 ht31];exact hN.fin,by have:=hN.row;rw [O8] at this;exact this⟩),?_⟩
 ·generalize hV:Hp++[AObj.cells 24 [AV.nil],AObj.cells 27 [A5 0],AObj.cells 30 [Mt (Cu c l l.length)],AObj.cells 27 [A5 0],AObj.cells 24 [Bt ((bkM c l row k).1)],AObj.defs,AObj.loop LoopState.ready none FR 57 #[36,37] as' bd' (oid Hp.length 5)]++X=V
  have hL:V[oid Hp.length 6]? = some (AObj.loop LoopState.ready none FR 57 #[36,37] as' bd' (oid Hp.length 5)):=by rw [←hV,Ca,C0];rfl
  have hA0:V[oid Hp.length 0]? = some (AObj.cells 24 [AV.nil]):=by rw [←hV,Ca,C0];rfl
  have hB0:V[oid Hp.length 1]? = some (AObj.cells 27 [A5 0]):=by rw [←hV,Ca,C0];rfl
  have hS0:V[oid Hp.length 2]? = some (AObj.cells 30 [Mt (Cu c l l.length)]):=by rw [←hV,Ca,C0];rfl
  have hE0:V[oid Hp.length 3]? = some (AObj.cells 27 [A5 0]):=by rw [←hV,Ca,C0];rfl
  have hZ0:V[oid Hp.length 4]? = some (AObj.cells 24 [Bt (bkM c l row k).1]):=by rw [←hV,Ca,C0];rfl
  refine S4 (pd:=none) (fr:=FR) (sz:=57) (ps:=#[36,37]) (df:=oid Hp.length 5) (asg:=as') (bd:=bd') hL rfl (by decide) (fun d=>?_)
  subst hFR has hbd
  refine Hy [6,7,8,9,10,36,37] ?_
  have hmo:=h.each m (B2 hm)
  have hmv:=hmvo m (B2 hm)
  have htn:=Lx hst hm
  have hcn:=Fz (c:=c) hm
  have hCo:=G5 hc (fun m hm=>h.each m hm) (l.length-1-k+1)
  have hCi:=G5 hc (fun m hm=>h.each m hm) (l.length-1-k)
  have herr:=fun hb=>AK7 (row:=row) hk hm hN.ok hb
  have hnxt:=hN.next hk hm (fun e he=>hmo.back.rng e he)
  have htb:=Uj hm hN.ok
  have htl:=hN.row
  rw [show l.length-k=l.length-1-k+1 by omega] at htl
  have hik:l.length-1-k<l.length:=by omega
  have hsy:∀y∈colsAt c l (l.length-1-k),¬0≤H6 y.name m.take→∃j:Nat,Bn y.name (colsAt c l (l.length-1-k+1))=j∧j<(colsAt c l (l.length-1-k+1)).length:=fun y hy hn=>by
   rw [hcn]
   exact AGj htn hy hn
  generalize l.length-1-k=i at *
  refine Z2 ?_;refine A2 [6,7,8,9,10,11,37] ?_;refine Ix ?_;refine Z20 ?_;refine A2 [6,7,8,9,10,11,12] ?_
  refine ⟨rfl,none,hL,?_⟩
  generalize hbz:(AObj.loop LoopState.busy _ _ _ _ _ _ _)=bz
  have hA:(V.set (oid Hp.length 6) bz)[oid Hp.length 0]? = some (AObj.cells 24 [AV.nil]):=by rw [Ec (Cv (by decide))];exact hA0
  have hB:(V.set (oid Hp.length 6) bz)[oid Hp.length 1]? = some (AObj.cells 27 [A5 0]):=by rw [Ec (Cv (by decide))];exact hB0
  have hS:(V.set (oid Hp.length 6) bz)[oid Hp.length 2]? = some (AObj.cells 30 [Mt (Cu c l l.length)]):=by rw [Ec (Cv (by decide))];exact hS0
  have hE:(V.set (oid Hp.length 6) bz)[oid Hp.length 3]? = some (AObj.cells 27 [A5 0]):=by rw [Ec (Cv (by decide))];exact hE0
  have hZ:(V.set (oid Hp.length 6) bz)[oid Hp.length 4]? = some (AObj.cells 24 [Bt (bkM c l row k).1]):=by rw [Ec (Cv (by decide))];exact hZ0
  refine Mi ?_
  refine Hw [0,0,3,7,0,0,32,112,240,0,0,2047,4095,8191,8191,16383,65535] [15] [.q 14 [] [0],.q 1 [] [],.s [] (some 0) [] []] (fun B=>if B 0=true then ((V.set (oid Hp.length 6) bz).set (oid Hp.length 4) (AObj.cells 24 [Bt (Cn (colsAt c l i) (colsAt c l (i+1)) m (bkM c l row k).1).1])) else (V.set (oid Hp.length 6) bz)) (fun _=>[AObj.cells 54 (Nj m)]) Ai (by kernel_rfl) rfl rfl (fun B=>by split<;>simp) ?_
  apply Y.q
  ·intro B hT hF
   first|simp only [hF 0 (v8 0),Af,if_false]|skip
   refine Ak (h:=Cm hS) (hr:=?_)
   refine Ak ?_
   refine Ak (h:=Ac (i) (Ao (colsAt c l i)) (fun _=>AJs (Qc (by omega)))) (hr:=?_)
   refine Ak ?_
   refine Ak (h:=Cm hS) (hr:=?_)
   refine Z12 ?_
   refine Ak (h:=Ac ((i+1)) (Ao (colsAt c l (i+1))) (fun _=>AJs (Qc (by omega)))) (hr:=?_)
   refine Z12 ?_
   refine Ak (h:=Cm hZ) (hr:=?_)
   refine Dd Tryz.call25 (c25 (colsAt c l i) (colsAt c l (i+1)) hCi.len hCo m hmo (Gf (M5 hmv)).2 hsy (bkM c l row k).1 htl.fine htl.len _) ?_;exact Z95
  case hTF=>decide
  apply Y.q
  ·intro B hT hF
   first|simp only [hF 0 (v8 0),Af,if_false]|skip
   exact Yp
  case hTF=>decide
  refine Y.storeUp (o:=oid Hp.length 4) (t':=24) (ys:=[Bt (Cn (colsAt c l i) (colsAt c l (i+1)) m (bkM c l row k).1).1]) (cs:=[Bt (bkM c l row k).1]) (cs':=[Bt (Cn (colsAt c l i) (colsAt c l (i+1)) m (bkM c l row k).1).1]) Tryz.sizeOf24 (fun B hB=>⟨by simp only [hB];exact hZ,by simp [upd,hB],rfl,bv⟩) ?_
  refine Gx (tn:=[15]) (U:=((V.set (oid Hp.length 6) bz).set (oid Hp.length 4) (AObj.cells 24 [Bt (Cn (colsAt c l i) (colsAt c l (i+1)) m (bkM c l row k).1).1]))) ?_
  refine Gn jS (kq hE (Cv (by decide))) ?_ ?_
  ·simp
  refine A2 [6,7,9] ?_;refine Eb ?_
  have hE2:(((V.set (oid Hp.length 6) bz).set (oid Hp.length 4) (AObj.cells 24 [Bt (Cn (colsAt c l i) (colsAt c l (i+1)) m (bkM c l row k).1).1])).set (oid Hp.length 3) (AObj.cells 27 [A5 (Cn (colsAt c l i) (colsAt c l (i+1)) m (bkM c l row k).1).2]))[oid Hp.length 3]? = some (AObj.cells 27 [A5 (Cn (colsAt c l i) (colsAt c l (i+1)) m (bkM c l row k).1).2]):=getset (kq hE (Cv (by decide)))
  refine A4 (h:=Cm hE2) (hr:=?_)
  refine A4 ?_;refine A2 [6,7,9,54] ?_
  refine A3 (fun ht54=>?_) (fun ht54=>?_)
  ·have herr:=herr (by simpa using ht54)
   refine Hw [0,0,3] [1] [.q 1 [] [],.s [] (some 0) [] []] (fun B=>if B 0=true then ((((V.set (oid Hp.length 6) bz).set (oid Hp.length 4) (AObj.cells 24 [Bt (Cn (colsAt c l i) (colsAt c l (i+1)) m (bkM c l row k).1).1])).set (oid Hp.length 3) (AObj.cells 27 [A5 (Cn (colsAt c l i) (colsAt c l (i+1)) m (bkM c l row k).1).2])).set (oid Hp.length 0) (AObj.cells 24 [AV.nil])) else (((V.set (oid Hp.length 6) bz).set (oid Hp.length 4) (AObj.cells 24 [Bt (Cn (colsAt c l i) (colsAt c l (i+1)) m (bkM c l row k).1).1])).set (oid Hp.length 3) (AObj.cells 27 [A5 (Cn (colsAt c l i) (colsAt c l (i+1)) m (bkM c l row k).1).2]))) (fun _=>[AObj.cells 54 (Nj m)]) Ai (by kernel_rfl) rfl rfl (fun B=>by split<;>simp) ?_
   apply Y.q
   ·intro B hT hF
    refine Ak (h:=Cm (show (if B 0=true then ((((V.set (oid Hp.length 6) bz).set (oid Hp.length 4) (AObj.cells 24 [Bt (Cn (colsAt c l i) (colsAt c l (i+1)) m (bkM c l row k).1).1])).set (oid Hp.length 3) (AObj.cells 27 [A5 (Cn (colsAt c l i) (colsAt c l (i+1)) m (bkM c l row k).1).2])).set (oid Hp.length 0) (AObj.cells 24 [AV.nil])) else (((V.set (oid Hp.length 6) bz).set (oid Hp.length 4) (AObj.cells 24 [Bt (Cn (colsAt c l i) (colsAt c l (i+1)) m (bkM c l row k).1).1])).set (oid Hp.length 3) (AObj.cells 27 [A5 (Cn (colsAt c l i) (colsAt c l (i+1)) m (bkM c l row k).1).2])))[oid Hp.length 3]? = some (AObj.cells 27 [A5 (Cn (colsAt c l i) (colsAt c l (i+1)) m (bkM c l row k).1).2]) by split;exact kq hE2 (Cv (by decide));exact hE2)) (hr:=?_)
    exact cu
   case hTF=>decide
   refine Y.storeUp (o:=oid Hp.length 0) (t':=24) (ys:=[.nil]) (cs:=[.nil]) (cs':=[.nil]) Tryz.sizeOf24 (fun B hB=>⟨by simp only [hB];exact kq (kq hA (Cv (by decide))) (Cv (by decide)),by simp [upd,hB],rfl,by simp⟩) ?_
   refine Gx (tn:=[1]) (U:=((((V.set (oid Hp.length 6) bz).set (oid Hp.length 4) (AObj.cells 24 [Bt (Cn (colsAt c l i) (colsAt c l (i+1)) m (bkM c l row k).1).1])).set (oid Hp.length 3) (AObj.cells 27 [A5 (Cn (colsAt c l i) (colsAt c l (i+1)) m (bkM c l row k).1).2])).set (oid Hp.length 0) (AObj.cells 24 [AV.nil]))) ?_
   refine Gn jS (kq (kq (kq hB (Cv (by decide))) (Cv (by decide))) (Cv (by decide))) ?_ ?_
   ·simp
   refine A2 [] ?_;refine Dc ?_;refine Mf ?_
   subst hbz
   refine K.rdR (ASe hL (Cv (by decide)) (Cv (by decide)) (Cv (by decide)) (Cv (by decide))) ?_
   refine .inr ⟨rfl,Hp++[AObj.cells 24 [AV.nil],AObj.cells 27 [A5 (Cn (colsAt c l i) (colsAt c l (i+1)) m (bkM c l row k).1).2],AObj.cells 30 [Mt (Cu c l l.length)],AObj.cells 27 [A5 (Cn (colsAt c l i) (colsAt c l (i+1)) m (bkM c l row k).1).2],AObj.cells 24 [Bt ((Cn (colsAt c l i) (colsAt c l (i+1)) m (bkM c l row k).1).1)],AObj.defs,_],?_,by simp,(fun x hx=>by rw [Ap];exact hOl (lp:=_) (by exact ⟨hFRl,by simp [oid]⟩) x hx),.inr ⟨_,_,rfl,by rw [W9 ht31];exact herr⟩⟩
   subst hV
   simp only [Ca,Hl,Fe,F6,List.set_cons_succ,List.set_cons_zero]
  have hB1:=hnxt (by simpa using ht54)
  refine ADk ?_
  subst hbz
  refine AHt ?_
  refine .inl ⟨rfl,hB1,?_⟩
  subst hV
  simp only [Ca,Hl,Fe,F6,List.set_cons_succ,List.set_cons_zero]
  rw [htb,show (Cn (colsAt c l i) (colsAt c l (i+1)) m (bkM c l row k).1).2=0 by simpa using ht54]
 rintro r H' (⟨t,rfl,hrun,_⟩|⟨e,t,rfl,hrun⟩)
 ·refine ⟨Hp,_,_,_,rfl,rfl,fun h=>h,?_,rfl,by simp,?_⟩
  ·intro o ho
   have:o=oid Hp.length 5:=by simpa using ho
   subst this
   rw [C0]
   rfl
  refine Z11 ?_;refine Z2 ?_;refine Gd ?_;refine Gd ?_;refine A2 [6,7] ?_;refine Dc ?_;exact A9 (B1 (Hg jA) (Hg jA)) ⟨by rw [hrun],rfl⟩ (hlow:=by simp only [iq,Bu,Fi,or_false];rintro y (rfl|rfl);exact Db;simp)
 refine ⟨Hp,_,_,_,rfl,rfl,fun h=>h,?_,rfl,by simp,?_⟩
 ·intro o ho
  have:o=oid Hp.length 5:=by simpa using ho
  subst this
  rw [C0]
  rfl
 refine W.nilOwn 0 3 ?_;refine Z21 ?_;exact A9 (B1 (Hg jA) (Hg jA)) ⟨by rw [hrun];rfl,rfl⟩

/-! mig.Parse: the first fault is rd. -/
inductive PR (α:Type) where
 | ok (r:α) (i:Nat)
 | bad (e a:Int)
def PR.bind {α β:Type} (x:PR α) (f:α→Nat→PR β):PR β:=match x with
 | .ok r i=>f r i
 | .bad e a=>.bad e a
def g8 {α:Type} (L:List Tok) (i:Nat) (e:Int):PR α:=.bad e (Aq L i).at_
def isP (L:List Tok) (s:Str) (i:Nat):Bool:=(((Aq L i).kind==5) || ((Aq L i).kind==2))&&((Aq L i).text==s)
def Dk (L:List Tok) (s:Str) (i:Nat):PR Unit:=if isP L s i then .ok () (i+1) else g8 L i 8
def Im (L:List Tok) (i:Nat):PR Str:=if (Aq L i).kind != 1 then g8 L i 8 else .ok (Aq L i).text (i+1)
def xe (L:List Tok) (nm:Str) (j:Nat):PR Col:=if ((Aq L j).kind != 2) || (Wq (Aq L j).text==0) then g8 L j 8 else .ok ⟨nm,Wq (Aq L j).text⟩ (j+1)
def Ly (L:List Tok) (i:Nat):PR Col:=(Im L i).bind (xe L)
def P7 (L:List Tok) (i:Nat):PR Expr:=if (atM L i).2.2.1 != 0 then .bad (atM L i).2.2.1 (atM L i).2.2.2 else .ok (atM L i).1 (atM L i).2.1.toNat
def Eg (m:Mov) (c:Col):Mov:={ m with give:=m.give++[c] }
def xf (m:Mov) (x:Expr):Mov:={ m with ahead:=m.ahead++[x] }
def G9 (L:List Tok) (m:Mov) (i:Nat):PR Mov:=(Ly L i).bind fun c j=>(Dk L [61] j).bind fun _ j=>(P7 L j).bind fun x j=>.ok (xf (Eg m c) x) j
def Wz (L:List Tok) (n:Int) (k:Nat) (i:Nat):Bool:=decide ((k:Int)<n) || ((n==0)&&(decide ((k:Int)<2) || isP L [44] i))
/-- Things with commas between, behind the first k. -/
def Uk (L:List Tok) (n:Int) (one:Mov→Nat→PR Mov):Nat→Nat→Mov→Nat→PR Mov
 | 0,_,m,i=>.ok m i
 | f+1,k,m,i=>if Wz L n k i then (Dk L [44] i).bind fun _ j=>(one m j).bind fun m j=>Uk L n one f (k+1) m j else .ok m i
def Jo (L:List Tok) (n:Int) (one:Mov→Nat→PR Mov) (m:Mov) (i:Nat):PR Mov:=(one m i).bind fun m j=>Uk L n one (L.length+1) 1 m j
def AGl:Str:=[98,97,99,107]
def Lg:Str:=[105,110,116,111]
def toW:Str:=[116,111]
def xg (m:Mov) (x:Expr):Mov:={ m with back:=m.back++[x] }
def X0 (L:List Tok) (m:Mov) (i:Nat):PR Mov:=(P7 L i).bind fun x j=>.ok (xg m x) j
def Ha (L:List Tok) (m:Mov) (i:Nat):PR Mov:=(Dk L AGl i).bind fun _ j=>Jo L m.take.length (X0 L) m j
def Lz (L:List Tok) (m:Mov) (i:Nat):PR Mov:=(Im L i).bind fun s j=>(Dk L toW j).bind fun _ j=>(Im L j).bind fun t j=>.ok ⟨m.kind,[s],[⟨t,0⟩],[Ds s],[Ds t]⟩ j
def takeS (m:Mov) (s:Str):Mov:={ m with take:=[s] }
def xh (m:Mov) (s:Str):Mov:={ m with take:=m.take++[s] }
def Ul (L:List Tok) (m:Mov) (i:Nat):PR Mov:=(Im L i).bind fun s j=>.ok (xh m s) j
def Jp (L:List Tok) (m:Mov) (i:Nat):PR Mov:=
 if m.kind==1 then G9 L m i
 else if m.kind==2 then (Im L i).bind fun s j=>Ha L (takeS m s) j
 else if m.kind==3 then Lz L m i
 else if m.kind==4 then (Im L i).bind fun s j=>(Dk L Lg j).bind fun _ j=>(Jo L 0 (G9 L) (takeS m s) j).bind fun m j=>Ha L m j
 else if m.kind==5 then (Jo L 0 (Ul L) m i).bind fun m j=>(Dk L Lg j).bind fun _ j=>(G9 L m j).bind fun m j=>Ha L m j
 else if m.kind==6 then (G9 L m i).bind fun m j=>Ha L (takeS m (m.give.getD 0 ⟨[],0⟩).name) j
 else .ok m i
def migWords:List Str:=[[],[97,100,100],[100,114,111,112],[114,101,110,97,109,101],[115,112,108,105,116],[109,101,114,103,101],[114,101,116,121,112,101]]
def Fa (k:Int):Str:=if (decide (k<1) || decide (6<k))=true then [] else migWords.getD k.toNat []
def Iw (s:Str):Int:=if Fa 1==s then 1 else if Fa 2==s then 2 else if Fa 3==s then 3 else if Fa 4==s then 4 else if Fa 5==s then 5 else if Fa 6==s then 6 else 0
def Qg (L:List Tok) (i:Nat):PR Mov:=
 if ((Aq L i).kind != 2) || (Iw (Aq L i).text==0) then g8 L i 8
 else (Jp L ⟨Iw (Aq L i).text,[],[],[],[]⟩ (i+1)).bind fun m j=>(Dk L [59] j).bind fun _ j=>.ok m j
/-- Moves, behind some. -/
def Ox (L:List Tok):Nat→List Mov→Nat→PR (List Mov)
 | 0,l,i=>.ok l i
 | f+1,l,i=>if (Aq L i).kind != 0 then (if (l.length:Int)==8 then g8 L i 3 else (Qg L i).bind fun m j=>Ox L f (l++[m]) j) else .ok l i
def L9 (L:List Tok):PR (List Mov):=Ox L 9 [] 0
/-- The moves; the fault's code and place. -/
def Xk (s:Str):List Mov×Int×Int:=
 if (I7 s).2.1 != 0 then ([],(I7 s).2.1,(I7 s).2.2)
 else match L9 (I7 s).1 with
  | .ok l _=>(l,0,0)
  | .bad e a=>([],e,a)
end Go.SX.Nb
namespace Go.SX
variable [GI:GlobInv]
open Classical
section
variable {P:Program} {d:Nat}
variable {sz:Nat} {dfs:List Nat} {rnd:Option Nat} {l0:List Oper} {up own:(Nat→Bool)→List AObj} {KP:List PanicEntry→St→Prop} {E:List Oper→(Nat→AV)→Prop} {S:List SegY} {l:List Oper} {fr:Nat→AV} {ty:TypeId} {pos:String} {aft:Array Edge} {s:Nat} {T F:List Nat}
end
section
variable {P:Program} {d:Nat} {ops:Array Oper}
theorem AW.upEq {c:Code} {sz:Nat} {fr:Nat→AV} {up up' own:List AObj} {dfs:List Nat} {rnd:Option Nat} {K:Exit→St→Prop} (e:up=up') (h:AW P d c ⟨sz,fr,up',own,dfs,rnd⟩ K):AW P d c ⟨sz,fr,up,own,dfs,rnd⟩ K:=e ▸ h
end
end Go.SX
namespace Go.SX
def T3:=@AW.upEq
end Go.SX
