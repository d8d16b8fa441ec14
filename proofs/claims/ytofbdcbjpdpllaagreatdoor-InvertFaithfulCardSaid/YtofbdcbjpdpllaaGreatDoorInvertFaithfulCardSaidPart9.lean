/- On the way (part 9). -/
import Derived.Shelf.Strings.Builder1
import Derived.Test.YtofbdcbjpdpllaaGreatDoorInvertFaithfulCardSaidPart8
set_option linter.all false
namespace Go.SX.Nb
open Go Go.SX Go.Proofs
variable [ErrAt]
set_option maxRecDepth 4000
theorem c93 (l:List Col) (hl:l.length≤1000000) (Hp:List AObj):AFun Tryz.prog 93 [Ax l] Hp (Ax l):=by
 refine Ak [.tmp 2] [0] Tryz.func93 Tryz.ntmps93 (fun d=>?_)
 refine Z57 ?_;refine Z36 ?_
 refine R.eqlNil jU (by kernel_rfl) (fun b hb=>?_)
 refine A2 [0,4] ?_
 refine A3 (fun ht4=>?_) (fun ht4=>?_)
 ·have hl0:l=[]:=by simpa using hb ht4
  subst hl0
  refine Z2 ?_;refine Sc 2 2 false ?_;refine Z4 ?_;exact AHs
 refine ba ?_;refine U6 ?_;refine A5 ?_
 refine Gq jU Tryz.type41 ?_ ?_ ?_
 ·simp [Tryz.t41];omega
 ·simp [Tryz.t41];omega
 refine Ji ?_;exact AHv

theorem zo {Hp:List AObj} {y:Col} {n:Nat} (h:∀x∈Hp,ObjLow Hp.length x):∀x∈Hp++[AObj.cells 41 [],AObj.cells 41 (Ah y.name::A4 y.kind::List.replicate n AV.any)],ObjLow (Hp.length+2) x:=by
 intro x hx
 rcases Ds.1 hx with hx|hx
 ·exact Ld (by omega) (h x hx)
 simp only [Bj,Ev,or_false] at hx
 rcases hx with rfl|rfl
 ·intro z hz;cases hz
 intro z hz
 simp only [Bj] at hz
 rcases hz with rfl|rfl|hz
 ·simp
 ·simp
 rw [List.eq_of_mem_replicate hz];simp
theorem AMx (y:Col) (Hp:List AObj):ACallO Tryz.prog 93 [Ax [y]] Hp (fun r H'=>∃cc,1≤cc∧r=.sl (oid Hp.length 1) 2 1 cc∧H'=Hp++[.cells 41 [],.cells 41 (Ah y.name::A4 y.kind::List.replicate ((cc-1)*2) AV.any)]):=by
 refine ACallO.body [.tmp 2] [0] Tryz.func93 Tryz.ntmps93 (fun d=>?_)
 refine Z57 ?_;refine Z56 ?_
 refine Ii (fun hlow=>?_)
 refine A5 ?_
 refine R.eqlNil jU (by kernel_rfl) (fun b hb=>?_)
 refine A2 [0,4] ?_
 refine A3 (fun ht4=>?_) (fun ht4=>?_)
 ·exact absurd (hb ht4) (by simp)
 refine ba ?_;refine R.buildObj0 (n:=0) jU Tryz.sizeOf41 ?_;refine A5 ?_
 refine R.appendObj (k:=2) (n:=1) jU Tryz.type41 (show [El y]≠[] by simp) ?_ ?_ (fun cc hcc=>?_)
 ·simp [Tryz.t41]
 ·simp
 have e0:Mt [El y]++List.replicate ((cc-[El y].length)*2) AV.any=Ah y.name::A4 y.kind::List.replicate ((cc-1)*2) AV.any:=rfl
 rw [e0]
 clear e0
 refine A5 ?_;refine Z4 ?_;exact K.finO 2 (A6 (t:=2)) ⟨cc,hcc,rfl,rfl⟩ (hlow:=by simp [oid]) (hobj:=zo hlow)

theorem AJj (c:List Col) (hc:OkCols c) (m:Mov) (h:OkMov m) (h3:(m.kind==3)=false) (Hp:List AObj):AFun Tryz.prog 185 [Ax c,Jn m] Hp (Ax (Bs c m)):=by
 refine Ak [.tmp 4] [0,1] Tryz.func185 Tryz.ntmps185 (fun d=>?_)
 refine w5 ?_;refine Z1 ?_;refine A8 Tryz.call93 (c93 m.give h.gives2 _) ?_;refine A5 ?_;refine A2 [0,3,5] ?_;refine Z34 ?_;refine A2 [0,3,5,12] ?_
 refine A3 (fun ht12=>?_) (fun ht12=>?_)
 ·rw [h3] at ht12;cases ht12
 refine U5 ?_;refine Z21 ?_;exact A7 (An A6) ⟨by rw [AD2 h3]<;>rfl,rfl⟩

theorem AJk (c:List Col) (hc:OkCols c) (m:Mov) (h:OkMov m) (h3:(m.kind==3)=true) (s:Str) (y:Col) (ht:m.take=[s]) (hg:m.give=[y]) (Hp:List AObj):AFun Tryz.prog 185 [Ax c,Jn m] Hp (Ax (Bs c m)):=by
 have hgv:=AD3 (c:=c) h3 ht hg
 have hgy:=zm (c:=c) h3 ht hg
 obtain ⟨kd,tk,gv,ah,bk⟩:=m
 simp only at ht hg h3
 subst ht hg
 refine Ak [.tmp 4] [0,1] Tryz.func185 Tryz.ntmps185 (fun d=>?_)
 refine w5 ?_;refine Z1 ?_;refine R.callO Tryz.call93 (AMx y _) ?_
 rintro _ _ ⟨cc,hcc,rfl,rfl⟩
 refine ⟨[.cells 41 [],.cells 41 (Ah y.name::A4 y.kind::List.replicate ((cc-1)*2) AV.any)],by simp,?_⟩
 simp only [Ig,Cz]
 refine A5 ?_;refine A2 [0,3,5] ?_;refine Z34 ?_;refine A2 [0,3,5,12] ?_
 refine A3 (fun ht12=>?_) (fun ht12=>?_)
 ·refine Z13 ?_
  refine A5 (h:=Ap (0) (Ah s) (fun _=>rfl)) (hr:=?_)
  refine A5 ?_;refine A8 Tryz.call58 (c58 c hc s _) ?_;refine A5 ?_;refine A2 [0,5,6] ?_;refine Z1 ?_;refine A2 [0,5,6,20] ?_
  refine A3 (fun ht20=>?_) (fun ht20=>?_)
  ·have hf:¬Br s c<0:=by simp at ht20;omega
   obtain ⟨jj,hjj,hjc⟩:=Ny hf
   refine Z85 ?_
   refine A5 (h:=Ap ((Br s c).toNat) (El (c.getD (Br s c).toNat ⟨[],0⟩)) (fun _=>np hf)) (hr:=?_)
   refine Z0 ?_;refine R.indexAddrSl (n:=1) 0 jU Tryz.sizeOf41 (by decide) ?_
   refine A5 (h:=Q.fieldAddrPtr (hc:=rfl)) (hr:=?_)
   refine R.storeOwn (y:=A4 (c.getD (Br s c).toNat ⟨[],0⟩).kind) (ys:=[A4 (c.getD (Br s c).toNat ⟨[],0⟩).kind]) (n:=1) (cs:=Ah y.name::A4 y.kind::List.replicate ((cc-1)*2) AV.any) (cs':=Ah y.name::A4 (c.getD (Br s c).toNat ⟨[],0⟩).kind::List.replicate ((cc-1)*2) AV.any) (t':=41) jS ?_ (hc:=rfl) (hput:=rfl) (hfit:=by simp)
   refine A2 [5] ?_;refine Ft ?_;refine Es ?_;refine R.freeze (k:=2) (n:=1) 5 1 [El ⟨y.name,(c.getD (Br s c).toNat ⟨[],0⟩).kind⟩] hcc rfl rfl (gw [⟨y.name,(c.getD (Br s c).toNat ⟨[],0⟩).kind⟩]) (gy [⟨y.name,(c.getD (Br s c).toNat ⟨[],0⟩).kind⟩]) (X9 [⟨y.name,(c.getD (Br s c).toNat ⟨[],0⟩).kind⟩]) ?_;refine Z0 ?_;exact AGx
  have hf:Br s c<0:=by simp at ht20;omega
  refine ba ?_;refine R.freeze (k:=2) (n:=1) 5 1 [El ⟨y.name,y.kind⟩] hcc rfl rfl (gw [⟨y.name,y.kind⟩]) (gy [⟨y.name,y.kind⟩]) (X9 [⟨y.name,y.kind⟩]) ?_;refine Z0 ?_;exact AGx
 rw [h3] at ht12;cases ht12

/-- What a move must have before it is turned. -/
structure MvOk (m:Mov):Prop where
 ok:OkMov m
 ahead:m.ahead.length=m.give.length
 back:m.back.length=m.take.length
 one:(m.kind==3)=true→m.take.length=1∧m.give.length=1
theorem AD4 {m:Mov} (h:OkMov m) (hc:Gk m=true):MvOk m:=⟨h,(Is hc).1,(Is hc).2,fun h3=>X8 hc (by rw [h3];rfl)⟩
theorem AMy (c:List Col) (hc:OkCols c) (m:Mov) (h:MvOk m) (Hp:List AObj):AFun Tryz.prog 185 [Ax c,Jn m] Hp (Ax (Bs c m)):=by
 cases h3:m.kind==3 with
 | false=>exact AJj c hc m h.ok h3 Hp
 | true =>
  obtain ⟨h1,h2⟩:=h.one h3
  obtain ⟨s,hs⟩:=zn h1
  obtain ⟨y,hy⟩:=zn h2
  exact AJk c hc m h.ok h3 s y hs hy Hp
theorem gz {c:List Col} {m:Mov} (h:OkMov m):OkCols (Bs c m):=by
 refine ⟨by rw [Ly];exact Jr h.gives2 (by decide),fun y hy=>?_⟩
 unfold Bs at hy
 split at hy
 ·split at hy
  ·exact h.gives.2 y hy
  cases hg:m.give with
  | nil=>rw [hg] at hy;cases hy
  | cons z r =>
   rw [hg] at hy
   rcases Bj.1 hy with rfl|hy
   ·exact h.gives.2 z (by rw [hg];exact Hw)
   exact h.gives.2 y (by rw [hg];exact Jo _ hy)
 exact h.gives.2 y hy
theorem i6 {c give:List Col} {take:List Str} (hc:OkCols c) (hg:OkCols give) (hg2:give.length≤1000000):OkCols (Dh c take give).1:=by
 have h0:OkCols ([]:List Col):=⟨by decide,fun y hy=>by cases hy⟩
 unfold Dh
 split
 ·exact h0
 rename_i hr
 split
 ·exact h0
 split
 ·exact h0
 split
 ·exact h0
 split
 ·exact h0
 exact xq hc (by simpa using hr) hg hg2 rfl
theorem lf {c give:List Col} {take:List Str} (h:((Dh c take give).2 != 0)=false):∀s∈take,¬Br s c<0:=by
 have ht:I5 c take=true:=by
  unfold Dh at h
  split at h
  ·cases h
  split at h
  ·cases h
  rename_i ht
  simpa using ht
 intro s hs hf
 obtain ⟨j,hj⟩:=Ct hs
 have:=takenM_true.1 ht j s hj
 unfold Om at this
 rw [show decide (Br s c<0)=true by simpa using hf] at this
 simp at this
theorem sm {over:List Col} {l:List Expr} {w:List Col} {x:Nat} (hl:x<l.length) (hw:x<w.length):
  D9 over (l.drop x) (w.drop x)=if Sz l[x] over w[x].kind != 0 then Sz l[x] over w[x].kind else D9 over (l.drop (x+1)) (w.drop (x+1)):=by
 rw [K5 hl,K5 hw]
 rfl
theorem zp {over:List Col} {l:List Expr} {w:List Col} {x:Nat} (hl:l.length≤x):D9 over (l.drop x) (w.drop x)=0:=by
 rw [List.drop_eq_nil_of_le hl]
 cases w.drop x<;>rfl
theorem Zi {α β:Type} {f:α→β} {l:List α} {x:Nat} (h:x<l.length):(l.take (x+1)).map f=(l.take x).map f++[f l[x]]:=by
 rw [Iv h,Cr];rfl
theorem nq {c:List Col} {m:Mov} (h:((Dh c m.take (Bs c m)).2 != 0)=true):Bn c m=([],(Dh c m.take (Bs c m)).2):=if_pos h
theorem nr {c:List Col} {m:Mov} (h:((Dh c m.take (Bs c m)).2 != 0)=false) (h2:(D9 c m.ahead (Bs c m) != 0)=true):Bn c m=([],D9 c m.ahead (Bs c m)):=by
 unfold Bn;rw [if_neg (by rw [h];simp),if_pos h2]
theorem nt {c:List Col} {m:Mov} (h:((Dh c m.take (Bs c m)).2 != 0)=false) (h2:(D9 c m.ahead (Bs c m) != 0)=false) (h3:(D9 (Dh c m.take (Bs c m)).1 m.back (Ir c m) != 0)=true):Bn c m=([],D9 (Dh c m.take (Bs c m)).1 m.back (Ir c m)):=by
 unfold Bn;rw [if_neg (by rw [h];simp),if_neg (by rw [h2];simp),if_pos h3]
theorem nu {c:List Col} {m:Mov} (h:((Dh c m.take (Bs c m)).2 != 0)=false) (h2:(D9 c m.ahead (Bs c m) != 0)=false) (h3:(D9 (Dh c m.take (Bs c m)).1 m.back (Ir c m) != 0)=false):Bn c m=((Dh c m.take (Bs c m)).1,0):=by
 unfold Bn;rw [if_neg (by rw [h];simp),if_neg (by rw [h2];simp),if_neg (by rw [h3];simp)]
theorem AJl (l:List Expr) (h:OkEs l) (w:List Col) (hw:w.length=l.length) (c:List Col) (hc:OkCols c) (Hp:List AObj):AFun Tryz.prog 187 [Iq l,Ax w,Ax c] Hp (A4 (D9 c l w)):=by
 refine Ak [.tmp 6] [0,1,2] Tryz.func187 Tryz.ntmps187 (fun d=>?_)
 refine Z2 ?_;refine Xv ?_;refine Z34 ?_;refine A2 [1,2,11,12,13] ?_
 refine Dp (α:=Nat) (fun x=>⟨37,Af 1 (Ax w) (Af 2 (Ax c) (Af 11 (Iq l) (Af 12 (A4 (l.length:Nat)) (Af 13 (A4 (x:Nat)) (fun _=>.any))))),Hp,[],[],none⟩) (fun x=>x≤l.length∧D9 c l w=D9 c (l.drop x) (w.drop x)) (fun x=>l.length-x) (0) ⟨Bc _,rfl⟩ (Co (by simp)) rfl (fun x hx=>?_)
 refine Z2 ?_;refine A2 [1,2,11,12,13,14] ?_
 refine Dn (fun ht14=>?_) (fun ht14=>?_)
 ·have hlt:x<l.length:=by simpa using ht14
  have hlw:x<w.length:=by omega
  have hlen:=h.len
  have hst:=sm (over:=c) hlt hlw
  refine Pk ?_
  refine A5 (h:=Ap (x) (Aa l[x]) (fun _=>Bv hlt)) (hr:=?_)
  refine dr ?_;refine A2 [1,2,7,8,11,12,13] ?_;refine Z31 ?_;refine A8 Tryz.call13 (c13 61 l[x] (h.ok _ (C4 hlt)) (by decide) c hc _) ?_;refine Z82 ?_;refine A2 [1,2,7,8,10,11,12,13] ?_;refine Z1 ?_;refine A2 [1,2,7,8,10,11,12,13,25] ?_
  refine A3 (fun ht25=>?_) (fun ht25=>?_)
  ·have he:Sz l[x] c w[x].kind=(Hq l[x] c).2:=if_pos ht25
   have hm:D9 c l w=(Hq l[x] c).2:=by rw [hx.2,hst,he,if_pos ht25]
   refine Z1 ?_;refine pm ?_;exact AB4
  refine Z6 ?_;refine Ed [0,0,0,0,12,28,60,127,255] 7 Ar (by kernel_rfl) ?_;refine Vo ?_
  refine B1 (h:=Ap (x) (El w[x]) (fun _=>Bv hlw)) (hr:=?_)
  refine Z91 ?_;refine A8 Tryz.call244 (AMw 61 l[x] (h.ok _ (C4 hlt)) (by decide) c hc w[x].kind _) ?_;refine A5 ?_;refine A2 [1,2,11,12,13,35] ?_
  refine A3 (fun ht35=>?_) (fun ht35=>?_)
  ·have he:Sz l[x] c w[x].kind=10:=by unfold Sz;rw [if_neg (by rw [ht25];simp),if_pos ht35]
   have hm:D9 c l w=10:=by rw [hx.2,hst,he];rfl
   refine Z2 ?_;refine Z75 ?_;exact AB4
  have he:Sz l[x] c w[x].kind=0:=by unfold Sz;rw [if_neg (by rw [ht25];simp),if_neg (by rw [ht35];simp)]
  have hnx:D9 c l w=D9 c (l.drop (x+1)) (w.drop (x+1)):=by rw [hx.2,hst,he];rfl
  refine Z68 ?_;refine A2 [1,2,11,12,13] ?_;refine Cd (x+1) ⟨hlt,hnx⟩ (by omega) ?_
  exact Dk (own:=[]) (fun _=>.refl _) (by repeat (first|exact Bg|refine Bf (by first|(simp [or_imp,forall_and];done)|exact E2) ?_)) (by simp) (by simp)
 have hxe:l.length≤x:=by simpa using ht14
 have hm:D9 c l w=0:=by rw [hx.2,zp hxe]
 refine Z39 ?_;refine Z2 ?_;refine Z75 ?_;exact qf

theorem AMz (c:List Col) (hc:OkCols c) (m:Mov) (h:OkMov m) (hf:∀s∈m.take,¬Br s c<0) (Hp:List AObj):AFun Tryz.prog 188 [Ax c,Jn m] Hp (Ax (Ir c m)):=by
 refine Ak [.tmp 4] [0,1] Tryz.func188 Tryz.ntmps188 (fun d=>?_)
 refine w5 ?_;refine Z2 ?_;refine A2 [0,3,5] ?_;refine Z56 ?_;refine Pj 5 2 ?_;refine Z69 ?_;refine A2 [0,5,9,10,11] ?_
 refine Dp (α:=Nat) (fun x=>⟨26,Af 0 (Ax c) (Af 5 (.slice true 2 (((m.take.take x).map fun s=>c.getD (Br s c).toNat ⟨[],0⟩).map El)) (Af 9 (Ho m.take) (Af 10 (A4 (m.take.length:Nat)) (Af 11 (A4 (x:Nat)) (fun _=>.any))))),Hp,[],[],none⟩) (fun x=>x≤m.take.length) (fun x=>m.take.length-x) (0) (Bc _) (Co (by simp)) rfl (fun x hx=>?_)
 refine Z2 ?_;refine A2 [0,5,9,10,11,12] ?_
 refine Dn (fun ht12=>?_) (fun ht12=>?_)
 ·have hlt:x<m.take.length:=by simpa using ht12
  have htk:=h.takes
  have hfx:=hf _ (C4 hlt)
  obtain ⟨jj,hjj,hjc⟩:=Ny hfx
  refine Z92 ?_
  refine A5 (h:=Ap (x) (Ah m.take[x]) (fun _=>Bv hlt)) (hr:=?_)
  refine Z0 ?_;refine A2 [0,5,7,9,10,11] ?_;refine jc ?_;refine Z29 ?_;refine A8 Tryz.call58 (c58 c hc m.take[x] _) ?_
  refine A5 (h:=Ap ((Br m.take[x] c).toNat) (El (c.getD (Br m.take[x] c).toNat ⟨[],0⟩)) (fun _=>np hfx)) (hr:=?_)
  refine Z76 ?_
  refine Gq jU Tryz.type41 ?_ ?_ ?_
  ·simp only [Au,Da,At,B3,Tryz.t41];omega
  ·simp only [Au,Da,At,B3,Tryz.t41];omega
  refine Ji ?_;refine A2 [0,5,9,10,11] ?_;refine Vn ?_;refine A2 [0,5,9,10,11] ?_
  refine Cd (x+1) hlt (by omega) (H4 ?_)
  rw [Zi hlt,Cr]
  rfl
 have hxe:m.take.length≤x:=by simpa using ht12
 refine Z39 ?_;refine jh ?_;exact A7 (An A6) ⟨by unfold Ir;rw [Fa hxe]<;>rfl,rfl⟩ (hlow:=E3)

theorem AN0 (c:List Col) (hc:OkCols c) (m:Mov) (h:MvOk m) (Hp:List AObj):AFun Tryz.prog 144 [Ax c,Jn m] Hp (.tup [Ax (Bn c m).1,A4 (Bn c m).2]):=by
 refine Ak [.tmp 4,.tmp 5] [0,1] Tryz.func144 Tryz.ntmps144 (fun d=>?_)
 refine Z13 ?_;refine S4 ?_;refine Z1 ?_;refine A8 Tryz.call185 (AMy c hc m h _) ?_;refine A5 ?_;refine A2 [0,3,6] ?_;refine Es ?_
 have hg:=gz (c:=c) h.ok
 have hg2:(Bs c m).length≤1000000:=by rw [Ly];exact h.ok.gives2
 refine Z69 ?_;refine A8 Tryz.call186 (AMv c hc m.take h.ok.takes (Bs c m) hg hg2 _) ?_;refine Z82 ?_;refine A2 [0,3,6,7,8] ?_;refine Z31 ?_;refine A2 [0,3,6,7,8,23] ?_
 refine A3 (fun ht23=>?_) (fun ht23=>?_)
 ·have hm:=nq ht23
  refine Z1 ?_;refine Sc 4 2 false ?_;refine jg ?_;exact Z77
 refine Z6 ?_;refine Z59 ?_;refine A8 Tryz.call187 (AJl m.ahead h.ok.ahead (Bs c m) (by rw [Ly,h.ahead]) c hc _) ?_;refine A5 ?_;refine A2 [0,3,7,9] ?_;refine Z1 ?_;refine A2 [0,3,7,9,31] ?_
 refine A3 (fun ht31=>?_) (fun ht31=>?_)
 ·have hm:=nr ht23 ht31
  refine Z1 ?_;refine Sc 4 2 false ?_;refine jg ?_;exact Z77
 refine Z6 ?_;refine Jk ?_;refine Ed [0,1,0,0,12,0,63,127] 6 Ar (by kernel_rfl) ?_;refine Vo ?_;refine D0 Tryz.call188 (AMz c hc m h.ok (lf ht23) _) ?_;refine vw ?_;refine A8 Tryz.call187 (AJl m.back h.ok.back (Ir c m) (by rw [Ir,Au,h.back]) (Dh c m.take (Bs c m)).1 (i6 hc hg hg2) _) ?_;refine A5 ?_;refine A2 [7,10] ?_;refine Z1 ?_;refine A2 [7,10,41] ?_
 refine A3 (fun ht41=>?_) (fun ht41=>?_)
 ·have hm:=nt ht23 ht31 ht41
  refine Z1 ?_;refine Sc 4 2 false ?_;refine jg ?_;exact Z77
 have hm:=nu ht23 ht31 ht41
 refine U4 ?_;refine Z12 ?_;exact ABb

def Rd {α:Type} (p:α→Bool) (l:List α):Int:=if l.any p then (l.findIdx p:Int) else -1
theorem zq {α:Type} {p:α→Bool} {l:List α} {i:Nat} (h:i<l.length) (hn:p l[i]=true) (hp:∀(j:Nat) (y:α),j<i→l[j]? = some y→p y=false):(i:Int)=Rd p l:=by
 unfold Rd
 rw [if_pos (L5.2 ⟨_,C4 h,hn⟩)]
 congr 1
 refine (List.findIdx_eq h |>.2 ⟨hn,fun j hj=>?_⟩).symm
 exact hp j (l[j]'(by omega)) hj (Ae (by omega))
theorem lg {α:Type} {p:α→Bool} {l:List α} (h:l.any p=false):(-1:Int)=Rd p l:=by
 unfold Rd
 rw [if_neg (by rw [h];simp)]
theorem sq {α:Type} (p:α→Bool) (l:List α):decide (0≤Rd p l)=l.any p:=by
 unfold Rd
 cases l.any p<;>simp
def O4 (s:Str):Bool := !(Cx s)
def Lk (e:Expr):Bool := !(Am e)
theorem zr {m:Mov} (h:(((m.ahead.length:Int) != (m.give.length:Int)) || ((m.back.length:Int) != (m.take.length:Int)))=true):Gk m=false:=if_pos h
theorem zt {m:Mov} (h:(((m.ahead.length:Int) != (m.give.length:Int)) || ((m.back.length:Int) != (m.take.length:Int)))=false):Gk m=if m.kind==1 then ((m.take.length:Int)==0)&&((m.give.length:Int)==1)
 else if m.kind==2 then ((m.take.length:Int)==1)&&((m.give.length:Int)==0)
 else if (m.kind==3) || (m.kind==6) then ((m.take.length:Int)==1)&&((m.give.length:Int)==1)
 else if m.kind==4 then ((m.take.length:Int)==1)&&decide ((1:Int)<(m.give.length:Int))
 else if m.kind==5 then decide ((1:Int)<(m.take.length:Int))&&((m.give.length:Int)==1)
 else false:=if_neg (by rw [h];simp)
theorem AN1 (m:Mov) (Hp:List AObj):AFun Tryz.prog 235 [Jn m] Hp (B6 (Gk m)):=by
 refine Ak [.tmp 2] [0] Tryz.func235 Tryz.ntmps235 (fun d=>?_)
 refine Z84 ?_;refine Ed [0,1,3,0,8,24,7,127] 7 Ar (by kernel_rfl) ?_;refine Vo ?_;refine Z35 ?_;refine Er ?_;refine A5 ?_;refine A2 [1,3,4] ?_;refine Z56 ?_
 simp only [Au]
 refine Z69 ?_;refine Z0 ?_;refine Z47 ?_;refine Z64 ?_;refine A2 [1,3,4,22] ?_
 refine A3 (fun ht22=>?_) (fun ht22=>?_)
 ·simp only [Au] at ht22
  have hm:=zr ht22
  refine Z98 ?_;exact Z32
 simp only [Au] at ht22
 have hn:=zt ht22
 refine Z6 ?_;refine Z31 ?_;refine A2 [3,4,24] ?_;refine Z94 ?_;refine A2 [3,4,24,25] ?_
 refine A3 (fun ht25=>?_) (fun ht25=>?_)
 ·refine du ?_;refine Z43 ?_;exact A7 (An A6) ⟨by rw [hn];first|(simp only [ht22,ht25,hk3,hk6,K4,Fd,K3,P8,if_true,if_false,Bd,↓reduceIte]<;>rfl)|(simp only [ht22,ht25,hk3,K4,Fd,K3,if_true,if_false,Bd,↓reduceIte]<;>rfl)|(simp only [ht22,ht25,if_true,if_false,Bd,↓reduceIte]<;>rfl),rfl⟩
 refine Z1 ?_;refine A2 [3,4,24,33] ?_
 refine A3 (fun ht33=>?_) (fun ht33=>?_)
 ·refine du ?_;refine Z43 ?_;exact A7 (An A6) ⟨by rw [hn];first|(simp only [ht22,ht25,ht33,hk3,hk6,K4,Fd,K3,P8,if_true,if_false,Bd,↓reduceIte]<;>rfl)|(simp only [ht22,ht25,ht33,hk3,K4,Fd,K3,if_true,if_false,Bd,↓reduceIte]<;>rfl)|(simp only [ht22,ht25,ht33,if_true,if_false,Bd,↓reduceIte]<;>rfl),rfl⟩
 refine Z31 ?_;refine A2 [3,4,24,41] ?_
 refine A3 (fun ht41=>?_) (fun ht41=>?_)
 ·have hk3:=ht41
  refine Z6 ?_
  refine A3 (fun ht41=>?_) (fun ht41=>?_)
  ·refine du ?_;exact Z44
  rw [hk3] at ht41;cases ht41
 have hk3:=ht41
 refine Z19 ?_;refine A2 [3,4,24,41] ?_;refine Ft ?_
 refine A3 (fun ht41=>?_) (fun ht41=>?_)
 ·have hk6:=ht41
  refine du ?_;exact Z44
 have hk6:=ht41
 refine Z1 ?_;refine A2 [3,4,24,50] ?_
 refine A3 (fun ht50=>?_) (fun ht50=>?_)
 ·refine du ?_;refine Z43 ?_;exact A7 (An A6) ⟨by rw [hn];first|(simp only [ht22,ht25,ht33,ht41,ht41,ht50,hk3,hk6,K4,Fd,K3,P8,if_true,if_false,Bd,↓reduceIte]<;>rfl)|(simp only [ht22,ht25,ht33,ht41,ht41,ht50,hk3,K4,Fd,K3,if_true,if_false,Bd,↓reduceIte]<;>rfl)|(simp only [ht22,ht25,ht33,ht41,ht41,ht50,if_true,if_false,Bd,↓reduceIte]<;>rfl),rfl⟩
 refine Z1 ?_;refine A2 [3,4,58] ?_
 refine A3 (fun ht58=>?_) (fun ht58=>?_)
 ·refine du ?_;refine Z43 ?_;exact AIa
 refine jf ?_;exact AIa

theorem AN2 (s:Str) (hs:s.length≤1048576) (Hp:List AObj):AFun Tryz.prog 238 [Ah s] Hp (B6 (O4 s)):=by
 refine Ak [.tmp 2] [0] Tryz.func238 Tryz.ntmps238 (fun d=>?_)
 refine Z57 ?_;refine Z2 ?_;refine A8 Tryz.call40 (c40 s hs _) ?_;exact w6

theorem AN3 (e:Expr) (hok:okE 61 e) (Hp:List AObj):AFun Tryz.prog 236 [Aa e] Hp (B6 (Lk e)):=by
 refine Ak [.tmp 2] [0] Tryz.func236 Tryz.ntmps236 (fun d=>?_)
 refine Z84 ?_;refine Z2 ?_;refine A8 Tryz.call38 (c38 61 e hok (by decide) _) ?_;exact w6

theorem AN4 (l:List Str) (hl:l.length≤1048576) (hn:∀s∈l,s.length≤1048576) (Hp:List AObj):AFun Tryz.prog 284 [Ho l,.fn (.func 238) [] []] Hp (A4 (Rd O4 l)):=by
 refine Ak [.tmp 4] [0,1] Tryz.func284 Tryz.ntmps284 (fun d=>?_)
 refine pz ?_
 refine Dp (α:=Nat) (fun x=>⟨19,Af 0 (Ho l) (Af 1 (.fn (.func 238) [] []) (Af 7 (A4 l.length) (Af 8 (A4 (x:Nat)) (fun _=>.any)))),Hp,[],[],none⟩) (fun x=>x≤l.length∧∀(j:Nat) y,j<x→l[j]? = some y→O4 y=false) (fun x=>l.length-x) (0) ⟨Bc _,fun j y h=>by omega⟩ (Co (by simp)) rfl (fun x hx=>?_)
 refine pc ?_
 refine Dn (fun ht9=>?_) (fun ht9=>?_)
 ·have hlt:x<l.length:=by simpa using ht9
  refine pv ?_
  refine A5 (h:=Ap (x) (Ah l[x]) (fun _=>Bv hlt)) (hr:=?_)
  refine A5 ?_;refine Ry Tryz.call238 (AN2 l[x] (hn _ (C4 hlt)) _) ?_;refine qc ?_
  refine A3 (fun ht16=>?_) (fun ht16=>?_)
  ·refine jh ?_;exact AEd
  refine Z68 ?_;exact Z95
 have hxe:l.length≤x:=by simpa using ht9
 refine Z39 ?_;exact AEc

theorem AN5 (l:List Str) (hl:l.length≤1048576) (hn:∀s∈l,s.length≤1048576) (Hp:List AObj):AFun Tryz.prog 237 [Ho l,.fn (.func 238) [] []] Hp (B6 (l.any O4)):=by
 refine Ak [.tmp 4] [0,1] Tryz.func237 Tryz.ntmps237 (fun d=>?_)
 refine Z49 ?_;refine Z1 ?_;refine A8 Tryz.call284 (AN4 l hl hn _) ?_;refine Z0 ?_;exact AEh

theorem AJm (l:List Expr) (hl:l.length≤1048576) (hn:∀e∈l,okE 61 e) (Hp:List AObj):AFun Tryz.prog 251 [Iq l,.fn (.func 236) [] []] Hp (A4 (Rd Lk l)):=by
 refine Ak [.tmp 4] [0,1] Tryz.func251 Tryz.ntmps251 (fun d=>?_)
 refine pz ?_
 refine Dp (α:=Nat) (fun x=>⟨19,Af 0 (Iq l) (Af 1 (.fn (.func 236) [] []) (Af 7 (A4 l.length) (Af 8 (A4 (x:Nat)) (fun _=>.any)))),Hp,[],[],none⟩) (fun x=>x≤l.length∧∀(j:Nat) y,j<x→l[j]? = some y→Lk y=false) (fun x=>l.length-x) (0) ⟨Bc _,fun j y h=>by omega⟩ (Co (by simp)) rfl (fun x hx=>?_)
 refine pc ?_
 refine Dn (fun ht9=>?_) (fun ht9=>?_)
 ·have hlt:x<l.length:=by simpa using ht9
  refine pv ?_
  refine A5 (h:=Ap (x) (Aa l[x]) (fun _=>Bv hlt)) (hr:=?_)
  refine A5 ?_;refine Ry Tryz.call236 (AN3 l[x] (hn _ (C4 hlt)) _) ?_;refine qc ?_
  refine A3 (fun ht16=>?_) (fun ht16=>?_)
  ·refine jh ?_;exact AEd
  refine Z68 ?_;exact Z95
 have hxe:l.length≤x:=by simpa using ht9
 refine Z39 ?_;exact AEc

theorem ADz (l:List Expr) (hl:l.length≤1048576) (hn:∀e∈l,okE 61 e) (Hp:List AObj):AFun Tryz.prog 197 [Iq l,.fn (.func 236) [] []] Hp (B6 (l.any Lk)):=by
 refine Ak [.tmp 4] [0,1] Tryz.func197 Tryz.ntmps197 (fun d=>?_)
 refine Z49 ?_;refine Z1 ?_;refine A8 Tryz.call251 (AJm l hl hn _) ?_;refine Z0 ?_;exact AEh

theorem AJn (s:Str) (Hp:List AObj):AFun Tryz.prog 240 [Ah s] Hp (Aa (Bb s)):=by
 refine Ak [.cell 2 26] [0] Tryz.func240 Tryz.ntmps240 (fun d=>?_)
 refine Z61 ?_;refine Z2 ?_;refine Z83 ?_;refine S1 0 5 6 ?_;refine Z4 ?_;exact A7 (An (As jA jS)) ⟨by rw [Ad];rfl,rfl⟩

theorem i7 {m:Mov} {c:Col}:(((!(Cx c.name)) || (!((Gx c.kind==[])==(m.kind==3)))) || ((m.kind==3)&&(c.kind != 0))) = !O3 m c:=by
 unfold O3
 cases Cx c.name<;>cases (Gx c.kind==([]:Str))<;>cases (m.kind==3)<;>cases (c.kind != 0)<;>rfl
theorem AG7 {m:Mov} (h:(!(Gk m))=true):Jd m=false:=by
 have:Gk m=false:=by simpa using h
 unfold Jd;rw [this];rfl
theorem AG8 {m:Mov} {c:Col} (hc:c∈m.give) (h:O3 m c=false):Jd m=false:=by
 have:m.give.all (O3 m)=false:=List.all_eq_false.2 ⟨c,hc,by rw [h];simp⟩
 unfold Jd;rw [this];simp
theorem AG9 {m:Mov} (h:((m.take.any O4 || m.ahead.any Lk) || m.back.any Lk)=true):Jd m=false:=by
 unfold Jd
 rw [show O4=fun s => !(Cx s) from rfl,show Lk=fun e => !(Am e) from rfl,L3,L3,L3] at h
 cases h1:m.take.all Cx<;>cases h2:m.ahead.all Am<;>cases h3:m.back.all Am<;>simp_all
theorem AD5 {m:Mov} (h1:Gk m=true) (h2:m.give.all (O3 m)=true) (h:((m.take.any O4 || m.ahead.any Lk) || m.back.any Lk)=false):Jd m=Q2 m:=by
 unfold Jd
 rw [show O4=fun s => !(Cx s) from rfl,show Lk=fun e => !(Am e) from rfl,L3,L3,L3] at h
 rw [h1,h2]
 cases h1:m.take.all Cx<;>cases h2:m.ahead.all Am<;>cases h3:m.back.all Am<;>simp_all
theorem Tw {α β:Type} {f:α→β} {l:List α} {d:α} (h:0<l.length):(l.map f)[0]? = some (f (l.getD 0 d)):=by
 rw [Cm,Ae h,Ch,Ae h]
 rfl
theorem Re {α:Type} {l:List α} {d:α} (h:0<l.length):l.getD 0 d∈l:=by
 rw [Ch,Ae h]
 exact C4 h
theorem AGa {m:Mov} (h:(m.kind==3)=true):Q2 m=(eqE (m.ahead.getD 0 A9) (Bb (m.take.getD 0 []))&&eqE (m.back.getD 0 A9) (Bb (m.give.getD 0 ⟨[],0⟩).name)):=if_pos h
theorem AGb {m:Mov} (h:(m.kind==3)=false) (h6:(m.kind==6)=true):Q2 m=(m.take.getD 0 []==(m.give.getD 0 ⟨[],0⟩).name):=by unfold Q2;rw [if_neg (by rw [h];simp),if_pos h6]
theorem AGc {m:Mov} (h:(m.kind==3)=false) (h6:(m.kind==6)=false):Q2 m=true:=by unfold Q2;rw [if_neg (by rw [h];simp),if_neg (by rw [h6];simp)]
theorem AN6 (m:Mov) (h:OkMov m) (Hp:List AObj):AFun Tryz.prog 184 [Jn m] Hp (B6 (Jd m)):=by
 refine Ak [.tmp 2] [0] Tryz.func184 Tryz.ntmps184 (fun d=>?_)
 refine Z84 ?_;refine Z36 ?_;refine A8 Tryz.call235 (AN1 m _) ?_;refine A5 ?_;refine A2 [1,8] ?_
 refine A3 (fun ht8=>?_) (fun ht8=>?_)
 ·have hm:=AG7 ht8
  refine Z98 ?_;exact AHg
 have hct:Gk m=true:=by simpa using ht8
 refine Z6 ?_;refine Z59 ?_;refine A2 [1,10,11,12] ?_
 refine Dp (α:=Nat) (fun x=>⟨95,Af 1 (.ro (Ua m)) (Af 10 (Ax m.give) (Af 11 (A4 (m.give.length:Nat)) (Af 12 (A4 (x:Nat)) (fun _=>.any)))),Hp,[],[],none⟩) (fun x=>x≤m.give.length∧∀(j:Nat) (y:Col),j<x→m.give[j]? = some y→(!O3 m y)=false) (fun x=>m.give.length-x) (0) ⟨Bc _,fun j y h=>by omega⟩ (Co (by simp)) rfl (fun x hx=>?_)
 refine Z2 ?_;refine A2 [1,10,11,12,13] ?_
 refine Dn (fun ht13=>?_) (fun ht13=>?_)
 ·have hlt:x<m.give.length:=by simpa using ht13
  have hgl:=h.gives2
  refine Z92 ?_
  refine A5 (h:=Ap (x) (El m.give[x]) (fun _=>Bv hlt)) (hr:=?_)
  refine Vm ?_;refine A2 [1,4,10,11,12] ?_;refine Ed [0,1,3,7,15,31,63,127,255,31,543,1567,4095,8191,16383,32767,65535,131071,262143,524287,1048575,2097151,4194303,8388607] 12 Ar (by kernel_rfl) ?_;refine Z14 ?_;refine D0 Tryz.call40 (c40 m.give[x].name (h.gives.2 _ (C4 hlt)) _) ?_;refine Z14 ?_;refine Z67 ?_;refine H.call Tryz.call76 (fun hB=>c76 m.give[x].kind _) ?_;refine Z67 ?_;refine Z67 ?_;refine Er ?_;refine Z38 ?_;refine Z47 ?_;refine Z47 ?_;refine A5 ?_;refine A2 [1,10,11,12,39] ?_
  refine A3 (fun ht39=>?_) (fun ht39=>?_)
  ·rw [i7] at ht39
   have hm:=AG8 (C4 hlt) (by simpa using ht39)
   refine dv ?_;refine Z53 ?_;exact qi
  rw [i7] at ht39
  refine Z68 ?_;refine A2 [1,10,11,12] ?_;refine Cd (x+1) ⟨hlt,Fg hlt hx.2 ht39⟩ (by omega) ?_
  exact Dk (own:=[]) (fun _=>.refl _) (by repeat (first|exact Bg|refine Bf (by first|(simp [or_imp,forall_and];done)|exact E3|exact low_ro.2 L2) ?_)) (by simp) (by simp)
 have hxe:m.give.length≤x:=by simpa using ht13
 have hga:m.give.all (O3 m)=true:=by have:=gu hxe hx.2;rw [L3] at this;simpa using this
 refine Z39 ?_;refine Z2 ?_;refine A2 [1,5] ?_;refine Z31 ?_;refine A8 Tryz.call237 (AN5 m.take h.takes h.names _) ?_;refine A5 ?_;refine Z9 ?_;refine Ca ?_;refine C7 Tryz.call197 (fun hB=>ADz m.ahead h.ahead.len h.ahead.ok _) ?_;refine S3 ?_;refine Ca ?_;refine C7 Tryz.call197 (fun hB=>ADz m.back h.back.len h.back.ok _) ?_;refine A5 ?_;refine A2 [1,55] ?_
 refine A3 (fun ht55=>?_) (fun ht55=>?_)
 ·have hm:=AG9 ht55
  refine Z98 ?_;exact AHg
 have hm0:=AD5 hct hga ht55
 refine Z6 ?_;refine Z31 ?_;refine A2 [1,57] ?_;refine Z94 ?_;refine A2 [1,57,58] ?_
 refine A3 (fun ht58=>?_) (fun ht58=>?_)
 ·obtain ⟨hl1,hl2⟩:=X8 hct (by rw [ht58];simp)
  obtain ⟨hl3,hl4⟩:=Is hct
  have g1:=Tw (f:=Aa) (l:=m.ahead) (d:=A9) (by omega)
  have g2:=Tw (f:=Aa) (l:=m.back) (d:=A9) (by omega)
  have g3:=Tw (f:=Ah) (l:=m.take) (d:=[]) (by omega)
  have g4:=Tw (f:=El) (l:=m.give) (d:=⟨[],0⟩) (by omega)
  have ok1:=h.ahead.ok _ (Re (l:=m.ahead) (d:=A9) (by omega))
  have ok2:=h.back.ok _ (Re (l:=m.back) (d:=A9) (by omega))
  have hm:=hm0.trans (AGa ht58)
  refine Ed [0,1,3,7,0,16,48,112,240,511,1023,2047,4095,8191,16383,2047,34815,100351,231423,493567,1017855,2097151,4194303,8388607] 21 Ar (by kernel_rfl) ?_;refine Z14 ?_
  refine B1 (h:=Ap (0) (Aa (m.ahead.getD 0 A9)) (fun _=>g1)) (hr:=?_)
  refine Z35 ?_
  refine B1 (h:=Ap (0) (Ah (m.take.getD 0 [])) (fun _=>g3)) (hr:=?_)
  refine B1 ?_;refine D0 Tryz.call240 (AJn (m.take.getD 0 []) _) ?_;refine D0 Tryz.call239 (AJ8 61 (m.ahead.getD 0 A9) ok1 (Bb (m.take.getD 0 [])) _) ?_;refine B1 ?_;refine Z67 ?_
  refine H.go (h:=Ap (0) (Aa (m.back.getD 0 A9)) (fun _=>g2)) (hr:=?_)
  refine Z67 ?_;refine H.go ?_
  refine H.go (h:=Ap (0) (El (m.give.getD 0 ⟨[],0⟩)) (fun _=>g4)) (hr:=?_)
  refine Z67 ?_;refine H.call Tryz.call240 (fun hB=>AJn (m.give.getD 0 ⟨[],0⟩).name _) ?_;refine Er ?_;refine C7 Tryz.call239 (fun hB=>AJ8 61 (m.back.getD 0 A9) ok2 (Bb (m.give.getD 0 ⟨[],0⟩).name) _) ?_;refine Z0 ?_;exact AHh
 refine Z1 ?_;refine A2 [1,83] ?_
 refine A3 (fun ht83=>?_) (fun ht83=>?_)
 ·obtain ⟨hl1,hl2⟩:=X8 hct (by rw [ht83];simp)
  obtain ⟨hl3,hl4⟩:=Is hct
  have g1:=Tw (f:=Aa) (l:=m.ahead) (d:=A9) (by omega)
  have g2:=Tw (f:=Aa) (l:=m.back) (d:=A9) (by omega)
  have g3:=Tw (f:=Ah) (l:=m.take) (d:=[]) (by omega)
  have g4:=Tw (f:=El) (l:=m.give) (d:=⟨[],0⟩) (by omega)
  have ok1:=h.ahead.ok _ (Re (l:=m.ahead) (d:=A9) (by omega))
  have ok2:=h.back.ok _ (Re (l:=m.back) (d:=A9) (by omega))
  have hm:=hm0.trans (AGb ht58 ht83)
  refine Ed [0,1,3,7,0,16,48,112,240,511,1023] 9 Ar (by kernel_rfl) ?_;refine Z14 ?_
  refine B1 (h:=Ap (0) (Ah (m.take.getD 0 [])) (fun _=>g3)) (hr:=?_)
  refine Z35 ?_
  refine B1 (h:=Ap (0) (El (m.give.getD 0 ⟨[],0⟩)) (fun _=>g4)) (hr:=?_)
  refine Z91 ?_;refine Z0 ?_;exact AHh
 have hm:=hm0.trans (AGc ht58 ht83)
 refine jf ?_;exact qi

def sr (m:Mov):Bool := !(Jd m)
theorem AD6 (l:List Mov):(decide ((l.length:Int)≤8) && !(l.any sr))=sk l:=by
 unfold sk
 rw [show sr=fun m => !(Jd m) from rfl,L3]
 simp
theorem AN7 (m:Mov) (h:OkMov m) (Hp:List AObj):AFun Tryz.prog 183 [Jn m] Hp (B6 (sr m)):=by
 refine Ak [.tmp 2] [0] Tryz.func183 Tryz.ntmps183 (fun d=>?_)
 refine Z84 ?_;refine Z2 ?_;refine A8 Tryz.call184 (AN6 m h _) ?_;exact w6

theorem AN8 (l:List Mov) (h:OkMovs l) (Hp:List AObj):AFun Tryz.prog 234 [H2 l,.fn (.func 183) [] []] Hp (A4 (Rd sr l)):=by
 refine Ak [.tmp 4] [0,1] Tryz.func234 Tryz.ntmps234 (fun d=>?_)
 refine pz ?_
 refine Dp (α:=Nat) (fun x=>⟨19,Af 0 (H2 l) (Af 1 (.fn (.func 183) [] []) (Af 7 (A4 l.length) (Af 8 (A4 (x:Nat)) (fun _=>.any)))),Hp,[],[],none⟩) (fun x=>x≤l.length∧∀(j:Nat) (y:Mov),j<x→l[j]? = some y→sr y=false) (fun x=>l.length-x) (0) ⟨Bc _,fun j y h=>by omega⟩ (Co (by simp)) rfl (fun x hx=>?_)
 refine pc ?_
 refine Dn (fun ht9=>?_) (fun ht9=>?_)
 ·have hlt:x<l.length:=by simpa using ht9
  have hlen:=h.len
  refine pv ?_
  refine A5 (h:=Ap (x) (Jn l[x]) (fun _=>Bv hlt)) (hr:=?_)
  refine A5 ?_;refine Ry Tryz.call183 (AN7 l[x] (h.each _ (C4 hlt)) _) ?_;refine qc ?_
  refine A3 (fun ht16=>?_) (fun ht16=>?_)
  ·refine jh ?_;exact AEd
  refine Z68 ?_;exact Z95
 have hxe:l.length≤x:=by simpa using ht9
 refine Z39 ?_;exact AEc

theorem AN9 (l:List Mov) (h:OkMovs l) (Hp:List AObj):AFun Tryz.prog 182 [H2 l,.fn (.func 183) [] []] Hp (B6 (l.any sr)):=by
 refine Ak [.tmp 4] [0,1] Tryz.func182 Tryz.ntmps182 (fun d=>?_)
 refine Z49 ?_;refine Z1 ?_;refine A8 Tryz.call234 (AN8 l h _) ?_;refine Z0 ?_;exact AEh

theorem ANa (l:List Mov) (h:OkMovs l) (Hp:List AObj):AFun Tryz.prog 142 [H2 l] Hp (B6 (sk l)):=by
 refine Ak [.tmp 2] [0] Tryz.func142 Tryz.ntmps142 (fun d=>?_)
 refine Z57 ?_;refine q8 ?_;refine C7 Tryz.call182 (fun hB=>AN9 l h _) ?_;refine Z38 ?_;refine Z4 ?_;exact A7 (An A6) ⟨by rw [←AD6,Au],rfl⟩

theorem c92 (c:List Col) (hc:OkCols c) (l:List Mov) (h:OkMovs l) (Hp:List AObj):AFun Tryz.prog 92 [Ax c,H2 l] Hp (B6 (Mz c l)):=by
 refine Ak [.tmp 4] [0,1] Tryz.func92 Tryz.ntmps92 (fun d=>?_)
 refine Z49 ?_;refine Z2 ?_;refine AEs ?_;refine Ca ?_;refine C7 Tryz.call142 (fun hB=>ANa l h _) ?_;refine Z0 ?_;refine Z21 ?_;exact A7 (An A6) ⟨by unfold Mz;rw [H6],rfl⟩

theorem su {Hp:List AObj} {c:List Col} (h:∀x∈Hp,ObjLow Hp.length x):∀x∈Hp++[AObj.cells 27 [Ax c]],ObjLow (Hp.length+1) x:=by
 intro x hx
 rcases Ds.1 hx with hx|hx
 ·exact Ld (by omega) (h x hx)
 rw [B2.1 hx]
 intro z hz
 rw [B2.1 hz]
 exact E3
theorem c94 (c:List Col) (l:List Mov) (Hp:List AObj):ACallO Tryz.prog 94 [Ax c,H2 l] Hp (fun r H'=>r=.fn (.func 143) [] [.ro [H2 l],.ptr (oid Hp.length 0) 0]∧H'=Hp++[.cells 27 [Ax c]]):=by
 refine ACallO.body [.tmp 4] [0,1] Tryz.func94 Tryz.ntmps94 (fun d=>?_)
 refine Es ?_;refine R.box ?_;refine Z0 ?_;refine A2 [2,3] ?_;refine Es ?_
 refine Ii (fun hlow=>?_)
 refine AEo ?_;refine Z21 ?_;exact K.finO 1 (A6 (t:=4)) ⟨rfl,rfl⟩ (hlow:=by simp [oid,or_imp,forall_and];exact ⟨fun m _ a _=>Ab _ a,fun m _ a _=>Ab _ a⟩) (hobj:=su hlow)

theorem c143 (l oc:Nat) (ms:List Mov) (hm:∀m∈ms,MvOk m) (hml:ms.length≤1048576) (C:Nat→List Col) (hC:∀k,OkCols (C k)) (U T:Nat→List AObj) (N:Nat→Prop) (Z:List AObj→Prop) (hlen:∀k,(U k).length=(U 0).length) (hlenW:∀k,(T k).length=(U 0).length) (hll:l<(U 0).length) (hol:oc<(U 0).length)
  (hlw:∀k,∀x∈U k,ObjLow (U 0).length x) (hlW:∀k,∀x∈T k,ObjLow (U 0).length x) (h0:N 0) (hc:∀k,(U k)[oc]? = some (.cells 27 [Ax (C k)])) (hcW:∀k,(T k)[oc]? = some (.cells 27 [Ax (C k)]))
  (hn:∀k m,ms[k]? = some m→(Bn (C k) m).2=0→(T k).set oc (.cells 27 [Ax (Bn (C k) m).1])=U (k+1))
  (hy:∀k m X,ms[k]? = some m→N k→AYield Tryz.prog l [Ax (Bn (C k) m).1,A4 (Bn (C k) m).2] (U k++X) (fun b H'=>((Bn (C k) m).2≠0∧∃V,H'=V++X∧V.length=(U 0).length∧(∀x∈V,ObjLow (U 0).length x)∧Z V)∨((Bn (C k) m).2=0∧b=true∧N (k+1)∧H'=T k++X)))
  (hR:N ms.length→Z (U ms.length)):ACall Tryz.prog 143 [.yield l,.ro [H2 ms],.ptr oc 0] (U 0) (fun _ H'=>Z H'):=by
 refine Ak [] [0,1,2] Tryz.func143 Tryz.ntmps143 (fun d=>?_)
 refine Z13 ?_;refine A2 [0,2,8,9,10] ?_
 refine Dp (α:=Nat) (fun x=>⟨31,Af 0 (.yield l) (Af 2 (.ptr oc 0) (Af 8 (H2 ms) (Af 9 (A4 ms.length) (Af 10 (A4 (x:Nat)) (fun _=>.any))))),U x,[],[],none⟩) (fun x=>x≤ms.length∧N x) (fun x=>ms.length-x) (0) ⟨Bc _,h0⟩ (Co (by simp)) rfl (fun x hx=>?_)
 refine Z2 ?_;refine A2 [0,2,8,9,10,11] ?_
 refine Dn (fun ht11=>?_) (fun ht11=>?_)
 ·have hlt:x<ms.length:=by simpa using ht11
  refine Z92 ?_
  refine A5 (h:=Ap (x) (Jn ms[x]) (fun _=>Bv hlt)) (hr:=?_)
  refine Vm ?_;refine A2 [0,2,5,8,9,10] ?_;refine Es ?_
  refine A5 (h:=Dz (hc x)) (hr:=?_)
  refine A5 ?_;refine A8 Tryz.call144 (AN0 (C x) (hC x) ms[x] (hm _ (C4 hlt)) _) ?_;refine Z82 ?_;refine A2 [0,2,6,7,8,9,10] ?_;refine Z34 ?_
  refine R.yield (l:=l) (args:=[Ax (Bn (C x) ms[x]).1,A4 (Bn (C x) ms[x]).2]) (hy x ms[x] _ (Ae hlt) hx.2) ?_
  intro b V O hV hb
  have hVO:O=[AObj.cells 48 (Ua ms[x])]∧(((Bn (C x) ms[x]).2≠0∧V.length=(U 0).length∧(∀y∈V,ObjLow (U 0).length y)∧Z V)∨((Bn (C x) ms[x]).2=0∧b=true∧N (x+1)∧V=T x)):=by
   rcases hb with ⟨h1,V',h2,h3,h4,h5⟩|⟨h1,h2,h3,h4⟩
   ·obtain ⟨rfl,rfl⟩:=N1 h2 (by rw [hV,hlen x,h3])
    exact ⟨rfl,.inl ⟨h1,h3,h4,h5⟩⟩
   have h6:=N1 h4 (by rw [hV,hlen x,hlenW x])
   exact ⟨h6.2,.inr ⟨h1,h2,h3,h6.1⟩⟩
  obtain ⟨rfl,hVO⟩:=hVO
  have hVl:V.length=(U 0).length:=by rw [hV,hlen x]
  have hVw:∀y∈V,ObjLow (U 0).length y:=by
   rcases hVO with ⟨_,_,h,_⟩|⟨_,_,_,rfl⟩
   ·exact h
   exact hlW _
  refine ⟨fun _=>by rw [hVl];exact hVw,fun o ho=>(by cases ho),?_⟩
  refine S3 ?_;refine A5 ?_;refine A2 [0,2,6,8,9,10,28] ?_
  refine A3 (fun ht28=>?_) (fun ht28=>?_)
  ·have hZ:Z V:=by
    rcases hVO with ⟨_,_,_,h⟩|⟨h1,h2,_,_⟩
    ·exact h
    rw [h1,h2] at ht28;simp at ht28
   refine Z41 ?_;refine Z5 ?_;refine Jj ?_;exact A7 .nores (hp:=hZ)
  have hVn:(Bn (C x) ms[x]).2=0∧N (x+1)∧V=T x:=by
   rcases hVO with ⟨h1,_,_,_⟩|⟨h1,_,h3,h4⟩
   ·simp [h1] at ht28
   exact ⟨h1,h3,h4⟩
  obtain ⟨hz,hN,rfl⟩:=hVn
  have hnx:=hn x _ (Ae hlt) hz
  refine Z6 ?_;refine Z93 ?_
  refine F4 jS (hcW x) ?_ ?_
  ·first|exact E3|(simp [or_imp,forall_and];done)
  refine A2 [0,2,8,9,10] ?_;refine Vn ?_;refine A2 [0,2,8,9,10] ?_;refine Cd (x+1) ⟨hlt,hN⟩ (by omega) ?_
  rw [hnx]
  exact Dk (own:=[]) (fun _=>.refl _) (by repeat (first|exact Bg|refine Bf (by first|(simp [or_imp,forall_and];done)|exact Je|(have:=hlen (x+1);simp;omega)) ?_)) (by simp) (by simp)
 have hxe:x=ms.length:=by have:=hx.1;simp at ht11;omega
 refine K.lpE ?_;exact Ke .nores (hp:=by rw [hxe];exact hR (hxe ▸ hx.2))

/-! The columns on the way through moves. -/
def colsAt (c:List Col) (ms:List Mov):Nat→List Col
 | 0=>c
 | k+1=>match ms[k]? with|some m=>(Bn (colsAt c ms k) m).1|none=>colsAt c ms k
def D3 (c:List Col) (ms:List Mov):Nat→List (List Col)
 | 0=>[c]
 | k+1=>D3 c ms k++[colsAt c ms (k+1)]
def NS (c:List Col) (ms:List Mov) (k:Nat):Prop:=Cq c ms=((D3 c ms k).dropLast++(Cq (colsAt c ms k) (ms.drop k)).1,(Cq (colsAt c ms k) (ms.drop k)).2)
theorem nv (c:List Col) (ms:List Mov) (k:Nat):(D3 c ms k).dropLast++[colsAt c ms k]=D3 c ms k:=by
 cases k with
 | zero=>rfl
 | succ k=>simp [D3]
theorem It {c:List Col} {ms:List Mov} {k:Nat} {m:Mov} (h:ms[k]? = some m):colsAt c ms (k+1)=(Bn (colsAt c ms k) m).1:=by rw [colsAt,h]
theorem Xa {ms:List Mov} {k:Nat} {m:Mov} (hk:ms[k]? = some m):ms.drop k=m::ms.drop (k+1):=by
 obtain ⟨h1,h2⟩:=Ac.1 hk
 rw [K5 h1,h2]
theorem AGd {c:List Col} {ms:List Mov}:NS c ms 0:=rfl
theorem cv {c:List Col} {ms:List Mov} {k:Nat} {m:Mov} (hk:ms[k]? = some m) (h:NS c ms k) (he:(Bn (colsAt c ms k) m).2=0):NS c ms (k+1):=by
 unfold NS at h ⊢
 rw [h,Xa hk]
 have e:Cq (colsAt c ms k) (m::ms.drop (k+1))=(colsAt c ms k::(Cq (Bn (colsAt c ms k) m).1 (ms.drop (k+1))).1,(Cq (Bn (colsAt c ms k) m).1 (ms.drop (k+1))).2):=by
  rw [Cq,if_neg (by rw [he];simp)]
 have e2:(D3 c ms (k+1)).dropLast=D3 c ms k:=by simp [D3]
 rw [e,e2,It hk]
 have e3:=nv c ms k
 refine Kt ?_ rfl
 show (D3 c ms k).dropLast++(colsAt c ms k::_)=D3 c ms k++_
 conv=>rhs;rw [←e3]
 simp
theorem cw {c:List Col} {ms:List Mov} {k:Nat} {m:Mov} (hk:ms[k]? = some m) (h:NS c ms k) (he:(Bn (colsAt c ms k) m).2≠0):(Cq c ms).2=(Bn (colsAt c ms k) m).2:=by
 unfold NS at h
 rw [h,Xa hk,Cq,if_pos (by simpa using he)]
theorem lh {c:List Col} {ms:List Mov} (h:NS c ms ms.length):Cq c ms=(D3 c ms ms.length,0):=by
 unfold NS at h
 rw [h,List.drop_length,Cq]
 exact Kt (nv c ms ms.length) rfl
theorem zu {c:List Col} {m:Mov} (hc:OkCols c) (h:OkMov m):OkCols (Bn c m).1:=by
 have h0:OkCols ([]:List Col):=⟨by decide,fun y hy=>by cases hy⟩
 unfold Bn
 split
 ·exact h0
 split
 ·exact h0
 split
 ·exact h0
 exact i6 hc (gz h) (by rw [Ly];exact h.gives2)
theorem Gz {c:List Col} {ms:List Mov} (hc:OkCols c) (h:∀m∈ms,OkMov m):∀k,OkCols (colsAt c ms k)
 | 0=>hc
 | k+1=>by
  rw [colsAt]
  cases hk:ms[k]? with
  | none=>exact Gz hc h k
  | some m=>exact zu (Gz hc h k) (h m (Az hk))
theorem Jf (c:List Col) (ms:List Mov):∀k,(D3 c ms k).length=k+1
 | 0=>rfl
 | k+1=>by rw [D3,Ao,Jf c ms k];rfl
theorem zv {c:List Col} {ms:List Mov} (h:Mz c ms=true) (hk:OkMovs ms):(∀m∈ms,MvOk m)∧ms.length≤8:=by
 unfold Mz sk at h
 simp only [Ai,decide_eq_true_eq,B5] at h
 exact ⟨fun m hm=>AD4 (hk.each m hm) (T0 (h.2.2 m hm)),by omega⟩
theorem Zj {c:List Col} {ms:List Mov} (h:Mz c ms=false):Du c ms=([],1):=by
 have:Q3 c ms=([],1):=if_neg (by rw [h];simp)
 unfold Du
 rw [this];rfl
theorem Xb {c:List Col} {ms:List Mov} (h:Mz c ms=true) (he:(Cq c ms).2≠0):Du c ms=([],(Cq c ms).2):=by
 have:Q3 c ms=Cq c ms:=if_pos h
 unfold Du
 rw [this,if_pos (by simpa using he)]
theorem Zk {c:List Col} {ms:List Mov} {o:List (List Col)} (h:Mz c ms=true) (he:Cq c ms=(o,0)):Du c ms=(o,0):=by
 have:Q3 c ms=Cq c ms:=if_pos h
 unfold Du
 rw [this,he];rfl
abbrev Ll (l:List (List Col)):AV:=.slice false 1 (l.map Ax)
theorem G9 {n k:Nat} {o:Bool} {l:List (List Col)}:Low n (.slice o k (l.map Ax)):=low_slice.2 fun y hy=>by
 obtain ⟨m,_,rfl⟩:=Cw.1 hy
 exact E3
theorem Ub {U:List AObj} {i j:Nat} {x y:AObj} (h:U[i]? = some x) (hne:j≠i):(U.set j y)[i]? = some x:=by rw [D7 hne];exact h
theorem sw {n k:Nat} {o:Bool} {l:List (List Col)} {c:List Col}:Low n (.slice o k (l.map Ax++[Ax c])):=by
 have:=G9 (n:=n) (k:=k) (o:=o) (l:=l++[c])
 rwa [Cr] at this
theorem c48 (c:List Col) (hc:OkCols c) (hc2:c.length≤1000000) (l:List Mov) (h:OkMovs l) (Hp:List AObj):AFun Tryz.prog 48 [Ax c,H2 l] Hp (.tup [Ll (Du c l).1,A4 (Du c l).2]):=by
 refine Ak [.cell 4 59,.cell 5 35] [0,1,7,8] Tryz.func48 Tryz.ntmps48 (fun d=>?_)
 refine w7 ?_;refine A2 [0,1,4,5,7,8] ?_;refine Z31 ?_;refine A8 Tryz.call92 (c92 c hc l h _) ?_;refine A5 ?_;refine A2 [0,1,4,5,7,8,12] ?_
 refine A3 (fun ht12=>?_) (fun ht12=>?_)
 ·have hm:=Zj (by simpa using ht12)
  refine Es ?_;refine I2 ?_;refine Vl 0 1 ?_;refine I2 ?_;refine Z12 ?_;refine Cu ?_;exact A7 (Aw (F5 jA) (F5 jA)) ⟨by rw [hm];rfl,rfl⟩
 have hmay:Mz c l=true:=by simpa using ht12
 obtain ⟨hmv,hl8⟩:=zv hmay h
 refine Z74 ?_;refine A8 Tryz.call93 (c93 c hc2 _) ?_;refine U6 ?_;refine Ka jZ ?_;refine R.storeOwnT jS ?_;refine A2 [0,1,4,5,6,7,8] ?_;refine Z56 ?_
 refine Ii (fun hlow=>?_)
 refine Z0 ?_;refine R.callO Tryz.call94 (c94 c l _) ?_
 rintro _ _ ⟨rfl,rfl⟩
 refine ⟨[.cells 27 [Ax c]],by simp,?_⟩
 rw [show oid (Hp++[AObj.cells 59 [AV.nil],AObj.cells 35 [A4 0],AObj.cells 59 [AV.slice true 1 [Ax c]]]).length 0=oid Hp.length 3 by simp [oid]]
 simp only [Dd,Cz]
 refine A2 [4,5,6,7,8,18] ?_;refine Ia ?_
 refine Kf (m:=4) Tryz.call143 (fun FR as' bd' hFR has hbd=>?_)
 have hFRl:∀s,Low (Hp.length+6) (FR s):=by
  intro s
  rw [hFR]
  refine L7 ?_
  revert s
  repeat (first|exact Bg|refine Bf (by first|(simp [oid,or_imp,forall_and];done)|(simp [oid,or_imp,forall_and];exact ⟨fun m _ a _=>Ab _ a,fun m _ a _=>Ab _ a⟩)|(simp [oid,or_imp,forall_and]<;>omega)) ?_)
 have hOl:∀{e:Int} {o:List (List Col)} {q:List Col} {lp:AObj},ObjLow (Hp.length+6) lp→∀x∈Hp++[AObj.cells 59 [AV.nil],AObj.cells 35 [A4 e],AObj.cells 59 [AV.slice true 1 ((o).map Ax)],AObj.cells 27 [Ax (q)],AObj.defs,lp],ObjLow (Hp.length+6) x:=by
  intro e o q lp hlp x hx
  refine J1 (fun x hx=>Ld (by omega) (hlow x hx)) (fun x hx=>?_) x hx
  simp only [Bj,Ev,or_false] at hx
  rcases hx with rfl|rfl|rfl|rfl|rfl|rfl
  ·intro y hy;rw [B2.1 hy];simp
  ·intro y hy;rw [B2.1 hy];simp
  ·intro y hy;rw [B2.1 hy];exact G9
  ·intro y hy;rw [B2.1 hy];exact E3
  ·trivial
  exact hlp
 refine ⟨_,c143 (oid Hp.length 5) (oid Hp.length 3) l hmv (by omega) (colsAt c l) (Gz hc fun m hm=>h.each m hm) (fun k=>Hp++[AObj.cells 59 [AV.nil],AObj.cells 35 [A4 0],AObj.cells 59 [AV.slice true 1 ((D3 c l k).map Ax)],AObj.cells 27 [Ax (colsAt c l k)],AObj.defs,AObj.loop LoopState.ready none FR 29 #[19,20] as' bd' (oid Hp.length 4)]) (fun k=>Hp++[AObj.cells 59 [AV.nil],AObj.cells 35 [A4 0],AObj.cells 59 [AV.slice true 1 ((D3 c l (k+1)).map Ax)],AObj.cells 27 [Ax (colsAt c l k)],AObj.defs,AObj.loop LoopState.ready none FR 29 #[19,20] as' bd' (oid Hp.length 4)]) (NS c l) (fun V=>(∃(o:List (List Col)) (q:List Col),V=Hp++[AObj.cells 59 [AV.nil],AObj.cells 35 [A4 0],AObj.cells 59 [AV.slice true 1 ((o).map Ax)],AObj.cells 27 [Ax (q)],AObj.defs,AObj.loop LoopState.ready none FR 29 #[19,20] as' bd' (oid Hp.length 4)]∧Cq c l=(o,0))∨(∃(e:Int) (o:List (List Col)) (q:List Col),V=Hp++[AObj.cells 59 [AV.nil],AObj.cells 35 [A4 e],AObj.cells 59 [AV.slice true 1 ((o).map Ax)],AObj.cells 27 [Ax (q)],AObj.defs,AObj.loop LoopState.done (some Code.ret) FR 29 #[19,20] as' bd' (oid Hp.length 4)]∧e≠0∧(Cq c l).2=e)) (fun k=>by simp) (fun k=>by simp) (by simp [oid]) (by simp [oid]) (fun k=>(fun x hx=>by rw [Ao];exact hOl (lp:=AObj.loop LoopState.ready none FR 29 #[19,20] as' bd' (oid Hp.length 4)) (by exact ⟨hFRl,by simp [oid]⟩) x hx)) (fun k=>(fun x hx=>by rw [Ao];exact hOl (lp:=AObj.loop LoopState.ready none FR 29 #[19,20] as' bd' (oid Hp.length 4)) (by exact ⟨hFRl,by simp [oid]⟩) x hx)) AGd (fun k=>by rw [B0];rfl) (fun k=>by rw [B0];rfl) (fun k m hk he=>by rw [Dy];simp only [It hk];rfl) (fun k m X hk hN=>?_) (fun hN=>.inl ⟨_,_,rfl,lh hN⟩),?_⟩
 ·generalize hV:Hp++[AObj.cells 59 [AV.nil],AObj.cells 35 [A4 0],AObj.cells 59 [AV.slice true 1 ((D3 c l k).map Ax)],AObj.cells 27 [Ax (colsAt c l k)],AObj.defs,AObj.loop LoopState.ready none FR 29 #[19,20] as' bd' (oid Hp.length 4)]++X=V
  have hL:V[oid Hp.length 5]? = some (AObj.loop LoopState.ready none FR 29 #[19,20] as' bd' (oid Hp.length 4)):=by rw [←hV,B9,B0];rfl
  have hA0:V[oid Hp.length 2]? = some (AObj.cells 59 [AV.slice true 1 ((D3 c l k).map Ax)]):=by rw [←hV,B9,B0];rfl
  have hB0:V[oid Hp.length 0]? = some (AObj.cells 59 [AV.nil]):=by rw [←hV,B9,B0];rfl
  have hC0:V[oid Hp.length 1]? = some (AObj.cells 35 [A4 0]):=by rw [←hV,B9,B0];rfl
  refine K8 (pd:=none) (fr:=FR) (sz:=29) (ps:=#[19,20]) (df:=oid Hp.length 4) (asg:=as') (bd:=bd') hL rfl (by decide) (fun d=>?_)
  subst hFR has hbd
  refine Fu [4,5,6,19,20] ?_;refine Z2 ?_;refine A2 [4,5,6,7,20] ?_;refine Z93 ?_;refine A2 [4,5,6,7,8] ?_
  refine ⟨rfl,none,hL,?_⟩
  generalize hbz:(AObj.loop LoopState.busy _ _ _ _ _ _ _)=bz
  have hA:(V.set (oid Hp.length 5) bz)[oid Hp.length 2]? = some (AObj.cells 59 [AV.slice true 1 ((D3 c l k).map Ax)]):=by rw [D7 (By (by decide))];exact hA0
  have hB:(V.set (oid Hp.length 5) bz)[oid Hp.length 0]? = some (AObj.cells 59 [AV.nil]):=by rw [D7 (By (by decide))];exact hB0
  have hC:(V.set (oid Hp.length 5) bz)[oid Hp.length 1]? = some (AObj.cells 35 [A4 0]):=by rw [D7 (By (by decide))];exact hC0
  refine wc ?_;refine A2 [4,5,6,7,8,22] ?_
  refine A3 (fun ht22=>?_) (fun ht22=>?_)
  ·have he:(Bn (colsAt c l k) m).2≠0:=by simpa using ht22
   refine Z2 ?_
   refine F4 jS hB ?_ ?_
   ·simp
   refine F4 jS (Ub hC (By (by decide))) ?_ ?_
   ·simp
   refine A2 [] ?_;refine je ?_
   subst hbz
   refine AEu ?_
   refine .inl ⟨he,Hp++[AObj.cells 59 [AV.nil],AObj.cells 35 [A4 (Bn (colsAt c l k) m).2],AObj.cells 59 [AV.slice true 1 ((D3 c l k).map Ax)],AObj.cells 27 [Ax (colsAt c l k)],AObj.defs,_],?_,by simp,(fun x hx=>by rw [Ao];exact hOl (lp:=_) (by exact ⟨hFRl,by simp [oid]⟩) x hx),.inr ⟨_,_,_,rfl,he,cw hk hN he⟩⟩
   subst hV
   simp only [B9,Dy,Dd,Cz,List.set_cons_succ,List.set_cons_zero]
  have he:(Bn (colsAt c l k) m).2=0:=by simpa using ht22
  refine Z6 ?_;refine Mp ?_;refine ax jA hA ?_;refine Z76 ?_
  refine Gq jU Tryz.type27 ?_ ?_ ?_
  ·have hol:=Jf c l k;have hkl:=(Ac.1 hk).1;simp [Tryz.t27];omega
  ·have hol:=Jf c l k;have hkl:=(Ac.1 hk).1;simp [Tryz.t27];omega
  refine Vi jS (getset hA) ?_ ?_
  ·exact sw
  refine Xr ?_
  subst hbz
  refine qe ?_
  refine .inr ⟨he,rfl,cv hk hN he,?_⟩
  subst hV
  simp only [B9,Dy,Dd,Cz,List.set_cons_succ,List.set_cons_zero]
  rw [D3,It hk,Cr]
  rfl
 rintro r H' (⟨o,q,rfl,hrun⟩|⟨e,o,q,rfl,hne,hrun⟩)
 ·refine ⟨Hp,_,_,_,rfl,rfl,fun h=>h,?_,rfl,by simp,?_⟩
  ·intro o ho
   have:o=oid Hp.length 4:=by simpa using ho
   subst this
   rw [B0]
   rfl
  refine Z15 ?_;refine Z2 ?_;refine vn ?_;refine Z12 ?_;exact A7 (Aw (F5 jA) (F5 jA)) ⟨by rw [Zk hmay hrun],rfl⟩ (hlow:=by simp only [mc,Bj,Ev,or_false];rintro y (rfl|rfl);exact G9;simp)
 refine ⟨Hp,_,_,_,rfl,rfl,fun h=>h,?_,rfl,by simp,?_⟩
 ·intro o ho
  have:o=oid Hp.length 4:=by simpa using ho
  subst this
  rw [B0]
  rfl
 refine W.nilOwn 0 1 ?_;refine px ?_;exact A7 (Aw (F5 jA) (F5 jA)) ⟨by rw [Xb hmay (by rw [hrun];exact hne),hrun];rfl,rfl⟩

theorem N0 {k:List Expr} {i:Nat} (h:i<k.length):(k.map Aa)[i]? = some (Aa (k.getD i A9))∧k.getD i A9∈k∧∀(f:Expr→Rs) (d:Rs),(k.map f).getD i d=f (k.getD i A9):=by
 have e:k.getD i A9=k[i]:=by rw [Ch,Ae h];rfl
 rw [e]
 refine ⟨by simp [h],C4 h,fun f d=>?_⟩
 rw [Ch,Cm,Ae h]
 rfl
theorem zw {e:Expr} (h:Cb e=true):(e.op=5→e.kids.length=2)∧(e.op=3∨e.op=4→e.kids.length=1)∧(e.op=6→C8 e.text=(e.kids.length:Int))∧(e.op=1∨e.op=2∨e.op=3∨e.op=4∨e.op=5∨e.op=6):=by
 cases Hh h with
 | val v hp h0=>simp [Dl,Expr.op]
 | name t ht=>simp [Bb,Expr.op]
 | neg a=>simp [G4,Expr.op,Expr.kids]
 | no a=>simp [G4,Expr.op,Expr.kids]
 | bin t a b ht=>simp [Ib,Expr.op,Expr.kids]
 | call t k ht=>simpa [Expr.op,Expr.kids,Expr.text] using ht
def Q4 (s:Str):Int:=if s==[111,114] then 0 else if s==[97,110,100] then 1 else if (((((s==[61]) || (s==[33,61])) || (s==[60])) || (s==[60,61])) || (s==[62])) || (s==[62,61]) then 3 else if ((s==[43]) || (s==[45])) || (s==[38]) then 4 else if ((s==[42]) || (s==[47])) || (s==[37]) then 5 else 7
theorem sx (s:Str):Q4 s=if 0≤Bz s then Bz s else 7:=by
 by_cases hf:s∈levels.flatten
 ·have h3:(levels.flatten.all fun s=>decide (Q4 s=if 0≤Bz s then Bz s else 7))=true:=by kernel_rfl
  exact of_decide_eq_true (B5.1 h3 s hf)
 have hn:=hf
 have h:Bz s = -1:=by
  rcases Ja s with h|⟨h,_⟩
  ·exact absurd h hf
  exact h
 rw [h]
 simp only [levels,List.flatten_cons,List.flatten_nil,Ig,Dd,Cz,Bj,Hy,or_false,not_or] at hn
 obtain ⟨a1,a2,a3,a4,a5,a6,a7,a8,a9,b1,b2,b3,b4,b5⟩:=hn
 simp [Q4, *]
/-- The level of a node. -/
def li (e:Expr):Int:=if e.op==4 then 2 else if e.op==3 then 6 else if e.op==5 then Q4 e.text else 7
theorem nw {e:Expr} (h:Cb e=true):li e=(levE e:Int):=by
 unfold li levE
 split
 ·rfl
 split
 ·rfl
 split
 ·rename_i h5
  have hb:0≤Bz e.text:=by
   have h5':e.op=5:=by simpa using h5
   rw [I4] at h
   unfold Qu at h
   simp [h5'] at h
   exact h.2.1
  rw [sx,if_pos hb]
  omega
 rfl
theorem ANb (s:Str) (Hp:List AObj):AFun Tryz.prog 158 [Ah s] Hp (A4 (Q4 s)):=by
 refine Ak [.tmp 2] [0] Tryz.func158 Tryz.ntmps158 (fun d=>?_)
 refine Z57 ?_;refine Z36 ?_;refine A2 [3] ?_;refine Z94 ?_;refine A2 [3,4] ?_
 refine A3 (fun ht4=>?_) (fun ht4=>?_)
 ·exact w4
 refine Z1 ?_;refine A2 [3,6] ?_
 refine A3 (fun ht6=>?_) (fun ht6=>?_)
 ·exact w4
 refine W.join ⟨23,Af 3 (Ah s) (Af 8 (B6 ((((((s==[61]) || (s==[33,61])) || (s==[60])) || (s==[60,61])) || (s==[62])) || (s==[62,61]))) (fun _=>.any)),Hp,[],[],none⟩ ?_ ?_
 ·refine vz ?_
  refine A3 (fun ht8=>?_) (fun ht8=>?_)
  ·exact vm
  refine vz ?_
  refine A3 (fun ht8=>?_) (fun ht8=>?_)
  ·exact vm
  refine vz ?_
  refine A3 (fun ht8=>?_) (fun ht8=>?_)
  ·exact vm
  refine vz ?_
  refine A3 (fun ht8=>?_) (fun ht8=>?_)
  ·exact vm
  refine vz ?_
  refine A3 (fun ht8=>?_) (fun ht8=>?_)
  ·exact vm
  refine Z19 ?_;refine A2 [3,8] ?_;exact Z50
 refine A3 (fun ht8=>?_) (fun ht8=>?_)
 ·exact w4
 refine W.join ⟨23,Af 3 (Ah s) (Af 15 (B6 (((s==[43]) || (s==[45])) || (s==[38]))) (fun _=>.any)),Hp,[],[],none⟩ ?_ ?_
 ·refine Z1 ?_;refine A2 [3,15] ?_
  refine A3 (fun ht15=>?_) (fun ht15=>?_)
  ·refine Fu [3,15] ?_;exact vk
  refine Z1 ?_;refine A2 [3,15] ?_
  refine A3 (fun ht15=>?_) (fun ht15=>?_)
  ·refine Fu [3,15] ?_;exact vk
  refine Z19 ?_;refine A2 [3,15] ?_;exact Z50
 refine A3 (fun ht15=>?_) (fun ht15=>?_)
 ·exact w4
 refine W.join ⟨23,Af 19 (B6 (((s==[42]) || (s==[47])) || (s==[37]))) (fun _=>.any),Hp,[],[],none⟩ ?_ ?_
 ·refine Z1 ?_;refine A2 [3,19] ?_
  refine A3 (fun ht19=>?_) (fun ht19=>?_)
  ·refine Fu [19] ?_;exact vk
  refine Z1 ?_;refine A2 [3,19] ?_
  refine A3 (fun ht19=>?_) (fun ht19=>?_)
  ·refine Fu [19] ?_;exact vk
  refine Z19 ?_;refine A2 [19] ?_;exact Z50
 refine A3 (fun ht19=>?_) (fun ht19=>?_)
 ·exact w4
 refine jf ?_;exact A7 (An A6) ⟨by simp_all [Q4],rfl⟩

theorem AJo (e:Expr) (Hp:List AObj):AFun Tryz.prog 118 [Aa e] Hp (A4 (li e)):=by
 refine Ak [.tmp 2] [0] Tryz.func118 Tryz.ntmps118 (fun d=>?_)
 refine Z84 ?_;refine Z31 ?_;refine A2 [1,4] ?_;refine Z94 ?_;refine A2 [1,4,5] ?_
 refine A3 (fun ht5=>?_) (fun ht5=>?_)
 ·refine Z2 ?_;exact AEl
 refine Z1 ?_;refine A2 [1,4,7] ?_
 refine A3 (fun ht7=>?_) (fun ht7=>?_)
 ·refine Z2 ?_;exact AEl
 refine Z1 ?_;refine A2 [1,9] ?_
 refine A3 (fun ht9=>?_) (fun ht9=>?_)
 ·refine Z1 ?_;refine A8 Tryz.call158 (ANb e.text _) ?_;refine A5 ?_;exact AEl
 refine jf ?_;exact A7 (An A6) ⟨by simp_all [li],rfl⟩

end Go.SX.Nb
namespace Go.Proofs
open Go.Shelf Go.RowKit

section
variable {P:Program} (w:World)

/-- Bytes behind a builder's bytes: what is handed back lies where it lay, or in the next block, or nowhere still. -/
theorem sy {t u ty e:TypeId} {i:TypeInfo} (ht:P.underlying t=some (.slice e)) (hu:P.underlying u=some .string) (hi:P.info? e=some i) (hz:i.zero=some (.int .u8 0)) (hsize:i.size=1) (hby:i.bytes=1)
  (v:Value) (n:Nat) (xs:List Value) (hown:w.ownsRow 0 e 1 v n xs) (s:ByteArray) (hb:n+s.size≤140737488355328):
  ∃v' w',(Builtin.append_ #[t,u] ty #[v,.string s]).run P w=.ok v' w'∧w'.ownsRow 0 e 1 v' (n+s.size) (xs++Lib.strCells s)∧w.grownBy w' v'.ownBlock ∧
   ((v=.slice none 0 0∧v'=v∧s.size=0)∨(∃g cap,v=.slice (some ⟨g,0,none⟩) n cap∧v'=.slice (some ⟨g,0,none⟩) (n+s.size) cap)∨∃cap,v'=.slice (some ⟨w.heap.size,0,none⟩) (n+s.size) cap∧0<n+s.size):=by
 have h63:n+s.size≤maxLen:=by unfold maxLen;omega
 obtain ⟨v',w',hr,h1,h2,h3⟩:=Lib.run_append_own_string (P:=P) w 0 t u ty e i ht hu hi hz hsize hby v n xs hown s h63 hb (Nat.zero_le _)
 have hxl:xs.length=n:=by simpa using hown.1
 refine ⟨v',w',hr,h1,?_⟩
 rcases hown.2 with ⟨rfl,rfl⟩|⟨g,cap,cur,rfl,hbg,hg,hnc,hcm,hcs,htake⟩
 ·by_cases hm:s.size=0
  ·have e1:=h3.2 ⟨rfl,hm⟩
   exact ⟨by rw [e1];exact h2,.inl ⟨rfl,e1,hm⟩⟩
  have hr2:=run_append_nil_string (P:=P) w t u ty e i (.int .u8 0) ht hu hi hz s (by omega) (by omega) (by rw [hby];omega)
  rw [hr] at hr2
  injection hr2 with e1 e2
  refine ⟨?_,.inr (.inr ⟨_,by rw [e1,Nat.zero_add],by omega⟩)⟩
  rw [e2]
  exact ⟨rfl,rfl,rfl,by simp,fun k hk _=>Lib.alloc_old w.drew _ k hk⟩
 by_cases hroom:n+s.size≤cap
 ·have hcs':cur.size=cap:=by simpa using hcs
  have hr2:=Lib.run_append_room_string (P:=P) w t u ty e i ht hu hi hsize g n cap cur hg s hroom (by omega)
  rw [hr] at hr2
  injection hr2 with e1 e2
  exact ⟨by rw [e1];exact h2,.inr (.inl ⟨g,cap,rfl,e1⟩)⟩
 have holds:∀j u,xs[j]? = some u→w.cell? ((⟨g,0,none⟩:Addr).add j)=some u:=hown.cells (g:=g) rfl
 have hr2:=Lib.run_append_grow_string (P:=P) w t u ty e i (.int .u8 0) ht hu hi hz ⟨g,0,none⟩ n cap xs (by rw [hsize];simpa using hxl) holds s (by omega) (by omega) (by rw [hby];exact growslice_fits (by omega) (by omega))
 rw [hr] at hr2
 injection hr2 with e1 e2
 refine ⟨?_,.inr (.inr ⟨_,e1,by omega⟩)⟩
 rw [e2]
 exact ⟨rfl,rfl,rfl,by simp,fun k hk _=>Lib.alloc_old w.drew _ k hk⟩
end

theorem T3 {P:Program} {w w':World} {ops:Array Oper} {rest:List Oper} {o:Oper} {a:Act} {Q:Exit→Act→World→Prop} {v v':Value} {s:ByteArray} (hgd:o.guard=none) (sl x:Operand) (t u ty:TypeId)
  (ho:o.op=.call { callee:=.builtin .append,args:=#[sl,x],argTypes:=#[t,u] }) (hty:o.type=ty) (hs:a.eval sl=v) (hx:a.eval x=.string s) (hrun:(Builtin.append_ #[t,u] ty #[v,.string s]).run P w=.ok v' w')
  (h:wpList P ops Q rest (a.put o.dst v') w'):wpList P ops Q (o::rest) a w:=by
 refine wpList_plain hgd fun K hK=>?_
 subst hty
 unfold Oper.wp execOp
 simp only [ho,resolve,invoke,builtin,Sem.run_bind,Sem.run_pure,Result.andThen_ok,List.map_toArray,List.map_cons,List.map_nil,hs,hx,hrun]
 exact hK _ _ h

section
variable {P:Program} {ρ:Ren}

set_option maxHeartbeats 1000000 in
set_option maxRecDepth 100000 in
/-- The check of an unused builder within a block of type T. -/
theorem t6 (L:Lays.n240 P ρ) (X:Builder.X72 P ρ) {T:TypeId} (hl:liesAt P P.depth T (2 / P.cellsOf T) 0 (ρ.t 72) 1=true) (b:Nat) (w:World) (h0:w.cell? ⟨b,0,none⟩=some (.pointer none)) (hsh:w.shape? b=some (T,2)) (hfz:w.frozen? ⟨b,0,none⟩=false):
  Calls P (ρ.f 240) #[.pointer (some ⟨b,0,none⟩)] w fun e w'=>e=.returned (.tuple #[])∧w'=w.setCell ⟨b,0,none⟩ (.pointer (some ⟨b,0,none⟩)):=by
 obtain ⟨j,hj,hjs⟩:=Option.map_eq_some_iff.1 X.sizeBuilder
 have mixed:=L.mixed
 have t72:=L.t72;have a72:=L.a72;have z72:=L.z72;have v72:=L.v72;have u72:=run_underlying L.t72
 have t70:=L.t70;have a70:=L.a70;have z70:=L.z70;have v70:=L.v70;have u70:=run_underlying L.t70
 have t9:=L.t9;have a9:=L.a9;have z9:=L.z9;have v9:=L.v9;have u9:=run_underlying L.t9
 have t4:=L.t4;have a4:=L.a4;have z4:=L.z4;have v4:=L.v4;have u4:=run_underlying L.t4
 have t164:=L.t164;have a164:=L.a164;have z164:=L.z164;have v164:=L.v164;have u164:=run_underlying L.t164
 go_enter L.f240,Body.n240_ntmps ρ
 go_wp2
 rw [Lib.run_to_unsafe w ⟨b,0,none⟩ L.t70 L.t164 hj (by rw [hjs];decide) hsh (Nat.zero_lt_succ 1)]
 simp only [Result.andThen]
 rw [Oper.upon_value]
 go_wp2
 rw [run_callFunc_extern L.f276 (by kernel_rfl) (by kernel_rfl) (by kernel_rfl) (e:=Extern.AbiNoEscape.same) (by kernel_rfl)]
 rw [Lib.run_noEscape]
 simp only [Result.andThen]
 rw [Oper.upon_value]
 go_wp2
 rw [Lib.run_from_unsafe w ⟨b,0,none⟩ L.t164 L.t70 hj hsh hl]
 simp only [Result.andThen]
 rw [Oper.upon_value]
 go_wp2
 go_end0
 exact ⟨rfl,rfl⟩

/-- The check: behind it the first cell holds the builder's own address; nothing else turns. -/
theorem zx (L:Lays.n240 P ρ) (X:Builder.X72 P ρ) {T e:TypeId} (hl:liesAt P P.depth T (2 / P.cellsOf T) 0 (ρ.t 72) 1=true) (b:Nat) (p v:Value) (n:Nat) (bs:List Value) (w:World) (h:Nn T e b p v n bs w):
  Calls P (ρ.f 240) #[.pointer (some ⟨b,0,none⟩)] w fun e' w'=>e'=.returned (.tuple #[])∧Nn T e b (.pointer (some ⟨b,0,none⟩)) v n bs w'∧w.grownBy w' (some b)∧w'.heap.size=w.heap.size:=by
 obtain ⟨h1,hp,h3,h4⟩:=h
 rcases hp with rfl|rfl
 ·refine (t6 L X hl b w (by rw [Lib.cell_of_heap h1];rfl) (by simp [World.shape?,h1]) (Lib.frozen_of_heap h1 0)).mono ?_
  rintro e' w' ⟨rfl,rfl⟩
  have hgr:w.grownBy (w.setCell ⟨b,0,none⟩ (.pointer (some ⟨b,0,none⟩))) (some b):=⟨rfl,rfl,rfl,by simp [World.setCell],fun k _ hk=>Below.heap_setCell _ _ _ _ (fun e=>hk (by simp [e]))⟩
  exact ⟨rfl,⟨by simp [World.setCell,Array.getElem?_modify,h1],.inr rfl,h3.kept hgr (.inr h4),h4⟩,hgr,by simp [World.setCell]⟩
 refine (Any.Builder_copyCheck_used L X b w (by rw [Lib.cell_of_heap h1];rfl)).mono ?_
 rintro e' w' ⟨rfl,rfl⟩
 exact ⟨rfl,⟨h1,.inr rfl,h3,h4⟩,⟨rfl,rfl,rfl,Nat.le_refl _,fun _ _ _=>rfl⟩,rfl⟩

set_option maxHeartbeats 1000000 in
set_option maxRecDepth 100000 in
/-- How many bytes there are. -/
theorem bldLen (L:Lays.n170 P ρ) {T e:TypeId} (b:Nat) (p v:Value) (n:Nat) (bs:List Value) (w:World) (h:Nn T e b p v n bs w):
  Calls P (ρ.f 170) #[.pointer (some ⟨b,0,none⟩)] w fun e' w'=>e'=.returned (.int .i64 n)∧w'=w:=by
 obtain ⟨h1,_,h3,_⟩:=h
 obtain ⟨ao,cap,rfl⟩:∃ao cap,v=.slice ao n cap:=by
  rcases h3.2 with ⟨hv,h0⟩|⟨g,cap,cur,hv,_⟩
  ·exact ⟨none,0,by rw [hv,h0]⟩
  exact ⟨_,_,hv⟩
 have c1:w.cell? ⟨b,1,none⟩=some (.slice ao n cap):=by rw [Lib.cell_of_heap h1];rfl
 have mixed:=L.mixed
 have t72:=L.t72;have a72:=L.a72;have z72:=L.z72;have v72:=L.v72;have u72:=run_underlying L.t72
 have t70:=L.t70;have a70:=L.a70;have z70:=L.z70;have v70:=L.v70;have u70:=run_underlying L.t70
 have t37:=L.t37;have a37:=L.a37;have z37:=L.z37;have v37:=L.v37;have u37:=run_underlying L.t37
 have t3:=L.t3;have a3:=L.a3;have z3:=L.z3;have v3:=L.v3;have u3:=run_underlying L.t3
 go_enter L.f170,Body.n170_ntmps ρ
 go_wp2
 go_ret
 exact ⟨rfl,rfl⟩

set_option maxHeartbeats 2000000 in
set_option maxRecDepth 100000 in
/-- A text is written behind it. -/
theorem bldWrite (L:Lays.n166 P ρ) (X:Builder.Extra P ρ) {T:TypeId} (hl:liesAt P P.depth T (2 / P.cellsOf T) 0 (ρ.t 72) 1=true) (hTe:T≠ρ.t 5) (b:Nat) (p v:Value) (n:Nat) (bs:List Value) (s:ByteArray) (w:World) (h:Nn T (ρ.t 5) b p v n bs w)
  (hlen:n+s.size≤140737488355328):
  Calls P (ρ.f 166) #[.pointer (some ⟨b,0,none⟩),.string s] w fun e w'=>e=.returned (.tuple #[.int .i64 s.size,.nilIface])∧∃v',Nn T (ρ.t 5) b (.pointer (some ⟨b,0,none⟩)) v' (n+s.size) (bs++Lib.strCells s) w' ∧
   (w'.os=w.os∧w'.tape=w.tape∧w'.output=w.output∧w.heap.size≤w'.heap.size)∧(∀k,k<w.heap.size→k≠b→v'.ownBlock≠some k→w'.heap[k]? = w.heap[k]?) ∧
   ((v=.slice none 0 0∧v'=v∧s.size=0)∨(∃g cap,v=.slice (some ⟨g,0,none⟩) n cap∧v'=.slice (some ⟨g,0,none⟩) (n+s.size) cap)∨∃cap,v'=.slice (some ⟨w.heap.size,0,none⟩) (n+s.size) cap∧0<n+s.size):=by
 obtain ⟨i0,hi,hz0,hz1,hz2⟩:=info_parts X.infoByte
 have mixed:=L.mixed
 have t72:=L.t72;have a72:=L.a72;have z72:=L.z72;have v72:=L.v72;have u72:=run_underlying L.t72
 have t70:=L.t70;have a70:=L.a70;have z70:=L.z70;have v70:=L.v70;have u70:=run_underlying L.t70
 have t37:=L.t37;have a37:=L.a37;have z37:=L.z37;have v37:=L.v37;have u37:=run_underlying L.t37
 have t3:=L.t3;have a3:=L.a3;have z3:=L.z3;have v3:=L.v3;have u3:=run_underlying L.t3
 have t9:=L.t9;have a9:=L.a9;have z9:=L.z9;have v9:=L.v9;have u9:=run_underlying L.t9
 have t4:=L.t4;have a4:=L.a4;have z4:=L.z4;have v4:=L.v4;have u4:=run_underlying L.t4
 have t164:=L.t164;have a164:=L.a164;have z164:=L.z164;have v164:=L.v164;have u164:=run_underlying L.t164
 have t5:=X.t5;have a5:=X.a5;have z5:=X.z5;have v5:=X.v5;have u5:=run_underlying X.t5
 have e240:∀args w,(callFunc (ρ.f 240) args).run P w=.ok (.enter (ρ.f 240) args) w:=enters_of L.f240 (by kernel_rfl) rfl
 go_enter L.f166,Body.n166_ntmps ρ
 go_wp2_with (go_at_fn (ρ.f 240);refine (zx { L with } X.toX72 hl b p v n bs _ h).mono ?_)
 rintro e w1 ⟨rfl,⟨hbk,_,hown,hne⟩,hg1,hs1⟩
 have c0:w1.cell? ⟨b,0,none⟩=some (.pointer (some ⟨b,0,none⟩)):=by rw [Lib.cell_of_heap hbk];rfl
 have c1:w1.cell? ⟨b,1,none⟩=some v:=by rw [Lib.cell_of_heap hbk];rfl
 obtain ⟨v',w2,hrun,hown',hgrow,hcase⟩:=sy (P:=P) w1 (ty:=ρ.t 37) L.t37 L.t9 hi hz0 hz1 hz2 v n bs hown s hlen
 have hlt:b<w1.heap.size:=(Array.getElem?_eq_some_iff.1 hbk).1
 have hne':v'.ownBlock≠some b:=by
  rcases hcase with ⟨_,e1,_⟩|⟨g,cap,e1,e2⟩|⟨cap,e1,_⟩
  ·rw [e1];exact hne
  ·rw [e2];rw [e1] at hne;exact hne
  rw [e1];simp [Value.ownBlock];omega
 have hb2:w2.heap[b]? = some (.cells #[.pointer (some ⟨b,0,none⟩),v] T (0,0)):=by
  rw [hgrow.block b hlt (fun e=>hne' e.symm)]
  exact hbk
 have d0:w2.cell? ⟨b,0,none⟩=some (.pointer (some ⟨b,0,none⟩)):=by rw [Lib.cell_of_heap hb2];rfl
 have d1:w2.cell? ⟨b,1,none⟩=some v:=by rw [Lib.cell_of_heap hb2];rfl
 have f1:w2.frozen? ⟨b,1,none⟩=false:=Lib.frozen_of_heap hb2 1
 obtain ⟨ao,n',cap,rfl⟩:∃ao n' cap,v'=.slice ao n' cap:=by
  rcases hown'.2 with ⟨hv,_⟩|⟨g,cap,cur,hv,_⟩
  ·exact ⟨_,_,_,hv⟩
  exact ⟨_,_,_,hv⟩
 go_wp2_with (at_builtin;refine T3 rfl _ _ (ρ.t 37) (ρ.t 9) (ρ.t 37) rfl rfl rfl rfl hrun ?_)
 go_ret2
 refine ⟨rfl,_,⟨by simp [World.setCell,Array.getElem?_modify,hb2],.inr rfl,hown'.kept (row:=some b) ⟨rfl,rfl,rfl,by simp [World.setCell],fun k _ hk=>Below.heap_setCell _ _ _ _ (fun e=>hk (by simp [e]))⟩ (.inr hne'),hne'⟩,⟨?_,?_,?_,?_⟩,fun k hk hkb hkr=>?_,?_⟩
 ·exact hgrow.os.trans hg1.os
 ·exact hgrow.tape.trans hg1.tape
 ·exact hgrow.output.trans hg1.output
 ·have:=hgrow.size
  simp [World.setCell];omega
 ·rw [Below.heap_setCell _ _ _ _ hkb,hgrow.block k (by omega) (fun e=>hkr e.symm),hg1.block k hk (by simpa using hkb)]
 rw [hs1] at hcase;exact hcase

set_option maxHeartbeats 2000000 in
set_option maxRecDepth 100000 in
/-- Its text: some of its row is frozen; nothing else turns. -/
theorem bldString (L:Lays.n169 P ρ) (X:Builder.Extra P ρ) {T:TypeId} (b:Nat) (p v:Value) (l:List UInt8) (w:World) (h:Nn T (ρ.t 5) b p v l.length (Lib.byteCells l) w) (hcap:∀g,v≠.slice (some ⟨g,0,none⟩) 0 0):
  Calls P (ρ.f 169) #[.pointer (some ⟨b,0,none⟩)] w fun e w'=>e=.returned (.string ⟨l.toArray⟩)∧(w'.os=w.os∧w'.tape=w.tape∧w'.output=w.output∧w.heap.size≤w'.heap.size)∧∀k,v.ownBlock≠some k→w'.heap[k]? = w.heap[k]? := by
 obtain ⟨hbk,_,hown,hne⟩:=h
 have mixed:=L.mixed
 have t72:=L.t72;have a72:=L.a72;have z72:=L.z72;have v72:=L.v72;have u72:=run_underlying L.t72
 have t70:=L.t70;have a70:=L.a70;have z70:=L.z70;have v70:=L.v70;have u70:=run_underlying L.t70
 have t37:=L.t37;have a37:=L.a37;have z37:=L.z37;have v37:=L.v37;have u37:=run_underlying L.t37
 have t127:=L.t127;have a127:=L.a127;have z127:=L.z127;have v127:=L.v127;have u127:=run_underlying L.t127
 have t3:=L.t3;have a3:=L.a3;have z3:=L.z3;have v3:=L.v3;have u3:=run_underlying L.t3
 have t9:=L.t9;have a9:=L.a9;have z9:=L.z9;have v9:=L.v9;have u9:=run_underlying L.t9
 have t5:=X.t5;have a5:=X.a5;have z5:=X.z5;have v5:=X.v5;have u5:=run_underlying X.t5
 rcases hown.2 with ⟨rfl,h0⟩|⟨g,cap,cur,rfl,hbg,hg,hnc,hcm,hcs,htake⟩
 ·have hl:l=[]:=List.eq_nil_of_length_eq_zero h0
  subst hl
  have hUS:=Any.unsafeString_none L X
  have c1:w.drew.cell? ⟨b,1,none⟩=some (.slice none 0 0):=by
   have:w.drew.heap[b]? = some (.cells #[p,.slice none 0 0] T (0,0)):=hbk
   rw [Lib.cell_of_heap this];rfl
  have hSD:(Builtin.unsafeSliceData_ #[(ρ.t 37)] (ρ.t 127) #[.slice none 0 0]).run P w.drew=.ok (.pointer none) w.drew:=rfl
  go_enter L.f169,Body.n169_ntmps ρ
  go_wp2
  go_region_o
  all_goals (go_wp2;go_ret;exact ⟨rfl,⟨rfl,rfl,rfl,Nat.le_refl _⟩,fun _ _=>rfl⟩)
 have hc0:cap≠0:=by
  rintro rfl
  exact hcap g (by rw [show l.length=0 by omega])
 have c1:w.drew.cell? ⟨b,1,none⟩=some (.slice (some ⟨g,0,none⟩) l.length cap):=by
  have:w.drew.heap[b]? = some (.cells #[p,.slice (some ⟨g,0,none⟩) l.length cap] T (0,0)):=hbk
  rw [Lib.cell_of_heap this];rfl
 have hSD:(Builtin.unsafeSliceData_ #[(ρ.t 37)] (ρ.t 127) #[.slice (some ⟨g,0,none⟩) l.length cap]).run P w.drew=.ok (.pointer (some ⟨g,0,none⟩)) w.drew:=
  Lib.run_unsafeSliceData_row _ _ _ _ _ _ hc0
 by_cases hl:l=[]
 ·subst hl
  have hUS:=Any.unsafeString_none L X
  clear hc0 hcap
  simp only [List.length_nil] at c1 hSD
  go_enter L.f169,Body.n169_ntmps ρ
  go_wp2
  go_region_o
  all_goals (go_wp2;go_ret;exact ⟨rfl,⟨rfl,rfl,rfl,Nat.le_refl _⟩,fun _ _=>rfl⟩)
 have hUS:(Builtin.unsafeString_ #[(ρ.t 127),(ρ.t 3)] (ρ.t 9) #[.pointer (some ⟨g,0,none⟩),.int .i64 l.length]).run P w.drew=.ok (.string ⟨l.toArray⟩) (w.drew.freeze ⟨g,0,none⟩ l.length):=by
  refine Lib.run_unsafeString_row w.drew (ρ.t 127) (ρ.t 3) (ρ.t 9) (ρ.t 5) L.t127 X.cellsByte g cur.size (by have hg':w.drew.heap[g]? = some (.cells cur (ρ.t 5) (0,0)):=hg;simp [World.shape?,hg']) l hl (by omega) (by unfold maxLen at hcm;omega) ?_
  intro j x hx
  exact hown.cells (g:=g) rfl j (.int .u8 x.toNat) (by simp [Lib.byteCells,hx])
 have hfz:∀k,g≠k→(w.drew.freeze ⟨g,0,none⟩ l.length).heap[k]? = w.heap[k]? := fun k hk=>by
  unfold World.freeze
  split
  ·rfl
  show (w.heap.modify g _)[k]? = _
  rw [Array.getElem?_modify,if_neg hk]
 have hfs:(w.drew.freeze ⟨g,0,none⟩ l.length).heap.size=w.heap.size:=by
  unfold World.freeze
  split
  ·rfl
  show (w.heap.modify g _).size=_
  simp
 have hfo:(w.drew.freeze ⟨g,0,none⟩ l.length).os=w.os∧(w.drew.freeze ⟨g,0,none⟩ l.length).tape=w.tape∧(w.drew.freeze ⟨g,0,none⟩ l.length).output=w.output:=by
  unfold World.freeze
  split<;>exact ⟨rfl,rfl,rfl⟩
 clear hc0 hcap
 go_enter L.f169,Body.n169_ntmps ρ
 go_wp2
 go_region_o
 all_goals (go_wp2;go_ret;exact ⟨rfl,⟨hfo.1,hfo.2.1,hfo.2.2,Nat.le_of_eq hfs.symm⟩,fun k hk=>hfz k (fun e=>hk (by rw [e];rfl))⟩)
end
end Go.Proofs

namespace Go.SX.Nb
open Go Go.SX Go.Proofs Go.Shelf
variable [ErrAt]
set_option maxRecDepth 8000
/-! show's builder. -/
theorem AJp:Builder.Extra Tryz.prog Tryz.ren155 where
 sizeBuilder:=by kernel_rfl
 liesBuilder:=by kernel_rfl
 t5:=Tryz.underlying5
 a5:=Tryz.isAgg5
 z5:=Tryz.sizeOf5
 v5:=Tryz.zeroValue5
 infoByte:=by kernel_rfl
 cellsByte:=by kernel_rfl
 sizeByte:=by kernel_rfl
 neB5:=by decide
theorem AD7:liesAt Tryz.prog Tryz.prog.depth 120 (2 / Tryz.prog.cellsOf 120) 0 118 1=true:=by kernel_rfl
abbrev Xc (bs:Str):AObj:=.bld 120 5 bs
theorem Dw {n:Nat} {bs:Str}:ObjLow n (Xc bs):=trivial
/-- (*strings.Builder).WriteString. -/
theorem Xd (bs s:Str) (hl:bs.length+s.length≤140737488355328) (o:Nat) (Hp:List AObj) (ho:Hp[o]? = some (Xc bs)):
  ACall Tryz.prog 119 [.ptr o 0,Ah s] Hp (fun r H'=>r=.tup [A4 s.length,.v .nilIface]∧H'=Hp.set o (Xc (bs++s))):=by
 refine ACall.bldWrite ho (fun b p v w h=>?_)
 have hw:=bldWrite Tryz.lays166 AJp (T:=120) AD7 (by decide) b p v bs.length (Lib.byteCells bs) ⟨s.toArray⟩ w h (by rw [Fp];exact hl)
 rw [Fp,Lib.strCells_eq,←Lib.byteCells_append] at hw
 exact hw
/-- (*strings.Builder).Len. -/
theorem c74 (bs:Str) (o:Nat) (Hp:List AObj) (ho:Hp[o]? = some (Xc bs)):AFun Tryz.prog 74 [.ptr o 0] Hp (A4 bs.length):=
 AFun.bldLen ho (fun b p v w h=>bldLen Tryz.lays170 (T:=120) (e:=5) b p v _ _ w h)
/-- (*strings.Builder).String. -/
theorem c75 (bs:Str) (o:Nat) (Hp:List AObj) (ho:Hp[o]? = some (Xc bs)):ACall Tryz.prog 75 [.ptr o 0] Hp (fun r H'=>r=Ah bs∧H'=Hp.set o (.cells 120 [.any,.any])):=
 ACall.bldString ho (fun b p v w h hc=>bldString (ρ:=Tryz.ren155) { Tryz.lays155 with } AJp (T:=120) b p v bs w h hc)
end Go.SX.Nb
namespace Go.SX.Nb
open Go Go.SX Go.Proofs
variable [ErrAt]
set_option maxRecDepth 4000
abbrev AE0:AV:=.v (.tuple #[])
abbrev Hu:Nat:=1099511627776
/-- What node writes. -/
def zy (e:Expr):Prop:=∀(o:Nat) (bs:Str) (Hp:List AObj),Hp[o]? = some (Xc bs)→bs.length+(B8 e).length≤Hu→ACall Tryz.prog 73 [.ptr o 0,Aa e] Hp (fun r H'=>r=AE0∧H'=Hp.set o (Xc (bs++B8 e)))
theorem t7 (e:Expr):B8 e=R7 e.op e.text e.val e.kids (e.kids.map B8):=by
 cases e with
 | mk o t v k=>rw [B8,Pz];rfl
theorem AD8 {k:List Expr} {i:Nat} (h:i<k.length):(k.map B8).getD i []=B8 (k.getD i A9):=by
 rw [Ch,Ch,Cm,Ae h]
 rfl
theorem Zl (l:List Str) (s:Str):Ht (l++[s])=Ht l++(44::32::s):=by
 induction l with
 | nil=>simp [Ht]
 | cons a r ih=>simp [Ht,ih]
theorem zz {k:List Expr} {x:Nat} (h:x<k.length):(Ht ((k.take (x+1)).map B8)).drop 2=(Ht ((k.take x).map B8)).drop 2++(if 0<x then [44,32] else [])++B8 k[x]:=by
 rw [Iv h,Cr,List.map_singleton,Zl]
 cases x with
 | zero=>simp [Ht]
 | succ x =>
  have:2≤(Ht ((k.take (x+1)).map B8)).length:=by
   rw [Iv (by omega),Cr,List.map_singleton,Zl]
   simp
   omega
  rw [List.drop_append_of_le_length this,if_pos (by omega)]
  simp
theorem AGe {k:List Expr} (x:Nat):(Ht ((k.take x).map B8)).length≤(Ht (k.map B8)).length:=by
 have:k.map B8=(k.take x).map B8++(k.drop x).map B8:=by rw [←Cr,ai]
 rw [this]
 have:∀a b:List Str,(Ht a).length≤(Ht (a++b)).length:=by
  intro a b
  induction a with
  | nil=>simp [Ht]
  | cons c r ih=>simp [Ht];exact ih
 exact this _ _
theorem i8 {H:List AObj} {o:Nat} {a b:AObj}:(H.set o a).set o b=H.set o b:=Eb _
theorem t8 (e:Expr) (he:zy e) (hlev:li e=(levE e:Int)) (least:Nat) (l0:Int) (hl0:l0=(least:Int)) (o:Nat) (bs:Str) (Hp:List AObj) (ho:Hp[o]? = some (Xc bs)) (hb:bs.length+(My least e (B8 e)).length≤Hu):ACall Tryz.prog 121 [.ptr o 0,Aa e,A4 l0] Hp (fun r H'=>r=AE0∧H'=Hp.set o (Xc (bs++My least e (B8 e)))):=by
 subst hl0
 refine Ak [] [0,1,2] Tryz.func121 Tryz.ntmps121 (fun d=>?_)
 refine Z2 ?_;refine A2 [0,2,4] ?_;refine Z36 ?_;refine A8 Tryz.call118 (AJo e _) ?_;refine Z0 ?_;refine A2 [0,4,9] ?_
 refine A3 (fun ht9=>?_) (fun ht9=>?_)
 ·have hz:least≤levE e:=by
   have h:=ht9
   rw [hlev] at h
   simpa using h
  rw [show My least e (B8 e)=B8 e from if_pos hz] at hb ⊢
  refine Z1 ?_;refine C5 Tryz.call73 ho (by simp) Dw (he o bs _ (Ay ho) (by omega)) ?_;refine A2 [] ?_;refine Z41 ?_;exact A7 .nores ⟨rfl,by simp⟩
 have hz:¬least≤levE e:=by
  have h:=ht9
  rw [hlev] at h
  simpa using h
 rw [show My least e (B8 e)=40::(B8 e++[41]) from if_neg hz] at hb ⊢
 simp only [At,Ao,B3,Hu] at hb
 refine U4 ?_
 refine C5 Tryz.call119 ho (by simp) Dw (Xd bs [40] (by simp only [Hu,Ao,At,B3] at *;omega) o _ (Ay ho)) ?_
 refine A2 [0,4] ?_;refine Z1 ?_
 refine C5 Tryz.call73 (getset ho) (by simp) Dw (he o (bs++[40]) _ (Ay (getset ho)) (by simp only [Hu,Ao,At,B3] at *;omega)) ?_
 refine A2 [0] ?_;refine Z85 ?_
 refine C5 Tryz.call119 (getset (getset ho)) (by simp) Dw (Xd (bs++[40]++B8 e) [41] (by simp only [Hu,Ao,At,B3] at *;omega) o _ (Ay (getset (getset ho)))) ?_
 refine A2 [] ?_;exact Ke .nores ⟨rfl,by simp⟩

theorem c73:∀(n:Nat) (e:Expr),okE n e→Be Cb e=true→Be Ci e=true→zy e:=by
 intro n
 induction n with
 | zero=>exact fun e h=>h.elim
 | succ n ih =>
 intro e hok hnd hrg o bs Hp ho hb
 have hnd0:=hnd
 have hrg0:=hrg
 rw [Db,Ai] at hnd0 hrg0
 have hev:∀y∈e.kids,zy y:=fun y hy=>ih y (hok.2.2 y hy) ((Bk _ _).1 hnd0.2 y hy) ((Bk _ _).1 hrg0.2 y hy)
 have hlv:∀y∈e.kids,li y=(levE y:Int):=fun y hy=>nw (by have:=(Bk _ _).1 hnd0.2 y hy;rw [Db,Ai] at this;exact this.1)
 obtain ⟨k5,k34,k6,kall⟩:=zw hnd0.1
 have hi64:ABe e.val.n:=by
  have:=hrg0.1
  simp only [Ci,Ai,decide_eq_true_eq] at this
  exact this
 have hlv0:=nw hnd0.1
 have pe:=t7 e
 have hol:=(Ac.1 ho).1
 unfold R7 at pe
 refine Ak [] [0,1] Tryz.func73 Tryz.ntmps73 (fun d=>?_)
 refine Z2 ?_;refine S4 ?_;refine Z2 ?_;refine A8 Tryz.call118 (AJo e _) ?_;refine A5 ?_;refine A2 [0,3,4] ?_;refine Z1 ?_;refine A2 [0,3,4,11] ?_;refine Z94 ?_;refine A2 [0,3,4,11,12] ?_
 refine A3 (fun ht12=>?_) (fun ht12=>?_)
 ·rw [if_pos ht12] at pe
  refine W.drawQ0 [0,1,3,0,8,24,63] 6 Ar (by kernel_rfl) ?_;refine bb ?_;refine D0 Tryz.call120 (AIq e.val hi64 _) ?_;refine Er ?_
  refine C5 Tryz.call119 ho (by simp) Dw (Xd bs (Gs e.val) (by rw [pe] at hb;simp only [Hu] at hb;omega) o _ (Ay ho)) ?_
  exact pg
 rw [if_neg (by rw [ht12];simp)] at pe
 refine Z1 ?_;refine A2 [0,3,4,11,21] ?_
 refine A3 (fun ht21=>?_) (fun ht21=>?_)
 ·rw [if_pos ht21] at pe
  refine W.drawQ0 [0,1,3,0,8,31] 5 Ar (by kernel_rfl) ?_;refine bb ?_;refine Er ?_
  refine C5 Tryz.call119 ho (by simp) Dw (Xd bs e.text (by rw [pe] at hb;simp only [Hu] at hb;omega) o _ (Ay ho)) ?_
  exact pg
 rw [if_neg (by rw [ht21];simp)] at pe
 refine Z1 ?_;refine A2 [0,3,4,11,29] ?_
 refine A3 (fun ht29=>?_) (fun ht29=>?_)
 ·rw [if_pos ht29] at pe
  have hkl:=k34 (.inl (by simpa using ht29))
  rw [AD8 (by omega)] at pe
  rw [pe] at hb
  simp only [At,Hu] at hb
  refine Z13 ?_
  refine C5 Tryz.call119 ho (by simp) Dw (Xd bs [45] (by simp only [Hu,Ao,At,B3] at *;omega) o _ (Ay ho)) ?_
  refine S4 ?_;refine Z85 ?_
  refine A5 (h:=Ap (0) (Aa (e.kids.getD 0 A9)) (fun _=>(N0 (by omega)).1)) (hr:=?_)
  refine A5 ?_
  refine C5 Tryz.call121 (getset ho) (by simp) Dw (t8 (e.kids.getD 0 A9) (hev _ (N0 (by omega)).2.1) (hlv _ (N0 (by omega)).2.1) (6) _ (rfl) o (bs++[45]) _ (Ay (getset ho)) (by simp only [Hu,Ao,At,B3] at *;omega)) ?_
  exact pg
 rw [if_neg (by rw [ht29];simp)] at pe
 refine Z1 ?_;refine A2 [0,3,4,11,41] ?_
 refine A3 (fun ht41=>?_) (fun ht41=>?_)
 ·rw [if_pos ht41] at pe
  have hkl:=k34 (.inr (by simpa using ht41))
  rw [AD8 (by omega)] at pe
  rw [pe] at hb
  simp only [At,Ao,rl,B3,Hu] at hb
  refine Z13 ?_
  refine C5 Tryz.call119 ho (by simp) Dw (Xd bs [110,111,116,32] (by simp only [Hu,Ao,At,B3] at *;omega) o _ (Ay ho)) ?_
  refine S4 ?_;refine Z85 ?_
  refine A5 (h:=Ap (0) (Aa (e.kids.getD 0 A9)) (fun _=>(N0 (by omega)).1)) (hr:=?_)
  refine A5 ?_
  refine C5 Tryz.call121 (getset ho) (by simp) Dw (t8 (e.kids.getD 0 A9) (hev _ (N0 (by omega)).2.1) (hlv _ (N0 (by omega)).2.1) (2) _ (rfl) o (bs++[110,111,116,32]) _ (Ay (getset ho)) (by simp only [Hu,Ao,At,B3] at *;omega)) ?_
  exact pg
 rw [if_neg (by rw [ht41];simp)] at pe
 refine Z1 ?_;refine A2 [0,3,4,11,53] ?_
 refine A3 (fun ht53=>?_) (fun ht53=>?_)
 ·rw [if_pos ht53] at pe
  have h5:e.op=5:=by simpa using ht53
  have hkl:=k5 h5
  have hlv5:levE e=(Bz e.text).toNat:=by simp [levE,h5]
  have hl5:=y7 e.text
  rw [AD8 (by omega),AD8 (by omega)] at pe
  rw [pe] at hb
  simp only [At,Ao,Hu] at hb
  rw [hlv0,hlv5]
  refine Z1 ?_;refine A2 [0,3,4,5] ?_;refine Z31 ?_;refine A2 [0,3,4,5,57] ?_
  refine A3 (fun ht57=>?_) (fun ht57=>?_)
  ·have h3:(Bz e.text).toNat=3:=by have:=ht57;simp at this;omega
   have hf1:(((Bz e.text).toNat:Int)+1)=((I6 (Bz e.text).toNat:Nat):Int):=by rw [h3];rfl
   refine Z85 ?_;refine A2 [0,3,4,5] ?_;refine Ft ?_;refine Z13 ?_
   refine A5 (h:=Ap (0) (Aa (e.kids.getD 0 A9)) (fun _=>(N0 (by omega)).1)) (hr:=?_)
   refine Z0 ?_
   refine C5 Tryz.call121 ho (by simp) Dw (t8 (e.kids.getD 0 A9) (hev _ (N0 (by omega)).2.1) (hlv _ (N0 (by omega)).2.1) (I6 (Bz e.text).toNat) _ (by first|exact hf1|rw [hf2]) o (bs) _ (Ay ho) (by simp only [Hu,Ao,At,B3] at *;omega)) ?_
   refine AHn ?_;refine bb ?_
   refine B1 (h:=Q.sadd (hl:=fun _=>by simp only [At,B3];omega)) (hr:=?_)
   refine B1 (h:=Q.sadd (hl:=fun _=>by simp only [At,B3,Ao];omega)) (hr:=?_)
   refine Er ?_
   refine C5 Tryz.call119 (getset ho) (by simp) Dw (Xd (bs++My (I6 (Bz e.text).toNat) (e.kids.getD 0 A9) (B8 (e.kids.getD 0 A9))) (32::(e.text++[32])) (by simp only [Hu,Ao,At,B3] at *;omega) o _ (Ay (getset ho))) ?_
   refine A2 [0,3,4] ?_;refine Z85 ?_
   refine A5 (h:=Ap (1) (Aa (e.kids.getD 1 A9)) (fun _=>(N0 (by omega)).1)) (hr:=?_)
   refine Z29 ?_
   refine C5 Tryz.call121 (getset (getset ho)) (by simp) Dw (t8 (e.kids.getD 1 A9) (hev _ (N0 (by omega)).2.1) (hlv _ (N0 (by omega)).2.1) ((Bz e.text).toNat+1) _ (by first|rfl|(push_cast;rfl)) o (bs++My (I6 (Bz e.text).toNat) (e.kids.getD 0 A9) (B8 (e.kids.getD 0 A9))++32::(e.text++[32])) _ (Ay (getset (getset ho))) (by simp only [Hu,Ao,At,B3] at *;omega)) ?_
   exact pg
  have h3:(Bz e.text).toNat≠3:=by have:=ht57;simp at this;omega
  have hf2:I6 (Bz e.text).toNat=(Bz e.text).toNat:=by unfold I6;rw [if_neg h3]
  refine U4 ?_
  refine A5 (h:=Ap (0) (Aa (e.kids.getD 0 A9)) (fun _=>(N0 (by omega)).1)) (hr:=?_)
  refine Z0 ?_
  refine C5 Tryz.call121 ho (by simp) Dw (t8 (e.kids.getD 0 A9) (hev _ (N0 (by omega)).2.1) (hlv _ (N0 (by omega)).2.1) (I6 (Bz e.text).toNat) _ (by first|exact hf1|rw [hf2]) o (bs) _ (Ay ho) (by simp only [Hu,Ao,At,B3] at *;omega)) ?_
  refine AHn ?_;refine bb ?_
  refine B1 (h:=Q.sadd (hl:=fun _=>by simp only [At,B3];omega)) (hr:=?_)
  refine B1 (h:=Q.sadd (hl:=fun _=>by simp only [At,B3,Ao];omega)) (hr:=?_)
  refine Er ?_
  refine C5 Tryz.call119 (getset ho) (by simp) Dw (Xd (bs++My (I6 (Bz e.text).toNat) (e.kids.getD 0 A9) (B8 (e.kids.getD 0 A9))) (32::(e.text++[32])) (by simp only [Hu,Ao,At,B3] at *;omega) o _ (Ay (getset ho))) ?_
  refine A2 [0,3,4] ?_;refine Z85 ?_
  refine A5 (h:=Ap (1) (Aa (e.kids.getD 1 A9)) (fun _=>(N0 (by omega)).1)) (hr:=?_)
  refine Z29 ?_
  refine C5 Tryz.call121 (getset (getset ho)) (by simp) Dw (t8 (e.kids.getD 1 A9) (hev _ (N0 (by omega)).2.1) (hlv _ (N0 (by omega)).2.1) ((Bz e.text).toNat+1) _ (by first|rfl|(push_cast;rfl)) o (bs++My (I6 (Bz e.text).toNat) (e.kids.getD 0 A9) (B8 (e.kids.getD 0 A9))++32::(e.text++[32])) _ (Ay (getset (getset ho))) (by simp only [Hu,Ao,At,B3] at *;omega)) ?_
  exact pg
 rw [if_neg (by rw [ht53];simp)] at pe
 refine Z1 ?_;refine A2 [0,3,83] ?_
 refine A3 (fun ht83=>?_) (fun ht83=>?_)
 ·have hsl:∀x,((Ht ((e.kids.take x).map B8)).drop 2).length≤((Ht (e.kids.map B8)).drop 2).length:=fun x=>by have:=AGe (k:=e.kids) x;rw [Gm,Gm];omega
  have hkl6:=hok.2.1
  rw [pe] at hb
  simp only [At,Ao,B3,Hu] at hb
  refine Ed [0,1,3,0,8,24,63] 6 Ar (by kernel_rfl) ?_;refine bb ?_
  refine B1 (h:=Q.sadd (hl:=fun _=>by simp only [At,B3];omega)) (hr:=?_)
  refine Er ?_
  refine C5 Tryz.call119 ho (by simp) Dw (Xd bs (e.text++[40]) (by simp only [Hu,Ao,At,B3] at *;omega) o _ (Ay ho)) ?_
  refine S4 ?_;refine Z59 ?_;refine A2 [0,93,94,95] ?_
  refine Dp (α:=Nat) (fun x=>⟨114,Af 0 (.ptr o 0) (Af 93 (.slice false 6 (e.kids.map Aa)) (Af 94 (A4 (e.kids.length:Nat)) (Af 95 (A4 (x:Nat)) (fun _=>.any)))),Hp.set o (Xc (bs++(e.text++[40])++(Ht ((e.kids.take x).map B8)).drop 2)),[],[],none⟩) (fun x=>x≤e.kids.length) (fun x=>e.kids.length-x) (0) (Bc _) (Co (by simp [Ht])) rfl (fun x hx=>?_)
  refine Z2 ?_;refine A2 [0,93,94,95,96] ?_
  refine Dn (fun ht96=>?_) (fun ht96=>?_)
  ·have hlt:x<e.kids.length:=by simpa using ht96
   have hst:=zz hlt
   have hsl1:=hsl (x+1)
   have hslx:=hsl x
   refine Pk ?_
   refine A5 (h:=Ap (x) (Aa e.kids[x]) (fun _=>Bv hlt)) (hr:=?_)
   refine dr ?_;refine A2 [0,6,7,93,94,95] ?_;refine Z31 ?_;refine A2 [0,7,93,94,95,101] ?_
   refine A3 (fun ht101=>?_) (fun ht101=>?_)
   ·have h0x:0<x:=by simpa using ht101
    rw [if_pos h0x] at hst
    have hstl:=congrArg List.length hst
    simp only [Ao,At,B3] at hstl
    refine Z85 ?_
    refine C5 Tryz.call119 (getset ho) (by simp) Dw (Xd (bs++(e.text++[40])++(Ht ((e.kids.take x).map B8)).drop 2) [44,32] (by simp only [Hu,Ao,At,B3] at *;omega) o _ (Ay (getset ho))) ?_
    refine A2 [0,7,93,94,95] ?_;refine Ft ?_;refine Z19 ?_
    first|refine C5 Tryz.call73 (getset ho) (by simp) Dw (hev _ (C4 hlt) o (bs++(e.text++[40])++(Ht ((e.kids.take x).map B8)).drop 2) _ (Ay (getset ho)) (by simp only [Hu,Ao,At,B3] at *;omega)) ?_|refine C5 Tryz.call73 (getset (getset ho)) (by simp) Dw (hev _ (C4 hlt) o (bs++(e.text++[40])++(Ht ((e.kids.take x).map B8)).drop 2++[44,32]) _ (Ay (getset (getset ho))) (by simp only [Hu,Ao,At,B3] at *;omega)) ?_
    refine A2 [0,93,94,95] ?_;refine Vn ?_;refine A2 [0,93,94,95] ?_;refine jq ?_
    simp only [hst,i8,B9,Ig]
    exact Dk (own:=[]) (fun _=>.refl _) (by repeat (first|exact Bg|refine Bf (by first|exact E2|exact R2|(simp [or_imp,forall_and,oid]<;>omega)) ?_)) (by simp) (by simp)
   have h0x:¬0<x:=by simpa using ht101
   rw [if_neg h0x] at hst
   have hstl:=congrArg List.length hst
   simp only [Ao,At,B3] at hstl
   refine Z6 ?_;refine Z19 ?_
   first|refine C5 Tryz.call73 (getset ho) (by simp) Dw (hev _ (C4 hlt) o (bs++(e.text++[40])++(Ht ((e.kids.take x).map B8)).drop 2) _ (Ay (getset ho)) (by simp only [Hu,Ao,At,B3] at *;omega)) ?_|refine C5 Tryz.call73 (getset (getset ho)) (by simp) Dw (hev _ (C4 hlt) o (bs++(e.text++[40])++(Ht ((e.kids.take x).map B8)).drop 2++[44,32]) _ (Ay (getset (getset ho))) (by simp only [Hu,Ao,At,B3] at *;omega)) ?_
   refine A2 [0,93,94,95] ?_;refine Vn ?_;refine A2 [0,93,94,95] ?_;refine jq ?_
   simp only [hst,i8,B9,Ig]
   exact Dk (own:=[]) (fun _=>.refl _) (by repeat (first|exact Bg|refine Bf (by first|exact E2|exact R2|(simp [or_imp,forall_and,oid]<;>omega)) ?_)) (by simp) (by simp)
  have hxe:e.kids.take x=e.kids:=Fa (by simp at ht96;omega)
  have hslx:=hsl x
  refine Z39 ?_;refine Z85 ?_
  refine C5 Tryz.call119 (getset ho) (by simp) Dw (Xd (bs++(e.text++[40])++(Ht ((e.kids.take x).map B8)).drop 2) [41] (by simp only [Hu,Ao,At,B3] at *;omega) o _ (Ay (getset ho))) ?_
  refine Xr ?_;exact Ke .nores ⟨rfl,by rw [pe,hxe]<;>simp⟩
 exfalso
 have h6:=kall
 simp at ht12 ht21 ht29 ht41 ht53 ht83
 omega

theorem lj {e:Expr} (h:Cb e=true):e.text.length≤16∧e.kids.length≤8:=by
 cases Hh h with
 | val v hp h0=>exact ⟨by simp [Dl,Expr.text],by simp [Dl,Expr.kids]⟩
 | name t ht =>
  refine ⟨?_,by simp [Bb,Expr.kids]⟩
  show t.length≤16
  cases t with
  | nil=>simp
  | cons c r =>
   simp only [Kh,Ai,decide_eq_true_eq] at ht
   exact ht.1.1.1
 | neg a=>exact ⟨by simp [G4,Expr.text],by simp [G4,Expr.kids]⟩
 | no a=>exact ⟨by simp [G4,Expr.text],by simp [G4,Expr.kids]⟩
 | bin t a b ht=>exact ⟨by have:=gk ht;show t.length≤16;omega,by simp [Ib,Expr.kids]⟩
 | call t k ha =>
  refine ⟨by have:=X3 ha;show t.length≤16;omega,?_⟩
  show k.length≤8
  rcases F7 ha with ⟨_,e⟩|⟨_,e⟩|⟨_,e⟩|⟨_,e⟩|⟨_,e⟩|⟨_,e⟩|⟨_,e⟩|⟨_,e⟩<;>omega
theorem Zm:∀{l:List Expr} {y:Expr},y∈l→depthE y≤F6 l
 | a::r,y,h=>by
  rw [F6]
  rcases Bj.1 h with rfl|h
  ·omega
  have:=Zm h
  omega
theorem nx:∀(n:Nat) (e:Expr),depthE e≤n→Be Cb e=true→okE n e
 | 0,e,h,_=>by rw [Ls] at h;omega
 | n+1,e,h,hn=>by
  rw [Db,Ai] at hn
  rw [Ls] at h
  have hs:=lj hn.1
  refine ⟨by omega,by omega,fun y hy=>nx n y (by have:=Zm hy;omega) ((Bk _ _).1 hn.2 y hy)⟩
theorem Lz {e:Expr} (h:Fh e=true):okE 30 e∧sizeE e≤300:=by
 have h1:=Ip h
 unfold Fh at h
 simp only [Ai,decide_eq_true_eq] at h
 exact ⟨nx 30 e h.1.1 h1,h.1.2⟩
theorem c34 (n:Nat) (e:Expr) (hok:okE n e) (hn:n≤1048576) (hg:Be Ci e=true) (Hp:List AObj):AFun Tryz.prog 34 [Aa e] Hp (.tup [Ah (Tv e).1,A4 (Tv e).2]):=by
 refine Ak [.tmp 2,.tmp 3] [0] Tryz.func34 Tryz.ntmps34 (fun d=>?_)
 refine Z13 ?_;refine A2 [1] ?_;refine Z36 ?_;refine A8 Tryz.call38 (c38 n e hok hn _) ?_;refine A5 ?_;refine A2 [1,7] ?_
 refine A3 (fun ht7=>?_) (fun ht7=>?_)
 ·have hsh:Tv e=([],1):=if_pos ht7
  refine Z1 ?_;refine Z25 ?_;exact AH6
 have hnr:¬(!(Am e))=true:=by rw [ht7];simp
 have hr:Fh e=true:=by rw [←Em];simpa using ht7
 have hps:=gm hr hg
 refine ba ?_;refine Nj (places:=#[(0,2)]) jU (fun w=>by simp) jZ ?_;refine R.box ?_;refine A5 ?_;refine A2 [1,4] ?_;refine Es ?_;refine R.toBld 0 120 5 ?_;refine Z0 ?_
 refine Vh (n:=0) (x:=Xc (B8 e)) Tryz.call73 (c73 n e hok (Ip hr) hg (oid Hp.length 0) [] _ (by rw [B0];rfl) (by simp only [Hu,B3];omega)) ?_
 refine A2 [4] ?_;refine Z34 ?_
 refine A8 Tryz.call74 (c74 (B8 e) (oid Hp.length 0) _ (by rw [B0];rfl)) ?_
 refine A5 ?_;refine A2 [4,17] ?_
 refine A3 (fun ht17=>?_) (fun ht17=>?_)
 ·have hsh:Tv e=([],3):=by unfold Tv;rw [if_neg hnr,if_pos ht17]
  refine Z1 ?_;refine Z25 ?_;exact AH6
 have hsh:Tv e=(B8 e,0):=by unfold Tv;rw [if_neg hnr,if_neg (by rw [ht17];simp)]
 refine U4 ?_
 refine Vh (n:=0) (x:=.cells 120 [.any,.any]) Tryz.call75 (c75 (B8 e) (oid Hp.length 0) _ (by rw [B0];rfl)) ?_
 refine Z0 ?_;refine Z25 ?_;exact AIb

/-- The pairs that peel yields. -/
def pkI (x y:Expr):Nat→Expr×Expr
 | 0=>(x,y)
 | k+1=>if (pkI x y k).1.op==2 then pkI x y k else (Fi (pkI x y k).1 (pkI x y k).2).getD (pkI x y k)
theorem ANc {x y:Expr} (h:(!(apS x).2)=true):Fi x y=none:=by
 unfold Fi
 rw [zi,if_neg (by simpa using h)]
theorem ANd {x y:Expr} (h:(!(apS x).2)=false) (h2:((!(Fm x (apS x).1 y).2) || !Am (Fm x (apS x).1 y).1)=true):Fi x y=none:=by
 unfold Fi
 rw [zi,if_pos (by simpa using h)]
 simp only
 rw [nl]
 cases h1:(Fm x (apS x).1 y).2 with
 | false=>rfl
 | true =>
  rw [h1] at h2
  rw [if_pos rfl]
  simp only
  rw [if_neg (by simpa using h2)]
theorem ANe {x y:Expr} (h:(!(apS x).2)=false) (h2:((!(Fm x (apS x).1 y).2) || !Am (Fm x (apS x).1 y).1)=false):Fi x y=some ((apS x).1.e,(Fm x (apS x).1 y).1):=by
 have h3:(Fm x (apS x).1 y).2=true∧Am (Fm x (apS x).1 y).1=true:=by simpa using h2
 unfold Fi
 rw [zi,if_pos (by simpa using h)]
 simp only
 rw [nl,if_pos h3.1]
 simp only
 rw [if_pos h3.2]
/-- What may be peeled. -/
structure PkOk (p:Expr×Expr):Prop where
 okx:okE 31 p.1
 rng:Be Ci p.1=true
 size:sizeE p.1≤1048576
 oky:okE 30 p.2
theorem ny {x:Expr} (h:Be Ci x=true) (i:Nat):Be Ci (x.kids.getD i A9)=true:=by
 rw [Ch]
 cases hk:x.kids[i]? with
 | none=>rfl
 | some e =>
  rw [Db,Ai] at h
  exact (Bk _ _).1 h.2 e (Az hk)
theorem ANf {x:Expr} (h:okE 31 x) (hr:Be Ci x=true):okE 30 (apS x).1.c∧Be Ci (apS x).1.c=true:=by
 have n1:okE 30 A9:=Nw (by decide)
 unfold apS
 repeat' split
 ·exact ⟨n1,rfl⟩
 ·exact ⟨n1,rfl⟩
 ·exact ⟨Sy (by decide) h 1,ny hr 1⟩
 exact ⟨Sy (by decide) h 0,ny hr 0⟩
theorem Uw {n:Nat} {x y:Expr} {t:Str} (ht:t.length≤1048576) (hx:okE n x) (hy:okE n y):okE (n+1) (Ha x t y):=⟨ht,by show 2≤1048576;decide,fun z hz=>by
 have hz:z=x∨z=y:=by simpa [Ha,Expr.kids] using hz
 rcases hz with rfl|rfl
 ·exact hx
 exact hy⟩
theorem nz {n:Nat} {v:Val}:okE (n+1) (Dl v):=⟨by show ([]:Str).length≤_;decide,by show ([]:List Expr).length≤_;decide,fun z hz=>by cases hz⟩
theorem Zn {n:Nat} {x:Expr} {t:Str} (ht:t.length≤1048576) (hx:okE n x):okE (n+1) (E4 t [x]):=⟨ht,by show 1≤1048576;decide,fun z hz=>by
 have hz:z=x:=by simpa [E4,Expr.kids] using hz
 subst hz;exact hx⟩
theorem ta {n:Nat} {x y:Expr} {t:Str} (ht:t.length≤1048576) (hx:okE n x) (hy:okE n y):okE (n+1) (E4 t [x,y]):=⟨ht,by show 2≤1048576;decide,fun z hz=>by
 have hz:z=x∨z=y:=by simpa [E4,Expr.kids] using hz
 rcases hz with rfl|rfl
 ·exact hx
 exact hy⟩
theorem AD9 {x y:Expr} {s:Sd} (hy:okE 30 y):okE 33 (Fm x s y).1:=by
 have n1:okE 33 A9:=Nw (by decide)
 have u:∀{z:Expr},okE 31 z→okE 33 z:=fun h=>Gd (by decide) h
 have c1:okE 30 (csS s.c 1).1:=nz
 unfold Fm
 split
 ·refine u ⟨by show ([]:Str).length≤_;decide,by show 1≤1048576;decide,fun z hz=>?_⟩
  have hz:z=y:=by simpa [Expr.kids] using hz
  subst hz;exact hy
 split
 ·exact u (Zn (by decide) hy)
 split
 ·unfold Q0
  repeat' split
  ·exact n1
  ·exact u (Uw (by decide) hy c1)
  ·exact u (Uw (by decide) c1 hy)
  exact u (Uw (by decide) hy c1)
 split
 ·unfold O2
  split
  ·exact n1
  refine ta ?_ (Gd (by decide) hy) (Uw (by decide) (Zn (by decide) hy) nz)
  split<;>decide
 exact n1
theorem PkOk.next {x y:Expr} (h:PkOk (x,y)) {p:Expr×Expr} (hp:Fi x y=some p):PkOk p∧sizeE p.1<sizeE x:=by
 have hr:=X4 hp
 unfold Fi at hp
 cases ha:Jm x with
 | none=>rw [ha] at hp;cases hp
 | some s =>
  rw [ha] at hp
  simp only at hp
  cases hu:R6 x s y with
  | none=>rw [hu] at hp;cases hp
  | some z =>
   rw [hu] at hp
   simp only at hp
   split at hp
   ·injection hp with hp
    subst hp
    have hk:=ct ha
    have h1:=h.rng
    rw [Db,Ai] at h1
    have hs:sizeE s.e<sizeE x:=by
     have:=Us hk
     rw [Gt x]
     omega
    have hsz:=h.size
    refine ⟨⟨Gd (by decide) (h.okx.2.2 _ hk),(Bk _ _).1 h1.2 _ hk,?_,?_⟩,hs⟩
    ·show sizeE s.e≤_
     have:sizeE x≤1048576:=hsz
     omega
    exact (Lz (by rw [←Em];exact hr)).1
   cases hp
theorem o0 {x y:Expr} {k:Nat} {p:Expr×Expr} (h2:(pkI x y k).1.op≠2) (h:Fi (pkI x y k).1 (pkI x y k).2=some p):pkI x y (k+1)=p:=by
 rw [pkI,if_neg (by simpa using h2),h]
 rfl
theorem c83 (l ox oy:Nat) (x y:Expr) (h0k:PkOk (x,y)) (U T:Nat→List AObj) (N:Nat→Prop) (Z:List AObj→Prop) (hlen:∀k,(U k).length=(U 0).length) (hlenT:∀k,(T k).length=(U 0).length) (hll:l<(U 0).length) (hox:ox<(U 0).length) (hoy:oy<(U 0).length) (hne:oy≠ox)
  (hlw:∀k,∀z∈U k,ObjLow (U 0).length z) (hlT:∀k,∀z∈T k,ObjLow (U 0).length z) (h0:N 0) (hxU:∀k,(U k)[ox]? = some (.cells 26 (Bw (pkI x y k).1))) (hyU:∀k,(U k)[oy]? = some (.cells 26 (Bw (pkI x y k).2))) (hxT:∀k,(T k)[ox]? = some (.cells 26 (Bw (pkI x y k).1))) (hyT:∀k,(T k)[oy]? = some (.cells 26 (Bw (pkI x y k).2)))
  (hn:∀k,((T k).set oy (.cells 26 (Bw (pkI x y (k+1)).2))).set ox (.cells 26 (Bw (pkI x y (k+1)).1))=U (k+1))
  (hy:∀k X,N k→AYield Tryz.prog l [Aa (pkI x y k).1,Aa (pkI x y k).2] (U k++X) (fun b H'=>b=true∧H'=T k++X))
  (hN:∀k p,N k→(pkI x y k).1.op≠2→Fi (pkI x y k).1 (pkI x y k).2=some p→N (k+1))
  (hE:∀k z,N k→((pkI x y k).1.op=2∨Fi (pkI x y k).1 (pkI x y k).2=none)→Z (T k)∧Z ((T k).set oy (.cells 26 (Bw z)))):ACall Tryz.prog 83 [.yield l,.ptr ox 0,.ptr oy 0] (U 0) (fun _ H'=>Z H'):=by
 refine Ak [] [0,1,2] Tryz.func83 Tryz.ntmps83 (fun d=>?_)
 refine Dp (α:=Nat) (fun k=>⟨38,Af 0 (.yield l) (Af 1 (.ptr ox 0) (Af 2 (.ptr oy 0) (fun _=>.any))),U k,[],[],none⟩) (fun k=>N k∧PkOk (pkI x y k)) (fun k=>sizeE (pkI x y k).1) (0) ⟨h0,h0k⟩ (Co (by simp)) rfl (fun k hx=>?_)
 refine Z36 ?_
 refine A5 (h:=Rx (hxU k)) (hr:=?_)
 refine A5 (h:=Rx (hyU k)) (hr:=?_)
 refine R.yield (hy k _ hx.1) ?_
 intro b V O hV hb
 obtain ⟨rfl,hH⟩:=hb
 obtain ⟨rfl,rfl⟩:=N1 hH (by rw [hV,hlen,hlenT])
 refine ⟨fun _=>by rw [hlenT];exact hlT _,fun o ho=>by simp at ho,?_⟩
 refine A5 ?_;refine Ca ?_
 refine Ca (h:=Dz (hxT k)) (hr:=?_)
 refine Z64 ?_;refine A2 [0,1,2,14] ?_
 refine A3 (fun ht14=>?_) (fun ht14=>?_)
 ·have h2:(pkI x y k).1.op≠2:=by simpa using ht14
  refine Z6 ?_;refine Ia ?_;refine Es ?_
  have hac:=ANf hx.2.okx hx.2.rng
  refine A5 (h:=Rx (hxT k)) (hr:=?_)
  refine A8 Tryz.call84 (c84 30 (by decide) (pkI x y k).1 hx.2.okx (by decide) hx.2.size _) ?_;refine No ?_;refine A2 [0,1,2,4,5] ?_;refine Z31 ?_;refine A2 [0,1,2,4,21] ?_
  refine A3 (fun ht21=>?_) (fun ht21=>?_)
  ·have hz:=(hE k A9 hx.1 (.inr (ANc ht21))).1
   refine je ?_;refine Jj ?_;exact A7 .nores (hp:=hz)
  refine Z6 ?_;refine Z56 ?_
  refine A5 (h:=Rx (hxT k)) (hr:=?_)
  refine A5 ?_
  refine A5 (h:=Rx (hyT k)) (hr:=?_)
  refine A8 Tryz.call85 (c85 30 (pkI x y k).1 (apS (pkI x y k).1).1 hac.1 (by decide) hac.2 (pkI x y k).2 _) ?_;refine Z29 ?_
  refine F4 jS (hyT k) ?_ ?_
  ·first|exact L1|simp [Ab]
  refine A5 ?_;refine A2 [0,1,2,4,5] ?_;refine Z13 ?_
  refine Ca (h:=Rx (getset (hyT k))) (hr:=?_)
  refine C7 Tryz.call38 (fun hB=>c38 33 (Fm (pkI x y k).1 (apS (pkI x y k).1).1 (pkI x y k).2).1 (AD9 hx.2.oky) (by decide) _) ?_;refine Z64 ?_;refine A2 [0,1,2,4,35] ?_
  refine A3 (fun ht35=>?_) (fun ht35=>?_)
  ·have hz:=(hE k (Fm (pkI x y k).1 (apS (pkI x y k).1).1 (pkI x y k).2).1 hx.1 (.inr (ANd ht21 ht35))).2
   refine je ?_;refine Jj ?_;exact A7 .nores (hp:=hz)
  have hst:=ANe ht21 ht35
  have hpn:=o0 h2 hst
  have hnx:=hx.2.next hst
  refine Z6 ?_;refine Z19 ?_
  refine F4 jS (Ub (hxT k) hne) ?_ ?_
  ·first|exact L1|simp [Ab]
  refine Xv ?_;refine Kd ?_
  refine Cd (k+1) ⟨hN k _ hx.1 h2 hst,by rw [hpn];exact hnx.1⟩ (by rw [hpn];have:=hnx.2;omega) ?_
  have e:=hn k
  rw [hpn] at e
  rw [e]
  exact Dk (own:=[]) (fun _=>.refl _) (by repeat (first|exact Bg|refine Bf (by have:=hlen (k+1);simp;omega) ?_)) (by simp) (by simp)
 have h2:(pkI x y k).1.op=2:=by simpa using ht14
 refine jb ?_;refine K.lpE ?_;exact Ke .nores (hp:=(hE k A9 hx.1 (.inl h2)).1)

theorem Xe:∀(c:List Col) (ms:List Mov),(Cq c ms).1.length≤ms.length+1
 | c,[]=>by simp [Cq]
 | c,m::r=>by
  rw [Cq]
  split
  ·simp
  have:=Xe (Bn c m).1 r
  simp only [At]
  omega
theorem Iu {n k:Nat} {o:Bool} {a:List Expr}:Low n (.slice o k (a.map Aa)):=low_slice.2 fun y hy=>by
 obtain ⟨m,_,rfl⟩:=Cw.1 hy
 exact Ab _ _
/-! fuse: trees in columns' places. -/
mutual
def putF (c:List Col) (l:List Expr):Expr→Option Expr
 | .mk o t v k=>if o==2 then (if Br t c<0 then none else some (l.getD (Br t c).toNat A9)) else (AE1 c l k).map fun k'=>.mk o t v k'
def AE1 (c:List Col) (l:List Expr):List Expr→Option (List Expr)
  | []=>some []
  | e::r=>match putF c l e with
    | none=>none
    | some y=>(AE1 c l r).map fun s=>y::s
 end
/-! fuse.Forth and plan.Text. -/
theorem M0 {c:List Col} {m:Mov} (h:(Bn c m).2=0):(Bn c m).1=Df c m.take++Bs c m∧Ee c=true∧Ee (Bn c m).1=true:=by
 unfold Bn at h ⊢
 split at h
 ·rename_i h1
  exact absurd h (by simpa using h1)
 rename_i h1
 rw [if_neg h1]
 split at h
 ·rename_i h2
  exact absurd h (by simpa using h2)
 rename_i h2
 rw [if_neg h2]
 split at h
 ·rename_i h3
  exact absurd h (by simpa using h3)
 rename_i h3
 rw [if_neg h3]
 obtain ⟨a,_,b,d,e⟩:=ABy (by simpa using h1:(Dh c m.take (Bs c m)).2=0)
 rw [e]
 refine ⟨rfl,a,?_⟩
 unfold Ee
 rw [b,V2]
 refine decide_eq_true ?_
 show ((Df c m.take++Bs c m).length:Int)≤12
 omega
/-! The text. -/
/-! ONE LINE EACH. -/
theorem ll {c:List Col} {ms:List Mov} (he:(Cq c ms).2=0):∀k,k≤ms.length→NS c ms k
 | 0,_=>AGd
 | k+1,h=>by
  have ih:=ll he k (by omega)
  have hk:ms[k]? = some ms[k]:=Ae (by omega)
  by_cases ht:(Bn (colsAt c ms k) ms[k]).2=0
  ·exact cv hk ih ht
  exact absurd ((cw hk ih ht).symm.trans he) ht
theorem Ux {c:List Col} {ms:List Mov} (he:(Cq c ms).2=0) {k:Nat} {m:Mov} (hk:ms[k]? = some m):(Bn (colsAt c ms k) m).2=0:=by
 have hl:=(Ac.1 hk).1
 by_cases ht:(Bn (colsAt c ms k) m).2=0
 ·exact ht
 exact absurd ((cw hk (ll he k (by omega)) ht).symm.trans he) ht
theorem O5 {c:List Col} {ms:List Mov}:∀{n k:Nat},k≤n→(D3 c ms n)[k]? = some (colsAt c ms k)
 | 0,k,h=>by
  have:k=0:=by omega
  subst this;rfl
 | n+1,k,h=>by
  have hl:=Jf c ms n
  rw [D3]
  by_cases e:k=n+1
  ·subst e
   rw [D6 (by omega),hl,M5]
   rfl
  rw [D5 (by omega)]
  exact O5 (by omega)
theorem Ov {c:List Col} {ms:List Mov} (h:Mz c ms=true):∀m∈ms,Jd m=true:=by
 unfold Mz sk at h
 simp only [Ai,B5] at h
 exact h.2.2
/-- What a sound migration AJe to. -/
theorem Kn {c:List Col} {ms:List Mov} (h:((Du c ms).2 != 0)=false):Mz c ms=true∧(Cq c ms).2=0∧Du c ms=(D3 c ms ms.length,0):=by
 cases hm:Mz c ms with
 | false=>rw [Zj hm] at h;cases h
 | true =>
  by_cases he:(Cq c ms).2=0
  ·have e:=lh (ll he ms.length (Al _))
   exact ⟨rfl,he,Zk hm e⟩
  rw [Xb hm he] at h
  exact absurd (by simpa using h) he
/-! SoundJoins: one behind the other, in one. -/
/-! image: rows forth and back. -/
/-- image.reckon. -/
def B4 (c:List Col) (row:List Val):List Expr→List Val×Int
 | []=>([],0)
 | x::r=>if (C6 x c row).2 != 0 then ([],(C6 x c row).2) else if (B4 c row r).2 != 0 then ([],(B4 c row r).2) else ((C6 x c row).1::(B4 c row r).1,0)
theorem Xf {c:List Col} {row:List Val}:∀{l:List Expr},(∀(j:Nat) (y:Expr),l[j]? = some y→((C6 y c row).2 != 0)=false)→B4 c row l=(l.map (fun e=>(C6 e c row).1),0)
 | [],_=>rfl
 | x::r,h=>by
  rw [B4,Xf (l:=r) (fun j y hy=>h (j+1) y hy),if_neg (by rw [h 0 x rfl];simp),if_neg (by simp)]
  rfl
theorem Xg {c:List Col} {row:List Val}:∀{l:List Expr} {x:Nat} {y:Expr},(∀(j:Nat) (z:Expr),j<x→l[j]? = some z→((C6 z c row).2 != 0)=false)→l[x]? = some y→((C6 y c row).2 != 0)=true→B4 c row l=([],(C6 y c row).2)
 | [],_,_,_,h,_=>by simp at h
 | a::r,0,y,_,h,h1=>by
  have:a=y:=by simpa using h
  subst this
  rw [B4,if_pos h1]
 | a::r,x+1,y,h0,h,h1=>by
  rw [B4,if_neg (by rw [h0 0 a (by omega) rfl];simp),Xg (l:=r) (x:=x) (fun j z hj hz=>h0 (j+1) z (by omega) hz) (by simpa using h) h1,if_pos h1]
theorem tc {e:Expr} (h:Cb e=true):Kz e=true:=by
 unfold Kz
 rw [I4] at h
 cases hk:(e.op==1) with
 | false=>rfl
 | true =>
  show Cv e.val=true
  have e1:e.op=1:=by simpa using hk
  cases e with
  | mk o t v k =>
   have e1:o=1:=e1
   subst e1
   rw [Gu] at h
   simp at h
   exact h.1.1.1
mutual
theorem ia:∀e:Expr,Be Cb e=true→Be Kz e=true
 | .mk o t v k,h=>by
  rw [Db,Ai] at h ⊢
  exact ⟨tc h.1,Zo k h.2⟩
theorem Zo:∀k:List Expr,Lr Cb k=true→Lr Kz k=true
 | [],_=>rfl
 | e::r,h=>by
  rw [Lr,Ai] at h ⊢
  exact ⟨ia e h.1,Zo r h.2⟩
end
theorem AA0 {x:Expr} {c:List Col} {row:List Val} (hf:∀v∈row,Fine v) (hr:Be Ci x=true):Fine (C6 x c row).1:=by
 show Fine (P6 Aj x c row).1
 unfold P6
 split
 ·exact Ky
 rename_i h
 simp only [Di,If,not_or,V3] at h
 exact Hs hf x (ia x (Ip (by rw [←Em];exact h.1))) hr
theorem O6 {c:List Col} {row:List Val} (hf:∀v∈row,Fine v):∀{l:List Expr},(∀e∈l,Be Ci e=true)→∀v∈(B4 c row l).1,Fine v
 | [],_,v,h=>by cases h
 | x::r,hr,v,h=>by
  rw [B4] at h
  split at h
  ·cases h
  split at h
  ·cases h
  rcases Bj.1 h with rfl|h
  ·exact AA0 hf (hr x Hw)
  exact O6 hf (fun e he=>hr e (.tail _ he)) v h
theorem Mn {c:List Col} {row:List Val}:∀{l:List Expr},(B4 c row l).2=0→(B4 c row l).1.length=l.length
 | [],_=>rfl
 | x::r,h=>by
  rw [B4] at h ⊢
  split at h
  ·rename_i h1
   rw [show (C6 x c row).2=0 from h] at h1
   cases h1
  rename_i h1
  rw [if_neg h1]
  split at h
  ·rename_i h2
   rw [show (B4 c row r).2=0 from h] at h2
   cases h2
  rename_i h2
  rw [if_neg h2]
  simp only [At]
  rw [Mn (l:=r) (by simpa using h2)]
/-- What is not taken. -/
def Fj (take:List Str) (c:List Col) (row:List Val):List Val:=((c.zip row).filter fun p => !take.contains p.1.name).map (·.2)
theorem Xh:∀{c:List Col} {row:List Val} {x:Nat} (hc:x<c.length) (hr:x<row.length),(c.take (x+1)).zip row=(c.take x).zip row++[(c[x],row[x])]
 | y::c,v::row,0,_,_=>by simp
 | y::c,v::row,x+1,hc,hr=>by
  simp only [List.take_succ_cons,List.zip_cons_cons,Dd,List.getElem_cons_succ]
  rw [Xh (by simpa using hc) (by simpa using hr)]
 | [],_,_,hc,_=>by simp at hc
 | _::_,[],_,_,hr=>by simp at hr
theorem ADa {take:List Str} {c:List Col} {row:List Val} {x:Nat} (hc:x<c.length) (hr:x<row.length) (h:take.contains c[x].name=false):Fj take (c.take (x+1)) row=Fj take (c.take x) row++[row[x]]:=by
 unfold Fj
 have hb:(fun p:Col×Val => !take.contains p.1.name) (c[x],row[x])=true:=by show (!take.contains c[x].name)=true;rw [h];rfl
 rw [Xh hc hr,Zx,Cr,List.filter_cons_of_pos (p:=fun p:Col×Val => !take.contains p.1.name) hb]
 rfl
theorem AA1 {take:List Str} {c:List Col} {row:List Val} {x:Nat} (hc:x<c.length) (hr:x<row.length) (h:take.contains c[x].name=true):Fj take (c.take (x+1)) row=Fj take (c.take x) row:=by
 unfold Fj
 have hb:¬(fun p:Col×Val => !take.contains p.1.name) (c[x],row[x])=true:=by show ¬(!take.contains c[x].name)=true;rw [h];simp
 rw [Xh hc hr,Zx,Cr,List.filter_cons_of_neg (p:=fun p:Col×Val => !take.contains p.1.name) hb]
 simp
theorem O7 {take:List Str}:∀{c:List Col} {row:List Val},row.length=c.length→(Fj take c row).length=(Df c take).length
 | [],[],_=>rfl
 | y::c,v::row,h=>by
  have ih:=O7 (take:=take) (c:=c) (row:=row) (by simpa using h)
  unfold Fj Df at ih ⊢
  rw [List.zip_cons_cons,Rn,Rn]
  cases hc:take.contains y.name<;>simp [hc] at ih ⊢<;>exact ih
 | [],_::_,h=>by simp at h
 | _::_,[],h=>by simp at h
theorem AA2 {take:List Str} {c:List Col} {row:List Val} {v:Val} (h:v∈Fj take c row):v∈row:=by
 unfold Fj at h
 obtain ⟨p,hp,rfl⟩:=Cw.1 h
 exact (List.of_mem_zip (Uc.1 hp).1).2
/-- image.forth. -/
def C2 (c:List Col) (m:Mov) (row:List Val):List Val×Int:=if (B4 c row m.ahead).2 != 0 then ([],(B4 c row m.ahead).2) else (Fj m.take c row++(B4 c row m.ahead).1,0)
/-- What a column ahead was. -/
def Rf (take:List Str) (was row:List Val) (d:List Col) (x:Col):Val:=if 0≤Jl x.name take then was.getD (Jl x.name take).toNat noV else row.getD (Br x.name d).toNat noV
/-- image.back. -/
def Cj (a d:List Col) (m:Mov) (row:List Val):List Val×Int:=if (B4 d row m.back).2 != 0 then ([],(B4 d row m.back).2) else (a.map (Rf m.take (B4 d row m.back).1 row d),0)
/-- The row behind k moves. -/
def fwM (c:List Col) (l:List Mov) (row:List Val):Nat→List Val×Int
 | 0=>(row,0)
 | k+1=>if (fwM c l row k).2 != 0 then ([],(fwM c l row k).2) else match l[k]? with
  | none=>fwM c l row k
  | some m=>C2 (colsAt c l k) m (fwM c l row k).1
/-- The row ahead of the last k moves. -/
def bkM (c:List Col) (l:List Mov) (row:List Val):Nat→List Val×Int
 | 0=>(row,0)
 | k+1=>if (bkM c l row k).2 != 0 then ([],(bkM c l row k).2) else match l[l.length-1-k]? with
  | none=>bkM c l row k
  | some m=>Cj (colsAt c l (l.length-1-k)) (colsAt c l (l.length-1-k+1)) m (bkM c l row k).1
/-- image.Forth. -/
def Ef (c:List Col) (l:List Mov) (row:List Val):List Val×Int:=if ((Du c l).2 != 0) || !Gl c row then ([],1) else fwM c l row l.length
/-- image.Back. -/
def I9 (c:List Col) (l:List Mov) (row:List Val):List Val×Int:=if ((Du c l).2 != 0) || !Gl (colsAt c l l.length) row then ([],1) else bkM c l row l.length
/-- image.Faithful. -/
def Q5 (c:List Col) (l:List Mov) (row:List Val):Bool:=if (Ef c l row).2 != 0 then false else ((I9 c l (Ef c l row).1).2==0)&&decide ((I9 c l (Ef c l row).1).1=row)
/-- A row that may be walked: as long as its columns are many, its values fine. -/
structure RowI (c:List Col) (row:List Val):Prop where
 len:row.length=c.length
 fine:∀v∈row,Fine v
theorem O8 {c:List Col} {row:List Val} (h:Gl c row=true) (hr:∀v∈row, -9223372036854775808≤v.n∧v.n≤9223372036854775807):RowI c row:=by
 unfold Gl at h
 simp only [Ai,beq_iff_eq,B5] at h
 refine ⟨h.1.2,fun v hv=>⟨?_,(hr v hv).1,(hr v hv).2⟩⟩
 obtain ⟨j,hj,rfl⟩:=Rq hv
 have hj2:j<c.length:=by omega
 have:=h.2 (row[j],c[j]) (Az (i:=j) (by rw [Rp];exact ⟨Ae hj,Ae hj2⟩))
 exact this.1
theorem T5 {c:List Col} {m:Mov} {row:List Val} (ht:(Bn c m).2=0) (hm:Jd m=true) (hg:∀e∈m.ahead,Be Ci e=true) (h:RowI c row) (hf:(C2 c m row).2=0):RowI (Bn c m).1 (C2 c m row).1:=by
 unfold C2 at hf ⊢
 split at hf
 ·rename_i h1
  rw [show (B4 c row m.ahead).2=0 from hf] at h1
  cases h1
 rename_i h1
 rw [if_neg h1]
 have hl:=Mn (c:=c) (row:=row) (l:=m.ahead) (by simpa using h1)
 refine ⟨?_,fun v hv=>?_⟩
 ·rw [(M0 ht).1,Ao,Ao,O7 h.len,hl,Ly,(Is (T0 hm)).1]
 rcases Ds.1 hv with h2|h2
 ·exact h.fine v (AA2 h2)
 exact O6 h.fine hg v h2
theorem Zp {row:List Val} (h:∀v∈row,Fine v) (n:Nat):Fine (row.getD n noV):=by
 rw [Ch]
 cases hn:row[n]? with
 | none=>exact Ky
 | some v=>exact h v (Az hn)
theorem AA3 {a d:List Col} {m:Mov} {row:List Val} (hg:∀e∈m.back,Be Ci e=true) (h:RowI d row) (hf:(Cj a d m row).2=0):RowI a (Cj a d m row).1:=by
 unfold Cj at hf ⊢
 split at hf
 ·rename_i h1
  rw [show (B4 d row m.back).2=0 from hf] at h1
  cases h1
 rename_i h1
 rw [if_neg h1]
 refine ⟨Au _,fun v hv=>?_⟩
 obtain ⟨x,_,rfl⟩:=Cw.1 hv
 unfold Rf
 split
 ·exact Zp (O6 h.fine hg) _
 exact Zp h.fine _
theorem Uy {c:List Col} {l:List Mov} {row:List Val} {k:Nat} {m:Mov} (hk:l[k]? = some m) (h:(fwM c l row k).2=0):fwM c l row (k+1)=C2 (colsAt c l k) m (fwM c l row k).1:=by
 rw [fwM,if_neg (by rw [h];simp),hk]
theorem Rg {c:List Col} {l:List Mov} {row:List Val} {k:Nat} {m:Mov} (hk:l[l.length-1-k]? = some m) (h:(bkM c l row k).2=0):bkM c l row (k+1)=Cj (colsAt c l (l.length-1-k)) (colsAt c l (l.length-1-k+1)) m (bkM c l row k).1:=by
 rw [bkM,if_neg (by rw [h];simp),hk]
theorem lm {c:List Col} {l:List Mov} {row:List Val} {k:Nat} (h:(fwM c l row k).2≠0):∀n,k<n→fwM c l row n=([],(fwM c l row k).2)
 | 0,hn=>by omega
 | n+1,hn=>by
  by_cases hk:k=n
  ·subst hk
   rw [fwM,if_pos (by simpa using h)]
  rw [fwM,lm h n (by omega),if_pos (by simpa using h)]
theorem ln {c:List Col} {l:List Mov} {row:List Val} {k:Nat} (h:(bkM c l row k).2≠0):∀n,k<n→bkM c l row n=([],(bkM c l row k).2)
 | 0,hn=>by omega
 | n+1,hn=>by
  by_cases hk:k=n
  ·subst hk
   rw [bkM,if_pos (by simpa using h)]
  rw [bkM,ln h n (by omega),if_pos (by simpa using h)]
theorem lq {c:List Col} {m:Mov} {row:List Val} (h:(C2 c m row).2≠0):(C2 c m row).1=[]:=by
 unfold C2 at h ⊢
 split
 ·rfl
 rename_i h1
 rw [if_neg h1] at h
 exact absurd rfl h
theorem Zq {a d:List Col} {m:Mov} {row:List Val} (h:(Cj a d m row).2≠0):(Cj a d m row).1=[]:=by
 unfold Cj at h ⊢
 split
 ·rfl
 rename_i h1
 rw [if_neg h1] at h
 exact absurd rfl h
/-- A failing move ends it. -/
theorem ADb {c:List Col} {l:List Mov} {row:List Val} {k:Nat} {m:Mov} (hk:l[k]? = some m) (h:(fwM c l row k).2=0) (hb:(C2 (colsAt c l k) m (fwM c l row k).1).2≠0):fwM c l row l.length=([],(C2 (colsAt c l k) m (fwM c l row k).1).2):=by
 have e:=Uy hk h
 have hl:=(Ac.1 hk).1
 by_cases h1:k+1=l.length
 ·rw [←h1,e]
  exact Kt (lq hb) rfl
 have:=lm (c:=c) (l:=l) (row:=row) (k:=k+1) (by rw [e];exact hb) l.length (by omega)
 rw [this,e]
theorem ADc {c:List Col} {l:List Mov} {row:List Val} {k:Nat} {m:Mov} (hl:k<l.length) (hk:l[l.length-1-k]? = some m) (h:(bkM c l row k).2=0) (hb:(Cj (colsAt c l (l.length-1-k)) (colsAt c l (l.length-1-k+1)) m (bkM c l row k).1).2≠0):bkM c l row l.length=([],(Cj (colsAt c l (l.length-1-k)) (colsAt c l (l.length-1-k+1)) m (bkM c l row k).1).2):=by
 have e:=Rg hk h
 by_cases h1:k+1=l.length
 ·rw [h1] at e
  rw [e]
  exact Kt (Zq hb) rfl
 have:=ln (c:=c) (l:=l) (row:=row) (k:=k+1) (by rw [e];exact hb) l.length (by omega)
 rw [this,e]
theorem Ep {n k:Nat} {o:Bool} {l:List Val}:Low n (.slice o k (l.map Bp)):=by simp [or_imp,forall_and]
theorem Jz {n k:Nat} {o:Bool} {l:List Val} {v:Val}:Low n (.slice o k (l.map Bp++[Bp v])):=by simp [or_imp,forall_and]
theorem AE2 {l:List Val} {j:Nat} (h:j<l.length):(l.map Bp)[j]? = some (Bp (l.getD j noV)):=by
 rw [Cm,Ae h,Ch,Ae h];rfl
theorem Xi {l:List Val} (h:∀v∈l,Fine v):∀v∈l, -9223372036854775808≤v.n∧v.n≤9223372036854775807:=fun v hv=>⟨(h v hv).lo,(h v hv).hi⟩
theorem Zr {c:List Col} {row:List Val}:∀{l:List Expr},(B4 c row l).1.length≤l.length
 | []=>Al _
 | x::r=>by
  rw [B4]
  repeat' split
  ·exact jm
  ·exact jm
  have:=Zr (c:=c) (row:=row) (l:=r)
  simp only [At]
  omega
theorem o4 {take:List Str} {c:List Col} {row:List Val}:(Fj take c row).length≤c.length:=by
 unfold Fj
 rw [Au]
 refine Jr (um _ _) ?_
 rw [List.length_zip]
 omega
theorem o5 {v:Str} {l:List Str} (h:0≤Jl v l):∃j:Nat,Jl v l=j∧j<l.length:=by
 unfold Jl at h ⊢
 cases hf:l.findIdx? (·==v) with
 | none=>rw [hf] at h;exact absurd h (by decide)
 | some i=>exact ⟨i,rfl,(N2.1 hf).1⟩
theorem AA4 {nm:Str} {c:List Col} {y:Col} (h:y∈c) (hn:y.name=nm):∃j:Nat,Br nm c=j∧j<c.length:=by
 unfold Br
 cases hf:c.findIdx? (fun y=>y.name==nm) with
 | none =>
  rw [Ro] at hf
  have:=hf y h
  rw [hn] at this
  simp at this
 | some i=>exact ⟨i,rfl,(N2.1 hf).1⟩
/-- A column that is not taken is there behind the move. -/
theorem AGf {c:List Col} {m:Mov} {y:Col} (ht:(Bn c m).2=0) (hy:y∈c) (hn:¬0≤Jl y.name m.take):∃j:Nat,Br y.name (Bn c m).1=j∧j<(Bn c m).1.length:=by
 refine AA4 (y:=y) ?_ rfl
 rw [(M0 ht).1]
 refine ac _ ?_
 unfold Df
 rw [Uc]
 refine ⟨hy,?_⟩
 rw [←cd,decide_eq_false hn]
 rfl
theorem c51 (a b:List Val) (ha:a.length≤1048576) (Hp:List AObj):AFun Tryz.prog 51 [Cf a,Cf b] Hp (B6 (decide (a=b))):=by
 refine Ak [.tmp 4] [0,1] Tryz.func51 Tryz.ntmps51 (fun d=>?_)
 refine Z49 ?_;refine Z59 ?_;refine A5 ?_;refine A2 [0,1,10] ?_
 refine A3 (fun ht10=>?_) (fun ht10=>?_)
 ·refine Z65 ?_;refine Cu ?_;exact A7 (An A6) ⟨by rw [AIk (by simpa using ht10)],rfl⟩
 refine jl ?_;refine A2 [0,1,12,13] ?_
 refine Dp (α:=Nat) (fun x=>⟨26,Af 0 (Cf a) (Af 1 (Cf b) (Af 12 (A4 (a.length:Nat)) (Af 13 (A4 (x:Nat)) (fun _=>.any)))),Hp,[],[],none⟩) (fun x=>x≤a.length∧∀(j:Nat) (y:Val),j<x→a[j]? = some y→b[j]? = some y) (fun x=>a.length-x) (0) (by simp) (Co (by simp)) rfl (fun x hx=>?_)
 refine Z2 ?_;refine A2 [0,1,12,13,14] ?_
 refine Dn (fun ht14=>?_) (fun ht14=>?_)
 ·have hlt:x<a.length:=by simpa using ht14
  have hlb:x<b.length:=by have:=AF1 ht10;omega
  refine vo ?_;refine A2 [0,1,5,12,13] ?_;refine Nk [0,0,3,7,0,0,48,112,255] 8 Ar (by kernel_rfl) ?_;refine Z14 ?_
  refine B1 (h:=Ap (x) (Bp a[x]) (fun _=>Bv hlt)) (hr:=?_)
  refine Z35 ?_
  refine B1 (h:=Ap (x) (Bp b[x]) (fun _=>Bv hlb)) (hr:=?_)
  refine vw ?_
  refine A5 (h:=Q.neqAgg Xw (Iy a[x].kind a[x].n b[x].kind b[x].n a[x].s b[x].s)) (hr:=?_)
  refine A2 [0,1,12,13,24] ?_
  refine A3 (fun ht24=>?_) (fun ht24=>?_)
  ·rw [mf] at ht24
   refine Z65 ?_;refine Z97 ?_;exact A7 (An A6) ⟨by rw [AK8 hlt hlb (by simpa using ht24)],rfl⟩
  rw [mf] at ht24
  refine Z68 ?_;refine A2 [0,1,12,13] ?_
  exact Cd (x+1) ⟨hlt,Md (p:=fun j y=>b[j]? = some y) hlt hx.2 (by rw [Ae hlb];simpa using (Eq.symm (by simpa using ht24):b[x]=a[x]))⟩ (by omega) (H4 rfl)
 have hxe:a.length≤x:=by simpa using ht14
 refine Z39 ?_;refine Z65 ?_;exact A7 (An A6) ⟨by rw [AIm (by simpa using ht10) (Oi hxe hx.2)],rfl⟩

theorem c49 (l:List Val) (hl:l.length≤1048576) (Hp:List AObj):AFun Tryz.prog 49 [Cf l] Hp (Cf l):=by
 refine Ak [.tmp 2] [0] Tryz.func49 Tryz.ntmps49 (fun d=>?_)
 refine Z57 ?_;refine Z36 ?_
 refine R.eqlNil jU (by kernel_rfl) (fun b hb=>?_)
 refine A2 [0,4] ?_
 refine A3 (fun ht4=>?_) (fun ht4=>?_)
 ·have hl0:l=[]:=by simpa using hb ht4
  subst hl0
  refine Z2 ?_;refine Sc 2 3 false ?_;refine Z4 ?_;exact AHs
 refine ba ?_;refine U6 ?_;refine A5 ?_
 refine Gq jU Tryz.type23 ?_ ?_ ?_
 ·simp [Tryz.t23];omega
 ·simp [Tryz.t23];omega
 refine Ji ?_;exact AHv

theorem c95 (c:List Col) (hc:OkCols c) (row:List Val) (hf:∀v∈row,Fine v) (hrl:row.length≤1048576) (l:List Expr) (h:OkEs l) (Hp:List AObj):AFun Tryz.prog 95 [Iq l,Ax c,Cf row] Hp (.tup [Cf (B4 c row l).1,A4 (B4 c row l).2]):=by
 refine Ak [.tmp 6,.tmp 7] [0,1,2] Tryz.func95 Tryz.ntmps95 (fun d=>?_)
 refine Z1 ?_;refine Xv ?_;refine Z2 ?_;refine A2 [0,1,2,8] ?_;refine Z56 ?_
 have hlen:=h.len
 refine Pj 8 3 ?_;refine Z29 ?_;refine A2 [1,2,8,13,14,15] ?_
 refine Dp (α:=Nat) (fun x=>⟨35,Af 1 (Ax c) (Af 2 (Cf row) (Af 8 (.slice true 3 (((l.take x).map fun e=>(C6 e c row).1).map Bp)) (Af 13 (Iq l) (Af 14 (A4 (l.length:Nat)) (Af 15 (A4 (x:Nat)) (fun _=>.any)))))),Hp,[],[],none⟩) (fun x=>x≤l.length∧∀(j:Nat) (y:Expr),j<x→l[j]? = some y→((C6 y c row).2 != 0)=false) (fun x=>l.length-x) (0) ⟨Bc _,fun j y h=>by omega⟩ (Co (by simp)) rfl (fun x hx=>?_)
 refine Z2 ?_;refine A2 [1,2,8,13,14,15,16] ?_
 refine Dn (fun ht16=>?_) (fun ht16=>?_)
 ·have hlt:x<l.length:=by simpa using ht16
  refine Z92 ?_
  refine A5 (h:=Ap (x) (Aa l[x]) (fun _=>Bv hlt)) (hr:=?_)
  refine Vm ?_;refine A2 [1,2,8,10,13,14,15] ?_;refine Z13 ?_;refine A8 Tryz.call15 (c15 61 l[x] (h.ok _ (C4 hlt)) (by decide) (h.rng _ (C4 hlt)) c hc row hrl (Xi hf) _) ?_;refine No ?_;refine A2 [1,2,8,11,12,13,14,15] ?_;refine Z31 ?_;refine A2 [1,2,8,11,12,13,14,15,27] ?_
  refine A3 (fun ht27=>?_) (fun ht27=>?_)
  ·have hm:=Xg hx.2 (Ae hlt) ht27
   refine Z1 ?_;refine AB0 ?_;refine Cu ?_;refine Z97 ?_;exact ABb
  refine Z6 ?_;refine jc ?_;refine Z76 ?_
  refine Gq jU Tryz.type23 ?_ ?_ ?_
  ·simp only [Au,Da,Ao,At,B3,Tryz.t23];omega
  ·simp only [Au,Da,Ao,At,B3,Tryz.t23];omega
  refine Ji ?_;refine A2 [1,2,8,13,14,15] ?_;refine Vn ?_;refine A2 [1,2,8,13,14,15] ?_;refine Cd (x+1) ⟨hlt,Fg hlt hx.2 ht27⟩ (by omega) ?_
  rw [Zi hlt,Cr,C9,F9]
  exact Dk (own:=[]) (fun _=>.refl _) (by repeat (first|exact Bg|refine Bf (by first|exact Iu|exact Ep|exact Jz|exact Je|exact E3|exact G9|exact Low.ro _ L2|(simp [or_imp,forall_and];done)) ?_)) (by simp) (by simp)
 have hxe:l.length≤x:=by simpa using ht16
 have hm:=Xf (c:=c) (row:=row) fun j y hy=>hx.2 j y (by have:=(Ac.1 hy).1;omega) hy
 rw [Fa hxe]
 refine Z39 ?_;refine Z13 ?_;refine Z30 ?_;exact A7 (Aw A6 A6) ⟨by rw [hm],rfl⟩ (hlow:=by simpa using (Ep (n:=Hp.length) (k:=3) (o:=false) (l:=l.map fun e=>(C6 e c row).1)))

theorem c50 (c:List Col) (hc:OkCols c) (m:Mov) (h:OkMov m) (row:List Val) (hf:∀v∈row,Fine v) (hl:row.length=c.length) (Hp:List AObj):AFun Tryz.prog 50 [Ax c,Jn m,Cf row] Hp (.tup [Cf (C2 c m row).1,A4 (C2 c m row).2]):=by
 have hcl:=hc.len
 have hrk:=Zr (c:=c) (row:=row) (l:=m.ahead)
 have hal:=h.ahead.len
 refine Ak [.tmp 6,.tmp 7] [0,1,2] Tryz.func50 Tryz.ntmps50 (fun d=>?_)
 refine Z13 ?_;refine A2 [0,2,4] ?_;refine Z18 ?_;refine A8 Tryz.call95 (c95 c hc row hf (by omega) m.ahead h.ahead _) ?_;refine Z82 ?_;refine A2 [0,2,4,8,9] ?_;refine Z31 ?_;refine A2 [0,2,4,8,9,22] ?_
 refine A3 (fun ht22=>?_) (fun ht22=>?_)
 ·have hm:C2 c m row=([],(B4 c row m.ahead).2):=if_pos ht22
  refine Z1 ?_;refine AB0 ?_;exact Z77
 have hm:C2 c m row=(Fj m.take c row++(B4 c row m.ahead).1,0):=if_neg (by rw [ht22];simp)
 refine Z74 ?_;refine A2 [0,2,4,8,10] ?_;refine Z56 ?_;refine Pj 10 3 ?_;refine Z29 ?_;refine A2 [2,4,8,10,24,25,26] ?_
 refine Dp (α:=Nat) (fun x=>⟨48,Af 2 (Cf row) (Af 4 (.ro (Ua m)) (Af 8 (Cf (B4 c row m.ahead).1) (Af 10 (.slice true 3 ((Fj m.take (c.take x) row).map Bp)) (Af 24 (Ax c) (Af 25 (A4 (c.length:Nat)) (Af 26 (A4 (x:Nat)) (fun _=>.any))))))),Hp,[],[],none⟩) (fun x=>x≤c.length) (fun x=>c.length-x) (0) (Bc _) (Co (by simp [Fj])) rfl (fun x hx=>?_)
 refine Z2 ?_;refine A2 [2,4,8,10,24,25,26,27] ?_
 refine Dn (fun ht27=>?_) (fun ht27=>?_)
 ·have hlt:x<c.length:=by simpa using ht27
  have hxr:x<row.length:=by omega
  have hkl:=o4 (take:=m.take) (c:=c.take x) (row:=row)
  rw [Da] at hkl
  refine Pk ?_
  refine A5 (h:=Ap (x) (El c[x]) (fun _=>Bv hlt)) (hr:=?_)
  refine dr ?_;refine A2 [2,4,8,10,11,12,24,25,26] ?_;refine Z18 ?_;refine A8 Tryz.call96 (c96 m.take c[x].name h.takes _) ?_;refine A5 ?_;refine A2 [2,4,8,10,11,24,25,26,36] ?_
  refine A3 (fun ht36=>?_) (fun ht36=>?_)
  ·have hk:=ADa hlt hxr (by simpa using ht36)
   refine jc ?_;refine Z0 ?_
   refine A5 (h:=Ap (x) (Bp row[x]) (fun _=>Bv hxr)) (hr:=?_)
   refine Z76 ?_
   refine Gq jU Tryz.type23 ?_ ?_ ?_
   ·simp only [Au,Da,Ao,At,B3,Tryz.t23];omega
   ·simp only [Au,Da,Ao,At,B3,Tryz.t23];omega
   refine Ji ?_;refine A2 [2,4,8,10,24,25,26] ?_;refine Vn ?_;refine A2 [2,4,8,10,24,25,26] ?_;refine jq ?_
   simp only [hk,Cr,C9,F9]
   exact Dk (own:=[]) (fun _=>.refl _) (by repeat (first|exact Bg|refine Bf (by first|exact Iu|exact Ep|exact Jz|exact Je|exact E3|exact G9|exact Low.ro _ L2|(simp [or_imp,forall_and];done)) ?_)) (by simp) (by simp)
  have hk:=AA1 hlt hxr (by simpa using ht36)
  refine Z68 ?_;refine A2 [2,4,8,10,24,25,26] ?_;refine jq ?_
  simp only [hk,Cr,C9,F9]
  exact Dk (own:=[]) (fun _=>.refl _) (by repeat (first|exact Bg|refine Bf (by first|exact Iu|exact Ep|exact Jz|exact Je|exact E3|exact G9|exact Low.ro _ L2|(simp [or_imp,forall_and];done)) ?_)) (by simp) (by simp)
 have hxe:c.length≤x:=by simpa using ht27
 rw [Fa hxe]
 have hkl:=o4 (take:=m.take) (c:=c) (row:=row)
 refine Z39 ?_;refine Es ?_;refine R.moveT ?_;refine A5 ?_
 refine Gq jU Tryz.type23 ?_ ?_ ?_
 ·simp only [Au,Da,Ao,At,B3,Tryz.t23];omega
 ·simp only [Au,Da,Ao,At,B3,Tryz.t23];omega
 refine Ji ?_;refine AEm ?_;exact A7 (Aw A6 A6) ⟨by rw [hm,←Cr]<;>rfl,rfl⟩ (hlow:=by rw [←Cr];simpa using (Ep (n:=Hp.length) (k:=3) (o:=false) (l:=Fj m.take c row++(B4 c row m.ahead).1)))

theorem c68 (a dd:List Col) (ha:a.length≤1048576) (hd:OkCols dd) (m:Mov) (h:OkMov m) (hb:m.back.length=m.take.length) (hs:∀y∈a,¬0≤Jl y.name m.take→∃j:Nat,Br y.name dd=j∧j<dd.length) (row:List Val) (hf:∀v∈row,Fine v) (hl:row.length=dd.length) (Hp:List AObj):AFun Tryz.prog 68 [Ax a,Ax dd,Jn m,Cf row] Hp (.tup [Cf (Cj a dd m row).1,A4 (Cj a dd m row).2]):=by
 have hdl:=hd.len
 refine Ak [.tmp 8,.tmp 9] [0,1,2,3] Tryz.func68 Tryz.ntmps68 (fun d=>?_)
 refine Z13 ?_;refine A2 [0,1,3,6] ?_;refine Z18 ?_;refine A8 Tryz.call95 (c95 dd hd row hf (by omega) m.back h.back _) ?_;refine Z82 ?_;refine A2 [0,1,3,6,10,11] ?_;refine Z31 ?_;refine A2 [0,1,3,6,10,11,25] ?_
 refine A3 (fun ht25=>?_) (fun ht25=>?_)
 ·have hm:Cj a dd m row=([],(B4 dd row m.back).2):=if_pos ht25
  refine Z1 ?_;refine Sc 8 3 false ?_;refine A5 ?_;refine A2 [8,9] ?_;refine Z41 ?_;exact ABb
 have hm:Cj a dd m row=((a.map (Rf m.take (B4 dd row m.back).1 row dd)),0):=if_neg (by rw [ht25];simp)
 have hwl:=Mn (c:=dd) (row:=row) (l:=m.back) (by simpa using ht25)
 refine Z74 ?_;refine A2 [0,1,3,6,10,12] ?_;refine Z56 ?_;refine Pj 12 3 ?_;refine Z29 ?_;refine wh ?_
 refine Dp (α:=Nat) (fun x=>⟨59,Af 1 (Ax dd) (Af 3 (Cf row) (Af 6 (.ro (Ua m)) (Af 10 (Cf (B4 dd row m.back).1) (Af 12 (.slice true 3 (((a.map (Rf m.take (B4 dd row m.back).1 row dd)).take x).map Bp)) (Af 27 (Ax a) (Af 28 (A4 (a.length:Nat)) (Af 29 (A4 (x:Nat)) (fun _=>.any)))))))),Hp,[],[],none⟩) (fun x=>x≤a.length) (fun x=>a.length-x) (0) (Bc _) (Co (by simp)) rfl (fun x hx=>?_)
 refine Z2 ?_;refine A2 [1,3,6,10,12,27,28,29,30] ?_
 refine Dn (fun ht30=>?_) (fun ht30=>?_)
 ·have hlt:x<a.length:=by simpa using ht30
  have hol:((a.map (Rf m.take (B4 dd row m.back).1 row dd)).take x).length≤x:=List.length_take_le _ _
  have hon:(a.map (Rf m.take (B4 dd row m.back).1 row dd)).take (x+1)=(a.map (Rf m.take (B4 dd row m.back).1 row dd)).take x++[Rf m.take (B4 dd row m.back).1 row dd a[x]]:=by
   rw [Iv (by rw [Au];exact hlt),N3]
  refine Z92 ?_
  refine A5 (h:=Ap (x) (El a[x]) (fun _=>Bv hlt)) (hr:=?_)
  refine Vm ?_;refine A2 [1,3,6,10,12,14,27,28,29] ?_;refine Z59 ?_;refine A8 Tryz.call70 (c70 m.take a[x].name h.takes _) ?_;refine A5 ?_;refine A2 [1,3,6,10,12,14,15,27,28,29] ?_;refine Z1 ?_;refine A2 [1,3,6,10,12,14,15,27,28,29,39] ?_
  refine A3 (fun ht39=>?_) (fun ht39=>?_)
  ·have hj0:0≤Jl a[x].name m.take:=by simpa using ht39
   obtain ⟨j,hj,hjl⟩:=o5 hj0
   have hw:Rf m.take (B4 dd row m.back).1 row dd a[x]=(B4 dd row m.back).1.getD j noV:=by unfold Rf;rw [if_pos hj0,hj];rfl
   refine Es ?_;refine R.moveT ?_;refine Z0 ?_
   refine A5 (h:=Ap (j) (Bp ((B4 dd row m.back).1.getD j noV)) (fun _=>AE2 (by omega))) (hr:=?_)
   refine Z76 ?_
   refine Gq jU Tryz.type23 ?_ ?_ ?_
   ·simp only [Au,Da,Ao,At,B3,Tryz.t23];omega
   ·simp only [Au,Da,Ao,At,B3,Tryz.t23];omega
   refine Ji ?_;refine wh ?_;refine jb ?_;refine K.blE ?_;refine Ft ?_;refine Z19 ?_;refine wh ?_;refine jq ?_
   rw [hon,hw,Cr,C9,F9]
   exact Dk (own:=[]) (fun _=>.refl _) (by repeat (first|exact Bg|refine Bf (by first|exact Iu|exact Ep|exact Jz|exact Je|exact E3|exact G9|exact Low.ro _ L2|(simp [or_imp,forall_and];done)) ?_)) (by simp) (by simp)
  have hjn:¬0≤Jl a[x].name m.take:=by simpa using ht39
  obtain ⟨j,hj,hjl⟩:=hs a[x] (C4 hlt) hjn
  have hw:Rf m.take (B4 dd row m.back).1 row dd a[x]=row.getD j noV:=by unfold Rf;rw [if_neg hjn,hj];rfl
  refine Z6 ?_;refine jc ?_;refine Z69 ?_;refine A8 Tryz.call58 (c58 dd hd a[x].name _) ?_
  refine A5 (h:=Ap (j) (Bp (row.getD j noV)) (fun _=>AE2 (by omega))) (hr:=?_)
  refine Z76 ?_
  refine Gq jU Tryz.type23 ?_ ?_ ?_
  ·simp only [Au,Da,Ao,At,B3,Tryz.t23];omega
  ·simp only [Au,Da,Ao,At,B3,Tryz.t23];omega
  refine Ji ?_;refine wh ?_;refine Vn ?_;refine wh ?_;refine jq ?_
  rw [hon,hw,Cr,C9,F9]
  exact Dk (own:=[]) (fun _=>.refl _) (by repeat (first|exact Bg|refine Bf (by first|exact Iu|exact Ep|exact Jz|exact Je|exact E3|exact G9|exact Low.ro _ L2|(simp [or_imp,forall_and];done)) ?_)) (by simp) (by simp)
 have hxe:a.length≤x:=by simpa using ht30
 rw [Fa (by rw [Au];exact hxe)]
 refine Z39 ?_;refine Z13 ?_;refine A2 [8,9] ?_;refine Gn ?_;exact A7 (Aw A6 A6) ⟨by rw [hm],rfl⟩ (hlow:=by simpa using (Ep (n:=Hp.length) (k:=3) (o:=false) (l:=(a.map (Rf m.take (B4 dd row m.back).1 row dd)))))

theorem c17 (c:List Col) (hc:OkCols c) (hc2:c.length≤1000000) (l:List Mov) (h:OkMovs l) (row:List Val) (hrr:∀v∈row, -9223372036854775808≤v.n∧v.n≤9223372036854775807) (hrl:row.length≤1048576) (Hp:List AObj):AFun Tryz.prog 17 [Ax c,H2 l,Cf row] Hp (.tup [Cf (Ef c l row).1,A4 (Ef c l row).2]):=by
 refine Ak [.tmp 6,.tmp 7] [0,1,2] Tryz.func17 Tryz.ntmps17 (fun d=>?_)
 refine Z1 ?_;refine Xv ?_;refine Z1 ?_;refine A8 Tryz.call48 (c48 c hc hc2 l h _) ?_;refine Z82 ?_;refine A2 [0,1,2,8,9] ?_;refine Z34 ?_;refine Z9 ?_;refine C7 Tryz.call12 (fun hB=>c12 c hc row hrl _) ?_;refine Z64 ?_;refine A2 [1,2,8,26] ?_
 refine A3 (fun ht26=>?_) (fun ht26=>?_)
 ·have hm:Ef c l row=([],1):=if_pos ht26
  refine Z2 ?_;refine AB0 ?_;exact Z77
 have hm0:Ef c l row=fwM c l row l.length:=if_neg (by rw [ht26];simp)
 have h26:((Du c l).2 != 0)=false∧Gl c row=true:=by simpa using ht26
 obtain ⟨hmay,hst,hss⟩:=Kn h26.1
 have hR0:=O8 h26.2 hrr
 have hmvo:=Ov hmay
 have hlen:=h.len
 rw [hss]
 refine Z74 ?_;refine A8 Tryz.call49 (c49 row hrl _) ?_;refine A5 ?_;refine A2 [1,8,10] ?_;refine Z34 ?_;refine A2 [8,10,29,30,31] ?_
 refine Dp (α:=Nat) (fun x=>⟨51,Af 8 (Ll (D3 c l l.length)) (Af 10 (Cf (fwM c l row x).1) (Af 29 (H2 l) (Af 30 (A4 (l.length:Nat)) (Af 31 (A4 (x:Nat)) (fun _=>.any))))),Hp,[],[],none⟩) (fun x=>x≤l.length∧(fwM c l row x).2=0∧RowI (colsAt c l x) (fwM c l row x).1) (fun x=>l.length-x) (0) ⟨Bc _,rfl,hR0⟩ (Co (by simp [fwM])) rfl (fun x hx=>?_)
 refine Z2 ?_;refine A2 [8,10,29,30,31,32] ?_
 refine Dn (fun ht32=>?_) (fun ht32=>?_)
 ·have hlt:x<l.length:=by simpa using ht32
  obtain ⟨hxl,hfx,hR⟩:=hx
  obtain ⟨m,hm⟩:∃m,m=l[x]:=⟨_,rfl⟩
  have hml:l[x]? = some m:=by rw [hm];exact Ae hlt
  have hmx:(l.map Jn)[x]? = some (Jn m):=by rw [hm];exact Bv hlt
  have hmo:=h.each m (Az hml)
  have hmv:=hmvo m (Az hml)
  have hCx:=Gz hc (fun m hm=>h.each m hm) x
  have htn:=Ux hst hml
  refine Pk ?_
  refine A5 (h:=Ap (x) (Jn m) (fun _=>hmx)) (hr:=?_)
  refine dr ?_;refine A2 [8,10,11,12,29,30,31] ?_;refine Nk [0,0,3,7,0,0,63,127,255,255,511,2047] 11 Ar (by kernel_rfl) ?_;refine Z14 ?_
  refine B1 (h:=Ap (x) (Ax (colsAt c l x)) (fun _=>AD1 (O5 (by omega)))) (hr:=?_)
  refine Z35 ?_;refine D0 Tryz.call50 (c50 (colsAt c l x) hCx m hmo (fwM c l row x).1 hR.fine hR.len _) ?_;refine Z14 ?_;refine Z91 ?_;refine A5 ?_;refine A2 [8,9,10,29,30,31] ?_;refine Z1 ?_;refine A2 [8,9,10,29,30,31,47] ?_
  refine A3 (fun ht47=>?_) (fun ht47=>?_)
  ·have hm2:Ef c l row=([],(C2 (colsAt c l x) m (fwM c l row x).1).2):=by rw [hm0];exact ADb hml hfx (by simpa using ht47)
   refine Z1 ?_;refine AB0 ?_;refine Z97 ?_;exact A7 (Aw A6 A6) ⟨by rw [hm2]<;>rfl,rfl⟩
  have hnx:=Uy hml hfx
  have hok:(C2 (colsAt c l x) m (fwM c l row x).1).2=0:=by simpa using ht47
  have hRn:=T5 htn hmv (fun e he=>hmo.ahead.rng e he) hR hok
  refine Z68 ?_;refine A2 [8,10,29,30,31] ?_
  refine Cd (x+1) ⟨hlt,by rw [hnx];exact hok,by rw [hnx,It hml];exact hRn⟩ (by omega) ?_
  rw [hnx]
  exact Dk (own:=[]) (fun _=>.refl _) (by repeat (first|exact Bg|refine Bf (by first|exact Iu|exact Ep|exact Jz|exact Je|exact E3|exact G9|exact Low.ro _ L2|(simp [or_imp,forall_and];done)) ?_)) (by simp) (by simp)
 have hxe:x=l.length:=by simp at ht32;have:=hx.1;omega
 subst hxe
 have hm1:Ef c l row=((fwM c l row l.length).1,0):=by rw [hm0];exact Kt rfl hx.2.1
 refine Z39 ?_;refine Z13 ?_;refine Z30 ?_;exact A7 (Aw A6 A6) ⟨by rw [hm1],rfl⟩ (hlow:=by simpa using (Ep (n:=Hp.length) (k:=3) (o:=false) (l:=(fwM c l row l.length).1)))

/-! slices.Backward of moves. -/
theorem ANg (l0:Nat) (ms:List Mov) (hml:ms.length≤1048576) (U:Nat→List AObj) (N:Nat→Prop) (Z:List AObj→Prop) (hlen:∀k,(U k).length=(U 0).length) (hll:l0<(U 0).length)
  (hlw:∀k,∀x∈U k,ObjLow (U 0).length x) (h0:N 0)
  (hy:∀k m X,k<ms.length→ms[ms.length-1-k]? = some m→N k→AYield Tryz.prog l0 [A4 ((ms.length-1-k:Nat):Int),Jn m] (U k++X) (fun b H'=>(b=true∧N (k+1)∧H'=U (k+1)++X)∨(b=false∧∃V,H'=V++X∧V.length=(U 0).length∧(∀x∈V,ObjLow (U 0).length x)∧Z V)))
  (hR:N ms.length→Z (U ms.length)):ACall Tryz.prog 112 [.yield l0,.ro [H2 ms]] (U 0) (fun _ H'=>Z H'):=by
 refine Ak [] [0,1] Tryz.func112 Tryz.ntmps112 (fun d=>?_)
 refine Z1 ?_
 refine A5 (h:=Q.sub64 (h2:=fun _=>by simp only [Au];omega)) (hr:=?_)
 refine A5 ?_;refine A2 [0,1,3] ?_
 refine Dp (α:=Nat×Int) (fun s=>⟨19,Af 0 (.yield l0) (Af 1 (.ro [H2 ms]) (Af 3 (A4 s.2) (fun _=>.any))),U s.1,[],[],none⟩) (fun s=>s.1≤ms.length∧N s.1∧s.2=(ms.length:Int)-1-(s.1:Int)) (fun s=>ms.length-s.1) ((0,(ms.length:Int)-1)) ⟨Bc _,h0,by simp⟩ (Co (by simp)) rfl (fun s hs=>?_)
 obtain ⟨x,i⟩:=s
 obtain ⟨hx,hN,hi⟩:=hs
 dsimp only at hx hN hi ⊢
 refine Z31 ?_;refine A2 [0,1,3,8] ?_
 refine A3 (fun ht8=>?_) (fun ht8=>?_)
 ·have hlt:x<ms.length:=by simp at ht8;omega
  have hlt2:ms.length-1-x<ms.length:=by omega
  have hi2:i=((ms.length-1-x:Nat):Int):=by omega
  subst hi2
  refine Z6 ?_;refine Z22 ?_;refine Z18 ?_
  refine A5 (h:=Ap (ms.length-1-x) (Jn ms[ms.length-1-x]) (fun _=>Bv hlt2)) (hr:=?_)
  refine A5 ?_
  refine R.yield (l:=l0) (args:=[A4 ((ms.length-1-x:Nat):Int),Jn ms[ms.length-1-x]]) (hy x ms[ms.length-1-x] _ hlt (Ae hlt2) hN) ?_
  intro b V O hV hb
  have hVO:O=[]∧((b=true∧N (x+1)∧V=U (x+1))∨(b=false∧V.length=(U 0).length∧(∀y∈V,ObjLow (U 0).length y)∧Z V)):=by
   rcases hb with ⟨h1,h2,h3⟩|⟨h1,V',h2,h3,h4,h5⟩
   ·have h6:=N1 h3 (by rw [hV,hlen x,hlen (x+1)])
    exact ⟨h6.2,.inl ⟨h1,h2,h6.1⟩⟩
   obtain ⟨rfl,rfl⟩:=N1 h2 (by rw [hV,hlen x,h3])
   exact ⟨rfl,.inr ⟨h1,h3,h4,h5⟩⟩
  obtain ⟨rfl,hVO⟩:=hVO
  have hVl:V.length=(U 0).length:=by rw [hV,hlen x]
  have hVw:∀y∈V,ObjLow (U 0).length y:=by
   rcases hVO with ⟨_,_,rfl⟩|⟨_,_,h,_⟩
   ·exact hlw _
   exact h
  refine ⟨fun _=>by rw [hVl];exact hVw,fun o ho=>(by cases ho),?_⟩
  refine A5 ?_;refine A2 [0,1,3,18] ?_
  refine A3 (fun ht18=>?_) (fun ht18=>?_)
  ·have hZ:Z V:=by
    rcases hVO with ⟨h1,_,_⟩|⟨_,_,_,h⟩
    ·rw [h1] at ht18;cases ht18
    exact h
   refine px ?_;refine Jj ?_;exact A7 .nores (hp:=hZ)
  have hVn:N (x+1)∧V=U (x+1):=by
   rcases hVO with ⟨_,h2,h3⟩|⟨h1,_,_,_⟩
   ·exact ⟨h2,h3⟩
   rw [h1] at ht18;cases ht18
  obtain ⟨hN1,rfl⟩:=hVn
  refine Z68 ?_;refine A5 ?_;refine A2 [0,1,3] ?_
  refine Cd (x+1,((ms.length-1-x:Nat):Int)-1) ⟨hlt,hN1,by dsimp only;omega⟩ (by dsimp only;omega) ?_
  exact H4 rfl
 have hxe:x=ms.length:=by simp at ht8;omega
 refine jb ?_;refine K.lpE ?_;exact Ke .nores (hp:=by rw [hxe];exact hR (hxe ▸ hN))

theorem c69 (l:List Mov) (Hp:List AObj):AFun Tryz.prog 69 [H2 l] Hp (.fn (.func 112) [] [.ro [H2 l]]):=by
 refine Ak [.tmp 2] [0] Tryz.func69 Tryz.ntmps69 (fun d=>?_)
 refine Z84 ?_;refine wd ?_;exact AGu

theorem Xj {n k:Nat} {o:Bool} {l:List Val}:∀z∈[AV.slice o k (l.map Bp)],Low n z:=fun z hz=>by rw [B2.1 hz];exact Ep
/-- Where the way back stands behind k moves. -/
structure BkAt (c:List Col) (l:List Mov) (row:List Val) (k:Nat):Prop where
 ok:(bkM c l row k).2=0
 row:RowI (colsAt c l (l.length-k)) (bkM c l row k).1
theorem BkAt.zero {c:List Col} {l:List Mov} {row:List Val} (h:RowI (colsAt c l l.length) row):BkAt c l row 0:=⟨rfl,h⟩
theorem BkAt.fin {c:List Col} {l:List Mov} {row:List Val} (h:BkAt c l row l.length):bkM c l row l.length=((bkM c l row l.length).1,0):=Kt rfl h.ok
theorem BkAt.next {c:List Col} {l:List Mov} {row:List Val} {k:Nat} {m:Mov} (h:BkAt c l row k) (hk:k<l.length) (hm:l[l.length-1-k]? = some m) (hg:∀e∈m.back,Be Ci e=true) (he:(Cj (colsAt c l (l.length-1-k)) (colsAt c l (l.length-1-k+1)) m (bkM c l row k).1).2=0):BkAt c l row (k+1):=by
 have e:=Rg hm h.ok
 have hr:=h.row
 rw [show l.length-k=l.length-1-k+1 by omega] at hr
 refine ⟨by rw [e];exact he,?_⟩
 rw [e,show l.length-(k+1)=l.length-1-k by omega]
 exact AA3 hg hr he
theorem T6 {c:List Col} {l:List Mov} {row:List Val} (h:(((Du c l).2 != 0) || !Gl (colsAt c l l.length) row)=false):I9 c l row=bkM c l row l.length:=if_neg (by rw [h];simp)
theorem AJq {U:List AObj} {l a b c e:Nat} {x y X Y Z T:AObj} (h:U[l]? = some x) (ha:a≠l) (hb:b≠l) (hc:c≠l) (he:e≠l):(((((U.set l y).set a X).set b Y).set c Z).set e T)[l]? = some y:=by rw [D7 he];exact AGr h ha hb hc
theorem td (c:List Col) (l:List Mov):(Du c l).1.length≤l.length+1:=by
 unfold Du Q3
 repeat' split
 all_goals first|exact Bc _|exact Xe c l
theorem Zs {c:List Col} {l:List Mov} (h:((Du c l).2 != 0)=false):((Du c l).1.map Ax)[l.length]? = some (Ax (colsAt c l l.length))∧((((Du c l).1.map Ax).length:Nat):Int)-1=((l.length:Nat):Int):=by
 obtain ⟨_,_,hss⟩:=Kn h
 rw [hss]
 refine ⟨AD1 (O5 (Al _)),?_⟩
 rw [Au,Jf]
 omega
theorem c67 (l:List Mov) (Hp:List AObj):AFun Tryz.prog 67 [H2 l] Hp (.fn (.func 112) [] [.ro [H2 l]]):=by
 refine Ak [.tmp 2] [0] Tryz.func67 Tryz.ntmps67 (fun d=>?_)
 refine Z57 ?_;refine Z2 ?_;refine A8 Tryz.call69 (c69 l _) ?_;refine A5 ?_;exact AGu

theorem c31 (c:List Col) (hc:OkCols c) (hc2:c.length≤1000000) (l:List Mov) (h:OkMovs l) (row:List Val) (hrr:∀v∈row, -9223372036854775808≤v.n∧v.n≤9223372036854775807) (hrl:row.length≤1048576) (Hp:List AObj):AFun Tryz.prog 31 [Ax c,H2 l,Cf row] Hp (.tup [Cf (I9 c l row).1,A4 (I9 c l row).2]):=by
 refine Ak [.cell 6 28,.cell 7 35] [0,1,2] Tryz.func31 Tryz.ntmps31 (fun d=>?_)
 refine w7 ?_;refine A2 [0,1,2,6,7] ?_;refine Z1 ?_;refine A8 Tryz.call48 (c48 c hc hc2 l h _) ?_;refine Z62 ?_;refine Z16 ?_;refine I2 ?_;refine A2 [1,2,6,7,8,9] ?_;refine Z56 ?_
 have hlen:=h.len
 have hsl:((Du c l).1.map Ax).length≤2000000:=by rw [Au];have:=td c l;omega
 have hcn:=Gz hc (fun m hm=>h.each m hm) l.length
 refine Z29 ?_;refine Z47 ?_
 refine Ca (h:=Ap (l.length) (Ax (colsAt c l l.length)) (fun hB=>(Zs (by simpa using hB)).1) (hn:=fun hB=>(Zs (by simpa using hB)).2)) (hr:=?_)
 refine Z9 ?_;refine C7 Tryz.call12 (fun hB=>c12 (colsAt c l l.length) hcn row hrl _) ?_;refine Z64 ?_;refine A2 [1,2,6,7,8,9,31] ?_
 refine A3 (fun ht31=>?_) (fun ht31=>?_)
 ·have hm:I9 c l row=([],1):=if_pos ht31
  refine Es ?_;refine I2 ?_;refine Vl 0 3 ?_;refine I2 ?_;refine Z30 ?_;exact AH2
 have hm:=T6 ht31
 have h31:((Du c l).2 != 0)=false∧Gl (colsAt c l l.length) row=true:=by simpa using ht31
 obtain ⟨hmay,hst,hss⟩:=Kn h31.1
 have hmvo:=Ov hmay
 have hlen:=h.len
 have hR0:=O8 h31.2 hrr
 have hol:((D3 c l l.length).map Ax).length=l.length+1:=by rw [Au,Jf]
 rw [hss]
 refine Z74 ?_;refine A8 Tryz.call49 (c49 row hrl _) ?_;refine Z16 ?_;refine A2 [1,6,7,8,9,10] ?_;refine Z56 ?_
 refine Ii (fun hlow=>?_)
 refine A5 ?_;refine A8 Tryz.call67 (c67 l _) ?_;refine A2 [6,7,8,9,10,35] ?_;refine Ia ?_
 refine Kf (m:=5) Tryz.call112 (fun FR as' bd' hFR has hbd=>?_)
 have hFRl:∀s,Low (Hp.length+7) (FR s):=by
  intro s
  rw [hFR]
  refine L7 ?_
  revert s
  repeat (first|exact Bg|refine Bf (by first|(simp [oid,or_imp,forall_and];done)|exact Je|exact E3|exact Ep|(simp [oid,or_imp,forall_and];exact ⟨fun m _ a _=>Ab _ a,fun m _ a _=>Ab _ a⟩)|(simp [oid,or_imp,forall_and]<;>omega)) ?_)
 have hOl:∀{e e2:Int} {t:List Val} {lp:AObj},ObjLow (Hp.length+7) lp→∀x∈Hp++[AObj.cells 28 [AV.nil],AObj.cells 35 [A4 e],AObj.cells 59 [Ll (D3 c l l.length)],AObj.cells 35 [A4 e2],AObj.cells 28 [Cf (t)],AObj.defs,lp],ObjLow (Hp.length+7) x:=by
  intro e e2 t lp hlp x hx
  refine J1 (fun x hx=>Ld (by omega) (hlow x hx)) (fun x hx=>?_) x hx
  simp only [Bj,Ev,or_false] at hx
  rcases hx with rfl|rfl|rfl|rfl|rfl|rfl|rfl
  ·intro y hy;rw [B2.1 hy];simp
  ·intro y hy;rw [B2.1 hy];simp
  ·intro y hy;rw [B2.1 hy];exact G9
  ·intro y hy;rw [B2.1 hy];simp
  ·exact Xj
  ·trivial
  exact hlp
 refine ⟨_,ANg (oid Hp.length 6) l h.len (fun k=>Hp++[AObj.cells 28 [AV.nil],AObj.cells 35 [A4 0],AObj.cells 59 [Ll (D3 c l l.length)],AObj.cells 35 [A4 0],AObj.cells 28 [Cf ((bkM c l row k).1)],AObj.defs,AObj.loop LoopState.ready none FR 57 #[36,37] as' bd' (oid Hp.length 5)]) (BkAt c l row) (fun V=>(∃t,V=Hp++[AObj.cells 28 [AV.nil],AObj.cells 35 [A4 0],AObj.cells 59 [Ll (D3 c l l.length)],AObj.cells 35 [A4 0],AObj.cells 28 [Cf (t)],AObj.defs,AObj.loop LoopState.ready none FR 57 #[36,37] as' bd' (oid Hp.length 5)]∧I9 c l row=(t,0)∧RowI c t)∨(∃(e:Int) (t:List Val),V=Hp++[AObj.cells 28 [AV.nil],AObj.cells 35 [A4 e],AObj.cells 59 [Ll (D3 c l l.length)],AObj.cells 35 [A4 e],AObj.cells 28 [Cf (t)],AObj.defs,AObj.loop LoopState.done (some Code.ret) FR 57 #[36,37] as' bd' (oid Hp.length 5)]∧I9 c l row=([],e))) (fun k=>by simp) (by simp [oid]) (fun k=>(fun x hx=>by rw [Ao];exact hOl (lp:=AObj.loop LoopState.ready none FR 57 #[36,37] as' bd' (oid Hp.length 5)) (by exact ⟨hFRl,by simp [oid]⟩) x hx)) (.zero hR0) (fun k m X hk hm hN=>?_) (fun hN=>.inl ⟨_,rfl,by rw [T6 ht31];exact hN.fin,by have:=hN.row;rw [M5] at this;exact this⟩),?_⟩
 ·generalize hV:Hp++[AObj.cells 28 [AV.nil],AObj.cells 35 [A4 0],AObj.cells 59 [Ll (D3 c l l.length)],AObj.cells 35 [A4 0],AObj.cells 28 [Cf ((bkM c l row k).1)],AObj.defs,AObj.loop LoopState.ready none FR 57 #[36,37] as' bd' (oid Hp.length 5)]++X=V
  have hL:V[oid Hp.length 6]? = some (AObj.loop LoopState.ready none FR 57 #[36,37] as' bd' (oid Hp.length 5)):=by rw [←hV,B9,B0];rfl
  have hA0:V[oid Hp.length 0]? = some (AObj.cells 28 [AV.nil]):=by rw [←hV,B9,B0];rfl
  have hB0:V[oid Hp.length 1]? = some (AObj.cells 35 [A4 0]):=by rw [←hV,B9,B0];rfl
  have hS0:V[oid Hp.length 2]? = some (AObj.cells 59 [Ll (D3 c l l.length)]):=by rw [←hV,B9,B0];rfl
  have hE0:V[oid Hp.length 3]? = some (AObj.cells 35 [A4 0]):=by rw [←hV,B9,B0];rfl
  have hZ0:V[oid Hp.length 4]? = some (AObj.cells 28 [Cf (bkM c l row k).1]):=by rw [←hV,B9,B0];rfl
  refine K8 (pd:=none) (fr:=FR) (sz:=57) (ps:=#[36,37]) (df:=oid Hp.length 5) (asg:=as') (bd:=bd') hL rfl (by decide) (fun d=>?_)
  subst hFR has hbd
  refine Fu [6,7,8,9,10,36,37] ?_
  have hmo:=h.each m (Az hm)
  have hmv:=hmvo m (Az hm)
  have htn:=Ux hst hm
  have hcn:=It (c:=c) hm
  have hCo:=Gz hc (fun m hm=>h.each m hm) (l.length-1-k+1)
  have hCi:=Gz hc (fun m hm=>h.each m hm) (l.length-1-k)
  have herr:=fun hb=>ADc (row:=row) hk hm hN.ok hb
  have hnxt:=hN.next hk hm (fun e he=>hmo.back.rng e he)
  have htb:=Rg hm hN.ok
  have htl:=hN.row
  rw [show l.length-k=l.length-1-k+1 by omega] at htl
  have hik:l.length-1-k<l.length:=by omega
  have hsy:∀y∈colsAt c l (l.length-1-k),¬0≤Jl y.name m.take→∃j:Nat,Br y.name (colsAt c l (l.length-1-k+1))=j∧j<(colsAt c l (l.length-1-k+1)).length:=fun y hy hn=>by
   rw [hcn]
   exact AGf htn hy hn
  generalize l.length-1-k=i at *
  refine Z2 ?_;refine A2 [6,7,8,9,10,11,37] ?_;refine pq ?_;refine A2 [6,7,8,9,10,11,12] ?_
  refine ⟨rfl,none,hL,?_⟩
  generalize hbz:(AObj.loop LoopState.busy _ _ _ _ _ _ _)=bz
  have hA:(V.set (oid Hp.length 6) bz)[oid Hp.length 0]? = some (AObj.cells 28 [AV.nil]):=by rw [D7 (By (by decide))];exact hA0
  have hB:(V.set (oid Hp.length 6) bz)[oid Hp.length 1]? = some (AObj.cells 35 [A4 0]):=by rw [D7 (By (by decide))];exact hB0
  have hS:(V.set (oid Hp.length 6) bz)[oid Hp.length 2]? = some (AObj.cells 59 [Ll (D3 c l l.length)]):=by rw [D7 (By (by decide))];exact hS0
  have hE:(V.set (oid Hp.length 6) bz)[oid Hp.length 3]? = some (AObj.cells 35 [A4 0]):=by rw [D7 (By (by decide))];exact hE0
  have hZ:(V.set (oid Hp.length 6) bz)[oid Hp.length 4]? = some (AObj.cells 28 [Cf (bkM c l row k).1]):=by rw [D7 (By (by decide))];exact hZ0
  refine Ia ?_
  refine Hd [0,0,3,7,0,0,32,112,240,0,0,2047,4095,8191,8191,16383,65535] [15] [.q 14 [] [0],.q 1 [] [],.s [] (some 0) [] []] (fun B=>if B 0=true then ((V.set (oid Hp.length 6) bz).set (oid Hp.length 4) (AObj.cells 28 [Cf (Cj (colsAt c l i) (colsAt c l (i+1)) m (bkM c l row k).1).1])) else (V.set (oid Hp.length 6) bz)) (fun _=>[AObj.cells 48 (Ua m)]) Ar (by kernel_rfl) rfl rfl (fun B=>by split<;>simp) ?_
  apply Y.q
  ·intro B hT hF
   first|simp only [hF 0 (m3 0),Bd,if_false]|skip
   refine B1 (h:=Dz hS) (hr:=?_)
   refine B1 ?_
   refine B1 (h:=Ap (i) (Ax (colsAt c l i)) (fun _=>AD1 (O5 (by omega)))) (hr:=?_)
   refine B1 ?_
   refine B1 (h:=Dz hS) (hr:=?_)
   refine Z14 ?_
   refine B1 (h:=Ap ((i+1)) (Ax (colsAt c l (i+1))) (fun _=>AD1 (O5 (by omega)))) (hr:=?_)
   refine Z14 ?_
   refine B1 (h:=Dz hZ) (hr:=?_)
   refine D0 Tryz.call68 (c68 (colsAt c l i) (colsAt c l (i+1)) hCi.len hCo m hmo (Is (T0 hmv)).2 hsy (bkM c l row k).1 htl.fine htl.len _) ?_;refine Z14 ?_;exact bg
  case hTF=>decide
  apply Y.q
  ·intro B hT hF
   first|simp only [hF 0 (m3 0),Bd,if_false]|skip
   exact Z70
  case hTF=>decide
  refine bt (o:=oid Hp.length 4) (t':=28) (ys:=[Cf (Cj (colsAt c l i) (colsAt c l (i+1)) m (bkM c l row k).1).1]) (cs:=[Cf (bkM c l row k).1]) (cs':=[Cf (Cj (colsAt c l i) (colsAt c l (i+1)) m (bkM c l row k).1).1]) Tryz.sizeOf28 (fun B hB=>⟨by simp only [hB];exact hZ,by simp [upd,hB],rfl,Xj⟩) ?_
  refine He (tn:=[15]) (U:=((V.set (oid Hp.length 6) bz).set (oid Hp.length 4) (AObj.cells 28 [Cf (Cj (colsAt c l i) (colsAt c l (i+1)) m (bkM c l row k).1).1]))) ?_
  refine F4 jS (Ub hE (By (by decide))) ?_ ?_
  ·simp
  refine A2 [6,7,9] ?_;refine Es ?_
  have hE2:(((V.set (oid Hp.length 6) bz).set (oid Hp.length 4) (AObj.cells 28 [Cf (Cj (colsAt c l i) (colsAt c l (i+1)) m (bkM c l row k).1).1])).set (oid Hp.length 3) (AObj.cells 35 [A4 (Cj (colsAt c l i) (colsAt c l (i+1)) m (bkM c l row k).1).2]))[oid Hp.length 3]? = some (AObj.cells 35 [A4 (Cj (colsAt c l i) (colsAt c l (i+1)) m (bkM c l row k).1).2]):=getset (Ub hE (By (by decide)))
  refine A5 (h:=Dz hE2) (hr:=?_)
  refine A5 ?_;refine A2 [6,7,9,54] ?_
  refine A3 (fun ht54=>?_) (fun ht54=>?_)
  ·have herr:=herr (by simpa using ht54)
   refine Hd [0,0,3] [1] [.q 1 [] [],.s [] (some 0) [] []] (fun B=>if B 0=true then ((((V.set (oid Hp.length 6) bz).set (oid Hp.length 4) (AObj.cells 28 [Cf (Cj (colsAt c l i) (colsAt c l (i+1)) m (bkM c l row k).1).1])).set (oid Hp.length 3) (AObj.cells 35 [A4 (Cj (colsAt c l i) (colsAt c l (i+1)) m (bkM c l row k).1).2])).set (oid Hp.length 0) (AObj.cells 28 [AV.nil])) else (((V.set (oid Hp.length 6) bz).set (oid Hp.length 4) (AObj.cells 28 [Cf (Cj (colsAt c l i) (colsAt c l (i+1)) m (bkM c l row k).1).1])).set (oid Hp.length 3) (AObj.cells 35 [A4 (Cj (colsAt c l i) (colsAt c l (i+1)) m (bkM c l row k).1).2]))) (fun _=>[AObj.cells 48 (Ua m)]) Ar (by kernel_rfl) rfl rfl (fun B=>by split<;>simp) ?_
   apply Y.q
   ·intro B hT hF
    refine B1 (h:=Dz (show (if B 0=true then ((((V.set (oid Hp.length 6) bz).set (oid Hp.length 4) (AObj.cells 28 [Cf (Cj (colsAt c l i) (colsAt c l (i+1)) m (bkM c l row k).1).1])).set (oid Hp.length 3) (AObj.cells 35 [A4 (Cj (colsAt c l i) (colsAt c l (i+1)) m (bkM c l row k).1).2])).set (oid Hp.length 0) (AObj.cells 28 [AV.nil])) else (((V.set (oid Hp.length 6) bz).set (oid Hp.length 4) (AObj.cells 28 [Cf (Cj (colsAt c l i) (colsAt c l (i+1)) m (bkM c l row k).1).1])).set (oid Hp.length 3) (AObj.cells 35 [A4 (Cj (colsAt c l i) (colsAt c l (i+1)) m (bkM c l row k).1).2])))[oid Hp.length 3]? = some (AObj.cells 35 [A4 (Cj (colsAt c l i) (colsAt c l (i+1)) m (bkM c l row k).1).2]) by split;exact Ub hE2 (By (by decide));exact hE2)) (hr:=?_)
    exact bg
   case hTF=>decide
   refine bt (o:=oid Hp.length 0) (t':=28) (ys:=[.nil]) (cs:=[.nil]) (cs':=[.nil]) Tryz.sizeOf28 (fun B hB=>⟨by simp only [hB];exact Ub (Ub hA (By (by decide))) (By (by decide)),by simp [upd,hB],rfl,by simp⟩) ?_
   refine He (tn:=[1]) (U:=((((V.set (oid Hp.length 6) bz).set (oid Hp.length 4) (AObj.cells 28 [Cf (Cj (colsAt c l i) (colsAt c l (i+1)) m (bkM c l row k).1).1])).set (oid Hp.length 3) (AObj.cells 35 [A4 (Cj (colsAt c l i) (colsAt c l (i+1)) m (bkM c l row k).1).2])).set (oid Hp.length 0) (AObj.cells 28 [AV.nil]))) ?_
   refine F4 jS (Ub (Ub (Ub hB (By (by decide))) (By (by decide))) (By (by decide))) ?_ ?_
   ·simp
   refine A2 [] ?_;refine Gn ?_;refine K.blR ?_
   subst hbz
   refine K.rdR (AJq hL (By (by decide)) (By (by decide)) (By (by decide)) (By (by decide))) ?_
   refine .inr ⟨rfl,Hp++[AObj.cells 28 [AV.nil],AObj.cells 35 [A4 (Cj (colsAt c l i) (colsAt c l (i+1)) m (bkM c l row k).1).2],AObj.cells 59 [Ll (D3 c l l.length)],AObj.cells 35 [A4 (Cj (colsAt c l i) (colsAt c l (i+1)) m (bkM c l row k).1).2],AObj.cells 28 [Cf ((Cj (colsAt c l i) (colsAt c l (i+1)) m (bkM c l row k).1).1)],AObj.defs,_],?_,by simp,(fun x hx=>by rw [Ao];exact hOl (lp:=_) (by exact ⟨hFRl,by simp [oid]⟩) x hx),.inr ⟨_,_,rfl,by rw [T6 ht31];exact herr⟩⟩
   subst hV
   simp only [B9,Dy,Dd,Cz,List.set_cons_succ,List.set_cons_zero]
  have hB1:=hnxt (by simpa using ht54)
  refine L9 ?_;refine Kd ?_
  subst hbz
  refine qe ?_
  refine .inl ⟨rfl,hB1,?_⟩
  subst hV
  simp only [B9,Dy,Dd,Cz,List.set_cons_succ,List.set_cons_zero]
  rw [htb,show (Cj (colsAt c l i) (colsAt c l (i+1)) m (bkM c l row k).1).2=0 by simpa using ht54]
 rintro r H' (⟨t,rfl,hrun,_⟩|⟨e,t,rfl,hrun⟩)
 ·refine ⟨Hp,_,_,_,rfl,rfl,fun h=>h,?_,rfl,by simp,?_⟩
  ·intro o ho
   have:o=oid Hp.length 5:=by simpa using ho
   subst this
   rw [B0]
   rfl
  refine Z15 ?_;refine Z2 ?_;refine vn ?_;refine Z30 ?_;exact A7 (Aw (F5 jA) (F5 jA)) ⟨by rw [hrun],rfl⟩ (hlow:=by simp only [mc,Bj,Ev,or_false];rintro y (rfl|rfl);exact Ep;simp)
 refine ⟨Hp,_,_,_,rfl,rfl,fun h=>h,?_,rfl,by simp,?_⟩
 ·intro o ho
  have:o=oid Hp.length 5:=by simpa using ho
  subst this
  rw [B0]
  rfl
 refine W.nilOwn 0 3 ?_;refine px ?_;exact A7 (Aw (F5 jA) (F5 jA)) ⟨by rw [hrun];rfl,rfl⟩

theorem tg {x y:Expr} {p:Expr×Expr} (hp:Fi x y=some p):sizeE p.1<sizeE x:=by
 unfold Fi at hp
 cases ha:Jm x with
 | none=>rw [ha] at hp;cases hp
 | some s =>
  rw [ha] at hp
  simp only at hp
  cases hu:R6 x s y with
  | none=>rw [hu] at hp;cases hp
  | some z =>
   rw [hu] at hp
   simp only at hp
   split at hp
   ·injection hp with hp
    subst hp
    have:=Us (ct ha)
    rw [Gt x]
    show sizeE s.e<_
    omega
   cases hp
/-- Where peel stands. -/
structure PkN (x y:Expr) (k:Nat):Prop where
 eq:Eu (sizeE x) x y=Eu (sizeE x-k) (pkI x y k).1 (pkI x y k).2
 le:sizeE (pkI x y k).1≤sizeE x-k
theorem PkN.zero {x y:Expr}:PkN x y 0:=⟨rfl,Al _⟩
theorem PkN.next {x y:Expr} {k:Nat} {p:Expr×Expr} (h:PkN x y k) (h2:(pkI x y k).1.op≠2) (hs:Fi (pkI x y k).1 (pkI x y k).2=some p):PkN x y (k+1):=by
 have hl:=tg hs
 have hle:=h.le
 have e:=o0 h2 hs
 obtain ⟨m,hm⟩:∃m,sizeE x-k=m+1:=⟨sizeE x-k-1,by omega⟩
 have hm2:sizeE x-(k+1)=m:=by omega
 refine ⟨?_,?_⟩
 ·rw [h.eq,hm,Eu,if_neg (by simpa using h2),hs,hm2,e]
 rw [e,hm2];omega
theorem PkN.stop {x y:Expr} {k:Nat} (h:PkN x y k) (hs:(pkI x y k).1.op=2∨Fi (pkI x y k).1 (pkI x y k).2=none):Eu (sizeE x) x y=pkI x y k:=by
 rw [h.eq]
 cases sizeE x-k with
 | zero=>rfl
 | succ m =>
  rw [Eu]
  split
  ·rfl
  rename_i h2
  rcases hs with hs|hs
  ·exact absurd (by simpa using hs) h2
  rw [hs]
section
variable {x:Expr} {a b:Str}
theorem ANh (h:(((!Am x) || !Cx a) || !Cx b)=true):ofI x a b=none:=by unfold ofI;rw [Et,Et] at h;exact if_pos h
theorem ANi (h:(((!Am x) || !Cx a) || !Cx b)=false) (h2:(!(((Eu (sizeE x) x (Bb b)).1.op==2)&&((Eu (sizeE x) x (Bb b)).1.text==a)))=true):ofI x a b=none:=by
 unfold ofI
 rw [Et,Et] at h
 rw [if_neg (by rw [h];simp),if_neg (fun e=>by rw [e] at h2;cases h2)]
theorem ANj (h:(((!Am x) || !Cx a) || !Cx b)=false) (h2:(!(((Eu (sizeE x) x (Bb b)).1.op==2)&&((Eu (sizeE x) x (Bb b)).1.text==a)))=false):ofI x a b=some (Eu (sizeE x) x (Bb b)).2:=by
 unfold ofI
 rw [Et,Et] at h
 rw [if_neg (by rw [h];simp),if_pos (by simpa using h2)]
end
abbrev Y7:List AV:=[A4 0,Ah [],A4 0,A4 0,Ah [],.nil]
/-- What lies in out and ok ahead of round k. -/
def Xk (x y:Expr):Nat→List AV
 | 0=>Y7
 | k+1=>Bw (pkI x y k).2
def okP (x y:Expr) (a:Str):Nat→Bool
 | 0=>false
 | k+1=>((pkI x y k).1.op==2)&&((pkI x y k).1.text==a)
theorem AA5 {n:Nat} {x y:Expr}:∀k,ObjLow n (.cells 26 (Xk x y k))
 | 0=>Qz
 | k+1=>L1
theorem AA6 {x y e:Expr} {k:Nat}:Cc (Xk x y k) 0 (Bw e)=Bw e:=by cases k<;>rfl
theorem AA7 {x y:Expr}:∀k,(Xk x y k).length=6
 | 0=>rfl
 | k+1=>rfl
theorem c14 (n:Nat) (x:Expr) (hok:okE n x) (hn:n≤1048576) (hg:Be Ci x=true) (a b:Str) (ha:a.length≤1048576) (hb:b.length≤1048576) (Hp:List AObj):AFun Tryz.prog 14 [Aa x,Ah a,Ah b] Hp (.tup [Aa ((ofI x a b).getD A9),B6 (ofI x a b).isSome]):=by
 refine Ak [.cell 6 26,.tmp 7] [0,1,2] Tryz.func14 Tryz.ntmps14 (fun d=>?_)
 refine Z1 ?_;refine Z37 ?_;refine A2 [2,3,4,6] ?_;refine Z36 ?_;refine A8 Tryz.call38 (c38 n x hok hn _) ?_;refine dw ?_;refine C7 Tryz.call40 (fun hB=>c40 a ha _) ?_;refine Z38 ?_;refine Ca ?_;refine C7 Tryz.call40 (fun hB=>c40 b hb _) ?_;refine Z64 ?_;refine A2 [2,3,4,6,24] ?_
 refine A3 (fun ht24=>?_) (fun ht24=>?_)
 ·have hm:=ANh ht24
  refine Z28 ?_;refine Ek 25 _ G6 ?_;refine Z78 ?_;exact AGt
 have hro:=Lz (e:=x) (by rw [←Em];exact (show (Am x=true∧Cx a=true)∧Cx b=true by simpa using ht24).1.1)
 refine Z6 ?_;refine Z27 ?_;refine A2 [2,3,4,6,8] ?_;refine Es ?_
 refine Ii (fun hlow=>?_)
 have hpk:PkOk (x,(Bb b)):=⟨Gd (by decide) hro.1,hg,by show sizeE x≤_;have:=hro.2;omega,⟨by show b.length≤_;exact hb,by show ([]:List Expr).length≤_;decide,fun z hz=>by cases hz⟩⟩
 refine Z16 ?_;refine A2 [2,3,4,6,8,9] ?_;refine Jk ?_;refine Nk [0,0,2,7] 3 Ar (by kernel_rfl) ?_;refine Z14 ?_;refine D0 Tryz.call42 (c42 b _) ?_;refine Er ?_;refine R.callO Tryz.call41 (c41 x (Bb b) _) ?_
 rintro _ _ ⟨rfl,rfl⟩
 refine ⟨[.cells 26 (Bw x),.cells 26 (Bw (Bb b))],by simp,?_⟩
 rw [show oid (Hp++[AObj.cells 26 Y7,AObj.cells 26 Y7,AObj.cells 4 [B6 false]]).length 0=oid Hp.length 3 by simp [oid],show oid (Hp++[AObj.cells 26 Y7,AObj.cells 26 Y7,AObj.cells 4 [B6 false]]).length 1=oid Hp.length 4 by simp [oid]]
 simp only [Dd,Cz]
 refine A2 [4,6,8,9,29] ?_;refine Ia ?_
 refine Kf (m:=5) Tryz.call83 (fun FR as' bd' hFR has hbd=>?_)
 have hFRl:∀s,Low (Hp.length+7) (FR s):=by
  intro s
  rw [hFR]
  refine L7 ?_
  revert s
  repeat (first|exact Bg|refine Bf (by first|(simp [oid,or_imp,forall_and];done)|(simp [oid,or_imp,forall_and]<;>omega)) ?_)
 have hOl:∀(k:Nat) {ok:Bool} {u v:Expr} {lp:AObj},ObjLow (Hp.length+7) lp→∀z∈Hp++[AObj.cells 26 Y7,AObj.cells 26 (Xk x (Bb b) k),AObj.cells 4 [B6 (ok)],AObj.cells 26 (Bw u),AObj.cells 26 (Bw v),AObj.defs,lp],ObjLow (Hp.length+7) z:=by
  intro k ok u v lp hlp z hz
  refine J1 (fun z hz=>Ld (by omega) (hlow z hz)) (fun z hz=>?_) z hz
  simp only [Bj,Ev,or_false] at hz
  rcases hz with rfl|rfl|rfl|rfl|rfl|rfl|rfl
  ·exact Qz
  ·exact AA5 k
  ·intro y hy;rw [B2.1 hy];simp
  ·exact L1
  ·exact L1
  ·trivial
  exact hlp
 refine ⟨_,c83 (oid Hp.length 6) (oid Hp.length 3) (oid Hp.length 4) x (Bb b) hpk (fun k=>Hp++[AObj.cells 26 Y7,AObj.cells 26 (Xk x (Bb b) k),AObj.cells 4 [B6 (okP x (Bb b) a k)],AObj.cells 26 (Bw (pkI x (Bb b) k).1),AObj.cells 26 (Bw (pkI x (Bb b) k).2),AObj.defs,AObj.loop LoopState.ready none FR 46 #[30,31] as' bd' (oid Hp.length 5)]) (fun k=>Hp++[AObj.cells 26 Y7,AObj.cells 26 (Xk x (Bb b) (k+1)),AObj.cells 4 [B6 (okP x (Bb b) a (k+1))],AObj.cells 26 (Bw (pkI x (Bb b) k).1),AObj.cells 26 (Bw (pkI x (Bb b) k).2),AObj.defs,AObj.loop LoopState.ready none FR 46 #[30,31] as' bd' (oid Hp.length 5)]) (PkN x (Bb b)) (fun V=>∃u v:Expr,V=Hp++[AObj.cells 26 Y7,AObj.cells 26 (Bw (Eu (sizeE x) x (Bb b)).2),AObj.cells 4 [B6 ((((Eu (sizeE x) x (Bb b)).1.op==2)&&((Eu (sizeE x) x (Bb b)).1.text==a)))],AObj.cells 26 (Bw u),AObj.cells 26 (Bw v),AObj.defs,AObj.loop LoopState.ready none FR 46 #[30,31] as' bd' (oid Hp.length 5)]) (fun k=>by simp) (fun k=>by simp) (by simp [oid]) (by simp [oid]) (by simp [oid]) (By (by decide)) (fun k=>(fun z hz=>by rw [Ao];exact hOl k (lp:=AObj.loop LoopState.ready none FR 46 #[30,31] as' bd' (oid Hp.length 5)) (by exact ⟨hFRl,by simp [oid]⟩) z hz)) (fun k=>(fun z hz=>by rw [Ao];exact hOl (k+1) (lp:=AObj.loop LoopState.ready none FR 46 #[30,31] as' bd' (oid Hp.length 5)) (by exact ⟨hFRl,by simp [oid]⟩) z hz)) .zero (fun k=>by rw [B0];rfl) (fun k=>by rw [B0];rfl) (fun k=>by rw [B0];rfl) (fun k=>by rw [B0];rfl) (fun k=>by simp only [B9,Dy,Dd,Cz,List.set_cons_succ,List.set_cons_zero]) (fun k X hN=>?_) (fun k p hN h2 hs=>hN.next h2 hs) (fun k z hN hs=>?_),?_⟩
 rotate_left
 ·have e:=hN.stop hs
  refine ⟨⟨(pkI x (Bb b) k).1,(pkI x (Bb b) k).2,?_⟩,⟨(pkI x (Bb b) k).1,z,?_⟩⟩
  ·rw [e];rfl
  simp only [B9,Dy,Dd,Cz,List.set_cons_succ,List.set_cons_zero]
  rw [e];rfl
 rotate_left
 ·generalize hV:Hp++[AObj.cells 26 Y7,AObj.cells 26 (Xk x (Bb b) k),AObj.cells 4 [B6 (okP x (Bb b) a k)],AObj.cells 26 (Bw (pkI x (Bb b) k).1),AObj.cells 26 (Bw (pkI x (Bb b) k).2),AObj.defs,AObj.loop LoopState.ready none FR 46 #[30,31] as' bd' (oid Hp.length 5)]++X=V
  have hL:V[oid Hp.length 6]? = some (AObj.loop LoopState.ready none FR 46 #[30,31] as' bd' (oid Hp.length 5)):=by rw [←hV,B9,B0];rfl
  have hA0:V[oid Hp.length 1]? = some (AObj.cells 26 (Xk x (Bb b) k)):=by rw [←hV,B9,B0];rfl
  have hB0:V[oid Hp.length 2]? = some (AObj.cells 4 [B6 (okP x (Bb b) a k)]):=by rw [←hV,B9,B0];rfl
  refine K8 (pd:=none) (fr:=FR) (sz:=46) (ps:=#[30,31]) (df:=oid Hp.length 5) (asg:=as') (bd:=bd') hL rfl (by decide) (fun d=>?_)
  subst hFR has hbd
  refine Fu [4,8,9,30,31] ?_
  generalize hXk:(pkI x (Bb b) k).1=xk
  generalize hYk:(pkI x (Bb b) k).2=yk
  refine pt ?_;refine A2 [4,8,9,10,31] ?_;refine pq ?_;refine A2 [4,8,9,10,11] ?_
  refine ⟨rfl,none,hL,?_⟩
  generalize hbz:(AObj.loop LoopState.busy _ _ _ _ _ _ _)=bz
  have hA:(V.set (oid Hp.length 6) bz)[oid Hp.length 1]? = some (AObj.cells 26 (Xk x (Bb b) k)):=by rw [D7 (By (by decide))];exact hA0
  have hB:(V.set (oid Hp.length 6) bz)[oid Hp.length 2]? = some (AObj.cells 4 [B6 (okP x (Bb b) a k)]):=by rw [D7 (By (by decide))];exact hB0
  refine Ia ?_
  refine W.drawY0 [0,0,2,6,14,30,62,30,254,510,31,2047] [10] [.q 10 [] [],.s [] (some 0) [] []] (fun B=>(V.set (oid Hp.length 6) bz).set (oid Hp.length 1) (if B 0=true then AObj.cells 26 (Bw yk) else AObj.cells 26 (Xk x (Bb b) k))) (fun _=>[AObj.cells 26 (Bw xk),AObj.cells 26 (Bw yk)]) Ar (by kernel_rfl) (by simp only [Bd,if_false];exact J8 hA) rfl (fun B=>by simp) ?_
  apply Y.q
  ·intro B hT hF
   refine bb ?_;refine Z67 ?_;refine Z67 ?_;exact Z70
  case hTF=>decide
  refine bt (o:=oid Hp.length 1) (t':=26) (ys:=Bw yk) (cs:=Xk x (Bb b) k) (cs':=Bw yk) Tryz.sizeOf26 (fun B hB=>⟨by simp only [hB];exact getset hA,by simp only [upd,if_true,Eb],rfl,L1 (t:=26)⟩) ?_ (hfit:=by rw [AA7];decide) (hput:=AA6)
  refine He (tn:=[10]) (U:=((V.set (oid Hp.length 6) bz).set (oid Hp.length 1) (AObj.cells 26 (Bw yk)))) ?_
  refine F4 jS (Ub hB (By (by decide))) ?_ ?_
  ·simp
  refine Xr ?_
  subst hbz
  refine qe ?_
  refine ⟨rfl,?_⟩
  subst hXk hYk
  subst hV
  simp only [B9,Dy,Dd,Cz,List.set_cons_succ,List.set_cons_zero]
  rfl
 rintro r H' ⟨u,v,rfl⟩
 refine ⟨Hp,_,_,_,rfl,rfl,fun h=>h,?_,rfl,by simp,?_⟩
 ·intro o ho
  have:o=oid Hp.length 5:=by simpa using ho
  subst this
  rw [B0]
  rfl
 refine Z15 ?_;refine Z31 ?_;refine A2 [6,8,43] ?_
 refine A3 (fun ht43=>?_) (fun ht43=>?_)
 ·have hm:=ANi ht24 ht43
  refine Z28 ?_;refine Ek 44 _ G6 ?_;refine Z78 ?_;exact AGt
 have hm:=ANj ht24 ht43
 refine Z74 ?_;refine Z78 ?_;exact A7 (Aw (As jA jS) A6) ⟨by rw [hm];simp only [Option.getD_some,Ad];try rfl,rfl⟩ (hlow:=by simp [or_imp,forall_and,Ab])

theorem c33 (s:Str) (hs:s.length≤1048576) (hcl:∀n Dv,n≤30→DeepC (Eg s).1 Dv n→Z8 (Eg s).1 Dv n) (Hp:List AObj):AFun Tryz.prog 33 [Ah s] Hp (.tup [Aa (I7 s).1,.agg [A4 (I7 s).2.1,A4 (I7 s).2.2]]):=by
 refine Ak [.cell 2 26,.cell 3 69] [0] Tryz.func33 Tryz.ntmps33 (fun d=>?_)
 refine w7 ?_;refine A2 [0,2,3] ?_;refine Z2 ?_;refine A8 Tryz.call71 (c71 s hs _) ?_;refine Z29 ?_;refine AGs ?_;refine bf ?_;refine Z34 ?_;refine A2 [2,3,4,5,15] ?_
 refine A3 (fun ht15=>?_) (fun ht15=>?_)
 ·have e:I7 s=(A9,(Eg s).2.1,((Eg s).2.2:Int)):=if_pos ht15
  refine Hd [0,0,1,7] [2] [.q 2 [] [],.s [] (some 0) [] []] (fun _=>Hp) (fun _=>[.cells 26 [A4 0,Ah [],A4 0,A4 0,Ah [],.nil],.cells 69 [A4 0,A4 0],.cells 69 [A4 (Eg s).2.1,A4 ((Eg s).2.2:Nat)]]) Ar (by kernel_rfl) rfl rfl (fun _=>rfl) ?_
  apply Y.q
  ·intro B hT hF
   exact AGy
  case hTF=>decide
  refine Z96 ?_;refine AAz ?_;refine Z25 ?_;exact AE9
 have e0:¬((Eg s).2.1 != 0)=true:=by rw [ht15];simp
 have hz:(Eg s).2.1=0:=by simpa using ht15
 have hle:=mu hz
 have hlen:=n8 hz
 have hpos:=hle.pos
 refine Z74 ?_
 refine A8 Tryz.call72 (c72 (Eg s).1 0 hpos hle (by have:=hlen;omega) hcl _) ?_
 refine Z69 ?_;refine Ka jZ ?_;refine Z7 ?_;refine I2 ?_;refine A2 [2,3,4,5,6,7] ?_;refine Z34 ?_;refine A2 [2,3,4,5,6,7,26] ?_
 refine A3 (fun ht26=>?_) (fun ht26=>?_)
 ·have e:I7 s=(A9,(atM (Eg s).1 0).2.2.1,(atM (Eg s).1 0).2.2.2):=by unfold I7 cj;rw [if_neg e0,if_pos ht26]
  refine Hd [0,0,1,7] [2] [.q 2 [] [],.s [] (some 0) [] []] (fun _=>Hp) (fun _=>[.cells 26 [A4 0,Ah [],A4 0,A4 0,Ah [],.nil],.cells 69 [A4 0,A4 0],.cells 69 [A4 (atM (Eg s).1 0).2.2.1,A4 (atM (Eg s).1 0).2.2.2],.cells 26 (Bw (atM (Eg s).1 0).1)]) Ar (by kernel_rfl) rfl rfl (fun _=>rfl) ?_
  apply Y.q
  ·intro B hT hF
   exact AGy
  case hTF=>decide
  refine Z96 ?_;refine AAz ?_;refine Z25 ?_;exact AE9
 have e1:¬((atM (Eg s).1 0).2.2.1 != 0)=true:=by rw [ht26];simp
 obtain ⟨k,hk0,hk⟩:=ACa hle (by omega) hpos (show (atM (Eg s).1 0).2.2.1=0 by simpa using ht26)
 have hkt:(atM (Eg s).1 0).2.1.toNat=k:=by rw [hk0];simp
 rw [hk0]
 refine Z6 ?_;refine Z31 ?_
 refine A5 (h:=Ap (k) (Ko (Av (Eg s).1 k)) (fun _=>Sh hk)) (hr:=?_)
 refine Z29 ?_;refine A2 [2,3,4,6,7,34] ?_
 refine A3 (fun ht34=>?_) (fun ht34=>?_)
 ·have e:I7 s=(A9,8,((Av (Eg s).1 k).at_:Int)):=by unfold I7 cj;rw [if_neg e0,if_neg e1,hkt,if_pos ht34]
  refine Hd [0,0,0,6,14,30,62,1,255] [7] [.q 7 [] [],.s [] (some 0) [] []] (fun _=>Hp) (fun _=>[.cells 26 [A4 0,Ah [],A4 0,A4 0,Ah [],.nil],.cells 69 [A4 0,A4 0],.cells 69 [A4 (atM (Eg s).1 0).2.2.1,A4 (atM (Eg s).1 0).2.2.2],.cells 26 (Bw (atM (Eg s).1 0).1)]) Ar (by kernel_rfl) rfl rfl (fun _=>rfl) ?_
  apply Y.q
  ·intro B hT hF
   refine AEe ?_
   refine B1 (h:=Ap (k) (Ko (Av (Eg s).1 k)) (fun _=>Sh hk)) (hr:=?_)
   refine Z14 ?_;exact AEb
  case hTF=>decide
  refine AEv ?_;refine He (tn:=[7])  ?_;refine AAz ?_;refine Z25 ?_;exact AE9
 have e:I7 s=((atM (Eg s).1 0).1,0,0):=by unfold I7 cj;rw [if_neg e0,if_neg e1,hkt,if_neg (by rw [ht34];simp)]
 refine Z74 ?_;refine jn ?_;refine vn ?_;refine Z25 ?_;exact A7 (Aw (As jA jS) (As jA jS)) ⟨by rw [e,Ad]<;>rfl,rfl⟩ (hlow:=by have:=low_agg (n:=Hp.length) (atM (Eg s).1 0).1;simp at this ⊢;exact this)

/-! The chapter's example. -/
theorem ANk (s:Str) (hs:s.length≤1048576) (Hp:List AObj):AFun Tryz.prog 33 [Ah s] Hp (.tup [Aa (I7 s).1,.agg [A4 (I7 s).2.1,A4 (I7 s).2.2]]):=by
 by_cases h:(Eg s).2.1=0
 ·exact c33 s hs (fun n Dv hn hd=>s8 (mu h) (by have:=n8 h;omega) n Dv hn hd) Hp
 refine c33 s hs (fun n Dv hn hd=>?_) Hp
 intro o Hp S t ho hi hS ht hop
 have:(Eg s).1=[]:=by
  unfold Eg at h ⊢
  split
  ·rfl
  rename_i h4
  rw [if_neg h4] at h
  cases hf:(Ce s).find? (fun it=>it.2 != 0) with
  | some it=>rfl
  | none=>rw [hf] at h;exact absurd rfl h
 rw [this] at hi
 cases hi
def iS:Str:=[115,116,114,40,49,48,32,45,32,97,41]
def iX:Expr:=E4 Ml [Ha (Dl ⟨1,10,[]⟩) [45] (Bb [97])]
def iY:Expr:=Ha (Dl ⟨1,10,[]⟩) [45] (E4 cp [Bb [98]])
theorem ADd:I7 iS=(iX,0,0):=by kernel_rfl
theorem ANl:ofI iX [97] [98]=some iY:=by kernel_rfl
theorem AGg:Tv iY=([49,48,32,45,32,110,117,109,40,98,41],0):=by kernel_rfl
theorem AJr:okE 30 iX:=(Lz (by kernel_rfl)).1
theorem AJs:okE 30 iY:=(Lz (by kernel_rfl)).1
theorem i_p (Hp:List AObj):AFun Tryz.prog 33 [Ah iS] Hp (.tup [Aa iX,.agg [A4 0,A4 0]]):=by
 have:=ANk iS (by decide) Hp
 rwa [ADd] at this
theorem i_o (Hp:List AObj):AFun Tryz.prog 14 [Aa iX,Ah [97],Ah [98]] Hp (.tup [Aa iY,B6 true]):=by
 have:=c14 30 iX AJr (by decide) (by kernel_rfl) [97] [98] (by decide) (by decide) Hp
 rwa [ANl] at this
theorem i_s (Hp:List AObj):AFun Tryz.prog 34 [Aa iY] Hp (.tup [Ah [49,48,32,45,32,110,117,109,40,98,41],A4 0]):=by
 have:=c34 30 iY AJs (by decide) (by kernel_rfl) Hp
 rwa [AGg] at this
/-- What peel makes is in range. -/
theorem AA8 {o:Int} {t:Str} {k:List Expr} (h:∀e∈k,Be Ci e=true):Be Ci (.mk o t noV k)=true:=by
 rw [Db,Ai]
 exact ⟨rfl,(Bk _ _).2 h⟩
theorem ib {v:Val} (h0 : -9223372036854775808≤v.n) (h1:v.n≤9223372036854775807):Be Ci (Dl v)=true:=by
 rw [Db,Ai]
 refine ⟨?_,rfl⟩
 unfold Ci
 simp only [Ai,decide_eq_true_eq]
 exact ⟨h0,h1⟩
theorem AA9 {x y:Expr} {p:Expr×Expr} (hn:Be Cb x=true) (hx:Be Ci x=true) (hy:Be Ci y=true) (hp:Fi x y=some p):Be Cb p.1=true∧Be Ci p.1=true∧Be Ci p.2=true:=by
 have hn0:=hn
 have hx0:=hx
 rw [Db,Ai] at hn0 hx0
 unfold Fi at hp
 cases ha:Jm x with
 | none=>rw [ha] at hp;cases hp
 | some s =>
  rw [ha] at hp
  simp only at hp
  cases hu:R6 x s y with
  | none=>rw [hu] at hp;cases hp
  | some z =>
   rw [hu] at hp
   simp only at hp
   split at hp
   ·injection hp with hp
    subst hp
    have hk:=ct ha
    refine ⟨(Bk _ _).1 hn0.2 _ hk,(Bk _ _).1 hx0.2 _ hk,?_⟩
    show Be Ci z=true
    have two:∀{t:Str} {o:Int} {a b:Expr},Be Ci a=true→Be Ci b=true→Be Ci (.mk o t noV [a,b])=true:=@fun t o a b h1 h2=>AA8 (fun e he=>by
     have he:e=a∨e=b:=by simpa using he
     rcases he with rfl|rfl
     ·exact h1
     exact h2)
    have one:∀{t:Str} {o:Int},Be Ci (.mk o t noV [y])=true:=@fun t o=>AA8 (fun e he=>by rw [B2.1 he];exact hy)
    have hc:∀{k:Int} {w:Val},O0 s.c k=some w→Fine w:=@fun k w h=>by
     rcases L0 ha with e|⟨e,_⟩|⟨e,_⟩
     ·have hz:s.c=A9:=by
       unfold Jm at ha
       rw [e] at ha
       simp only at ha
       split at ha
       ·injection ha with ha;rw [←ha]
       cases ha
      rw [hz] at h
      unfold O0 at h
      have hr:Am A9=false:=by kernel_rfl
      rw [hr] at h
      simp at h
     ·have hin:s.c∈x.kids:=by rw [e];simp
      exact AIc
     have hin:s.c∈x.kids:=by rw [e];simp
     exact AIc
    unfold R6 at hu
    split at hu
    ·injection hu with hu;rw [←hu];exact one
    split at hu
    ·injection hu with hu;rw [←hu];exact one
    split at hu
    ·unfold yy at hu
     split at hu
     ·cases hu
     rename_i w hw
     have fw:=hc hw
     have rv:=ib fw.lo fw.hi
     injection hu with hu
     rw [←hu]
     repeat' split
     ·exact two hy rv
     ·exact two rv hy
     exact two hy rv
    split at hu
    ·unfold gi at hu
     split at hu
     ·cases hu
     rename_i w hw
     have fw:=(hc hw).len
     injection hu with hu
     rw [←hu]
     exact two hy (two one (ib (by show _≤((w.s.length:Nat):Int);omega) (by show ((w.s.length:Nat):Int)≤_;omega)))
    cases hu
   cases hp
theorem ic:∀(n:Nat) (x y:Expr),Be Cb x=true→Be Ci x=true→Be Ci y=true→Be Ci (Eu n x y).2=true
 | 0,_,_,_,_,h=>h
 | n+1,x,y,hn,hx,h=>by
  rw [Eu]
  split
  ·exact h
  split
  ·exact h
  rename_i p hp
  obtain ⟨a,b,c⟩:=AA9 hn hx h hp
  exact ic n p.1 p.2 a b c
theorem ie {x:Expr} {a b:Str} {y:Expr} (hg:Be Ci x=true) (h:ofI x a b=some y):Am x=true∧Am y=true∧Be Ci y=true:=by
 unfold ofI at h
 split at h
 ·cases h
 rename_i h0
 simp only [Rk,Fe,K1] at h0
 split at h
 ·injection h with h
  rw [←h]
  exact ⟨h0.1.1,Mm _ _ _ (by rw [Mg];exact h0.2),ic _ _ _ (Ip (by rw [←Em];exact h0.1.1)) hg rfl⟩
 cases h
theorem c8 (Hp:List AObj):AFun Tryz.prog 8 [] Hp (B6 true):=by
 refine Ak [.tmp 0] [] Tryz.func8 Tryz.ntmps8 (fun d=>?_)
 refine Z2 ?_;refine A2 [] ?_;refine Es ?_;refine A8 Tryz.call33 (i_p _) ?_;refine Z62 ?_;refine Z16 ?_;refine I2 ?_;refine A2 [1,2] ?_;refine Z2 ?_;refine A8 Tryz.call14 (i_o _) ?_;refine No ?_;refine A2 [2,3,4] ?_;refine Z2 ?_;refine A8 Tryz.call34 (i_s _) ?_;refine Z82 ?_;refine A2 [2,4,5,6] ?_;refine Z18 ?_;refine Z38 ?_;refine Z9 ?_;refine S3 ?_;refine Z0 ?_;refine A2 [0] ?_;refine Gn ?_;exact qb

/-- sound.Check. -/
def Ge (c:List Col) (l:List Mov):Int×Int:=if Mz c l then (((Cq c l).1.length-1:Nat),(Cq c l).2) else (0,1)
theorem ADe {c:List Col} {ms:List Mov} {k:Nat} {m:Mov} (hk:ms[k]? = some m) (h:NS c ms k) (he:(Bn (colsAt c ms k) m).2≠0):(Cq c ms).1.length=k+1:=by
 unfold NS at h
 rw [h,Xa hk,Cq,if_pos (by simpa using he)]
 have:=Jf c ms k
 simp [this]
theorem th {c:List Col} {l:List Mov} (h:Mz c l=false):Ge c l=(0,1):=if_neg (by rw [h];simp)
theorem tj {c:List Col} {l:List Mov} (h:Mz c l=true) (hr:Cq c l=(D3 c l l.length,0)):Ge c l=((l.length:Int),0):=by
 unfold Ge
 rw [if_pos h,hr]
 simp only [Jf]
 rfl
theorem lr {c:List Col} {l:List Mov} {n:Nat} {e:Int} (h:Mz c l=true) (h1:(Cq c l).1.length=n+1) (h2:(Cq c l).2=e):Ge c l=((n:Int),e):=by
 unfold Ge
 rw [if_pos h,h1,h2]
 rfl
theorem c59 (c:List Col) (hc:OkCols c) (hc2:c.length≤1000000) (l:List Mov) (h:OkMovs l) (Hp:List AObj):AFun Tryz.prog 59 [Ax c,H2 l] Hp (.tup [A4 (Ge c l).1,A4 (Ge c l).2]):=by
 refine Ak [.cell 4 3,.cell 5 35] [0,1] Tryz.func59 Tryz.ntmps59 (fun d=>?_)
 refine w7 ?_;refine A2 [0,1,4,5] ?_;refine Z31 ?_;refine A8 Tryz.call92 (c92 c hc l h _) ?_;refine A5 ?_;refine A2 [0,1,4,5,12] ?_
 refine A3 (fun ht12=>?_) (fun ht12=>?_)
 ·have hm:=th (by simpa using ht12)
  refine Es ?_;refine vn ?_;refine Z12 ?_;exact AH2
 have hmay:Mz c l=true:=by simpa using ht12
 obtain ⟨hmv,hl8⟩:=zv hmay h
 refine ba ?_;refine Z16 ?_;refine A2 [0,1,4,5,6] ?_;refine Z56 ?_
 refine Ii (fun hlow=>?_)
 refine Z0 ?_;refine R.callO Tryz.call94 (c94 c l _) ?_
 rintro _ _ ⟨rfl,rfl⟩
 refine ⟨[.cells 27 [Ax c]],by simp,?_⟩
 rw [show oid (Hp++[AObj.cells 3 [A4 0],AObj.cells 35 [A4 0],AObj.cells 3 [A4 0]]).length 0=oid Hp.length 3 by simp [oid]]
 simp only [Dd,Cz]
 refine A2 [4,5,6,15] ?_;refine Ia ?_
 refine Kf (m:=4) Tryz.call143 (fun FR as' bd' hFR has hbd=>?_)
 have hFRl:∀s,Low (Hp.length+6) (FR s):=by
  intro s
  rw [hFR]
  refine L7 ?_
  revert s
  repeat (first|exact Bg|refine Bf (by first|(simp [oid,or_imp,forall_and];done)|(simp [oid,or_imp,forall_and];exact ⟨fun m _ a _=>Ab _ a,fun m _ a _=>Ab _ a⟩)|(simp [oid,or_imp,forall_and]<;>omega)) ?_)
 have hOl:∀{n e k:Int} {q:List Col} {lp:AObj},ObjLow (Hp.length+6) lp→∀x∈Hp++[AObj.cells 3 [A4 n],AObj.cells 35 [A4 e],AObj.cells 3 [A4 k],AObj.cells 27 [Ax (q)],AObj.defs,lp],ObjLow (Hp.length+6) x:=by
  intro n e k q lp hlp x hx
  refine J1 (fun x hx=>Ld (by omega) (hlow x hx)) (fun x hx=>?_) x hx
  simp only [Bj,Ev,or_false] at hx
  rcases hx with rfl|rfl|rfl|rfl|rfl|rfl
  ·intro y hy;rw [B2.1 hy];simp
  ·intro y hy;rw [B2.1 hy];simp
  ·intro y hy;rw [B2.1 hy];simp
  ·intro y hy;rw [B2.1 hy];exact E3
  ·trivial
  exact hlp
 refine ⟨_,c143 (oid Hp.length 5) (oid Hp.length 3) l hmv (by omega) (colsAt c l) (Gz hc fun m hm=>h.each m hm) (fun k=>Hp++[AObj.cells 3 [A4 0],AObj.cells 35 [A4 0],AObj.cells 3 [A4 (k:Int)],AObj.cells 27 [Ax (colsAt c l k)],AObj.defs,AObj.loop LoopState.ready none FR 25 #[16,17] as' bd' (oid Hp.length 4)]) (fun k=>Hp++[AObj.cells 3 [A4 0],AObj.cells 35 [A4 0],AObj.cells 3 [A4 ((k+1:Nat):Int)],AObj.cells 27 [Ax (colsAt c l k)],AObj.defs,AObj.loop LoopState.ready none FR 25 #[16,17] as' bd' (oid Hp.length 4)]) (NS c l) (fun V=>(∃(q:List Col),V=Hp++[AObj.cells 3 [A4 0],AObj.cells 35 [A4 0],AObj.cells 3 [A4 (l.length:Int)],AObj.cells 27 [Ax (q)],AObj.defs,AObj.loop LoopState.ready none FR 25 #[16,17] as' bd' (oid Hp.length 4)]∧Cq c l=(D3 c l l.length,0))∨(∃(e:Int) (n:Nat) (q:List Col),V=Hp++[AObj.cells 3 [A4 (n:Int)],AObj.cells 35 [A4 e],AObj.cells 3 [A4 (n:Int)],AObj.cells 27 [Ax (q)],AObj.defs,AObj.loop LoopState.done (some Code.ret) FR 25 #[16,17] as' bd' (oid Hp.length 4)]∧e≠0∧(Cq c l).2=e∧(Cq c l).1.length=n+1)) (fun k=>by simp) (fun k=>by simp) (by simp [oid]) (by simp [oid]) (fun k=>(fun x hx=>by rw [Ao];exact hOl (lp:=AObj.loop LoopState.ready none FR 25 #[16,17] as' bd' (oid Hp.length 4)) (by exact ⟨hFRl,by simp [oid]⟩) x hx)) (fun k=>(fun x hx=>by rw [Ao];exact hOl (lp:=AObj.loop LoopState.ready none FR 25 #[16,17] as' bd' (oid Hp.length 4)) (by exact ⟨hFRl,by simp [oid]⟩) x hx)) AGd (fun k=>by rw [B0];rfl) (fun k=>by rw [B0];rfl) (fun k m hk he=>by rw [Dy];simp only [It hk];rfl) (fun k m X hk hN=>?_) (fun hN=>.inl ⟨_,rfl,lh hN⟩),?_⟩
 ·generalize hV:Hp++[AObj.cells 3 [A4 0],AObj.cells 35 [A4 0],AObj.cells 3 [A4 (k:Int)],AObj.cells 27 [Ax (colsAt c l k)],AObj.defs,AObj.loop LoopState.ready none FR 25 #[16,17] as' bd' (oid Hp.length 4)]++X=V
  have hL:V[oid Hp.length 5]? = some (AObj.loop LoopState.ready none FR 25 #[16,17] as' bd' (oid Hp.length 4)):=by rw [←hV,B9,B0];rfl
  have hA0:V[oid Hp.length 2]? = some (AObj.cells 3 [A4 (k:Int)]):=by rw [←hV,B9,B0];rfl
  have hB0:V[oid Hp.length 0]? = some (AObj.cells 3 [A4 0]):=by rw [←hV,B9,B0];rfl
  have hC0:V[oid Hp.length 1]? = some (AObj.cells 35 [A4 0]):=by rw [←hV,B9,B0];rfl
  refine K8 (pd:=none) (fr:=FR) (sz:=25) (ps:=#[16,17]) (df:=oid Hp.length 4) (asg:=as') (bd:=bd') hL rfl (by decide) (fun d=>?_)
  subst hFR has hbd
  refine Fu [4,5,6,17] ?_;refine Z93 ?_;refine A2 [4,5,6,8] ?_
  refine ⟨rfl,none,hL,?_⟩
  generalize hbz:(AObj.loop LoopState.busy _ _ _ _ _ _ _)=bz
  have hA:(V.set (oid Hp.length 5) bz)[oid Hp.length 2]? = some (AObj.cells 3 [A4 (k:Int)]):=by rw [D7 (By (by decide))];exact hA0
  have hB:(V.set (oid Hp.length 5) bz)[oid Hp.length 0]? = some (AObj.cells 3 [A4 0]):=by rw [D7 (By (by decide))];exact hB0
  have hC:(V.set (oid Hp.length 5) bz)[oid Hp.length 1]? = some (AObj.cells 35 [A4 0]):=by rw [D7 (By (by decide))];exact hC0
  refine wc ?_;refine A2 [4,5,6,8,19] ?_
  refine A3 (fun ht19=>?_) (fun ht19=>?_)
  ·have he:(Bn (colsAt c l k) m).2≠0:=by simpa using ht19
   refine Es ?_
   refine A5 (h:=Dz hA) (hr:=?_)
   refine A5 ?_
   refine F4 jS hB ?_ ?_
   ·simp
   refine F4 jS (Ub hC (By (by decide))) ?_ ?_
   ·simp
   refine A2 [] ?_;refine je ?_
   subst hbz
   refine AEu ?_
   refine .inl ⟨he,Hp++[AObj.cells 3 [A4 (k:Int)],AObj.cells 35 [A4 (Bn (colsAt c l k) m).2],AObj.cells 3 [A4 (k:Int)],AObj.cells 27 [Ax (colsAt c l k)],AObj.defs,_],?_,by simp,(fun x hx=>by rw [Ao];exact hOl (lp:=_) (by exact ⟨hFRl,by simp [oid]⟩) x hx),.inr ⟨_,_,_,rfl,he,cw hk hN he,ADe hk hN he⟩⟩
   subst hV
   simp only [B9,Dy,Dd,Cz,List.set_cons_succ,List.set_cons_zero]
  have he:(Bn (colsAt c l k) m).2=0:=by simpa using ht19
  refine Z6 ?_;refine Mp ?_
  refine A5 (h:=Dz hA) (hr:=?_)
  refine A5 (h:=Q.add64 (h2:=fun _=>by have hkl:=(Ac.1 hk).1;omega)) (hr:=?_)
  refine F4 jS hA ?_ ?_
  ·simp
  refine Xr ?_
  subst hbz
  refine ABa ?_
  refine .inr ⟨he,rfl,cv hk hN he,?_⟩
  subst hV
  simp only [B9,Dy,Dd,Cz,List.set_cons_succ,List.set_cons_zero]
  rfl
 rintro r H' (⟨q,rfl,hrun⟩|⟨e,n,q,rfl,hne,hrun,hlen⟩)
 ·refine ⟨Hp,_,_,_,rfl,rfl,fun h=>h,?_,rfl,by simp,?_⟩
  ·intro o ho
   have:o=oid Hp.length 4:=by simpa using ho
   subst this
   rw [B0]
   rfl
  refine Z15 ?_;refine Z2 ?_;refine vn ?_;refine Z12 ?_;exact A7 (Aw (F5 jA) (F5 jA)) ⟨by rw [tj hmay hrun],rfl⟩
 refine ⟨Hp,_,_,_,rfl,rfl,fun h=>h,?_,rfl,by simp,?_⟩
 ·intro o ho
  have:o=oid Hp.length 4:=by simpa using ho
  subst this
  rw [B0]
  rfl
 refine px ?_;exact A7 (Aw (F5 jA) (F5 jA)) ⟨by rw [lr hmay hlen hrun],rfl⟩

/-! mig.Parse: the first fault is thrown. -/
end Go.SX.Nb
namespace Go.SX
variable [GI:GlobInv]
open Classical
section
variable {P:Program} {d:Nat}
variable {sz:Nat} {dfs:List Nat} {rnd:Option Nat} {l0:List Oper} {up own:(Nat→Bool)→List AObj} {KP:List PanicEntry→St→Prop} {E:List Oper→(Nat→AV)→Prop} {S:List SegY} {l:List Oper} {fr:Nat→AV} {ty:TypeId} {pos:String} {aft:Array Edge} {s:Nat} {T F:List Nat}
end
section
variable {P:Program} {d:Nat} {ops:Array Oper}
end
end Go.SX
namespace Go.SX
variable [GI:GlobInv]
open Classical
section
variable {P:Program} {d:Nat} {st:St} {ty:TypeId} {pos:String} {aft:Array Edge} {gd:Option (Nat×Bool)}
end
section
variable {P:Program} {d:Nat} {sz:Nat} {dfs:List Nat} {rnd:Option Nat} {l0:List Oper} {up own:(Nat→Bool)→List AObj} {KP:List PanicEntry→St→Prop} {E:List Oper→(Nat→AV)→Prop} {S:List SegY} {l:List Oper} {fr:Nat→AV} {ty:TypeId} {pos:String} {aft:Array Edge} {s:Nat} {T F:List Nat}
end
end Go.SX
