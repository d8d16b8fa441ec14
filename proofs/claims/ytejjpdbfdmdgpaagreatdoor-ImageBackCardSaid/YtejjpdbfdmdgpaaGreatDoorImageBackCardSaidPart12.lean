/- On the way (part 12). -/
import Derived.Test.YtejjpdbfdmdgpaaGreatDoorImageBackCardSaidPart11
set_option linter.all false
namespace Go.SX.Nb
open Go Go.SX Go.Proofs
variable [ErrAt]
set_option maxRecDepth 4000
/-! The reference's rows, forth and back: they are image's. -/
theorem gc {take:List Str}:∀{c:List Col} {l:List Val},l.length=c.length→Ch c take=((c.zip l).filter fun p => !take.contains p.1.name).map (·.1)
 | [],[],_=>rfl
 | [],_::_,h=>by simp at h
 | _::_,[],h=>by simp at h
 | y::c,x::l,h=>by
  have ih:=gc (take:=take) (c:=c) (l:=l) (by simpa using h)
  unfold Ch at ih ⊢
  rw [List.zip_cons_cons,Pe,Pe]
  cases h:take.contains y.name with
  | true=>simp only [C8,Ag,if_false];exact ih
  | false=>simp only [D3,if_true,C5];rw [ih]
theorem AC0 {take:List Str} {c:List Col} {row:List Val} (hl:row.length=c.length) (hn:(c.map (·.name)).Nodup):Gj take c row=(Ch c take).map fun y=>row.getD (Bn y.name c).toNat noV:=by
 rw [Gj,gc hl,Io]
 refine Qi fun p hp=>?_
 obtain ⟨i,hi⟩:=Cf (Qk.1 hp).1
 rw [Rx] at hi
 show p.2=row.getD (Bn p.1.name c).toNat noV
 rw [Sn hn hi.1,Int.toNat_natCast,D4,hi.2]
 rfl
theorem AC1 {c:List Col} {take:List Str} {y:Col} (h:y∈Ch c take):y∈c:=by
 unfold Ch at h
 exact (Qk.1 h).1
theorem ge {x:Expr} {c:List Col} {l:List Val} (hx:Bk x=true) (hr:F9 c l=true):En x c l=Al c l x:=if_neg (by rw [hx,hr];decide)
theorem gg {c:List Col} {l:List Mov} (h:Mr c l=true):D8 c=true:=by
 unfold Mr at h
 simp only [As] at h
 exact h.1
theorem Uo {m:Mov} (h:Fo m=true):(∀e∈m.ahead,Bk e=true)∧∀e∈m.back,Bk e=true:=by
 unfold Fo at h
 simp only [As,B5] at h
 exact ⟨h.1.1.2,h.1.2⟩
theorem c13 (c:List Col) (hc:OkCols c) (l:List Mov) (h:OkMovs l) (hS:((Ct c l).2 != 0)=false) (row:List Val) (hR0:RowI c row) (hp:F9 c row=true) (Hp:List AObj):AFun Tryz.prog 13 [An c,E6 l,Br row] Hp (.tup [Br (fwM c l row l.length).1,A5 (fwM c l row l.length).2]):=by
 obtain ⟨hmay,hst,hss⟩:=H3 hS
 obtain ⟨hmv,hl8⟩:=km hmay h
 have hrc:=gg hmay
 have hlen:=h.len
 refine Ah [.tmp 6,.tmp 7] [0,1,2] Tryz.func13 Tryz.ntmps13 (fun d=>?_)
 refine yr ?_;refine Z29 ?_;refine rx ?_
 refine Az (α:=Nat) (fun k=>⟨92,A6 0 (An (colsAt c l k)) (A6 1 (E6 l) (A6 2 (Br (fwM c l row k).1) (A6 8 (A5 (k:Nat)) (fun _=>.any)))),Hp,[],[],none⟩) (fun k=>k≤l.length∧(fwM c l row k).2=0) (fun k=>l.length-k) (0) ⟨Ap _,rfl⟩ (B2 rfl) rfl (fun k hk=>?_)
 refine Z50 ?_;refine A2 [0,1,2,8,20] ?_
 refine A3 (fun ht20=>?_) (fun ht20=>?_)
 ·have hlt:k<l.length:=by simpa using ht20
  obtain ⟨hkl,hfx⟩:=hk
  obtain ⟨m,hm⟩:∃m,m=l[k]:=⟨_,rfl⟩
  have hml:l[k]? = some m:=by rw [hm];exact Aa hlt
  have hmx:(l.map Fv)[k]? = some (Fv m):=by rw [hm];exact Aw hlt
  have hmo:=h.each m (B3 hml)
  have hmv1:=Ke hmay m (B3 hml)
  have hCo:=Gr hc (fun m hm=>h.each m hm) k
  have hCn:=(n6 (by rw [Nw];exact Ot hrc hst k)).2.2
  have htn:=Lx hst hml
  have hteq:=(O3 htn).1
  have hcnt:=(Ge (M5 hmv1)).1
  have hgl:=J9 (colsAt c l k) m
  have hal:=hmo.ahead.len
  have hR:=cb h hS hR0 k (by omega) hfx
  have hrp:=kt h hS hR0 hp k (by omega) hfx
  have hnx:=Uh hml hfx
  have hsl:=Ih (colsAt c l k) m.take
  have hCl:=hCo.len
  refine Xa ?_
  refine A4 (h:=Ac (k) (Fv m) (fun _=>hmx)) (hr:=?_)
  refine A4 ?_;refine A9 Tryz.call29 (c29 (colsAt c l k) hCo m (hmv _ (B3 hml)) _) ?_;refine AH7 ?_;refine lr ?_;refine A2 [0,1,2,8,9,11] ?_;refine lr ?_;refine A2 [0,1,2,8,9,11,12] ?_;refine Z29 ?_;refine A2 [0,1,2,8,9,11,12,13] ?_
  refine Az (α:=Nat) (fun i=>⟨92,A6 0 (An (colsAt c l k)) (A6 1 (E6 l) (A6 2 (Br (fwM c l row k).1) (A6 8 (A5 (k:Nat)) (A6 9 (An (Bc (colsAt c l k) m).1) (A6 11 (.slice true 3 []) (A6 12 (.slice true 3 (((m.ahead.take i).map (fun e=>(En e (colsAt c l k) (fwM c l row k).1).1)).map Bi)) (A6 13 (A5 (i:Nat)) (fun _=>.any)))))))),Hp,[],[],none⟩) (fun i=>i≤m.ahead.length∧∀(j:Nat) (y:Expr),j<i→m.ahead[j]? = some y→((En y (colsAt c l k) (fwM c l row k).1).2 != 0)=false) (fun i=>m.ahead.length-i) (0) ⟨Ap _,fun j y h=>by omega⟩ (B2 (by simp)) rfl (fun i hi=>?_)
  refine Z33 ?_
  refine A4 (h:=Ac (k) (Fv m) (fun _=>hmx)) (hr:=?_)
  refine Z70 ?_;refine A2 [0,1,2,8,9,11,12,13,41] ?_
  refine A3 (fun ht41=>?_) (fun ht41=>?_)
  ·have hli:i<m.ahead.length:=by simpa using ht41
   refine Se ?_
   refine A4 (h:=Ac (k) (Fv m) (fun _=>hmx)) (hr:=?_)
   refine Z10 ?_
   refine A4 (h:=Ac (i) (Ab m.ahead[i]) (fun _=>Aw hli)) (hr:=?_)
   refine Z10 ?_
   refine A9 Tryz.call32 (c32 (colsAt c l k) (fwM c l row k).1 hCo hR.len hR.fine 61 m.ahead[i] (hmo.ahead.ok _ (Av hli)) (Sz (by rw [←G5];exact (Uo hmv1).1 _ (Av hli))) (hmo.ahead.rng _ (Av hli)) _) ?_
   rw [←ge ((Uo hmv1).1 _ (Av hli)) hrp]
   refine Ys ?_;refine A2 [0,1,2,8,9,11,12,13,14,15] ?_;refine Z8 ?_;refine A2 [0,1,2,8,9,11,12,13,14,15,59] ?_
   refine A3 (fun ht59=>?_) (fun ht59=>?_)
   ·have hbd:=Ov hi.2 (Aa hli) ht59
    have hfb:E1 (colsAt c l k) m (fwM c l row k).1=([],(En m.ahead[i] (colsAt c l k) (fwM c l row k).1).2):=by unfold E1;rw [hbd];exact if_pos ht59
    have hm2:=xa (c:=c) (row:=row) hml hfx (by rw [hfb];simpa using ht59)
    rw [hfb] at hm2
    refine lw ?_;refine Z13 ?_;refine Z73 ?_;refine Z73 ?_;exact AQt
   refine z9 ?_
   refine Ee jU Tryz.type42 ?_ ?_ ?_
   ·simp only [Am,Bx,Ao,B6,Bw,Tryz.t42];omega
   ·simp only [Am,Bx,Ao,B6,Bw,Tryz.t42];omega
   refine Lr ?_;refine A2 [0,1,2,8,9,11,12,13] ?_;refine Z83 ?_;refine A2 [0,1,2,8,9,11,12,13] ?_;refine Ay (i+1) ⟨hli,C1 hli hi.2 ht59⟩ (by omega) ?_
   rw [Kd hli,C4,C5,Ef]
   exact Dq (own:=[]) (fun _=>.refl _) (by repeat (first|exact Bq|refine Bp (by first|exact Gf|exact Dc|exact Hc|exact Fg|exact Dj|exact Em|exact low_mov1|(simp [or_imp,forall_and];done)) ?_)) (by simp) (by simp)
  have hie:m.ahead.length≤i:=by simpa using ht41
  have hov:=Ou (c:=(colsAt c l k)) (row:=(fwM c l row k).1) fun j y hy=>hi.2 j y (by have:=(Ad.1 hy).1;omega) hy
  rw [D9 hie]
  have hDl:=congrArg List.length hteq
  simp only [Ao] at hDl
  refine Z45 ?_;refine Z29 ?_;refine A2 [0,1,2,8,9,11,12,16] ?_
  refine Az (α:=Nat) (fun q=>⟨92,A6 0 (An (colsAt c l k)) (A6 1 (E6 l) (A6 2 (Br (fwM c l row k).1) (A6 8 (A5 (k:Nat)) (A6 9 (An (Bc (colsAt c l k) m).1) (A6 11 (.slice true 3 ((((Ch (colsAt c l k) m.take).take q).map (fun y:Col=>(fwM c l row k).1.getD (Bn y.name (colsAt c l k)).toNat noV)).map Bi)) (A6 12 (.slice true 3 ((m.ahead.map (fun e=>(En e (colsAt c l k) (fwM c l row k).1).1)).map Bi)) (A6 16 (A5 (q:Nat)) (fun _=>.any)))))))),Hp,[],[],none⟩) (fun q=>q≤(Ch (colsAt c l k) m.take).length) (fun q=>(Ch (colsAt c l k) m.take).length-q) (0) (Ap _) (B2 (by simp)) rfl (fun q hq=>?_)
  refine Oi ?_
  refine A4 (h:=Q.sub64 (h1:=fun _=>by simp only [Am];omega) (h2:=fun _=>by simp only [Am];omega)) (hr:=?_)
  refine A4 ?_;refine A2 [0,1,2,8,9,11,12,16,71] ?_
  refine A3 (fun ht71=>?_) (fun ht71=>?_)
  ·have hql:q<(Ch (colsAt c l k) m.take).length:=by
    simp only [Am,decide_eq_true_eq] at ht71
    omega
   have hdq:((Bc (colsAt c l k) m).1.map Bj)[q]? = some (Bj (Ch (colsAt c l k) m.take)[q]):=by
    rw [hteq,Ce,Dh hql,Aa hql]
    rfl
   obtain ⟨j,hj,hjl⟩:=pj (AC1 (Av hql)) rfl
   have hRl:=hR.len
   have hw:(fwM c l row k).1.getD (Bn (Ch (colsAt c l k) m.take)[q].name (colsAt c l k)).toNat noV=(fwM c l row k).1.getD j noV:=by rw [hj];rfl
   refine Z42 ?_;refine Z91 ?_;refine Z70 ?_
   refine A4 (h:=Ac (q) (Bj (Ch (colsAt c l k) m.take)[q]) (fun _=>hdq)) (hr:=?_)
   refine Z0 ?_;refine A9 Tryz.call33 (c33 (colsAt c l k) hCo (Ch (colsAt c l k) m.take)[q].name _) ?_
   rw [hj]
   refine A4 (h:=Ac (j) (Bi ((fwM c l row k).1.getD j noV)) (fun _=>pi (by omega))) (hr:=?_)
   refine Z54 ?_
   refine Ee jU Tryz.type42 ?_ ?_ ?_
   ·simp only [Am,Bx,Ao,B6,Bw,Tryz.t42];omega
   ·simp only [Am,Bx,Ao,B6,Bw,Tryz.t42];omega
   refine Lr ?_;refine A2 [0,1,2,8,9,11,12,16] ?_;refine Z83 ?_;refine A2 [0,1,2,8,9,11,12,16] ?_;refine Ay (q+1) hql (by omega) ?_
   rw [Kd hql,hw,C4,C5,Ef]
   exact Dq (own:=[]) (fun _=>.refl _) (by repeat (first|exact Bq|refine Bp (by first|exact Gf|exact Dc|exact Hc|exact Fg|exact Dj|exact Em|exact low_mov1|(simp [or_imp,forall_and];done)) ?_)) (by simp) (by simp)
  have hqe:(Ch (colsAt c l k) m.take).length≤q:=by
   simp only [Am,decide_eq_false_iff_not] at ht71
   omega
  rw [D9 hqe,←AC0 hR.len hCn]
  have hkl2:=Uf (take:=m.take) hR.len
  have hfo:E1 (colsAt c l k) m (fwM c l row k).1=(Gj m.take (colsAt c l k) (fwM c l row k).1++m.ahead.map (fun e=>(En e (colsAt c l k) (fwM c l row k).1).1),0):=by unfold E1;rw [hov];rfl
  refine z3 ?_;refine R.moveT ?_;refine A4 ?_
  refine Ee jU Tryz.type42 ?_ ?_ ?_
  ·simp only [Am,Bx,Ao,B6,Bw,Tryz.t42];omega
  ·simp only [Am,Bx,Ao,B6,Bw,Tryz.t42];omega
  refine R.wk 89 _ (.strip true 3 _) ?_;refine A4 ?_;refine A2 [1,2,8,9] ?_;refine Z31 ?_;refine rx ?_;refine Z83 ?_;refine rx ?_;refine Ay (k+1) ⟨hlt,by rw [hnx,hfo]⟩ (by omega) ?_
  rw [hnx,hfo,Fz hml,←C4]
  exact Dq (own:=[]) (fun _=>.refl _) (by repeat (first|exact Bq|refine Bp (by first|exact Gf|exact Dc|exact Hc|exact Fg|exact Dj|exact Em|exact low_mov1|(simp [or_imp,forall_and];done)) ?_)) (by simp) (by simp)
 have hxe:k=l.length:=by simp at ht20;have:=hk.1;omega
 subst hxe
 have hm1:fwM c l row l.length=((fwM c l row l.length).1,0):=N1 rfl hk.2
 refine Z45 ?_;refine rf ?_;exact AOc

def Oz (v:Str) (l:List Str) (k:Nat):Int:=if 0≤H6 v l∧H6 v l<k then H6 v l else -1
theorem AVg {v:Str} {l:List Str}:Oz v l 0 = -1:=if_neg (by omega)
theorem AO1 {v:Str} {l:List Str} {k:Nat} (h:l.length≤k):Oz v l k=H6 v l:=by
 unfold Oz
 split
 ·rfl
 rename_i h1
 by_cases h0:0≤H6 v l
 ·obtain ⟨j,hj,hjl⟩:=Y2 h0
  exact absurd ⟨h0,by omega⟩ h1
 have:H6 v l = -1:=by
  unfold H6 at h0 ⊢
  cases hf:l.findIdx? (·==v) with
  | none=>rfl
  | some i=>rw [hf] at h0;exact absurd (q9 i) h0
 exact this.symm
theorem AC2 {v:Str} {l:List Str} {k:Nat} (hn:l.Nodup) (hk:k<l.length) (h:l[k]=v):H6 v l=k:=tq hk h (fun j y hj hy e=>by
 have h':List.Pairwise (·≠·) l:=hn
 rw [Xm] at h'
 obtain ⟨hj',ej⟩:=Ad.1 hy
 exact h' j k hj' hk hj (by rw [ej,e,h]))
theorem AO2 {v:Str} {l:List Str} {k:Nat} (hn:l.Nodup) (hk:k<l.length) (h:(l[k]==v)=true):Oz v l (k+1)=k:=by
 have:=AC2 hn hk (by simpa using h)
 unfold Oz
 rw [this,if_pos ⟨by omega,by omega⟩]
theorem AKi {v:Str} {l:List Str} {k:Nat} (hk:k<l.length) (h:(l[k]==v)=false):Oz v l (k+1)=Oz v l k:=by
 have hne:H6 v l≠k:=fun e=>by
  unfold H6 at e
  cases hf:l.findIdx? (·==v) with
  | none=>rw [hf] at e;exact absurd e (by simp)
  | some i =>
   rw [hf] at e
   have e2:i=k:=Int.ofNat.inj e
   subst e2
   have:=(Jy.1 hf).2.1
   rw [h] at this
   cases this
 unfold Oz
 by_cases h1:0≤H6 v l∧H6 v l<k
 ·rw [if_pos h1,if_pos ⟨h1.1,by omega⟩]
 rw [if_neg h1,if_neg (by omega)]
theorem px {c:List Col} {m:Mov} (h:(Bc c m).2=0):m.take.Nodup:=by
 unfold Bc at h
 split at h
 ·rename_i h1
  exact AMd
 rename_i h1
 exact (u7 (w6 (by simpa using h1:(D5 c m.take (Ba c m)).2=0)).2.1).2

/-- ref20.Back. -/
def bkL (c:List Col):List Mov→List Val→List Val×Int
 | [],row=>(row,0)
 | m::r,row=>if (bkL (Bc c m).1 r row).2 != 0 then ([],(bkL (Bc c m).1 r row).2) else Cn c (Bc c m).1 m (bkL (Bc c m).1 r row).1
theorem uw:∀(l:List Mov) (c:List Col) (row:List Val),bkL c l row=bkM c l row l.length
 | [],_,_=>rfl
 | m::r,c,row=>by
  have e:=xl (c:=c) (l:=m::r) (x:=row) (k:=1) (by simp) r.length (by simp)
  have e2:bkM (Bc c m).1 r row r.length=bkM c (m::r) row r.length:=e
  rw [bkL,uw r,e2]
  show _=bkM c (m::r) row (r.length+1)
  rw [bkM]
  have h0:(m::r).length-1-r.length=0:=by simp
  rw [h0]
  rfl
theorem xn {c:List Col} {l:List Mov} {row:List Val} (h:OkMovs l) (hs:((Ct c l).2 != 0)=false) (h0:RowI (colsAt c l l.length) row) (hp:F9 (colsAt c l l.length) row=true) (hb:(bkL c l row).2=0):RowI c (bkL c l row).1∧F9 c (bkL c l row).1=true:=by
 rw [uw] at hb ⊢
 have h1:=(kr h h0 l.length (Aj _) hb).row
 have h2:=xm h hs h0 hp l.length (Aj _) hb
 rw [O8] at h1 h2
 exact ⟨h1,h2⟩
set_option maxHeartbeats 1000000 in
theorem c11:∀(l:List Mov) (c:List Col) (row:List Val),OkCols c→OkMovs l→((Ct c l).2 != 0)=false→RowI (colsAt c l l.length) row→F9 (colsAt c l l.length) row=true→∀Hp:List AObj,AFun Tryz.prog 11 [An c,E6 l,Br row] Hp (.tup [Br (bkL c l row).1,A5 (bkL c l row).2]):=by
 intro l
 generalize hn:l.length=n
 induction n using Nat.strongRecOn generalizing l with
 | _ n ih =>
 intro c row hc h hS hR0 hp Hp
 rw [←hn] at hR0 hp
 refine Ah [.tmp 6,.tmp 7] [0,1,2] Tryz.func11 Tryz.ntmps11 (fun d=>?_)
 refine yr ?_;refine Z33 ?_;refine A2 [0,1,2,23] ?_
 refine A3 (fun ht23=>?_) (fun ht23=>?_)
 ·obtain rfl:l=[]:=by simpa using ht23
  refine rf ?_;refine Z13 ?_;exact A8 (B1 A7 A7) ⟨rfl,rfl⟩ (hlow:=by simpa using (Dc (n:=Hp.length) (k:=3) (o:=false) (l:=row)))
 obtain ⟨m,r,rfl⟩:∃m r,l=m::r:=by
  cases l with
  | nil=>simp at ht23
  | cons m r=>exact ⟨m,r,rfl⟩
 obtain ⟨hmay,hst,hss⟩:=H3 hS
 obtain ⟨hmvk,_⟩:=km hmay h
 have hrc:=gg hmay
 have hmo:=h.each m Lj
 have hm1:=Ke hmay m Lj
 have htn:(Bc c m).2=0:=Lx hst (k:=0) rfl
 have hDo:OkCols (Bc c m).1:=pe hc hmo
 have hOr:OkMovs r:=AO0 h (by simp) (fun x hx=>.tail _ hx)
 have e1:colsAt c (m::r) 1=(Bc c m).1:=rfl
 have hS2:=uv (c:=c) (l:=m::r) (k:=1) hS
 rw [e1,show (m::r).drop 1=r from rfl] at hS2
 have eC:colsAt (Bc c m).1 r r.length=colsAt c (m::r) (m::r).length:=by
  have:=O5 (c:=c) (l:=m::r) (k:=1) r.length
  rw [show 1+r.length=(m::r).length by simp [Tb],e1,show (m::r).drop 1=r from rfl] at this
  exact this
 have hR2:RowI (colsAt (Bc c m).1 r r.length) row:=by rw [eC];exact hR0
 have hp2:F9 (colsAt (Bc c m).1 r r.length) row=true:=by rw [eC];exact hp
 have hnd:=px htn
 have hcnt:=(Ge (M5 hm1)).2
 have hbl:=hmo.back.len
 have hcl:=hc.len
 refine Z92 ?_
 refine A4 (h:=Ac (0) (Fv m) (fun _=>rfl)) (hr:=?_)
 refine X9 ?_;refine rx ?_;refine Z1 ?_;refine A9 Tryz.call29 (c29 c hc m (hmvk _ Lj) _) ?_;refine AH7 ?_;refine Z1 ?_
 refine A4 (h:=Q.cutL 1 (fun _=>by simp) (fun _=>Aj _)) (hr:=?_)
 refine A4 ?_
 refine A9 Tryz.call11 (ih r.length (by rw [←hn];simp) r rfl (Bc c m).1 row hDo hOr hS2 hR2 hp2 _) ?_
 refine Z63 ?_;refine A2 [0,8,9,11,12] ?_;refine Z8 ?_;refine A2 [0,8,9,11,12,43] ?_
 refine A3 (fun ht43=>?_) (fun ht43=>?_)
 ·have hm:bkL c (m::r) row=([],(bkL (Bc c m).1 r row).2):=by rw [bkL,if_pos ht43]
  refine lw ?_;exact Z55
 have hbo:=xn hOr hS2 hR2 hp2 (by simpa using ht43)
 have hb:bkL c (m::r) row=Cn c (Bc c m).1 m (bkL (Bc c m).1 r row).1:=by rw [bkL,if_neg (by rw [ht43];simp)]
 unfold Cn at hb
 have hst3:∀y∈c,¬0≤H6 y.name m.take→∃j:Nat,Bn y.name (Bc c m).1=j∧j<(Bc c m).1.length:=fun y hy hn=>AGi htn hy hn
 generalize (bkL (Bc c m).1 r row).1=t at *
 generalize (Bc c m).1=d at *
 refine Z4 ?_;refine lr ?_;refine A2 [0,8,9,11,13] ?_;refine Z29 ?_;refine A2 [0,8,9,11,13,14] ?_
 refine Az (α:=Nat) (fun i=>⟨120,A6 0 (An c) (A6 8 (.ptr (oid Hp.length 0) 0) (A6 9 (An d) (A6 11 (Br t) (A6 13 (.slice true 3 (((m.back.take i).map (fun e=>(En e d t).1)).map Bi)) (A6 14 (A5 (i:Nat)) (fun _=>.any)))))),Hp,[.cells 54 (Nj m)],[],none⟩) (fun i=>i≤m.back.length∧∀(j:Nat) (y:Expr),j<i→m.back[j]? = some y→((En y d t).2 != 0)=false) (fun i=>m.back.length-i) (0) ⟨Ap _,fun j y h=>by omega⟩ (B2 (by simp)) rfl (fun i hi=>?_)
 refine Oi ?_;refine A2 [0,8,9,11,13,14,50] ?_
 refine A3 (fun ht50=>?_) (fun ht50=>?_)
 ·have hli:i<m.back.length:=by simpa using ht50
  refine Xa ?_
  refine A4 (h:=Ac (i) (Ab m.back[i]) (fun _=>Aw hli)) (hr:=?_)
  refine Z10 ?_
  refine A9 Tryz.call32 (c32 d t hDo hbo.1.len hbo.1.fine 61 m.back[i] (hmo.back.ok _ (Av hli)) (Sz (by rw [←G5];exact (Uo hm1).2 _ (Av hli))) (hmo.back.rng _ (Av hli)) _) ?_
  rw [←ge ((Uo hm1).2 _ (Av hli)) hbo.2]
  refine Ys ?_;refine A2 [0,8,9,11,13,14,15,16] ?_;refine Z8 ?_;refine A2 [0,8,9,11,13,14,15,16,65] ?_
  refine A3 (fun ht65=>?_) (fun ht65=>?_)
  ·have hv:=Ov hi.2 (Aa hli) ht65
   rw [hv] at hb
   have hm:=hb.trans (if_pos ht65)
   refine lw ?_;refine Z13 ?_;exact AP2
  refine z9 ?_
  refine Ee jU Tryz.type42 ?_ ?_ ?_
  ·simp only [Am,Bx,Ao,B6,Bw,Tryz.t42];omega
  ·simp only [Am,Bx,Ao,B6,Bw,Tryz.t42];omega
  refine Lr ?_;refine A2 [0,8,9,11,13,14] ?_;refine Z83 ?_;refine A2 [0,8,9,11,13,14] ?_;refine Ay (i+1) ⟨hli,C1 hli hi.2 ht65⟩ (by omega) ?_
  rw [Kd hli,C4,C5,Ef]
  exact Dq (own:=[.cells 54 (Nj m)]) (fun _=>.refl _) (by repeat (first|exact Bq|refine Bp (by first|exact Gf|exact Dc|exact Hc|exact Fg|exact Dj|exact Em|exact low_mov1|(simp [oid,or_imp,forall_and];done)) ?_)) (by intro x hx;rw [Bs.1 hx];exact Lw) (by simp)
 have hie:m.back.length≤i:=by simpa using ht50
 have hov:=Ou (c:=d) (row:=t) fun j y hy=>hi.2 j y (by have:=(Ad.1 hy).1;omega) hy
 rw [D9 hie]
 rw [hov] at hb
 replace hb:=hb.trans (if_neg (by simp))
 simp only at hb
 have hwl:(m.back.map (fun e=>(En e d t).1)).length=m.take.length:=by rw [Am];exact hcnt
 generalize m.back.map (fun e=>(En e d t).1)=w at *
 refine Z45 ?_;refine lr ?_;refine A2 [0,8,9,11,13,17] ?_;refine Z29 ?_;refine ADz ?_
 refine Az (α:=Nat) (fun z=>⟨120,A6 0 (An c) (A6 8 (.ptr (oid Hp.length 0) 0) (A6 9 (An d) (A6 11 (Br t) (A6 13 (.slice true 3 (w.map Bi)) (A6 17 (.slice true 3 (((c.take z).map (Mx m.take w t d)).map Bi)) (A6 18 (A5 (z:Nat)) (fun _=>.any))))))),Hp,[.cells 54 (Nj m)],[],none⟩) (fun z=>z≤c.length) (fun z=>c.length-z) (0) (Ap _) (B2 (by simp)) rfl (fun z hz=>?_)
 refine Z50 ?_;refine A2 [0,8,9,11,13,17,18,75] ?_
 refine A3 (fun ht75=>?_) (fun ht75=>?_)
 ·have hz2:z<c.length:=by simpa using ht75
  refine rq ?_;refine A2 [0,8,9,11,13,17,18,19] ?_;refine Z29 ?_;refine AHu ?_
  refine Az (α:=Nat) (fun j=>⟨120,A6 0 (An c) (A6 8 (.ptr (oid Hp.length 0) 0) (A6 9 (An d) (A6 11 (Br t) (A6 13 (.slice true 3 (w.map Bi)) (A6 17 (.slice true 3 (((c.take z).map (Mx m.take w t d)).map Bi)) (A6 18 (A5 (z:Nat)) (A6 19 (A5 (Oz c[z].name m.take j)) (A6 20 (A5 (j:Nat)) (fun _=>.any))))))))),Hp,[.cells 54 (Nj m)],[],none⟩) (fun j=>j≤m.take.length) (fun j=>m.take.length-j) (0) (Ap _) (B2 (by rw [AVg]<;>rfl)) rfl (fun j hj=>?_)
  refine Oi ?_;refine A2 [0,8,9,11,13,17,18,19,20,82] ?_
  refine A3 (fun ht82=>?_) (fun ht82=>?_)
  ·have hlj:j<m.take.length:=by simpa using ht82
   refine Z42 ?_;refine Cb [0,1,0,7,15,0,0,96,224,480,1023] 10 Ai (by kernel_rfl) ?_;refine Z40 ?_
   refine Ak (h:=Ac (j) (Af m.take[j]) (fun _=>Aw hlj)) (hr:=?_)
   refine Z40 ?_
   refine Ak (h:=Ac (z) (Bj c[z]) (fun _=>Aw hz2)) (hr:=?_)
   refine rn ?_;refine A2 [0,8,9,11,13,17,18,19,20,95] ?_
   refine A3 (fun ht95=>?_) (fun ht95=>?_)
   ·have hat:=AO2 hnd hlj ht95
    refine Z31 ?_;refine AHu ?_;refine Z83 ?_;refine AHu ?_
    refine Ay (j+1) hlj (by omega) (Bh ?_)
    rw [hat]<;>rfl
   have hat:=AKi hlj ht95
   refine Z71 ?_;refine AHu ?_
   refine Ay (j+1) hlj (by omega) (Bh ?_)
   rw [hat]<;>rfl
  have hje:m.take.length≤j:=by simpa using ht82
  rw [AO1 hje]
  refine Z45 ?_;refine Z1 ?_;refine A2 [0,8,9,11,13,17,18,19,98] ?_
  refine A3 (fun ht98=>?_) (fun ht98=>?_)
  ·obtain ⟨q,hq,hql⟩:=Y2 (by simpa using ht98)
   have hpk:(Mx m.take w t d) c[z]=w.getD q noV:=by unfold Mx;rw [if_pos (by rw [hq];omega),hq];rfl
   refine Z91 ?_;refine Z0 ?_
   refine A4 (h:=Ac (q) (Bi (w.getD q noV)) (fun _=>pi (by omega))) (hr:=?_)
   refine Z54 ?_
   refine Ee jU Tryz.type42 ?_ ?_ ?_
   ·simp only [Am,Bx,Ao,B6,Bw,Tryz.t42];omega
   ·simp only [Am,Bx,Ao,B6,Bw,Tryz.t42];omega
   refine Lr ?_;refine ADz ?_;refine Z83 ?_;refine ADz ?_
   refine Ay (z+1) hz2 (by omega) (Bh ?_)
   rw [Kd hz2,hpk,C4,C5,Ef]
   rfl
  have hjn:¬0≤H6 c[z].name m.take:=by simpa using ht98
  obtain ⟨q,hq,hql⟩:=hst3 _ (Av hz2) hjn
  have hpk:(Mx m.take w t d) c[z]=t.getD q noV:=by unfold Mx;rw [if_neg hjn,hq];rfl
  refine Z91 ?_;refine Z70 ?_
  refine A4 (h:=Ac (z) (Bj c[z]) (fun _=>Aw hz2)) (hr:=?_)
  refine Z0 ?_;refine A9 Tryz.call33 (c33 d hDo c[z].name _) ?_
  rw [hq]
  refine A4 (h:=Ac (q) (Bi (t.getD q noV)) (fun _=>pi (by have:=hbo.1.len;omega))) (hr:=?_)
  refine Z54 ?_
  refine Ee jU Tryz.type42 ?_ ?_ ?_
  ·simp only [Am,Bx,Ao,B6,Bw,Tryz.t42];omega
  ·simp only [Am,Bx,Ao,B6,Bw,Tryz.t42];omega
  refine Lr ?_;refine ADz ?_;refine Z83 ?_;refine ADz ?_
  refine Ay (z+1) hz2 (by omega) (Bh ?_)
  rw [Kd hz2,hpk,C4,C5,Ef]
  rfl
 have hze:c.length≤z:=by simpa using ht75
 rw [D9 hze]
 refine Z45 ?_;refine rf ?_;refine Dd ?_;exact A8 (B1 A7 A7) ⟨by rw [hb],rfl⟩ (hlow:=by simpa using (Dc (n:=Hp.length) (k:=3) (o:=false) (l:=(c.map (Mx m.take w t d)))))

end Go.SX.Nb

namespace Go.SX.Nb
open Go Go.SX Go.Proofs
variable [ErrAt]
set_option maxRecDepth 4000
structure RowAtT (c:List Col) (l:List Val) (k:Nat):Prop where
 le:k≤l.length
 ok:∀(i:Nat) (v:Val) (y:Col),i<k→l[i]? = some v→c[i]? = some y→Cg v=true∧(v.kind=0∨v.kind=y.kind)
theorem AO3 {c:List Col} {l:List Val} (h:((!(H5 c)) || (((l.length:Nat):Int) != ((c.length:Nat):Int)))=true):F9 c l=false:=by
 cases hr:F9 c l with
 | false=>rfl
 | true =>
  obtain ⟨h1,h2,_⟩:=row_iff.1 hr
  rw [h1,h2] at h
  simp at h
theorem AKj {c:List Col} {l:List Val} {k:Nat} (hl:k<l.length) (hc:k<c.length) (h:((!(Cg l[k])) || ((l[k].kind != 0)&&(l[k].kind != c[k].kind)))=true):F9 c l=false:=by
 cases hr:F9 c l with
 | false=>rfl
 | true =>
  obtain ⟨_,_,h3⟩:=row_iff.1 hr
  obtain ⟨h4,h5⟩:=h3 k _ _ (Aa hl) (Aa hc)
  rw [h4] at h
  rcases h5 with h5|h5<;>simp [h5] at h
theorem c10 (c:List Col) (hc:OkCols c) (l:List Val) (hll:l.length≤1048576) (Hp:List AObj):AFun Tryz.prog 10 [An c,Br l] Hp (B4 (F9 c l)):=by
 refine Ah [.tmp 4] [0,1] Tryz.func10 Tryz.ntmps10 (fun d=>?_)
 refine Z61 ?_;refine Z29 ?_;refine A9 Tryz.call30 (c30 c hc _) ?_;refine Z44 ?_;refine Oh ?_;refine A2 [0,1,15] ?_
 refine A3 (fun ht15=>?_) (fun ht15=>?_)
 ·simp only [Am] at ht15
  have hm:=AO3 ht15
  exact rh
 simp only [Am] at ht15
 have hcl:H5 c=true∧l.length=c.length:=by simp only [Cq,Jw,bne_eq_false_iff_eq] at ht15;exact ⟨ht15.1,by have:=ht15.2;omega⟩
 refine Sd ?_;refine Yu ?_
 refine Az (α:=Nat) (fun k=>⟨49,A6 0 (An c) (A6 1 (Br l) (A6 5 (A5 (k:Nat)) (fun _=>.any))),Hp,[],[],none⟩) (fun k=>RowAtT c l k) (fun k=>l.length-k) (0) ⟨Ap _,fun i v y hi=>by omega⟩ (B2 rfl) rfl (fun k hx=>?_)
 refine Z50 ?_;refine A2 [0,1,5,19] ?_
 refine A3 (fun ht19=>?_) (fun ht19=>?_)
 ·have hlt:k<l.length:=by simp at ht19;omega
  have hltc:k<c.length:=by omega
  refine Z42 ?_;refine W.draw [0,0,3,7,15,31,63,127,127,511,1023,2047,4095,8191,16383,16383,65535,131071,262143,16383,16383,1589247,3686399,7880703,16777215,33554431,67108863] 24 Ai (by kernel_rfl) ?_;refine Z12 ?_
  refine Ak (h:=Ac (k) (Bi l[k]) (fun _=>Aw hlt)) (hr:=?_)
  refine Ak ?_;refine De Tryz.call31 (c31 l[k] _) ?_;refine Z12 ?_;refine Z56 ?_
  refine Ei (h:=Ac (k) (Bi l[k]) (fun _=>Aw hlt)) (hr:=?_)
  refine Z56 ?_;refine Z56 ?_;refine Z56 ?_
  refine Ei (h:=Ac (k) (Bi l[k]) (fun _=>Aw hlt)) (hr:=?_)
  refine Z56 ?_;refine Z56 ?_
  refine Ei (h:=Ac (k) (Bj c[k]) (fun _=>Aw hltc)) (hr:=?_)
  refine Z56 ?_;refine J0 ?_;refine Z97 ?_;refine A2 [0,1,5,48] ?_
  refine A3 (fun ht48=>?_) (fun ht48=>?_)
  ·have hm:=AKj hlt hltc ht48
   refine Z89 ?_;exact AHd
  refine Z71 ?_;refine Yu ?_
  refine Ay (k+1) ⟨hlt,fun i v y hi hv hy=>?_⟩ (by omega) (Bh rfl)
  rcases Be i k with h|h
  ·exact hx.ok i v y h hv hy
  have e:i=k:=by omega
  subst e
  rw [Aa hlt] at hv
  rw [Aa hltc] at hy
  injection hv with hv
  injection hy with hy
  subst hv
  subst hy
  simp only [Cq,Jw,Y5,bne_eq_false_iff_eq] at ht48
  exact ht48
 have hke:k=l.length:=by have:=hx.le;simp at ht19;omega
 have hm:F9 c l=true:=row_iff.2 ⟨hcl.1,hcl.2,fun i v y hv hy=>hx.ok i v y (by have:=(Ad.1 hv).1;omega) hv hy⟩
 refine Xc ?_;exact yo

theorem py {c:List Col} {l:List Mov}:(Gq c l).2=(Ct c l).2:=by unfold Ct;split<;>rfl
theorem AC3 {c:List Col} {l:List Mov} (h:((Ct c l).2 != 0)=false):Gq c l=Ct c l:=by
 have h2:=py (c:=c) (l:=l)
 unfold Ct
 rw [if_neg (by rw [h2,h];simp)]
theorem AC4 (c:List Col) (l:List Mov):(Gq c l).1.length≤l.length+1:=by
 unfold Gq
 repeat' split
 all_goals first|exact Ap _|exact Sy c l
theorem ce {c:List Col} {l:List Mov} (h:((Ct c l).2 != 0)=false):((Gq c l).1.map An)[l.length]? = some (An (colsAt c l l.length))∧((((Gq c l).1.map An).length:Nat):Int)-1=((l.length:Nat):Int):=by rw [AC3 h];exact W8 h
theorem AO4 {c:List Col} {l:List Mov} {row:List Val} (h:(Cx c l row).2≠0):(Cx c l row).1=[]:=by
 unfold Cx at h ⊢
 split
 ·rfl
 rename_i h1
 rw [if_neg h1] at h
 revert h
 generalize l.length=k
 induction k with
 | zero=>intro h;exact absurd rfl h
 | succ k ih =>
  intro h
  rw [fwM] at h ⊢
  split
  ·rfl
  rename_i h2
  rw [if_neg h2] at h
  split
  ·rename_i e;rw [e] at h;exact ih h
  rename_i m e
  rw [e] at h
  exact br h
theorem c12 (a b:List Val) (ha:a.length≤1048576) (Hp:List AObj):AFun Tryz.prog 12 [Br a,Br b] Hp (B4 (decide (a=b))):=by
 refine Ah [.tmp 4] [0,1] Tryz.func12 Tryz.ntmps12 (fun d=>?_)
 refine Z61 ?_;refine Oi ?_;refine A2 [0,1,10] ?_
 refine A3 (fun ht10=>?_) (fun ht10=>?_)
 ·refine Z89 ?_;exact AOx
 refine Sd ?_;refine Yu ?_
 refine Az (α:=Nat) (fun x=>⟨26,A6 0 (Br a) (A6 1 (Br b) (A6 5 (A5 (x:Nat)) (fun _=>.any))),Hp,[],[],none⟩) (fun x=>x≤a.length∧∀(j:Nat) (y:Val),j<x→a[j]? = some y→b[j]? = some y) (fun x=>a.length-x) (0) (by simp) (F6 _) rfl (fun x hx=>?_)
 refine Z50 ?_;refine A2 [0,1,5,14] ?_
 refine A3 (fun ht14=>?_) (fun ht14=>?_)
 ·have hlt:x<a.length:=by simpa using ht14
  have hlb:x<b.length:=by have:=AE6 ht10;omega
  refine Z42 ?_;refine ALs ?_
  refine Ak (h:=Ac (x) (Bi a[x]) (fun _=>Aw hlt)) (hr:=?_)
  refine Z40 ?_
  refine Ak (h:=Ac (x) (Bi b[x]) (fun _=>Aw hlb)) (hr:=?_)
  refine Sc ?_
  refine A4 (h:=Q.neqAgg Tt (Hn a[x].kind a[x].n b[x].kind b[x].n a[x].s b[x].s)) (hr:=?_)
  refine A2 [0,1,5,25] ?_
  refine A3 (fun ht25=>?_) (fun ht25=>?_)
  ·rw [Xu] at ht25
   refine Z89 ?_;refine Tp ?_;exact A8 (Ae A7) ⟨by rw [AR5 hlt hlb (by simpa using ht25)],rfl⟩
  rw [Xu] at ht25
  refine Z71 ?_;refine Yu ?_
  exact Ay (x+1) ⟨hlt,I1 (p:=fun j y=>b[j]? = some y) hlt hx.2 (by rw [Aa hlb];simpa using (Eq.symm (by simpa using ht25):b[x]=a[x]))⟩ (by omega) (Bh rfl)
 refine Xc ?_;refine Z39 ?_;exact A8 (Ae A7) ⟨by rw [AKw (by simpa using ht10) (J5 (by simp at ht14;omega) hx.2)],rfl⟩

theorem c6 (c:List Col) (l:List Mov) (row:List Val) (Hp:List AObj):AFun Tryz.prog 6 [An c,E6 l,Br row] Hp (B4 ((J6 c || Jn l) || Ud row)):=by
 refine Ah [.tmp 6] [0,1,2] Tryz.func6 Tryz.ntmps6 (fun d=>?_)
 refine Z2 ?_;refine cu ?_;refine Z2 ?_;refine A9 Tryz.call19 (ATc c _) ?_;refine z6 ?_;refine Bm Tryz.call20 (fun hB=>c20 l _) ?_;refine Sf ?_;refine Bm Tryz.call21 (fun hB=>c21 row _) ?_;refine Z0 ?_;refine r8 ?_;exact mb

theorem AL8 {c:List Col} {l:List Mov} {row:List Val} (h:(Ca c l row).2≠0):Rg c l row=([],(Ca c l row).2):=if_pos (by simpa using h)
/-- What Old gives, where the row comes back. -/
theorem ASi {c:List Col} {l:List Mov} {row:List Val} (h:(Ca c l row).2=0):Rg c l row=if (if ((Cx c l (Ca c l row).1).2==0) && !decide ((Cx c l (Ca c l row).1).1=row) then (14:Int) else (Cx c l (Ca c l row).1).2) != 0 then ([],if ((Cx c l (Ca c l row).1).2==0) && !decide ((Cx c l (Ca c l row).1).1=row) then 14 else (Cx c l (Ca c l row).1).2) else ((Ca c l row).1,0):=by
 unfold Rg
 rw [if_neg (by rw [h];simp)]
 by_cases h1:(Cx c l (Ca c l row).1).2=0
 ·by_cases h2:(Cx c l (Ca c l row).1).1=row
  ·simp [h1,h2]
  simp [h1,h2]
 simp [h1]
theorem c3 (c:List Col) (l:List Mov) (hrl:∀m∈l,RngMv m) (row:List Val) (hrr:∀v∈row, -9223372036854775808≤v.n∧v.n≤9223372036854775807) (Hp:List AObj):AFun Tryz.prog 3 [An c,E6 l,Br row] Hp (B4 true):=by
 refine Ah [.tmp 6] [0,1,2] Tryz.func3 Tryz.ntmps3 (fun d=>?_)
 refine Z2 ?_;refine cu ?_;refine Z74 ?_;refine A9 Tryz.call5 (c5 _) ?_;refine A4 ?_;refine A2 [0,1,2,19] ?_
 refine A3 (fun ht19=>?_) (fun ht19=>?_)
 ·cases ht19
 refine Nn ?_;refine A9 Tryz.call6 (c6 c l row _) ?_;refine A2 [0,1,2,23] ?_
 refine A3 (fun ht23=>?_) (fun ht23=>?_)
 ·refine Z2 ?_;refine iy ?_;exact mb
 simp only [Cq] at ht23
 obtain ⟨⟨hw1,hw2⟩,hw3⟩:=ht23
 have hc:=w4 hw1
 have hc2:c.length≤1000000:=AGq hw1
 have h:OkMovs l:=g9 hw2 hrl
 have hw4:row.length≤1048576:=by
  unfold Ud at hw3
  simp only [Cq,decide_eq_false_iff_not] at hw3
  omega
 have hcn:=Gr hc (fun m hm=>h.each m hm) l.length
 have hlen:=h.len
 have hsl:((Gq c l).1.map An).length≤2000000:=by rw [Am];have:=AC4 c l;omega
 refine No ?_;refine A9 Tryz.call7 (c7 c hc hc2 l h row hrr hw4 _) ?_;refine Z63 ?_;refine A2 [0,1,2,7,8] ?_;refine Z19 ?_;refine A9 Tryz.call8 (c8 c hc hc2 l h row hrr hw4 _) ?_;refine Z63 ?_;refine A2 [0,1,2,7,8,9,10] ?_;refine Z1 ?_;refine A9 Tryz.call9 (c9 c hc l h _) ?_;refine Z63 ?_;refine A2 [0,1,2,7,8,9,10,11,12] ?_;refine Z74 ?_
 rw [py]
 refine Z10 ?_;refine Pw ?_
 refine Bd (h:=Ac (l.length) (An (colsAt c l l.length)) (fun hB=>(ce (by simpa using hB)).1) (hn:=fun hB=>(ce (by simpa using hB)).2)) (hr:=?_)
 refine Z7 ?_;refine Bm Tryz.call10 (fun hB=>c10 (colsAt c l l.length) hcn row hw4 _) ?_;refine Z93 ?_;refine A2 [0,1,2,7,8,9,10,56] ?_
 refine A3 (fun ht56=>?_) (fun ht56=>?_)
 ·have hm:(Ca c l row)=([],1):=if_pos ht56
  have hn:Rg c l row=([],1):=by rw [AL8 (by rw [hm];decide),hm]
  refine Z25 ?_;refine Z7 ?_;refine Z0 ?_;refine Xb ?_;refine Z0 ?_;refine iy ?_
  first|exact A8 (Ae A7) ⟨by rw [hm,hn];rfl,rfl⟩|exact A8 (Ae A7) ⟨by rw [hz];simp,rfl⟩|exact A8 (Ae A7) ⟨by rw [hn];simp,rfl⟩|exact A8 (Ae A7) ⟨by rw [hB2.2];simp,rfl⟩|exact A8 (Ae A7)
 have h1:((Ct c l).2 != 0)=false∧F9 (colsAt c l l.length) row=true:=by simpa using ht56
 have hR:=Qe h1.2 hrr
 have hb0:(Ca c l row)=bkL c l row:=by rw [uw];exact AKh h1.1 h1.2
 have hBl:(Ca c l row).1.length≤1048576:=ABy hc h hrr
 refine No ?_;refine A9 Tryz.call11 (c11 l c row hc h h1.1 hR h1.2 _) ?_
 rw [←hb0]
 refine Z63 ?_;refine A2 [0,1,2,7,8,9,10,13,14] ?_;refine Z8 ?_;refine Z44 ?_;refine Bm Tryz.call12 (fun hB=>c12 (Ca c l row).1 (Ca c l row).1 hBl _) ?_;refine Z93 ?_;refine A2 [0,1,2,7,8,9,10,13,88] ?_
 refine A3 (fun ht88=>?_) (fun ht88=>?_)
 ·exfalso
  simp at ht88
 refine Xd ?_;refine A2 [0,1,2,7,8,9,10,13,90] ?_
 refine A3 (fun ht90=>?_) (fun ht90=>?_)
 ·have hn:=AL8 (show (Ca c l row).2≠0 by simpa using ht90)
  refine lz ?_;refine iy ?_
  first|exact A8 (Ae A7) ⟨by rw [hm,hn];rfl,rfl⟩|exact A8 (Ae A7) ⟨by rw [hz];simp,rfl⟩|exact A8 (Ae A7) ⟨by rw [hn];simp,rfl⟩|exact A8 (Ae A7) ⟨by rw [hB2.2];simp,rfl⟩|exact A8 (Ae A7)
 have h0:(Ca c l row).2=0:=by simpa using ht90
 have hB2:=xn h h1.1 hR h1.2 (by rw [←hb0];exact h0)
 rw [←hb0] at hB2
 have hfo:(Cx c l (Ca c l row).1)=fwM c l (Ca c l row).1 l.length:=pu h1.1 hB2.2
 have hn:=ASi h0
 have hFl:(Cx c l (Ca c l row).1).1.length≤1048576:=by
  by_cases h0:(Cx c l (Ca c l row).1).2=0
  ·rw [(pv h h1.1 hB2.1 hB2.2 h0).1.len];exact hcn.len
  have:(Cx c l (Ca c l row).1).1=[]:=AO4 h0
  rw [this];exact Ap _
 refine No ?_;refine A9 Tryz.call13 (c13 c hc l h h1.1 (Ca c l row).1 hB2.1 hB2.2 _) ?_
 rw [←hfo]
 refine Z63 ?_;refine A2 [0,2,7,9,10,13,15,16] ?_;refine Z1 ?_;refine A2 [0,2,7,9,10,13,15,16,17] ?_
 refine W.join ⟨137,A6 0 (An c) (A6 7 (Br (Ca c l row).1) (A6 9 (Br (Rg c l row).1) (A6 10 (A5 (Rg c l row).2) (A6 13 (Br (Ca c l row).1) (A6 17 (A5 (if ((Cx c l (Ca c l row).1).2==0) && !decide ((Cx c l (Ca c l row).1).1=row) then (14:Int) else (Cx c l (Ca c l row).1).2)) (fun _=>.any)))))),Hp,[],[],none⟩ ?_ ?_
 ·refine Z19 ?_;refine Z7 ?_;refine Bm Tryz.call12 (fun hB=>c12 (Cx c l (Ca c l row).1).1 row hFl _) ?_;refine Z93 ?_;refine A2 [0,7,9,10,13,17,114] ?_
  refine A3 (fun ht114=>?_) (fun ht114=>?_)
  ·refine Z52 ?_;refine A2 [0,7,9,10,13,17] ?_;refine K.thJ ?_
   first|(rw [if_pos ht114];exact B2 rfl)|(rw [if_neg (by rw [ht114];simp)];exact B2 rfl)
  refine Hh [0,7,9,10,13,17] ?_;refine Je ?_;refine K.thJ ?_
  first|(rw [if_pos ht114];exact B2 rfl)|(rw [if_neg (by rw [ht114];simp)];exact B2 rfl)
 refine Z8 ?_;refine A2 [0,7,9,10,13,17,116] ?_
 refine A3 (fun ht116=>?_) (fun ht116=>?_)
 ·have hz:=hn.trans (if_pos ht116)
  refine lz ?_;refine iy ?_
  first|exact A8 (Ae A7) ⟨by rw [hm,hn];rfl,rfl⟩|exact A8 (Ae A7) ⟨by rw [hz];simp,rfl⟩|exact A8 (Ae A7) ⟨by rw [hn];simp,rfl⟩|exact A8 (Ae A7) ⟨by rw [hB2.2];simp,rfl⟩|exact A8 (Ae A7)
 have hz:=hn.trans (if_neg (by rw [ht116];simp))
 refine No ?_
 rw [hz]
 refine Z7 ?_;refine Bm Tryz.call12 (fun hB=>c12 (Ca c l row).1 (Ca c l row).1 hBl _) ?_;refine Z44 ?_;refine Bm Tryz.call14 (fun hB=>c14 c hc (Ca c l row).1 hBl _) ?_;refine Z0 ?_;refine r8 ?_
 first|exact A8 (Ae A7) ⟨by rw [hm,hn];rfl,rfl⟩|exact A8 (Ae A7) ⟨by rw [hz];simp,rfl⟩|exact A8 (Ae A7) ⟨by rw [hn];simp,rfl⟩|exact A8 (Ae A7) ⟨by rw [hB2.2];simp,rfl⟩|exact A8 (Ae A7)

end Go.SX.Nb
namespace Go.Proofs.YtejjpdbfdmdgpaaGreatDoor
open Go Go.SX Go.SX.Nb Go.ChangeShapes Go.RowKit
set_option maxRecDepth 100000
theorem AC5:Tryz.pinned.checked.prog.funcNamed Rows.imageBackRow.func=some 3:=by kernel_rfl
theorem AKk:laidOutB Tryz.pinned.checked.prog=true:=by kernel_rfl
theorem AKl:(Rows.imageBackRow.inPlace==Tryz.pinned.checked.prog.inPlace 3)=true:=by kernel_rfl
theorem AKm:(Rows.imageBackRow.unfollowed==Tryz.pinned.checked.prog.unfollowed 3)=true:=by kernel_rfl
theorem AKn:(Rows.imageBackRow.recurses==Tryz.pinned.checked.prog.recurses 3)=true:=by kernel_rfl
theorem AKo:(Rows.imageBackRow.named==Tryz.pinned.checked.prog.varsNamed 3)=true:=by kernel_rfl
theorem AKp:Tryz.pinned.checked.prog.mayEnter=true:=by kernel_rfl
theorem ux:joinedFacts Tryz.pinned.checked.prog 3 Tryz.f3 (OpenSpec.ofChange Rows.imageBackSpec).bare Rows.imageBackRow=true:=by
 unfold joinedFacts
 rw [AKk,AKl,AKm,AKn,AKo,AKp]
 kernel_rfl
theorem AC6:false=Rows.imageBackRow.goesBy Tryz.pinned.checked.prog:=by kernel_rfl
theorem AC7:Tryz.f3.isInstance Tryz.pinned.checked.prog Rows.imageBackRow.origin Rows.imageBackRow.targs:=of_decide_eq_true (by kernel_rfl)
theorem AC8:Tryz.f3.isWrapper Tryz.pinned.checked.prog Rows.imageBackRow.wrapper Rows.imageBackRow.mainSum:=by
 unfold Func.isWrapper
 first|(rw [if_pos (by decide +kernel)];kernel_rfl)|(rw [if_neg (by decide +kernel)];exact ⟨rfl,rfl⟩)
end Go.Proofs.YtejjpdbfdmdgpaaGreatDoor
