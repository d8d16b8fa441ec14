/- On the way (part 9). -/
import Derived.Test.YtcmnamfkljlglaaGreatDoorBothWritesCardSaidPart8
set_option linter.all false
namespace Go.SX.Nb
open Go Go.SX Go.Proofs
variable [ErrAt]
set_option maxRecDepth 4000
/-! The reference's rows, forth and back: they are image's. -/
theorem Xp {take:List Str}:∀{c:List Col} {l:List Val},l.length=c.length→C1 c take=((c.zip l).filter fun p => !take.contains p.1.name).map (·.1)
 | [],[],_=>rfl
 | [],_::_,h=>by simp at h
 | _::_,[],h=>by simp at h
 | y::c,x::l,h=>by
  have ih:=Xp (take:=take) (c:=c) (l:=l) (by simpa using h)
  unfold C1 at ih ⊢
  rw [List.zip_cons_cons,M9,M9]
  cases h:take.contains y.name with
  | true=>simp only [Aq,A8,if_false];exact ih
  | false=>simp only [At,if_true,Cw];rw [ih]
theorem og {take:List Str} {c:List Col} {row:List Val} (hl:row.length=c.length) (hn:(c.map (·.name)).Nodup):Ey take c row=(C1 c take).map fun y=>row.getD (Bg y.name c).toNat noV:=by
 rw [Ey,Xp hl,Gn]
 refine Pd fun p hp=>?_
 obtain ⟨i,hi⟩:=Ca (N6.1 hp).1
 rw [Oi] at hi
 show p.2=row.getD (Bg p.1.name c).toNat noV
 rw [P0 hn hi.1,Int.toNat_natCast,Dd,hi.2]
 rfl
theorem oh {c:List Col} {take:List Str} {y:Col} (h:y∈C1 c take):y∈c:=by
 unfold C1 at h
 exact (N6.1 h).1
theorem Xq {x:Expr} {c:List Col} {l:List Val} (hx:Bb x=true) (hr:E8 c l=true):Dy x c l=Ab c l x:=if_neg (by rw [hx,hr];decide)
theorem Xr {c:List Col} {l:List Mov} (h:Jk c l=true):Ct c=true:=by
 unfold Jk at h
 simp only [Ap] at h
 exact h.1
theorem Qe {m:Mov} (h:Ef m=true):(∀e∈m.ahead,Bb e=true)∧∀e∈m.back,Bb e=true:=by
 unfold Ef at h
 simp only [Ap,B9] at h
 exact ⟨h.1.1.2,h.1.2⟩
theorem c26 (c:List Col) (hc:OkCols c) (l:List Mov) (h:OkMovs l) (hS:((Cd c l).2 != 0)=false) (row:List Val) (hR0:RowI c row) (hp:E8 c row=true) (Hp:List AObj):AFun Tryz.prog 26 [Ad c,D6 l,B6 row] Hp (.tup [B6 (fwM c l row l.length).1,A5 (fwM c l row l.length).2]):=by
 obtain ⟨hmay,hst,hss⟩:=Fh hS
 obtain ⟨hmv,hl8⟩:=Zv hmay h
 have hrc:=Xr hmay
 have hlen:=h.len
 refine Ae [.tmp 6,.tmp 7] [0,1,2] Tryz.func26 Tryz.ntmps26 (fun d=>?_)
 refine b6 ?_;refine Z32 ?_;refine gc ?_
 refine Be (α:=Nat) (fun k=>⟨92,A4 0 (Ad (colsAt c l k)) (A4 1 (D6 l) (A4 2 (B6 (fwM c l row k).1) (A4 8 (A5 (k:Nat)) (fun _=>.any)))),Hp,[],[],none⟩) (fun k=>k≤l.length∧(fwM c l row k).2=0) (fun k=>l.length-k) (0) ⟨Ah _,rfl⟩ (B0 rfl) rfl (fun k hk=>?_)
 refine Z76 ?_;refine A0 [0,1,2,8,20] ?_
 refine A1 (fun ht20=>?_) (fun ht20=>?_)
 ·have hlt:k<l.length:=by simpa using ht20
  obtain ⟨hkl,hfx⟩:=hk
  obtain ⟨m,hm⟩:∃m,m=l[k]:=⟨_,rfl⟩
  have hml:l[k]? = some m:=by rw [hm];exact Aa hlt
  have hmx:(l.map Fv)[k]? = some (Fv m):=by rw [hm];exact Ak hlt
  have hmo:=h.each m (Ay hml)
  have hmv1:=Hw hmay m (Ay hml)
  have hCo:=Ej hc (fun m hm=>h.each m hm) k
  have hCn:=(cb (by rw [Ks];exact Lo hrc hst k)).2.2
  have htn:=Ir hst hml
  have hteq:=(Kz htn).1
  have hcnt:=(Et (Iv hmv1)).1
  have hgl:=H4 (colsAt c l k) m
  have hal:=hmo.ahead.len
  have hR:=W0 h hS hR0 k (by omega) hfx
  have hrp:=aa h hS hR0 hp k (by omega) hfx
  have hnx:=Qb hml hfx
  have hsl:=Gi (colsAt c l k) m.take
  have hCl:=hCo.len
  refine Ue ?_
  refine A2 (h:=A9 (k) (Fv m) (fun _=>hmx)) (hr:=?_)
  refine A2 ?_;refine A6 Tryz.call38 (c38 (colsAt c l k) hCo m (hmv _ (Ay hml)) _) ?_;refine qg ?_;refine b9 ?_;refine A0 [0,1,2,8,9,11] ?_;refine b9 ?_;refine A0 [0,1,2,8,9,11,12] ?_;refine Z32 ?_;refine A0 [0,1,2,8,9,11,12,13] ?_
  refine Be (α:=Nat) (fun i=>⟨92,A4 0 (Ad (colsAt c l k)) (A4 1 (D6 l) (A4 2 (B6 (fwM c l row k).1) (A4 8 (A5 (k:Nat)) (A4 9 (Ad (B4 (colsAt c l k) m).1) (A4 11 (.slice true 3 []) (A4 12 (.slice true 3 (((m.ahead.take i).map (fun e=>(Dy e (colsAt c l k) (fwM c l row k).1).1)).map Ba)) (A4 13 (A5 (i:Nat)) (fun _=>.any)))))))),Hp,[],[],none⟩) (fun i=>i≤m.ahead.length∧∀(j:Nat) (y:Expr),j<i→m.ahead[j]? = some y→((Dy y (colsAt c l k) (fwM c l row k).1).2 != 0)=false) (fun i=>m.ahead.length-i) (0) ⟨Ah _,fun j y h=>by omega⟩ (B0 (by simp)) rfl (fun i hi=>?_)
  refine Z27 ?_
  refine A2 (h:=A9 (k) (Fv m) (fun _=>hmx)) (hr:=?_)
  refine Z93 ?_;refine A0 [0,1,2,8,9,11,12,13,41] ?_
  refine A1 (fun ht41=>?_) (fun ht41=>?_)
  ·have hli:i<m.ahead.length:=by simpa using ht41
   refine Qw ?_
   refine A2 (h:=A9 (k) (Fv m) (fun _=>hmx)) (hr:=?_)
   refine Z13 ?_
   refine A2 (h:=A9 (i) (Al m.ahead[i]) (fun _=>Ak hli)) (hr:=?_)
   refine Z13 ?_
   refine A6 Tryz.call41 (c41 (colsAt c l k) (fwM c l row k).1 hCo hR.len hR.fine 61 m.ahead[i] (hmo.ahead.ok _ (Az hli)) (P9 (by rw [←Em];exact (Qe hmv1).1 _ (Az hli))) (hmo.ahead.rng _ (Az hli)) _) ?_
   rw [←Xq ((Qe hmv1).1 _ (Az hli)) hrp]
   refine Pt ?_;refine A0 [0,1,2,8,9,11,12,13,14,15] ?_;refine Z8 ?_;refine A0 [0,1,2,8,9,11,12,13,14,15,59] ?_
   refine A1 (fun ht59=>?_) (fun ht59=>?_)
   ·have hbd:=Lq hi.2 (Aa hli) ht59
    have hfb:Di (colsAt c l k) m (fwM c l row k).1=([],(Dy m.ahead[i] (colsAt c l k) (fwM c l row k).1).2):=by unfold Di;rw [hbd];exact if_pos ht59
    have hm2:=l3 (c:=c) (row:=row) hml hfx (by rw [hfb];simpa using ht59)
    rw [hfb] at hm2
    refine Z1 ?_;refine Z80 ?_;refine Z26 ?_;refine Z41 ?_;exact ADm
   refine mb ?_
   refine Du jU Tryz.type44 ?_ ?_ ?_
   ·simp only [Am,Bt,Aw,Bo,By,Tryz.t44];omega
   ·simp only [Am,Bt,Aw,Bo,By,Tryz.t44];omega
   refine Ge ?_;refine A0 [0,1,2,8,9,11,12,13] ?_;refine Z88 ?_;refine A0 [0,1,2,8,9,11,12,13] ?_;refine As (i+1) ⟨hli,Bs hli hi.2 ht59⟩ (by omega) ?_
   rw [Hv hli,Cf,Cw,Fc]
   exact Cv (own:=[]) (fun _=>.refl _) (by repeat (first|exact Bd|refine Bc (by first|exact Eu|exact Cp|exact Fm|exact F7|exact D7|exact Dw|exact low_mov1|(simp [or_imp,forall_and];done)) ?_)) (by simp) (by simp)
  have hie:m.ahead.length≤i:=by simpa using ht41
  have hov:=Lp (c:=(colsAt c l k)) (row:=(fwM c l row k).1) fun j y hy=>hi.2 j y (by have:=(Ac.1 hy).1;omega) hy
  rw [D5 hie]
  have hDl:=congrArg List.length hteq
  simp only [Aw] at hDl
  refine Z47 ?_;refine Z32 ?_;refine A0 [0,1,2,8,9,11,12,16] ?_
  refine Be (α:=Nat) (fun q=>⟨92,A4 0 (Ad (colsAt c l k)) (A4 1 (D6 l) (A4 2 (B6 (fwM c l row k).1) (A4 8 (A5 (k:Nat)) (A4 9 (Ad (B4 (colsAt c l k) m).1) (A4 11 (.slice true 3 ((((C1 (colsAt c l k) m.take).take q).map (fun y:Col=>(fwM c l row k).1.getD (Bg y.name (colsAt c l k)).toNat noV)).map Ba)) (A4 12 (.slice true 3 ((m.ahead.map (fun e=>(Dy e (colsAt c l k) (fwM c l row k).1).1)).map Ba)) (A4 16 (A5 (q:Nat)) (fun _=>.any)))))))),Hp,[],[],none⟩) (fun q=>q≤(C1 (colsAt c l k) m.take).length) (fun q=>(C1 (colsAt c l k) m.take).length-q) (0) (Ah _) (B0 (by simp)) rfl (fun q hq=>?_)
  refine M2 ?_
  refine A2 (h:=J8 (h1:=fun _=>by simp only [Am];omega) (h2:=fun _=>by simp only [Am];omega)) (hr:=?_)
  refine A2 ?_;refine A0 [0,1,2,8,9,11,12,16,71] ?_
  refine A1 (fun ht71=>?_) (fun ht71=>?_)
  ·have hql:q<(C1 (colsAt c l k) m.take).length:=by
    simp only [Am,decide_eq_true_eq] at ht71
    omega
   have hdq:((B4 (colsAt c l k) m).1.map Cb)[q]? = some (Cb (C1 (colsAt c l k) m.take)[q]):=by
    rw [hteq,Cs,De hql,Aa hql]
    rfl
   obtain ⟨j,hj,hjl⟩:=dx (oh (Az hql)) rfl
   have hRl:=hR.len
   have hw:(fwM c l row k).1.getD (Bg (C1 (colsAt c l k) m.take)[q].name (colsAt c l k)).toNat noV=(fwM c l row k).1.getD j noV:=by rw [hj];rfl
   refine Z44 ?_;refine Z89 ?_;refine Z93 ?_
   refine A2 (h:=A9 (q) (Cb (C1 (colsAt c l k) m.take)[q]) (fun _=>hdq)) (hr:=?_)
   refine Z0 ?_;refine A6 Tryz.call42 (c42 (colsAt c l k) hCo (C1 (colsAt c l k) m.take)[q].name _) ?_
   rw [hj]
   refine A2 (h:=A9 (j) (Ba ((fwM c l row k).1.getD j noV)) (fun _=>dw (by omega))) (hr:=?_)
   refine Z60 ?_
   refine Du jU Tryz.type44 ?_ ?_ ?_
   ·simp only [Am,Bt,Aw,Bo,By,Tryz.t44];omega
   ·simp only [Am,Bt,Aw,Bo,By,Tryz.t44];omega
   refine Ge ?_;refine A0 [0,1,2,8,9,11,12,16] ?_;refine Z88 ?_;refine A0 [0,1,2,8,9,11,12,16] ?_;refine As (q+1) hql (by omega) ?_
   rw [Hv hql,hw,Cf,Cw,Fc]
   exact Cv (own:=[]) (fun _=>.refl _) (by repeat (first|exact Bd|refine Bc (by first|exact Eu|exact Cp|exact Fm|exact F7|exact D7|exact Dw|exact low_mov1|(simp [or_imp,forall_and];done)) ?_)) (by simp) (by simp)
  have hqe:(C1 (colsAt c l k) m.take).length≤q:=by
   simp only [Am,decide_eq_false_iff_not] at ht71
   omega
  rw [D5 hqe,←og hR.len hCn]
  have hkl2:=Qa (take:=m.take) hR.len
  have hfo:Di (colsAt c l k) m (fwM c l row k).1=(Ey m.take (colsAt c l k) (fwM c l row k).1++m.ahead.map (fun e=>(Dy e (colsAt c l k) (fwM c l row k).1).1),0):=by unfold Di;rw [hov];rfl
  refine Z47 ?_;refine Wf ?_;refine A2 ?_
  refine Du jU Tryz.type44 ?_ ?_ ?_
  ·simp only [Am,Bt,Aw,Bo,By,Tryz.t44];omega
  ·simp only [Am,Bt,Aw,Bo,By,Tryz.t44];omega
  refine R.wk 89 _ (.strip true 3 _) ?_;refine A2 ?_;refine A0 [1,2,8,9] ?_;refine Z31 ?_;refine gc ?_;refine Z88 ?_;refine gc ?_;refine As (k+1) ⟨hlt,by rw [hnx,hfo]⟩ (by omega) ?_
  rw [hnx,hfo,Ei hml,←Cf]
  exact Cv (own:=[]) (fun _=>.refl _) (by repeat (first|exact Bd|refine Bc (by first|exact Eu|exact Cp|exact Fm|exact F7|exact D7|exact Dw|exact low_mov1|(simp [or_imp,forall_and];done)) ?_)) (by simp) (by simp)
 have hxe:k=l.length:=by simp at ht20;have:=hk.1;omega
 subst hxe
 have hm1:fwM c l row l.length=((fwM c l row l.length).1,0):=Il rfl hk.2
 refine Z47 ?_;refine Z18 ?_;exact AD0

def Ls (v:Str) (l:List Str) (k:Nat):Int:=if 0≤Fj v l∧Fj v l<k then Fj v l else -1
theorem AJ1 {v:Str} {l:List Str}:Ls v l 0 = -1:=if_neg (by omega)
theorem ACm {v:Str} {l:List Str} {k:Nat} (h:l.length≤k):Ls v l k=Fj v l:=by
 unfold Ls
 split
 ·rfl
 rename_i h1
 by_cases h0:0≤Fj v l
 ·obtain ⟨j,hj,hjl⟩:=Ti h0
  exact absurd ⟨h0,by omega⟩ h1
 have:Fj v l = -1:=by
  unfold Fj at h0 ⊢
  cases hf:l.findIdx? (·==v) with
  | none=>rfl
  | some i=>rw [hf] at h0;exact absurd (eh i) h0
 exact this.symm
theorem oi {v:Str} {l:List Str} {k:Nat} (hn:l.Nodup) (hk:k<l.length) (h:l[k]=v):Fj v l=k:=ib hk h (fun j y hj hy e=>by
 have h':List.Pairwise (·≠·) l:=hn
 rw [Sw] at h'
 obtain ⟨hj',ej⟩:=Ac.1 hy
 exact h' j k hj' hk hj (by rw [ej,e,h]))
theorem ACn {v:Str} {l:List Str} {k:Nat} (hn:l.Nodup) (hk:k<l.length) (h:(l[k]==v)=true):Ls v l (k+1)=k:=by
 have:=oi hn hk (by simpa using h)
 unfold Ls
 rw [this,if_pos ⟨by omega,by omega⟩]
theorem zh {v:Str} {l:List Str} {k:Nat} (hk:k<l.length) (h:(l[k]==v)=false):Ls v l (k+1)=Ls v l k:=by
 have hne:Fj v l≠k:=fun e=>by
  unfold Fj at e
  cases hf:l.findIdx? (·==v) with
  | none=>rw [hf] at e;exact absurd e (by simp)
  | some i =>
   rw [hf] at e
   have e2:i=k:=Int.ofNat.inj e
   subst e2
   have:=(Hj.1 hf).2.1
   rw [h] at this
   cases this
 unfold Ls
 by_cases h1:0≤Fj v l∧Fj v l<k
 ·rw [if_pos h1,if_pos ⟨h1.1,by omega⟩]
 rw [if_neg h1,if_neg (by omega)]
theorem e9 {c:List Col} {m:Mov} (h:(B4 c m).2=0):m.take.Nodup:=by
 unfold B4 at h
 split at h
 ·rename_i h1
  exact absurd h (by simpa using h1)
 rename_i h1
 exact (io (jx (by simpa using h1:(Co c m.take (B2 c m)).2=0)).2.1).2

/-- ref20.Back. -/
def bkL (c:List Col):List Mov→List Val→List Val×Int
 | [],row=>(row,0)
 | m::r,row=>if (bkL (B4 c m).1 r row).2 != 0 then ([],(bkL (B4 c m).1 r row).2) else C6 c (B4 c m).1 m (bkL (B4 c m).1 r row).1
theorem ja:∀(l:List Mov) (c:List Col) (row:List Val),bkL c l row=bkM c l row l.length
 | [],_,_=>rfl
 | m::r,c,row=>by
  have e:=l7 (c:=c) (l:=m::r) (x:=row) (k:=1) (by simp) r.length (by simp)
  have e2:bkM (B4 c m).1 r row r.length=bkM c (m::r) row r.length:=e
  rw [bkL,ja r,e2]
  show _=bkM c (m::r) row (r.length+1)
  rw [bkM]
  have h0:(m::r).length-1-r.length=0:=by simp
  rw [h0]
  rfl
theorem l9 {c:List Col} {l:List Mov} {row:List Val} (h:OkMovs l) (hs:((Cd c l).2 != 0)=false) (h0:RowI (colsAt c l l.length) row) (hp:E8 (colsAt c l l.length) row=true) (hb:(bkL c l row).2=0):RowI c (bkL c l row).1∧E8 c (bkL c l row).1=true:=by
 rw [ja] at hb ⊢
 have h1:=(Zz h h0 l.length (Ao _) hb).row
 have h2:=l8 h hs h0 hp l.length (Ao _) hb
 rw [L7] at h1 h2
 exact ⟨h1,h2⟩
set_option maxHeartbeats 1000000 in
theorem c28:∀(l:List Mov) (c:List Col) (row:List Val),OkCols c→OkMovs l→((Cd c l).2 != 0)=false→RowI (colsAt c l l.length) row→E8 (colsAt c l l.length) row=true→∀Hp:List AObj,AFun Tryz.prog 28 [Ad c,D6 l,B6 row] Hp (.tup [B6 (bkL c l row).1,A5 (bkL c l row).2]):=by
 intro l
 generalize hn:l.length=n
 induction n using Nat.strongRecOn generalizing l with
 | _ n ih =>
 intro c row hc h hS hR0 hp Hp
 rw [←hn] at hR0 hp
 refine Ae [.tmp 6,.tmp 7] [0,1,2] Tryz.func28 Tryz.ntmps28 (fun d=>?_)
 refine b6 ?_;refine Z27 ?_;refine A0 [0,1,2,23] ?_
 refine A1 (fun ht23=>?_) (fun ht23=>?_)
 ·obtain rfl:l=[]:=by simpa using ht23
  refine Z18 ?_;refine Z26 ?_;exact A7 (Aj A3 A3) ⟨rfl,rfl⟩ (hlow:=by simpa using (Cp (n:=Hp.length) (k:=3) (o:=false) (l:=row)))
 obtain ⟨m,r,rfl⟩:∃m r,l=m::r:=by
  cases l with
  | nil=>simp at ht23
  | cons m r=>exact ⟨m,r,rfl⟩
 obtain ⟨hmay,hst,hss⟩:=Fh hS
 obtain ⟨hmvk,_⟩:=Zv hmay h
 have hrc:=Xr hmay
 have hmo:=h.each m Jr
 have hm1:=Hw hmay m Jr
 have htn:(B4 c m).2=0:=Ir hst (k:=0) rfl
 have hDo:OkCols (B4 c m).1:=dt hc hmo
 have hOr:OkMovs r:=ACk h (by simp) (fun x hx=>.tail _ hx)
 have e1:colsAt c (m::r) 1=(B4 c m).1:=rfl
 have hS2:=j9 (c:=c) (l:=m::r) (k:=1) hS
 rw [e1,show (m::r).drop 1=r from rfl] at hS2
 have eC:colsAt (B4 c m).1 r r.length=colsAt c (m::r) (m::r).length:=by
  have:=L0 (c:=c) (l:=m::r) (k:=1) r.length
  rw [show 1+r.length=(m::r).length by simp [Sx],e1,show (m::r).drop 1=r from rfl] at this
  exact this
 have hR2:RowI (colsAt (B4 c m).1 r r.length) row:=by rw [eC];exact hR0
 have hp2:E8 (colsAt (B4 c m).1 r r.length) row=true:=by rw [eC];exact hp
 have hnd:=e9 htn
 have hcnt:=(Et (Iv hm1)).2
 have hbl:=hmo.back.len
 have hcl:=hc.len
 refine Ja ?_
 refine A2 (h:=A9 (0) (Fv m) (fun _=>rfl)) (hr:=?_)
 refine Pr ?_;refine gc ?_;refine Z1 ?_;refine A6 Tryz.call38 (c38 c hc m (hmvk _ Jr) _) ?_;refine qg ?_;refine Z1 ?_
 refine A2 (h:=Q.cutL 1 (fun _=>by simp) (fun _=>Ao _)) (hr:=?_)
 refine A2 ?_
 refine A6 Tryz.call28 (ih r.length (by rw [←hn];simp) r rfl (B4 c m).1 row hDo hOr hS2 hR2 hp2 _) ?_
 refine Z67 ?_;refine A0 [0,8,9,11,12] ?_;refine Z8 ?_;refine A0 [0,8,9,11,12,43] ?_
 refine A1 (fun ht43=>?_) (fun ht43=>?_)
 ·have hm:bkL c (m::r) row=([],(bkL (B4 c m).1 r row).2):=by rw [bkL,if_pos ht43]
  exact qo
 have hbo:=l9 hOr hS2 hR2 hp2 (by simpa using ht43)
 have hb:bkL c (m::r) row=C6 c (B4 c m).1 m (bkL (B4 c m).1 r row).1:=by rw [bkL,if_neg (by rw [ht43];simp)]
 unfold C6 at hb
 have hst3:∀y∈c,¬0≤Fj y.name m.take→∃j:Nat,Bg y.name (B4 c m).1=j∧j<(B4 c m).1.length:=fun y hy hn=>un htn hy hn
 generalize (bkL (B4 c m).1 r row).1=t at *
 generalize (B4 c m).1=d at *
 refine Z3 ?_;refine b9 ?_;refine A0 [0,8,9,11,13] ?_;refine Z32 ?_;refine A0 [0,8,9,11,13,14] ?_
 refine Be (α:=Nat) (fun i=>⟨120,A4 0 (Ad c) (A4 8 (.ptr (oid Hp.length 0) 0) (A4 9 (Ad d) (A4 11 (B6 t) (A4 13 (.slice true 3 (((m.back.take i).map (fun e=>(Dy e d t).1)).map Ba)) (A4 14 (A5 (i:Nat)) (fun _=>.any)))))),Hp,[.cells 50 (Ke m)],[],none⟩) (fun i=>i≤m.back.length∧∀(j:Nat) (y:Expr),j<i→m.back[j]? = some y→((Dy y d t).2 != 0)=false) (fun i=>m.back.length-i) (0) ⟨Ah _,fun j y h=>by omega⟩ (B0 (by simp)) rfl (fun i hi=>?_)
 refine M2 ?_;refine A0 [0,8,9,11,13,14,50] ?_
 refine A1 (fun ht50=>?_) (fun ht50=>?_)
 ·have hli:i<m.back.length:=by simpa using ht50
  refine Ue ?_
  refine A2 (h:=A9 (i) (Al m.back[i]) (fun _=>Ak hli)) (hr:=?_)
  refine Z13 ?_
  refine A6 Tryz.call41 (c41 d t hDo hbo.1.len hbo.1.fine 61 m.back[i] (hmo.back.ok _ (Az hli)) (P9 (by rw [←Em];exact (Qe hm1).2 _ (Az hli))) (hmo.back.rng _ (Az hli)) _) ?_
  rw [←Xq ((Qe hm1).2 _ (Az hli)) hbo.2]
  refine Pt ?_;refine A0 [0,8,9,11,13,14,15,16] ?_;refine Z8 ?_;refine A0 [0,8,9,11,13,14,15,16,65] ?_
  refine A1 (fun ht65=>?_) (fun ht65=>?_)
  ·have hv:=Lq hi.2 (Aa hli) ht65
   rw [hv] at hb
   have hm:=hb.trans (if_pos ht65)
   refine Z1 ?_;refine Z80 ?_;refine Z26 ?_;exact vh
  refine mb ?_
  refine Du jU Tryz.type44 ?_ ?_ ?_
  ·simp only [Am,Bt,Aw,Bo,By,Tryz.t44];omega
  ·simp only [Am,Bt,Aw,Bo,By,Tryz.t44];omega
  refine Ge ?_;refine A0 [0,8,9,11,13,14] ?_;refine Z88 ?_;refine A0 [0,8,9,11,13,14] ?_;refine As (i+1) ⟨hli,Bs hli hi.2 ht65⟩ (by omega) ?_
  rw [Hv hli,Cf,Cw,Fc]
  exact Cv (own:=[.cells 50 (Ke m)]) (fun _=>.refl _) (by repeat (first|exact Bd|refine Bc (by first|exact Eu|exact Cp|exact Fm|exact F7|exact D7|exact Dw|exact low_mov1|(simp [oid,or_imp,forall_and];done)) ?_)) (by intro x hx;rw [Bz.1 hx];exact Iq) (by simp)
 have hie:m.back.length≤i:=by simpa using ht50
 have hov:=Lp (c:=d) (row:=t) fun j y hy=>hi.2 j y (by have:=(Ac.1 hy).1;omega) hy
 rw [D5 hie]
 rw [hov] at hb
 replace hb:=hb.trans (if_neg (by simp))
 simp only at hb
 have hwl:(m.back.map (fun e=>(Dy e d t).1)).length=m.take.length:=by rw [Am];exact hcnt
 generalize m.back.map (fun e=>(Dy e d t).1)=w at *
 refine Z47 ?_;refine b9 ?_;refine A0 [0,8,9,11,13,17] ?_;refine Z32 ?_;refine r8 ?_
 refine Be (α:=Nat) (fun z=>⟨120,A4 0 (Ad c) (A4 8 (.ptr (oid Hp.length 0) 0) (A4 9 (Ad d) (A4 11 (B6 t) (A4 13 (.slice true 3 (w.map Ba)) (A4 17 (.slice true 3 (((c.take z).map (Jp m.take w t d)).map Ba)) (A4 18 (A5 (z:Nat)) (fun _=>.any))))))),Hp,[.cells 50 (Ke m)],[],none⟩) (fun z=>z≤c.length) (fun z=>c.length-z) (0) (Ah _) (B0 (by simp)) rfl (fun z hz=>?_)
 refine Z76 ?_;refine A0 [0,8,9,11,13,17,18,75] ?_
 refine A1 (fun ht75=>?_) (fun ht75=>?_)
 ·have hz2:z<c.length:=by simpa using ht75
  refine Z44 ?_;refine Z2 ?_;refine A0 [0,8,9,11,13,17,18,19] ?_;refine Z32 ?_;refine wy ?_
  refine Be (α:=Nat) (fun j=>⟨120,A4 0 (Ad c) (A4 8 (.ptr (oid Hp.length 0) 0) (A4 9 (Ad d) (A4 11 (B6 t) (A4 13 (.slice true 3 (w.map Ba)) (A4 17 (.slice true 3 (((c.take z).map (Jp m.take w t d)).map Ba)) (A4 18 (A5 (z:Nat)) (A4 19 (A5 (Ls c[z].name m.take j)) (A4 20 (A5 (j:Nat)) (fun _=>.any))))))))),Hp,[.cells 50 (Ke m)],[],none⟩) (fun j=>j≤m.take.length) (fun j=>m.take.length-j) (0) (Ah _) (B0 (by rw [AJ1]<;>rfl)) rfl (fun j hj=>?_)
  refine M2 ?_;refine A0 [0,8,9,11,13,17,18,19,20,82] ?_
  refine A1 (fun ht82=>?_) (fun ht82=>?_)
  ·have hlj:j<m.take.length:=by simpa using ht82
   refine Z44 ?_;refine Df [0,1,0,7,15,0,0,96,224,480,1023] 10 An (by kernel_rfl) ?_;refine Z45 ?_
   refine Ag (h:=A9 (j) (Ax m.take[j]) (fun _=>Ak hlj)) (hr:=?_)
   refine Z45 ?_
   refine Ag (h:=A9 (z) (Cb c[z]) (fun _=>Ak hz2)) (hr:=?_)
   refine g6 ?_;refine A0 [0,8,9,11,13,17,18,19,20,95] ?_
   refine A1 (fun ht95=>?_) (fun ht95=>?_)
   ·have hat:=ACn hnd hlj ht95
    refine Z31 ?_;refine wy ?_;refine Z88 ?_;refine wy ?_
    refine As (j+1) hlj (by omega) (Bk ?_)
    rw [hat]<;>rfl
   have hat:=zh hlj ht95
   refine Z79 ?_;refine wy ?_
   refine As (j+1) hlj (by omega) (Bk ?_)
   rw [hat]<;>rfl
  have hje:m.take.length≤j:=by simpa using ht82
  rw [ACm hje]
  refine Z47 ?_;refine Z1 ?_;refine A0 [0,8,9,11,13,17,18,19,98] ?_
  refine A1 (fun ht98=>?_) (fun ht98=>?_)
  ·obtain ⟨q,hq,hql⟩:=Ti (by simpa using ht98)
   have hpk:(Jp m.take w t d) c[z]=w.getD q noV:=by unfold Jp;rw [if_pos (by rw [hq];omega),hq];rfl
   refine Z89 ?_;refine Z0 ?_
   refine A2 (h:=A9 (q) (Ba (w.getD q noV)) (fun _=>dw (by omega))) (hr:=?_)
   refine Z60 ?_
   refine Du jU Tryz.type44 ?_ ?_ ?_
   ·simp only [Am,Bt,Aw,Bo,By,Tryz.t44];omega
   ·simp only [Am,Bt,Aw,Bo,By,Tryz.t44];omega
   refine Ge ?_;refine r8 ?_;refine Z88 ?_;refine r8 ?_
   refine As (z+1) hz2 (by omega) (Bk ?_)
   rw [Hv hz2,hpk,Cf,Cw,Fc]
   rfl
  have hjn:¬0≤Fj c[z].name m.take:=by simpa using ht98
  obtain ⟨q,hq,hql⟩:=hst3 _ (Az hz2) hjn
  have hpk:(Jp m.take w t d) c[z]=t.getD q noV:=by unfold Jp;rw [if_neg hjn,hq];rfl
  refine Z89 ?_;refine Z93 ?_
  refine A2 (h:=A9 (z) (Cb c[z]) (fun _=>Ak hz2)) (hr:=?_)
  refine Z0 ?_;refine A6 Tryz.call42 (c42 d hDo c[z].name _) ?_
  rw [hq]
  refine A2 (h:=A9 (q) (Ba (t.getD q noV)) (fun _=>dw (by have:=hbo.1.len;omega))) (hr:=?_)
  refine Z60 ?_
  refine Du jU Tryz.type44 ?_ ?_ ?_
  ·simp only [Am,Bt,Aw,Bo,By,Tryz.t44];omega
  ·simp only [Am,Bt,Aw,Bo,By,Tryz.t44];omega
  refine Ge ?_;refine r8 ?_;refine Z88 ?_;refine r8 ?_
  refine As (z+1) hz2 (by omega) (Bk ?_)
  rw [Hv hz2,hpk,Cf,Cw,Fc]
  rfl
 have hze:c.length≤z:=by simpa using ht75
 rw [D5 hze]
 refine Z47 ?_;refine Z18 ?_;refine Z9 ?_;exact A7 (Aj A3 A3) ⟨by rw [hb],rfl⟩ (hlow:=by simpa using (Cp (n:=Hp.length) (k:=3) (o:=false) (l:=(c.map (Jp m.take w t d)))))

/-! both: pairs of rows. -/
/-- api.Pair. -/
structure Pai where
 old:List Val
 new:List Val
 hasOld:Bool
 hasNew:Bool
 deriving DecidableEq
def W4:Pai:=⟨[],[],false,false⟩
abbrev Pb (p:Pai):AV:=.agg [B6 p.old,B6 p.new,Ar p.hasOld,Ar p.hasNew]
/-- both.WriteOld. -/
def E2 (c:List Col) (l:List Mov) (row:List Val):Pai×Int:=if (Bv c l row).2 != 0 then (W4,(Bv c l row).2) else (⟨row,(Bv c l row).1,true,true⟩,0)
/-- both.WriteNew. -/
def E9 (c:List Col) (l:List Mov) (row:List Val):Pai×Int:=if (F8 c l row).2 != 0 then (W4,(F8 c l row).2) else (⟨(F8 c l row).1,row,true,true⟩,0)
/-- What WriteNew wrote, WriteOld writes again, and so does WriteNew. -/
theorem ol {c:List Col} {l:List Mov} {row:List Val} (h:(E9 c l row).2=0):E2 c l (E9 c l row).1.old=E9 c l row∧E9 c l (E2 c l (E9 c l row).1.old).1.new=E9 c l row:=by
 have h0:(F8 c l row).2=0:=by
  unfold E9 at h
  split at h
  ·exact h
  rename_i h1;simpa using h1
 have e:E9 c l row=(⟨(F8 c l row).1,row,true,true⟩,0):=if_neg (by rw [h0];simp)
 have f:=(zc h0).1
 have g:E2 c l (F8 c l row).1=(⟨(F8 c l row).1,row,true,true⟩,0):=by
  unfold E2
  rw [f]
  rfl
 rw [e]
 refine ⟨g,?_⟩
 show E9 c l (E2 c l (F8 c l row).1).1.new=_
 rw [g]
 exact e
theorem W5 {c:List Col} {l:List Mov} {row:List Val} (h:(E2 c l row).2≠0):(E2 c l row).1=W4:=by
 unfold E2 at h ⊢
 split
 ·rfl
 rename_i h1;rw [if_neg h1] at h;exact absurd rfl h
theorem W6 {c:List Col} {l:List Mov} {row:List Val} (h:(E9 c l row).2≠0):(E9 c l row).1=W4:=by
 unfold E9 at h ⊢
 split
 ·rfl
 rename_i h1;rw [if_neg h1] at h;exact absurd rfl h
theorem Tj {c:List Col} {l:List Mov} {row:List Val} (h:(E9 c l row).2=0):(E9 c l row).1=⟨(F8 c l row).1,row,true,true⟩:=by
 unfold E9 at h ⊢
 split
 ·rename_i h1;rw [if_pos h1] at h;rw [h] at h1;cases h1
 rfl
theorem Tk {c:List Col} {l:List Mov} {row:List Val} (h:(E2 c l row).2=0):(E2 c l row).1=⟨row,(Bv c l row).1,true,true⟩:=by
 unfold E2 at h ⊢
 split
 ·rename_i h1;rw [if_pos h1] at h;rw [h] at h1;cases h1
 rfl
theorem uq {p q:Pai}:(((p.hasOld==q.hasOld&&p.hasNew==q.hasNew)&&decide (p.old=q.old))&&decide (p.new=q.new))=decide (p=q):=by
 obtain ⟨a,b,c,e⟩:=p
 obtain ⟨a',b',c',e'⟩:=q
 simp
 grind
theorem zi:Le (.agg [.nil,.nil,Ar false,Ar false]) (Pb W4):=.agg _ _ rfl (by simp [W4];exact ⟨rfl,rfl⟩) fun i y y' h h'=>by
 rcases i with _|_|_|_|i<;>simp at h h'<;>subst h<;>subst h'
 ·exact wz
 ·exact wz
 ·exact .inl rfl
 exact .inl rfl
theorem c22 (a b:List Val) (ha:a.length≤1048576) (Hp:List AObj):AFun Tryz.prog 22 [B6 a,B6 b] Hp (Ar (decide (a=b))):=by
 refine Ae [.tmp 4] [0,1] Tryz.func22 Tryz.ntmps22 (fun d=>?_)
 refine Z58 ?_;refine M2 ?_;refine A0 [0,1,10] ?_
 refine A1 (fun ht10=>?_) (fun ht10=>?_)
 ·refine Z71 ?_;exact ADg
 refine Pq ?_;refine Sm ?_
 refine Be (α:=Nat) (fun x=>⟨26,A4 0 (B6 a) (A4 1 (B6 b) (A4 5 (A5 (x:Nat)) (fun _=>.any))),Hp,[],[],none⟩) (fun x=>x≤a.length∧∀(j:Nat) (y:Val),j<x→a[j]? = some y→b[j]? = some y) (fun x=>a.length-x) (0) (by simp) (Fs _) rfl (fun x hx=>?_)
 refine Z76 ?_;refine A0 [0,1,5,14] ?_
 refine A1 (fun ht14=>?_) (fun ht14=>?_)
 ·have hlt:x<a.length:=by simpa using ht14
  have hlb:x<b.length:=by have:=rh ht10;omega
  refine Z44 ?_;refine AAy ?_
  refine Ag (h:=A9 (x) (Ba a[x]) (fun _=>Ak hlt)) (hr:=?_)
  refine Z45 ?_
  refine Ag (h:=A9 (x) (Ba b[x]) (fun _=>Ak hlb)) (hr:=?_)
  refine Qu ?_
  refine A2 (h:=Q.neqAgg Sn (Gs a[x].kind a[x].n b[x].kind b[x].n a[x].s b[x].s)) (hr:=?_)
  refine A0 [0,1,5,25] ?_
  refine A1 (fun ht25=>?_) (fun ht25=>?_)
  ·rw [T9] at ht25
   refine Z71 ?_;refine Z41 ?_;exact A7 (Ai A3) ⟨by rw [AFg hlt hlb (by simpa using ht25)],rfl⟩
  rw [T9] at ht25
  refine Z79 ?_;refine Sm ?_
  exact As (x+1) ⟨hlt,Fz (p:=fun j y=>b[j]? = some y) hlt hx.2 (by rw [Aa hlb];simpa using (Eq.symm (by simpa using ht25):b[x]=a[x]))⟩ (by omega) (Bk rfl)
 refine Z47 ?_;refine Z71 ?_;exact A7 (Ai A3) ⟨by rw [AA5 (by simpa using ht10) (H2 (by simp at ht14;omega) hx.2)],rfl⟩

theorem c11 (p q:Pai) (h1:p.old.length≤1048576) (h2:p.new.length≤1048576) (Hp:List AObj):AFun Tryz.prog 11 [Pb p,Pb q] Hp (Ar (decide (p=q))):=by
 refine Ae [.tmp 4] [0,1] Tryz.func11 Tryz.ntmps11 (fun d=>?_)
 refine bb ?_;refine R.box ?_;refine A2 ?_;refine A0 [2,3] ?_;refine Z39 ?_;refine Z53 ?_;refine Uc ?_;refine Bj Tryz.call22 (fun hB=>c22 p.old q.old h1 _) ?_;refine Z53 ?_;refine Bj Tryz.call22 (fun hB=>c22 p.new q.new h2 _) ?_;exact ADh

theorem c23 (o:Nat) (Hp:List AObj) (ho:o<Hp.length):AFun Tryz.prog 23 [.ptr o 0] Hp (.slice false 3 [.agg [.v (.int .u8 1),.ptr o 2,.ptr o 0],.agg [.v (.int .u8 2),.ptr o 3,.ptr o 1]]):=by
 refine Ae [.tmp 2] [0] Tryz.func23 Tryz.ntmps23 (fun d=>?_)
 refine Z49 ?_;refine Df [0,1,3,0,8,24,63,0,128,384,0,1024,3072,8064,16383,32767] 14 An (by kernel_rfl) ?_;refine Qx ?_;refine AEr ?_;refine Qx ?_;refine AEr ?_;refine Fx ?_;refine Qr jU jS jZ ?_;refine A2 ?_;refine Z4 ?_;exact A7 (Ai A3) (hlow:=by simp [ho])

theorem c10 (c:List Col) (hc:OkCols c) (hc2:c.length≤1000000) (l:List Mov) (h:OkMovs l) (row:List Val) (hrr:∀v∈row, -9223372036854775808≤v.n∧v.n≤9223372036854775807) (hrl:row.length≤1048576) (Hp:List AObj):AFun Tryz.prog 10 [Ad c,D6 l,B6 row] Hp (.tup [Pb (E2 c l row).1,A5 (E2 c l row).2]):=by
 refine Ae [.cell 6 30,.tmp 7] [0,1,2] Tryz.func10 Tryz.ntmps10 (fun d=>?_)
 refine fx ?_;refine A0 [0,1,2,6] ?_;refine Z18 ?_;refine A6 Tryz.call21 (c21 c hc hc2 l h row hrr hrl _) ?_;refine Z67 ?_;refine A0 [2,6,8,9] ?_;refine Z8 ?_;refine A0 [2,6,8,9,18] ?_
 refine A1 (fun ht18=>?_) (fun ht18=>?_)
 ·refine Z69 ?_;refine A2 ?_;refine Z40 ?_;exact A7 (Aj (Ch jA jS) A3) ⟨by unfold E2;rw [if_pos ht18],rfl⟩
 refine ABa ?_;refine A2 ?_;refine AEg ?_;refine Z9 ?_;exact A7 (Aj (Ch jA jS) A3) ⟨by unfold E2;rw [if_neg (by rw [ht18];simp)],rfl⟩

theorem c9 (c:List Col) (hc:OkCols c) (hc2:c.length≤1000000) (l:List Mov) (h:OkMovs l) (row:List Val) (hrr:∀v∈row, -9223372036854775808≤v.n∧v.n≤9223372036854775807) (hrl:row.length≤1048576) (Hp:List AObj):AFun Tryz.prog 9 [Ad c,D6 l,B6 row] Hp (.tup [Pb (E9 c l row).1,A5 (E9 c l row).2]):=by
 refine Ae [.cell 6 30,.tmp 7] [0,1,2] Tryz.func9 Tryz.ntmps9 (fun d=>?_)
 refine fx ?_;refine A0 [0,1,2,6] ?_;refine Z18 ?_;refine A6 Tryz.call19 (c19 c hc hc2 l h row hrr hrl _) ?_;refine Z67 ?_;refine A0 [2,6,8,9] ?_;refine Z8 ?_;refine A0 [2,6,8,9,18] ?_
 refine A1 (fun ht18=>?_) (fun ht18=>?_)
 ·refine Z69 ?_;refine A2 ?_;refine Z40 ?_;exact A7 (Aj (Ch jA jS) A3) ⟨by unfold E9;rw [if_pos ht18],rfl⟩
 refine Z84 ?_;refine A6 Tryz.call20 (c20 row hrl _) ?_;refine AEg ?_;refine Z9 ?_;exact A7 (Aj (Ch jA jS) A3) ⟨by unfold E9;rw [if_neg (by rw [ht18];simp)],rfl⟩

abbrev AAm (o x:Nat):AV:=.agg [.v (.int .u8 ((x+1:Nat):Int)),.ptr o (x+2),.ptr o x]
abbrev ur (o:Nat):List AV:=[.agg [.v (.int .u8 1),.ptr o 2,.ptr o 0],.agg [.v (.int .u8 2),.ptr o 3,.ptr o 1]]
theorem om {o x:Nat} (h:x<2):(ur o)[x]? = some (AAm o x):=by
 obtain rfl|rfl:x=0∨x=1:=by omega
 all_goals rfl
/-- A row, or what is dropped of it. -/
def dA (b:Bool) (l:List Val):AV:=if b then .nil else B6 l
theorem ACo (b:Bool) (l:List Val):(dA b l).one=true:=by cases b<;>rfl
theorem ut (b:Bool) (l:List Val):(dA b l).strip=dA b l:=by cases b<;>rfl
attribute [go_sem] ACo ut
abbrev bA (n:Nat):AV:=.v (.int .u8 (n:Int))
abbrev bsA (l:List Nat):List AV:=l.map bA
theorem c43 (bs:List Nat) (hb:bs.length≤1048576) (n:Nat) (hn:n<128) (Hp:List AObj):AFun Tryz.prog 43 [.slice true 1 (bsA bs),Bf (n:Nat)] Hp (.slice true 1 (bsA (bs++[n]))):=by
 refine Ae [.tmp 4] [0,1] Tryz.func43 Tryz.ntmps43 (fun d=>?_)
 refine Z58 ?_;refine K9 ?_
 refine Be (α:=Nat) (fun x=>⟨20,A4 0 (.slice true 1 (bsA bs)) (A4 1 (Bf (n:Nat)) (fun _=>.any)),Hp,[],[],none⟩) (fun x=>x=0) (fun x=>x) (0) rfl (Fs _) rfl (fun x hx=>?_)
 refine Z8 ?_;refine A0 [0,1,6] ?_
 refine A1 (fun ht6=>?_) (fun ht6=>?_)
 ·exfalso
  have:=of_decide_eq_true ht6
  omega
 refine Z47 ?_;refine Wf ?_;refine Z0 ?_;refine Ui ?_
 refine Du jU Tryz.type5 ?_ ?_ ?_
 ·simp [Tryz.t5]<;>omega
 ·simp [Tryz.t5]<;>omega
 refine Ge ?_;refine Z21 ?_
 have hw:IntKind.u8.wrap (n:Int)=n:=by simp [IntKind.wrap,IntKind.bits,IntKind.signed];omega
 exact A7 V.ownTmp ⟨by rw [hw];simp [bsA];rfl,rfl⟩ (hlow:=by simp;rintro z (⟨a,_,rfl⟩|rfl)<;>exact .v _)

theorem c67 (bs:List Nat) (hb:bs.length≤1048576) (Hp:List AObj):AFun Tryz.prog 67 [.slice true 1 (bsA bs),A5 1] Hp (.slice true 1 (bsA (bs++[2]))):=by
 refine Ae [.tmp 4] [0,1] Tryz.func67 Tryz.ntmps67 (fun d=>?_)
 refine Z58 ?_;refine Wf ?_;refine A2 ?_
 refine A2 (h:=Q.shl 1) (hr:=?_)
 refine Z0 ?_
 refine A2 (h:=Q.shr 63) (hr:=?_)
 refine A2 ?_
 refine (R.xor (hr:=?_))
 refine R.callT 0 5 Tryz.call43 (c43 bs hb 2 (by omega) _) ?_;refine Ge ?_;refine Z21 ?_;exact A7 V.ownTmp (hlow:=by simp;rintro z (⟨a,_,rfl⟩|rfl)<;>exact .v _)

theorem c44 (bs:List Nat) (hb:bs.length≤1048575) (Hp:List AObj):AFun Tryz.prog 44 [.slice true 1 (bsA bs),Ba ⟨1,1,[]⟩] Hp (.slice true 1 (bsA ((bs++[1])++[2]))):=by
 refine Ae [.tmp 4] [0,1] Tryz.func44 Tryz.ntmps44 (fun d=>?_)
 refine bb ?_;refine A2 ?_;refine M3 ?_;refine Z32 ?_;refine A6 Tryz.call51 (c51 ⟨1,1,[]⟩ _) ?_;refine A2 ?_;refine A0 [0,3,7] ?_
 refine A1 (fun ht7=>?_) (fun ht7=>?_)
 ·exact absurd ht7 (by decide)
 refine Z3 ?_;refine Wf ?_;refine Z13 ?_;refine Ui ?_
 refine Du jU Tryz.type5 ?_ ?_ ?_
 ·simp [Tryz.t5]<;>omega
 ·simp [Tryz.t5]<;>omega
 refine Ge ?_;refine M3 ?_;refine Z8 ?_;refine A0 [0,3,16] ?_;refine Z95 ?_;refine A0 [0,3,16,17] ?_
 refine A1 (fun ht17=>?_) (fun ht17=>?_)
 ·refine Wf ?_;refine Z0 ?_
  refine R.callT 0 19 Tryz.call67 (c67 (bs++[1]) (by simp;omega) _) ?_ (ha:=by simp only [bsA,Cf];rfl)
  refine Ge ?_;refine Z21 ?_;refine Z6 ?_;exact A7 V.ownTmp (hlow:=by simp;rintro z (⟨a,_,rfl⟩|rfl|rfl)<;>exact .v _)
 exact absurd ht17 (by decide)

/-- What pack.Row has behind x rounds. -/
def AGr (bs:List Nat) (x:Nat):List Nat:=if x=0 then bs++[1] else ((bs++[1])++[1])++[2]
@[simp] theorem Pc {n:Nat} {o:Bool} {l:List Nat}:Low n (.slice o 1 (bsA l)):=by
 simp
abbrev v1:Val:=⟨1,1,[]⟩
theorem c29 (bs:List Nat) (hb:bs.length≤1048574) (Hp:List AObj):AFun Tryz.prog 29 [.slice true 1 (bsA bs),B6 [v1]] Hp (.slice true 1 (bsA (AGr bs 1))):=by
 refine Ae [.tmp 4] [0,1] Tryz.func29 Tryz.ntmps29 (fun d=>?_)
 refine Z58 ?_;refine Wf ?_;refine Z13 ?_;refine R.callT 0 7 Tryz.call43 (c43 bs (by omega) 1 (by omega) _) ?_;refine Ge ?_;refine A0 [0,1] ?_;refine Z27 ?_;refine A0 [0,12,13,14] ?_
 refine Be (α:=Nat) (fun x=>⟨23,A4 0 (.slice true 1 (bsA (AGr bs x))) (A4 12 (B6 [v1]) (A4 13 (A5 1) (A4 14 (A5 (x:Nat)) (fun _=>.any)))),Hp,[],[],none⟩) (fun x=>x≤1) (fun x=>1-x) (0) (by omega) (B0 rfl) rfl (fun x hx=>?_)
 refine Z2 ?_;refine A0 [0,12,13,14,15] ?_
 refine Dn (fun ht15=>?_) (fun ht15=>?_)
 ·have hlt:x=0:=by have:=of_decide_eq_true ht15;omega
  subst hlt
  refine Po ?_
  refine A2 (h:=A9 (0) (Ba v1) (fun _=>rfl)) (hr:=?_)
  refine Pr ?_;refine A0 [0,6,12,13,14] ?_;refine Z89 ?_;refine A2 ?_
  refine R.callT 0 18 Tryz.call44 (c44 (bs++[1]) (by simp;omega) _) ?_
  refine Ge ?_;refine A0 [0,12,13,14] ?_;refine Uf ?_;refine A0 [0,12,13,14] ?_
  exact As 1 (by omega) (by omega) (Cv (own:=[]) (fun _=>.refl _) (by repeat (first|exact Bd|refine Bc (by first|exact Pc|exact Cp|(simp [or_imp,forall_and];done)) ?_)) (by simp) (by simp))
 have hx1:x=1:=by have:=of_decide_eq_false ht15;omega
 subst hx1
 refine Z30 ?_;refine Wf ?_;refine Ge ?_;refine Z21 ?_;exact A7 V.ownTmp (hlow:=Pc)

/-- The bytes of the pair so far. -/
abbrev bst (o:Nat):Nat→AV
 | 0=>.sl o 1 1 1
 | _+1=>.slice true 1 (bsA [1,1,1,2])
abbrev bob:Nat→AObj
 | 0=>.cells 5 [bA 0]
 | _+1=>.gone
abbrev prC:List AV:=[B6 [v1],.nil,Ar true,Ar false]
theorem zj {x:Nat} (h:x<2):prC[x+2]? = some (Ar (decide (x=0))):=by
 obtain rfl|rfl:x=0∨x=1:=by omega
 all_goals rfl
theorem c17 (Hp:List AObj):AFun Tryz.prog 17 [.agg prC] Hp (.slice false 1 (bsA [1,1,1,2])):=by
 refine Ae [.tmp 2] [0] Tryz.func17 Tryz.ntmps17 (fun d=>?_)
 refine bb ?_;refine A2 ?_;refine A0 [1] ?_;refine Dv ?_;refine R.buildSl1 jU Tryz.sizeOf5 Tryz.zeroValue5 ?_;refine A2 ?_;refine A0 [1,3] ?_;refine Z52 ?_;refine A6 Tryz.call23 (c23 (oid Hp.length 0) _ (by simp [oid])) ?_;refine Z0 ?_;refine A0 [3,7,8,9] ?_
 refine Be (α:=Nat) (fun x=>⟨36,A4 3 (bst (oid Hp.length 1) x) (A4 7 ((.slice false 3 (ur (oid Hp.length 0)))) (A4 8 (A5 2) (A4 9 (A5 (x:Nat)) (fun _=>.any)))),Hp,[.cells 30 prC,bob x],[],none⟩) (fun x=>x≤2) (fun x=>2-x) (0) (by omega) (B0 rfl) rfl (fun x hx=>?_)
 refine Z2 ?_;refine A0 [3,7,8,9,10] ?_
 refine Dn (fun ht10=>?_) (fun ht10=>?_)
 ·have hlt:x<2:=by have:=of_decide_eq_true ht10;omega
  refine Po ?_
  refine A2 (h:=A9 (x) (AAm (oid Hp.length 0) x) (fun _=>om hlt)) (hr:=?_)
  refine Pr ?_;refine A0 [3,5,7,8,9] ?_;refine Z18 ?_
  refine A2 (h:=J7 (n:=0) (t':=30) (y:=Ar (decide (x=0))) (hy:=zj hlt)) (hr:=?_)
  refine A0 [3,5,7,8,9,16] ?_
  refine A1 (fun ht16=>?_) (fun ht16=>?_)
  ·have hx0:x=0:=of_decide_eq_true ht16
   subst hx0
   refine Df [0,1,3,0,8,31,63,127] 5 An (by kernel_rfl) ?_;refine Ag ?_
   refine Ag (h:=Q.indexAddrSl (0) (fun _=>by omega)) (hr:=?_)
   refine Ag (h:=J7 (n:=1) (t':=5) (hy:=rfl)) (hr:=?_)
   refine Z85 ?_
   refine A2 (h:=Q.or) (hr:=?_)
   refine A2 (h:=Q.indexAddrSl (0) (fun _=>by omega)) (hr:=?_)
   refine J9 (n:=1) (t':=5) jS ?_;refine A0 [3,5,7,8,9] ?_;refine Mf ?_
   refine R.freezeT 3 1 [bA 1] (by simp) rfl rfl (fun x hx=>by rw [Bz.1 hx]<;>rfl) (fun x hx y hy=>by rw [Bz.1 hx] at hy;rw [Bz.1 (show y∈[bA 1] from hy)];rfl) (fun x hx y hy=>by rw [Bz.1 hx] at hy;rw [Bz.1 (show y∈[bA 1] from hy)];rfl) ?_
   refine R.moveT ?_;refine Z13 ?_
   refine A2 (h:=J7 (n:=0) (t':=30) (hy:=rfl)) (hr:=?_)
   refine R.callT 0 24 Tryz.call29 (c29 [1] (by simp) _) ?_;refine Ge ?_;refine A0 [3,7,8,9] ?_;refine Uf ?_;refine A0 [3,7,8,9] ?_
   first|exact As 1 (by omega) (by omega) (Cv (own:=[.cells 30 prC,bob 1]) (fun _=>.refl _) (by repeat (first|exact Bd|refine Bc (by first|exact Pc|(simp [or_imp,forall_and,oid];done)|(simp [or_imp,forall_and,oid];omega)) ?_)) (by simp [ObjLow,or_imp,forall_and]) (by simp))|exact As 2 (by omega) (by omega) (Cv (own:=[.cells 30 prC,bob 2]) (fun _=>.refl _) (by repeat (first|exact Bd|refine Bc (by first|exact Pc|(simp [or_imp,forall_and,oid];done)|(simp [or_imp,forall_and,oid];omega)) ?_)) (by simp [ObjLow,or_imp,forall_and]) (by simp))
  have hx1:x=1:=by have:=of_decide_eq_false ht16;omega
  subst hx1
  refine Ka ?_;refine A0 [3,7,8,9] ?_
  first|exact As 1 (by omega) (by omega) (Cv (own:=[.cells 30 prC,bob 1]) (fun _=>.refl _) (by repeat (first|exact Bd|refine Bc (by first|exact Pc|(simp [or_imp,forall_and,oid];done)|(simp [or_imp,forall_and,oid];omega)) ?_)) (by simp [ObjLow,or_imp,forall_and]) (by simp))|exact As 2 (by omega) (by omega) (Cv (own:=[.cells 30 prC,bob 2]) (fun _=>.refl _) (by repeat (first|exact Bd|refine Bc (by first|exact Pc|(simp [or_imp,forall_and,oid];done)|(simp [or_imp,forall_and,oid];omega)) ?_)) (by simp [ObjLow,or_imp,forall_and]) (by simp))
 have hx2:x=2:=by have:=of_decide_eq_false ht10;omega
 subst hx2
 refine Z30 ?_;refine Z32 ?_
 refine A2 (h:=A9 (0) (bA 1) (fun _=>rfl)) (hr:=?_)
 refine Z0 ?_;refine A0 [3,34] ?_
 refine A1 (fun ht34=>?_) (fun ht34=>?_)
 ·exact absurd ht34 (by decide)
 refine Z84 ?_;refine Z4 ?_;exact A7 (Ai A3) (hlow:=Pc (l:=[1,1,1,2]))

theorem c5 (Hp:List AObj):AFun Tryz.prog 5 [] Hp (Ar true):=by
 refine Ae [.tmp 0] [] Tryz.func5 Tryz.ntmps5 (fun d=>?_)
 refine Z2 ?_;refine A0 [] ?_;refine Z48 ?_;refine Qr jU jS jZ ?_;refine ABd ?_;refine A6 Tryz.call17 (c17 _) ?_;refine A2 ?_;refine A0 [1] ?_;refine md ?_
 refine B8 (h:=A9 (0) (bA 1) (fun _=>rfl)) (hr:=?_)
 refine AB5 ?_;refine B8 ?_
 refine B8 (h:=A9 (3) (bA 2) (fun _=>rfl)) (hr:=?_)
 refine AB5 ?_;refine A0 [0] ?_;refine Fq ?_;exact Yp

/-! How long plan.Text's pieces are. -/
section
variable {O X U:List AObj} {i:Nat} {b y:AObj}
end
/-- Moves whose numbers are ones of 64 bits. -/
structure RngMv (m:Mov):Prop where
 ahead:∀e∈m.ahead,E4 Jf e=true
 back:∀e∈m.back,E4 Jf e=true
theorem ec {l:List Expr} (h20:l.length≤1048576) (h:l.any V2=false) (hr:∀e∈l,E4 Jf e=true):OkEs l:=by
 have h1:∀e∈l,Slim e:=fun e he=>xg (by
  rw [Iw] at h
  simpa using h e he)
 exact ⟨h20,fun e he=>(h1 e he).ok,fun e he=>by have:=(h1 e he).size;omega,hr⟩
theorem oo {m:Mov} (h:Jl m=false) (hr:RngMv m):OkMov m:=by
 unfold Jl at h
 simp only [Cm,decide_eq_false_iff_not] at h
 obtain ⟨⟨⟨⟨⟨⟨h1,h2⟩,h3⟩,h4⟩,h5⟩,h6⟩,h7⟩:=h
 have h50:m.give.length≤1000000:=by
  unfold Kq at h1
  simp only [Cm,decide_eq_false_iff_not] at h1
  omega
 refine ⟨by omega,fun s hs=>?_,ju h1,h50,ec (by omega) h6 hr.ahead,ec (by omega) h7 hr.back⟩
 rw [Iw] at h5
 have:=h5 s hs
 simp only [decide_eq_true_eq] at this
 omega
theorem ot {l:List Mov} (h:Hu l=false) (hr:∀m∈l,RngMv m):OkMovs l:=by
 unfold Hu at h
 simp only [Cm,decide_eq_false_iff_not] at h
 refine ⟨by omega,fun m hm=>oo ?_ (hr m hm)⟩
 rw [Iw] at h
 simpa using h.2 m hm
theorem uu {c:List Col} (h:Kq c=false):c.length≤1000000:=by
 unfold Kq at h
 simp only [Cm,decide_eq_false_iff_not] at h
 omega
theorem ACp (l:List Val):Le (.agg [.nil,B6 l,Ar false,Ar true]) (Pb ⟨[],l,false,true⟩):=.agg _ _ rfl (by simp;exact ⟨rfl,rfl,rfl,rfl⟩) fun i y y' h h'=>by
 rcases i with _|_|_|_|i<;>simp at h h'<;>subst h<;>subst h'
 ·exact wz
 ·exact .inl rfl
 ·exact .inl rfl
 exact .inl rfl
end Go.SX.Nb

namespace Go.SX.Nb
open Go Go.SX Go.Proofs
variable [ErrAt]
set_option maxRecDepth 4000
structure RowAtT (c:List Col) (l:List Val) (k:Nat):Prop where
 le:k≤l.length
 ok:∀(i:Nat) (v:Val) (y:Col),i<k→l[i]? = some v→c[i]? = some y→C8 v=true∧(v.kind=0∨v.kind=y.kind)
theorem ACq {c:List Col} {l:List Val} (h:((!(Fi c)) || (((l.length:Nat):Int) != ((c.length:Nat):Int)))=true):E8 c l=false:=by
 cases hr:E8 c l with
 | false=>rfl
 | true =>
  obtain ⟨h1,h2,_⟩:=row_iff.1 hr
  rw [h1,h2] at h
  simp at h
theorem zk {c:List Col} {l:List Val} {k:Nat} (hl:k<l.length) (hc:k<c.length) (h:((!(C8 l[k])) || ((l[k].kind != 0)&&(l[k].kind != c[k].kind)))=true):E8 c l=false:=by
 cases hr:E8 c l with
 | false=>rfl
 | true =>
  obtain ⟨_,_,h3⟩:=row_iff.1 hr
  obtain ⟨h4,h5⟩:=h3 k _ _ (Aa hl) (Aa hc)
  rw [h4] at h
  rcases h5 with h5|h5<;>simp [h5] at h
theorem c25 (c:List Col) (hc:OkCols c) (l:List Val) (hll:l.length≤1048576) (Hp:List AObj):AFun Tryz.prog 25 [Ad c,B6 l] Hp (Ar (E8 c l)):=by
 refine Ae [.tmp 4] [0,1] Tryz.func25 Tryz.ntmps25 (fun d=>?_)
 refine Z58 ?_;refine Z32 ?_;refine A6 Tryz.call39 (c39 c hc _) ?_;refine Z53 ?_;refine Z50 ?_;refine A0 [0,1,15] ?_
 refine A1 (fun ht15=>?_) (fun ht15=>?_)
 ·simp only [Am] at ht15
  have hm:=ACq ht15
  exact fw
 simp only [Am] at ht15
 have hcl:Fi c=true∧l.length=c.length:=by simp only [Cm,Cx,bne_eq_false_iff_eq] at ht15;exact ⟨ht15.1,by have:=ht15.2;omega⟩
 refine Pq ?_;refine Sm ?_
 refine Be (α:=Nat) (fun k=>⟨49,A4 0 (Ad c) (A4 1 (B6 l) (A4 5 (A5 (k:Nat)) (fun _=>.any))),Hp,[],[],none⟩) (fun k=>RowAtT c l k) (fun k=>l.length-k) (0) ⟨Ah _,fun i v y hi=>by omega⟩ (B0 rfl) rfl (fun k hx=>?_)
 refine Z76 ?_;refine A0 [0,1,5,19] ?_
 refine A1 (fun ht19=>?_) (fun ht19=>?_)
 ·have hlt:k<l.length:=by simp at ht19;omega
  have hltc:k<c.length:=by omega
  refine Z44 ?_;refine Hm [0,0,3,7,15,31,63,127,127,511,1023,2047,4095,8191,16383,16383,65535,131071,262143,16383,16383,1589247,3686399,7880703,16777215,33554431,67108863] 24 An (by kernel_rfl) ?_;refine Z17 ?_
  refine Ag (h:=A9 (k) (Ba l[k]) (fun _=>Ak hlt)) (hr:=?_)
  refine Ag ?_;refine Cy Tryz.call40 (c40 l[k] _) ?_;refine Z17 ?_;refine Z63 ?_
  refine F4 (h:=A9 (k) (Ba l[k]) (fun _=>Ak hlt)) (hr:=?_)
  refine Z63 ?_;refine Z63 ?_;refine Z63 ?_
  refine F4 (h:=A9 (k) (Ba l[k]) (fun _=>Ak hlt)) (hr:=?_)
  refine Z63 ?_;refine Z63 ?_
  refine F4 (h:=A9 (k) (Cb c[k]) (fun _=>Ak hltc)) (hr:=?_)
  refine Z63 ?_;refine Fx ?_;refine Kl ?_;refine A0 [0,1,5,48] ?_
  refine A1 (fun ht48=>?_) (fun ht48=>?_)
  ·have hm:=zk hlt hltc ht48
   refine Z71 ?_;exact U8
  refine Z79 ?_;refine Sm ?_
  refine As (k+1) ⟨hlt,fun i v y hi hv hy=>?_⟩ (by omega) (Bk rfl)
  rcases Bh i k with h|h
  ·exact hx.ok i v y h hv hy
  have e:i=k:=by omega
  subst e
  rw [Aa hlt] at hv
  rw [Aa hltc] at hy
  injection hv with hv
  injection hy with hy
  subst hv
  subst hy
  simp only [Cm,Cx,Tn,bne_eq_false_iff_eq] at ht48
  exact ht48
 have hke:k=l.length:=by have:=hx.le;simp at ht19;omega
 have hm:E8 c l=true:=row_iff.2 ⟨hcl.1,hcl.2,fun i v y hv hy=>hx.ok i v y (by have:=(Ac.1 hv).1;omega) hv hy⟩
 refine Z47 ?_;exact qe

/-- both.Fill. -/
def M0 (c:List Col) (l:List Mov) (p:Pai):Pai×Int:=if !p.hasOld then (W4,13) else E2 c l p.old
/-- both.Verify. -/
def jb (c:List Col) (l:List Mov) (p:Pai):Int:=if !p.hasOld || !p.hasNew then 13 else if (M0 c l p).2 != 0 then (M0 c l p).2 else if !decide (p=(M0 c l p).1) then 14 else 0
theorem W7 {c:List Col} {l:List Mov}:(F6 c l).2=(Cd c l).2:=by unfold Cd;split<;>rfl
theorem ou {c:List Col} {l:List Mov} (h:((Cd c l).2 != 0)=false):F6 c l=Cd c l:=by
 have h2:=W7 (c:=c) (l:=l)
 unfold Cd
 rw [if_neg (by rw [h2,h];simp)]
theorem ov (c:List Col) (l:List Mov):(F6 c l).1.length≤l.length+1:=by
 unfold F6
 repeat' split
 all_goals first|exact Ah _|exact P8 c l
theorem W8 {c:List Col} {l:List Mov} (h:((Cd c l).2 != 0)=false):((F6 c l).1.map Ad)[l.length]? = some (Ad (colsAt c l l.length))∧((((F6 c l).1.map Ad).length:Nat):Int)-1=((l.length:Nat):Int):=by rw [ou h];exact Rr h
/-- What is written is verified. -/
theorem zl {c:List Col} {l:List Mov} {row:List Val} (h:(E2 c l row).2=0):jb c l (E2 c l row).1=0:=by
 have e:=Tk h
 unfold jb M0
 rw [e]
 simp only [Aq,Bool.or_self,A8,if_false]
 rw [if_neg (by rw [h];simp),e]
 simp
theorem zm {c:List Col} {l:List Mov} {row:List Val} (h:(E9 c l row).2=0):jb c l (E9 c l row).1=0:=by
 have e:=Tj h
 obtain ⟨a1,_⟩:=ol h
 rw [e] at a1
 unfold jb M0
 rw [e]
 simp only [Aq,Bool.or_self,A8,if_false]
 rw [a1,if_neg (by rw [h];simp),e]
 simp
theorem c13 (c:List Col) (hc:OkCols c) (hc2:c.length≤1000000) (l:List Mov) (h:OkMovs l) (row:List Val) (hrr:∀v∈row, -9223372036854775808≤v.n∧v.n≤9223372036854775807) (hrl:row.length≤1048576) (Hp:List AObj):AFun Tryz.prog 13 [Ad c,D6 l,B6 row] Hp (.tup [B6 (Bv c l row).1,A5 (Bv c l row).2]):=by
 refine Ae [.tmp 6,.tmp 7] [0,1,2] Tryz.func13 Tryz.ntmps13 (fun d=>?_)
 refine b6 ?_;refine Z8 ?_;refine A6 Tryz.call24 (c24 c hc l h _) ?_;refine Z67 ?_;refine A0 [0,1,2,9] ?_;refine Dv ?_
 rw [W7]
 refine Z13 ?_;refine Z10 ?_;refine Bj Tryz.call25 (fun hB=>c25 c hc row hrl _) ?_;refine Z50 ?_;refine A0 [0,1,2,23] ?_
 refine A1 (fun ht23=>?_) (fun ht23=>?_)
 ·have hm:Bv c l row=([],1):=if_pos ht23
  exact wn
 have hm:Bv c l row=fwM c l row l.length:=if_neg (by rw [ht23];simp)
 have h1:((Cd c l).2 != 0)=false∧E8 c row=true:=by simpa using ht23
 refine Z77 ?_;refine A6 Tryz.call26 (c26 c hc l h h1.1 row (Jo h1.2 hrr) h1.2 _) ?_;refine Z93 ?_;exact AEc

theorem c16 (c:List Col) (hc:OkCols c) (hc2:c.length≤1000000) (l:List Mov) (h:OkMovs l) (row:List Val) (hrr:∀v∈row, -9223372036854775808≤v.n∧v.n≤9223372036854775807) (hrl:row.length≤1048576) (Hp:List AObj):AFun Tryz.prog 16 [Ad c,D6 l,B6 row] Hp (.tup [B6 (F8 c l row).1,A5 (F8 c l row).2]):=by
 have hcn:=Ej hc (fun m hm=>h.each m hm) l.length
 have hlen:=h.len
 have hsl:((F6 c l).1.map Ad).length≤2000000:=by rw [Am];have:=ov c l;omega
 refine Ae [.tmp 6,.tmp 7] [0,1,2] Tryz.func16 Tryz.ntmps16 (fun d=>?_)
 refine b6 ?_;refine Z1 ?_;refine A6 Tryz.call24 (c24 c hc l h _) ?_;refine qg ?_;refine Z52 ?_
 rw [W7]
 refine Z13 ?_;refine Ot ?_
 refine B8 (h:=A9 (l.length) (Ad (colsAt c l l.length)) (fun hB=>(W8 (by simpa using hB)).1) (hn:=fun hB=>(W8 (by simpa using hB)).2)) (hr:=?_)
 refine Z10 ?_;refine Bj Tryz.call25 (fun hB=>c25 (colsAt c l l.length) hcn row hrl _) ?_;refine Z50 ?_;refine A0 [0,1,2,30] ?_
 refine A1 (fun ht30=>?_) (fun ht30=>?_)
 ·have hm0:Cl c l row=([],1):=if_pos ht30
  have hm:F8 c l row=([],1):=by unfold F8;rw [hm0];rfl
  exact wn
 have h1:((Cd c l).2 != 0)=false∧E8 (colsAt c l l.length) row=true:=by simpa using ht30
 have hb0:Cl c l row=bkL c l row:=by rw [ja];exact Ny ht30
 refine Z77 ?_;refine A6 Tryz.call28 (c28 l c row hc h h1.1 (Jo h1.2 hrr) h1.2 _) ?_
 rw [←hb0]
 refine Z67 ?_;refine A0 [0,1,2,9,10] ?_;refine Z8 ?_;refine A0 [0,1,2,9,10,39] ?_
 refine A1 (fun ht39=>?_) (fun ht39=>?_)
 ·have hm:F8 c l row=([],(Cl c l row).2):=if_pos ht39
  exact qo
 have hbr:=l9 h h1.1 (Jo h1.2 hrr) h1.2 (by rw [←hb0];simpa using ht39)
 rw [←hb0] at hbr
 have hf0:(Bv c l (Cl c l row).1)=fwM c l (Cl c l row).1 l.length:=dy h1.1 hbr.2
 have hm1:F8 c l row=if (Bv c l (Cl c l row).1).2 != 0 then ([],(Bv c l (Cl c l row).1).2) else if !decide ((Bv c l (Cl c l row).1).1=row) then ([],14) else ((Cl c l row).1,0):=if_neg (by rw [ht39];simp)
 refine Z77 ?_;refine A6 Tryz.call26 (c26 c hc l h h1.1 (Cl c l row).1 hbr.1 hbr.2 _) ?_
 rw [←hf0]
 refine Z67 ?_;refine A0 [2,9,10,11] ?_;refine Z8 ?_;refine A0 [2,9,10,11,49] ?_
 refine A1 (fun ht49=>?_) (fun ht49=>?_)
 ·have hm:F8 c l row=([],(Bv c l (Cl c l row).1).2):=hm1.trans (if_pos ht49)
  exact qo
 have hm2:=hm1.trans (if_neg (by rw [ht49];simp))
 have hfl:(Bv c l (Cl c l row).1).1.length≤1048576:=by rw [(dz h h1.1 hbr.1 hbr.2 (by simpa using ht49)).1.len];exact hcn.len
 refine Mt ?_;refine A6 Tryz.call22 (c22 (Bv c l (Cl c l row).1).1 row hfl _) ?_;refine A2 ?_;refine A0 [10,54] ?_
 refine A1 (fun ht54=>?_) (fun ht54=>?_)
 ·have hm:=hm2.trans (if_pos ht54)
  exact wn
 have hm:=hm2.trans (if_neg (by rw [ht54];simp))
 refine Z77 ?_;exact AEc

theorem c27 (p q:Pai) (h1:p.old.length≤1048576) (h2:p.new.length≤1048576) (Hp:List AObj):AFun Tryz.prog 27 [Pb p,Pb q] Hp (Ar (decide (p=q))):=by
 refine Ae [.tmp 4] [0,1] Tryz.func27 Tryz.ntmps27 (fun d=>?_)
 refine fq ?_;refine Z39 ?_;refine Z53 ?_;refine Uc ?_;refine Bj Tryz.call32 (fun hB=>c32 p.old q.old h1 _) ?_;refine Z53 ?_;refine Bj Tryz.call32 (fun hB=>c32 p.new q.new h2 _) ?_;exact ADh

theorem c14 (c:List Col) (hc:OkCols c) (hc2:c.length≤1000000) (l:List Mov) (h:OkMovs l) (p:Pai) (hrr:∀v∈p.old, -9223372036854775808≤v.n∧v.n≤9223372036854775807) (hrl:p.old.length≤1048576) (Hp:List AObj):AFun Tryz.prog 14 [Ad c,D6 l,Pb p] Hp (.tup [Pb (M0 c l p).1,A5 (M0 c l p).2]):=by
 refine Ae [.cell 6 30,.tmp 7] [0,1,2] Tryz.func14 Tryz.ntmps14 (fun d=>?_)
 refine Z2 ?_;refine Z55 ?_;refine A0 [0,1,5,6] ?_;refine Z27 ?_;refine A0 [0,1,5,6,10] ?_
 refine A1 (fun ht10=>?_) (fun ht10=>?_)
 ·have hm:M0 c l p=(W4,13):=if_pos ht10
  refine Z69 ?_;refine Z40 ?_;exact AF9
 have hm:M0 c l p=E2 c l p.old:=if_neg (by rw [ht10];simp)
 refine Yl ?_;refine A6 Tryz.call10 (c10 c hc hc2 l h p.old hrr hrl _) ?_;refine Sk ?_;refine Z9 ?_;exact AF9

theorem c15 (c:List Col) (hc:OkCols c) (hc2:c.length≤1000000) (l:List Mov) (h:OkMovs l) (p:Pai) (hrr:∀v∈p.old, -9223372036854775808≤v.n∧v.n≤9223372036854775807) (hrl:p.old.length≤1048576) (hnl:p.new.length≤1048576) (Hp:List AObj):AFun Tryz.prog 15 [Ad c,D6 l,Pb p] Hp (A5 (jb c l p)):=by
 refine Ae [.tmp 6] [0,1,2] Tryz.func15 Tryz.ntmps15 (fun d=>?_)
 refine Z1 ?_;refine Sm ?_;refine Z8 ?_;refine fu ?_;refine A0 [0,1,5,16] ?_
 refine A1 (fun ht16=>?_) (fun ht16=>?_)
 ·have hm:jb c l p=13:=if_pos ht16
  refine Sl ?_;exact Z23
 have hm0:jb c l p=_:=if_neg (by rw [ht16];simp)
 refine Z77 ?_;refine A6 Tryz.call14 (c14 c hc hc2 l h p hrr hrl _) ?_;refine Pt ?_;refine A0 [5,7,8] ?_;refine Z20 ?_;refine Z18 ?_;refine A0 [5,7,8,24] ?_
 refine A1 (fun ht24=>?_) (fun ht24=>?_)
 ·have hm:=hm0.trans (if_pos ht24)
  refine Z1 ?_;refine Z75 ?_;exact AEi
 have hm1:=hm0.trans (if_neg (by rw [ht24];simp))
 refine Z1 ?_;refine A6 Tryz.call27 (c27 p (M0 c l p).1 hrl hnl _) ?_;refine Z0 ?_;refine A0 [28] ?_
 refine A1 (fun ht28=>?_) (fun ht28=>?_)
 ·have hm:=hm1.trans (if_pos ht28)
  refine Sl ?_;exact AEi
 have hm:=hm1.trans (if_neg (by rw [ht28];simp))
 refine Z19 ?_;exact AEh

abbrev ow (p:Pai):List AV:=[B6 p.old,B6 p.new,Ar p.hasOld,Ar p.hasNew]
theorem zn (l:List Val):Le (.agg [B6 l,.nil,Ar true,Ar false]) (Pb ⟨l,[],true,false⟩):=.agg _ _ rfl (by simp;exact ⟨rfl,rfl,rfl,rfl⟩) fun i y y' h h'=>by
 rcases i with _|_|_|_|i<;>simp at h h'<;>subst h<;>subst h'
 ·exact .inl rfl
 ·exact wz
 ·exact .inl rfl
 exact .inl rfl
theorem Ru {c:List Col} {l:List Mov} {row:List Val}:(E2 c l row).2=(Bv c l row).2:=by
 unfold E2
 split
 ·rfl
 rename_i h;simp at h;exact h.symm
theorem W9 {c:List Col} {l:List Mov} {row:List Val}:(E9 c l row).2=(F8 c l row).2:=by
 unfold E9
 split
 ·rfl
 rename_i h;simp at h;exact h.symm
/-- A pair that may be walked. -/
structure PaiOk (p:Pai):Prop where
 rng:∀v∈p.old, -9223372036854775808≤v.n∧v.n≤9223372036854775807
 old:p.old.length≤1048576
 new:p.new.length≤1048576
theorem la:PaiOk W4:=⟨fun v h=>by simp [W4] at h,Ah _,Ah _⟩
theorem uv {c:List Col} (hc:OkCols c) {l:List Mov} (h:OkMovs l) {row:List Val} (hrr:∀v∈row, -9223372036854775808≤v.n∧v.n≤9223372036854775807) (hrl:row.length≤1048576):PaiOk (E2 c l row).1:=by
 by_cases h0:(E2 c l row).2=0
 ·have e:=Tk h0
  have hF:=W1 h hrr (by rw [←Ru];exact h0)
  rw [e]
  exact ⟨hrr,hrl,by show (Bv c l row).1.length≤_;rw [hF.len];exact (Ej hc (fun m hm=>h.each m hm) l.length).len⟩
 rw [W5 h0];exact la
theorem uw {c:List Col} (hc:OkCols c) {l:List Mov} (h:OkMovs l) {row:List Val} (hrr:∀v∈row, -9223372036854775808≤v.n∧v.n≤9223372036854775807) (hrl:row.length≤1048576):PaiOk (E9 c l row).1:=by
 by_cases h0:(E9 c l row).2=0
 ·have e:=Tj h0
  have hO:=ze h hrr (by rw [←W9];exact h0)
  rw [e]
  exact ⟨Qd hO.fine,by show (F8 c l row).1.length≤_;rw [hO.len];exact hc.len,hrl⟩
 rw [W6 h0];exact la
theorem ee {f v:Int} (h:f=0→v=0):((f==0)&&(v != 0))=false:=by
 by_cases hf:f=0
 ·rw [h hf];simp
 simp [hf]
set_option maxHeartbeats 1000000 in
theorem c4 (c:List Col) (l:List Mov) (hrl:∀m∈l,RngMv m) (row:List Val) (hrr:∀v∈row, -9223372036854775808≤v.n∧v.n≤9223372036854775807) (Hp:List AObj):AFun Tryz.prog 4 [Ad c,D6 l,B6 row] Hp (Ar true):=by
 refine Ae [.tmp 6] [0,1,2] Tryz.func4 Tryz.ntmps4 (fun d=>?_)
 refine Z2 ?_;refine A0 [0,1,2] ?_;refine Z52 ?_;refine A6 Tryz.call5 (c5 _) ?_;refine A2 ?_;refine A0 [0,1,2,21] ?_
 refine A1 (fun ht21=>?_) (fun ht21=>?_)
 ·cases ht21
 refine Pq ?_;refine A6 Tryz.call6 (c6u c _) ?_;refine ma ?_;refine Bj Tryz.call7 (fun hB=>c7 l _) ?_;refine gb ?_;refine Bj Tryz.call8 (fun hB=>c8 row _) ?_;refine A2 ?_;refine A0 [0,1,2,31] ?_
 refine A1 (fun ht31=>?_) (fun ht31=>?_)
 ·refine Sl ?_;refine C4 ?_;exact Yp
 simp only [Cm] at ht31
 obtain ⟨⟨hw1,hw2⟩,hw3⟩:=ht31
 have hc:=ju hw1
 have hc2:c.length≤1000000:=uu hw1
 have h:OkMovs l:=ot hw2 hrl
 have hw4:row.length≤1048576:=by
  unfold S9 at hw3
  simp only [Cm,decide_eq_false_iff_not] at hw3
  omega
 have hP:=uv hc h hrr hw4
 have hN:=uw hc h hrr hw4
 refine Z77 ?_;refine A6 Tryz.call10 (c10 c hc hc2 l h row hrr hw4 _) ?_
 rw [Ru]
 refine Pt ?_;refine A0 [0,1,2,7,8] ?_;refine Z18 ?_;refine A6 Tryz.call13 (c13 c hc hc2 l h row hrr hw4 _) ?_;refine Z67 ?_;refine A0 [0,1,2,7,8,9,10] ?_;refine Z27 ?_;refine A0 [0,1,2,7,9,10,48] ?_
 refine A1 (fun ht48=>?_) (fun ht48=>?_)
 ·exfalso
  simp at ht48
 refine Z3 ?_;refine Z69 ?_;refine Z34 ?_;refine A0 [0,1,2,7,9,10,11] ?_
 refine W.join ⟨138,A4 0 (Ad c) (A4 1 (D6 l) (A4 2 (B6 row) (A4 7 (.ptr (oid Hp.length 0) 0) (A4 10 (A5 (Bv c l row).2) (A4 11 (.ptr (oid Hp.length 1) 0) (fun _=>.any)))))),Hp,[.cells 30 (ow (E2 c l row).1),.cells 30 (ow (E2 c l row).1)],[],none⟩ ?_ ?_
 ·refine Z1 ?_;refine A0 [0,1,2,7,9,10,11,51] ?_
  refine A1 (fun ht51=>?_) (fun ht51=>?_)
  ·have hf:(E2 c l row).2=0:=by rw [Ru];simpa using ht51
   refine Z31 ?_;refine ADr ?_;refine A0 [0,1,2,7,10,11] ?_;refine K.thJ ?_
   first|(rw [Tk hf];exact B0 rfl)|(rw [W5 hf];exact B0 rfl)
  have hf:(E2 c l row).2≠0:=by rw [Ru];simpa using ht51
  refine Mr [0,1,2,7,10,11] ?_;refine Me ?_;refine K.thJ ?_
  first|(rw [Tk hf];exact B0 rfl)|(rw [W5 hf];exact B0 rfl)
 refine Z18 ?_;refine R.buildLe (Pb ⟨row,[],true,false⟩) (zn _) (places:=#[(0,1),(1,1),(2,1),(3,1)]) jU (fun w=>by simp) Tryz.zeroValue30 ?_;refine A6 Tryz.call14 (c14 c hc hc2 l h ⟨row,[],true,false⟩ hrr hw4 _) ?_
 rw [show M0 c l ⟨row,[],true,false⟩=E2 c l row from rfl,Ru]
 refine Pt ?_;refine A0 [0,1,2,7,10,11,12,13] ?_;refine Z8 ?_;refine A6 Tryz.call11 (c11 (E2 c l row).1 (E2 c l row).1 hP.old hP.new _) ?_;refine Z29 ?_;refine Qv ?_;refine Bj Tryz.call11 (fun hB=>c11 (E2 c l row).1 (E2 c l row).1 hP.old hP.new _) ?_;refine Uc ?_;refine Z10 ?_;refine Bj Tryz.call15 (fun hB=>c15 c hc hc2 l h (E2 c l row).1 hP.rng hP.old hP.new _) ?_;refine Kl ?_;refine A0 [0,1,2,11,88] ?_
 refine A1 (fun ht88=>?_) (fun ht88=>?_)
 ·exfalso
  have h0:=ee (fun e:(Bv c l row).2=0=>zl (c:=c) (l:=l) (row:=row) (by rw [Ru];exact e))
  simp [h0] at ht88
 refine Z77 ?_;refine A6 Tryz.call9 (c9 c hc hc2 l h row hrr hw4 _) ?_
 rw [W9]
 refine Pt ?_;refine A0 [0,1,2,11,14,15] ?_;refine Z18 ?_;refine A6 Tryz.call16 (c16 c hc hc2 l h row hrr hw4 _) ?_;refine Z67 ?_;refine A0 [0,1,2,11,14,15,16,17] ?_;refine Z27 ?_;refine A0 [0,1,2,11,14,16,17,105] ?_
 refine A1 (fun ht105=>?_) (fun ht105=>?_)
 ·exfalso
  simp at ht105
 refine Z3 ?_;refine Z69 ?_;refine F9 ?_;refine A0 [0,1,2,11,14,16,17] ?_
 refine W.join ⟨138,A4 0 (Ad c) (A4 1 (D6 l) (A4 2 (B6 row) (A4 11 (.ptr (oid Hp.length 1) 0) (A4 14 (.ptr (oid Hp.length 3) 0) (A4 17 (A5 (F8 c l row).2) (fun _=>.any)))))),Hp,[.cells 30 (ow (E2 c l row).1),.cells 30 (ow (E9 c l row).1),.cells 30 (ow (E2 c l row).1),.cells 30 (ow (E9 c l row).1)],[],none⟩ ?_ ?_
 ·refine Z1 ?_;refine A0 [0,1,2,11,14,16,17,108] ?_
  refine A1 (fun ht108=>?_) (fun ht108=>?_)
  ·have ho:(E9 c l row).2=0:=by rw [W9];simpa using ht108
   refine Z31 ?_;refine ADr ?_;refine A0 [0,1,2,11,14,17] ?_;refine K.thJ ?_
   first|(rw [Tj ho];exact B0 rfl)|(rw [W6 ho];exact B0 rfl)
  have ho:(E9 c l row).2≠0:=by rw [W9];simpa using ht108
  refine Mr [0,1,2,11,14,17] ?_;refine Me ?_;refine K.thJ ?_
  first|(rw [Tj ho];exact B0 rfl)|(rw [W6 ho];exact B0 rfl)
 refine Z18 ?_;refine R.buildLe (Pb ⟨[],row,false,true⟩) (ACp _) (places:=#[(0,1),(1,1),(2,1),(3,1)]) jU (fun w=>by simp) Tryz.zeroValue30 ?_;refine A6 Tryz.call14 (c14 c hc hc2 l h ⟨[],row,false,true⟩ (fun v h=>by cases h) (Ah _) _) ?_;refine Pt ?_;refine A0 [0,1,11,14,17,19] ?_;refine Z1 ?_;refine A6 Tryz.call11 (c11 (E9 c l row).1 (E9 c l row).1 hN.old hN.new _) ?_;refine A2 ?_;refine Ot ?_;refine Z10 ?_;refine Bj Tryz.call15 (fun hB=>c15 c hc hc2 l h (E9 c l row).1 hN.rng hN.old hN.new _) ?_;refine Z10 ?_;refine Z29 ?_;refine Z0 ?_;refine Z75 ?_
 have h0:=ee (fun e:(F8 c l row).2=0=>zm (c:=c) (l:=l) (row:=row) (by rw [W9];exact e))
 exact A7 (Ai A3) ⟨by simp at h0;simp [M0];first|exact h0|(by_cases e:(F8 c l row).2=0<;>simp [e] at h0 ⊢<;>exact h0),rfl⟩

end Go.SX.Nb
namespace Go.Proofs.YtcmnamfkljlglaaGreatDoor
open Go Go.SX Go.SX.Nb Go.ChangeShapes Go.RowKit
set_option maxRecDepth 100000
theorem ox:Tryz.pinned.checked.prog.funcNamed Rows.bothWritesRow.func=some 4:=by kernel_rfl
theorem zo:laidOutB Tryz.pinned.checked.prog=true:=by kernel_rfl
theorem zp:(Rows.bothWritesRow.inPlace==Tryz.pinned.checked.prog.inPlace 4)=true:=by kernel_rfl
theorem zq:(Rows.bothWritesRow.unfollowed==Tryz.pinned.checked.prog.unfollowed 4)=true:=by kernel_rfl
theorem zr:(Rows.bothWritesRow.recurses==Tryz.pinned.checked.prog.recurses 4)=true:=by kernel_rfl
theorem zt:(Rows.bothWritesRow.named==Tryz.pinned.checked.prog.varsNamed 4)=true:=by kernel_rfl
theorem zu:Tryz.pinned.checked.prog.mayEnter=true:=by kernel_rfl
theorem jc:joinedFacts Tryz.pinned.checked.prog 4 Tryz.f4 (OpenSpec.ofChange Rows.bothWritesSpec).bare Rows.bothWritesRow=true:=by
 unfold joinedFacts
 rw [zo,zp,zq,zr,zt,zu]
 kernel_rfl
theorem oy:false=Rows.bothWritesRow.goesBy Tryz.pinned.checked.prog:=by kernel_rfl
theorem oz:Tryz.f4.isInstance Tryz.pinned.checked.prog Rows.bothWritesRow.origin Rows.bothWritesRow.targs:=of_decide_eq_true (by kernel_rfl)
theorem p4:Tryz.f4.isWrapper Tryz.pinned.checked.prog Rows.bothWritesRow.wrapper Rows.bothWritesRow.mainSum:=by
 unfold Func.isWrapper
 first|(rw [if_pos (by decide +kernel)];kernel_rfl)|(rw [if_neg (by decide +kernel)];exact ⟨rfl,rfl⟩)
end Go.Proofs.YtcmnamfkljlglaaGreatDoor
