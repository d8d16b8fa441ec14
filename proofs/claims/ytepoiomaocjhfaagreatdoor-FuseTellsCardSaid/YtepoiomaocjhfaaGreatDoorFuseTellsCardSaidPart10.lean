/- Texts on the way to this: FuseTells answers true for whatever it is handed: the trees of all columns behind and ahead are what the chapter says, composed one move behind the other, or the error. (part 10) -/
import Derived.Test.YtepoiomaocjhfaaGreatDoorFuseTellsCardSaidPart9
set_option linter.all false
namespace Go.SX.Nb
open Go Go.SX Go.Proofs
variable [ErrAt]
set_option maxRecDepth 4000
/-! The trees of all columns ahead, from the last move to the first. -/
def Cb (c:List Col):List Mov→List Expr×Int
 | []=>(I8 c,0)
 | m::r=>if (Cb (Am c m).1 r).2 != 0 then ([],(Cb (Am c m).1 r).2) else if (B1 (Am c m).1 (Cb (Am c m).1 r).1 m.back).2 != 0 then ([],(B1 (Am c m).1 (Cb (Am c m).1 r).1 m.back).2)
  else (Ey c m.take (B1 (Am c m).1 (Cb (Am c m).1 r).1 m.back).1 (Cb (Am c m).1 r).1 (Am c m).1,0)
theorem Yn {c:List Col} {m:Mov} (hc:OkCols c) (hm:OkMov m):OkCols (Am c m).1:=by
 simpa [colsAt] using Eb hc (ms:=[m]) (fun x hx=>by rw [List.mem_singleton.1 hx];exact hm) 1
theorem Ub {c:List Col} (h:Bf c=true):((D4 c []).2 != 0)=false:=by
 have:Iy c []=true:=by unfold Iy;rw [h];rfl
 unfold D4 Fz
 rw [if_pos this]
 rfl
theorem kq {c:List Col} (h:Bf c=true):Hc c []=(I8 c,0):=by rw [Kz (Ub h)];rfl
theorem Rx {c:List Col} {m:Mov} {r:List Mov} (h:(Bn c (m::r)).2=0):(Am c m).2=0∧(Bn (Am c m).1 r).2=0:=by
 unfold Bn at h
 split at h
 ·rename_i h1;exact absurd h (by simpa using h1)
 rename_i h1;exact ⟨by simpa using h1,h⟩
theorem qu {c d:List Col} {take:List Str} {was t:List Expr} {p:Expr→Prop} (h0:p Aa) (hw:∀e∈was,p e) (ht:∀e∈t,p e):∀e∈Ey c take was t d,p e:=fun e he=>by
 obtain ⟨x,_,rfl⟩:=List.mem_map.1 he
 rcases f8 (take:=take) (was:=was) (t:=t) (d:=d) (x:=x) with h|h|h
 ·exact hw _ h
 ·exact ht _ h
 rw [h];exact h0
/-- Trees that may be put. -/
structure BOk (t:List Expr) (n:Nat):Prop where
 tok:TOk t
 size:∀e∈t,sizeE e≤1048576
 len:t.length=n
theorem N2:∀(l:List Mov) (c:List Col),OkCols c→(∀m∈l,OkMov m)→(Cb c l).2=0→BOk (Cb c l).1 c.length
 | [],c,hc,_,_=>⟨Rq hc,Ym (c:=c) (l0:=[]),by simp [Cb,I8]⟩
 | m::r,c,hc,hm,h=>by
  have hmo:=hm m List.mem_cons_self
  unfold Cb at h ⊢
  split at h
  ·rename_i h1;exact absurd h (by simpa using h1)
  rename_i h1
  rw [if_neg h1]
  have ih:=N2 r _ (Yn hc hmo) (fun x hx=>hm x (List.mem_cons_of_mem _ hx)) (by simpa using h1)
  split at h
  ·rename_i h2;exact absurd h (by simpa using h2)
  rename_i h2
  rw [if_neg h2]
  have h3:=Ma m.back (by simpa using h2)
  refine ⟨Yh (J0 ih.tok _ hmo.back.ok hmo.back.rng (by simpa using h2)) ih.tok,qu (by decide) (fun e he=>?_) ih.size,by simp [Ey]⟩
  have h4:=h3 e he
  rw [Bu] at h4
  have:=(Gt h4).2
  omega
/-- Where a name was last met among the first k. -/
def Je (v:Str) (l:List Str) (k:Nat):Int:=if 0≤F0 v l∧F0 v l<k then F0 v l else -1
theorem AEi {v:Str} {l:List Str}:Je v l 0 = -1:=if_neg (by omega)
theorem z6 {v:Str} {l:List Str} {k:Nat} (h:l.length≤k):Je v l k=F0 v l:=by
 unfold Je
 split
 ·rfl
 rename_i h1
 by_cases h0:0≤F0 v l
 ·obtain ⟨j,hj,hjl⟩:=cp h0
  exact absurd ⟨h0,by omega⟩ h1
 have:F0 v l = -1:=by
  unfold F0 at h0 ⊢
  cases hf:l.findIdx? (·==v) with
  | none=>rfl
  | some i=>rw [hf] at h0;exact absurd (Int.natCast_nonneg i) h0
 exact this.symm
theorem kr {v:Str} {l:List Str} {k:Nat} (hn:l.Nodup) (hk:k<l.length) (h:l[k]=v):F0 v l=k:=bf hk h (fun j y hj hy e=>by
 have h':List.Pairwise (·≠·) l:=hn
 rw [List.pairwise_iff_getElem] at h'
 obtain ⟨hj',ej⟩:=List.getElem?_eq_some_iff.1 hy
 exact h' j k hj' hk hj (by rw [ej,e,h]))
theorem z7 {v:Str} {l:List Str} {k:Nat} (hn:l.Nodup) (hk:k<l.length) (h:(l[k]==v)=true):Je v l (k+1)=k:=by
 have:=kr hn hk (by simpa using h)
 unfold Je
 rw [this,if_pos ⟨by omega,by omega⟩]
theorem vl {v:Str} {l:List Str} {k:Nat} (hk:k<l.length) (h:(l[k]==v)=false):Je v l (k+1)=Je v l k:=by
 have hne:F0 v l≠k:=fun e=>by
  unfold F0 at e
  cases hf:l.findIdx? (·==v) with
  | none=>rw [hf] at e;exact absurd e (by simp)
  | some i =>
   rw [hf] at e
   have e2:i=k:=Int.ofNat.inj e
   subst e2
   have:=(List.findIdx?_eq_some_iff_getElem.1 hf).2.1
   rw [h] at this
   cases this
 unfold Je
 by_cases h1:0≤F0 v l∧F0 v l<k
 ·rw [if_pos h1,if_pos ⟨h1.1,by omega⟩]
 rw [if_neg h1,if_neg (by omega)]
theorem Yo {c:List Col} {m:Mov} (h:(Am c m).2=0):m.take.Nodup:=by
 unfold Am at h
 split at h
 ·rename_i h1
  exact xi
 rename_i h1
 exact (bt (dr (by simpa using h1:(Bp c m.take (Al c m)).2=0)).2.1).2
set_option maxHeartbeats 1000000 in
theorem c30:∀(l:List Mov) (c:List Col),OkCols c→OkMovs l→Bf c=true→(∀m∈l,Di m=true)→(Bn c l).2=0→∀Hp:List AObj,AFun Tryz.prog 30 [A8 c,Ca l] Hp (.tup [Au (Cb c l).1,A2 (Cb c l).2]):=by
 intro l
 generalize hn:l.length=n
 induction n using Nat.strongRecOn generalizing l with
 | _ n ih =>
 intro c hc h hrc hmv hst Hp
 refine ACall.body [.tmp 4,.tmp 5] [0,1] Tryz.func30 Tryz.ntmps30 (fun d=>?_)
 refine mr ?_;refine Z34 ?_;refine R.fin [0,1,21] ?_
 refine W.cond (fun ht21=>?_) (fun ht21=>?_)
 ·obtain rfl:l=[]:=by simpa using ht21
  refine Z1 ?_;refine R.call Tryz.call29 (c29 c hc [] h (Ub hrc) _) ?_
  rw [kq hrc]
  refine Z69 ?_;refine Z41 ?_;exact K.fin (V.two V.tmp V.tmp) ⟨rfl,rfl⟩ (hlow:=by simp only [J4,List.mem_cons,List.mem_nil_iff,or_false];rintro y (rfl|rfl);exact Bd;simp)
 obtain ⟨m,r,rfl⟩:∃m r,l=m::r:=by
  cases l with
  | nil=>simp at ht21
  | cons m r=>exact ⟨m,r,rfl⟩
 have hmo:=h.each m List.mem_cons_self
 have hm1:=hmv m List.mem_cons_self
 have hst2:=Rx hst
 have hteq:=J1 hst2.1
 have hDo:=Yn hc hmo
 have hnd:=Yo hst2.1
 have hcl:=(Kc (by rw [Fv];exact hrc)).1
 have hdl:=(Kc (by rw [Fv];exact hteq.2.2)).1
 have hcnt:=(De (Gq hm1)).2
 have hbl:=hmo.back.len
 refine L1 ?_
 refine R.go (h:=Q.indexAddr (0) (Dq m) (fun _=>rfl)) (hr:=?_)
 refine Ml ?_;refine R.fin [0,1,6] ?_;refine Z1 ?_;refine R.call Tryz.call39 (c39 c hc m (eh hmo (Gq hm1)) _) ?_;refine Z77 ?_;refine R.fin [0,1,6,7] ?_;refine Z1 ?_
 refine R.go (h:=Q.cutL 1 (fun _=>by simp) (fun _=>Nat.le_refl _)) (hr:=?_)
 refine R.call Tryz.call30 (ih r.length (by rw [←hn];simp) r rfl (Am c m).1 hDo ⟨by have:=h.len;simp at this;omega,fun x hx=>h.each x (.tail _ hx)⟩ hteq.2.2 (fun x hx=>hmv x (.tail _ hx)) hst2.2 _) ?_
 refine Z77 ?_;refine R.fin [0,6,7,9,10] ?_;refine Z8 ?_;refine R.fin [0,6,7,9,10,44] ?_
 refine W.cond (fun ht44=>?_) (fun ht44=>?_)
 ·have hm:Cb c (m::r)=([],(Cb (Am c m).1 r).2):=by rw [Cb,if_pos ht44]
  refine Z1 ?_;refine me ?_;exact Z72
 have hbo:=N2 r (Am c m).1 hDo (fun x hx=>h.each x (.tail _ hx)) (by simpa using ht44)
 have hb:Cb c (m::r)=if (B1 (Am c m).1 (Cb (Am c m).1 r).1 m.back).2 != 0 then ([],(B1 (Am c m).1 (Cb (Am c m).1 r).1 m.back).2) else (Ey c m.take (B1 (Am c m).1 (Cb (Am c m).1 r).1 m.back).1 (Cb (Am c m).1 r).1 (Am c m).1,0):=by rw [Cb,if_neg (by rw [ht44];simp)]
 have hst3:∀y∈c,¬0≤F0 y.name m.take→∃j:Nat,Af y.name (Am c m).1=j∧j<(Am c m).1.length:=fun y hy hn=>wm hst2.1 hy hn
 have hbl2:=hbo.len
 generalize (Cb (Am c m).1 r).1=t at *
 generalize (Am c m).1=d at *
 refine Z5 ?_;refine S9 ?_;refine R.fin [0,6,7,9,11] ?_;refine Z31 ?_;refine R.fin [0,6,7,9,11,12] ?_
 refine AW.loopC (α:=Nat) (fun i=>⟨121,A3 0 (A8 c) (A3 6 (.ptr (oid Hp.length 0) 0) (A3 7 (A8 d) (A3 9 (Au t) (A3 11 (.slice true 6 (((m.back.take i).map (fun e=>(Ci e d t).1)).map A4)) (A3 12 (A2 (i:Nat)) (fun _=>.any)))))),Hp,[AObj.cells 64 (Fd m)],[],none⟩) (fun i=>i≤m.back.length∧∀(j:Nat) (y:Expr),j<i→m.back[j]? = some y→((Ci y d t).2 != 0)=false) (fun i=>m.back.length-i) (0) ⟨Nat.zero_le _,fun j y h=>by omega⟩ (StLe.of_eq (by simp)) rfl (fun i hi=>?_)
 refine L0 ?_;refine R.fin [0,6,7,9,11,12,51] ?_
 refine W.cond (fun ht51=>?_) (fun ht51=>?_)
 ·have hli:i<m.back.length:=by simpa using ht51
  refine Pe ?_
  refine R.go (h:=Q.indexAddr (i) (A4 m.back[i]) (fun _=>Ad hli)) (hr:=?_)
  refine Z22 ?_;refine R.call Tryz.call24 (c24 m.back[i] (hmo.back.ok _ (List.getElem_mem hli)) (hmo.back.size _ (List.getElem_mem hli)) d hDo (by omega) t (by omega) hbo.tok.ok hbo.size _) ?_
  rw [←ff (show d.length<100 by omega)]
  refine Uy ?_;refine R.fin [0,6,7,9,11,12,13,14] ?_;refine Z8 ?_;refine R.fin [0,6,7,9,11,12,13,14,66] ?_
  refine W.cond (fun ht66=>?_) (fun ht66=>?_)
  ·have hv:=J2 hi.2 (List.getElem?_eq_getElem hli) ht66
   rw [hv] at hb
   have hm:=hb.trans (if_pos ht66)
   refine Z1 ?_;refine me ?_;refine Z41 ?_;exact rl
  refine ij ?_
  refine R.append jU Tryz.type45 ?_ ?_ ?_
  ·simp only [List.length_map,List.length_take,List.length_append,List.length_cons,List.length_nil,Tryz.t45];omega
  ·simp only [List.length_map,List.length_take,List.length_append,List.length_cons,List.length_nil,Tryz.t45];omega
  refine Ic ?_;refine R.fin [0,6,7,9,11,12] ?_;refine Z83 ?_;refine R.fin [0,6,7,9,11,12] ?_;refine K.lpN (i+1) ⟨hli,Ax hli hi.2 ht66⟩ (by omega) ?_
  rw [Fi hli,List.map_append]
  rw [List.map_cons,List.map_nil,A7]
  exact StCut.take (own:=[AObj.cells 64 (Fd m)]) (fun _=>.refl _) (by repeat (first|exact As|refine Ar (by first|exact Ff|exact Gv|exact Bd|exact C8|exact H4|(simp [oid,or_imp,forall_and];done)) ?_)) (by intro x hx;rw [List.mem_singleton.1 hx];exact Kw) (by simp)
 have hie:m.back.length≤i:=by simpa using ht51
 have hov:=Ky fun j y hy=>hi.2 j y (by have:=(List.getElem?_eq_some_iff.1 hy).1;omega) hy
 rw [List.take_of_length_le hie]
 rw [hov] at hb
 replace hb:=hb.trans (if_neg (by simp))
 simp only at hb
 have hwl:(m.back.map (fun e=>(Ci e d t).1)).length=m.take.length:=by rw [List.length_map];exact hcnt
 generalize m.back.map (fun e=>(Ci e d t).1)=w at *
 refine Z40 ?_;refine S9 ?_;refine R.fin [0,6,7,9,11,15] ?_;refine Z31 ?_;refine n7 ?_
 refine AW.loopC (α:=Nat) (fun z=>⟨121,A3 0 (A8 c) (A3 6 (.ptr (oid Hp.length 0) 0) (A3 7 (A8 d) (A3 9 (Au t) (A3 11 (.slice true 6 (w.map A4)) (A3 15 (.slice true 6 (((Ey c m.take w t d).take z).map A4)) (A3 16 (A2 (z:Nat)) (fun _=>.any))))))),Hp,[AObj.cells 64 (Fd m)],[],none⟩) (fun z=>z≤c.length) (fun z=>c.length-z) (0) (Nat.zero_le _) (StLe.of_eq (by simp)) rfl (fun z hz=>?_)
 refine Z49 ?_;refine R.fin [0,6,7,9,11,15,16,76] ?_
 refine W.cond (fun ht76=>?_) (fun ht76=>?_)
 ·have hz2:z<c.length:=by simpa using ht76
  have hnl:((Ey c m.take w t d).take z).length≤z:=List.length_take_le _ _
  refine Z38 ?_;refine Z2 ?_;refine R.fin [0,6,7,9,11,15,16,17] ?_;refine Z31 ?_;refine sj ?_
  refine AW.loopC (α:=Nat) (fun j=>⟨121,A3 0 (A8 c) (A3 6 (.ptr (oid Hp.length 0) 0) (A3 7 (A8 d) (A3 9 (Au t) (A3 11 (.slice true 6 (w.map A4)) (A3 15 (.slice true 6 (((Ey c m.take w t d).take z).map A4)) (A3 16 (A2 (z:Nat)) (A3 17 (A2 (Je c[z].name m.take j)) (A3 18 (A2 (j:Nat)) (fun _=>.any))))))))),Hp,[AObj.cells 64 (Fd m)],[],none⟩) (fun j=>j≤m.take.length) (fun j=>m.take.length-j) (0) (Nat.zero_le _) (StLe.of_eq (by rw [AEi]<;>rfl)) rfl (fun j hj=>?_)
  refine L0 ?_;refine R.fin [0,6,7,9,11,15,16,17,18,83] ?_
  refine W.cond (fun ht83=>?_) (fun ht83=>?_)
  ·have hlj:j<m.take.length:=by simpa using ht83
   refine Z38 ?_;refine W.drawQ [0,1,0,7,15,0,0,96,224,480,1023] 10 Ac (by kernel_rfl) ?_;refine Z44 ?_
   refine D.go (h:=Q.indexAddr (j) (A5 m.take[j]) (fun _=>Ad hlj)) (hr:=?_)
   refine Z44 ?_
   refine D.go (h:=Q.indexAddr (z) (An c[z]) (fun _=>Ad hz2)) (hr:=?_)
   refine Z14 ?_;refine Ux ?_;refine R.fin [0,6,7,9,11,15,16,17,18,96] ?_
   refine W.cond (fun ht96=>?_) (fun ht96=>?_)
   ·have hat:=z7 hnd hlj ht96
    refine Z10 ?_;refine sj ?_;refine Z83 ?_;refine sj ?_
    refine K.lpN (j+1) hlj (by omega) (StCut.of_eq ?_)
    rw [hat]<;>rfl
   have hat:=vl hlj ht96
   refine Z65 ?_;refine sj ?_
   refine K.lpN (j+1) hlj (by omega) (StCut.of_eq ?_)
   rw [hat]<;>rfl
  have hje:m.take.length≤j:=by simpa using ht83
  rw [z6 hje]
  refine Z40 ?_;refine Z1 ?_;refine R.fin [0,6,7,9,11,15,16,17,99] ?_
  refine W.cond (fun ht99=>?_) (fun ht99=>?_)
  ·obtain ⟨q,hq,hql⟩:=cp (by simpa using ht99)
   have hpk:Ih m.take w t d c[z]=w.getD q Aa:=by unfold Ih;rw [if_pos (by rw [hq];omega),hq];rfl
   refine Z73 ?_;refine Z0 ?_
   refine R.go (h:=Q.indexAddr (q) (A4 (w.getD q Aa)) (fun _=>vh (by omega))) (hr:=?_)
   refine Z52 ?_
   refine R.append jU Tryz.type45 ?_ ?_ ?_
   ·simp only [List.length_map,List.length_take,List.length_append,List.length_cons,List.length_nil,Tryz.t45];omega
   ·simp only [List.length_map,List.length_take,List.length_append,List.length_cons,List.length_nil,Tryz.t45];omega
   refine Ic ?_;refine n7 ?_;refine Z83 ?_;refine n7 ?_
   refine K.lpN (z+1) hz2 (by omega) (StCut.of_eq ?_)
   rw [N1 hz2,hpk,List.map_append,List.map_cons,List.map_nil,A7]
   rfl
  have hjn:¬0≤F0 c[z].name m.take:=by simpa using ht99
  obtain ⟨q,hq,hql⟩:=hst3 _ (List.getElem_mem hz2) hjn
  have hpk:Ih m.take w t d c[z]=t.getD q Aa:=by unfold Ih;rw [if_neg hjn,hq];rfl
  refine Z73 ?_;refine Z69 ?_
  refine R.go (h:=Q.indexAddr (z) (An c[z]) (fun _=>Ad hz2)) (hr:=?_)
  refine Z0 ?_;refine R.call Tryz.call50 (c50 d hDo c[z].name _) ?_
  refine R.go (h:=Q.indexAddr (q) (A4 (t.getD q Aa)) (fun _=>vh (by omega))) (hr:=?_)
  refine Z52 ?_
  refine R.append jU Tryz.type45 ?_ ?_ ?_
  ·simp only [List.length_map,List.length_take,List.length_append,List.length_cons,List.length_nil,Tryz.t45];omega
  ·simp only [List.length_map,List.length_take,List.length_append,List.length_cons,List.length_nil,Tryz.t45];omega
  refine Ic ?_;refine n7 ?_;refine Z83 ?_;refine n7 ?_
  refine K.lpN (z+1) hz2 (by omega) (StCut.of_eq ?_)
  rw [N1 hz2,hpk,List.map_append,List.map_cons,List.map_nil,A7]
  rfl
 have hze:c.length≤z:=by simpa using ht76
 rw [List.take_of_length_le (by rw [Ey,List.length_map];exact hze)]
 refine Z40 ?_;refine Z20 ?_;refine Z16 ?_;exact K.fin (V.two V.tmp V.tmp) ⟨by rw [hb],rfl⟩ (hlow:=by simp only [J4,List.mem_cons,List.mem_nil_iff,or_false];rintro y (rfl|rfl);exact Bd;simp)

/-! mig.Parse: the first fault is Zi. -/
inductive PR (α:Type) where
 | ok (r:α) (i:Nat)
 | bad (e a:Int)
def PR.bind {α β:Type} (x:PR α) (f:α→Nat→PR β):PR β:=match x with
 | .ok r i=>f r i
 | .bad e a=>.bad e a
def Uc {α:Type} (L:List Tok) (i:Nat) (e:Int):PR α:=.bad e (A9 L i).at_
def isP (L:List Tok) (s:Str) (i:Nat):Bool:=(((A9 L i).kind==5) || ((A9 L i).kind==2))&&((A9 L i).text==s)
def Bq (L:List Tok) (s:Str) (i:Nat):PR Unit:=if isP L s i then .ok () (i+1) else Uc L i 8
def F7 (L:List Tok) (i:Nat):PR Str:=if (A9 L i).kind != 1 then Uc L i 8 else .ok (A9 L i).text (i+1)
def fg (L:List Tok) (nm:Str) (j:Nat):PR Col:=if ((A9 L j).kind != 2) || (Ot (A9 L j).text==0) then Uc L j 8 else .ok ⟨nm,Ot (A9 L j).text⟩ (j+1)
def Hn (L:List Tok) (i:Nat):PR Col:=(F7 L i).bind (fg L)
def Jl (L:List Tok) (i:Nat):PR Expr:=if (atM L i).2.2.1 != 0 then .bad (atM L i).2.2.1 (atM L i).2.2.2 else .ok (atM L i).1 (atM L i).2.1.toNat
def Cc (m:Mov) (c:Col):Mov:={ m with give:=m.give++[c] }
def fh (m:Mov) (x:Expr):Mov:={ m with ahead:=m.ahead++[x] }
def Da (L:List Tok) (m:Mov) (i:Nat):PR Mov:=(Hn L i).bind fun c j=>(Bq L [61] j).bind fun _ j=>(Jl L j).bind fun x j=>.ok (fh (Cc m c) x) j
def P3 (L:List Tok) (n:Int) (k:Nat) (i:Nat):Bool:=decide ((k:Int)<n) || ((n==0)&&(decide ((k:Int)<2) || isP L [44] i))
/-- Things with commas between, behind the first k. -/
def N3 (L:List Tok) (n:Int) (one:Mov→Nat→PR Mov):Nat→Nat→Mov→Nat→PR Mov
 | 0,_,m,i=>.ok m i
 | f+1,k,m,i=>if P3 L n k i then (Bq L [44] i).bind fun _ j=>(one m j).bind fun m j=>N3 L n one f (k+1) m j else .ok m i
def G9 (L:List Tok) (n:Int) (one:Mov→Nat→PR Mov) (m:Mov) (i:Nat):PR Mov:=(one m i).bind fun m j=>N3 L n one (L.length+1) 1 m j
def qv:Str:=[98,97,99,107]
def Hg:Str:=[105,110,116,111]
def toW:Str:=[116,111]
def fj (m:Mov) (x:Expr):Mov:={ m with back:=m.back++[x] }
def P4 (L:List Tok) (m:Mov) (i:Nat):PR Mov:=(Jl L i).bind fun x j=>.ok (fj m x) j
def E9 (L:List Tok) (m:Mov) (i:Nat):PR Mov:=(Bq L qv i).bind fun _ j=>G9 L m.take.length (P4 L) m j
def Ho (L:List Tok) (m:Mov) (i:Nat):PR Mov:=(F7 L i).bind fun s j=>(Bq L toW j).bind fun _ j=>(F7 L j).bind fun t j=>.ok ⟨m.kind,[s],[⟨t,0⟩],[Ap s],[Ap t]⟩ j
def takeS (m:Mov) (s:Str):Mov:={ m with take:=[s] }
def fk (m:Mov) (s:Str):Mov:={ m with take:=m.take++[s] }
def N4 (L:List Tok) (m:Mov) (i:Nat):PR Mov:=(F7 L i).bind fun s j=>.ok (fk m s) j
def Ga (L:List Tok) (m:Mov) (i:Nat):PR Mov:=
 if m.kind==1 then Da L m i
 else if m.kind==2 then (F7 L i).bind fun s j=>E9 L (takeS m s) j
 else if m.kind==3 then Ho L m i
 else if m.kind==4 then (F7 L i).bind fun s j=>(Bq L Hg j).bind fun _ j=>(G9 L 0 (Da L) (takeS m s) j).bind fun m j=>E9 L m j
 else if m.kind==5 then (G9 L 0 (N4 L) m i).bind fun m j=>(Bq L Hg j).bind fun _ j=>(Da L m j).bind fun m j=>E9 L m j
 else if m.kind==6 then (Da L m i).bind fun m j=>E9 L (takeS m (m.give.getD 0 ⟨[],0⟩).name) j
 else .ok m i
def migWords:List Str:=[[],[97,100,100],[100,114,111,112],[114,101,110,97,109,101],[115,112,108,105,116],[109,101,114,103,101],[114,101,116,121,112,101]]
def Co (k:Int):Str:=if (decide (k<1) || decide (6<k))=true then [] else migWords.getD k.toNat []
def F9 (s:Str):Int:=if Co 1==s then 1 else if Co 2==s then 2 else if Co 3==s then 3 else if Co 4==s then 4 else if Co 5==s then 5 else if Co 6==s then 6 else 0
def Kj (L:List Tok) (i:Nat):PR Mov:=
 if ((A9 L i).kind != 2) || (F9 (A9 L i).text==0) then Uc L i 8
 else (Ga L ⟨F9 (A9 L i).text,[],[],[],[]⟩ (i+1)).bind fun m j=>(Bq L [59] j).bind fun _ j=>.ok m j
/-- Moves, behind some. -/
def Jf (L:List Tok):Nat→List Mov→Nat→PR (List Mov)
 | 0,l,i=>.ok l i
 | f+1,l,i=>if (A9 L i).kind != 0 then (if (l.length:Int)==8 then Uc L i 3 else (Kj L i).bind fun m j=>Jf L f (l++[m]) j) else .ok l i
def Hd (L:List Tok):PR (List Mov):=Jf L 9 [] 0
/-- The moves; the fault's code and place. -/
def cr (s:Str):List Mov×Int×Int:=
 if (Et s).2.1 != 0 then ([],(Et s).2.1,(Et s).2.2)
 else match Hd (Et s).1 with
  | .ok l _=>(l,0,0)
  | .bad e a=>([],e,a)
end Go.SX.Nb
namespace Go.SX
variable [GI:GlobInv]
open Classical
section
variable {P:Program} {d:Nat}
variable {sz:Nat} {dfs:List Nat} {rnd:Option Nat} {l0:List Oper} {up own:(Nat→Bool)→List AObj} {KP:List PanicEntry→St→Prop} {E:List Oper→(Nat→AV)→Prop} {S:List SegY} {l:List Oper} {fr:Nat→AV} {ty:TypeId} {pos:String} {aft:Array Edge} {s:Nat} {T F:List Nat}
end
section
variable {P:Program} {d:Nat} {ops:Array Oper}
theorem AW.upEq {c:Code} {sz:Nat} {fr:Nat→AV} {up up' own:List AObj} {dfs:List Nat} {rnd:Option Nat} {K:Exit→St→Prop} (e:up=up') (h:AW P d c ⟨sz,fr,up',own,dfs,rnd⟩ K):AW P d c ⟨sz,fr,up,own,dfs,rnd⟩ K:=e ▸ h
end
end Go.SX
namespace Go.SX
variable [GI:GlobInv]
open Classical
section
variable {P:Program} {d:Nat} {st:St} {ty:TypeId} {pos:String} {aft:Array Edge} {gd:Option (Nat×Bool)}
/-- A variable of its own, not laid yet. -/
theorem AOp.allocP {t:TypeId} {z:Value} {k s:Nat} (hz:∀w,(zeroValue t).run P w=.ok z w) (hk:z.cells.size=k) (hs:s<st.sz):
  AOp P d ⟨some s,.alloc t,ty,pos,aft,gd⟩ st (·=st.set s (.cellp k)):=by
 subst hk
 intro G a w h Q'
 let G':Gh:={ G with tag:=fun b o=>if b=w.heap.size∧o<z.cells.size then .tail (.slot d s) else G.tag b o }
 have hfree:∀o,G.tag w.heap.size o=.free:=fun o=>D6 h.tags _ o (Nat.le_refl _)
 have hne:∀b o,G.tag b o≠.free→¬(b=w.heap.size∧o<z.cells.size):=fun b o hb hc=>by rw [hc.1] at hb;exact hb (hfree o)
 have hkeep:∀b o,G.tag b o≠.free→G'.tag b o=G.tag b o:=fun b o hb=>by simp only [G'];rw [if_neg (hne b o hb)]
 have hcell:∀b o,G.tag b o≠.free→(w.alloc (.cells z.cells t)).cell? ⟨b,o,none⟩=w.cell? ⟨b,o,none⟩:=fun b o hb=>by
  refine World.cell?_alloc_old _ _ _ ?_
  show b≠w.heap.size
  rintro rfl
  exact hb (hfree o)
 have T:Turn G w G' (w.alloc (.cells z.cells t)):=by
  refine ⟨fun b o hb=>⟨by rw [hkeep b o (by rw [hb];simp)];exact hb,hcell b o (by rw [hb];simp)⟩,fun b o L hb=>by rw [hkeep b o (by rw [hb];simp)];exact hb,fun b o i hb=>by rw [hkeep b o (by rw [hb];simp)];exact hb,Nat.le_refl _,fun o ho=>rfl,rfl,rfl,rfl,by simp,Still.alloc _ (fun b o hb=>.inl (by simp only [G'];rw [if_neg (by omega)])) (fun i hi=>.inl ⟨hi,rfl⟩)⟩
 have h1:StRel d G' st a (w.alloc (.cells z.cells t)):=by
  refine h.turn (U:=st.up) (O:=st.own) T ⟨fun i x hx=>T.objRel ?_ ?_ (h.heap.obj i x hx) (fun b hb=>?_),h.heap.n,h.heap.inj⟩ rfl h.defsAt ⟨fun b o hb=>?_,fun b o i hb=>?_,fun b o L hb=>?_,h.tags.globKeep T.old⟩ h.low
  ·rw [h.heap.n];exact (List.getElem?_eq_some_iff.1 hx).1
  ·have:=(h.heap.obj i x hx).blt
   show (w.heap.push _)[G.blk i]? = _
   rw [Array.getElem?_push,if_neg (by omega)]
  ·have:=hb.lt
   show (w.heap.push _)[b]? = _
   rw [Array.getElem?_push,if_neg (by omega)]
  ·simp only [G'] at hb
   split at hb
   ·rename_i hc
    obtain ⟨rfl,hlt⟩:=hc
    exact ⟨z.cells[o],by rw [World.cell?_alloc_new];exact Array.getElem?_eq_getElem hlt⟩
   rw [hcell b o hb]
   exact h.tags.ex b o hb
  ·simp only [G'] at hb
   split at hb
   ·cases hb
   rw [World.frozen?_alloc_old]
   ·exact h.tags.obj b o i hb
   show b≠w.heap.size
   rintro rfl
   rw [hfree] at hb;cases hb
  simp only [G'] at hb
  split at hb
  ·rename_i hc
   obtain ⟨rfl,hlt⟩:=hc
   exact World.frozen?_alloc_new _ _ _ _
  rw [World.frozen?_alloc_old]
  ·exact h.tags.tail b o L hb
  show b≠w.heap.size
  rintro rfl
  rw [hfree] at hb;cases hb
 have hrun:(execOp a.eval (⟨some s,.alloc t,ty,pos,aft,gd⟩:Oper)).run P w=.ok (.value (.pointer (some ⟨w.heap.size,0,none⟩))) (w.alloc (.cells z.cells t)):=by
  simp [execOp,Instr.alloc,hz,newVar,newRow]
 refine Br (by intro c h;cases h) hrun ⟨G',_,h1.put (s:=s) (y:=.cellp z.cells.size) hs ?_,T.keep d,rfl,rfl,rfl,rfl⟩
 exact .cellp _ _ _ ⟨_,rfl,fun o ho=>by simp [G',ho]⟩

/-- It is laid: from now on nobody writes it. -/
theorem AOp.storeP {t:TypeId} {x:Operand} {r k:Nat} {y:AV} (hsz:∀w,(sizeOf t).run P w=.ok k w) (hf:st.fr r=.cellp k) (hx:st.ev x=y) (hk:y.cells.length=k) (hk0:0<k) (h1:y.cells.all AV.one=true):
  AOp P d ⟨none,.store t (.tmp r) x,ty,pos,aft,gd⟩ st (·=st.set r (.ro y.cells)):=by
 intro G a w h Q'
 have hone:∀c∈y.cells,c.one=true:=fun c hc=>List.all_eq_true.1 h1 c hc
 obtain ⟨hc,hcc⟩:=(hx ▸ h.eval x).cells hone
 have hsl:=h.slots r
 rw [hf] at hsl
 generalize hv:a.tmps.getD r undef=v at hsl
 cases hsl with
 | cellp l k b ho =>
  obtain ⟨L,hL,ht⟩:=ho
  injection hL with hL
  subst hL
  let us:=(a.eval x).cells.toList
  have hul:us.length=k:=by simp only [us,Array.length_toList];omega
  have huone:∀u∈us,u.oneCell'=true:=fun u hu=>by
   obtain ⟨j,hj⟩:=List.getElem?_of_mem hu
   have hj':(a.eval x).cells[j]? = some u:=by rw [←Array.getElem?_toList];exact hj
   have hlt:j<y.cells.length:=by rw [←hc];exact (Array.getElem?_eq_some_iff.1 hj').1
   exact (hcc j _ u (List.getElem?_eq_getElem hlt) hj').one (hone _ (List.getElem_mem hlt))
  have hrun0:=run_storeCells_cells (P:=P) b 0 us 0 w (fun j hj=>by
    obtain ⟨u,hu⟩:=h.tags.ex b j (by rw [ht j (by omega)];simp)
    simp only [Nat.add_zero,Nat.zero_add];rw [hu];rfl) (fun j hj=>by simpa using h.tags.tail _ _ _ (ht j (by omega))) huone
  simp only [Nat.add_zero] at hrun0
  let W:=w.setCells b 0 us
  let G':Gh:={ G with tag:=fun b' o=>if b'=b∧o<k then .fix else G.tag b' o }
  have htag:∀b' o,G.tag b' o≠.tail (.slot d r)→G'.tag b' o=G.tag b' o:=fun b' o hb=>by
   simp only [G']
   rw [if_neg]
   rintro ⟨rfl,ho⟩
   exact hb (ht o ho)
  have hout:∀b' o,¬(b'=b∧o<k)→W.cell? ⟨b',o,none⟩=w.cell? ⟨b',o,none⟩:=fun b' o hn =>
   World.cell?_setCells_out _ us 0 w ⟨b',o,none⟩ (fun hb _=>by
    simp only at hb ⊢
    exact .inr (Nat.le_of_not_lt fun h''=>hn ⟨hb,by omega⟩))
  have hcell:∀b' o,G.tag b' o≠.tail (.slot d r)→W.cell? ⟨b',o,none⟩=w.cell? ⟨b',o,none⟩:=fun b' o hb=>hout b' o (fun hn=>hb (by rw [hn.1];exact ht o hn.2))
  have hnb:∀i,i<G.n→G.blk i≠b:=Ji h.heap h.tags (ht 0 hk0)
  have hheap:∀b',b'≠b→W.heap[b']? = w.heap[b']? := fun b' hb=>C2 _ _ _ _ _ hb
  have hsize:W.heap.size=w.heap.size:=C1 _ _ _ _
  have hstill:Still G w G' W:=Still.tags (fun b' hb'=>hheap b' (fun e=>H8 (ht 0 hk0) (e ▸ hb'))) (Nat.le_of_eq hsize.symm) (fun b' o _=>by
   by_cases hc:b'=b∧o<k
   ·exact .inr ⟨_,by rw [hc.1];exact ht o hc.2⟩
   exact .inl (by simp only [G'];rw [if_neg hc])) (fun i hi=>.inl ⟨hi,rfl⟩)
  have hfix:∀b' o,G.tag b' o=.fix→G'.tag b' o=.fix∧W.cell? ⟨b',o,none⟩=w.cell? ⟨b',o,none⟩:=fun b' o hb=>⟨by rw [htag b' o (by rw [hb];simp)];exact hb,hcell b' o (by rw [hb];simp)⟩
  have htail:∀b' o L,L≠.slot d r→G.tag b' o=.tail L→G'.tag b' o=.tail L:=fun b' o L hL hb=>by
   rw [htag b' o (by rw [hb];intro e;injection e with e;exact hL e)];exact hb
  have hobj:∀b' o i,G.tag b' o=.obj i→G'.tag b' o=.obj i:=fun b' o i hb=>by rw [htag b' o (by rw [hb];simp)];exact hb
  have hrep:∀{l:Option Loc} {z:AV} {u:Value},l≠some (.slot d r)→Rep G w l z u→Rep G' W l z u:=fun hl hz =>
   hz.mono (G':=G') hfix (Nat.le_refl _) (fun _ _=>rfl) (fun L hL b' o ht'=>htail b' o L (fun e=>hl (by rw [hL,e])) ht')
  have hkeep:Keep d G w G' W:=⟨hfix,fun b' o e s he ht'=>htail b' o _ (by rintro ⟨⟩;omega) ht',Nat.le_refl _,fun _ _=>rfl,Ej _ _ _ _,Db _ _ _ _,Ck _ _ _ _,Nat.le_of_eq hsize.symm,hstill⟩
  have hvec:∀j u,us[j]? = some u→W.cell? ⟨b,j,none⟩=some u:=fun j u hu=>by
   have hj:=(List.getElem?_eq_some_iff.1 hu).1
   have hex:∃u',w.cell? ⟨b,j,none⟩=some u':=h.tags.ex b j (by rw [ht j (by omega)];simp)
   obtain ⟨u',hu'⟩:=hex
   have hbk:∃vs e fz,w.heap[b]? = some (.cells vs e fz):=by
    simp only [World.cell?] at hu'
    split at hu'
    ·rename_i vs e fz hb;exact ⟨vs,e,fz,hb⟩
    cases hu'
   obtain ⟨vs,e,fz,hbk⟩:=hbk
   have hlen:0+us.length≤vs.size:=by
    rw [hul,Nat.zero_add]
    rcases Nat.lt_or_ge vs.size k with h'|h'
    ·exfalso
     obtain ⟨u2,hu2⟩:=h.tags.ex b vs.size (by rw [ht _ h'];simp)
     simp [World.cell?,hbk] at hu2
    exact h'
   obtain ⟨vs',b1,b2,b3⟩:=Hu b e fz us 0 w vs hbk hlen
   have b3':=b3 j
   rw [if_pos (by omega)] at b3'
   show (w.setCells b 0 us).cell? ⟨b,j,none⟩=some u
   simp only [World.cell?,b1]
   rw [b3',Nat.sub_zero]
   exact hu
  have hst:StRel d G' (st.set r (.ro y.cells)) a W:=by
   refine ⟨h.size,fun s=>?_,⟨fun i z hz=>?_,h.heap.n,h.heap.inj⟩,h.defs,h.defsAt,h.defsNodup,h.defsGe,⟨fun b' o hb=>?_,fun b' o i hb=>?_,fun b' o L hb=>?_,h.tags.globKeep hstill⟩,h.rnd,h.low,h.top⟩
   ·show Rep G' W _ (A3 r (.ro y.cells) st.fr s) _
    unfold A3
    by_cases hs:s=r
    ·subst hs
     rw [if_pos rfl,hv]
     refine .ro _ _ ⟨b,0,none⟩ (fun j=>(a.eval x).cells.getD j undef) rfl hone (fun j c hj=>?_) (fun j c hj=>?_)
     all_goals
      have hlt:j<y.cells.length:=(List.getElem?_eq_some_iff.1 hj).1
      have hu:(a.eval x).cells[j]? = some ((a.eval x).cells[j]'(by omega)):=Array.getElem?_eq_getElem _
      have e1:(a.eval x).cells.getD j undef=(a.eval x).cells[j]'(by omega):=by rw [Array.getD_eq_getD_getElem?,hu];rfl
      rw [e1]
     ·refine ⟨by simp only [G',Nat.zero_add];rw [if_pos ⟨trivial,by omega⟩],?_⟩
      rw [Nat.zero_add]
      exact hvec j _ (by simp only [us];rw [Array.getElem?_toList];exact hu)
     exact hrep (by simp) (hcc j c _ hj hu)
    rw [if_neg hs]
    exact hrep (by simp;exact fun e=>hs e) (h.slots s)
   ·have hob:=h.heap.obj i z hz
    have hi:i<G.n:=by rw [h.heap.n];exact (List.getElem?_eq_some_iff.1 hz).1
    have hb:=hheap (G.blk i) (hnb i hi)
    cases z with
    | cells t cs =>
     obtain ⟨vs,a1,a2,a3,a4⟩:=hob
     exact ⟨vs,hb.trans a1,a2,fun j y u p q=>hrep (by simp) (a3 j y u p q),fun j hj=>hobj _ _ _ (a4 j hj)⟩
    | loop sta pd fr sz ps asg bd df =>
     obtain ⟨fn,tmps,a1,a2,a3,a4⟩:=hob
     exact ⟨fn,tmps,hb.trans a1,a2,fun s=>hrep (by simp) (a3 s),a4⟩
    | defs=>exact hb.trans hob
    | dead=>exact hb.trans hob
    | bld t e bs=>exact BldRel.turn hob rfl (fun b' o ho=>hobj b' o i ho) hb (fun b' ha=>hheap b' (fun e=>by
      have:=ha.tag h.tags (o:=0) (by rw [e,ht 0 hk0];simp)
      rw [e,ht 0 hk0] at this;cases this))
    | gone =>
     obtain ⟨vs,t,fz,a1,a2⟩:=hob
     exact ⟨vs,t,fz,hb.trans a1,fun j hj=>(hfix _ _ (a2 j hj)).1⟩
   ·by_cases hc:b'=b∧o<k
    ·obtain ⟨rfl,ho⟩:=hc
     exact ⟨us[o]'(by omega),hvec o _ (List.getElem?_eq_getElem _)⟩
    rw [hout b' o hc]
    simp only [G',if_neg hc] at hb
    exact h.tags.ex b' o hb
   ·rw [World.frozen?_setCells]
    simp only [G'] at hb
    split at hb
    ·cases hb
    exact h.tags.obj b' o i hb
   rw [World.frozen?_setCells]
   simp only [G'] at hb
   split at hb
   ·cases hb
   exact h.tags.tail b' o L hb
  have hrun:(execOp a.eval (⟨none,.store t (.tmp r) x,ty,pos,aft,gd⟩:Oper)).run P w=.ok .skip W:=
   El hsz (show a.eval (.tmp r)=_ from hv) (by omega) hrun0
  exact Er (by intro c h;cases h) hrun ⟨G',_,hst,hkeep,rfl,rfl,rfl,rfl⟩
end
section
variable {P:Program} {d:Nat} {sz:Nat} {dfs:List Nat} {rnd:Option Nat} {l0:List Oper} {up own:(Nat→Bool)→List AObj} {KP:List PanicEntry→St→Prop} {E:List Oper→(Nat→AV)→Prop} {S:List SegY} {l:List Oper} {fr:Nat→AV} {ty:TypeId} {pos:String} {aft:Array Edge} {s:Nat} {T F:List Nat}
theorem Y.allocP {t:TypeId} {z:Value} {k:Nat} (hz:∀w,(zeroValue t).run P w=.ok z w) (h:ChainY P d l0 sz up own dfs rnd KP E S l (A3 s (.cellp k) fr)) (hk:z.cells.size=k:=by rfl) (hs:Nat.blt s sz=true:=by rfl):
  ChainY P d l0 sz up own dfs rnd KP E (.s [s] none T F::S) (⟨some s,.alloc t,ty,pos,aft,none⟩::l) fr:=by
 refine ⟨_,l,[(s,.cellp k)],rfl,⟨rfl,rfl,fun B f _ _ _ hf=>.of ?_⟩,h⟩
 exact AOp.allocP (st:=⟨sz,f,up B,own B,dfs,rnd⟩) hz hk (by simpa using hs)
theorem Y.storeP {t:TypeId} {x:Operand} {r k:Nat} {y:AV} {ys:List AV} (hsz:∀w,(Go.sizeOf t).run P w=.ok k w) (h:ChainY P d l0 sz up own dfs rnd KP E S l (A3 r (.ro ys) fr))
  (hf:fr r=.cellp k:=by exact sL0) (hx:Ak fr x=y:=by exact sL0) (hc:y.cells=ys:=by exact sL0)
  (hk:ys.length=k:=by rfl) (hk0:0<k:=by decide) (h1:ys.all AV.one=true:=by exact sL2):
  ChainY P d l0 sz up own dfs rnd KP E (.s [r] none T F::S) (⟨none,.store t (.tmp r) x,ty,pos,aft,none⟩::l) fr:=by
 subst hc
 refine ⟨_,l,[(r,.ro y.cells)],rfl,⟨rfl,rfl,fun B f _ _ _ hfr=>.of ?_⟩,h⟩
 have e:f r=fr r:=hfr r (by simp [lk,Pu,Op.operands])
 have ex:Ak f x=y:=by rw [agr hfr (by simp [Op.operands])];exact hx
 exact AOp.storeP (st:=⟨sz,f,up B,own B,dfs,rnd⟩) hsz (e.trans hf) ex hk hk0 h1
end
end Go.SX
