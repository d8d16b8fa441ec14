/- Texts on the way to this: ImageOld answers true for whatever it is handed: of any row over the columns behind that has an old row: that one comes forth as it, and again as itself by every further go (up to 50 columns and values, 12 moves). (part 10) -/
import Derived.Test.YthakapgmpcbbkaaGreatDoorImageOldCardSaidPart9
set_option linter.all false
namespace Go.SX.Nb
open Go Go.SX Go.Proofs Go.RowKit Go.Sort
variable [ErrAt]
set_option maxRecDepth 4000
end Go.SX.Nb
namespace Go.SX.Nb
open Go Go.SX Go.Proofs
variable [ErrAt]
set_option maxRecDepth 4000
/-! mig.Print: what it answers. -/
theorem Ib {n:Nat} {m:Mov}:Low n (.ro (Na m)):=.ro _ Uh
theorem Cn {n k:Nat} {o:Bool} {l:List Val}:Low n (.slice o k (l.map Ak)):=by simp [or_imp,forall_and]
theorem H0 {n k:Nat} {o:Bool} {l:List Val} {v:Val}:Low n (.slice o k (l.map Ak++[Ak v])):=by simp [or_imp,forall_and]
theorem tc {l:List Val} {j:Nat} (h:j<l.length):(l.map Ak)[j]? = some (Ak (l.getD j noV)):=by
 rw [List.getElem?_map,List.getElem?_eq_getElem h,List.getD_eq_getElem?_getD,List.getElem?_eq_getElem h];rfl
theorem Hg {l:List Val} (h:∀v∈l,Fine v):∀v∈l, -9223372036854775808≤v.n∧v.n≤9223372036854775807:=fun v hv=>⟨(h v hv).lo,(h v hv).hi⟩
theorem Td {c:List Col} {row:List Val}:∀{l:List Expr},(Al c row l).1.length≤l.length
 | []=>Nat.le_refl _
 | x::r=>by
  rw [Al]
  repeat' split
  ·exact Ya
  ·exact Ya
  have:=Td (c:=c) (row:=row) (l:=r)
  simp only [List.length_cons]
  omega
theorem cm {take:List Str} {c:List Col} {row:List Val}:(G9 take c row).length≤c.length:=by
 unfold G9
 rw [List.length_map]
 refine Nat.le_trans (List.length_filter_le _ _) ?_
 rw [List.length_zip]
 omega
theorem sg {v:Str} {l:List Str} (h:0≤J2 v l):∃j:Nat,J2 v l=j∧j<l.length:=by
 unfold J2 at h ⊢
 cases hf:l.findIdx? (·==v) with
 | none=>rw [hf] at h;exact absurd h (by decide)
 | some i=>exact ⟨i,rfl,(List.findIdx?_eq_some_iff_getElem.1 hf).1⟩
theorem o4 {nm:Str} {c:List Col} {y:Col} (h:y∈c) (hn:y.name=nm):∃j:Nat,B0 nm c=j∧j<c.length:=by
 unfold B0
 cases hf:c.findIdx? (fun y=>y.name==nm) with
 | none =>
  rw [List.findIdx?_eq_none_iff] at hf
  have:=hf y h
  rw [hn] at this
  simp at this
 | some i=>exact ⟨i,rfl,(List.findIdx?_eq_some_iff_getElem.1 hf).1⟩
/-- A column that is not taken is there behind the move. -/
theorem wj {c:List Col} {m:Mov} {y:Col} (ht:(Bf c m).2=0) (hy:y∈c) (hn:¬0≤J2 y.name m.take):∃j:Nat,B0 y.name (Bf c m).1=j∧j<(Bf c m).1.length:=by
 refine o4 (y:=y) ?_ rfl
 rw [(X1 ht).1]
 refine List.mem_append_left _ ?_
 unfold Cj
 rw [List.mem_filter]
 refine ⟨hy,?_⟩
 rw [←b8,decide_eq_false hn]
 rfl
theorem c43 (a b:List Val) (ha:a.length≤1048576) (Hp:List AObj):AFun Tryz.prog 43 [Aw a,Aw b] Hp (Ar (decide (a=b))):=by
 refine ACall.body [.tmp 4] [0,1] Tryz.func43 Tryz.ntmps43 (fun d=>?_)
 refine Z51 ?_;refine Y7 ?_;refine R.fin [0,1,10] ?_
 refine W.cond (fun ht10=>?_) (fun ht10=>?_)
 ·refine Z61 ?_;exact x6
 refine Vl ?_;refine R.fin [0,1,12,13] ?_
 refine AW.loopC (α:=Nat) (fun x=>⟨26,A3 0 (Aw a) (A3 1 (Aw b) (A3 12 (A2 (a.length:Nat)) (A3 13 (A2 (x:Nat)) (fun _=>.any)))),Hp,[],[],none⟩) (fun x=>x≤a.length∧∀(j:Nat) (y:Val),j<x→a[j]? = some y→b[j]? = some y) (fun x=>a.length-x) (0) (by simp) (StLe.of_eq (by simp)) rfl (fun x hx=>?_)
 refine Z2 ?_;refine R.fin [0,1,12,13,14] ?_
 refine W.condX (fun ht14=>?_) (fun ht14=>?_)
 ·have hlt:x<a.length:=by simpa using ht14
  have hlb:x<b.length:=by have:=km ht10;omega
  refine Z23 ?_;refine Z1 ?_;refine R.fin [0,1,5,12,13] ?_;refine xu ?_
  refine D.go (h:=Q.indexAddr (x) (Ak a[x]) (fun _=>Am hlt)) (hr:=?_)
  refine Z37 ?_
  refine D.go (h:=Q.indexAddr (x) (Ak b[x]) (fun _=>Am hlb)) (hr:=?_)
  refine js ?_
  refine R.go (h:=Q.neqAgg Rg (Fq a[x].kind a[x].n b[x].kind b[x].n a[x].s b[x].s)) (hr:=?_)
  refine R.fin [0,1,12,13,24] ?_
  refine W.cond (fun ht24=>?_) (fun ht24=>?_)
  ·rw [Oq] at ht24
   refine Z61 ?_;refine Z54 ?_;exact K.fin (V.one V.tmp) ⟨by rw [yt hlt hlb (by simpa using ht24)],rfl⟩
  rw [Oq] at ht24
  refine Z72 ?_;refine R.fin [0,1,12,13] ?_
  exact K.lpN (x+1) ⟨hlt,H9 (p:=fun j y=>b[j]? = some y) hlt hx.2 (by rw [List.getElem?_eq_getElem hlb];simpa using (Eq.symm (by simpa using ht24):b[x]=a[x]))⟩ (by omega) (StCut.of_eq rfl)
 have hxe:a.length≤x:=by simpa using ht14
 refine Z35 ?_;refine Z61 ?_;exact K.fin (V.one V.tmp) ⟨by rw [sy (by simpa using ht10) (I0 hxe hx.2)],rfl⟩

theorem c15 (a b:List Val) (ha:a.length≤1048576) (Hp:List AObj):AFun Tryz.prog 15 [Aw a,Aw b] Hp (Ar (decide (a=b))):=by
 refine ACall.body [.tmp 4] [0,1] Tryz.func15 Tryz.ntmps15 (fun d=>?_)
 refine Z51 ?_;refine Y7 ?_;refine R.fin [0,1,10] ?_
 refine W.cond (fun ht10=>?_) (fun ht10=>?_)
 ·refine Z61 ?_;exact x6
 refine Pe ?_;refine R.fin [0,1,5] ?_
 refine AW.loopC (α:=Nat) (fun x=>⟨26,A3 0 (Aw a) (A3 1 (Aw b) (A3 5 (A2 (x:Nat)) (fun _=>.any))),Hp,[],[],none⟩) (fun x=>x≤a.length∧∀(j:Nat) (y:Val),j<x→a[j]? = some y→b[j]? = some y) (fun x=>a.length-x) (0) (by simp) (StLe.refl _) rfl (fun x hx=>?_)
 refine Z75 ?_;refine R.fin [0,1,5,14] ?_
 refine W.cond (fun ht14=>?_) (fun ht14=>?_)
 ·have hlt:x<a.length:=by simpa using ht14
  have hlb:x<b.length:=by have:=km ht10;omega
  refine Z86 ?_;refine xu ?_
  refine D.go (h:=Q.indexAddr (x) (Ak a[x]) (fun _=>Am hlt)) (hr:=?_)
  refine Z37 ?_
  refine D.go (h:=Q.indexAddr (x) (Ak b[x]) (fun _=>Am hlb)) (hr:=?_)
  refine js ?_
  refine R.go (h:=Q.neqAgg Rg (Fq a[x].kind a[x].n b[x].kind b[x].n a[x].s b[x].s)) (hr:=?_)
  refine R.fin [0,1,5,25] ?_
  refine W.cond (fun ht25=>?_) (fun ht25=>?_)
  ·rw [Oq] at ht25
   refine Z61 ?_;refine Z54 ?_;exact K.fin (V.one V.tmp) ⟨by rw [yt hlt hlb (by simpa using ht25)],rfl⟩
  rw [Oq] at ht25
  refine Vg ?_;refine R.fin [0,1,5] ?_
  exact K.lpN (x+1) ⟨hlt,H9 (p:=fun j y=>b[j]? = some y) hlt hx.2 (by rw [List.getElem?_eq_getElem hlb];simpa using (Eq.symm (by simpa using ht25):b[x]=a[x]))⟩ (by omega) (StCut.of_eq rfl)
 refine Z98 ?_;refine Z61 ?_;exact K.fin (V.one V.tmp) ⟨by rw [sy (by simpa using ht10) (I0 (by simp at ht14;omega) hx.2)],rfl⟩

theorem c39 (l:List Val) (hl:l.length≤1048576) (Hp:List AObj):AFun Tryz.prog 39 [Aw l] Hp (Aw l):=by
 refine ACall.body [.tmp 2] [0] Tryz.func39 Tryz.ntmps39 (fun d=>?_)
 refine Z48 ?_;refine Z36 ?_
 refine R.eqlNil jU (by kernel_rfl) (fun b hb=>?_)
 refine R.fin [0,4] ?_
 refine W.cond (fun ht4=>?_) (fun ht4=>?_)
 ·have hl0:l=[]:=by simpa using hb ht4
  subst hl0
  refine Z2 ?_;refine R.nilTmp 2 3 false ?_;refine Z4 ?_;exact xq
 refine Y3 ?_;refine Kz ?_;refine R.go ?_
 refine R.append jU Tryz.type63 ?_ ?_ ?_
 ·simp [Tryz.t63];omega
 ·simp [Tryz.t63];omega
 refine R.assignT ?_;exact xv

theorem c59 (c:List Col) (hc:OkCols c) (row:List Val) (hf:∀v∈row,Fine v) (hrl:row.length≤1048576) (l:List Expr) (h:OkEs l) (Hp:List AObj):AFun Tryz.prog 59 [Ht l,Ac c,Aw row] Hp (.tup [Aw (Al c row l).1,A2 (Al c row l).2]):=by
 refine ACall.body [.tmp 6,.tmp 7] [0,1,2] Tryz.func59 Tryz.ntmps59 (fun d=>?_)
 refine Z1 ?_;refine U3 ?_;refine Z2 ?_;refine R.fin [0,1,2,8] ?_;refine Z67 ?_
 have hlen:=h.len
 refine R.nilSl 8 3 ?_;refine Z19 ?_;refine R.fin [1,2,8,13,14,15] ?_
 refine AW.loopC (α:=Nat) (fun x=>⟨35,A3 1 (Ac c) (A3 2 (Aw row) (A3 8 (.slice true 3 (((l.take x).map fun e=>(Gi e c row).1).map Ak)) (A3 13 (Ht l) (A3 14 (A2 (l.length:Nat)) (A3 15 (A2 (x:Nat)) (fun _=>.any)))))),Hp,[],[],none⟩) (fun x=>x≤l.length∧∀(j:Nat) (y:Expr),j<x→l[j]? = some y→((Gi y c row).2 != 0)=false) (fun x=>l.length-x) (0) ⟨Nat.zero_le _,fun j y h=>by omega⟩ (StLe.of_eq (by simp)) rfl (fun x hx=>?_)
 refine Z2 ?_;refine R.fin [1,2,8,13,14,15,16] ?_
 refine W.condX (fun ht16=>?_) (fun ht16=>?_)
 ·have hlt:x<l.length:=by simpa using ht16
  refine Z89 ?_
  refine R.go (h:=Q.indexAddr (x) (A5 l[x]) (fun _=>Am hlt)) (hr:=?_)
  refine Pd ?_;refine R.fin [1,2,8,10,13,14,15] ?_;refine Z13 ?_;refine R.call Tryz.call88 (c88 61 l[x] (h.ok _ (List.getElem_mem hlt)) (by decide) (h.rng _ (List.getElem_mem hlt)) c hc row hrl (Hg hf) _) ?_;refine dq ?_;refine R.fin [1,2,8,11,12,13,14,15] ?_;refine Z22 ?_;refine R.fin [1,2,8,11,12,13,14,15,27] ?_
  refine W.cond (fun ht27=>?_) (fun ht27=>?_)
  ·have hm:=Qx hx.2 (List.getElem?_eq_getElem hlt) ht27
   refine Z1 ?_;refine Xy ?_;refine K.thR ?_;refine Z34 ?_;exact Z46
  refine Z6 ?_;refine Xz ?_;refine Z70 ?_
  refine R.append jU Tryz.type63 ?_ ?_ ?_
  ·simp only [List.length_map,List.length_take,List.length_append,List.length_cons,List.length_nil,Tryz.t63];omega
  ·simp only [List.length_map,List.length_take,List.length_append,List.length_cons,List.length_nil,Tryz.t63];omega
  refine R.assignT ?_;refine R.fin [1,2,8,13,14,15] ?_;refine Tz ?_;refine R.fin [1,2,8,13,14,15] ?_;refine K.lpN (x+1) ⟨hlt,Cd hlt hx.2 ht27⟩ (by omega) ?_
  rw [Sr hlt,List.map_append,List.map_cons,List.map_nil]
  exact StCut.take (own:=[]) (fun _=>.refl _) (by repeat (first|exact Ap|refine Ao (by first|exact Fj|exact Cn|exact H0|exact Ec|exact Cm|exact Dy|exact Ib|(simp [or_imp,forall_and];done)) ?_)) (by simp) (by simp)
 have hxe:l.length≤x:=by simpa using ht16
 have hm:=Qw (c:=c) (row:=row) fun j y hy=>hx.2 j y (by have:=(List.getElem?_eq_some_iff.1 hy).1;omega) hy
 rw [List.take_of_length_le hxe]
 refine Z35 ?_;refine Z13 ?_;refine Z33 ?_;exact K.fin (V.two V.tmp V.tmp) ⟨by rw [hm],rfl⟩ (hlow:=by simpa using (Cn (n:=Hp.length) (k:=3) (o:=false) (l:=l.map fun e=>(Gi e c row).1)))

theorem c40 (c:List Col) (hc:OkCols c) (m:Mov) (h:OkMov m) (row:List Val) (hf:∀v∈row,Fine v) (hl:row.length=c.length) (Hp:List AObj):AFun Tryz.prog 40 [Ac c,Eg m,Aw row] Hp (.tup [Aw (Dc c m row).1,A2 (Dc c m row).2]):=by
 have hcl:=hc.len
 have hrk:=Td (c:=c) (row:=row) (l:=m.ahead)
 have hal:=h.ahead.len
 refine ACall.body [.tmp 6,.tmp 7] [0,1,2] Tryz.func40 Tryz.ntmps40 (fun d=>?_)
 refine Z13 ?_;refine R.fin [0,2,4] ?_;refine Z30 ?_;refine R.call Tryz.call59 (c59 c hc row hf (by omega) m.ahead h.ahead _) ?_;refine Z64 ?_;refine R.fin [0,2,4,8,9] ?_;refine Z22 ?_;refine R.fin [0,2,4,8,9,22] ?_
 refine W.cond (fun ht22=>?_) (fun ht22=>?_)
 ·have hm:Dc c m row=([],(Al c row m.ahead).2):=if_pos ht22
  refine Z1 ?_;refine Xy ?_;exact Z46
 have hm:Dc c m row=(G9 m.take c row++(Al c row m.ahead).1,0):=if_neg (by rw [ht22];simp)
 refine Z99 ?_;refine R.fin [0,2,4,8,10] ?_;refine Z67 ?_;refine R.nilSl 10 3 ?_;refine Z19 ?_;refine R.fin [2,4,8,10,24,25,26] ?_
 refine AW.loopC (α:=Nat) (fun x=>⟨48,A3 2 (Aw row) (A3 4 (.ro (Na m)) (A3 8 (Aw (Al c row m.ahead).1) (A3 10 (.slice true 3 ((G9 m.take (c.take x) row).map Ak)) (A3 24 (Ac c) (A3 25 (A2 (c.length:Nat)) (A3 26 (A2 (x:Nat)) (fun _=>.any))))))),Hp,[],[],none⟩) (fun x=>x≤c.length) (fun x=>c.length-x) (0) (Nat.zero_le _) (StLe.of_eq (by simp [G9])) rfl (fun x hx=>?_)
 refine Z2 ?_;refine R.fin [2,4,8,10,24,25,26,27] ?_
 refine W.condX (fun ht27=>?_) (fun ht27=>?_)
 ·have hlt:x<c.length:=by simpa using ht27
  have hxr:x<row.length:=by omega
  have hkl:=cm (take:=m.take) (c:=c.take x) (row:=row)
  rw [List.length_take] at hkl
  refine Lp ?_
  refine R.go (h:=Q.indexAddr (x) (Av c[x]) (fun _=>Am hlt)) (hr:=?_)
  refine Y5 ?_;refine R.fin [2,4,8,10,11,12,24,25,26] ?_;refine Z30 ?_;refine R.call Tryz.call60 (c60 m.take c[x].name h.takes _) ?_;refine R.go ?_;refine R.fin [2,4,8,10,11,24,25,26,36] ?_
  refine W.cond (fun ht36=>?_) (fun ht36=>?_)
  ·have hk:=rz hlt hxr (by simpa using ht36)
   refine Xz ?_;refine Z0 ?_
   refine R.go (h:=Q.indexAddr (x) (Ak row[x]) (fun _=>Am hxr)) (hr:=?_)
   refine Z70 ?_
   refine R.append jU Tryz.type63 ?_ ?_ ?_
   ·simp only [List.length_map,List.length_take,List.length_append,List.length_cons,List.length_nil,Tryz.t63];omega
   ·simp only [List.length_map,List.length_take,List.length_append,List.length_cons,List.length_nil,Tryz.t63];omega
   refine R.assignT ?_;refine R.fin [2,4,8,10,24,25,26] ?_;refine Tz ?_;refine R.fin [2,4,8,10,24,25,26] ?_;refine jz ?_
   simp only [hk,List.map_append,List.map_cons,List.map_nil]
   exact StCut.take (own:=[]) (fun _=>.refl _) (by repeat (first|exact Ap|refine Ao (by first|exact Fj|exact Cn|exact H0|exact Ec|exact Cm|exact Dy|exact Ib|(simp [or_imp,forall_and];done)) ?_)) (by simp) (by simp)
  have hk:=nf hlt hxr (by simpa using ht36)
  refine Z72 ?_;refine R.fin [2,4,8,10,24,25,26] ?_;refine jz ?_
  simp only [hk,List.map_append,List.map_cons,List.map_nil]
  exact StCut.take (own:=[]) (fun _=>.refl _) (by repeat (first|exact Ap|refine Ao (by first|exact Fj|exact Cn|exact H0|exact Ec|exact Cm|exact Dy|exact Ib|(simp [or_imp,forall_and];done)) ?_)) (by simp) (by simp)
 have hxe:c.length≤x:=by simpa using ht27
 rw [List.take_of_length_le hxe]
 have hkl:=cm (take:=m.take) (c:=c) (row:=row)
 refine Z35 ?_;refine Cu ?_;refine R.moveT ?_;refine R.go ?_
 refine R.append jU Tryz.type63 ?_ ?_ ?_
 ·simp only [List.length_map,List.length_take,List.length_append,List.length_cons,List.length_nil,Tryz.t63];omega
 ·simp only [List.length_map,List.length_take,List.length_append,List.length_cons,List.length_nil,Tryz.t63];omega
 refine R.assignT ?_;refine Z96 ?_;exact K.fin (V.two V.tmp V.tmp) ⟨by rw [hm,←List.map_append]<;>rfl,rfl⟩ (hlow:=by rw [←List.map_append];simpa using (Cn (n:=Hp.length) (k:=3) (o:=false) (l:=G9 m.take c row++(Al c row m.ahead).1)))

theorem c42 (a dd:List Col) (ha:a.length≤1048576) (hd:OkCols dd) (m:Mov) (h:OkMov m) (hb:m.back.length=m.take.length) (hs:∀y∈a,¬0≤J2 y.name m.take→∃j:Nat,B0 y.name dd=j∧j<dd.length) (row:List Val) (hf:∀v∈row,Fine v) (hl:row.length=dd.length) (Hp:List AObj):AFun Tryz.prog 42 [Ac a,Ac dd,Eg m,Aw row] Hp (.tup [Aw (Bd a dd m row).1,A2 (Bd a dd m row).2]):=by
 have hdl:=hd.len
 refine ACall.body [.tmp 8,.tmp 9] [0,1,2,3] Tryz.func42 Tryz.ntmps42 (fun d=>?_)
 refine Z13 ?_;refine R.fin [0,1,3,6] ?_;refine Z30 ?_;refine R.call Tryz.call59 (c59 dd hd row hf (by omega) m.back h.back _) ?_;refine Z64 ?_;refine R.fin [0,1,3,6,10,11] ?_;refine Z22 ?_;refine R.fin [0,1,3,6,10,11,25] ?_
 refine W.cond (fun ht25=>?_) (fun ht25=>?_)
 ·have hm:Bd a dd m row=([],(Al dd row m.back).2):=if_pos ht25
  refine Z1 ?_;refine R.nilTmp 8 3 false ?_;refine R.go ?_;refine R.fin [8,9] ?_;refine AW.ret ?_;exact Z46
 have hm:Bd a dd m row=((a.map (Nl m.take (Al dd row m.back).1 row dd)),0):=if_neg (by rw [ht25];simp)
 have hwl:=Lh (c:=dd) (row:=row) (l:=m.back) (by simpa using ht25)
 refine Z99 ?_;refine R.fin [0,1,3,6,10,12] ?_;refine Z67 ?_;refine R.nilSl 12 3 ?_;refine Z19 ?_;refine ka ?_
 refine AW.loopC (α:=Nat) (fun x=>⟨59,A3 1 (Ac dd) (A3 3 (Aw row) (A3 6 (.ro (Na m)) (A3 10 (Aw (Al dd row m.back).1) (A3 12 (.slice true 3 (((a.map (Nl m.take (Al dd row m.back).1 row dd)).take x).map Ak)) (A3 27 (Ac a) (A3 28 (A2 (a.length:Nat)) (A3 29 (A2 (x:Nat)) (fun _=>.any)))))))),Hp,[],[],none⟩) (fun x=>x≤a.length) (fun x=>a.length-x) (0) (Nat.zero_le _) (StLe.of_eq (by simp)) rfl (fun x hx=>?_)
 refine Z2 ?_;refine R.fin [1,3,6,10,12,27,28,29,30] ?_
 refine W.condX (fun ht30=>?_) (fun ht30=>?_)
 ·have hlt:x<a.length:=by simpa using ht30
  have hol:((a.map (Nl m.take (Al dd row m.back).1 row dd)).take x).length≤x:=List.length_take_le _ _
  have hon:(a.map (Nl m.take (Al dd row m.back).1 row dd)).take (x+1)=(a.map (Nl m.take (Al dd row m.back).1 row dd)).take x++[Nl m.take (Al dd row m.back).1 row dd a[x]]:=by
   rw [List.take_succ_eq_append_getElem (by rw [List.length_map];exact hlt),List.getElem_map]
  refine Z89 ?_
  refine R.go (h:=Q.indexAddr (x) (Av a[x]) (fun _=>Am hlt)) (hr:=?_)
  refine Pd ?_;refine R.fin [1,3,6,10,12,14,27,28,29] ?_;refine Z75 ?_;refine R.call Tryz.call62 (c62 m.take a[x].name h.takes _) ?_;refine R.go ?_;refine R.fin [1,3,6,10,12,14,15,27,28,29] ?_;refine Z1 ?_;refine R.fin [1,3,6,10,12,14,15,27,28,29,39] ?_
  refine W.cond (fun ht39=>?_) (fun ht39=>?_)
  ·have hj0:0≤J2 a[x].name m.take:=by simpa using ht39
   obtain ⟨j,hj,hjl⟩:=sg hj0
   have hw:Nl m.take (Al dd row m.back).1 row dd a[x]=(Al dd row m.back).1.getD j noV:=by unfold Nl;rw [if_pos hj0,hj];rfl
   refine Cu ?_;refine R.moveT ?_;refine Z0 ?_
   refine R.go (h:=Q.indexAddr (j) (Ak ((Al dd row m.back).1.getD j noV)) (fun _=>tc (by omega))) (hr:=?_)
   refine Z70 ?_
   refine R.append jU Tryz.type63 ?_ ?_ ?_
   ·simp only [List.length_map,List.length_take,List.length_append,List.length_cons,List.length_nil,Tryz.t63];omega
   ·simp only [List.length_map,List.length_take,List.length_append,List.length_cons,List.length_nil,Tryz.t63];omega
   refine R.assignT ?_;refine ka ?_;refine Z58 ?_;refine K.blE ?_;refine K.thN ?_;refine Z29 ?_;refine ka ?_;refine jz ?_
   rw [hon,hw,List.map_append,List.map_cons,List.map_nil]
   exact StCut.take (own:=[]) (fun _=>.refl _) (by repeat (first|exact Ap|refine Ao (by first|exact Fj|exact Cn|exact H0|exact Ec|exact Cm|exact Dy|exact Ib|(simp [or_imp,forall_and];done)) ?_)) (by simp) (by simp)
  have hjn:¬0≤J2 a[x].name m.take:=by simpa using ht39
  obtain ⟨j,hj,hjl⟩:=hs a[x] (List.getElem_mem hlt) hjn
  have hw:Nl m.take (Al dd row m.back).1 row dd a[x]=row.getD j noV:=by unfold Nl;rw [if_neg hjn,hj];rfl
  refine Z6 ?_;refine Xz ?_;refine Z71 ?_;refine R.call Tryz.call58 (c58 dd hd a[x].name _) ?_
  refine R.go (h:=Q.indexAddr (j) (Ak (row.getD j noV)) (fun _=>tc (by omega))) (hr:=?_)
  refine Z70 ?_
  refine R.append jU Tryz.type63 ?_ ?_ ?_
  ·simp only [List.length_map,List.length_take,List.length_append,List.length_cons,List.length_nil,Tryz.t63];omega
  ·simp only [List.length_map,List.length_take,List.length_append,List.length_cons,List.length_nil,Tryz.t63];omega
  refine R.assignT ?_;refine ka ?_;refine Tz ?_;refine ka ?_;refine jz ?_
  rw [hon,hw,List.map_append,List.map_cons,List.map_nil]
  exact StCut.take (own:=[]) (fun _=>.refl _) (by repeat (first|exact Ap|refine Ao (by first|exact Fj|exact Cn|exact H0|exact Ec|exact Cm|exact Dy|exact Ib|(simp [or_imp,forall_and];done)) ?_)) (by simp) (by simp)
 have hxe:a.length≤x:=by simpa using ht30
 rw [List.take_of_length_le (by rw [List.length_map];exact hxe)]
 refine Z35 ?_;refine Z13 ?_;refine R.fin [8,9] ?_;refine AW.ret ?_;exact K.fin (V.two V.tmp V.tmp) ⟨by rw [hm],rfl⟩ (hlow:=by simpa using (Cn (n:=Hp.length) (k:=3) (o:=false) (l:=(a.map (Nl m.take (Al dd row m.back).1 row dd)))))

theorem c14 (c:List Col) (hc:OkCols c) (hc2:c.length≤1000000) (l:List Mov) (h:OkMovs l) (row:List Val) (hrr:∀v∈row, -9223372036854775808≤v.n∧v.n≤9223372036854775807) (hrl:row.length≤1048576) (Hp:List AObj):AFun Tryz.prog 14 [Ac c,Cq l,Aw row] Hp (.tup [Aw (C2 c l row).1,A2 (C2 c l row).2]):=by
 refine ACall.body [.tmp 6,.tmp 7] [0,1,2] Tryz.func14 Tryz.ntmps14 (fun d=>?_)
 refine Z1 ?_;refine U3 ?_;refine Z1 ?_;refine R.call Tryz.call12 (c12 c hc hc2 l h _) ?_;refine Z64 ?_;refine R.fin [0,1,2,8,9] ?_;refine Z31 ?_;refine Z9 ?_;refine G.call Tryz.call13 (fun hB=>c13 c hc row hrl _) ?_;refine Z88 ?_;refine R.fin [1,2,8,26] ?_
 refine W.cond (fun ht26=>?_) (fun ht26=>?_)
 ·have hm:C2 c l row=([],1):=if_pos ht26
  refine Z2 ?_;refine Xy ?_;exact Z46
 have hm0:C2 c l row=fwM c l row l.length:=if_neg (by rw [ht26];simp)
 have h26:((D0 c l).2 != 0)=false∧I8 c row=true:=by simpa using ht26
 obtain ⟨hmay,hst,hss⟩:=Iv h26.1
 have hR0:=Mb h26.2 hrr
 have hmvo:=Nk hmay
 have hlen:=h.len
 rw [hss]
 refine Z99 ?_;refine R.call Tryz.call39 (c39 row hrl _) ?_;refine R.go ?_;refine R.fin [1,8,10] ?_;refine Z31 ?_;refine R.fin [8,10,29,30,31] ?_
 refine AW.loopC (α:=Nat) (fun x=>⟨51,A3 8 (Hv (Bt c l l.length)) (A3 10 (Aw (fwM c l row x).1) (A3 29 (Cq l) (A3 30 (A2 (l.length:Nat)) (A3 31 (A2 (x:Nat)) (fun _=>.any))))),Hp,[],[],none⟩) (fun x=>x≤l.length∧(fwM c l row x).2=0∧RowI (colsAt c l x) (fwM c l row x).1) (fun x=>l.length-x) (0) ⟨Nat.zero_le _,rfl,hR0⟩ (StLe.of_eq (by simp [fwM])) rfl (fun x hx=>?_)
 refine Z2 ?_;refine R.fin [8,10,29,30,31,32] ?_
 refine W.condX (fun ht32=>?_) (fun ht32=>?_)
 ·have hlt:x<l.length:=by simpa using ht32
  obtain ⟨hxl,hfx,hR⟩:=hx
  obtain ⟨m,hm⟩:∃m,m=l[x]:=⟨_,rfl⟩
  have hml:l[x]? = some m:=by rw [hm];exact List.getElem?_eq_getElem hlt
  have hmx:(l.map Eg)[x]? = some (Eg m):=by rw [hm];exact Am hlt
  have hmo:=h.each m (List.mem_of_getElem? hml)
  have hmv:=hmvo m (List.mem_of_getElem? hml)
  have hCx:=Eh hc (fun m hm=>h.each m hm) x
  have htn:=Um hst hml
  refine Lp ?_
  refine R.go (h:=Q.indexAddr (x) (Eg m) (fun _=>hmx)) (hr:=?_)
  refine Y5 ?_;refine R.fin [8,10,11,12,29,30,31] ?_;refine W.draw [0,0,3,7,0,0,63,127,255,255,511,2047] 11 Aa (by kernel_rfl) ?_;refine Z11 ?_
  refine D.go (h:=Q.indexAddr (x) (Ac (colsAt c l x)) (fun _=>r9 (K1 (by omega)))) (hr:=?_)
  refine Z37 ?_;refine D.call Tryz.call40 (c40 (colsAt c l x) hCx m hmo (fwM c l row x).1 hR.fine hR.len _) ?_;refine Z11 ?_;refine Z76 ?_;refine R.go ?_;refine R.fin [8,9,10,29,30,31] ?_;refine Z1 ?_;refine R.fin [8,9,10,29,30,31,47] ?_
  refine W.cond (fun ht47=>?_) (fun ht47=>?_)
  ·have hm2:C2 c l row=([],(Dc (colsAt c l x) m (fwM c l row x).1).2):=by rw [hm0];exact s7 hml hfx (by simpa using ht47)
   refine Z1 ?_;refine Xy ?_;refine Z54 ?_;exact K.fin (V.two V.tmp V.tmp) ⟨by rw [hm2]<;>rfl,rfl⟩
  have hnx:=Un hml hfx
  have hok:(Dc (colsAt c l x) m (fwM c l row x).1).2=0:=by simpa using ht47
  have hRn:=T0 htn hmv (fun e he=>hmo.ahead.rng e he) hR hok
  refine Z72 ?_;refine R.fin [8,10,29,30,31] ?_
  refine K.lpN (x+1) ⟨hlt,by rw [hnx];exact hok,by rw [hnx,Gy hml];exact hRn⟩ (by omega) ?_
  rw [hnx]
  exact StCut.take (own:=[]) (fun _=>.refl _) (by repeat (first|exact Ap|refine Ao (by first|exact Fj|exact Cn|exact H0|exact Ec|exact Cm|exact Dy|exact Ib|(simp [or_imp,forall_and];done)) ?_)) (by simp) (by simp)
 have hxe:x=l.length:=by simp at ht32;have:=hx.1;omega
 subst hxe
 have hm1:C2 c l row=((fwM c l row l.length).1,0):=by rw [hm0];exact Prod.ext rfl hx.2.1
 refine Z35 ?_;refine Z13 ?_;refine Z33 ?_;exact K.fin (V.two V.tmp V.tmp) ⟨by rw [hm1],rfl⟩ (hlow:=by simpa using (Cn (n:=Hp.length) (k:=3) (o:=false) (l:=(fwM c l row l.length).1)))

/-! slices.Backward of moves. -/
theorem c89 (l0:Nat) (ms:List Mov) (hml:ms.length≤1048576) (U:Nat→List AObj) (N:Nat→Prop) (Z:List AObj→Prop) (hlen:∀k,(U k).length=(U 0).length) (hll:l0<(U 0).length)
  (hlw:∀k,∀x∈U k,ObjLow (U 0).length x) (h0:N 0)
  (hy:∀k m X,k<ms.length→ms[ms.length-1-k]? = some m→N k→AYield Tryz.prog l0 [A2 ((ms.length-1-k:Nat):Int),Eg m] (U k++X) (fun b H'=>(b=true∧N (k+1)∧H'=U (k+1)++X)∨(b=false∧∃V,H'=V++X∧V.length=(U 0).length∧(∀x∈V,ObjLow (U 0).length x)∧Z V)))
  (hR:N ms.length→Z (U ms.length)):ACall Tryz.prog 89 [.yield l0,.ro [Cq ms]] (U 0) (fun _ H'=>Z H'):=by
 refine ACall.body [] [0,1] Tryz.func89 Tryz.ntmps89 (fun d=>?_)
 refine Z1 ?_
 refine R.go (h:=Q.sub64 (h2:=fun _=>by simp only [List.length_map];omega)) (hr:=?_)
 refine R.go ?_;refine R.fin [0,1,3] ?_
 refine AW.loopC (α:=Nat×Int) (fun s=>⟨19,A3 0 (.yield l0) (A3 1 (.ro [Cq ms]) (A3 3 (A2 s.2) (fun _=>.any))),U s.1,[],[],none⟩) (fun s=>s.1≤ms.length∧N s.1∧s.2=(ms.length:Int)-1-(s.1:Int)) (fun s=>ms.length-s.1) ((0,(ms.length:Int)-1)) ⟨Nat.zero_le _,h0,by simp⟩ (StLe.of_eq (by simp)) rfl (fun s hs=>?_)
 obtain ⟨x,i⟩:=s
 obtain ⟨hx,hN,hi⟩:=hs
 dsimp only at hx hN hi ⊢
 refine Z22 ?_;refine R.fin [0,1,3,8] ?_
 refine W.cond (fun ht8=>?_) (fun ht8=>?_)
 ·have hlt:x<ms.length:=by simp at ht8;omega
  have hlt2:ms.length-1-x<ms.length:=by omega
  have hi2:i=((ms.length-1-x:Nat):Int):=by omega
  subst hi2
  refine Z86 ?_;refine Z30 ?_
  refine R.go (h:=Q.indexAddr (ms.length-1-x) (Eg ms[ms.length-1-x]) (fun _=>Am hlt2)) (hr:=?_)
  refine R.go ?_
  refine R.yield (l:=l0) (args:=[A2 ((ms.length-1-x:Nat):Int),Eg ms[ms.length-1-x]]) (hy x ms[ms.length-1-x] _ hlt (List.getElem?_eq_getElem hlt2) hN) ?_
  intro b V O hV hb
  have hVO:O=[]∧((b=true∧N (x+1)∧V=U (x+1))∨(b=false∧V.length=(U 0).length∧(∀y∈V,ObjLow (U 0).length y)∧Z V)):=by
   rcases hb with ⟨h1,h2,h3⟩|⟨h1,V',h2,h3,h4,h5⟩
   ·have h6:=List.append_inj h3 (by rw [hV,hlen x,hlen (x+1)])
    exact ⟨h6.2,.inl ⟨h1,h2,h6.1⟩⟩
   obtain ⟨rfl,rfl⟩:=List.append_inj h2 (by rw [hV,hlen x,h3])
   exact ⟨rfl,.inr ⟨h1,h3,h4,h5⟩⟩
  obtain ⟨rfl,hVO⟩:=hVO
  have hVl:V.length=(U 0).length:=by rw [hV,hlen x]
  have hVw:∀y∈V,ObjLow (U 0).length y:=by
   rcases hVO with ⟨_,_,rfl⟩|⟨_,_,h,_⟩
   ·exact hlw _
   exact h
  refine ⟨fun _=>by rw [hVl];exact hVw,fun o ho=>(by cases ho),?_⟩
  refine R.go ?_;refine R.fin [0,1,3,18] ?_
  refine W.cond (fun ht18=>?_) (fun ht18=>?_)
  ·have hZ:Z V:=by
    rcases hVO with ⟨h1,_,_⟩|⟨_,_,_,h⟩
    ·rw [h1] at ht18;cases ht18
    exact h
   refine AW.ret ?_;refine Z34 ?_;exact K.fin .nores (hp:=hZ)
  have hVn:N (x+1)∧V=U (x+1):=by
   rcases hVO with ⟨_,h2,h3⟩|⟨h1,_,_,_⟩
   ·exact ⟨h2,h3⟩
   rw [h1] at ht18;cases ht18
  obtain ⟨hN1,rfl⟩:=hVn
  refine Vg ?_;refine R.fin [0,1,3] ?_
  refine K.lpN (x+1,((ms.length-1-x:Nat):Int)-1) ⟨hlt,hN1,by dsimp only;omega⟩ (by dsimp only;omega) ?_
  exact StCut.of_eq rfl
 have hxe:x=ms.length:=by simp at ht8;omega
 refine Z58 ?_;refine K.lpE ?_;exact K.finN .nores (hp:=by rw [hxe];exact hR (hxe ▸ hN))

theorem c61 (l:List Mov) (Hp:List AObj):AFun Tryz.prog 61 [Cq l] Hp (.fn (.func 89) [] [.ro [Cq l]]):=by
 refine ACall.body [.tmp 2] [0] Tryz.func61 Tryz.ntmps61 (fun d=>?_)
 refine Z97 ?_;refine Cu ?_;refine jq ?_;exact wt

theorem R5 {n k:Nat} {o:Bool} {l:List Val}:∀z∈[AV.slice o k (l.map Ak)],Low n z:=fun z hz=>by rw [List.mem_singleton.1 hz];exact Cn
/-- Where the way back stands behind k moves. -/
structure BkAt (c:List Col) (l:List Mov) (row:List Val) (k:Nat):Prop where
 ok:(bkM c l row k).2=0
 row:RowI (colsAt c l (l.length-k)) (bkM c l row k).1
theorem BkAt.zero {c:List Col} {l:List Mov} {row:List Val} (h:RowI (colsAt c l l.length) row):BkAt c l row 0:=⟨rfl,h⟩
theorem BkAt.fin {c:List Col} {l:List Mov} {row:List Val} (h:BkAt c l row l.length):bkM c l row l.length=((bkM c l row l.length).1,0):=Prod.ext rfl h.ok
theorem BkAt.next {c:List Col} {l:List Mov} {row:List Val} {k:Nat} {m:Mov} (h:BkAt c l row k) (hk:k<l.length) (hm:l[l.length-1-k]? = some m) (hg:∀e∈m.back,Bk Dr e=true) (he:(Bd (colsAt c l (l.length-1-k)) (colsAt c l (l.length-1-k+1)) m (bkM c l row k).1).2=0):BkAt c l row (k+1):=by
 have e:=Oy hm h.ok
 have hr:=h.row
 rw [show l.length-k=l.length-1-k+1 by omega] at hr
 refine ⟨by rw [e];exact he,?_⟩
 rw [e,show l.length-(k+1)=l.length-1-k by omega]
 exact ni hg hr he
theorem Np {c:List Col} {l:List Mov} {row:List Val} (h:(((D0 c l).2 != 0) || !I8 (colsAt c l l.length) row)=false):Bo c l row=bkM c l row l.length:=if_neg (by rw [h];simp)
theorem zv {U:List AObj} {l a b c e:Nat} {x y X Y Z T:AObj} (h:U[l]? = some x) (ha:a≠l) (hb:b≠l) (hc:c≠l) (he:e≠l):(((((U.set l y).set a X).set b Y).set c Z).set e T)[l]? = some y:=by rw [List.getElem?_set_ne he];exact wr h ha hb hc
theorem il (c:List Col) (l:List Mov):(D0 c l).1.length≤l.length+1:=by
 unfold D0 L8
 repeat' split
 all_goals first|exact Nat.zero_le _|exact Qp c l
theorem Te {c:List Col} {l:List Mov} (h:((D0 c l).2 != 0)=false):((D0 c l).1.map Ac)[l.length]? = some (Ac (colsAt c l l.length))∧((((D0 c l).1.map Ac).length:Nat):Int)-1=((l.length:Nat):Int):=by
 obtain ⟨_,_,hss⟩:=Iv h
 rw [hss]
 refine ⟨r9 (K1 (Nat.le_refl _)),?_⟩
 rw [List.length_map,I7]
 omega
theorem c41 (l:List Mov) (Hp:List AObj):AFun Tryz.prog 41 [Cq l] Hp (.fn (.func 89) [] [.ro [Cq l]]):=by
 refine ACall.body [.tmp 2] [0] Tryz.func41 Tryz.ntmps41 (fun d=>?_)
 refine Z48 ?_;refine Z2 ?_;refine R.call Tryz.call61 (c61 l _) ?_;refine R.go ?_;exact wt

theorem c16 (c:List Col) (hc:OkCols c) (hc2:c.length≤1000000) (l:List Mov) (h:OkMovs l) (row:List Val) (hrr:∀v∈row, -9223372036854775808≤v.n∧v.n≤9223372036854775807) (hrl:row.length≤1048576) (Hp:List AObj):AFun Tryz.prog 16 [Ac c,Cq l,Aw row] Hp (.tup [Aw (Bo c l row).1,A2 (Bo c l row).2]):=by
 refine ACall.body [.cell 6 36,.cell 7 26] [0,1,2] Tryz.func16 Tryz.ntmps16 (fun d=>?_)
 refine Z27 ?_;refine Ki ?_;refine R.fin [0,1,2,6,7] ?_;refine Z1 ?_;refine R.call Tryz.call12 (c12 c hc hc2 l h _) ?_;refine ww ?_;refine Z20 ?_;refine Fc ?_;refine R.fin [1,2,6,7,8,9] ?_;refine Z67 ?_
 have hlen:=h.len
 have hsl:((D0 c l).1.map Ac).length≤2000000:=by rw [List.length_map];have:=il c l;omega
 have hcn:=Eh hc (fun m hm=>h.each m hm) l.length
 refine Z19 ?_;refine Ky ?_
 refine G.go (h:=Q.indexAddr (l.length) (Ac (colsAt c l l.length)) (fun hB=>(Te (by simpa using hB)).1) (hn:=fun hB=>(Te (by simpa using hB)).2)) (hr:=?_)
 refine Z9 ?_;refine G.call Tryz.call13 (fun hB=>c13 (colsAt c l l.length) hcn row hrl _) ?_;refine Z88 ?_;refine R.fin [1,2,6,7,8,9,31] ?_
 refine W.cond (fun ht31=>?_) (fun ht31=>?_)
 ·have hm:Bo c l row=([],1):=if_pos ht31
  refine Cu ?_;refine Fc ?_;refine R.nilOwn 0 3 ?_;refine Fc ?_;refine Z33 ?_;refine K.thR ?_;exact K.fin (V.two (V.cell jA) (V.cell jA)) ⟨by rw [hm]<;>rfl,rfl⟩
 have hm:=Np ht31
 have h31:((D0 c l).2 != 0)=false∧I8 (colsAt c l l.length) row=true:=by simpa using ht31
 obtain ⟨hmay,hst,hss⟩:=Iv h31.1
 have hmvo:=Nk hmay
 have hlen:=h.len
 have hR0:=Mb h31.2 hrr
 have hol:((Bt c l l.length).map Ac).length=l.length+1:=by rw [List.length_map,I7]
 rw [hss]
 refine Z99 ?_;refine R.call Tryz.call39 (c39 row hrl _) ?_;refine Z20 ?_;refine R.fin [1,6,7,8,9,10] ?_;refine Z67 ?_
 refine R.assumeLow (fun hlow=>?_)
 refine R.go ?_;refine R.call Tryz.call41 (c41 l _) ?_;refine R.fin [6,7,8,9,10,35] ?_;refine Gl ?_
 refine W.rangeV (m:=5) Tryz.call89 (fun FR as' bd' hFR has hbd=>?_)
 have hFRl:∀s,Low (Hp.length+7) (FR s):=by
  intro s
  rw [hFR]
  refine Low.strip ?_
  revert s
  repeat (first|exact Ap|refine Ao (by first|(simp [oid,or_imp,forall_and];done)|exact Ec|exact Cm|exact Cn|(simp [oid,or_imp,forall_and];exact ⟨fun m _ a _=>Ad _ a,fun m _ a _=>Ad _ a⟩)|(simp [oid,or_imp,forall_and]<;>omega)) ?_)
 have hOl:∀{e e2:Int} {t:List Val} {lp:AObj},ObjLow (Hp.length+7) lp→∀x∈Hp++[AObj.cells 36 [AV.nil],AObj.cells 26 [A2 e],AObj.cells 39 [Hv (Bt c l l.length)],AObj.cells 26 [A2 e2],AObj.cells 36 [Aw (t)],AObj.defs,lp],ObjLow (Hp.length+7) x:=by
  intro e e2 t lp hlp x hx
  refine Io (fun x hx=>ObjLow.le (by omega) (hlow x hx)) (fun x hx=>?_) x hx
  simp only [List.mem_cons,List.mem_nil_iff,or_false] at hx
  rcases hx with rfl|rfl|rfl|rfl|rfl|rfl|rfl
  ·intro y hy;rw [List.mem_singleton.1 hy];simp
  ·intro y hy;rw [List.mem_singleton.1 hy];simp
  ·intro y hy;rw [List.mem_singleton.1 hy];exact Dy
  ·intro y hy;rw [List.mem_singleton.1 hy];simp
  ·exact R5
  ·trivial
  exact hlp
 refine ⟨_,c89 (oid Hp.length 6) l h.len (fun k=>Hp++[AObj.cells 36 [AV.nil],AObj.cells 26 [A2 0],AObj.cells 39 [Hv (Bt c l l.length)],AObj.cells 26 [A2 0],AObj.cells 36 [Aw ((bkM c l row k).1)],AObj.defs,AObj.loop LoopState.ready none FR 57 #[36,37] as' bd' (oid Hp.length 5)]) (BkAt c l row) (fun V=>(∃t,V=Hp++[AObj.cells 36 [AV.nil],AObj.cells 26 [A2 0],AObj.cells 39 [Hv (Bt c l l.length)],AObj.cells 26 [A2 0],AObj.cells 36 [Aw (t)],AObj.defs,AObj.loop LoopState.ready none FR 57 #[36,37] as' bd' (oid Hp.length 5)]∧Bo c l row=(t,0)∧RowI c t)∨(∃(e:Int) (t:List Val),V=Hp++[AObj.cells 36 [AV.nil],AObj.cells 26 [A2 e],AObj.cells 39 [Hv (Bt c l l.length)],AObj.cells 26 [A2 e],AObj.cells 36 [Aw (t)],AObj.defs,AObj.loop LoopState.done (some Code.ret) FR 57 #[36,37] as' bd' (oid Hp.length 5)]∧Bo c l row=([],e))) (fun k=>by simp) (by simp [oid]) (fun k=>(fun x hx=>by rw [List.length_append];exact hOl (lp:=AObj.loop LoopState.ready none FR 57 #[36,37] as' bd' (oid Hp.length 5)) (by exact ⟨hFRl,by simp [oid]⟩) x hx)) (.zero hR0) (fun k m X hk hm hN=>?_) (fun hN=>.inl ⟨_,rfl,by rw [Np ht31];exact hN.fin,by have:=hN.row;rw [Nat.sub_self] at this;exact this⟩),?_⟩
 ·generalize hV:Hp++[AObj.cells 36 [AV.nil],AObj.cells 26 [A2 0],AObj.cells 39 [Hv (Bt c l l.length)],AObj.cells 26 [A2 0],AObj.cells 36 [Aw ((bkM c l row k).1)],AObj.defs,AObj.loop LoopState.ready none FR 57 #[36,37] as' bd' (oid Hp.length 5)]++X=V
  have hL:V[oid Hp.length 6]? = some (AObj.loop LoopState.ready none FR 57 #[36,37] as' bd' (oid Hp.length 5)):=by rw [←hV,List.append_assoc,Aq];rfl
  have hA0:V[oid Hp.length 0]? = some (AObj.cells 36 [AV.nil]):=by rw [←hV,List.append_assoc,Aq];rfl
  have hB0:V[oid Hp.length 1]? = some (AObj.cells 26 [A2 0]):=by rw [←hV,List.append_assoc,Aq];rfl
  have hS0:V[oid Hp.length 2]? = some (AObj.cells 39 [Hv (Bt c l l.length)]):=by rw [←hV,List.append_assoc,Aq];rfl
  have hE0:V[oid Hp.length 3]? = some (AObj.cells 26 [A2 0]):=by rw [←hV,List.append_assoc,Aq];rfl
  have hZ0:V[oid Hp.length 4]? = some (AObj.cells 36 [Aw (bkM c l row k).1]):=by rw [←hV,List.append_assoc,Aq];rfl
  refine AYield.ofRound (pd:=none) (fr:=FR) (sz:=57) (ps:=#[36,37]) (df:=oid Hp.length 5) (asg:=as') (bd:=bd') hL rfl (by decide) (fun d=>?_)
  subst hFR has hbd
  refine W.keep [6,7,8,9,10,36,37] ?_
  have hmo:=h.each m (List.mem_of_getElem? hm)
  have hmv:=hmvo m (List.mem_of_getElem? hm)
  have htn:=Um hst hm
  have hcn:=Gy (c:=c) hm
  have hCo:=Eh hc (fun m hm=>h.each m hm) (l.length-1-k+1)
  have hCi:=Eh hc (fun m hm=>h.each m hm) (l.length-1-k)
  have herr:=fun hb=>s8 (row:=row) hk hm hN.ok hb
  have hnxt:=hN.next hk hm (fun e he=>hmo.back.rng e he)
  have htb:=Oy hm hN.ok
  have htl:=hN.row
  rw [show l.length-k=l.length-1-k+1 by omega] at htl
  have hik:l.length-1-k<l.length:=by omega
  have hsy:∀y∈colsAt c l (l.length-1-k),¬0≤J2 y.name m.take→∃j:Nat,B0 y.name (colsAt c l (l.length-1-k+1))=j∧j<(colsAt c l (l.length-1-k+1)).length:=fun y hy hn=>by
   rw [hcn]
   exact wj htn hy hn
  generalize l.length-1-k=i at *
  refine Z2 ?_;refine R.fin [6,7,8,9,10,11,37] ?_;refine AW.region ?_;refine Z20 ?_;refine R.fin [6,7,8,9,10,11,12] ?_
  refine ⟨rfl,none,hL,?_⟩
  generalize hbz:(AObj.loop LoopState.busy _ _ _ _ _ _ _)=bz
  have hA:(V.set (oid Hp.length 6) bz)[oid Hp.length 0]? = some (AObj.cells 36 [AV.nil]):=by rw [List.getElem?_set_ne (B5 (by decide))];exact hA0
  have hB:(V.set (oid Hp.length 6) bz)[oid Hp.length 1]? = some (AObj.cells 26 [A2 0]):=by rw [List.getElem?_set_ne (B5 (by decide))];exact hB0
  have hS:(V.set (oid Hp.length 6) bz)[oid Hp.length 2]? = some (AObj.cells 39 [Hv (Bt c l l.length)]):=by rw [List.getElem?_set_ne (B5 (by decide))];exact hS0
  have hE:(V.set (oid Hp.length 6) bz)[oid Hp.length 3]? = some (AObj.cells 26 [A2 0]):=by rw [List.getElem?_set_ne (B5 (by decide))];exact hE0
  have hZ:(V.set (oid Hp.length 6) bz)[oid Hp.length 4]? = some (AObj.cells 36 [Aw (bkM c l row k).1]):=by rw [List.getElem?_set_ne (B5 (by decide))];exact hZ0
  refine Gl ?_
  refine W.drawY [0,0,3,7,0,0,32,112,240,0,0,2047,4095,8191,8191,16383,65535] [15] [.q 14 [] [0],.q 1 [] [],.s [] (some 0) [] []] (fun B=>if B 0=true then ((V.set (oid Hp.length 6) bz).set (oid Hp.length 4) (AObj.cells 36 [Aw (Bd (colsAt c l i) (colsAt c l (i+1)) m (bkM c l row k).1).1])) else (V.set (oid Hp.length 6) bz)) (fun _=>[AObj.cells 77 (Na m)]) Aa (by kernel_rfl) rfl rfl (fun B=>by split<;>simp) ?_
  apply Y.q
  case h1 =>
   intro B hT hF
   first|simp only [hF 0 (List.mem_singleton_self 0),Bool.false_eq_true,if_false]|skip
   refine D.go (h:=Q.loadUp hS) (hr:=?_)
   refine D.go ?_
   refine D.go (h:=Q.indexAddr (i) (Ac (colsAt c l i)) (fun _=>r9 (K1 (by omega)))) (hr:=?_)
   refine D.go ?_
   refine D.go (h:=Q.loadUp hS) (hr:=?_)
   refine Z11 ?_
   refine D.go (h:=Q.indexAddr ((i+1)) (Ac (colsAt c l (i+1))) (fun _=>r9 (K1 (by omega)))) (hr:=?_)
   refine Z11 ?_
   refine D.go (h:=Q.loadUp hZ) (hr:=?_)
   refine D.call Tryz.call42 (c42 (colsAt c l i) (colsAt c l (i+1)) hCi.len hCo m hmo (Fi (Nd hmv)).2 hsy (bkM c l row k).1 htl.fine htl.len _) ?_;exact Z60
  case hTF=>decide
  apply Y.q
  case h1 =>
   intro B hT hF
   first|simp only [hF 0 (List.mem_singleton_self 0),Bool.false_eq_true,if_false]|skip
   exact Z66
  case hTF=>decide
  refine Y.storeUp (o:=oid Hp.length 4) (t':=36) (ys:=[Aw (Bd (colsAt c l i) (colsAt c l (i+1)) m (bkM c l row k).1).1]) (cs:=[Aw (bkM c l row k).1]) (cs':=[Aw (Bd (colsAt c l i) (colsAt c l (i+1)) m (bkM c l row k).1).1]) Tryz.sizeOf36 (fun B hB=>⟨by simp only [hB];exact hZ,by simp [upd,hB],rfl,R5⟩) ?_
  refine Y.tail (tn:=[15]) (U:=((V.set (oid Hp.length 6) bz).set (oid Hp.length 4) (AObj.cells 36 [Aw (Bd (colsAt c l i) (colsAt c l (i+1)) m (bkM c l row k).1).1]))) ?_
  refine R.storeUp jS (Ui hE (B5 (by decide))) ?_ ?_
  ·simp
  refine R.fin [6,7,9] ?_;refine Cu ?_
  have hE2:(((V.set (oid Hp.length 6) bz).set (oid Hp.length 4) (AObj.cells 36 [Aw (Bd (colsAt c l i) (colsAt c l (i+1)) m (bkM c l row k).1).1])).set (oid Hp.length 3) (AObj.cells 26 [A2 (Bd (colsAt c l i) (colsAt c l (i+1)) m (bkM c l row k).1).2]))[oid Hp.length 3]? = some (AObj.cells 26 [A2 (Bd (colsAt c l i) (colsAt c l (i+1)) m (bkM c l row k).1).2]):=getset (Ui hE (B5 (by decide)))
  refine R.go (h:=Q.loadUp hE2) (hr:=?_)
  refine R.go ?_;refine R.fin [6,7,9,54] ?_
  refine W.cond (fun ht54=>?_) (fun ht54=>?_)
  ·have herr:=herr (by simpa using ht54)
   refine W.drawY [0,0,3] [1] [.q 1 [] [],.s [] (some 0) [] []] (fun B=>if B 0=true then ((((V.set (oid Hp.length 6) bz).set (oid Hp.length 4) (AObj.cells 36 [Aw (Bd (colsAt c l i) (colsAt c l (i+1)) m (bkM c l row k).1).1])).set (oid Hp.length 3) (AObj.cells 26 [A2 (Bd (colsAt c l i) (colsAt c l (i+1)) m (bkM c l row k).1).2])).set (oid Hp.length 0) (AObj.cells 36 [AV.nil])) else (((V.set (oid Hp.length 6) bz).set (oid Hp.length 4) (AObj.cells 36 [Aw (Bd (colsAt c l i) (colsAt c l (i+1)) m (bkM c l row k).1).1])).set (oid Hp.length 3) (AObj.cells 26 [A2 (Bd (colsAt c l i) (colsAt c l (i+1)) m (bkM c l row k).1).2]))) (fun _=>[AObj.cells 77 (Na m)]) Aa (by kernel_rfl) rfl rfl (fun B=>by split<;>simp) ?_
   apply Y.q
   case h1 =>
    intro B hT hF
    refine D.go (h:=Q.loadUp (show (if B 0=true then ((((V.set (oid Hp.length 6) bz).set (oid Hp.length 4) (AObj.cells 36 [Aw (Bd (colsAt c l i) (colsAt c l (i+1)) m (bkM c l row k).1).1])).set (oid Hp.length 3) (AObj.cells 26 [A2 (Bd (colsAt c l i) (colsAt c l (i+1)) m (bkM c l row k).1).2])).set (oid Hp.length 0) (AObj.cells 36 [AV.nil])) else (((V.set (oid Hp.length 6) bz).set (oid Hp.length 4) (AObj.cells 36 [Aw (Bd (colsAt c l i) (colsAt c l (i+1)) m (bkM c l row k).1).1])).set (oid Hp.length 3) (AObj.cells 26 [A2 (Bd (colsAt c l i) (colsAt c l (i+1)) m (bkM c l row k).1).2])))[oid Hp.length 3]? = some (AObj.cells 26 [A2 (Bd (colsAt c l i) (colsAt c l (i+1)) m (bkM c l row k).1).2]) by split;exact Ui hE2 (B5 (by decide));exact hE2)) (hr:=?_)
    exact L0
   case hTF=>decide
   refine Y.storeUp (o:=oid Hp.length 0) (t':=36) (ys:=[.nil]) (cs:=[.nil]) (cs':=[.nil]) Tryz.sizeOf36 (fun B hB=>⟨by simp only [hB];exact Ui (Ui hA (B5 (by decide))) (B5 (by decide)),by simp [upd,hB],rfl,by simp⟩) ?_
   refine Y.tail (tn:=[1]) (U:=((((V.set (oid Hp.length 6) bz).set (oid Hp.length 4) (AObj.cells 36 [Aw (Bd (colsAt c l i) (colsAt c l (i+1)) m (bkM c l row k).1).1])).set (oid Hp.length 3) (AObj.cells 26 [A2 (Bd (colsAt c l i) (colsAt c l (i+1)) m (bkM c l row k).1).2])).set (oid Hp.length 0) (AObj.cells 36 [AV.nil]))) ?_
   refine R.storeUp jS (Ui (Ui (Ui hB (B5 (by decide))) (B5 (by decide))) (B5 (by decide))) ?_ ?_
   ·simp
   refine R.fin [] ?_;refine AW.ret ?_;refine K.blR ?_
   subst hbz
   refine K.rdR (zv hL (B5 (by decide)) (B5 (by decide)) (B5 (by decide)) (B5 (by decide))) ?_
   refine .inr ⟨rfl,Hp++[AObj.cells 36 [AV.nil],AObj.cells 26 [A2 (Bd (colsAt c l i) (colsAt c l (i+1)) m (bkM c l row k).1).2],AObj.cells 39 [Hv (Bt c l l.length)],AObj.cells 26 [A2 (Bd (colsAt c l i) (colsAt c l (i+1)) m (bkM c l row k).1).2],AObj.cells 36 [Aw ((Bd (colsAt c l i) (colsAt c l (i+1)) m (bkM c l row k).1).1)],AObj.defs,_],?_,by simp,(fun x hx=>by rw [List.length_append];exact hOl (lp:=_) (by exact ⟨hFRl,by simp [oid]⟩) x hx),.inr ⟨_,_,rfl,by rw [Np ht31];exact herr⟩⟩
   subst hV
   simp only [List.append_assoc,E1,List.cons_append,List.nil_append,List.set_cons_succ,List.set_cons_zero]
  have hB1:=hnxt (by simpa using ht54)
  refine AW.skip ?_;refine K.blN ?_
  subst hbz
  refine pq ?_
  refine .inl ⟨rfl,hB1,?_⟩
  subst hV
  simp only [List.append_assoc,E1,List.cons_append,List.nil_append,List.set_cons_succ,List.set_cons_zero]
  rw [htb,show (Bd (colsAt c l i) (colsAt c l (i+1)) m (bkM c l row k).1).2=0 by simpa using ht54]
 rintro r H' (⟨t,rfl,hrun,_⟩|⟨e,t,rfl,hrun⟩)
 ·refine ⟨Hp,_,_,_,rfl,rfl,fun h=>h,?_,rfl,by simp,?_⟩
  ·intro o ho
   have:o=oid Hp.length 5:=by simpa using ho
   subst this
   rw [Aq]
   rfl
  refine Z14 ?_;refine Z2 ?_;refine Fc ?_;refine Fc ?_;refine Z33 ?_;exact K.fin (V.two (V.cell jA) (V.cell jA)) ⟨by rw [hrun],rfl⟩ (hlow:=by simp only [aj,List.mem_cons,List.mem_nil_iff,or_false];rintro y (rfl|rfl);exact Cn;simp)
 refine ⟨Hp,_,_,_,rfl,rfl,fun h=>h,?_,rfl,by simp,?_⟩
 ·intro o ho
  have:o=oid Hp.length 5:=by simpa using ho
  subst this
  rw [Aq]
  rfl
 refine W.nilOwn 0 3 ?_;refine AW.ret ?_;refine Z5 ?_;exact K.fin (V.two (V.cell jA) (V.cell jA)) ⟨by rw [hrun];rfl,rfl⟩

/-- Moves whose numbers are ones of 64 bits. -/
structure RngMv (m:Mov):Prop where
 ahead:∀e∈m.ahead,Bk Dr e=true
 back:∀e∈m.back,Bk Dr e=true
theorem Xg {l:List Expr} (h20:l.length≤1048576) (h:l.any Qa=false) (hr:∀e∈l,Bk Dr e=true):OkEs l:=by
 have h1:∀e∈l,Slim e:=fun e he=>qg (by
  rw [List.any_eq_false] at h
  simpa using h e he)
 exact ⟨h20,fun e he=>(h1 e he).ok,fun e he=>by have:=(h1 e he).size;omega,hr⟩
theorem im {m:Mov} (h:Hc m=false) (hr:RngMv m):OkMov m:=by
 unfold Hc at h
 simp only [Bool.or_eq_false_iff,decide_eq_false_iff_not] at h
 obtain ⟨⟨⟨⟨⟨⟨h1,h2⟩,h3⟩,h4⟩,h5⟩,h6⟩,h7⟩:=h
 have h50:m.give.length≤1000000:=by
  unfold Eu at h1
  simp only [Bool.or_eq_false_iff,decide_eq_false_iff_not] at h1
  omega
 refine ⟨by omega,fun s hs=>?_,b7 h1,h50,Xg (by omega) h6 hr.ahead,Xg (by omega) h7 hr.back⟩
 rw [List.any_eq_false] at h5
 have:=h5 s hs
 simp only [decide_eq_true_eq] at this
 omega
theorem io {l:List Mov} (h:F5 l=false) (hr:∀m∈l,RngMv m):OkMovs l:=by
 unfold F5 at h
 simp only [Bool.or_eq_false_iff,decide_eq_false_iff_not] at h
 refine ⟨by omega,fun m hm=>im ?_ (hr m hm)⟩
 rw [List.any_eq_false] at h
 simpa using h.2 m hm
theorem o5 {c:List Col} (h:Eu c=false):c.length≤1000000:=by
 unfold Eu at h
 simp only [Bool.or_eq_false_iff,decide_eq_false_iff_not] at h
 omega
/-! What mig.Parse hands back is right, and may be walked. -/
structure TrE (e:Expr):Prop where
 right:Ef e=true
 rng:Bk Dr e=true
 need:C0 e≤30
theorem sh {l:List Tok} {i:Nat} (h0:(atM l i).2.2.1=0):C0 (atM l i).1≤30:=by
 unfold atM at h0 ⊢
 split
 ·exact gi
 rename_i hc
 have hc:(atS l i (atR l i)).code=0:=by simpa using hc
 have hr:(atR l i).2.code=0:=by
  unfold atS at hc
  split at hc
  ·exact hc
  rename_i hh;simpa using hh
 have:=((Zm l 30 0 rfl).1 ⟨i,0,0,0⟩ rfl).need hr
 have h2:=(Ma 0 (atR l i).1 (C0 (atR l i).1)).1
 show C0 (atR l i).1≤30
 unfold atR at h2 ⊢
 omega
theorem o6 {L:List Tok} (hw:∀i,WordOk (A7 L i)) {i:Nat} (ha:(atM L i).2.2.1=0):TrE (atM L i).1:=by
 have hneed:=sh ha
 revert hneed
 unfold atM at ha ⊢
 by_cases hc:((atS L i (atR L i)).code != 0)=true
 ·rw [if_pos hc] at ha
  rw [show (atS L i (atR L i)).code=0 from ha] at hc
  cases hc
 rw [if_neg hc]
 have hc:(atS L i (atR L i)).code=0:=by simpa using hc
 have h0:(atR L i).2.code=0∧depthE (atR L i).1≤30∧sizeE (atR L i).1≤300:=by
  unfold atS at hc
  split at hc
  ·rename_i hh;exact absurd hc (by simpa using hh)
  rename_i hh
  split at hc
  ·exact uk
  rename_i h2
  split at hc
  ·exact uk
  rename_i h3
  simp only [decide_eq_true_eq,Int.not_lt] at h2 h3
  exact ⟨by simpa using hh,by omega,by omega⟩
 have:=(n7 _ hw 30 0 rfl).1 ⟨i,0,0,0⟩ rfl h0.1
 refine fun hneed=>⟨?_,this.2,hneed⟩
 unfold Ef
 rw [Bool.and_eq_true,Bool.and_eq_true]
 exact ⟨⟨by simpa using h0.2.1,by simpa using h0.2.2⟩,this.1⟩
theorem aa {s:Str} (hl:(D8 s).2.1=0):∀i,WordOk (A7 (D8 s).1 i):=fun i=>by
 obtain ⟨_,hi,hM⟩:=Ue hl
 have hall:∀t∈(D8 s).1,WordOk t:=fun t ht=>by
  rw [hM] at ht
  rcases List.mem_append.1 ht with ht|ht
  ·obtain ⟨it,hit,rfl⟩:=List.mem_map.1 ht
   exact X0 _ _ _ it hit (hi it hit)
  rw [List.mem_singleton.1 ht]
  exact w8 _
 unfold A7
 rw [List.getD_eq_getElem?_getD]
 cases hg:(D8 s).1[i]? with
 | none=>exact ⟨(fun h=>by cases h),(fun h=>by cases h)⟩
 | some t=>exact hall t (List.mem_of_getElem? hg)
theorem cn {L:List Tok} (hw:∀i,WordOk (A7 L i)) {i:Nat} {x:Expr} {j:Nat} (h:Hn L i=.ok x j):TrE x:=by
 unfold Hn at h
 split at h
 ·cases h
 rename_i h1
 injection h with h2 _
 rw [←h2]
 exact o6 hw (by simpa using h1)
theorem Kh {L:List Tok} (hw:∀i,WordOk (A7 L i)) {i:Nat} {s:Str} {j:Nat} (h:Ed L i=.ok s j):F7 s=true:=by
 unfold Ed at h
 split at h
 ·cases h
 rename_i h1
 injection h with h2 _
 rw [←h2]
 exact (hw i).name (by simpa using h1)
theorem Tf {s:Str} (h:(I4 s==0)=false):1≤I4 s∧I4 s≤3:=by
 unfold I4 at h ⊢
 repeat' split at h
 all_goals simp_all
structure ColG (c:Col):Prop where
 name:F7 c.name=true
 lo:1≤c.kind
 hi:c.kind≤3
theorem ip {L:List Tok} (hw:∀i,WordOk (A7 L i)) {i:Nat} {c:Col} {j:Nat} (h:Fu L i=.ok c j):ColG c:=by
 obtain ⟨s,j1,h1,h2⟩:=PR.bind_ok h
 unfold X8 at h2
 split at h2
 ·cases h2
 rename_i h3
 injection h2 with h2 _
 have h3:(I4 (A7 L j1).text==0)=false:=by
  simp only [Bool.or_eq_true,not_or,Bool.not_eq_true] at h3
  exact h3.2
 rw [←h2]
 exact ⟨Kh hw h1,(Tf h3).1,(Tf h3).2⟩
/-- The parts of a move, so far. -/
structure MvG (m:Mov):Prop where
 takes:∀s∈m.take,F7 s=true
 gives:∀c∈m.give,ColG c
 len:m.ahead.length=m.give.length
 aheads:∀x∈m.ahead,TrE x
 backs:∀x∈m.back,TrE x
theorem MvG.nil (k:Int):MvG ⟨k,[],[],[],[]⟩:=⟨(fun s h=>by cases h),(fun s h=>by cases h),rfl,(fun s h=>by cases h),(fun s h=>by cases h)⟩
theorem P1 {L:List Tok} (hw:∀i,WordOk (A7 L i)) {m:Mov} (hm:MvG m) {i:Nat} {m':Mov} {j:Nat} (h:Cy L m i=.ok m' j):MvG m'∧∃c x,ColG c∧m'=T8 (Bu m c) x:=by
 obtain ⟨c,j1,h1,h2⟩:=PR.bind_ok h
 obtain ⟨u,j2,h3,h4⟩:=PR.bind_ok h2
 obtain ⟨x,j3,h5,h6⟩:=PR.bind_ok h4
 injection h6 with h6 _
 have hc:=ip hw h1
 have hx:=cn hw h5
 subst h6
 refine ⟨⟨hm.takes,fun y hy=>?_,?_,fun y hy=>?_,hm.backs⟩,c,x,hc,rfl⟩
 ·rcases List.mem_append.1 hy with h|h
  ·exact hm.gives y h
  rw [List.mem_singleton.1 h];exact hc
 ·show (m.ahead++[x]).length=(m.give++[c]).length
  rw [List.length_append,List.length_append,hm.len]
  rfl
 rcases List.mem_append.1 hy with h|h
 ·exact hm.aheads y h
 rw [List.mem_singleton.1 h];exact hx
theorem Xh {L:List Tok} (hl:TokEnd L) {n:Int} {one:Mov→Nat→PR Mov} {P:Nat→Mov→Prop} (hP:∀k m i m' j,P k m→i<L.length→one m i=.ok m' j→P (k+1) m'∧i≤j∧j<L.length):
  ∀(f k:Nat) (m:Mov) (i:Nat) (m':Mov) (j:Nat),i<L.length→L.length≤i+f→P k m→K3 L n one f k m i=.ok m' j→(∃c,P c m'∧(n=0→2≤c)∧(0<n→(k:Int)≤n→(c:Int)=n))∧j<L.length
 | 0,k,m,i,m',j,hi,hf,hm,h=>by omega
 | f+1,k,m,i,m',j,hi,hf,hm,h=>by
  rw [K3] at h
  split at h
  ·rename_i hq
   obtain ⟨u,j1,h1,h2⟩:=PR.bind_ok h
   obtain ⟨m1,j2,h3,h4⟩:=PR.bind_ok h2
   have e:=Hf h1
   have a1:=Cw hl hi _ _ h1
   obtain ⟨b1,b2,b3⟩:=hP k m j1 m1 j2 hm a1.2 h3
   obtain ⟨⟨c,c1,c2,c3⟩,c4⟩:=Xh hl hP f (k+1) m1 j2 m' j b3 (by omega) b1 h4
   refine ⟨⟨c,c1,c2,fun h0 hk=>c3 h0 ?_⟩,c4⟩
   unfold Kr at hq
   have:(n==0)=false:=by simp;omega
   rw [this] at hq
   simp at hq
   omega
  rename_i hq
  injection h with h1 h2
  subst h1;subst h2
  unfold Kr at hq
  refine ⟨⟨k,hm,fun h0=>?_,fun h0 hk=>?_⟩,hi⟩
  ·rw [h0] at hq
   simp at hq
   omega
  simp at hq
  omega
theorem Uq {L:List Tok} (hl:TokEnd L) {n:Int} {one:Mov→Nat→PR Mov} {P:Nat→Mov→Prop} (hP:∀k m i m' j,P k m→i<L.length→one m i=.ok m' j→P (k+1) m'∧i≤j∧j<L.length) {m:Mov} {i:Nat} {m':Mov} {j:Nat} (hi:i<L.length) (hm:P 0 m) (h:Ex L n one m i=.ok m' j):(∃c,P c m'∧(n=0→2≤c)∧(0<n→(c:Int)=n))∧j<L.length:=by
 obtain ⟨m1,j1,h1,h2⟩:=PR.bind_ok h
 obtain ⟨b1,b2,b3⟩:=hP 0 m i m1 j1 hm hi h1
 obtain ⟨⟨c,c1,c2,c3⟩,c4⟩:=Xh hl hP _ 1 m1 j1 m' j b3 (by omega) b1 h2
 exact ⟨⟨c,c1,c2,fun h0=>c3 h0 (by omega)⟩,c4⟩
theorem Nq {L:List Tok} (hl:TokEnd L) (hll:L.length≤500000) {m:Mov} {i:Nat} {m':Mov} {j:Nat} (hi:i<L.length) (h:Cy L m i=.ok m' j):i≤j∧j<L.length:=by
 obtain ⟨c,j1,h1,h2⟩:=PR.bind_ok h
 obtain ⟨u,j2,h3,h4⟩:=PR.bind_ok h2
 obtain ⟨x,j3,h5,h6⟩:=PR.bind_ok h4
 injection h6 with _ h7
 subst h7
 have a1:=Nn hl hi _ _ h1
 have a2:=Cw hl a1.2 _ _ h3
 have a3:=Iw hl hll a2.2 h5
 exact ⟨by omega,a3.2⟩
/-- The trees back. -/
theorem P2 {L:List Tok} (hl:TokEnd L) (hll:L.length≤500000) (hw:∀i,WordOk (A7 L i)) {m:Mov} (hm:MvG m) (h0:m.back=[]) (h1:1≤m.take.length) {i:Nat} (hi:i<L.length) {m':Mov} {j:Nat} (h:Dl L m i=.ok m' j):MvG m'∧∃b,b.length=m.take.length∧m'=⟨m.kind,m.take,m.give,m.ahead,b⟩:=by
 obtain ⟨u,j1,h2,h3⟩:=PR.bind_ok h
 have a1:=Cw hl hi _ _ h2
 obtain ⟨⟨c,⟨c1,b,hb,e⟩,c2,c3⟩,_⟩:=Uq (P:=fun k m'=>MvG m'∧∃b:List Expr,b.length=k∧m'=⟨m.kind,m.take,m.give,m.ahead,b⟩) hl (fun k m1 i m2 j hq hi h=>by
  obtain ⟨g,b,hb,e⟩:=hq
  obtain ⟨x,j1,h1,h2⟩:=PR.bind_ok h
  injection h2 with h2 h3
  subst h3
  have a:=Iw hl hll hi h1
  have hx:=cn hw h1
  subst h2
  refine ⟨⟨⟨g.takes,g.gives,g.len,g.aheads,fun y hy=>?_⟩,b++[x],by rw [List.length_append,hb];rfl,by rw [e];rfl⟩,a.1,a.2⟩
  rcases List.mem_append.1 hy with h|h
  ·exact g.backs y h
  rw [List.mem_singleton.1 h];exact hx) a1.2 ⟨hm,[],rfl,by rw [←h0]⟩ h3
 have:=c3 (by omega)
 exact ⟨c1,b,by omega,e⟩
/-- A move that is parsed, its counts and last words. -/
structure MvP (m:Mov):Prop where
 takes:∀s∈m.take,F7 s=true
 gives:∀c∈m.give,F7 c.name=true
 kinds:m.kind≠3→∀c∈m.give,1≤c.kind∧c.kind≤3
 kind3:m.kind=3→∀c∈m.give,c.kind=0
 counts:D4 m=true
 last:Fh m=true
 aheads:∀x∈m.ahead,TrE x
 backs:∀x∈m.back,TrE x
theorem Xi {s:Str} (h:F7 s=true):TrE (C3 s):=⟨by
 have:=Pu s
 rw [←Ip]
 rw [this]
 exact h,rfl,by rw [C3];simp [C0,Oa,M4]⟩
theorem MvG.p {m:Mov} (h:MvG m) (hk:m.kind≠3) (hc:D4 m=true) (hl:Fh m=true):MvP m:=⟨h.takes,fun c hc=>(h.gives c hc).name,fun _ c hc=>⟨(h.gives c hc).lo,(h.gives c hc).hi⟩,fun h3=>absurd h3 hk,hc,hl,h.aheads,h.backs⟩
theorem H1 {m:Mov} (h1:m.ahead.length=m.give.length) (h2:m.back.length=m.take.length) (h:(m.kind=1∧m.take.length=0∧m.give.length=1)∨(m.kind=2∧m.take.length=1∧m.give.length=0)∨((m.kind=3∨m.kind=6)∧m.take.length=1∧m.give.length=1)∨(m.kind=4∧m.take.length=1∧1<m.give.length)∨(m.kind=5∧1<m.take.length∧m.give.length=1)):D4 m=true:=by
 unfold D4
 rw [if_neg (by simp [h1,h2])]
 rcases h with ⟨e,a,b⟩|⟨e,a,b⟩|⟨e|e,a,b⟩|⟨e,a,b⟩|⟨e,a,b⟩<;>rw [e]<;>simp [a,b]<;>omega
theorem P3 {m:Mov} (h3:m.kind≠3) (h6:m.kind≠6):Fh m=true:=by
 unfold Fh
 rw [if_neg (by simpa using h3),if_neg (by simpa using h6)]
theorem si {L:List Tok} (hl:TokEnd L) (hll:L.length≤500000) (hw:∀i,WordOk (A7 L i)) {k:Int} (hk:1≤k∧k≤6) {i:Nat} (hi:i<L.length) {m:Mov} {j:Nat} (h:Em L ⟨k,[],[],[],[]⟩ i=.ok m j):MvP m:=by
 have hg:=MvG.nil k
 unfold Em at h
 split at h
 ·rename_i hk1
  have hk1:k=1:=by simpa using hk1
  obtain ⟨g,c,x,hc,e⟩:=P1 hw hg h
  subst e
  exact g.p (by show k≠3;omega) (H1 g.len rfl (.inl ⟨hk1,rfl,rfl⟩)) (P3 (by show k≠3;omega) (by show k≠6;omega))
 split at h
 ·rename_i hk1
  have hk1:k=2:=by simpa using hk1
  obtain ⟨s,j1,h1,h2⟩:=PR.bind_ok h
  have hs:=Kh hw h1
  have a1:=E5 hl hi _ _ h1
  have g0:MvG (takeS ⟨k,[],[],[],[]⟩ s):=⟨fun y hy=>by rw [List.mem_singleton.1 hy];exact hs,hg.gives,rfl,hg.aheads,hg.backs⟩
  obtain ⟨g,b,hb,e⟩:=P2 hl hll hw g0 rfl (Nat.le_refl _) a1.2 h2
  subst e
  exact g.p (by show k≠3;omega) (H1 rfl hb (.inr (.inl ⟨hk1,rfl,rfl⟩))) (P3 (by show k≠3;omega) (by show k≠6;omega))
 split at h
 ·rename_i hk1
  have hk1:k=3:=by simpa using hk1
  obtain ⟨s,j1,h1,h2⟩:=PR.bind_ok h
  obtain ⟨u,j2,h3,h4⟩:=PR.bind_ok h2
  obtain ⟨t,j3,h5,h6⟩:=PR.bind_ok h4
  injection h6 with h6 _
  have hs:=Kh hw h1
  have ht:=Kh hw h5
  subst h6
  refine ⟨fun y hy=>by rw [List.mem_singleton.1 hy];exact hs,fun y hy=>by rw [List.mem_singleton.1 hy];exact ht,fun h=>absurd hk1 h,fun _ y hy=>by rw [List.mem_singleton.1 hy],H1 rfl rfl (.inr (.inr (.inl ⟨.inl hk1,rfl,rfl⟩))),?_,fun y hy=>by rw [List.mem_singleton.1 hy];exact Xi hs,fun y hy=>by rw [List.mem_singleton.1 hy];exact Xi ht⟩
  unfold Fh
  rw [if_pos (by simpa using hk1)]
  show (eqE (C3 s) (C3 s)&&eqE (C3 t) (C3 t))=true
  rw [Q6,Q6]
  rfl
 split at h
 ·rename_i hk1
  have hk1:k=4:=by simpa using hk1
  obtain ⟨s,j1,h1,h2⟩:=PR.bind_ok h
  obtain ⟨u,j2,h3,h4⟩:=PR.bind_ok h2
  obtain ⟨m1,j3,h5,h6⟩:=PR.bind_ok h4
  have hs:=Kh hw h1
  have a1:=E5 hl hi _ _ h1
  have a2:=Cw hl a1.2 _ _ h3
  have g0:MvG (takeS ⟨k,[],[],[],[]⟩ s):=⟨fun y hy=>by rw [List.mem_singleton.1 hy];exact hs,hg.gives,rfl,hg.aheads,hg.backs⟩
  obtain ⟨⟨c,⟨g1,e1,e2,e3,e4⟩,c2,_⟩,c4⟩:=Uq (P:=fun n m'=>MvG m'∧m'.kind=k∧m'.take=[s]∧m'.back=[]∧m'.give.length=n) hl (fun n m1 i m2 j hq hi h=>by
   obtain ⟨g,e1,e2,e3,e4⟩:=hq
   obtain ⟨g',c,x,hc,e⟩:=P1 hw g h
   have a:=Nq hl hll hi h
   subst e
   exact ⟨⟨g',e1,e2,e3,by show (m1.give++[c]).length=_;rw [List.length_append,e4];rfl⟩,a.1,a.2⟩) a2.2 ⟨g0,rfl,rfl,rfl,rfl⟩ h5
  have c2:=c2 rfl
  obtain ⟨g,b,hb,e⟩:=P2 hl hll hw g1 e3 (by rw [e2];exact Nat.le_refl _) c4 h6
  subst e
  exact g.p (by show m1.kind≠3;omega) (H1 g1.len hb (.inr (.inr (.inr (.inl ⟨by show m1.kind=4;omega,by show m1.take.length=1;rw [e2];rfl,by show 1<m1.give.length;omega⟩))))) (P3 (by show m1.kind≠3;omega) (by show m1.kind≠6;omega))
 split at h
 ·rename_i hk1
  have hk1:k=5:=by simpa using hk1
  obtain ⟨m1,j1,h1,h2⟩:=PR.bind_ok h
  obtain ⟨u,j2,h3,h4⟩:=PR.bind_ok h2
  obtain ⟨m2,j3,h5,h6⟩:=PR.bind_ok h4
  obtain ⟨⟨c,⟨g1,e1,e2,e3,e4,e5⟩,c2,_⟩,c4⟩:=Uq (P:=fun n m'=>MvG m'∧m'.kind=k∧m'.give=[]∧m'.ahead=[]∧m'.back=[]∧m'.take.length=n) hl (fun n m1 i m2 j hq hi h=>by
   obtain ⟨g,e1,e2,e3,e4,e5⟩:=hq
   obtain ⟨s,j1,h1,h2⟩:=PR.bind_ok h
   injection h2 with h2 h3
   have hs:=Kh hw h1
   have a:=E5 hl hi _ _ h1
   subst h3
   subst h2
   refine ⟨⟨⟨fun y hy=>?_,g.gives,g.len,g.aheads,g.backs⟩,e1,e2,e3,e4,by show (m1.take++[s]).length=_;rw [List.length_append,e5];rfl⟩,by omega,a.2⟩
   rcases List.mem_append.1 hy with h|h
   ·exact g.takes y h
   rw [List.mem_singleton.1 h];exact hs) hi ⟨hg,rfl,rfl,rfl,rfl,rfl⟩ h1
  have c2:=c2 rfl
  have a2:=Cw hl c4 _ _ h3
  obtain ⟨g2,cc,x,hc,e⟩:=P1 hw g1 h5
  have a3:=Nq hl hll a2.2 h5
  subst e
  obtain ⟨g,b,hb,e⟩:=P2 hl hll hw g2 e4 (by show 1≤m1.take.length;omega) a3.2 h6
  subst e
  exact g.p (by show m1.kind≠3;omega) (H1 g2.len hb (.inr (.inr (.inr (.inr ⟨by show m1.kind=5;omega,by show 1<m1.take.length;omega,by show (m1.give++[cc]).length=1;rw [e2];rfl⟩))))) (P3 (by show m1.kind≠3;omega) (by show m1.kind≠6;omega))
 split at h
 ·rename_i hk1
  have hk1:k=6:=by simpa using hk1
  obtain ⟨m1,j1,h1,h2⟩:=PR.bind_ok h
  obtain ⟨g,c,x,hc,e⟩:=P1 hw hg h1
  have a:=Nq hl hll hi h1
  subst e
  have g0:MvG (takeS (T8 (Bu ⟨k,[],[],[],[]⟩ c) x) c.name):=⟨fun y hy=>by rw [List.mem_singleton.1 hy];exact hc.name,g.gives,g.len,g.aheads,g.backs⟩
  obtain ⟨g1,b,hb,e⟩:=P2 hl hll hw g0 rfl (Nat.le_refl _) a.2 h2
  subst e
  refine g1.p (by show k≠3;omega) (H1 g0.len hb (.inr (.inr (.inl ⟨.inr hk1,rfl,rfl⟩)))) ?_
  unfold Fh
  rw [if_neg (by show ¬((k==3)=true);simp;omega),if_pos (by show (k==6)=true;simp;omega)]
  show (c.name==c.name)=true
  simp
 rename_i h1 h2 h3 h4 h5 h6
 simp only [beq_iff_eq] at h1 h2 h3 h4 h5 h6
 omega
theorem ac {s:Str} (h:(D5 s==0)=false):1≤D5 s∧D5 s≤6:=by
 unfold D5 at h ⊢
 repeat' split at h
 all_goals simp_all
theorem sj {L:List Tok} (hl:TokEnd L) (hll:L.length≤500000) (hw:∀i,WordOk (A7 L i)) {i:Nat} (hi:i<L.length) {m:Mov} {j:Nat} (h:Ga L i=.ok m j):MvP m:=by
 unfold Ga at h
 split at h
 ·cases h
 rename_i h1
 simp only [Bool.or_eq_true,not_or,Bool.not_eq_true] at h1
 obtain ⟨m1,j1,h2,h3⟩:=PR.bind_ok h
 obtain ⟨u,j2,h4,h5⟩:=PR.bind_ok h3
 injection h5 with h5 _
 subst h5
 exact si hl hll hw (ac h1.2) (hl.step hi (by have:=h1.1;simp at this;omega)) h2
theorem Tg {s:Str} (h:F7 s=true):s.length≤16:=by
 rw [←Fg] at h
 unfold Cg at h
 simp only [Bool.and_eq_true,decide_eq_true_eq] at h
 omega
theorem o7 {l:List Expr} (hl:l.length≤1048576) (h:∀x∈l,TrE x):OkEs l:=⟨hl,fun e he=>F3 (by decide) (Sy (h e he).right).1,fun e he=>Nat.le_trans (Sy (h e he).right).2 (by decide),fun e he=>(h e he).rng⟩
theorem MvP.ok {m:Mov} (h:MvP m) {n:Nat} (hn:MvLe m n) (h1:n≤1000000):OkMov m:=
 ⟨by have:=hn.take;omega,fun s hs=>by have:=Tg (h.takes s hs);omega,⟨by have:=hn.give;omega,fun y hy=>by have:=Tg (h.gives y hy);omega⟩,by have:=hn.give;omega,o7 (by have:=hn.ahead;omega) h.aheads,o7 (by have:=hn.back;omega) h.backs⟩
/-! Words that stand among others are parsed as they are alone. -/
/-! Moves that stand among others are parsed as they are alone. -/
section
variable {l l':List Tok} {p m:Nat}
end
/-! MigJoins: the moves of two sources, one behind the other. -/
theorem o8 {l:List Tok} {f:Nat} {ms:List Mov} {i:Nat} (h:(A7 l i).kind=0):Ds l (f+1) ms i=.ok ms i:=by rw [Ds,if_neg (by rw [h];decide)]
theorem o9 {l:List Tok} {f:Nat} {ms:List Mov} {i:Nat} (h:(A7 l i).kind≠0) (h8:ms.length=8):Ds l (f+1) ms i=.bad 3 (A7 l i).at_:=by
 rw [Ds,if_pos (by simpa using h),if_pos (by rw [h8];rfl)];rfl
theorem oa {l:List Tok} {f:Nat} {ms:List Mov} {i:Nat} (h:(A7 l i).kind≠0) (h8:ms.length≠8):Ds l (f+1) ms i=(Ga l i).bind fun m j=>Ds l f (ms++[m]) j:=by
 rw [Ds,if_pos (by simpa using h),if_neg (by simp only [beq_iff_eq];omega)]
theorem ob {l:List Tok} {f:Nat} {ms:List Mov} {i:Nat} {x:List Mov} {ia:Nat} (h:Ds l (f+1) ms i=.ok x ia):((A7 l i).kind=0∧x=ms∧ia=i)∨((A7 l i).kind≠0∧ms.length≠8∧∃v j,Ga l i=.ok v j∧Ds l f (ms++[v]) j=.ok x ia):=by
 by_cases hk:(A7 l i).kind=0
 ·rw [o8 hk] at h
  injection h with h1 h2
  exact .inl ⟨hk,h1.symm,h2.symm⟩
 by_cases h8:ms.length=8
 ·rw [o9 hk h8] at h;cases h
 rw [oa hk h8] at h
 obtain ⟨v,j,e1,e2⟩:=PR.bind_ok h
 exact .inr ⟨hk,h8,v,j,e1,e2⟩
/-! What mig.Parse hands back may be walked. -/
theorem sk {L:List Tok} (hl:TokEnd L) (hll:L.length≤500000) {i:Nat} (hi:i<L.length) {m:Mov} {j:Nat} (h:Ga L i=.ok m j):MvLe m (2*L.length):=by
 unfold Ga at h
 split at h
 ·cases h
 rename_i h0
 have hi1:i+1<L.length:=hl.step hi (by
  simp only [Bool.or_eq_true,not_or,Bool.not_eq_true,bne_eq_false_iff_eq] at h0
  rw [h0.1];decide)
 obtain ⟨m1,k,h1,h2⟩:=PR.bind_ok h
 obtain ⟨u,j2,h3,h4⟩:=PR.bind_ok h2
 injection h4 with h5 h6
 subst h5
 obtain ⟨_,a2,a3⟩:=Up hl hll _ (i+1) ⟨Nat.zero_le _,Nat.zero_le _,Nat.zero_le _,Nat.zero_le _⟩ (by omega) hi1 _ _ h1
 exact a3.mono (by omega)
theorem Of {L:List Tok} (hl:TokEnd L) (hll:L.length≤500000) (hw:∀i,WordOk (A7 L i)):∀(f:Nat) (l:List Mov) (i:Nat) (x:List Mov) (j:Nat),i<L.length→l.length≤8→l.length+f=9→(∀m∈l,MvP m∧MvLe m (2*L.length))→Ds L f l i=.ok x j→(∀m∈x,MvP m∧MvLe m (2*L.length))∧x.length≤8
 | 0,l,i,x,j,_,h1,h2,_,_=>by omega
 | f+1,l,i,x,j,hi,h8,hf,hg,h=>by
  rcases ob h with ⟨_,rfl,_⟩|⟨_,hn,v,k,e1,e2⟩
  ·exact ⟨hg,h8⟩
  have a:=cj hl hll hi e1
  have b:=sj hl hll hw hi e1
  have c:=sk hl hll hi e1
  have hlen:(l++[v]).length=l.length+1:=by simp
  refine Of hl hll hw f (l++[v]) k x j a.2 (by omega) (by omega) (fun m hm=>?_) e2
  rcases List.mem_append.1 hm with h|h
  ·exact hg m h
  rw [List.mem_singleton.1 h]
  exact ⟨b,c⟩
structure MigGood (l:List Mov):Prop where
 ok:OkMovs l
 each:∀m∈l,MvP m
 len:l.length≤8
theorem MigGood.nil:MigGood []:=⟨⟨Nat.zero_le _,fun m h=>(List.not_mem_nil h).elim⟩,fun m h=>(List.not_mem_nil h).elim,Nat.zero_le _⟩
theorem Xj (s:Str):MigGood (Me s).1:=by
 by_cases h0:((D8 s).2.1 != 0)=true
 ·rw [cl h0]
  exact .nil
 have h0:(D8 s).2.1=0:=by simpa using h0
 unfold Me
 rw [if_neg (by rw [h0];simp)]
 cases hm:He (D8 s).1 with
 | bad e a=>exact .nil
 | ok l i =>
  have hl:=b6 h0
  have hll:=bn h0
  obtain ⟨h1,h2⟩:=Of hl (by omega) (aa h0) 9 [] 0 l i (by have:=la h0;omega) (by decide) rfl (fun m h=>by cases h) hm
  exact ⟨⟨by show l.length≤1048576;omega,fun m hm=>(h1 m hm).1.ok (h1 m hm).2 (by omega)⟩,fun m hm=>(h1 m hm).1,h2⟩
theorem od {c:List Col} {l:List Mov} {row:List Val} (h:OkMovs l) (h0:RowI (colsAt c l l.length) row):∀k,k≤l.length→(bkM c l row k).2=0→BkAt c l row k
 | 0,_,_=>.zero h0
 | k+1,hk,he=>by
  have h1:(bkM c l row k).2=0:=Classical.byContradiction fun hn=>by
   rw [Zs hn (k+1) (by omega)] at he
   exact hn he
  obtain ⟨m,hm⟩:∃m,l[l.length-1-k]? = some m:=⟨l[l.length-1-k],List.getElem?_eq_getElem (by omega)⟩
  refine (od h h0 k (by omega) h1).next (by omega) hm (fun e he=>(h.each m (List.mem_of_getElem? hm)).back.rng e he) ?_
  rw [←Oy hm h1]
  exact he
theorem Nr {c:List Col} {l:List Mov} {row:List Val} (h:OkMovs l) (hrr:∀v∈row, -9223372036854775808≤v.n∧v.n≤9223372036854775807) (hb:(Bo c l row).2=0):RowI c (Bo c l row).1:=by
 unfold Bo at hb ⊢
 split at hb
 ·cases hb
 rename_i h1
 rw [if_neg h1]
 have h2:I8 (colsAt c l l.length) row=true:=by
  simp only [Bool.or_eq_true,Bool.not_eq_true',not_or,Bool.not_eq_false] at h1
  exact h1.2
 have:=(od h (Mb h2 hrr) l.length (Nat.le_refl _) hb).row
 rw [Nat.sub_self] at this
 exact this
theorem wl {c:List Col} {l:List Mov} {row:List Val}:∀k,(bkM c l row k).2≠0→(bkM c l row k).1=[]
 | 0,h=>absurd rfl h
 | k+1,h=>by
  rw [bkM] at h ⊢
  split
  ·rfl
  rename_i h1
  rw [if_neg h1] at h
  split at h
  ·exact absurd h (by simpa using h1)
  exact T5 h
theorem iq {c:List Col} (hc:OkCols c) {l:List Mov} {row:List Val} (h:OkMovs l) (hrr:∀v∈row, -9223372036854775808≤v.n∧v.n≤9223372036854775807):(Bo c l row).1.length≤1048576:=by
 by_cases hb:(Bo c l row).2=0
 ·rw [(Nr h hrr hb).len]
  exact hc.len
 unfold Bo at hb ⊢
 split
 ·exact Ya
 rename_i h1
 rw [if_neg h1] at hb
 rw [wl _ hb]
 exact Ya
theorem oe {c:List Col} {l:List Mov} {row:List Val} (h:OkMovs l) (hs:((D0 c l).2 != 0)=false) (h0:RowI c row):∀k,k≤l.length→(fwM c l row k).2=0→RowI (colsAt c l k) (fwM c l row k).1
 | 0,_,_=>h0
 | k+1,hk,he=>by
  obtain ⟨hmay,hst,_⟩:=Iv hs
  have h1:(fwM c l row k).2=0:=Classical.byContradiction fun hn=>by
   rw [Zr hn (k+1) (by omega)] at he
   exact hn he
  obtain ⟨m,hm⟩:∃m,l[k]? = some m:=⟨l[k],List.getElem?_eq_getElem (by omega)⟩
  have hml:=List.mem_of_getElem? hm
  have e:=Un hm h1
  rw [e,Gy hm]
  exact T0 (Um hst hm) (Nk hmay m hml) (fun e he=>(h.each m hml).ahead.rng e he) (oe h hs h0 k (by omega) h1) (by rw [←e];exact he)
theorem R6 {c:List Col} {l:List Mov} {row:List Val} (h:OkMovs l) (hrr:∀v∈row, -9223372036854775808≤v.n∧v.n≤9223372036854775807) (hb:(C2 c l row).2=0):RowI (colsAt c l l.length) (C2 c l row).1:=by
 unfold C2 at hb ⊢
 split at hb
 ·cases hb
 rename_i h1
 rw [if_neg h1]
 have h2:((D0 c l).2 != 0)=false∧I8 c row=true:=by
  simp only [Bool.or_eq_true,Bool.not_eq_true',not_or,Bool.not_eq_false,Bool.not_eq_true] at h1
  exact h1
 exact oe h h2.1 (Mb h2.2 hrr) l.length (Nat.le_refl _) hb
theorem sm {c:List Col} {l:List Mov} {row:List Val} (h:OkMovs l) (hrr:∀v∈row, -9223372036854775808≤v.n∧v.n≤9223372036854775807) (ho:(F6 c l row).2=0):RowI c (F6 c l row).1:=by
 unfold F6 at ho ⊢
 split at ho
 ·rename_i h1
  rw [show (Bo c l row).2=0 from ho] at h1
  cases h1
 rename_i h1
 rw [if_neg h1]
 split at ho
 ·rename_i h2
  rw [show (C2 c l (Bo c l row).1).2=0 from ho] at h2
  cases h2
 rename_i h2
 rw [if_neg h2]
 split at ho
 ·cases ho
 rename_i h3
 rw [if_neg h3]
 exact Nr h hrr (by simpa using h1)
theorem c17 (c:List Col) (hc:OkCols c) (hc2:c.length≤1000000) (l:List Mov) (h:OkMovs l) (row:List Val) (hrr:∀v∈row, -9223372036854775808≤v.n∧v.n≤9223372036854775807) (hrl:row.length≤1048576) (Hp:List AObj):AFun Tryz.prog 17 [Ac c,Cq l,Aw row] Hp (.tup [Aw (F6 c l row).1,A2 (F6 c l row).2]):=by
 refine ACall.body [.tmp 6,.tmp 7] [0,1,2] Tryz.func17 Tryz.ntmps17 (fun d=>?_)
 refine Z1 ?_;refine U3 ?_;refine Z13 ?_;refine R.call Tryz.call16 (c16 c hc hc2 l h row hrr hrl _) ?_;refine Z64 ?_;refine R.fin [0,1,2,8,9] ?_;refine Z22 ?_;refine R.fin [0,1,2,8,9,19] ?_
 refine W.cond (fun ht19=>?_) (fun ht19=>?_)
 ·have hm:F6 c l row=([],(Bo c l row).2):=if_pos ht19
  refine Z1 ?_;refine Xy ?_;exact Z46
 have n1:¬((Bo c l row).2 != 0)=true:=by rw [ht19];simp
 have hB:=Nr h hrr (by simpa using ht19:(Bo c l row).2=0)
 refine Lq ?_
 refine R.call Tryz.call14 (c14 c hc hc2 l h (Bo c l row).1 (Hg hB.fine) (by rw [hB.len];exact hc.len) _) ?_
 refine Z64 ?_;refine R.fin [2,8,9,10] ?_;refine Vj ?_;refine R.fin [2,8,9,10,28] ?_
 refine W.cond (fun ht28=>?_) (fun ht28=>?_)
 ·have hm:F6 c l row=([],(C2 c l (Bo c l row).1).2):=by unfold F6;rw [if_neg n1,if_pos ht28]
  refine Z1 ?_;refine Xy ?_;exact xb
 have n2:¬((C2 c l (Bo c l row).1).2 != 0)=true:=by rw [ht28];simp
 have hF:=R6 h (Hg hB.fine) (by simpa using ht28:(C2 c l (Bo c l row).1).2=0)
 refine Z1 ?_
 refine R.call Tryz.call43 (c43 (C2 c l (Bo c l row).1).1 row (by rw [hF.len];exact (Eh hc (fun m hm=>h.each m hm) l.length).len) _) ?_
 refine Z0 ?_;refine R.fin [8,32] ?_
 refine W.cond (fun ht32=>?_) (fun ht32=>?_)
 ·have hm:F6 c l row=([],14):=by unfold F6;rw [if_neg n1,if_neg n2,if_pos ht32]
  refine Z2 ?_;refine Xy ?_;exact xb
 have hm:F6 c l row=((Bo c l row).1,0):=by unfold F6;rw [if_neg n1,if_neg n2,if_neg (by rw [ht32];simp)]
 refine Z18 ?_;refine Z13 ?_;refine Z33 ?_;exact K.fin (V.two V.tmp V.tmp) ⟨by rw [hm]<;>rfl,rfl⟩ (hlow:=by simpa using (Cn (n:=Hp.length) (k:=3) (o:=false) (l:=(Bo c l row).1)))

theorem c18 (c:List Col) (hc:OkCols c) (hc2:c.length≤1000000) (l:List Mov) (h:OkMovs l) (row:List Val) (hrr:∀v∈row, -9223372036854775808≤v.n∧v.n≤9223372036854775807) (hrl:row.length≤1048576) (Hp:List AObj):AFun Tryz.prog 18 [Ac c,Cq l,Aw row] Hp (Ar (Qz c l row)):=by
 refine ACall.body [.tmp 6] [0,1,2] Tryz.func18 Tryz.ntmps18 (fun d=>?_)
 refine jl ?_;refine Z13 ?_;refine R.call Tryz.call14 (c14 c hc hc2 l h row hrr hrl _) ?_;refine Z64 ?_;refine R.fin [0,1,2,7,8] ?_;refine Z22 ?_;refine R.fin [0,1,2,7,18] ?_
 refine W.cond (fun ht18=>?_) (fun ht18=>?_)
 ·have hm:Qz c l row=false:=if_pos ht18
  refine Rc ?_;exact Z87
 have hm:Qz c l row=(((Bo c l (C2 c l row).1).2==0)&&decide ((Bo c l (C2 c l row).1).1=row)):=if_neg (by rw [ht18];simp)
 have hF:=R6 h hrr (by simpa using ht18:(C2 c l row).2=0)
 refine Lq ?_
 refine R.call Tryz.call16 (c16 c hc hc2 l h (C2 c l row).1 (Hg hF.fine) (by rw [hF.len];exact (Eh hc (fun m hm=>h.each m hm) l.length).len) _) ?_
 refine Z64 ?_;refine R.fin [2,8,9] ?_;refine Rd ?_;refine G.call Tryz.call43 (fun hB=>c43 (Bo c l (C2 c l row).1).1 row (iq hc h (Hg hF.fine)) _) ?_;refine Z0 ?_;refine Z43 ?_;exact dz

theorem c11 (c:List Col) (l:List Mov) (row:List Val) (Hp:List AObj):AFun Tryz.prog 11 [Ac c,Cq l,Aw row] Hp (Ar ((Eu c || F5 l) || Mc row)):=by
 refine ACall.body [.tmp 6] [0,1,2] Tryz.func11 Tryz.ntmps11 (fun d=>?_)
 refine jl ?_;refine Z2 ?_;refine R.call Tryz.call7 (AAo c _) ?_;refine R.go ?_;refine G.go ?_;refine G.call Tryz.call32 (fun hB=>c32 l _) ?_;refine U0 ?_;refine G.call Tryz.call33 (fun hB=>c33 row _) ?_;refine Z0 ?_;refine Z43 ?_;exact um

theorem c31 (n:Int) (Hp:List AObj):AFun Tryz.prog 31 [A2 n] Hp (Ak ⟨1,n,[]⟩):=by
 refine ACall.body [.cell 2 63] [0] Tryz.func31 Tryz.ntmps31 (fun d=>?_)
 refine Z52 ?_;refine Z2 ?_;refine u5 ?_;exact K.fin (V.one (V.cellN jA jS)) ⟨rfl,rfl⟩

def aiS:Str:=[115,112,108,105,116,32,97,32,105,110,116,111,32,98,32,105,110,116,32,61,32,97,32,47,32,49,48,44,32,99,32,105,110,116,32,61,32,97,32,37,32,49,48,32,98,97,99,107,32,98,32,42,32,49,48,32,43,32,99,59]
def aiC:List Col:=[⟨[97],1⟩]
theorem so:(Me aiS).2.1=0:=by kernel_rfl
theorem zw:(Me aiS).2.2=0:=by kernel_rfl
theorem og:C2 aiC (Me aiS).1 [⟨1,42,[]⟩]=([⟨1,4,[]⟩,⟨1,2,[]⟩],0):=by kernel_rfl
theorem wm:F6 aiC (Me aiS).1 [⟨1,4,[]⟩,⟨1,12,[]⟩]=([],14):=by kernel_rfl
theorem zx:OkCols aiC:=⟨by simp [aiC],fun y hy=>by rw [List.mem_singleton.1 hy];simp⟩
theorem c10 (Hp:List AObj):AFun Tryz.prog 10 [] Hp (Ar true):=by
 refine ACall.body [.tmp 0] [] Tryz.func10 Tryz.ntmps10 (fun d=>?_)
 refine Z2 ?_;refine R.fin [] ?_;refine Cu ?_;refine U1 ?_;refine R.buildSl jU jS jZ ?_;refine R.go ?_;refine R.fin [1] ?_;refine Cu ?_;refine R.call Tryz.call30 (c30 aiS (by decide) _) ?_;refine Z19 ?_;refine Z95 ?_;refine R.fin [1,2,3] ?_;refine Cu ?_
 rw [so,zw]
 refine Z0 ?_;refine R.call Tryz.call31 (c31 42 _) ?_;refine R.buildSl jU jS jZ ?_
 refine R.call Tryz.call14 (c14 aiC zx (by decide) (Me aiS).1 (Xj aiS).ok [⟨1,42,[]⟩] (fun v hv=>by rw [List.mem_singleton.1 hv];decide) (by decide) _) ?_
 rw [og]
 refine Z64 ?_;refine R.fin [1,2,3,4,5] ?_;refine Z1 ?_;refine R.call Tryz.call31 (c31 4 _) ?_;refine R.call Tryz.call31 (c31 12 _) ?_;refine R.buildSl jU jS jZ ?_
 refine R.call Tryz.call17 (c17 aiC zx (by decide) (Me aiS).1 (Xj aiS).ok [⟨1,4,[]⟩,⟨1,12,[]⟩] (fun v hv=>by simp only [List.mem_cons,List.mem_nil_iff,or_false] at hv;rcases hv with rfl|rfl<;>decide) (by decide) _) ?_
 rw [wm]
 refine Z64 ?_;refine R.fin [3,4,5,7] ?_;refine W.draw [0,1,3,7,15,31,63,127,255,511,1023,2047,4095,8191,16383,32767,8191,131071,262143,524287,1048575,2097151,4194303,1048575,16777215,33554431,67108863,134217727,268435455,536870911,1073741823] 24 Aa (by kernel_rfl) ?_;refine Ol ?_;refine Z74 ?_;refine Z11 ?_;refine Z74 ?_;refine H.go ?_;refine Z11 ?_;refine H.go ?_
 refine H.go (h:=Q.indexAddr (0) (Ak ⟨1,4,[]⟩) (fun _=>rfl)) (hr:=?_)
 refine H.go ?_;refine H.call Tryz.call31 (fun hB=>c31 4 _) ?_
 refine H.go (h:=Q.eqlAgg Rg (Fq 1 4 1 4 [] [])) (hr:=?_)
 refine Z11 ?_;refine H.go ?_
 refine H.go (h:=Q.indexAddr (1) (Ak ⟨1,2,[]⟩) (fun _=>rfl)) (hr:=?_)
 refine H.go ?_;refine H.call Tryz.call31 (fun hB=>c31 2 _) ?_;refine D.tail ?_
 refine G.go (h:=Q.eqlAgg Rg (Fq 1 2 1 2 [] [])) (hr:=?_)
 refine Z40 ?_;refine Z0 ?_;refine R.fin [0] ?_;refine AW.ret ?_;exact K.fin (V.one V.tmp) ⟨by rfl,rfl⟩

theorem c5 (c:List Col) (l:List Mov) (hrl:∀m∈l,RngMv m) (row:List Val) (hrr:∀v∈row, -9223372036854775808≤v.n∧v.n≤9223372036854775807) (Hp:List AObj):AFun Tryz.prog 5 [Ac c,Cq l,Aw row] Hp (Ar true):=by
 refine ACall.body [.tmp 6] [0,1,2] Tryz.func5 Tryz.ntmps5 (fun d=>?_)
 refine jl ?_;refine Z67 ?_;refine R.call Tryz.call10 (c10 _) ?_;refine R.go ?_;refine R.fin [0,1,2,14] ?_
 refine W.cond (fun ht14=>?_) (fun ht14=>?_)
 ·cases ht14
 refine Vl ?_;refine R.call Tryz.call11 (c11 c l row _) ?_;refine R.fin [0,1,2,18] ?_
 refine W.cond (fun ht18=>?_) (fun ht18=>?_)
 ·refine Rc ?_;refine K.thR ?_;exact jt
 simp only [Bool.or_eq_false_iff] at ht18
 obtain ⟨⟨hw1,hw2⟩,hw3⟩:=ht18
 have hc:=b7 hw1
 have hc2:c.length≤1000000:=o5 hw1
 have h:OkMovs l:=io hw2 hrl
 have hw4:row.length≤1048576:=by
  unfold Mc at hw3
  simp only [Bool.or_eq_false_iff,decide_eq_false_iff_not] at hw3
  omega
 refine Lq ?_;refine R.call Tryz.call17 (c17 c hc hc2 l h row hrr hw4 _) ?_;refine Z64 ?_;refine R.fin [0,1,2,7,8] ?_;refine Z22 ?_;refine R.fin [0,1,2,7,27] ?_
 refine W.cond (fun ht27=>?_) (fun ht27=>?_)
 ·have ho:=nh (c:=c) (l:=l) (row:=row) (by simpa using ht27)
  refine Z30 ?_;refine Z43 ?_;refine K.thR ?_;exact K.fin (V.one V.tmp) ⟨by rw [ho];rfl,rfl⟩
 have ho:(F6 c l row).2=0:=by simpa using ht27
 have hO:=sm h hrr ho
 obtain ⟨hl1,_,hl3⟩:=s6 ho
 refine Lq ?_
 refine R.call Tryz.call14 (c14 c hc hc2 l h (F6 c l row).1 (Hg hO.fine) (by rw [hO.len];exact hc.len) _) ?_
 rw [hl1]
 refine Z64 ?_;refine R.fin [0,1,2,7,9,10] ?_;refine Z13 ?_;refine R.call Tryz.call17 (c17 c hc hc2 l h row hrr hw4 _) ?_;refine Z64 ?_;refine R.fin [0,1,2,7,9,10,11,12] ?_;refine Rd ?_;refine G.call Tryz.call15 (fun hB=>c15 row row hw4 _) ?_;refine Z40 ?_;refine Z40 ?_
 refine G.call Tryz.call15 (fun hB=>c15 (F6 c l row).1 (F6 c l row).1 (by rw [hO.len];exact hc.len) _) ?_
 refine Y6 ?_
 refine G.call Tryz.call18 (fun hB=>c18 c hc hc2 l h (F6 c l row).1 (Hg hO.fine) (by rw [hO.len];exact hc.len) _) ?_
 refine Z0 ?_;refine Z43 ?_;exact K.fin (V.one V.tmp) ⟨by rw [hl3,ho];simp,rfl⟩

end Go.SX.Nb
