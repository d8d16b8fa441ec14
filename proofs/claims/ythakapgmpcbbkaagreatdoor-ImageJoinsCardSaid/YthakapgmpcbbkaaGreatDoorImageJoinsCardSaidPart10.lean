/- Texts on the way to this: ImageJoins answers true for whatever it is handed: of any moves, cut in two at any place: a row forth through both parts, one behind the other, is the row forth; back likewise (up to 50 columns and values, 8 moves). (part 10) -/
import Derived.Test.YthakapgmpcbbkaaGreatDoorImageJoinsCardSaidPart9
set_option linter.all false
namespace Go.SX.Nb
open Go Go.SX Go.Proofs Go.RowKit Go.Sort
variable [ErrAt]
set_option maxRecDepth 4000
end Go.SX.Nb
namespace Go.SX.Nb
open Go Go.SX Go.Proofs
variable [ErrAt]
set_option maxRecDepth 4000
/-! mig.Print: what it answers. -/
theorem Iy {n:Nat} {m:Mov}:Low n (.ro (Ny m)):=.ro _ Vf
theorem Cw {n k:Nat} {o:Bool} {l:List Val}:Low n (.slice o k (l.map Am)):=by simp [or_imp,forall_and]
theorem Hc {n k:Nat} {o:Bool} {l:List Val} {v:Val}:Low n (.slice o k (l.map Am++[Am v])):=by simp [or_imp,forall_and]
theorem vp {l:List Val} {j:Nat} (h:j<l.length):(l.map Am)[j]? = some (Am (l.getD j noV)):=by
 rw [List.getElem?_map,List.getElem?_eq_getElem h,List.getD_eq_getElem?_getD,List.getElem?_eq_getElem h];rfl
theorem Gr {l:List Val} (h:∀v∈l,Fine v):∀v∈l, -9223372036854775808≤v.n∧v.n≤9223372036854775807:=fun v hv=>⟨(h v hv).lo,(h v hv).hi⟩
theorem Ub {c:List Col} {row:List Val}:∀{l:List Expr},(Ag c row l).1.length≤l.length
 | []=>Nat.le_refl _
 | x::r=>by
  rw [Ag]
  repeat' split
  ·exact V2
  ·exact V2
  have:=Ub (c:=c) (row:=row) (l:=r)
  simp only [List.length_cons]
  omega
theorem el {take:List Str} {c:List Col} {row:List Val}:(E7 take c row).length≤c.length:=by
 unfold E7
 rw [List.length_map]
 refine Nat.le_trans (List.length_filter_le _ _) ?_
 rw [List.length_zip]
 omega
theorem en {v:Str} {l:List Str} (h:0≤I7 v l):∃j:Nat,I7 v l=j∧j<l.length:=by
 unfold I7 at h ⊢
 cases hf:l.findIdx? (·==v) with
 | none=>rw [hf] at h;exact absurd h (by decide)
 | some i=>exact ⟨i,rfl,(List.findIdx?_eq_some_iff_getElem.1 hf).1⟩
theorem qy {nm:Str} {c:List Col} {y:Col} (h:y∈c) (hn:y.name=nm):∃j:Nat,B3 nm c=j∧j<c.length:=by
 unfold B3
 cases hf:c.findIdx? (fun y=>y.name==nm) with
 | none =>
  rw [List.findIdx?_eq_none_iff] at hf
  have:=hf y h
  rw [hn] at this
  simp at this
 | some i=>exact ⟨i,rfl,(List.findIdx?_eq_some_iff_getElem.1 hf).1⟩
/-- A column that is not taken is there behind the move. -/
theorem yt {c:List Col} {m:Mov} {y:Col} (ht:(Ay c m).2=0) (hy:y∈c) (hn:¬0≤I7 y.name m.take):∃j:Nat,B3 y.name (Ay c m).1=j∧j<(Ay c m).1.length:=by
 refine qy (y:=y) ?_ rfl
 rw [(Kh ht).1]
 refine List.mem_append_left _ ?_
 unfold Cf
 rw [List.mem_filter]
 refine ⟨hy,?_⟩
 rw [←Ve,decide_eq_false hn]
 rfl
theorem c43 (a b:List Val) (ha:a.length≤1048576) (Hp:List AObj):AFun Tryz.prog 43 [B1 a,B1 b] Hp (At (decide (a=b))):=by
 refine ACall.body [.tmp 4] [0,1] Tryz.func43 Tryz.ntmps43 (fun d=>?_)
 refine Z51 ?_;refine Zg ?_;refine R.fin [0,1,10] ?_
 refine W.cond (fun ht10=>?_) (fun ht10=>?_)
 ·refine Z63 ?_;exact zi
 refine Wq ?_;refine R.fin [0,1,12,13] ?_
 refine AW.loopC (α:=Nat) (fun x=>⟨26,A3 0 (B1 a) (A3 1 (B1 b) (A3 12 (A2 (a.length:Nat)) (A3 13 (A2 (x:Nat)) (fun _=>.any)))),Hp,[],[],none⟩) (fun x=>x≤a.length∧∀(j:Nat) (y:Val),j<x→a[j]? = some y→b[j]? = some y) (fun x=>a.length-x) (0) (by simp) (StLe.of_eq (by simp)) rfl (fun x hx=>?_)
 refine Z2 ?_;refine R.fin [0,1,12,13,14] ?_
 refine W.condX (fun ht14=>?_) (fun ht14=>?_)
 ·have hlt:x<a.length:=by simpa using ht14
  have hlb:x<b.length:=by have:=mw ht10;omega
  refine Z23 ?_;refine Z1 ?_;refine R.fin [0,1,5,12,13] ?_;refine AA5 ?_
  refine D.go (h:=Q.indexAddr (x) (Am a[x]) (fun _=>An hlt)) (hr:=?_)
  refine Z37 ?_
  refine D.go (h:=Q.indexAddr (x) (Am b[x]) (fun _=>An hlb)) (hr:=?_)
  refine mc ?_
  refine R.go (h:=Q.neqAgg Si (G8 a[x].kind a[x].n b[x].kind b[x].n a[x].s b[x].s)) (hr:=?_)
  refine R.fin [0,1,12,13,24] ?_
  refine W.cond (fun ht24=>?_) (fun ht24=>?_)
  ·rw [Pk] at ht24
   refine Z63 ?_;refine Z54 ?_;exact K.fin (V.one V.tmp) ⟨by rw [AAv hlt hlb (by simpa using ht24)],rfl⟩
  rw [Pk] at ht24
  refine Z57 ?_;refine R.fin [0,1,12,13] ?_
  exact K.lpN (x+1) ⟨hlt,Hn (p:=fun j y=>b[j]? = some y) hlt hx.2 (by rw [List.getElem?_eq_getElem hlb];simpa using (Eq.symm (by simpa using ht24):b[x]=a[x]))⟩ (by omega) (StCut.of_eq rfl)
 have hxe:a.length≤x:=by simpa using ht14
 refine Z35 ?_;refine Z63 ?_;exact K.fin (V.one V.tmp) ⟨by rw [vl (by simpa using ht10) (Ig hxe hx.2)],rfl⟩

theorem c15 (a b:List Val) (ha:a.length≤1048576) (Hp:List AObj):AFun Tryz.prog 15 [B1 a,B1 b] Hp (At (decide (a=b))):=by
 refine ACall.body [.tmp 4] [0,1] Tryz.func15 Tryz.ntmps15 (fun d=>?_)
 refine Z51 ?_;refine Zg ?_;refine R.fin [0,1,10] ?_
 refine W.cond (fun ht10=>?_) (fun ht10=>?_)
 ·refine Z63 ?_;exact zi
 refine Q9 ?_;refine R.fin [0,1,5] ?_
 refine AW.loopC (α:=Nat) (fun x=>⟨26,A3 0 (B1 a) (A3 1 (B1 b) (A3 5 (A2 (x:Nat)) (fun _=>.any))),Hp,[],[],none⟩) (fun x=>x≤a.length∧∀(j:Nat) (y:Val),j<x→a[j]? = some y→b[j]? = some y) (fun x=>a.length-x) (0) (by simp) (StLe.refl _) rfl (fun x hx=>?_)
 refine Z48 ?_;refine R.fin [0,1,5,14] ?_
 refine W.cond (fun ht14=>?_) (fun ht14=>?_)
 ·have hlt:x<a.length:=by simpa using ht14
  have hlb:x<b.length:=by have:=mw ht10;omega
  refine Z86 ?_;refine AA5 ?_
  refine D.go (h:=Q.indexAddr (x) (Am a[x]) (fun _=>An hlt)) (hr:=?_)
  refine Z37 ?_
  refine D.go (h:=Q.indexAddr (x) (Am b[x]) (fun _=>An hlb)) (hr:=?_)
  refine mc ?_
  refine R.go (h:=Q.neqAgg Si (G8 a[x].kind a[x].n b[x].kind b[x].n a[x].s b[x].s)) (hr:=?_)
  refine R.fin [0,1,5,25] ?_
  refine W.cond (fun ht25=>?_) (fun ht25=>?_)
  ·rw [Pk] at ht25
   refine Z63 ?_;refine Z54 ?_;exact K.fin (V.one V.tmp) ⟨by rw [AAv hlt hlb (by simpa using ht25)],rfl⟩
  rw [Pk] at ht25
  refine Z57 ?_;refine R.go ?_;refine R.fin [0,1,5] ?_
  exact K.lpN (x+1) ⟨hlt,Hn (p:=fun j y=>b[j]? = some y) hlt hx.2 (by rw [List.getElem?_eq_getElem hlb];simpa using (Eq.symm (by simpa using ht25):b[x]=a[x]))⟩ (by omega) (StCut.of_eq rfl)
 refine Z98 ?_;refine Z63 ?_;exact K.fin (V.one V.tmp) ⟨by rw [vl (by simpa using ht10) (Ig (by simp at ht14;omega) hx.2)],rfl⟩

theorem c39 (l:List Val) (hl:l.length≤1048576) (Hp:List AObj):AFun Tryz.prog 39 [B1 l] Hp (B1 l):=by
 refine ACall.body [.tmp 2] [0] Tryz.func39 Tryz.ntmps39 (fun d=>?_)
 refine Z47 ?_;refine Z36 ?_
 refine R.eqlNil jU (by kernel_rfl) (fun b hb=>?_)
 refine R.fin [0,4] ?_
 refine W.cond (fun ht4=>?_) (fun ht4=>?_)
 ·have hl0:l=[]:=by simpa using hb ht4
  subst hl0
  refine Z2 ?_;refine R.nilTmp 2 3 false ?_;refine Z4 ?_;exact AA3
 refine Zd ?_;refine Lo ?_;refine R.go ?_
 refine R.append jU Tryz.type63 ?_ ?_ ?_
 ·simp [Tryz.t63];omega
 ·simp [Tryz.t63];omega
 refine R.assignT ?_;exact AA6

theorem c59 (c:List Col) (hc:OkCols c) (row:List Val) (hf:∀v∈row,Fine v) (hrl:row.length≤1048576) (l:List Expr) (h:OkEs l) (Hp:List AObj):AFun Tryz.prog 59 [I9 l,Ac c,B1 row] Hp (.tup [B1 (Ag c row l).1,A2 (Ag c row l).2]):=by
 refine ACall.body [.tmp 6,.tmp 7] [0,1,2] Tryz.func59 Tryz.ntmps59 (fun d=>?_)
 refine Z1 ?_;refine Qa ?_;refine Z2 ?_;refine R.fin [0,1,2,8] ?_;refine Z66 ?_
 have hlen:=h.len
 refine R.nilSl 8 3 ?_;refine Z29 ?_;refine R.fin [1,2,8,13,14,15] ?_
 refine AW.loopC (α:=Nat) (fun x=>⟨35,A3 1 (Ac c) (A3 2 (B1 row) (A3 8 (.slice true 3 (((l.take x).map fun e=>(Dt e c row).1).map Am)) (A3 13 (I9 l) (A3 14 (A2 (l.length:Nat)) (A3 15 (A2 (x:Nat)) (fun _=>.any)))))),Hp,[],[],none⟩) (fun x=>x≤l.length∧∀(j:Nat) (y:Expr),j<x→l[j]? = some y→((Dt y c row).2 != 0)=false) (fun x=>l.length-x) (0) ⟨Nat.zero_le _,fun j y h=>by omega⟩ (StLe.of_eq (by simp)) rfl (fun x hx=>?_)
 refine Z2 ?_;refine R.fin [1,2,8,13,14,15,16] ?_
 refine W.condX (fun ht16=>?_) (fun ht16=>?_)
 ·have hlt:x<l.length:=by simpa using ht16
  refine Z87 ?_
  refine R.go (h:=Q.indexAddr (x) (A5 l[x]) (fun _=>An hlt)) (hr:=?_)
  refine Q8 ?_;refine R.fin [1,2,8,10,13,14,15] ?_;refine Z13 ?_;refine R.call Tryz.call88 (c88 61 l[x] (h.ok _ (List.getElem_mem hlt)) (by decide) (h.rng _ (List.getElem_mem hlt)) c hc row hrl (Gr hf) _) ?_;refine gm ?_;refine R.fin [1,2,8,11,12,13,14,15] ?_;refine Z31 ?_;refine R.fin [1,2,8,11,12,13,14,15,27] ?_
  refine W.cond (fun ht27=>?_) (fun ht27=>?_)
  ·have hm:=Rq hx.2 (List.getElem?_eq_getElem hlt) ht27
   refine Z1 ?_;refine Z8 ?_;refine K.thR ?_;refine Z34 ?_;exact Z45
  refine Z6 ?_;refine Za ?_;refine Z71 ?_
  refine R.append jU Tryz.type63 ?_ ?_ ?_
  ·simp only [List.length_map,List.length_take,List.length_append,List.length_cons,List.length_nil,Tryz.t63];omega
  ·simp only [List.length_map,List.length_take,List.length_append,List.length_cons,List.length_nil,Tryz.t63];omega
  refine R.assignT ?_;refine R.fin [1,2,8,13,14,15] ?_;refine Uz ?_;refine R.fin [1,2,8,13,14,15] ?_;refine K.lpN (x+1) ⟨hlt,Cn hlt hx.2 ht27⟩ (by omega) ?_
  rw [Tv hlt,List.map_append,List.map_cons,List.map_nil]
  exact StCut.take (own:=[]) (fun _=>.refl _) (by repeat (first|exact Aq|refine Ap (by first|exact Fz|exact Cw|exact Hc|exact Eo|exact Ct|exact Eb|exact Iy|(simp [or_imp,forall_and];done)) ?_)) (by simp) (by simp)
 have hxe:l.length≤x:=by simpa using ht16
 have hm:=Rp (c:=c) (row:=row) fun j y hy=>hx.2 j y (by have:=(List.getElem?_eq_some_iff.1 hy).1;omega) hy
 rw [List.take_of_length_le hxe]
 refine Z35 ?_;refine Z13 ?_;refine Z33 ?_;exact K.fin (V.two V.tmp V.tmp) ⟨by rw [hm],rfl⟩ (hlow:=by simpa using (Cw (n:=Hp.length) (k:=3) (o:=false) (l:=l.map fun e=>(Dt e c row).1)))

theorem c40 (c:List Col) (hc:OkCols c) (m:Mov) (h:OkMov m) (row:List Val) (hf:∀v∈row,Fine v) (hl:row.length=c.length) (Hp:List AObj):AFun Tryz.prog 40 [Ac c,E6 m,B1 row] Hp (.tup [B1 (Cv c m row).1,A2 (Cv c m row).2]):=by
 have hcl:=hc.len
 have hrk:=Ub (c:=c) (row:=row) (l:=m.ahead)
 have hal:=h.ahead.len
 refine ACall.body [.tmp 6,.tmp 7] [0,1,2] Tryz.func40 Tryz.ntmps40 (fun d=>?_)
 refine Z13 ?_;refine R.fin [0,2,4] ?_;refine Z19 ?_;refine R.call Tryz.call59 (c59 c hc row hf (by omega) m.ahead h.ahead _) ?_;refine Z65 ?_;refine R.fin [0,2,4,8,9] ?_;refine Z31 ?_;refine R.fin [0,2,4,8,9,22] ?_
 refine W.cond (fun ht22=>?_) (fun ht22=>?_)
 ·have hm:Cv c m row=([],(Ag c row m.ahead).2):=if_pos ht22
  refine Z1 ?_;refine Z8 ?_;exact Z45
 have hm:Cv c m row=(E7 m.take c row++(Ag c row m.ahead).1,0):=if_neg (by rw [ht22];simp)
 refine Z99 ?_;refine R.fin [0,2,4,8,10] ?_;refine Z66 ?_;refine R.nilSl 10 3 ?_;refine Z29 ?_;refine R.fin [2,4,8,10,24,25,26] ?_
 refine AW.loopC (α:=Nat) (fun x=>⟨48,A3 2 (B1 row) (A3 4 (.ro (Ny m)) (A3 8 (B1 (Ag c row m.ahead).1) (A3 10 (.slice true 3 ((E7 m.take (c.take x) row).map Am)) (A3 24 (Ac c) (A3 25 (A2 (c.length:Nat)) (A3 26 (A2 (x:Nat)) (fun _=>.any))))))),Hp,[],[],none⟩) (fun x=>x≤c.length) (fun x=>c.length-x) (0) (Nat.zero_le _) (StLe.of_eq (by simp [E7])) rfl (fun x hx=>?_)
 refine Z2 ?_;refine R.fin [2,4,8,10,24,25,26,27] ?_
 refine W.condX (fun ht27=>?_) (fun ht27=>?_)
 ·have hlt:x<c.length:=by simpa using ht27
  have hxr:x<row.length:=by omega
  have hkl:=el (take:=m.take) (c:=c.take x) (row:=row)
  rw [List.length_take] at hkl
  refine Ma ?_
  refine R.go (h:=Q.indexAddr (x) (B0 c[x]) (fun _=>An hlt)) (hr:=?_)
  refine Zf ?_;refine R.fin [2,4,8,10,11,12,24,25,26] ?_;refine Z19 ?_;refine R.call Tryz.call60 (c60 m.take c[x].name h.takes _) ?_;refine R.go ?_;refine R.fin [2,4,8,10,11,24,25,26,36] ?_
  refine W.cond (fun ht36=>?_) (fun ht36=>?_)
  ·have hk:=uo hlt hxr (by simpa using ht36)
   refine Za ?_;refine Z0 ?_
   refine R.go (h:=Q.indexAddr (x) (Am row[x]) (fun _=>An hxr)) (hr:=?_)
   refine Z71 ?_
   refine R.append jU Tryz.type63 ?_ ?_ ?_
   ·simp only [List.length_map,List.length_take,List.length_append,List.length_cons,List.length_nil,Tryz.t63];omega
   ·simp only [List.length_map,List.length_take,List.length_append,List.length_cons,List.length_nil,Tryz.t63];omega
   refine R.assignT ?_;refine R.fin [2,4,8,10,24,25,26] ?_;refine Uz ?_;refine R.fin [2,4,8,10,24,25,26] ?_;refine mi ?_
   simp only [hk,List.map_append,List.map_cons,List.map_nil]
   exact StCut.take (own:=[]) (fun _=>.refl _) (by repeat (first|exact Aq|refine Ap (by first|exact Fz|exact Cw|exact Hc|exact Eo|exact Ct|exact Eb|exact Iy|(simp [or_imp,forall_and];done)) ?_)) (by simp) (by simp)
  have hk:=qf hlt hxr (by simpa using ht36)
  refine Z57 ?_;refine R.fin [2,4,8,10,24,25,26] ?_;refine mi ?_
  simp only [hk,List.map_append,List.map_cons,List.map_nil]
  exact StCut.take (own:=[]) (fun _=>.refl _) (by repeat (first|exact Aq|refine Ap (by first|exact Fz|exact Cw|exact Hc|exact Eo|exact Ct|exact Eb|exact Iy|(simp [or_imp,forall_and];done)) ?_)) (by simp) (by simp)
 have hxe:c.length≤x:=by simpa using ht27
 rw [List.take_of_length_le hxe]
 have hkl:=el (take:=m.take) (c:=c) (row:=row)
 refine Z35 ?_;refine Cz ?_;refine R.moveT ?_;refine R.go ?_
 refine R.append jU Tryz.type63 ?_ ?_ ?_
 ·simp only [List.length_map,List.length_take,List.length_append,List.length_cons,List.length_nil,Tryz.t63];omega
 ·simp only [List.length_map,List.length_take,List.length_append,List.length_cons,List.length_nil,Tryz.t63];omega
 refine R.assignT ?_;refine Z94 ?_;exact K.fin (V.two V.tmp V.tmp) ⟨by rw [hm,←List.map_append]<;>rfl,rfl⟩ (hlow:=by rw [←List.map_append];simpa using (Cw (n:=Hp.length) (k:=3) (o:=false) (l:=E7 m.take c row++(Ag c row m.ahead).1)))

theorem c42 (a dd:List Col) (ha:a.length≤1048576) (hd:OkCols dd) (m:Mov) (h:OkMov m) (hb:m.back.length=m.take.length) (hs:∀y∈a,¬0≤I7 y.name m.take→∃j:Nat,B3 y.name dd=j∧j<dd.length) (row:List Val) (hf:∀v∈row,Fine v) (hl:row.length=dd.length) (Hp:List AObj):AFun Tryz.prog 42 [Ac a,Ac dd,E6 m,B1 row] Hp (.tup [B1 (Bd a dd m row).1,A2 (Bd a dd m row).2]):=by
 have hdl:=hd.len
 refine ACall.body [.tmp 8,.tmp 9] [0,1,2,3] Tryz.func42 Tryz.ntmps42 (fun d=>?_)
 refine Z13 ?_;refine R.fin [0,1,3,6] ?_;refine Z19 ?_;refine R.call Tryz.call59 (c59 dd hd row hf (by omega) m.back h.back _) ?_;refine Z65 ?_;refine R.fin [0,1,3,6,10,11] ?_;refine Z31 ?_;refine R.fin [0,1,3,6,10,11,25] ?_
 refine W.cond (fun ht25=>?_) (fun ht25=>?_)
 ·have hm:Bd a dd m row=([],(Ag dd row m.back).2):=if_pos ht25
  refine Z1 ?_;refine R.nilTmp 8 3 false ?_;refine R.go ?_;refine R.fin [8,9] ?_;refine AW.ret ?_;exact Z45
 have hm:Bd a dd m row=((a.map (M1 m.take (Ag dd row m.back).1 row dd)),0):=if_neg (by rw [ht25];simp)
 have hwl:=Jh (c:=dd) (row:=row) (l:=m.back) (by simpa using ht25)
 refine Z99 ?_;refine R.fin [0,1,3,6,10,12] ?_;refine Z66 ?_;refine R.nilSl 12 3 ?_;refine Z29 ?_;refine mp ?_
 refine AW.loopC (α:=Nat) (fun x=>⟨59,A3 1 (Ac dd) (A3 3 (B1 row) (A3 6 (.ro (Ny m)) (A3 10 (B1 (Ag dd row m.back).1) (A3 12 (.slice true 3 (((a.map (M1 m.take (Ag dd row m.back).1 row dd)).take x).map Am)) (A3 27 (Ac a) (A3 28 (A2 (a.length:Nat)) (A3 29 (A2 (x:Nat)) (fun _=>.any)))))))),Hp,[],[],none⟩) (fun x=>x≤a.length) (fun x=>a.length-x) (0) (Nat.zero_le _) (StLe.of_eq (by simp)) rfl (fun x hx=>?_)
 refine Z2 ?_;refine R.fin [1,3,6,10,12,27,28,29,30] ?_
 refine W.condX (fun ht30=>?_) (fun ht30=>?_)
 ·have hlt:x<a.length:=by simpa using ht30
  have hol:((a.map (M1 m.take (Ag dd row m.back).1 row dd)).take x).length≤x:=List.length_take_le _ _
  have hon:(a.map (M1 m.take (Ag dd row m.back).1 row dd)).take (x+1)=(a.map (M1 m.take (Ag dd row m.back).1 row dd)).take x++[M1 m.take (Ag dd row m.back).1 row dd a[x]]:=by
   rw [List.take_succ_eq_append_getElem (by rw [List.length_map];exact hlt),List.getElem_map]
  refine Z87 ?_
  refine R.go (h:=Q.indexAddr (x) (B0 a[x]) (fun _=>An hlt)) (hr:=?_)
  refine Q8 ?_;refine R.fin [1,3,6,10,12,14,27,28,29] ?_;refine Z48 ?_;refine R.call Tryz.call62 (c62 m.take a[x].name h.takes _) ?_;refine R.go ?_;refine R.fin [1,3,6,10,12,14,15,27,28,29] ?_;refine Z1 ?_;refine R.fin [1,3,6,10,12,14,15,27,28,29,39] ?_
  refine W.cond (fun ht39=>?_) (fun ht39=>?_)
  ·have hj0:0≤I7 a[x].name m.take:=by simpa using ht39
   obtain ⟨j,hj,hjl⟩:=en hj0
   have hw:M1 m.take (Ag dd row m.back).1 row dd a[x]=(Ag dd row m.back).1.getD j noV:=by unfold M1;rw [if_pos hj0,hj];rfl
   refine Cz ?_;refine R.moveT ?_;refine Z0 ?_
   refine R.go (h:=Q.indexAddr (j) (Am ((Ag dd row m.back).1.getD j noV)) (fun _=>vp (by omega))) (hr:=?_)
   refine Z71 ?_
   refine R.append jU Tryz.type63 ?_ ?_ ?_
   ·simp only [List.length_map,List.length_take,List.length_append,List.length_cons,List.length_nil,Tryz.t63];omega
   ·simp only [List.length_map,List.length_take,List.length_append,List.length_cons,List.length_nil,Tryz.t63];omega
   refine R.assignT ?_;refine mp ?_;refine Z59 ?_;refine K.blE ?_;refine K.thN ?_;refine Z20 ?_;refine mp ?_;refine mi ?_
   rw [hon,hw,List.map_append,List.map_cons,List.map_nil]
   exact StCut.take (own:=[]) (fun _=>.refl _) (by repeat (first|exact Aq|refine Ap (by first|exact Fz|exact Cw|exact Hc|exact Eo|exact Ct|exact Eb|exact Iy|(simp [or_imp,forall_and];done)) ?_)) (by simp) (by simp)
  have hjn:¬0≤I7 a[x].name m.take:=by simpa using ht39
  obtain ⟨j,hj,hjl⟩:=hs a[x] (List.getElem_mem hlt) hjn
  have hw:M1 m.take (Ag dd row m.back).1 row dd a[x]=row.getD j noV:=by unfold M1;rw [if_neg hjn,hj];rfl
  refine Z6 ?_;refine Za ?_;refine Z73 ?_;refine R.call Tryz.call58 (c58 dd hd a[x].name _) ?_
  refine R.go (h:=Q.indexAddr (j) (Am (row.getD j noV)) (fun _=>vp (by omega))) (hr:=?_)
  refine Z71 ?_
  refine R.append jU Tryz.type63 ?_ ?_ ?_
  ·simp only [List.length_map,List.length_take,List.length_append,List.length_cons,List.length_nil,Tryz.t63];omega
  ·simp only [List.length_map,List.length_take,List.length_append,List.length_cons,List.length_nil,Tryz.t63];omega
  refine R.assignT ?_;refine mp ?_;refine Uz ?_;refine mp ?_;refine mi ?_
  rw [hon,hw,List.map_append,List.map_cons,List.map_nil]
  exact StCut.take (own:=[]) (fun _=>.refl _) (by repeat (first|exact Aq|refine Ap (by first|exact Fz|exact Cw|exact Hc|exact Eo|exact Ct|exact Eb|exact Iy|(simp [or_imp,forall_and];done)) ?_)) (by simp) (by simp)
 have hxe:a.length≤x:=by simpa using ht30
 rw [List.take_of_length_le (by rw [List.length_map];exact hxe)]
 refine Z35 ?_;refine Z13 ?_;refine R.fin [8,9] ?_;refine AW.ret ?_;exact K.fin (V.two V.tmp V.tmp) ⟨by rw [hm],rfl⟩ (hlow:=by simpa using (Cw (n:=Hp.length) (k:=3) (o:=false) (l:=(a.map (M1 m.take (Ag dd row m.back).1 row dd)))))

theorem c14 (c:List Col) (hc:OkCols c) (hc2:c.length≤1000000) (l:List Mov) (h:OkMovs l) (row:List Val) (hrr:∀v∈row, -9223372036854775808≤v.n∧v.n≤9223372036854775807) (hrl:row.length≤1048576) (Hp:List AObj):AFun Tryz.prog 14 [Ac c,D8 l,B1 row] Hp (.tup [B1 (B7 c l row).1,A2 (B7 c l row).2]):=by
 refine ACall.body [.tmp 6,.tmp 7] [0,1,2] Tryz.func14 Tryz.ntmps14 (fun d=>?_)
 refine Z1 ?_;refine Qa ?_;refine wm ?_;refine Z65 ?_;refine R.fin [0,1,2,8,9] ?_;refine Z30 ?_;refine Z9 ?_;refine G.call Tryz.call13 (fun hB=>c13 c hc row hrl _) ?_;refine Z93 ?_;refine R.fin [1,2,8,26] ?_
 refine W.cond (fun ht26=>?_) (fun ht26=>?_)
 ·have hm:B7 c l row=([],1):=if_pos ht26
  refine Z2 ?_;refine Z8 ?_;exact Z45
 have hm0:B7 c l row=fwM c l row l.length:=if_neg (by rw [ht26];simp)
 have h26:((Bo c l).2 != 0)=false∧E2 c row=true:=by simpa using ht26
 obtain ⟨hmay,hst,hss⟩:=E3 h26.1
 have hR0:=Kj h26.2 hrr
 have hmvo:=Ix hmay
 have hlen:=h.len
 rw [hss]
 refine Z99 ?_;refine R.call Tryz.call39 (c39 row hrl _) ?_;refine R.go ?_;refine R.fin [1,8,10] ?_;refine Z30 ?_;refine R.fin [8,10,29,30,31] ?_
 refine AW.loopC (α:=Nat) (fun x=>⟨51,A3 8 (Ib (C0 c l l.length)) (A3 10 (B1 (fwM c l row x).1) (A3 29 (D8 l) (A3 30 (A2 (l.length:Nat)) (A3 31 (A2 (x:Nat)) (fun _=>.any))))),Hp,[],[],none⟩) (fun x=>x≤l.length∧(fwM c l row x).2=0∧RowI (colsAt c l x) (fwM c l row x).1) (fun x=>l.length-x) (0) ⟨Nat.zero_le _,rfl,hR0⟩ (StLe.of_eq (by simp [fwM])) rfl (fun x hx=>?_)
 refine Z2 ?_;refine R.fin [8,10,29,30,31,32] ?_
 refine W.condX (fun ht32=>?_) (fun ht32=>?_)
 ·have hlt:x<l.length:=by simpa using ht32
  obtain ⟨hxl,hfx,hR⟩:=hx
  obtain ⟨m,hm⟩:∃m,m=l[x]:=⟨_,rfl⟩
  have hml:l[x]? = some m:=by rw [hm];exact List.getElem?_eq_getElem hlt
  have hmx:(l.map E6)[x]? = some (E6 m):=by rw [hm];exact An hlt
  have hmo:=h.each m (List.mem_of_getElem? hml)
  have hmv:=hmvo m (List.mem_of_getElem? hml)
  have hCx:=Cu hc (fun m hm=>h.each m hm) x
  have htn:=I2 hst hml
  refine Ma ?_
  refine R.go (h:=Q.indexAddr (x) (E6 m) (fun _=>hmx)) (hr:=?_)
  refine Zf ?_;refine R.fin [8,10,11,12,29,30,31] ?_;refine W.draw [0,0,3,7,0,0,63,127,255,255,511,2047] 11 Aa (by kernel_rfl) ?_;refine Z10 ?_
  refine D.go (h:=Q.indexAddr (x) (Ac (colsAt c l x)) (fun _=>jh (Hs (by omega)))) (hr:=?_)
  refine Z37 ?_;refine D.call Tryz.call40 (c40 (colsAt c l x) hCx m hmo (fwM c l row x).1 hR.fine hR.len _) ?_;refine Z10 ?_;refine Z72 ?_;refine R.go ?_;refine R.fin [8,9,10,29,30,31] ?_;refine Z1 ?_;refine R.fin [8,9,10,29,30,31,47] ?_
  refine W.cond (fun ht47=>?_) (fun ht47=>?_)
  ·have hm2:B7 c l row=([],(Cv (colsAt c l x) m (fwM c l row x).1).2):=by rw [hm0];exact uq hml hfx (by simpa using ht47)
   refine Z1 ?_;refine Z8 ?_;refine Z54 ?_;exact K.fin (V.two V.tmp V.tmp) ⟨by rw [hm2]<;>rfl,rfl⟩
  have hnx:=Pr hml hfx
  have hok:(Cv (colsAt c l x) m (fwM c l row x).1).2=0:=by simpa using ht47
  have hRn:=O8 htn hmv (fun e he=>hmo.ahead.rng e he) hR hok
  refine Z57 ?_;refine R.fin [8,10,29,30,31] ?_
  refine K.lpN (x+1) ⟨hlt,by rw [hnx];exact hok,by rw [hnx,Ea hml];exact hRn⟩ (by omega) ?_
  rw [hnx]
  exact StCut.take (own:=[]) (fun _=>.refl _) (by repeat (first|exact Aq|refine Ap (by first|exact Fz|exact Cw|exact Hc|exact Eo|exact Ct|exact Eb|exact Iy|(simp [or_imp,forall_and];done)) ?_)) (by simp) (by simp)
 have hxe:x=l.length:=by simp at ht32;have:=hx.1;omega
 subst hxe
 have hm1:B7 c l row=((fwM c l row l.length).1,0):=by rw [hm0];exact Prod.ext rfl hx.2.1
 refine Z35 ?_;refine Z13 ?_;refine Z33 ?_;exact K.fin (V.two V.tmp V.tmp) ⟨by rw [hm1],rfl⟩ (hlow:=by simpa using (Cw (n:=Hp.length) (k:=3) (o:=false) (l:=(fwM c l row l.length).1)))

/-! slices.Backward of moves. -/
theorem c89 (l0:Nat) (ms:List Mov) (hml:ms.length≤1048576) (U:Nat→List AObj) (N:Nat→Prop) (Z:List AObj→Prop) (hlen:∀k,(U k).length=(U 0).length) (hll:l0<(U 0).length)
  (hlw:∀k,∀x∈U k,ObjLow (U 0).length x) (h0:N 0)
  (hy:∀k m X,k<ms.length→ms[ms.length-1-k]? = some m→N k→AYield Tryz.prog l0 [A2 ((ms.length-1-k:Nat):Int),E6 m] (U k++X) (fun b H'=>(b=true∧N (k+1)∧H'=U (k+1)++X)∨(b=false∧∃V,H'=V++X∧V.length=(U 0).length∧(∀x∈V,ObjLow (U 0).length x)∧Z V)))
  (hR:N ms.length→Z (U ms.length)):ACall Tryz.prog 89 [.yield l0,.ro [D8 ms]] (U 0) (fun _ H'=>Z H'):=by
 refine ACall.body [] [0,1] Tryz.func89 Tryz.ntmps89 (fun d=>?_)
 refine Z1 ?_
 refine R.go (h:=Q.sub64 (h2:=fun _=>by simp only [List.length_map];omega)) (hr:=?_)
 refine R.go ?_;refine R.fin [0,1,3] ?_
 refine AW.loopC (α:=Nat×Int) (fun s=>⟨19,A3 0 (.yield l0) (A3 1 (.ro [D8 ms]) (A3 3 (A2 s.2) (fun _=>.any))),U s.1,[],[],none⟩) (fun s=>s.1≤ms.length∧N s.1∧s.2=(ms.length:Int)-1-(s.1:Int)) (fun s=>ms.length-s.1) ((0,(ms.length:Int)-1)) ⟨Nat.zero_le _,h0,by simp⟩ (StLe.of_eq (by simp)) rfl (fun s hs=>?_)
 obtain ⟨x,i⟩:=s
 obtain ⟨hx,hN,hi⟩:=hs
 dsimp only at hx hN hi ⊢
 refine Z31 ?_;refine R.fin [0,1,3,8] ?_
 refine W.cond (fun ht8=>?_) (fun ht8=>?_)
 ·have hlt:x<ms.length:=by simp at ht8;omega
  have hlt2:ms.length-1-x<ms.length:=by omega
  have hi2:i=((ms.length-1-x:Nat):Int):=by omega
  subst hi2
  refine Z86 ?_;refine Z19 ?_
  refine R.go (h:=Q.indexAddr (ms.length-1-x) (E6 ms[ms.length-1-x]) (fun _=>An hlt2)) (hr:=?_)
  refine R.go ?_
  refine R.yield (l:=l0) (args:=[A2 ((ms.length-1-x:Nat):Int),E6 ms[ms.length-1-x]]) (hy x ms[ms.length-1-x] _ hlt (List.getElem?_eq_getElem hlt2) hN) ?_
  intro b V O hV hb
  have hVO:O=[]∧((b=true∧N (x+1)∧V=U (x+1))∨(b=false∧V.length=(U 0).length∧(∀y∈V,ObjLow (U 0).length y)∧Z V)):=by
   rcases hb with ⟨h1,h2,h3⟩|⟨h1,V',h2,h3,h4,h5⟩
   ·have h6:=List.append_inj h3 (by rw [hV,hlen x,hlen (x+1)])
    exact ⟨h6.2,.inl ⟨h1,h2,h6.1⟩⟩
   obtain ⟨rfl,rfl⟩:=List.append_inj h2 (by rw [hV,hlen x,h3])
   exact ⟨rfl,.inr ⟨h1,h3,h4,h5⟩⟩
  obtain ⟨rfl,hVO⟩:=hVO
  have hVl:V.length=(U 0).length:=by rw [hV,hlen x]
  have hVw:∀y∈V,ObjLow (U 0).length y:=by
   rcases hVO with ⟨_,_,rfl⟩|⟨_,_,h,_⟩
   ·exact hlw _
   exact h
  refine ⟨fun _=>by rw [hVl];exact hVw,fun o ho=>(by cases ho),?_⟩
  refine R.go ?_;refine R.fin [0,1,3,18] ?_
  refine W.cond (fun ht18=>?_) (fun ht18=>?_)
  ·have hZ:Z V:=by
    rcases hVO with ⟨h1,_,_⟩|⟨_,_,_,h⟩
    ·rw [h1] at ht18;cases ht18
    exact h
   refine AW.ret ?_;refine Z34 ?_;exact K.fin .nores (hp:=hZ)
  have hVn:N (x+1)∧V=U (x+1):=by
   rcases hVO with ⟨_,h2,h3⟩|⟨h1,_,_,_⟩
   ·exact ⟨h2,h3⟩
   rw [h1] at ht18;cases ht18
  obtain ⟨hN1,rfl⟩:=hVn
  refine Z57 ?_;refine R.go ?_;refine R.fin [0,1,3] ?_
  refine K.lpN (x+1,((ms.length-1-x:Nat):Int)-1) ⟨hlt,hN1,by dsimp only;omega⟩ (by dsimp only;omega) ?_
  exact StCut.of_eq rfl
 have hxe:x=ms.length:=by simp at ht8;omega
 refine Z59 ?_;refine K.lpE ?_;exact K.finN .nores (hp:=by rw [hxe];exact hR (hxe ▸ hN))

theorem c61 (l:List Mov) (Hp:List AObj):AFun Tryz.prog 61 [D8 l] Hp (.fn (.func 89) [] [.ro [D8 l]]):=by
 refine ACall.body [.tmp 2] [0] Tryz.func61 Tryz.ntmps61 (fun d=>?_)
 refine Z96 ?_;refine Cz ?_;refine ma ?_;exact za

theorem S4 {n k:Nat} {o:Bool} {l:List Val}:∀z∈[AV.slice o k (l.map Am)],Low n z:=fun z hz=>by rw [List.mem_singleton.1 hz];exact Cw
/-- Where the way back stands behind k moves. -/
structure BkAt (c:List Col) (l:List Mov) (row:List Val) (k:Nat):Prop where
 ok:(bkM c l row k).2=0
 row:RowI (colsAt c l (l.length-k)) (bkM c l row k).1
theorem BkAt.zero {c:List Col} {l:List Mov} {row:List Val} (h:RowI (colsAt c l l.length) row):BkAt c l row 0:=⟨rfl,h⟩
theorem BkAt.fin {c:List Col} {l:List Mov} {row:List Val} (h:BkAt c l row l.length):bkM c l row l.length=((bkM c l row l.length).1,0):=Prod.ext rfl h.ok
theorem BkAt.next {c:List Col} {l:List Mov} {row:List Val} {k:Nat} {m:Mov} (h:BkAt c l row k) (hk:k<l.length) (hm:l[l.length-1-k]? = some m) (hg:∀e∈m.back,Bn Do e=true) (he:(Bd (colsAt c l (l.length-1-k)) (colsAt c l (l.length-1-k+1)) m (bkM c l row k).1).2=0):BkAt c l row (k+1):=by
 have e:=Mw hm h.ok
 have hr:=h.row
 rw [show l.length-k=l.length-1-k+1 by omega] at hr
 refine ⟨by rw [e];exact he,?_⟩
 rw [e,show l.length-(k+1)=l.length-1-k by omega]
 exact Y4 hg hr he
theorem Oc {c:List Col} {l:List Mov} {row:List Val} (h:(((Bo c l).2 != 0) || !E2 (colsAt c l l.length) row)=false):Cd c l row=bkM c l row l.length:=if_neg (by rw [h];simp)
theorem ABp {U:List AObj} {l a b c e:Nat} {x y X Y Z T:AObj} (h:U[l]? = some x) (ha:a≠l) (hb:b≠l) (hc:c≠l) (he:e≠l):(((((U.set l y).set a X).set b Y).set c Z).set e T)[l]? = some y:=by rw [List.getElem?_set_ne he];exact z8 h ha hb hc
theorem kx (c:List Col) (l:List Mov):(Bo c l).1.length≤l.length+1:=by
 unfold Bo Lw
 repeat' split
 all_goals first|exact Nat.zero_le _|exact Rk c l
theorem Uc {c:List Col} {l:List Mov} (h:((Bo c l).2 != 0)=false):((Bo c l).1.map Ac)[l.length]? = some (Ac (colsAt c l l.length))∧((((Bo c l).1.map Ac).length:Nat):Int)-1=((l.length:Nat):Int):=by
 obtain ⟨_,_,hss⟩:=E3 h
 rw [hss]
 refine ⟨jh (Hs (Nat.le_refl _)),?_⟩
 rw [List.length_map,Iq]
 omega
theorem c41 (l:List Mov) (Hp:List AObj):AFun Tryz.prog 41 [D8 l] Hp (.fn (.func 89) [] [.ro [D8 l]]):=by
 refine ACall.body [.tmp 2] [0] Tryz.func41 Tryz.ntmps41 (fun d=>?_)
 refine Z47 ?_;refine Z2 ?_;refine R.call Tryz.call61 (c61 l _) ?_;refine R.go ?_;exact za

theorem c16 (c:List Col) (hc:OkCols c) (hc2:c.length≤1000000) (l:List Mov) (h:OkMovs l) (row:List Val) (hrr:∀v∈row, -9223372036854775808≤v.n∧v.n≤9223372036854775807) (hrl:row.length≤1048576) (Hp:List AObj):AFun Tryz.prog 16 [Ac c,D8 l,B1 row] Hp (.tup [B1 (Cd c l row).1,A2 (Cd c l row).2]):=by
 refine ACall.body [.cell 6 36,.cell 7 26] [0,1,2] Tryz.func16 Tryz.ntmps16 (fun d=>?_)
 refine Z27 ?_;refine L3 ?_;refine R.fin [0,1,2,6,7] ?_;refine wm ?_;refine zd ?_;refine Z21 ?_;refine Fu ?_;refine R.fin [1,2,6,7,8,9] ?_;refine Z66 ?_
 have hlen:=h.len
 have hsl:((Bo c l).1.map Ac).length≤2000000:=by rw [List.length_map];have:=kx c l;omega
 have hcn:=Cu hc (fun m hm=>h.each m hm) l.length
 refine Z29 ?_;refine Z95 ?_
 refine G.go (h:=Q.indexAddr (l.length) (Ac (colsAt c l l.length)) (fun hB=>(Uc (by simpa using hB)).1) (hn:=fun hB=>(Uc (by simpa using hB)).2)) (hr:=?_)
 refine Z9 ?_;refine G.call Tryz.call13 (fun hB=>c13 (colsAt c l l.length) hcn row hrl _) ?_;refine Z93 ?_;refine R.fin [1,2,6,7,8,9,31] ?_
 refine W.cond (fun ht31=>?_) (fun ht31=>?_)
 ·have hm:Cd c l row=([],1):=if_pos ht31
  refine Cz ?_;refine Fu ?_;refine R.nilOwn 0 3 ?_;refine Fu ?_;refine Z33 ?_;refine K.thR ?_;exact K.fin (V.two (V.cell jA) (V.cell jA)) ⟨by rw [hm]<;>rfl,rfl⟩
 have hm:=Oc ht31
 have h31:((Bo c l).2 != 0)=false∧E2 (colsAt c l l.length) row=true:=by simpa using ht31
 obtain ⟨hmay,hst,hss⟩:=E3 h31.1
 have hmvo:=Ix hmay
 have hlen:=h.len
 have hR0:=Kj h31.2 hrr
 have hol:((C0 c l l.length).map Ac).length=l.length+1:=by rw [List.length_map,Iq]
 rw [hss]
 refine Z99 ?_;refine R.call Tryz.call39 (c39 row hrl _) ?_;refine Z21 ?_;refine R.fin [1,6,7,8,9,10] ?_;refine Z66 ?_
 refine R.assumeLow (fun hlow=>?_)
 refine R.go ?_;refine R.call Tryz.call41 (c41 l _) ?_;refine R.fin [6,7,8,9,10,35] ?_;refine Gx ?_
 refine W.rangeV (m:=5) Tryz.call89 (fun FR as' bd' hFR has hbd=>?_)
 have hFRl:∀s,Low (Hp.length+7) (FR s):=by
  intro s
  rw [hFR]
  refine Low.strip ?_
  revert s
  repeat (first|exact Aq|refine Ap (by first|(simp [oid,or_imp,forall_and];done)|exact Eo|exact Ct|exact Cw|(simp [oid,or_imp,forall_and];exact ⟨fun m _ a _=>Ad _ a,fun m _ a _=>Ad _ a⟩)|(simp [oid,or_imp,forall_and]<;>omega)) ?_)
 have hOl:∀{e e2:Int} {t:List Val} {lp:AObj},ObjLow (Hp.length+7) lp→∀x∈Hp++[AObj.cells 36 [AV.nil],AObj.cells 26 [A2 e],AObj.cells 39 [Ib (C0 c l l.length)],AObj.cells 26 [A2 e2],AObj.cells 36 [B1 (t)],AObj.defs,lp],ObjLow (Hp.length+7) x:=by
  intro e e2 t lp hlp x hx
  refine J9 (fun x hx=>ObjLow.le (by omega) (hlow x hx)) (fun x hx=>?_) x hx
  simp only [List.mem_cons,List.mem_nil_iff,or_false] at hx
  rcases hx with rfl|rfl|rfl|rfl|rfl|rfl|rfl
  ·intro y hy;rw [List.mem_singleton.1 hy];simp
  ·intro y hy;rw [List.mem_singleton.1 hy];simp
  ·intro y hy;rw [List.mem_singleton.1 hy];exact Eb
  ·intro y hy;rw [List.mem_singleton.1 hy];simp
  ·exact S4
  ·trivial
  exact hlp
 refine ⟨_,c89 (oid Hp.length 6) l h.len (fun k=>Hp++[AObj.cells 36 [AV.nil],AObj.cells 26 [A2 0],AObj.cells 39 [Ib (C0 c l l.length)],AObj.cells 26 [A2 0],AObj.cells 36 [B1 ((bkM c l row k).1)],AObj.defs,AObj.loop LoopState.ready none FR 57 #[36,37] as' bd' (oid Hp.length 5)]) (BkAt c l row) (fun V=>(∃t,V=Hp++[AObj.cells 36 [AV.nil],AObj.cells 26 [A2 0],AObj.cells 39 [Ib (C0 c l l.length)],AObj.cells 26 [A2 0],AObj.cells 36 [B1 (t)],AObj.defs,AObj.loop LoopState.ready none FR 57 #[36,37] as' bd' (oid Hp.length 5)]∧Cd c l row=(t,0)∧RowI c t)∨(∃(e:Int) (t:List Val),V=Hp++[AObj.cells 36 [AV.nil],AObj.cells 26 [A2 e],AObj.cells 39 [Ib (C0 c l l.length)],AObj.cells 26 [A2 e],AObj.cells 36 [B1 (t)],AObj.defs,AObj.loop LoopState.done (some Code.ret) FR 57 #[36,37] as' bd' (oid Hp.length 5)]∧Cd c l row=([],e))) (fun k=>by simp) (by simp [oid]) (fun k=>(fun x hx=>by rw [List.length_append];exact hOl (lp:=AObj.loop LoopState.ready none FR 57 #[36,37] as' bd' (oid Hp.length 5)) (by exact ⟨hFRl,by simp [oid]⟩) x hx)) (.zero hR0) (fun k m X hk hm hN=>?_) (fun hN=>.inl ⟨_,rfl,by rw [Oc ht31];exact hN.fin,by have:=hN.row;rw [Nat.sub_self] at this;exact this⟩),?_⟩
 ·generalize hV:Hp++[AObj.cells 36 [AV.nil],AObj.cells 26 [A2 0],AObj.cells 39 [Ib (C0 c l l.length)],AObj.cells 26 [A2 0],AObj.cells 36 [B1 ((bkM c l row k).1)],AObj.defs,AObj.loop LoopState.ready none FR 57 #[36,37] as' bd' (oid Hp.length 5)]++X=V
  have hL:V[oid Hp.length 6]? = some (AObj.loop LoopState.ready none FR 57 #[36,37] as' bd' (oid Hp.length 5)):=by rw [←hV,List.append_assoc,Ar];rfl
  have hA0:V[oid Hp.length 0]? = some (AObj.cells 36 [AV.nil]):=by rw [←hV,List.append_assoc,Ar];rfl
  have hB0:V[oid Hp.length 1]? = some (AObj.cells 26 [A2 0]):=by rw [←hV,List.append_assoc,Ar];rfl
  have hS0:V[oid Hp.length 2]? = some (AObj.cells 39 [Ib (C0 c l l.length)]):=by rw [←hV,List.append_assoc,Ar];rfl
  have hE0:V[oid Hp.length 3]? = some (AObj.cells 26 [A2 0]):=by rw [←hV,List.append_assoc,Ar];rfl
  have hZ0:V[oid Hp.length 4]? = some (AObj.cells 36 [B1 (bkM c l row k).1]):=by rw [←hV,List.append_assoc,Ar];rfl
  refine AYield.ofRound (pd:=none) (fr:=FR) (sz:=57) (ps:=#[36,37]) (df:=oid Hp.length 5) (asg:=as') (bd:=bd') hL rfl (by decide) (fun d=>?_)
  subst hFR has hbd
  refine W.keep [6,7,8,9,10,36,37] ?_
  have hmo:=h.each m (List.mem_of_getElem? hm)
  have hmv:=hmvo m (List.mem_of_getElem? hm)
  have htn:=I2 hst hm
  have hcn:=Ea (c:=c) hm
  have hCo:=Cu hc (fun m hm=>h.each m hm) (l.length-1-k+1)
  have hCi:=Cu hc (fun m hm=>h.each m hm) (l.length-1-k)
  have herr:=fun hb=>ur (row:=row) hk hm hN.ok hb
  have hnxt:=hN.next hk hm (fun e he=>hmo.back.rng e he)
  have htb:=Mw hm hN.ok
  have htl:=hN.row
  rw [show l.length-k=l.length-1-k+1 by omega] at htl
  have hik:l.length-1-k<l.length:=by omega
  have hsy:∀y∈colsAt c l (l.length-1-k),¬0≤I7 y.name m.take→∃j:Nat,B3 y.name (colsAt c l (l.length-1-k+1))=j∧j<(colsAt c l (l.length-1-k+1)).length:=fun y hy hn=>by
   rw [hcn]
   exact yt htn hy hn
  generalize l.length-1-k=i at *
  refine Z2 ?_;refine R.fin [6,7,8,9,10,11,37] ?_;refine AW.region ?_;refine Z21 ?_;refine R.fin [6,7,8,9,10,11,12] ?_
  refine ⟨rfl,none,hL,?_⟩
  generalize hbz:(AObj.loop LoopState.busy _ _ _ _ _ _ _)=bz
  have hA:(V.set (oid Hp.length 6) bz)[oid Hp.length 0]? = some (AObj.cells 36 [AV.nil]):=by rw [List.getElem?_set_ne (Be (by decide))];exact hA0
  have hB:(V.set (oid Hp.length 6) bz)[oid Hp.length 1]? = some (AObj.cells 26 [A2 0]):=by rw [List.getElem?_set_ne (Be (by decide))];exact hB0
  have hS:(V.set (oid Hp.length 6) bz)[oid Hp.length 2]? = some (AObj.cells 39 [Ib (C0 c l l.length)]):=by rw [List.getElem?_set_ne (Be (by decide))];exact hS0
  have hE:(V.set (oid Hp.length 6) bz)[oid Hp.length 3]? = some (AObj.cells 26 [A2 0]):=by rw [List.getElem?_set_ne (Be (by decide))];exact hE0
  have hZ:(V.set (oid Hp.length 6) bz)[oid Hp.length 4]? = some (AObj.cells 36 [B1 (bkM c l row k).1]):=by rw [List.getElem?_set_ne (Be (by decide))];exact hZ0
  refine Gx ?_
  refine W.drawY [0,0,3,7,0,0,32,112,240,0,0,2047,4095,8191,8191,16383,65535] [15] [.q 14 [] [0],.q 1 [] [],.s [] (some 0) [] []] (fun B=>if B 0=true then ((V.set (oid Hp.length 6) bz).set (oid Hp.length 4) (AObj.cells 36 [B1 (Bd (colsAt c l i) (colsAt c l (i+1)) m (bkM c l row k).1).1])) else (V.set (oid Hp.length 6) bz)) (fun _=>[AObj.cells 77 (Ny m)]) Aa (by kernel_rfl) rfl rfl (fun B=>by split<;>simp) ?_
  apply Y.q
  case h1 =>
   intro B hT hF
   first|simp only [hF 0 (List.mem_singleton_self 0),Bool.false_eq_true,if_false]|skip
   refine D.go (h:=Q.loadUp hS) (hr:=?_)
   refine D.go ?_
   refine D.go (h:=Q.indexAddr (i) (Ac (colsAt c l i)) (fun _=>jh (Hs (by omega)))) (hr:=?_)
   refine D.go ?_
   refine D.go (h:=Q.loadUp hS) (hr:=?_)
   refine Z10 ?_
   refine D.go (h:=Q.indexAddr ((i+1)) (Ac (colsAt c l (i+1))) (fun _=>jh (Hs (by omega)))) (hr:=?_)
   refine Z10 ?_
   refine D.go (h:=Q.loadUp hZ) (hr:=?_)
   refine D.call Tryz.call42 (c42 (colsAt c l i) (colsAt c l (i+1)) hCi.len hCo m hmo (F5 (Kx hmv)).2 hsy (bkM c l row k).1 htl.fine htl.len _) ?_;exact Z61
  case hTF=>decide
  apply Y.q
  case h1 =>
   intro B hT hF
   first|simp only [hF 0 (List.mem_singleton_self 0),Bool.false_eq_true,if_false]|skip
   exact Z68
  case hTF=>decide
  refine Y.storeUp (o:=oid Hp.length 4) (t':=36) (ys:=[B1 (Bd (colsAt c l i) (colsAt c l (i+1)) m (bkM c l row k).1).1]) (cs:=[B1 (bkM c l row k).1]) (cs':=[B1 (Bd (colsAt c l i) (colsAt c l (i+1)) m (bkM c l row k).1).1]) Tryz.sizeOf36 (fun B hB=>⟨by simp only [hB];exact hZ,by simp [upd,hB],rfl,S4⟩) ?_
  refine Y.tail (tn:=[15]) (U:=((V.set (oid Hp.length 6) bz).set (oid Hp.length 4) (AObj.cells 36 [B1 (Bd (colsAt c l i) (colsAt c l (i+1)) m (bkM c l row k).1).1]))) ?_
  refine R.storeUp jS (Vh hE (Be (by decide))) ?_ ?_
  ·simp
  refine R.fin [6,7,9] ?_;refine Cz ?_
  have hE2:(((V.set (oid Hp.length 6) bz).set (oid Hp.length 4) (AObj.cells 36 [B1 (Bd (colsAt c l i) (colsAt c l (i+1)) m (bkM c l row k).1).1])).set (oid Hp.length 3) (AObj.cells 26 [A2 (Bd (colsAt c l i) (colsAt c l (i+1)) m (bkM c l row k).1).2]))[oid Hp.length 3]? = some (AObj.cells 26 [A2 (Bd (colsAt c l i) (colsAt c l (i+1)) m (bkM c l row k).1).2]):=getset (Vh hE (Be (by decide)))
  refine R.go (h:=Q.loadUp hE2) (hr:=?_)
  refine R.go ?_;refine R.fin [6,7,9,54] ?_
  refine W.cond (fun ht54=>?_) (fun ht54=>?_)
  ·have herr:=herr (by simpa using ht54)
   refine W.drawY [0,0,3] [1] [.q 1 [] [],.s [] (some 0) [] []] (fun B=>if B 0=true then ((((V.set (oid Hp.length 6) bz).set (oid Hp.length 4) (AObj.cells 36 [B1 (Bd (colsAt c l i) (colsAt c l (i+1)) m (bkM c l row k).1).1])).set (oid Hp.length 3) (AObj.cells 26 [A2 (Bd (colsAt c l i) (colsAt c l (i+1)) m (bkM c l row k).1).2])).set (oid Hp.length 0) (AObj.cells 36 [AV.nil])) else (((V.set (oid Hp.length 6) bz).set (oid Hp.length 4) (AObj.cells 36 [B1 (Bd (colsAt c l i) (colsAt c l (i+1)) m (bkM c l row k).1).1])).set (oid Hp.length 3) (AObj.cells 26 [A2 (Bd (colsAt c l i) (colsAt c l (i+1)) m (bkM c l row k).1).2]))) (fun _=>[AObj.cells 77 (Ny m)]) Aa (by kernel_rfl) rfl rfl (fun B=>by split<;>simp) ?_
   apply Y.q
   case h1 =>
    intro B hT hF
    refine D.go (h:=Q.loadUp (show (if B 0=true then ((((V.set (oid Hp.length 6) bz).set (oid Hp.length 4) (AObj.cells 36 [B1 (Bd (colsAt c l i) (colsAt c l (i+1)) m (bkM c l row k).1).1])).set (oid Hp.length 3) (AObj.cells 26 [A2 (Bd (colsAt c l i) (colsAt c l (i+1)) m (bkM c l row k).1).2])).set (oid Hp.length 0) (AObj.cells 36 [AV.nil])) else (((V.set (oid Hp.length 6) bz).set (oid Hp.length 4) (AObj.cells 36 [B1 (Bd (colsAt c l i) (colsAt c l (i+1)) m (bkM c l row k).1).1])).set (oid Hp.length 3) (AObj.cells 26 [A2 (Bd (colsAt c l i) (colsAt c l (i+1)) m (bkM c l row k).1).2])))[oid Hp.length 3]? = some (AObj.cells 26 [A2 (Bd (colsAt c l i) (colsAt c l (i+1)) m (bkM c l row k).1).2]) by split;exact Vh hE2 (Be (by decide));exact hE2)) (hr:=?_)
    exact Lp
   case hTF=>decide
   refine Y.storeUp (o:=oid Hp.length 0) (t':=36) (ys:=[.nil]) (cs:=[.nil]) (cs':=[.nil]) Tryz.sizeOf36 (fun B hB=>⟨by simp only [hB];exact Vh (Vh hA (Be (by decide))) (Be (by decide)),by simp [upd,hB],rfl,by simp⟩) ?_
   refine Y.tail (tn:=[1]) (U:=((((V.set (oid Hp.length 6) bz).set (oid Hp.length 4) (AObj.cells 36 [B1 (Bd (colsAt c l i) (colsAt c l (i+1)) m (bkM c l row k).1).1])).set (oid Hp.length 3) (AObj.cells 26 [A2 (Bd (colsAt c l i) (colsAt c l (i+1)) m (bkM c l row k).1).2])).set (oid Hp.length 0) (AObj.cells 36 [AV.nil]))) ?_
   refine R.storeUp jS (Vh (Vh (Vh hB (Be (by decide))) (Be (by decide))) (Be (by decide))) ?_ ?_
   ·simp
   refine R.fin [] ?_;refine AW.ret ?_;refine K.blR ?_
   subst hbz
   refine K.rdR (ABp hL (Be (by decide)) (Be (by decide)) (Be (by decide)) (Be (by decide))) ?_
   refine .inr ⟨rfl,Hp++[AObj.cells 36 [AV.nil],AObj.cells 26 [A2 (Bd (colsAt c l i) (colsAt c l (i+1)) m (bkM c l row k).1).2],AObj.cells 39 [Ib (C0 c l l.length)],AObj.cells 26 [A2 (Bd (colsAt c l i) (colsAt c l (i+1)) m (bkM c l row k).1).2],AObj.cells 36 [B1 ((Bd (colsAt c l i) (colsAt c l (i+1)) m (bkM c l row k).1).1)],AObj.defs,_],?_,by simp,(fun x hx=>by rw [List.length_append];exact hOl (lp:=_) (by exact ⟨hFRl,by simp [oid]⟩) x hx),.inr ⟨_,_,rfl,by rw [Oc ht31];exact herr⟩⟩
   subst hV
   simp only [List.append_assoc,Ee,List.cons_append,List.nil_append,List.set_cons_succ,List.set_cons_zero]
  have hB1:=hnxt (by simpa using ht54)
  refine AW.skip ?_;refine K.blN ?_
  subst hbz
  refine sb ?_
  refine .inl ⟨rfl,hB1,?_⟩
  subst hV
  simp only [List.append_assoc,Ee,List.cons_append,List.nil_append,List.set_cons_succ,List.set_cons_zero]
  rw [htb,show (Bd (colsAt c l i) (colsAt c l (i+1)) m (bkM c l row k).1).2=0 by simpa using ht54]
 rintro r H' (⟨t,rfl,hrun,_⟩|⟨e,t,rfl,hrun⟩)
 ·refine ⟨Hp,_,_,_,rfl,rfl,fun h=>h,?_,rfl,by simp,?_⟩
  ·intro o ho
   have:o=oid Hp.length 5:=by simpa using ho
   subst this
   rw [Ar]
   rfl
  refine Z14 ?_;refine Z2 ?_;refine Fu ?_;refine Fu ?_;refine Z33 ?_;exact K.fin (V.two (V.cell jA) (V.cell jA)) ⟨by rw [hrun],rfl⟩ (hlow:=by simp only [cb,List.mem_cons,List.mem_nil_iff,or_false];rintro y (rfl|rfl);exact Cw;simp)
 refine ⟨Hp,_,_,_,rfl,rfl,fun h=>h,?_,rfl,by simp,?_⟩
 ·intro o ho
  have:o=oid Hp.length 5:=by simpa using ho
  subst this
  rw [Ar]
  rfl
 refine W.nilOwn 0 3 ?_;refine AW.ret ?_;refine Z5 ?_;exact K.fin (V.two (V.cell jA) (V.cell jA)) ⟨by rw [hrun];rfl,rfl⟩

/-- Moves whose numbers are ones of 64 bits. -/
structure RngMv (m:Mov):Prop where
 ahead:∀e∈m.ahead,Bn Do e=true
 back:∀e∈m.back,Bn Do e=true
theorem Yh {l:List Expr} (h20:l.length≤1048576) (h:l.any R4=false) (hr:∀e∈l,Bn Do e=true):OkEs l:=by
 have h1:∀e∈l,Slim e:=fun e he=>sw (by
  rw [List.any_eq_false] at h
  simpa using h e he)
 exact ⟨h20,fun e he=>(h1 e he).ok,fun e he=>by have:=(h1 e he).size;omega,hr⟩
theorem ky {m:Mov} (h:Hr m=false) (hr:RngMv m):OkMov m:=by
 unfold Hr at h
 simp only [Bool.or_eq_false_iff,decide_eq_false_iff_not] at h
 obtain ⟨⟨⟨⟨⟨⟨h1,h2⟩,h3⟩,h4⟩,h5⟩,h6⟩,h7⟩:=h
 have h50:m.give.length≤1000000:=by
  unfold Eu at h1
  simp only [Bool.or_eq_false_iff,decide_eq_false_iff_not] at h1
  omega
 refine ⟨by omega,fun s hs=>?_,cv h1,h50,Yh (by omega) h6 hr.ahead,Yh (by omega) h7 hr.back⟩
 rw [List.any_eq_false] at h5
 have:=h5 s hs
 simp only [decide_eq_true_eq] at this
 omega
theorem kz {l:List Mov} (h:F6 l=false) (hr:∀m∈l,RngMv m):OkMovs l:=by
 unfold F6 at h
 simp only [Bool.or_eq_false_iff,decide_eq_false_iff_not] at h
 refine ⟨by omega,fun m hm=>ky ?_ (hr m hm)⟩
 rw [List.any_eq_false] at h
 simpa using h.2 m hm
theorem qz {c:List Col} (h:Eu c=false):c.length≤1000000:=by
 unfold Eu at h
 simp only [Bool.or_eq_false_iff,decide_eq_false_iff_not] at h
 omega
/-! What mig.Parse hands back is right, and may be walked. -/
structure TrE (e:Expr):Prop where
 right:Es e=true
 rng:Bn Do e=true
 need:C7 e≤30
theorem v6 {l:List Tok} {i:Nat} (h0:(atM l i).2.2.1=0):C7 (atM l i).1≤30:=by
 unfold atM at h0 ⊢
 split
 ·exact jv
 rename_i hc
 have hc:(atS l i (atR l i)).code=0:=by simpa using hc
 have hr:(atR l i).2.code=0:=by
  unfold atS at hc
  split at hc
  ·exact hc
  rename_i hh;simpa using hh
 have:=((bc l 30 0 rfl).1 ⟨i,0,0,0⟩ rfl).need hr
 have h2:=(Mv 0 (atR l i).1 (C7 (atR l i).1)).1
 show C7 (atR l i).1≤30
 unfold atR at h2 ⊢
 omega
theorem r6 {L:List Tok} (hw:∀i,WordOk (A7 L i)) {i:Nat} (ha:(atM L i).2.2.1=0):TrE (atM L i).1:=by
 have hneed:=v6 ha
 revert hneed
 unfold atM at ha ⊢
 by_cases hc:((atS L i (atR L i)).code != 0)=true
 ·rw [if_pos hc] at ha
  rw [show (atS L i (atR L i)).code=0 from ha] at hc
  cases hc
 rw [if_neg hc]
 have hc:(atS L i (atR L i)).code=0:=by simpa using hc
 have h0:(atR L i).2.code=0∧depthE (atR L i).1≤30∧sizeE (atR L i).1≤300:=by
  unfold atS at hc
  split at hc
  ·rename_i hh;exact absurd hc (by simpa using hh)
  rename_i hh
  split at hc
  ·exact ww
  rename_i h2
  split at hc
  ·exact ww
  rename_i h3
  simp only [decide_eq_true_eq,Int.not_lt] at h2 h3
  exact ⟨by simpa using hh,by omega,by omega⟩
 have:=(q8 _ hw 30 0 rfl).1 ⟨i,0,0,0⟩ rfl h0.1
 refine fun hneed=>⟨?_,this.2,hneed⟩
 unfold Es
 rw [Bool.and_eq_true,Bool.and_eq_true]
 exact ⟨⟨by simpa using h0.2.1,by simpa using h0.2.2⟩,this.1⟩
theorem bt {s:Str} (hl:(Dg s).2.1=0):∀i,WordOk (A7 (Dg s).1 i):=fun i=>by
 obtain ⟨_,hi,hM⟩:=Vd hl
 have hall:∀t∈(Dg s).1,WordOk t:=fun t ht=>by
  rw [hM] at ht
  rcases List.mem_append.1 ht with ht|ht
  ·obtain ⟨it,hit,rfl⟩:=List.mem_map.1 ht
   exact Y2 _ _ _ it hit (hi it hit)
  rw [List.mem_singleton.1 ht]
  exact yk _
 unfold A7
 rw [List.getD_eq_getElem?_getD]
 cases hg:(Dg s).1[i]? with
 | none=>exact ⟨(fun h=>by cases h),(fun h=>by cases h)⟩
 | some t=>exact hall t (List.mem_of_getElem? hg)
theorem eo {L:List Tok} (hw:∀i,WordOk (A7 L i)) {i:Nat} {x:Expr} {j:Nat} (h:I3 L i=.ok x j):TrE x:=by
 unfold I3 at h
 split at h
 ·cases h
 rename_i h1
 injection h with h2 _
 rw [←h2]
 exact r6 hw (by simpa using h1)
theorem L2 {L:List Tok} (hw:∀i,WordOk (A7 L i)) {i:Nat} {s:Str} {j:Nat} (h:Ep L i=.ok s j):Ff s=true:=by
 unfold Ep at h
 split at h
 ·cases h
 rename_i h1
 injection h with h2 _
 rw [←h2]
 exact (hw i).name (by simpa using h1)
theorem Ud {s:Str} (h:(Il s==0)=false):1≤Il s∧Il s≤3:=by
 unfold Il at h ⊢
 repeat' split at h
 all_goals simp_all
structure ColG (c:Col):Prop where
 name:Ff c.name=true
 lo:1≤c.kind
 hi:c.kind≤3
theorem l3 {L:List Tok} (hw:∀i,WordOk (A7 L i)) {i:Nat} {c:Col} {j:Nat} (h:Gb L i=.ok c j):ColG c:=by
 obtain ⟨s,j1,h1,h2⟩:=PR.bind_ok h
 unfold Y9 at h2
 split at h2
 ·cases h2
 rename_i h3
 injection h2 with h2 _
 have h3:(Il (A7 L j1).text==0)=false:=by
  simp only [Bool.or_eq_true,not_or,Bool.not_eq_true] at h3
  exact h3.2
 rw [←h2]
 exact ⟨L2 hw h1,(Ud h3).1,(Ud h3).2⟩
/-- The parts of a move, so far. -/
structure MvG (m:Mov):Prop where
 takes:∀s∈m.take,Ff s=true
 gives:∀c∈m.give,ColG c
 len:m.ahead.length=m.give.length
 aheads:∀x∈m.ahead,TrE x
 backs:∀x∈m.back,TrE x
theorem MvG.nil (k:Int):MvG ⟨k,[],[],[],[]⟩:=⟨(fun s h=>by cases h),(fun s h=>by cases h),rfl,(fun s h=>by cases h),(fun s h=>by cases h)⟩
theorem Pu {L:List Tok} (hw:∀i,WordOk (A7 L i)) {m:Mov} (hm:MvG m) {i:Nat} {m':Mov} {j:Nat} (h:D9 L m i=.ok m' j):MvG m'∧∃c x,ColG c∧m'=U6 (C2 m c) x:=by
 obtain ⟨c,j1,h1,h2⟩:=PR.bind_ok h
 obtain ⟨u,j2,h3,h4⟩:=PR.bind_ok h2
 obtain ⟨x,j3,h5,h6⟩:=PR.bind_ok h4
 injection h6 with h6 _
 have hc:=l3 hw h1
 have hx:=eo hw h5
 subst h6
 refine ⟨⟨hm.takes,fun y hy=>?_,?_,fun y hy=>?_,hm.backs⟩,c,x,hc,rfl⟩
 ·rcases List.mem_append.1 hy with h|h
  ·exact hm.gives y h
  rw [List.mem_singleton.1 h];exact hc
 ·show (m.ahead++[x]).length=(m.give++[c]).length
  rw [List.length_append,List.length_append,hm.len]
  rfl
 rcases List.mem_append.1 hy with h|h
 ·exact hm.aheads y h
 rw [List.mem_singleton.1 h];exact hx
theorem Yi {L:List Tok} (hl:TokEnd L) {n:Int} {one:Mov→Nat→PR Mov} {P:Nat→Mov→Prop} (hP:∀k m i m' j,P k m→i<L.length→one m i=.ok m' j→P (k+1) m'∧i≤j∧j<L.length):
  ∀(f k:Nat) (m:Mov) (i:Nat) (m':Mov) (j:Nat),i<L.length→L.length≤i+f→P k m→Kk L n one f k m i=.ok m' j→(∃c,P c m'∧(n=0→2≤c)∧(0<n→(k:Int)≤n→(c:Int)=n))∧j<L.length
 | 0,k,m,i,m',j,hi,hf,hm,h=>by omega
 | f+1,k,m,i,m',j,hi,hf,hm,h=>by
  rw [Kk] at h
  split at h
  ·rename_i hq
   obtain ⟨u,j1,h1,h2⟩:=PR.bind_ok h
   obtain ⟨m1,j2,h3,h4⟩:=PR.bind_ok h2
   have e:=Hu h1
   have a1:=D6 hl hi _ _ h1
   obtain ⟨b1,b2,b3⟩:=hP k m j1 m1 j2 hm a1.2 h3
   obtain ⟨⟨c,c1,c2,c3⟩,c4⟩:=Yi hl hP f (k+1) m1 j2 m' j b3 (by omega) b1 h4
   refine ⟨⟨c,c1,c2,fun h0 hk=>c3 h0 ?_⟩,c4⟩
   unfold Lh at hq
   have:(n==0)=false:=by simp;omega
   rw [this] at hq
   simp at hq
   omega
  rename_i hq
  injection h with h1 h2
  subst h1;subst h2
  unfold Lh at hq
  refine ⟨⟨k,hm,fun h0=>?_,fun h0 hk=>?_⟩,hi⟩
  ·rw [h0] at hq
   simp at hq
   omega
  simp at hq
  omega
theorem Vo {L:List Tok} (hl:TokEnd L) {n:Int} {one:Mov→Nat→PR Mov} {P:Nat→Mov→Prop} (hP:∀k m i m' j,P k m→i<L.length→one m i=.ok m' j→P (k+1) m'∧i≤j∧j<L.length) {m:Mov} {i:Nat} {m':Mov} {j:Nat} (hi:i<L.length) (hm:P 0 m) (h:Fc L n one m i=.ok m' j):(∃c,P c m'∧(n=0→2≤c)∧(0<n→(c:Int)=n))∧j<L.length:=by
 obtain ⟨m1,j1,h1,h2⟩:=PR.bind_ok h
 obtain ⟨b1,b2,b3⟩:=hP 0 m i m1 j1 hm hi h1
 obtain ⟨⟨c,c1,c2,c3⟩,c4⟩:=Yi hl hP _ 1 m1 j1 m' j b3 (by omega) b1 h2
 exact ⟨⟨c,c1,c2,fun h0=>c3 h0 (by omega)⟩,c4⟩
theorem Od {L:List Tok} (hl:TokEnd L) (hll:L.length≤500000) {m:Mov} {i:Nat} {m':Mov} {j:Nat} (hi:i<L.length) (h:D9 L m i=.ok m' j):i≤j∧j<L.length:=by
 obtain ⟨c,j1,h1,h2⟩:=PR.bind_ok h
 obtain ⟨u,j2,h3,h4⟩:=PR.bind_ok h2
 obtain ⟨x,j3,h5,h6⟩:=PR.bind_ok h4
 injection h6 with _ h7
 subst h7
 have a1:=Oa hl hi _ _ h1
 have a2:=D6 hl a1.2 _ _ h3
 have a3:=Ji hl hll a2.2 h5
 exact ⟨by omega,a3.2⟩
/-- The trees back. -/
theorem Pv {L:List Tok} (hl:TokEnd L) (hll:L.length≤500000) (hw:∀i,WordOk (A7 L i)) {m:Mov} (hm:MvG m) (h0:m.back=[]) (h1:1≤m.take.length) {i:Nat} (hi:i<L.length) {m':Mov} {j:Nat} (h:Du L m i=.ok m' j):MvG m'∧∃b,b.length=m.take.length∧m'=⟨m.kind,m.take,m.give,m.ahead,b⟩:=by
 obtain ⟨u,j1,h2,h3⟩:=PR.bind_ok h
 have a1:=D6 hl hi _ _ h2
 obtain ⟨⟨c,⟨c1,b,hb,e⟩,c2,c3⟩,_⟩:=Vo (P:=fun k m'=>MvG m'∧∃b:List Expr,b.length=k∧m'=⟨m.kind,m.take,m.give,m.ahead,b⟩) hl (fun k m1 i m2 j hq hi h=>by
  obtain ⟨g,b,hb,e⟩:=hq
  obtain ⟨x,j1,h1,h2⟩:=PR.bind_ok h
  injection h2 with h2 h3
  subst h3
  have a:=Ji hl hll hi h1
  have hx:=eo hw h1
  subst h2
  refine ⟨⟨⟨g.takes,g.gives,g.len,g.aheads,fun y hy=>?_⟩,b++[x],by rw [List.length_append,hb];rfl,by rw [e];rfl⟩,a.1,a.2⟩
  rcases List.mem_append.1 hy with h|h
  ·exact g.backs y h
  rw [List.mem_singleton.1 h];exact hx) a1.2 ⟨hm,[],rfl,by rw [←h0]⟩ h3
 have:=c3 (by omega)
 exact ⟨c1,b,by omega,e⟩
/-- A move that is parsed, its counts and last words. -/
structure MvP (m:Mov):Prop where
 takes:∀s∈m.take,Ff s=true
 gives:∀c∈m.give,Ff c.name=true
 kinds:m.kind≠3→∀c∈m.give,1≤c.kind∧c.kind≤3
 kind3:m.kind=3→∀c∈m.give,c.kind=0
 counts:Db m=true
 last:Fy m=true
 aheads:∀x∈m.ahead,TrE x
 backs:∀x∈m.back,TrE x
theorem Yj {s:Str} (h:Ff s=true):TrE (Bv s):=⟨by
 have:=Qr s
 rw [←Ja]
 rw [this]
 exact h,rfl,by rw [Bv];simp [C7,P0,Mq]⟩
theorem MvG.p {m:Mov} (h:MvG m) (hk:m.kind≠3) (hc:Db m=true) (hl:Fy m=true):MvP m:=⟨h.takes,fun c hc=>(h.gives c hc).name,fun _ c hc=>⟨(h.gives c hc).lo,(h.gives c hc).hi⟩,fun h3=>absurd h3 hk,hc,hl,h.aheads,h.backs⟩
theorem Hd {m:Mov} (h1:m.ahead.length=m.give.length) (h2:m.back.length=m.take.length) (h:(m.kind=1∧m.take.length=0∧m.give.length=1)∨(m.kind=2∧m.take.length=1∧m.give.length=0)∨((m.kind=3∨m.kind=6)∧m.take.length=1∧m.give.length=1)∨(m.kind=4∧m.take.length=1∧1<m.give.length)∨(m.kind=5∧1<m.take.length∧m.give.length=1)):Db m=true:=by
 unfold Db
 rw [if_neg (by simp [h1,h2])]
 rcases h with ⟨e,a,b⟩|⟨e,a,b⟩|⟨e|e,a,b⟩|⟨e,a,b⟩|⟨e,a,b⟩<;>rw [e]<;>simp [a,b]<;>omega
theorem Pw {m:Mov} (h3:m.kind≠3) (h6:m.kind≠6):Fy m=true:=by
 unfold Fy
 rw [if_neg (by simpa using h3),if_neg (by simpa using h6)]
theorem v7 {L:List Tok} (hl:TokEnd L) (hll:L.length≤500000) (hw:∀i,WordOk (A7 L i)) {k:Int} (hk:1≤k∧k≤6) {i:Nat} (hi:i<L.length) {m:Mov} {j:Nat} (h:Ey L ⟨k,[],[],[],[]⟩ i=.ok m j):MvP m:=by
 have hg:=MvG.nil k
 unfold Ey at h
 split at h
 ·rename_i hk1
  have hk1:k=1:=by simpa using hk1
  obtain ⟨g,c,x,hc,e⟩:=Pu hw hg h
  subst e
  exact g.p (by show k≠3;omega) (Hd g.len rfl (.inl ⟨hk1,rfl,rfl⟩)) (Pw (by show k≠3;omega) (by show k≠6;omega))
 split at h
 ·rename_i hk1
  have hk1:k=2:=by simpa using hk1
  obtain ⟨s,j1,h1,h2⟩:=PR.bind_ok h
  have hs:=L2 hw h1
  have a1:=Ef hl hi _ _ h1
  have g0:MvG (takeS ⟨k,[],[],[],[]⟩ s):=⟨fun y hy=>by rw [List.mem_singleton.1 hy];exact hs,hg.gives,rfl,hg.aheads,hg.backs⟩
  obtain ⟨g,b,hb,e⟩:=Pv hl hll hw g0 rfl (Nat.le_refl _) a1.2 h2
  subst e
  exact g.p (by show k≠3;omega) (Hd rfl hb (.inr (.inl ⟨hk1,rfl,rfl⟩))) (Pw (by show k≠3;omega) (by show k≠6;omega))
 split at h
 ·rename_i hk1
  have hk1:k=3:=by simpa using hk1
  obtain ⟨s,j1,h1,h2⟩:=PR.bind_ok h
  obtain ⟨u,j2,h3,h4⟩:=PR.bind_ok h2
  obtain ⟨t,j3,h5,h6⟩:=PR.bind_ok h4
  injection h6 with h6 _
  have hs:=L2 hw h1
  have ht:=L2 hw h5
  subst h6
  refine ⟨fun y hy=>by rw [List.mem_singleton.1 hy];exact hs,fun y hy=>by rw [List.mem_singleton.1 hy];exact ht,fun h=>absurd hk1 h,fun _ y hy=>by rw [List.mem_singleton.1 hy],Hd rfl rfl (.inr (.inr (.inl ⟨.inl hk1,rfl,rfl⟩))),?_,fun y hy=>by rw [List.mem_singleton.1 hy];exact Yj hs,fun y hy=>by rw [List.mem_singleton.1 hy];exact Yj ht⟩
  unfold Fy
  rw [if_pos (by simpa using hk1)]
  show (eqE (Bv s) (Bv s)&&eqE (Bv t) (Bv t))=true
  rw [R0,R0]
  rfl
 split at h
 ·rename_i hk1
  have hk1:k=4:=by simpa using hk1
  obtain ⟨s,j1,h1,h2⟩:=PR.bind_ok h
  obtain ⟨u,j2,h3,h4⟩:=PR.bind_ok h2
  obtain ⟨m1,j3,h5,h6⟩:=PR.bind_ok h4
  have hs:=L2 hw h1
  have a1:=Ef hl hi _ _ h1
  have a2:=D6 hl a1.2 _ _ h3
  have g0:MvG (takeS ⟨k,[],[],[],[]⟩ s):=⟨fun y hy=>by rw [List.mem_singleton.1 hy];exact hs,hg.gives,rfl,hg.aheads,hg.backs⟩
  obtain ⟨⟨c,⟨g1,e1,e2,e3,e4⟩,c2,_⟩,c4⟩:=Vo (P:=fun n m'=>MvG m'∧m'.kind=k∧m'.take=[s]∧m'.back=[]∧m'.give.length=n) hl (fun n m1 i m2 j hq hi h=>by
   obtain ⟨g,e1,e2,e3,e4⟩:=hq
   obtain ⟨g',c,x,hc,e⟩:=Pu hw g h
   have a:=Od hl hll hi h
   subst e
   exact ⟨⟨g',e1,e2,e3,by show (m1.give++[c]).length=_;rw [List.length_append,e4];rfl⟩,a.1,a.2⟩) a2.2 ⟨g0,rfl,rfl,rfl,rfl⟩ h5
  have c2:=c2 rfl
  obtain ⟨g,b,hb,e⟩:=Pv hl hll hw g1 e3 (by rw [e2];exact Nat.le_refl _) c4 h6
  subst e
  exact g.p (by show m1.kind≠3;omega) (Hd g1.len hb (.inr (.inr (.inr (.inl ⟨by show m1.kind=4;omega,by show m1.take.length=1;rw [e2];rfl,by show 1<m1.give.length;omega⟩))))) (Pw (by show m1.kind≠3;omega) (by show m1.kind≠6;omega))
 split at h
 ·rename_i hk1
  have hk1:k=5:=by simpa using hk1
  obtain ⟨m1,j1,h1,h2⟩:=PR.bind_ok h
  obtain ⟨u,j2,h3,h4⟩:=PR.bind_ok h2
  obtain ⟨m2,j3,h5,h6⟩:=PR.bind_ok h4
  obtain ⟨⟨c,⟨g1,e1,e2,e3,e4,e5⟩,c2,_⟩,c4⟩:=Vo (P:=fun n m'=>MvG m'∧m'.kind=k∧m'.give=[]∧m'.ahead=[]∧m'.back=[]∧m'.take.length=n) hl (fun n m1 i m2 j hq hi h=>by
   obtain ⟨g,e1,e2,e3,e4,e5⟩:=hq
   obtain ⟨s,j1,h1,h2⟩:=PR.bind_ok h
   injection h2 with h2 h3
   have hs:=L2 hw h1
   have a:=Ef hl hi _ _ h1
   subst h3
   subst h2
   refine ⟨⟨⟨fun y hy=>?_,g.gives,g.len,g.aheads,g.backs⟩,e1,e2,e3,e4,by show (m1.take++[s]).length=_;rw [List.length_append,e5];rfl⟩,by omega,a.2⟩
   rcases List.mem_append.1 hy with h|h
   ·exact g.takes y h
   rw [List.mem_singleton.1 h];exact hs) hi ⟨hg,rfl,rfl,rfl,rfl,rfl⟩ h1
  have c2:=c2 rfl
  have a2:=D6 hl c4 _ _ h3
  obtain ⟨g2,cc,x,hc,e⟩:=Pu hw g1 h5
  have a3:=Od hl hll a2.2 h5
  subst e
  obtain ⟨g,b,hb,e⟩:=Pv hl hll hw g2 e4 (by show 1≤m1.take.length;omega) a3.2 h6
  subst e
  exact g.p (by show m1.kind≠3;omega) (Hd g2.len hb (.inr (.inr (.inr (.inr ⟨by show m1.kind=5;omega,by show 1<m1.take.length;omega,by show (m1.give++[cc]).length=1;rw [e2];rfl⟩))))) (Pw (by show m1.kind≠3;omega) (by show m1.kind≠6;omega))
 split at h
 ·rename_i hk1
  have hk1:k=6:=by simpa using hk1
  obtain ⟨m1,j1,h1,h2⟩:=PR.bind_ok h
  obtain ⟨g,c,x,hc,e⟩:=Pu hw hg h1
  have a:=Od hl hll hi h1
  subst e
  have g0:MvG (takeS (U6 (C2 ⟨k,[],[],[],[]⟩ c) x) c.name):=⟨fun y hy=>by rw [List.mem_singleton.1 hy];exact hc.name,g.gives,g.len,g.aheads,g.backs⟩
  obtain ⟨g1,b,hb,e⟩:=Pv hl hll hw g0 rfl (Nat.le_refl _) a.2 h2
  subst e
  refine g1.p (by show k≠3;omega) (Hd g0.len hb (.inr (.inr (.inl ⟨.inr hk1,rfl,rfl⟩)))) ?_
  unfold Fy
  rw [if_neg (by show ¬((k==3)=true);simp;omega),if_pos (by show (k==6)=true;simp;omega)]
  show (c.name==c.name)=true
  simp
 rename_i h1 h2 h3 h4 h5 h6
 simp only [beq_iff_eq] at h1 h2 h3 h4 h5 h6
 omega
theorem bu {s:Str} (h:(Dc s==0)=false):1≤Dc s∧Dc s≤6:=by
 unfold Dc at h ⊢
 repeat' split at h
 all_goals simp_all
theorem v8 {L:List Tok} (hl:TokEnd L) (hll:L.length≤500000) (hw:∀i,WordOk (A7 L i)) {i:Nat} (hi:i<L.length) {m:Mov} {j:Nat} (h:Gp L i=.ok m j):MvP m:=by
 unfold Gp at h
 split at h
 ·cases h
 rename_i h1
 simp only [Bool.or_eq_true,not_or,Bool.not_eq_true] at h1
 obtain ⟨m1,j1,h2,h3⟩:=PR.bind_ok h
 obtain ⟨u,j2,h4,h5⟩:=PR.bind_ok h3
 injection h5 with h5 _
 subst h5
 exact v7 hl hll hw (bu h1.2) (hl.step hi (by have:=h1.1;simp at this;omega)) h2
theorem Oe {s:Str} (h:Ff s=true):s.length≤16:=by
 rw [←El] at h
 unfold Cm at h
 simp only [Bool.and_eq_true,decide_eq_true_eq] at h
 omega
theorem r7 {l:List Expr} (hl:l.length≤1048576) (h:∀x∈l,TrE x):OkEs l:=⟨hl,fun e he=>Fh (by decide) (Tz (h e he).right).1,fun e he=>Nat.le_trans (Tz (h e he).right).2 (by decide),fun e he=>(h e he).rng⟩
theorem MvP.ok {m:Mov} (h:MvP m) {n:Nat} (hn:MvLe m n) (h1:n≤1000000):OkMov m:=
 ⟨by have:=hn.take;omega,fun s hs=>by have:=Oe (h.takes s hs);omega,⟨by have:=hn.give;omega,fun y hy=>by have:=Oe (h.gives y hy);omega⟩,by have:=hn.give;omega,r7 (by have:=hn.ahead;omega) h.aheads,r7 (by have:=hn.back;omega) h.backs⟩
/-! Words that stand among others are parsed as they are alone. -/
/-! Moves that stand among others are parsed as they are alone. -/
section
variable {l l':List Tok} {p m:Nat}
end
/-! MigJoins: the moves of two sources, one behind the other. -/
theorem r8 {l:List Tok} {f:Nat} {ms:List Mov} {i:Nat} (h:(A7 l i).kind=0):E4 l (f+1) ms i=.ok ms i:=by rw [E4,if_neg (by rw [h];decide)]
theorem r9 {l:List Tok} {f:Nat} {ms:List Mov} {i:Nat} (h:(A7 l i).kind≠0) (h8:ms.length=8):E4 l (f+1) ms i=.bad 3 (A7 l i).at_:=by
 rw [E4,if_pos (by simpa using h),if_pos (by rw [h8];rfl)];rfl
theorem rc {l:List Tok} {f:Nat} {ms:List Mov} {i:Nat} (h:(A7 l i).kind≠0) (h8:ms.length≠8):E4 l (f+1) ms i=(Gp l i).bind fun m j=>E4 l f (ms++[m]) j:=by
 rw [E4,if_pos (by simpa using h),if_neg (by simp only [beq_iff_eq];omega)]
theorem rd {l:List Tok} {f:Nat} {ms:List Mov} {i:Nat} {x:List Mov} {ia:Nat} (h:E4 l (f+1) ms i=.ok x ia):((A7 l i).kind=0∧x=ms∧ia=i)∨((A7 l i).kind≠0∧ms.length≠8∧∃v j,Gp l i=.ok v j∧E4 l f (ms++[v]) j=.ok x ia):=by
 by_cases hk:(A7 l i).kind=0
 ·rw [r8 hk] at h
  injection h with h1 h2
  exact .inl ⟨hk,h1.symm,h2.symm⟩
 by_cases h8:ms.length=8
 ·rw [r9 hk h8] at h;cases h
 rw [rc hk h8] at h
 obtain ⟨v,j,e1,e2⟩:=PR.bind_ok h
 exact .inr ⟨hk,h8,v,j,e1,e2⟩
/-! What mig.Parse hands back may be walked. -/
theorem vd {L:List Tok} (hl:TokEnd L) (hll:L.length≤500000) {i:Nat} (hi:i<L.length) {m:Mov} {j:Nat} (h:Gp L i=.ok m j):MvLe m (2*L.length):=by
 unfold Gp at h
 split at h
 ·cases h
 rename_i h0
 have hi1:i+1<L.length:=hl.step hi (by
  simp only [Bool.or_eq_true,not_or,Bool.not_eq_true,bne_eq_false_iff_eq] at h0
  rw [h0.1];decide)
 obtain ⟨m1,k,h1,h2⟩:=PR.bind_ok h
 obtain ⟨u,j2,h3,h4⟩:=PR.bind_ok h2
 injection h4 with h5 h6
 subst h5
 obtain ⟨_,a2,a3⟩:=Vn hl hll _ (i+1) ⟨Nat.zero_le _,Nat.zero_le _,Nat.zero_le _,Nat.zero_le _⟩ (by omega) hi1 _ _ h1
 exact a3.mono (by omega)
theorem P6 {L:List Tok} (hl:TokEnd L) (hll:L.length≤500000) (hw:∀i,WordOk (A7 L i)):∀(f:Nat) (l:List Mov) (i:Nat) (x:List Mov) (j:Nat),i<L.length→l.length≤8→l.length+f=9→(∀m∈l,MvP m∧MvLe m (2*L.length))→E4 L f l i=.ok x j→(∀m∈x,MvP m∧MvLe m (2*L.length))∧x.length≤8
 | 0,l,i,x,j,_,h1,h2,_,_=>by omega
 | f+1,l,i,x,j,hi,h8,hf,hg,h=>by
  rcases rd h with ⟨_,rfl,_⟩|⟨_,hn,v,k,e1,e2⟩
  ·exact ⟨hg,h8⟩
  have a:=eg hl hll hi e1
  have b:=v8 hl hll hw hi e1
  have c:=vd hl hll hi e1
  have hlen:(l++[v]).length=l.length+1:=by simp
  refine P6 hl hll hw f (l++[v]) k x j a.2 (by omega) (by omega) (fun m hm=>?_) e2
  rcases List.mem_append.1 hm with h|h
  ·exact hg m h
  rw [List.mem_singleton.1 h]
  exact ⟨b,c⟩
structure MigGood (l:List Mov):Prop where
 ok:OkMovs l
 each:∀m∈l,MvP m
 len:l.length≤8
theorem MigGood.nil:MigGood []:=⟨⟨Nat.zero_le _,fun m h=>(List.not_mem_nil h).elim⟩,fun m h=>(List.not_mem_nil h).elim,Nat.zero_le _⟩
theorem Yk (s:Str):MigGood (My s).1:=by
 by_cases h0:((Dg s).2.1 != 0)=true
 ·rw [ek h0]
  exact .nil
 have h0:(Dg s).2.1=0:=by simpa using h0
 unfold My
 rw [if_neg (by rw [h0];simp)]
 cases hm:Ht (Dg s).1 with
 | bad e a=>exact .nil
 | ok l i =>
  have hl:=cu h0
  have hll:=de h0
  obtain ⟨h1,h2⟩:=P6 hl (by omega) (bt h0) 9 [] 0 l i (by have:=np h0;omega) (by decide) rfl (fun m h=>by cases h) hm
  exact ⟨⟨by show l.length≤1048576;omega,fun m hm=>(h1 m hm).1.ok (h1 m hm).2 (by omega)⟩,fun m hm=>(h1 m hm).1,h2⟩
theorem Vp {c:List Col} {l:List Mov} {row:List Val} (h:OkMovs l) (h0:RowI (colsAt c l l.length) row):∀k,k≤l.length→(bkM c l row k).2=0→BkAt c l row k
 | 0,_,_=>.zero h0
 | k+1,hk,he=>by
  have h1:(bkM c l row k).2=0:=Classical.byContradiction fun hn=>by
   rw [Rv hn (k+1) (by omega)] at he
   exact hn he
  obtain ⟨m,hm⟩:∃m,l[l.length-1-k]? = some m:=⟨l[l.length-1-k],List.getElem?_eq_getElem (by omega)⟩
  refine (Vp h h0 k (by omega) h1).next (by omega) hm (fun e he=>(h.each m (List.mem_of_getElem? hm)).back.rng e he) ?_
  rw [←Mw hm h1]
  exact he
theorem Ue {c:List Col} {l:List Mov} {row:List Val} (h:OkMovs l) (hrr:∀v∈row, -9223372036854775808≤v.n∧v.n≤9223372036854775807) (hb:(Cd c l row).2=0):RowI c (Cd c l row).1:=by
 unfold Cd at hb ⊢
 split at hb
 ·cases hb
 rename_i h1
 rw [if_neg h1]
 have h2:E2 (colsAt c l l.length) row=true:=by
  simp only [Bool.or_eq_true,Bool.not_eq_true',not_or,Bool.not_eq_false] at h1
  exact h1.2
 have:=(Vp h (Kj h2 hrr) l.length (Nat.le_refl _) hb).row
 rw [Nat.sub_self] at this
 exact this
theorem yu {c:List Col} {l:List Mov} {row:List Val}:∀k,(bkM c l row k).2≠0→(bkM c l row k).1=[]
 | 0,h=>absurd rfl h
 | k+1,h=>by
  rw [bkM] at h ⊢
  split
  ·rfl
  rename_i h1
  rw [if_neg h1] at h
  split at h
  ·exact wx
  exact U3 h
theorem l4 {c:List Col} (hc:OkCols c) {l:List Mov} {row:List Val} (h:OkMovs l) (hrr:∀v∈row, -9223372036854775808≤v.n∧v.n≤9223372036854775807):(Cd c l row).1.length≤1048576:=by
 by_cases hb:(Cd c l row).2=0
 ·rw [(Ue h hrr hb).len]
  exact hc.len
 unfold Cd at hb ⊢
 split
 ·exact V2
 rename_i h1
 rw [if_neg h1] at hb
 rw [yu _ hb]
 exact V2
theorem S5 {c:List Col} {l:List Mov} {row:List Val} (h:OkMovs l) (hs:((Bo c l).2 != 0)=false) (h0:RowI c row):∀k,k≤l.length→(fwM c l row k).2=0→RowI (colsAt c l k) (fwM c l row k).1
 | 0,_,_=>h0
 | k+1,hk,he=>by
  obtain ⟨hmay,hst,_⟩:=E3 hs
  have h1:(fwM c l row k).2=0:=Classical.byContradiction fun hn=>by
   rw [Ru hn (k+1) (by omega)] at he
   exact hn he
  obtain ⟨m,hm⟩:∃m,l[k]? = some m:=⟨l[k],List.getElem?_eq_getElem (by omega)⟩
  have hml:=List.mem_of_getElem? hm
  have e:=Pr hm h1
  rw [e,Ea hm]
  exact O8 (I2 hst hm) (Ix hmay m hml) (fun e he=>(h.each m hml).ahead.rng e he) (S5 h hs h0 k (by omega) h1) (by rw [←e];exact he)
theorem S6 {c:List Col} {l:List Mov} {row:List Val} (h:OkMovs l) (hrr:∀v∈row, -9223372036854775808≤v.n∧v.n≤9223372036854775807) (hb:(B7 c l row).2=0):RowI (colsAt c l l.length) (B7 c l row).1:=by
 unfold B7 at hb ⊢
 split at hb
 ·cases hb
 rename_i h1
 rw [if_neg h1]
 have h2:((Bo c l).2 != 0)=false∧E2 c row=true:=by
  simp only [Bool.or_eq_true,Bool.not_eq_true',not_or,Bool.not_eq_false,Bool.not_eq_true] at h1
  exact h1
 exact S5 h h2.1 (Kj h2.2 hrr) l.length (Nat.le_refl _) hb
theorem c17 (c:List Col) (hc:OkCols c) (hc2:c.length≤1000000) (l:List Mov) (h:OkMovs l) (row:List Val) (hrr:∀v∈row, -9223372036854775808≤v.n∧v.n≤9223372036854775807) (hrl:row.length≤1048576) (Hp:List AObj):AFun Tryz.prog 17 [Ac c,D8 l,B1 row] Hp (.tup [B1 (Ss c l row).1,A2 (Ss c l row).2]):=by
 refine ACall.body [.tmp 6,.tmp 7] [0,1,2] Tryz.func17 Tryz.ntmps17 (fun d=>?_)
 refine Z1 ?_;refine Qa ?_;refine Z13 ?_;refine R.call Tryz.call16 (c16 c hc hc2 l h row hrr hrl _) ?_;refine Z65 ?_;refine R.fin [0,1,2,8,9] ?_;refine Z31 ?_;refine R.fin [0,1,2,8,9,19] ?_
 refine W.cond (fun ht19=>?_) (fun ht19=>?_)
 ·have hm:Ss c l row=([],(Cd c l row).2):=if_pos ht19
  refine Z1 ?_;refine Z8 ?_;exact Z45
 have n1:¬((Cd c l row).2 != 0)=true:=by rw [ht19];simp
 have hB:=Ue h hrr (by simpa using ht19:(Cd c l row).2=0)
 refine Mb ?_
 refine R.call Tryz.call14 (c14 c hc hc2 l h (Cd c l row).1 (Gr hB.fine) (by rw [hB.len];exact hc.len) _) ?_
 refine Z65 ?_;refine R.fin [2,8,9,10] ?_;refine Wm ?_;refine R.fin [2,8,9,10,28] ?_
 refine W.cond (fun ht28=>?_) (fun ht28=>?_)
 ·have hm:Ss c l row=([],(B7 c l (Cd c l row).1).2):=by unfold Ss;rw [if_neg n1,if_pos ht28]
  refine Z1 ?_;refine Z8 ?_;exact zo
 have n2:¬((B7 c l (Cd c l row).1).2 != 0)=true:=by rw [ht28];simp
 have hF:=S6 h (Gr hB.fine) (by simpa using ht28:(B7 c l (Cd c l row).1).2=0)
 refine Z1 ?_
 refine R.call Tryz.call43 (c43 (B7 c l (Cd c l row).1).1 row (by rw [hF.len];exact (Cu hc (fun m hm=>h.each m hm) l.length).len) _) ?_
 refine Z0 ?_;refine R.fin [8,32] ?_
 refine W.cond (fun ht32=>?_) (fun ht32=>?_)
 ·have hm:Ss c l row=([],14):=by unfold Ss;rw [if_neg n1,if_neg n2,if_pos ht32]
  refine Z2 ?_;refine Z8 ?_;exact zo
 have hm:Ss c l row=((Cd c l row).1,0):=by unfold Ss;rw [if_neg n1,if_neg n2,if_neg (by rw [ht32];simp)]
 refine Z18 ?_;refine Z13 ?_;refine Z33 ?_;exact K.fin (V.two V.tmp V.tmp) ⟨by rw [hm]<;>rfl,rfl⟩ (hlow:=by simpa using (Cw (n:=Hp.length) (k:=3) (o:=false) (l:=(Cd c l row).1)))

theorem c11 (c:List Col) (l:List Mov) (row:List Val) (Hp:List AObj):AFun Tryz.prog 11 [Ac c,D8 l,B1 row] Hp (At ((Eu c || F6 l) || Lg row)):=by
 refine ACall.body [.tmp 6] [0,1,2] Tryz.func11 Tryz.ntmps11 (fun d=>?_)
 refine Z2 ?_;refine Qa ?_;refine Z2 ?_;refine R.call Tryz.call7 (ACi c _) ?_;refine R.go ?_;refine G.go ?_;refine G.call Tryz.call32 (fun hB=>c32 l _) ?_;refine V1 ?_;refine G.call Tryz.call33 (fun hB=>c33 row _) ?_;refine Z0 ?_;refine Z60 ?_;exact wz

theorem c31 (n:Int) (Hp:List AObj):AFun Tryz.prog 31 [A2 n] Hp (Am ⟨1,n,[]⟩):=by
 refine ACall.body [.cell 2 63] [0] Tryz.func31 Tryz.ntmps31 (fun d=>?_)
 refine Z52 ?_;refine Z2 ?_;refine wc ?_;exact K.fin (V.one (V.cellN jA jS)) ⟨rfl,rfl⟩

def aiS:Str:=[115,112,108,105,116,32,97,32,105,110,116,111,32,98,32,105,110,116,32,61,32,97,32,47,32,49,48,44,32,99,32,105,110,116,32,61,32,97,32,37,32,49,48,32,98,97,99,107,32,98,32,42,32,49,48,32,43,32,99,59]
def aiC:List Col:=[⟨[97],1⟩]
theorem ve:(My aiS).2.1=0:=by kernel_rfl
theorem ABq:(My aiS).2.2=0:=by kernel_rfl
theorem re:B7 aiC (My aiS).1 [⟨1,42,[]⟩]=([⟨1,4,[]⟩,⟨1,2,[]⟩],0):=by kernel_rfl
theorem yw:Ss aiC (My aiS).1 [⟨1,4,[]⟩,⟨1,12,[]⟩]=([],14):=by kernel_rfl
theorem ABr:OkCols aiC:=⟨by simp [aiC],fun y hy=>by rw [List.mem_singleton.1 hy];simp⟩
theorem c10 (Hp:List AObj):AFun Tryz.prog 10 [] Hp (At true):=by
 refine ACall.body [.tmp 0] [] Tryz.func10 Tryz.ntmps10 (fun d=>?_)
 refine Z2 ?_;refine R.fin [] ?_;refine Cz ?_;refine V3 ?_;refine R.buildSl jU jS jZ ?_;refine R.go ?_;refine R.fin [1] ?_;refine Cz ?_;refine R.call Tryz.call30 (c30 aiS (by decide) _) ?_;refine Z29 ?_;refine Z92 ?_;refine R.fin [1,2,3] ?_;refine Cz ?_
 rw [ve,ABq]
 refine Z0 ?_;refine R.call Tryz.call31 (c31 42 _) ?_;refine R.buildSl jU jS jZ ?_
 refine R.call Tryz.call14 (c14 aiC ABr (by decide) (My aiS).1 (Yk aiS).ok [⟨1,42,[]⟩] (fun v hv=>by rw [List.mem_singleton.1 hv];decide) (by decide) _) ?_
 rw [re]
 refine Z65 ?_;refine R.fin [1,2,3,4,5] ?_;refine Z1 ?_;refine R.call Tryz.call31 (c31 4 _) ?_;refine R.call Tryz.call31 (c31 12 _) ?_;refine R.buildSl jU jS jZ ?_
 refine R.call Tryz.call17 (c17 aiC ABr (by decide) (My aiS).1 (Yk aiS).ok [⟨1,4,[]⟩,⟨1,12,[]⟩] (fun v hv=>by simp only [List.mem_cons,List.mem_nil_iff,or_false] at hv;rcases hv with rfl|rfl<;>decide) (by decide) _) ?_
 rw [yw]
 refine Z65 ?_;refine R.fin [3,4,5,7] ?_;refine W.draw [0,1,3,7,15,31,63,127,255,511,1023,2047,4095,8191,16383,32767,8191,131071,262143,524287,1048575,2097151,4194303,1048575,16777215,33554431,67108863,134217727,268435455,536870911,1073741823] 24 Aa (by kernel_rfl) ?_;refine Pe ?_;refine Z75 ?_;refine Z10 ?_;refine Z75 ?_;refine H.go ?_;refine Z10 ?_;refine H.go ?_
 refine H.go (h:=Q.indexAddr (0) (Am ⟨1,4,[]⟩) (fun _=>rfl)) (hr:=?_)
 refine H.go ?_;refine H.call Tryz.call31 (fun hB=>c31 4 _) ?_
 refine H.go (h:=Q.eqlAgg Si (G8 1 4 1 4 [] [])) (hr:=?_)
 refine Z10 ?_;refine H.go ?_
 refine H.go (h:=Q.indexAddr (1) (Am ⟨1,2,[]⟩) (fun _=>rfl)) (hr:=?_)
 refine H.go ?_;refine H.call Tryz.call31 (fun hB=>c31 2 _) ?_;refine D.tail ?_
 refine G.go (h:=Q.eqlAgg Si (G8 1 2 1 2 [] [])) (hr:=?_)
 refine Z62 ?_;refine Z0 ?_;refine R.fin [0] ?_;refine AW.ret ?_;exact K.fin (V.one V.tmp) ⟨by rfl,rfl⟩

/-! ImageJoins: rows forth and back, move by move. -/
theorem Of {over:List Col}:∀{l:List Expr} {w:List Col},Bz over l w=0→∀(j:Nat) (x:Expr) (y:Col),l[j]? = some x→w[j]? = some y→Nz x over y.kind=0
 | [],_,_,j,x,y,h,_=>by simp at h
 | _::_,[],_,j,x,y,_,h=>by simp at h
 | a::l,b::w,h,j,x,y,h1,h2=>by
  rw [Bz] at h
  by_cases h0:(Nz a over b.kind != 0)=true
  ·rw [if_pos h0] at h
   rw [h] at h0
   cases h0
  rw [if_neg h0] at h
  cases j with
  | zero =>
   have e1:a=x:=by simpa using h1
   have e2:b=y:=by simpa using h2
   rw [←e1,←e2]
   simpa using h0
  | succ j=>exact Of h j x y (by simpa using h1) (by simpa using h2)
theorem ep {x:Expr} {c:List Col} {k:Int} {row:List Val} (h:Nz x c k=0) (hr:E2 c row=true) (he:(Dt x c row).2=0):(Dt x c row).1.kind=0∨(Dt x c row).1.kind=k:=by
 unfold Nz at h
 by_cases h1:((Fm x c).2 != 0)=true
 ·rw [if_pos h1] at h
  rw [h] at h1
  cases h1
 rw [if_neg h1] at h
 have h1:(Fm x c).2=0:=by simpa using h1
 by_cases h2:(!Tu x c k)=true
 ·rw [if_pos h2] at h
  cases h
 have h2:Tu x c k=true:=by simpa using h2
 unfold Tu at h2
 simp only [Bool.and_eq_true,Bool.or_eq_true,beq_iff_eq] at h2
 have:=(kg h1 hr).kind he
 rcases h2.2 with h3|h3<;>omega
theorem S7 {c:List Col} {m:Mov} (h:(Ay c m).2=0):Bz c m.ahead (Aw c m)=0∧Bz (Ay c m).1 m.back (F4 c m)=0:=by
 by_cases h1:((Ca c m.take (Aw c m)).2 != 0)=true
 ·rw [dj h1] at h
  rw [show (Ca c m.take (Aw c m)).2=0 from h] at h1
  cases h1
 have h1:((Ca c m.take (Aw c m)).2 != 0)=false:=by simpa using h1
 by_cases h2:(Bz c m.ahead (Aw c m) != 0)=true
 ·rw [dk h1 h2] at h
  rw [show Bz c m.ahead (Aw c m)=0 from h] at h2
  cases h2
 have h2:(Bz c m.ahead (Aw c m) != 0)=false:=by simpa using h2
 by_cases h3:(Bz (Ca c m.take (Aw c m)).1 m.back (F4 c m) != 0)=true
 ·rw [dl h1 h2 h3] at h
  rw [show Bz (Ca c m.take (Aw c m)).1 m.back (F4 c m)=0 from h] at h3
  cases h3
 have h3:(Bz (Ca c m.take (Aw c m)).1 m.back (F4 c m) != 0)=false:=by simpa using h3
 rw [dm h1 h2 h3]
 exact ⟨by simpa using h2,by simpa using h3⟩
theorem M3 {c:List Col} {row:List Val}:∀{l:List Expr},(Ag c row l).2=0→∀(j:Nat) (x:Expr),l[j]? = some x→(Dt x c row).2=0∧(Ag c row l).1[j]? = some (Dt x c row).1
 | [],_,j,x,h=>by simp at h
 | a::r,h,j,x,hx=>by
  rw [Ag] at h ⊢
  by_cases h1:((Dt a c row).2 != 0)=true
  ·rw [if_pos h1] at h
   rw [show (Dt a c row).2=0 from h] at h1
   cases h1
  rw [if_neg h1] at h ⊢
  by_cases h2:((Ag c row r).2 != 0)=true
  ·rw [if_pos h2] at h
   rw [show (Ag c row r).2=0 from h] at h2
   cases h2
  rw [if_neg h2]
  cases j with
  | zero =>
   have e1:a=x:=by simpa using hx
   rw [←e1]
   exact ⟨by simpa using h1,rfl⟩
  | succ j=>exact M3 (l:=r) (by simpa using h2) j x (by simpa using hx)
theorem Uf {take:List Str}:∀{c:List Col} {row:List Val},row.length=c.length→∀(i:Nat) (v:Val) (y:Col),(E7 take c row)[i]? = some v→(Cf c take)[i]? = some y→∃j:Nat,row[j]? = some v∧c[j]? = some y
 | [],[],_,i,v,y,h,_=>by simp [E7] at h
 | a::c,b::row,hl,i,v,y,h1,h2=>by
  have hl2:row.length=c.length:=by simpa using hl
  unfold E7 at h1
  unfold Cf at h2
  rw [List.zip_cons_cons,List.filter_cons] at h1
  rw [List.filter_cons] at h2
  have ih:=Uf (take:=take) hl2
  by_cases ht:(!take.contains a.name)=true
  ·rw [if_pos ht] at h1 h2
   cases i with
   | zero=>exact ⟨0,by simpa using h1,by simpa using h2⟩
   | succ i =>
    obtain ⟨j,e1,e2⟩:=ih i v y (by simpa [E7] using h1) (by simpa [Cf] using h2)
    exact ⟨j+1,by simpa using e1,by simpa using e2⟩
  rw [if_neg ht] at h1 h2
  obtain ⟨j,e1,e2⟩:=ih i v y (by simpa [E7] using h1) (by simpa [Cf] using h2)
  exact ⟨j+1,by simpa using e1,by simpa using e2⟩
 | [],_::_,hl,_,_,_,_,_=>by simp at hl
 | _::_,[],hl,_,_,_,_,_=>by simp at hl
theorem P7 {c:List Col} (h:Cb c=true):Gj c=true:=by
 unfold Cb at h
 simp only [Bool.and_eq_true] at h
 exact h.2
/-- What comes forth is a row over the columns behind. -/
theorem bv {c:List Col} {m:Mov} {row:List Val} (ht:(Ay c m).2=0) (hm:Fo m=true) (hg:∀e∈m.ahead,Bn Do e=true) (h:RowI c row) (hp:E2 c row=true) (hf:(Cv c m row).2=0):E2 (Ay c m).1 (Cv c m row).1=true:=by
 have hR:=O8 ht hm hg h hf
 obtain ⟨e1,hrc,hrt⟩:=Kh ht
 obtain ⟨p1,p2,p3⟩:=row_iff.1 hp
 refine row_iff.2 ⟨P7 hrt,hR.len,fun i v y hv hy=>?_⟩
 refine ⟨(hR.fine v (List.mem_of_getElem? hv)).plain,?_⟩
 have hk:(Ag c row m.ahead).2=0:=by
  unfold Cv at hf
  by_cases h1:((Ag c row m.ahead).2 != 0)=true
  ·rw [if_pos h1] at hf
   exact hf
  simpa using h1
 have ev:Cv c m row=(E7 m.take c row++(Ag c row m.ahead).1,0):=if_neg (by rw [hk];simp)
 rw [ev] at hv
 rw [e1] at hy
 have hlen:=Rt (take:=m.take) h.len
 rcases Nat.lt_or_ge i (E7 m.take c row).length with hi|hi
 ·rw [List.getElem?_append_left hi] at hv
  rw [List.getElem?_append_left (by omega)] at hy
  obtain ⟨j,j1,j2⟩:=Uf h.len i v y hv hy
  exact (p3 j v y j1 j2).2
 rw [List.getElem?_append_right hi] at hv
 rw [List.getElem?_append_right (by omega),←hlen] at hy
 generalize i-(E7 m.take c row).length=j at hv hy
 have hj:j<m.ahead.length:=by
  have:=(List.getElem?_eq_some_iff.1 hv).1
  rw [Jh hk] at this
  exact this
 obtain ⟨a1,a2⟩:=M3 hk j m.ahead[j] (List.getElem?_eq_getElem hj)
 rw [a2] at hv
 injection hv with hv
 rw [←hv]
 exact ep (Of (S7 ht).1 j _ y (List.getElem?_eq_getElem hj) hy) hp a1
theorem vf {v:Str} {l:List Str} {j:Nat} (h:I7 v l=(j:Int)):l[j]? = some v:=by
 unfold I7 at h
 cases hf:l.findIdx? (·==v) with
 | none=>rw [hf] at h;exact absurd (show (-1:Int)=(j:Int) from h) (by omega)
 | some i =>
  rw [hf] at h
  have h:(i:Int)=(j:Int):=h
  have e:i=j:=by omega
  obtain ⟨a,b,_⟩:=List.findIdx?_eq_some_iff_getElem.1 hf
  rw [←e,List.getElem?_eq_getElem a]
  have:l[i]=v:=by simpa using b
  rw [this]
theorem er {c:List Col} (h:Cb c=true):(c.map (·.name)).Nodup:=(Xd (by rw [Ij];exact h)).2.2
/-- What comes back is a row over the columns ahead. -/
theorem l5 {c:List Col} {m:Mov} {row:List Val} (ht:(Ay c m).2=0) (hm:Fo m=true) (hg:∀e∈m.back,Bn Do e=true) (h:RowI (Ay c m).1 row) (hp:E2 (Ay c m).1 row=true) (hf:(Bd c (Ay c m).1 m row).2=0):E2 c (Bd c (Ay c m).1 m row).1=true:=by
 have hR:=Y4 (a:=c) hg h hf
 obtain ⟨e1,hrc,hrt⟩:=Kh ht
 obtain ⟨p1,p2,p3⟩:=row_iff.1 hp
 refine row_iff.2 ⟨P7 hrc,hR.len,fun i v y hv hy=>?_⟩
 refine ⟨(hR.fine v (List.mem_of_getElem? hv)).plain,?_⟩
 have hk:(Ag (Ay c m).1 row m.back).2=0:=by
  unfold Bd at hf
  by_cases h1:((Ag (Ay c m).1 row m.back).2 != 0)=true
  ·rw [if_pos h1] at hf
   exact hf
  simpa using h1
 have ev:Bd c (Ay c m).1 m row=(c.map (M1 m.take (Ag (Ay c m).1 row m.back).1 row (Ay c m).1),0):=if_neg (by rw [hk];simp)
 rw [ev] at hv
 simp only [List.getElem?_map,hy,Option.map_some,Option.some.injEq] at hv
 rw [←hv]
 unfold M1
 have hfy:=R5 (er hrc) hy
 by_cases h0:0≤I7 y.name m.take
 ·rw [if_pos h0]
  obtain ⟨j,hj,hjl⟩:=en h0
  have hb:=(F5 (Kx hm)).2
  have hjb:j<m.back.length:=by omega
  obtain ⟨a1,a2⟩:=M3 hk j m.back[j] (List.getElem?_eq_getElem hjb)
  have hty:(F4 c m)[j]? = some y:=by
   unfold F4
   rw [List.getElem?_map,vf hj]
   simp only [Option.map_some,Option.some.injEq]
   rw [hfy,Int.toNat_natCast,List.getD_eq_getElem?_getD,hy]
   rfl
  have:=ep (Of (S7 ht).2 j _ y (List.getElem?_eq_getElem hjb) hty) hp a1
  rw [hj,Int.toNat_natCast,List.getD_eq_getElem?_getD,a2]
  exact this
 rw [if_neg h0]
 have hmem:y∈(Ay c m).1:=by
  rw [e1]
  refine List.mem_append_left _ ?_
  unfold Cf
  rw [List.mem_filter]
  refine ⟨List.mem_of_getElem? hy,?_⟩
  rw [←Ve,decide_eq_false h0]
  rfl
 obtain ⟨j,hj⟩:=List.getElem?_of_mem hmem
 rw [R5 (er hrt) hj,Int.toNat_natCast,List.getD_eq_getElem?_getD]
 have hjr:j<row.length:=by rw [h.len];exact (List.getElem?_eq_some_iff.1 hj).1
 rw [List.getElem?_eq_getElem hjr]
 exact (p3 j row[j] y (List.getElem?_eq_getElem hjr) hj).2
/-! Columns of parts of moves. -/
theorem He {c:List Col} {l:List Mov} {k:Nat}:∀j,j≤k→colsAt c (l.take k) j=colsAt c l j
 | 0,_=>rfl
 | j+1,h=>by
  rw [colsAt,colsAt,He j (by omega),List.getElem?_take_of_lt (by omega)]
theorem Hf {c:List Col} {l:List Mov} {k:Nat}:∀j,colsAt (colsAt c l k) (l.drop k) j=colsAt c l (k+j)
 | 0=>rfl
 | j+1=>by
  rw [colsAt,Hf j,List.getElem?_drop,←Nat.add_assoc,colsAt]
theorem Yl {c:List Col} {l:List Mov} (hm:Im c l=true) (h:∀(j:Nat) (m:Mov),l[j]? = some m→(Ay (colsAt c l j) m).2=0):((Bo c l).2 != 0)=false:=by
 have key:∀k,k≤l.length→NS c l k:=by
  intro k
  induction k with
  | zero=>exact fun _=>yf
  | succ k ih =>
   intro hk
   have hg:=List.getElem?_eq_getElem (l:=l) (i:=k) (by omega)
   exact Vg hg (ih (by omega)) (h k _ hg)
 rw [O0 hm (ba (key l.length (Nat.le_refl _)))]
 rfl
theorem et {c d:List Col} {l l':List Mov} (h:Im c l=true) (hd:Cb d=true) (hl:l'.length≤l.length) (hs:∀m∈l',m∈l):Im d l'=true:=by
 unfold Im b6 at h ⊢
 simp only [Bool.and_eq_true,decide_eq_true_eq,List.all_eq_true] at h ⊢
 exact ⟨hd,by omega,fun m hm=>h.2.2 m (hs m hm)⟩
theorem S8 {c:List Col} {l:List Mov} {k:Nat} (h:((Bo c l).2 != 0)=false):((Bo c (l.take k)).2 != 0)=false:=by
 obtain ⟨hmay,hst,_⟩:=E3 h
 have hc:Cb c=true:=by unfold Im at hmay;simp only [Bool.and_eq_true] at hmay;exact hmay.1
 refine Yl (et hmay hc (List.length_take_le' _ _) (fun m hm=>List.mem_of_mem_take hm)) fun j m hj=>?_
 have hjk:j<k:=by have:=(List.getElem?_eq_some_iff.1 hj).1;rw [List.length_take] at this;omega
 rw [He j (by omega)]
 rw [List.getElem?_take_of_lt hjk] at hj
 exact I2 hst hj
theorem S9 {c:List Col} {l:List Mov} {k:Nat} (h:((Bo c l).2 != 0)=false):((Bo (colsAt c l k) (l.drop k)).2 != 0)=false:=by
 obtain ⟨hmay,hst,_⟩:=E3 h
 have hc:Cb c=true:=by unfold Im at hmay;simp only [Bool.and_eq_true] at hmay;exact hmay.1
 refine Yl (et hmay (H4 hc hst k) (by rw [List.length_drop];omega) (fun m hm=>List.mem_of_mem_drop hm)) fun j m hj=>?_
 rw [Hf]
 rw [List.getElem?_drop] at hj
 exact I2 hst hj
theorem eu {c:List Col} {l:List Mov} {row:List Val} {k:Nat}:∀j,j≤k→fwM c (l.take k) row j=fwM c l row j
 | 0,_=>rfl
 | j+1,h=>by
  rw [fwM,fwM,eu j (by omega),List.getElem?_take_of_lt (by omega),He j (by omega)]
theorem ew {c:List Col} {l:List Mov} {row:List Val} {k:Nat} (h0:(fwM c l row k).2=0):∀j,fwM (colsAt c l k) (l.drop k) (fwM c l row k).1 j=fwM c l row (k+j)
 | 0=>by
  rw [fwM]
  exact Prod.ext rfl h0.symm
 | j+1=>by
  rw [fwM,ew h0 j,List.getElem?_drop,Hf,←Nat.add_assoc,fwM]
theorem ey {c:List Col} {l:List Mov} {x:List Val} {k:Nat} (hk:k≤l.length):∀j,j≤l.length-k→bkM (colsAt c l k) (l.drop k) x j=bkM c l x j
 | 0,_=>rfl
 | j+1,h=>by
  rw [bkM,bkM,ey hk j (by omega),List.length_drop,List.getElem?_drop,Hf,Hf,show k+(l.length-k-1-j)=l.length-1-j by omega,show k+(l.length-k-1-j+1)=l.length-1-j+1 by omega]
theorem f5 {c:List Col} {l:List Mov} {x:List Val} {k:Nat} (hk:k≤l.length) (h0:(bkM c l x (l.length-k)).2=0):∀j,j≤k→bkM c (l.take k) (bkM c l x (l.length-k)).1 j=bkM c l x (l.length-k+j)
 | 0,_=>by
  rw [bkM]
  exact Prod.ext rfl h0.symm
 | j+1,h=>by
  have hl:(l.take k).length=k:=by rw [List.length_take];omega
  rw [bkM,f5 hk h0 j (by omega),hl,List.getElem?_take_of_lt (by omega),He _ (by omega),He _ (by omega),←Nat.add_assoc,bkM,show l.length-1-(l.length-k+j)=k-1-j by omega]
/-- Rows on the way forth are rows. -/
theorem Vq {c:List Col} {l:List Mov} {row:List Val} (h:OkMovs l) (hs:((Bo c l).2 != 0)=false) (h0:RowI c row) (hp:E2 c row=true):∀k,k≤l.length→(fwM c l row k).2=0→E2 (colsAt c l k) (fwM c l row k).1=true
 | 0,_,_=>hp
 | k+1,hk,he=>by
  obtain ⟨hmay,hst,_⟩:=E3 hs
  have h1:(fwM c l row k).2=0:=Classical.byContradiction fun hn=>by
   rw [Ru hn (k+1) (by omega)] at he
   exact hn he
  obtain ⟨m,hm⟩:∃m,l[k]? = some m:=⟨l[k],List.getElem?_eq_getElem (by omega)⟩
  have hml:=List.mem_of_getElem? hm
  have e:=Pr hm h1
  rw [e,Ea hm]
  exact bv (I2 hst hm) (Ix hmay m hml) (fun e he=>(h.each m hml).ahead.rng e he) (S5 h hs h0 k (by omega) h1) (Vq h hs h0 hp k (by omega) h1) (by rw [←e];exact he)
/-- And on the way back. -/
theorem f6 {c:List Col} {l:List Mov} {x:List Val} (h:OkMovs l) (hs:((Bo c l).2 != 0)=false) (h0:RowI (colsAt c l l.length) x) (hp:E2 (colsAt c l l.length) x=true):∀k,k≤l.length→(bkM c l x k).2=0→E2 (colsAt c l (l.length-k)) (bkM c l x k).1=true
 | 0,_,_=>hp
 | k+1,hk,he=>by
  obtain ⟨hmay,hst,_⟩:=E3 hs
  have h1:(bkM c l x k).2=0:=Classical.byContradiction fun hn=>by
   rw [Rv hn (k+1) (by omega)] at he
   exact hn he
  obtain ⟨m,hm⟩:∃m,l[l.length-1-k]? = some m:=⟨l[l.length-1-k],List.getElem?_eq_getElem (by omega)⟩
  have hml:=List.mem_of_getElem? hm
  have e:=Mw hm h1
  have hR:=(Vp h h0 k (by omega) h1).row
  have ih:=f6 h hs h0 hp k (by omega) h1
  rw [show l.length-k=l.length-1-k+1 by omega,Ea hm] at hR ih
  rw [e] at he ⊢
  rw [Ea hm] at he ⊢
  rw [show l.length-(k+1)=l.length-1-k by omega]
  exact l5 (I2 hst hm) (Ix hmay m hml) (fun e he=>(h.each m hml).back.rng e he) hR ih he
theorem N3 {c:List Col} {l:List Mov} {row:List Val} (hs:((Bo c l).2 != 0)=false) (hp:E2 c row=true):B7 c l row=fwM c l row l.length:=if_neg (by rw [hs,hp];simp)
theorem Vr {c:List Col} {l:List Mov} {row:List Val} (hs:((Bo c l).2 != 0)=false) (hp:E2 (colsAt c l l.length) row=true):Cd c l row=bkM c l row l.length:=if_neg (by rw [hs,hp];simp)
theorem rf {l l':List Mov} (h:OkMovs l) (hl:l'.length≤l.length) (hs:∀m∈l',m∈l):OkMovs l':=⟨Nat.le_trans hl h.len,fun m hm=>h.each m (hs m hm)⟩
/-- The law of ImageJoins: the way forth. -/
theorem Ym {c:List Col} {l:List Mov} {row:List Val} {k:Nat} (h:OkMovs l) (hs:((Bo c l).2 != 0)=false) (h0:RowI c row) (hp:E2 c row=true) (hk:k≤l.length):
  ((B7 c (l.take k) row).2≠0→(B7 c l row).2=(B7 c (l.take k) row).2)∧((B7 c (l.take k) row).2=0→B7 (colsAt c l k) (l.drop k) (B7 c (l.take k) row).1=B7 c l row∧RowI (colsAt c l k) (B7 c (l.take k) row).1):=by
 have e1:B7 c (l.take k) row=fwM c l row k:=by
  rw [N3 (S8 hs) hp,List.length_take,Nat.min_eq_left hk]
  exact eu k (Nat.le_refl _)
 have e2:=N3 hs hp
 rw [e1,e2]
 refine ⟨fun hb=>?_,fun ho=>?_⟩
 ·by_cases hkl:k=l.length
  ·rw [hkl]
  rw [Ru hb l.length (by omega)]
 rw [N3 (S9 hs) (Vq h hs h0 hp k hk ho),List.length_drop,ew ho,show k+(l.length-k)=l.length by omega]
 exact ⟨rfl,S5 h hs h0 k hk ho⟩
/-- The way back. -/
theorem bw {c:List Col} {l:List Mov} {x:List Val} {k:Nat} (h:OkMovs l) (hs:((Bo c l).2 != 0)=false) (h0:RowI (colsAt c l l.length) x) (hp:E2 (colsAt c l l.length) x=true) (hk:k≤l.length):
  ((Cd (colsAt c l k) (l.drop k) x).2≠0→(Cd c l x).2=(Cd (colsAt c l k) (l.drop k) x).2)∧((Cd (colsAt c l k) (l.drop k) x).2=0→Cd c (l.take k) (Cd (colsAt c l k) (l.drop k) x).1=Cd c l x∧RowI (colsAt c l k) (Cd (colsAt c l k) (l.drop k) x).1):=by
 have e1:Cd (colsAt c l k) (l.drop k) x=bkM c l x (l.length-k):=by
  rw [Vr (S9 hs) (by rw [Hf,List.length_drop,show k+(l.length-k)=l.length by omega];exact hp),List.length_drop]
  exact ey hk _ (Nat.le_refl _)
 have e2:=Vr hs hp
 rw [e1,e2]
 refine ⟨fun hb=>?_,fun ho=>?_⟩
 ·by_cases hkl:k=0
  ·rw [hkl,Nat.sub_zero]
  rw [Rv hb l.length (by omega)]
 have hr:=f6 h hs h0 hp (l.length-k) (by omega) ho
 have hi:=(Vp h h0 (l.length-k) (by omega) ho).row
 rw [show l.length-(l.length-k)=k by omega] at hr hi
 have hl:(l.take k).length=k:=by rw [List.length_take];omega
 rw [Vr (S8 hs) (by rw [hl,He k (Nat.le_refl _)];exact hr),hl,f5 hk ho k (Nat.le_refl _),show l.length-k+k=l.length by omega]
 exact ⟨rfl,hi⟩
theorem Yn {c:List Col} {l:List Mov} {row:List Val} (h:OkMovs l) (hs:((Bo c l).2 != 0)=false) (h0:RowI c row) (hp:E2 c row=true) (hf:(B7 c l row).2=0):RowI (colsAt c l l.length) (B7 c l row).1∧E2 (colsAt c l l.length) (B7 c l row).1=true:=by
 rw [N3 hs hp] at hf ⊢
 exact ⟨S5 h hs h0 _ (Nat.le_refl _) hf,Vq h hs h0 hp _ (Nat.le_refl _) hf⟩
theorem yx {c:List Col} {l:List Mov} {row:List Val}:∀k,(fwM c l row k).2≠0→(fwM c l row k).1=[]
 | 0,h=>absurd rfl h
 | k+1,h=>by
  rw [fwM] at h ⊢
  split
  ·rfl
  rename_i h1
  rw [if_neg h1] at h
  split at h
  ·exact wx
  exact Rw h
theorem bx {c:List Col} (hc:OkCols c) {l:List Mov} {row:List Val} (h:OkMovs l) (hrr:∀v∈row, -9223372036854775808≤v.n∧v.n≤9223372036854775807):(B7 c l row).1.length≤1048576:=by
 by_cases hb:(B7 c l row).2=0
 ·rw [(S6 h hrr hb).len]
  exact (Cu hc (fun m hm=>h.each m hm) l.length).len
 unfold B7 at hb ⊢
 split
 ·exact V2
 rename_i h1
 rw [if_neg h1] at hb
 rw [yx _ hb]
 exact V2
theorem N4 {c:List Col} (h:Cb c=true):OkCols c∧c.length≤1000000:=by
 obtain ⟨h12,hok,_⟩:=Xd (by rw [Ij];exact h)
 exact ⟨⟨by omega,fun y hy=>by have:=Oe (s:=y.name) (by rw [←El];exact (hok y hy).name);omega⟩,by omega⟩
theorem c4 (c:List Col) (l:List Mov) (hrl:∀m∈l,RngMv m) (row:List Val) (hrr:∀v∈row, -9223372036854775808≤v.n∧v.n≤9223372036854775807) (at_:Int) (Hp:List AObj):AFun Tryz.prog 4 [Ac c,D8 l,B1 row,A2 at_] Hp (At true):=by
 refine ACall.body [.tmp 8] [0,1,2,3] Tryz.func4 Tryz.ntmps4 (fun d=>?_)
 refine Z2 ?_;refine R.fin [0,1,2,3] ?_;refine Z66 ?_;refine R.call Tryz.call10 (c10 _) ?_;refine R.go ?_;refine R.fin [0,1,2,3,25] ?_
 refine W.cond (fun ht25=>?_) (fun ht25=>?_)
 ·cases ht25
 refine Wq ?_;refine R.call Tryz.call11 (c11 c l row _) ?_;refine R.go ?_;refine V0 ?_;refine R.fin [0,1,2,3,34] ?_
 refine W.cond (fun ht34=>?_) (fun ht34=>?_)
 ·refine Z2 ?_;exact wq
 have hw:((Eu c=false∧F6 l=false)∧Lg row=false)∧l.length≤8:=by
  simp only [List.length_map,Bool.or_eq_false_iff,decide_eq_false_iff_not] at ht34
  exact ⟨ht34.1,by omega⟩
 obtain ⟨⟨⟨hw1,hw2⟩,hw3⟩,hw8⟩:=hw
 have hc:=cv hw1
 have hc2:c.length≤1000000:=qz hw1
 have h:OkMovs l:=kz hw2 hrl
 have hw4:row.length≤1048576:=by
  unfold Lg at hw3
  simp only [Bool.or_eq_false_iff,decide_eq_false_iff_not] at hw3
  omega
 refine Z6 ?_;refine Z19 ?_
 refine R.go (h:=Q.add64 (h2:=fun _=>by rw [List.length_map];omega)) (hr:=?_)
 refine R.go ?_
 refine R.go (h:=Q.rem (h0:=fun _=>by rw [List.length_map,wrap_u64 (by omega) (by omega)];omega)) (hr:=?_)
 refine R.go ?_
 obtain ⟨k,hkl,hke⟩:=AB0 at_ (l.length+1) (by omega) (by omega)
 have hk:k≤l.length:=by omega
 have hlt:OkMovs (l.take k):=rf h (List.length_take_le' _ _) (fun m hm=>List.mem_of_mem_take hm)
 have hld:OkMovs (l.drop k):=rf h (by rw [List.length_drop];omega) (fun m hm=>List.mem_of_mem_drop hm)
 have hke2:IntKind.i64.wrap ((IntKind.u64.wrap at_).tmod (IntKind.u64.wrap ((l.length:Int)+1)))=(k:Int):=by simpa using hke
 rw [List.length_map,hke2]
 refine R.go ?_;refine R.fin [0,1,2,9] ?_;refine wm ?_;refine Z65 ?_;refine R.fin [0,1,2,9,10,11] ?_;refine Z30 ?_;refine Z9 ?_;refine G.call Tryz.call13 (fun hB=>c13 c hc row hw4 _) ?_;refine Z93 ?_;refine R.fin [0,1,2,9,10,56] ?_
 refine W.cond (fun ht56=>?_) (fun ht56=>?_)
 ·refine Z2 ?_;exact wq
 have h56:((Bo c l).2 != 0)=false∧E2 c row=true:=by simpa using ht56
 obtain ⟨hmay,hst,hss⟩:=E3 h56.1
 have hrc:Cb c=true:=by unfold Im at hmay;simp only [Bool.and_eq_true] at hmay;exact hmay.1
 have hR0:=Kj h56.2 hrr
 obtain ⟨j1,j2⟩:=Ym h h56.1 hR0 h56.2 hk
 rw [hss]
 refine Mb ?_;refine R.call Tryz.call14 (c14 c hc hc2 l h row hrr hw4 _) ?_;refine Z65 ?_;refine R.fin [0,1,2,9,10,12,13] ?_;refine Z13 ?_
 refine R.go (h:=Q.cutH k (fun _=>Nat.zero_le _) (fun _=>show k≤(l.map E6).length by rw [List.length_map];exact hk)) (hr:=?_)
 refine R.go ?_
 rw [←List.map_take]
 refine R.call Tryz.call14 (c14 c hc hc2 (l.take k) hlt row hrr hw4 _) ?_;refine Z65 ?_;refine R.fin [0,1,9,10,12,13,14,15] ?_;refine Z31 ?_;refine R.fin [0,1,9,10,12,13,14,15,74] ?_
 refine W.cond (fun ht74=>?_) (fun ht74=>?_)
 ·have j1:=j1 (by simpa using ht74)
  refine Z19 ?_;refine R.fin [8] ?_;refine Z84 ?_;exact K.fin (V.one V.tmp) ⟨by rw [j1];simp,rfl⟩
 obtain ⟨j2,hRA⟩:=j2 (by simpa using ht74)
 have hxl:(B7 c l row).1.length≤1048576:=bx hc h hrr
 refine Z6 ?_;refine zk ?_
 refine D.go (h:=Q.indexAddr (k) (Ac (colsAt c l k)) (fun _=>jh (Hs hk))) (hr:=?_)
 refine Z37 ?_
 refine D.go (h:=Q.cutL k (fun _=>show k≤(l.map E6).length by rw [List.length_map];exact hk) (fun _=>Nat.le_refl _)) (hr:=?_)
 rw [←List.map_drop]
 refine D.go ?_
 refine D.call Tryz.call14 (c14 (colsAt c l k) (Cu hc (fun m hm=>h.each m hm) k) (by have:=(Cu hc (fun m hm=>h.each m hm) k).len;have:=N4 (H4 hrc hst k);exact this.2) (l.drop k) hld (B7 c (l.take k) row).1 (Gr hRA.fine) (by rw [hRA.len];exact (Cu hc (fun m hm=>h.each m hm) k).len) _) ?_
 refine Z10 ?_;refine Z72 ?_;refine R.go ?_;refine R.fin [0,1,9,10,12,13,16,17] ?_;refine Z66 ?_
 rw [j2]
 refine Z0 ?_;refine Z62 ?_;refine G.call Tryz.call15 (fun hB=>c15 (B7 c l row).1 (B7 c l row).1 hxl _) ?_;refine Z93 ?_;refine R.fin [0,1,9,10,12,13,98] ?_
 refine W.cond (fun ht98=>?_) (fun ht98=>?_)
 ·simp at ht98
 refine Z6 ?_;refine Z31 ?_;refine R.fin [0,1,9,10,12,100] ?_
 refine W.cond (fun ht100=>?_) (fun ht100=>?_)
 ·refine Z2 ?_;exact wq
 obtain ⟨hRX,hpX⟩:=Yn h h56.1 hR0 h56.2 (by simpa using ht100)
 obtain ⟨b1,b2⟩:=bw h h56.1 hRX hpX hk
 refine Mb ?_;refine R.call Tryz.call16 (c16 c hc hc2 l h (B7 c l row).1 (Gr hRX.fine) hxl _) ?_;refine Z65 ?_;refine R.fin [0,1,9,10,12,18,19] ?_;refine zk ?_
 refine D.go (h:=Q.indexAddr (k) (Ac (colsAt c l k)) (fun _=>jh (Hs hk))) (hr:=?_)
 refine Z37 ?_
 refine D.go (h:=Q.cutL k (fun _=>show k≤(l.map E6).length by rw [List.length_map];exact hk) (fun _=>Nat.le_refl _)) (hr:=?_)
 rw [←List.map_drop]
 refine D.go ?_;refine D.call Tryz.call16 (c16 (colsAt c l k) (Cu hc (fun m hm=>h.each m hm) k) (N4 (H4 hrc hst k)).2 (l.drop k) hld (B7 c l row).1 (Gr hRX.fine) hxl _) ?_;refine Z10 ?_;refine Z72 ?_;refine R.go ?_;refine R.fin [0,1,9,18,19,20,21] ?_;refine Z31 ?_;refine R.fin [0,1,9,18,19,20,21,121] ?_
 refine W.cond (fun ht121=>?_) (fun ht121=>?_)
 ·have b1:=b1 (by simpa using ht121)
  refine Z19 ?_;refine R.fin [8] ?_;refine Z84 ?_;exact K.fin (V.one V.tmp) ⟨by rw [b1];simp,rfl⟩
 obtain ⟨b2,hRD⟩:=b2 (by simpa using ht121)
 refine Mb ?_
 refine R.go (h:=Q.cutH k (fun _=>Nat.zero_le _) (fun _=>show k≤(l.map E6).length by rw [List.length_map];exact hk)) (hr:=?_)
 refine R.go ?_
 rw [←List.map_take]
 refine R.call Tryz.call16 (c16 c hc hc2 (l.take k) hlt (Cd (colsAt c l k) (l.drop k) (B7 c l row).1).1 (Gr hRD.fine) (by rw [hRD.len];exact (Cu hc (fun m hm=>h.each m hm) k).len) _) ?_
 refine Z65 ?_;refine R.fin [18,19,22,23] ?_;refine Cz ?_
 rw [b2]
 refine Z0 ?_;refine Z62 ?_;refine G.call Tryz.call15 (fun hB=>c15 (Cd c l (B7 c l row).1).1 (Cd c l (B7 c l row).1).1 (l4 hc h (Gr hRX.fine)) _) ?_;refine Z0 ?_;refine R.fin [8] ?_;refine AW.ret ?_;exact K.fin (V.one V.tmp) ⟨by simp,rfl⟩

end Go.SX.Nb
