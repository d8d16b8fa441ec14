/- On the way (part 8). -/
import Derived.Test.YtcmnamfkljlglaaGreatDoorBothAgainCardSaidPart7
set_option linter.all false
namespace Go.SX.Nb
open Go Go.SX Go.Proofs
variable [ErrAt]
set_option maxRecDepth 4000
theorem dm {p q:Pai}:(((p.hasOld==q.hasOld&&p.hasNew==q.hasNew)&&decide (p.old=q.old))&&decide (p.new=q.new))=decide (p=q):=by
 obtain ⟨a,b,c,e⟩:=p
 obtain ⟨a',b',c',e'⟩:=q
 simp
 grind
theorem gx:Le (.agg [.nil,.nil,Ag false,Ag false]) (Mz Hx):=.agg _ _ rfl (by simp [Hx];exact ⟨rfl,rfl⟩) fun i y y' h h'=>by
 rcases i with _|_|_|_|i<;>simp at h h'<;>subst h<;>subst h'
 ·exact an
 ·exact an
 ·exact .inl rfl
 exact .inl rfl
theorem c22 (a b:List Val) (ha:a.length≤1048576) (Hp:List AObj):AFun Tryz.prog 22 [Aw a,Aw b] Hp (Ag (decide (a=b))):=by
 refine Ac [.tmp 4] [0,1] Tryz.func22 Tryz.ntmps22 (fun d=>?_)
 refine ae ?_;refine Z1 ?_;refine A0 [0,1,10] ?_
 refine A1 (fun ht10=>?_) (fun ht10=>?_)
 ·refine Z54 ?_;exact l4
 refine Pc ?_;refine A0 [0,1,5] ?_
 refine Bz (α:=Nat) (fun x=>⟨26,A6 0 (Aw a) (A6 1 (Aw b) (A6 5 (A3 (x:Nat)) (fun _=>.any))),Hp,[],[],none⟩) (fun x=>x≤a.length∧∀(j:Nat) (y:Val),j<x→a[j]? = some y→b[j]? = some y) (fun x=>a.length-x) (0) (by simp) (Li _) rfl (fun x hx=>?_)
 refine Z93 ?_;refine A0 [0,1,5,14] ?_
 refine A1 (fun ht14=>?_) (fun ht14=>?_)
 ·have hlt:x<a.length:=by simpa using ht14
  have hlb:x<b.length:=by have:=aw ht10;omega
  refine Z9 ?_;refine Z22 ?_;refine lw ?_
  refine Ak (h:=Ab (x) (Av a[x]) (fun _=>As hlt)) (hr:=?_)
  refine Z52 ?_
  refine Ak (h:=Ab (x) (Av b[x]) (fun _=>As hlb)) (hr:=?_)
  refine Ak ?_;refine F6 ?_
  refine A2 (h:=Q.neqAgg Sj (Gf a[x].kind a[x].n b[x].kind b[x].n a[x].s b[x].s)) (hr:=?_)
  refine A0 [0,1,5,25] ?_
  refine A1 (fun ht25=>?_) (fun ht25=>?_)
  ·rw [N7] at ht25
   refine Z54 ?_;refine Z53 ?_;exact A5 (Aa A4) ⟨by rw [mj hlt hlb (by simpa using ht25)],rfl⟩
  rw [N7] at ht25
  refine Z50 ?_;refine ek ?_
  exact B0 (x+1) ⟨hlt,Fw (p:=fun j y=>b[j]? = some y) hlt hx.2 (by rw [A9 hlb];simpa using (Eq.symm (by simpa using ht25):b[x]=a[x]))⟩ (by omega) (Dn rfl)
 refine Pb ?_;refine Z54 ?_;exact A5 (Aa A4) ⟨by rw [im (by simpa using ht10) (Gz (by simp at ht14;omega) hx.2)],rfl⟩

theorem c11 (p q:Pai) (h1:p.old.length≤1048576) (h2:p.new.length≤1048576) (Hp:List AObj):AFun Tryz.prog 11 [Mz p,Mz q] Hp (Ag (decide (p=q))):=by
 refine Ac [.tmp 4] [0,1] Tryz.func11 Tryz.ntmps11 (fun d=>?_)
 refine Xn ?_;refine R.box ?_;refine A2 ?_;refine A0 [2,3] ?_;refine Z8 ?_;refine Z37 ?_;refine Z42 ?_;refine Z45 ?_;refine Z42 ?_;refine Br Tryz.call22 (fun hB=>c22 p.old q.old h1 _) ?_;refine Sg ?_;refine Br Tryz.call22 (fun hB=>c22 p.new q.new h2 _) ?_;refine Z1 ?_;refine Z17 ?_;exact A5 (Aa A4) ⟨by first|rw [←dm]|skip,rfl⟩

theorem c23 (o:Nat) (Hp:List AObj) (ho:o<Hp.length):AFun Tryz.prog 23 [.ptr o 0] Hp (.slice false 3 [.agg [.v (.int .u8 1),.ptr o 2,.ptr o 0],.agg [.v (.int .u8 2),.ptr o 3,.ptr o 1]]):=by
 refine Ac [.tmp 2] [0] Tryz.func23 Tryz.ntmps23 (fun d=>?_)
 refine Z49 ?_;refine Cm [0,1,3,0,8,24,63,0,128,384,0,1024,3072,8064,16383,32767] 14 Aq (by kernel_rfl) ?_;refine Sh ?_;refine lx ?_;refine Sh ?_;refine lx ?_;refine F6 ?_;refine Ns jU jS jZ ?_;refine A2 ?_;refine Z4 ?_;exact A5 (Aa A4) (hlow:=by simp [ho])

theorem c10 (c:List Col) (hc:OkCols c) (hc2:c.length≤1000000) (l:List Mov) (h:OkMovs l) (row:List Val) (hrr:∀v∈row, -9223372036854775808≤v.n∧v.n≤9223372036854775807) (hrl:row.length≤1048576) (Hp:List AObj):AFun Tryz.prog 10 [Ad c,Cx l,Aw row] Hp (.tup [Mz (Bv c l row).1,A3 (Bv c l row).2]):=by
 refine Ac [.cell 6 30,.tmp 7] [0,1,2] Tryz.func10 Tryz.ntmps10 (fun d=>?_)
 refine Us ?_;refine A0 [0,1,2,6] ?_;refine Z8 ?_;refine A7 Tryz.call21 (c21 c hc hc2 l h row hrr hrl _) ?_;refine Z74 ?_;refine A0 [2,6,8,9] ?_;refine Z28 ?_;refine A0 [2,6,8,9,18] ?_
 refine A1 (fun ht18=>?_) (fun ht18=>?_)
 ·refine kx ?_;refine A2 ?_;refine Z81 ?_;refine Bn ?_;exact A5 (Az (Eb jA jS) A4) ⟨by unfold Bv;rw [if_pos ht18],rfl⟩
 refine j8 ?_;refine A2 ?_;refine ln ?_;exact A5 (Az (Eb jA jS) A4) ⟨by unfold Bv;rw [if_neg (by rw [ht18];simp)],rfl⟩

theorem c9 (c:List Col) (hc:OkCols c) (hc2:c.length≤1000000) (l:List Mov) (h:OkMovs l) (row:List Val) (hrr:∀v∈row, -9223372036854775808≤v.n∧v.n≤9223372036854775807) (hrl:row.length≤1048576) (Hp:List AObj):AFun Tryz.prog 9 [Ad c,Cx l,Aw row] Hp (.tup [Mz (Bw c l row).1,A3 (Bw c l row).2]):=by
 refine Ac [.cell 6 30,.tmp 7] [0,1,2] Tryz.func9 Tryz.ntmps9 (fun d=>?_)
 refine Us ?_;refine A0 [0,1,2,6] ?_;refine Z8 ?_;refine A7 Tryz.call19 (c19 c hc hc2 l h row hrr hrl _) ?_;refine Z74 ?_;refine A0 [2,6,8,9] ?_;refine Z28 ?_;refine A0 [2,6,8,9,18] ?_
 refine A1 (fun ht18=>?_) (fun ht18=>?_)
 ·refine kx ?_;refine A2 ?_;refine Z81 ?_;refine Bn ?_;exact A5 (Az (Eb jA jS) A4) ⟨by unfold Bw;rw [if_pos ht18],rfl⟩
 refine Pd ?_;refine A7 Tryz.call20 (c20 row hrl _) ?_;refine ln ?_;exact A5 (Az (Eb jA jS) A4) ⟨by unfold Bw;rw [if_neg (by rw [ht18];simp)],rfl⟩

abbrev dn (o x:Nat):AV:=.agg [.v (.int .u8 ((x+1:Nat):Int)),.ptr o (x+2),.ptr o x]
abbrev Vt (o:Nat):List AV:=[.agg [.v (.int .u8 1),.ptr o 2,.ptr o 0],.agg [.v (.int .u8 2),.ptr o 3,.ptr o 1]]
theorem Ql {o x:Nat} (h:x<2):(Vt o)[x]? = some (dn o x):=by
 obtain rfl|rfl:x=0∨x=1:=by omega
 all_goals rfl
/-- A row, or what is dropped of it. -/
def dA (b:Bool) (l:List Val):AV:=if b then .nil else Aw l
theorem kj (b:Bool) (l:List Val):(dA b l).one=true:=by cases b<;>rfl
theorem dp (b:Bool) (l:List Val):(dA b l).strip=dA b l:=by cases b<;>rfl
attribute [go_sem] kj dp
@[simp] theorem qn {n:Nat} {b:Bool} {l:List Val}:Low n (dA b l):=by
 cases b
 ·exact C7
 exact .nil
/-- What Drop has turned after x rounds. -/
abbrev I3 (p:Pai) (old:Bool) (x:Nat):List AV:=[dA (old&&decide (1≤x)) p.old,dA (!old&&decide (2≤x)) p.new,Ag (p.hasOld && !(old&&decide (1≤x))),Ag (p.hasNew && !(!old&&decide (2≤x)))]
def Qm (p:Pai) (old:Bool) (x:Nat):List AV:=B4 (I3 p old x) (x+2) [Ag false]
theorem Yt {p:Pai} {old:Bool} {x:Nat} (h:x<2):(Qm p old x).length=4:=by
 obtain rfl|rfl:x=0∨x=1:=by omega
 all_goals rfl
theorem gy (p:Pai) {old:Bool} {x:Nat} (h:x<2) (h17:(old==(((x+1:Nat):Int)==1))=true):B4 (Qm p old x) x [.nil]=I3 p old (x+1):=by
 obtain rfl|rfl:x=0∨x=1:=by omega
 all_goals cases old<;>simp at h17<;>simp [Qm,B4,dA]
theorem dq (p:Pai) {old:Bool} {x:Nat} (h:x<2) (h17:(old==(((x+1:Nat):Int)==1))=false):I3 p old (x+1)=I3 p old x:=by
 obtain rfl|rfl:x=0∨x=1:=by omega
 all_goals cases old<;>simp at h17<;>simp [dA]
theorem qo (p:Pai) (old:Bool) (Hp:List AObj):AFun Tryz.prog 12 [Mz p,Ag old] Hp (.agg (I3 p old 2)):=by
 refine ACall.body [.cell 4 30] [0,1] Tryz.func12 Tryz.ntmps12 (fun d=>?_)
 refine Xn ?_;refine R.alloc jZ ?_;refine R.fin [1,2,4] ?_;refine Z59 ?_;refine R.call Tryz.call23 (c23 (oid Hp.length 0) _ (by simp [oid])) ?_;refine Z1 ?_;refine R.fin [1,2,4,7,8,9] ?_
 refine AW.loopC (α:=Nat) (fun x=>⟨26,A6 1 (Ag old) (A6 2 (.ptr (oid Hp.length 0) 0) (A6 4 (.ptr (oid Hp.length 1) 0) (A6 7 ((.slice false 3 (Vt (oid Hp.length 0)))) (A6 8 (A3 2) (A6 9 (A3 (x:Nat)) (fun _=>.any)))))),Hp,[.cells 30 (I3 p old x),.cells 30 [.nil,.nil,Ag false,Ag false]],[],none⟩) (fun x=>x≤2) (fun x=>2-x) (0) (by omega) (StLe.of_eq (by simp [dA])) rfl (fun x hx=>?_)
 refine Z0 ?_;refine R.fin [1,2,4,7,8,9,10] ?_
 refine W.condX (fun ht10=>?_) (fun ht10=>?_)
 ·have hlt:x<2:=by have:=of_decide_eq_true ht10;omega
  refine Z65 ?_
  refine R.go (h:=Q.indexAddr (x) (dn (oid Hp.length 0) x) (fun _=>Ql hlt)) (hr:=?_)
  refine Z57 ?_;refine R.fin [1,2,4,6,7,8,9] ?_;refine Z8 ?_;refine Z1 ?_;refine R.fin [1,2,4,6,7,8,9,17] ?_
  refine W.cond (fun ht17=>?_) (fun ht17=>?_)
  ·refine W.drawY0 [0,1,0,4,3,19,63,127] [5] [.q 5 [] [],.s [] (some 0) [] []] (fun _=>Hp) (fun B=>[.cells 30 (if B 0=true then Qm p old x else I3 p old x),.cells 30 [.nil,.nil,Ag false,Ag false],.cells 62 [.v (.int .u8 ((x+1:Nat):Int)),.ptr (oid Hp.length 0) (x+2),.ptr (oid Hp.length 0) x]]) Aq (by kernel_rfl) rfl rfl (fun _=>rfl) ?_
   apply Y.q
   ·intro B hT hF
    refine Z16 ?_;exact ee
   case hTF=>decide
   refine Y.storeOwn (u:=Hp.length) (n:=0) (t':=30) (cs:=I3 p old x) (cs':=Qm p old x) Tryz.sizeOf4 (fun B hB=>⟨rfl,by simp only [hB];rfl,by simp [upd],rfl⟩) ?_ (hfit:=by simp;omega) (hput:=rfl)
   refine Y.tail (tn:=[5]) (O:=[.cells 30 (Qm p old x),.cells 30 [.nil,.nil,Ag false,Ag false],.cells 62 [.v (.int .u8 ((x+1:Nat):Int)),.ptr (oid Hp.length 0) (x+2),.ptr (oid Hp.length 0) x]]) ?_;refine R.go ?_
   refine R.storeOwn (n:=0) (t':=30) (cs':=I3 p old (x+1)) jS ?_ (hfit:=by rw [Yt hlt];omega) (hput:=gy p hlt ht17)
   refine R.fin [1,2,4,7,8,9] ?_;refine Z78 ?_;refine R.fin [1,2,4,7,8,9] ?_
   exact K.lpN (x+1) (by omega) (by omega) (StCut.take (own:=[.cells 30 (I3 p old (x+1)),.cells 30 [.nil,.nil,Ag false,Ag false]]) (fun _=>.refl _) (by repeat (first|exact Ao|refine An (by first|(simp [or_imp,forall_and,oid];done)|(simp [or_imp,forall_and,oid];omega)) ?_)) (by simp [ObjLow,or_imp,forall_and]) (by simp))
  have hof:=dq p hlt ht17
  rw [←hof]
  refine Z50 ?_;refine R.fin [1,2,4,7,8,9] ?_
  exact K.lpN (x+1) (by omega) (by omega) (StCut.take (own:=[.cells 30 (I3 p old (x+1)),.cells 30 [.nil,.nil,Ag false,Ag false]]) (fun _=>.refl _) (by repeat (first|exact Ao|refine An (by first|(simp [or_imp,forall_and,oid];done)|(simp [or_imp,forall_and,oid];omega)) ?_)) (by simp [ObjLow,or_imp,forall_and]) (by simp))
 have hx2:x=2:=by have:=of_decide_eq_false ht10;omega
 subst hx2
 refine Z29 ?_;refine Z0 ?_;refine Gq ?_;refine Z17 ?_;exact K.fin (V.one (V.cellN jA jS)) (hlow:=by simp [or_imp,forall_and])

theorem gz (p:Pai) (old:Bool):Le (.agg (I3 p old 2)) (Mz (H8 p old)):=by
 cases old
 ·refine .agg _ _ rfl (by simp [H8];exact ⟨rfl,rfl,rfl,rfl⟩) fun i y y' h h'=>?_
  rcases i with _|_|_|_|i<;>simp [dA,H8] at h h'<;>subst h<;>subst h'
  ·exact .inl rfl
  ·exact an
  ·exact .inl rfl
  exact .inl rfl
 refine .agg _ _ rfl (by simp [H8];exact ⟨rfl,rfl,rfl,rfl⟩) fun i y y' h h'=>?_
 rcases i with _|_|_|_|i<;>simp [dA,H8] at h h'<;>subst h<;>subst h'
 ·exact an
 ·exact .inl rfl
 ·exact .inl rfl
 exact .inl rfl
theorem c12 (p:Pai) (old:Bool) (Hp:List AObj):AFun Tryz.prog 12 [Mz p,Ag old] Hp (Mz (H8 p old)):=
 (qo p old Hp).le fun r H' ⟨h1,h2⟩=>⟨_,h1 ▸ gz p old,rfl,h2⟩
abbrev bA (n:Nat):AV:=.v (.int .u8 (n:Int))
abbrev bsA (l:List Nat):List AV:=l.map bA
theorem c43 (bs:List Nat) (hb:bs.length≤1048576) (n:Nat) (hn:n<128) (Hp:List AObj):AFun Tryz.prog 43 [.slice true 1 (bsA bs),Uw (n:Nat)] Hp (.slice true 1 (bsA (bs++[n]))):=by
 refine Ac [.tmp 4] [0,1] Tryz.func43 Tryz.ntmps43 (fun d=>?_)
 refine Z41 ?_;refine Gp ?_
 refine Bz (α:=Nat) (fun x=>⟨20,A6 0 (.slice true 1 (bsA bs)) (A6 1 (Uw (n:Nat)) (fun _=>.any)),Hp,[],[],none⟩) (fun x=>x=0) (fun x=>x) (0) rfl (Li _) rfl (fun x hx=>?_)
 refine Z28 ?_;refine A0 [0,1,6] ?_
 refine A1 (fun ht6=>?_) (fun ht6=>?_)
 ·exfalso
  have:=of_decide_eq_true ht6
  omega
 refine Pb ?_;refine Z99 ?_;refine Z1 ?_;refine Pf ?_
 refine Dw jU Tryz.type5 ?_ ?_ ?_
 ·simp [Tryz.t5]<;>omega
 ·simp [Tryz.t5]<;>omega
 refine Gy ?_;refine Z17 ?_
 have hw:IntKind.u8.wrap (n:Int)=n:=by simp [IntKind.wrap,IntKind.bits,IntKind.signed];omega
 exact A5 V.ownTmp ⟨by rw [hw];simp [bsA];rfl,rfl⟩ (hlow:=by simp;rintro z (⟨a,_,rfl⟩|rfl)<;>exact .v _)

theorem c67 (bs:List Nat) (hb:bs.length≤1048576) (Hp:List AObj):AFun Tryz.prog 67 [.slice true 1 (bsA bs),A3 1] Hp (.slice true 1 (bsA (bs++[2]))):=by
 refine Ac [.tmp 4] [0,1] Tryz.func67 Tryz.ntmps67 (fun d=>?_)
 refine Z41 ?_;refine Z99 ?_;refine A2 ?_
 refine A2 (h:=Q.shl 1) (hr:=?_)
 refine Z1 ?_
 refine A2 (h:=Q.shr 63) (hr:=?_)
 refine A2 ?_
 refine (R.xor (hr:=?_))
 refine R.callT 0 5 Tryz.call43 (c43 bs hb 2 (by omega) _) ?_;refine Gy ?_;refine Z17 ?_;exact A5 V.ownTmp (hlow:=by simp;rintro z (⟨a,_,rfl⟩|rfl)<;>exact .v _)

theorem c44 (bs:List Nat) (hb:bs.length≤1048575) (Hp:List AObj):AFun Tryz.prog 44 [.slice true 1 (bsA bs),Av ⟨1,1,[]⟩] Hp (.slice true 1 (bsA ((bs++[1])++[2]))):=by
 refine Ac [.tmp 4] [0,1] Tryz.func44 Tryz.ntmps44 (fun d=>?_)
 refine Xn ?_;refine ag ?_;refine Z40 ?_;refine A7 Tryz.call51 (c51 ⟨1,1,[]⟩ _) ?_;refine A2 ?_;refine A0 [0,3,7] ?_
 refine A1 (fun ht7=>?_) (fun ht7=>?_)
 ·exact absurd ht7 (by decide)
 refine Z9 ?_;refine Z99 ?_;refine Z37 ?_;refine Pf ?_
 refine Dw jU Tryz.type5 ?_ ?_ ?_
 ·simp [Tryz.t5]<;>omega
 ·simp [Tryz.t5]<;>omega
 refine Gy ?_;refine Mw ?_;refine Z28 ?_;refine A0 [0,3,16] ?_;refine Z96 ?_;refine A0 [0,3,16,17] ?_
 refine A1 (fun ht17=>?_) (fun ht17=>?_)
 ·refine Z99 ?_;refine Z1 ?_
  refine R.callT 0 19 Tryz.call67 (c67 (bs++[1]) (by simp;omega) _) ?_ (ha:=by simp only [bsA,Cu];rfl)
  refine Gy ?_;refine Z17 ?_;refine Z5 ?_;exact A5 V.ownTmp (hlow:=by simp;rintro z (⟨a,_,rfl⟩|rfl|rfl)<;>exact .v _)
 exact absurd ht17 (by decide)

/-- What pack.Row has behind x rounds. -/
def np (bs:List Nat) (x:Nat):List Nat:=if x=0 then bs++[1] else ((bs++[1])++[1])++[2]
@[simp] theorem Kd {n:Nat} {o:Bool} {l:List Nat}:Low n (.slice o 1 (bsA l)):=by
 simp
abbrev v1:Val:=⟨1,1,[]⟩
theorem c29 (bs:List Nat) (hb:bs.length≤1048574) (Hp:List AObj):AFun Tryz.prog 29 [.slice true 1 (bsA bs),Aw [v1]] Hp (.slice true 1 (bsA (np bs 1))):=by
 refine Ac [.tmp 4] [0,1] Tryz.func29 Tryz.ntmps29 (fun d=>?_)
 refine Z41 ?_;refine Z99 ?_;refine Z37 ?_;refine R.callT 0 7 Tryz.call43 (c43 bs (by omega) 1 (by omega) _) ?_;refine Gy ?_;refine A0 [0,1] ?_;refine Z25 ?_;refine A0 [0,12,13,14] ?_
 refine Bz (α:=Nat) (fun x=>⟨23,A6 0 (.slice true 1 (bsA (np bs x))) (A6 12 (Aw [v1]) (A6 13 (A3 1) (A6 14 (A3 (x:Nat)) (fun _=>.any)))),Hp,[],[],none⟩) (fun x=>x≤1) (fun x=>1-x) (0) (by omega) (Bf rfl) rfl (fun x hx=>?_)
 refine Z0 ?_;refine A0 [0,12,13,14,15] ?_
 refine C5 (fun ht15=>?_) (fun ht15=>?_)
 ·have hlt:x=0:=by have:=of_decide_eq_true ht15;omega
  subst hlt
  refine Z65 ?_
  refine A2 (h:=Ab (0) (Av v1) (fun _=>rfl)) (hr:=?_)
  refine Z57 ?_;refine A0 [0,6,12,13,14] ?_;refine Z90 ?_;refine A2 ?_
  refine R.callT 0 18 Tryz.call44 (c44 (bs++[1]) (by simp;omega) _) ?_
  refine Gy ?_;refine A0 [0,12,13,14] ?_;refine Z78 ?_;refine A0 [0,12,13,14] ?_
  exact B0 1 (by omega) (by omega) (Bs (own:=[]) (fun _=>.refl _) (by repeat (first|exact Ao|refine An (by first|exact Kd|exact C7|(simp [or_imp,forall_and];done)) ?_)) (by simp) (by simp))
 have hx1:x=1:=by have:=of_decide_eq_false ht15;omega
 subst hx1
 refine Z29 ?_;refine Z99 ?_;refine Gy ?_;refine Z17 ?_;exact A5 V.ownTmp (hlow:=Kd)

/-- The bytes of the pair so far. -/
abbrev bst (o:Nat):Nat→AV
 | 0=>.sl o 1 1 1
 | _+1=>.slice true 1 (bsA [1,1,1,2])
abbrev bob:Nat→AObj
 | 0=>.cells 5 [bA 0]
 | _+1=>.gone
abbrev prC:List AV:=[Aw [v1],.nil,Ag true,Ag false]
theorem i3 {x:Nat} (h:x<2):prC[x+2]? = some (Ag (decide (x=0))):=by
 obtain rfl|rfl:x=0∨x=1:=by omega
 all_goals rfl
theorem c17 (Hp:List AObj):AFun Tryz.prog 17 [.agg prC] Hp (.slice false 1 (bsA [1,1,1,2])):=by
 refine Ac [.tmp 2] [0] Tryz.func17 Tryz.ntmps17 (fun d=>?_)
 refine Xn ?_;refine A2 ?_;refine A0 [1] ?_;refine Ds ?_;refine R.buildSl1 jU Tryz.sizeOf5 Tryz.zeroValue5 ?_;refine A2 ?_;refine A0 [1,3] ?_;refine Z59 ?_;refine A7 Tryz.call23 (c23 (oid Hp.length 0) _ (by simp [oid])) ?_;refine Z1 ?_;refine A0 [3,7,8,9] ?_
 refine Bz (α:=Nat) (fun x=>⟨36,A6 3 (bst (oid Hp.length 1) x) (A6 7 ((.slice false 3 (Vt (oid Hp.length 0)))) (A6 8 (A3 2) (A6 9 (A3 (x:Nat)) (fun _=>.any)))),Hp,[.cells 30 prC,bob x],[],none⟩) (fun x=>x≤2) (fun x=>2-x) (0) (by omega) (Bf rfl) rfl (fun x hx=>?_)
 refine Z0 ?_;refine A0 [3,7,8,9,10] ?_
 refine C5 (fun ht10=>?_) (fun ht10=>?_)
 ·have hlt:x<2:=by have:=of_decide_eq_true ht10;omega
  refine Z65 ?_
  refine A2 (h:=Ab (x) (dn (oid Hp.length 0) x) (fun _=>Ql hlt)) (hr:=?_)
  refine Z57 ?_;refine A0 [3,5,7,8,9] ?_;refine Z8 ?_
  refine A2 (h:=Q.loadOwn (n:=0) (t':=30) (y:=Ag (decide (x=0))) (hy:=i3 hlt)) (hr:=?_)
  refine A0 [3,5,7,8,9,16] ?_
  refine A1 (fun ht16=>?_) (fun ht16=>?_)
  ·have hx0:x=0:=of_decide_eq_true ht16
   subst hx0
   refine Cm [0,1,3,0,8,31,63,127] 5 Aq (by kernel_rfl) ?_;refine Ak ?_
   refine Ak (h:=Q.indexAddrSl (0) (fun _=>by omega)) (hr:=?_)
   refine Ak (h:=Q.loadOwn (n:=1) (t':=5) (hy:=rfl)) (hr:=?_)
   refine Z63 ?_
   refine A2 (h:=Q.or) (hr:=?_)
   refine A2 (h:=Q.indexAddrSl (0) (fun _=>by omega)) (hr:=?_)
   refine Uk (n:=1) (t':=5) jS ?_;refine A0 [3,5,7,8,9] ?_;refine Ji ?_
   refine R.freezeT 3 1 [bA 1] (by simp) rfl rfl (fun x hx=>by rw [Ay.1 hx]<;>rfl) (fun x hx y hy=>by rw [Ay.1 hx] at hy;rw [Ay.1 (show y∈[bA 1] from hy)];rfl) (fun x hx y hy=>by rw [Ay.1 hx] at hy;rw [Ay.1 (show y∈[bA 1] from hy)];rfl) ?_
   refine R.moveT ?_;refine Z37 ?_
   refine A2 (h:=Q.loadOwn (n:=0) (t':=30) (hy:=rfl)) (hr:=?_)
   refine R.callT 0 24 Tryz.call29 (c29 [1] (by simp) _) ?_;refine Gy ?_;refine A0 [3,7,8,9] ?_;refine Z78 ?_;refine A0 [3,7,8,9] ?_
   first|exact B0 1 (by omega) (by omega) (Bs (own:=[.cells 30 prC,bob 1]) (fun _=>.refl _) (by repeat (first|exact Ao|refine An (by first|exact Kd|(simp [or_imp,forall_and,oid];done)|(simp [or_imp,forall_and,oid];omega)) ?_)) (by simp [ObjLow,or_imp,forall_and]) (by simp))|exact B0 2 (by omega) (by omega) (Bs (own:=[.cells 30 prC,bob 2]) (fun _=>.refl _) (by repeat (first|exact Ao|refine An (by first|exact Kd|(simp [or_imp,forall_and,oid];done)|(simp [or_imp,forall_and,oid];omega)) ?_)) (by simp [ObjLow,or_imp,forall_and]) (by simp))
  have hx1:x=1:=by have:=of_decide_eq_false ht16;omega
  subst hx1
  refine Z50 ?_;refine A0 [3,7,8,9] ?_
  first|exact B0 1 (by omega) (by omega) (Bs (own:=[.cells 30 prC,bob 1]) (fun _=>.refl _) (by repeat (first|exact Ao|refine An (by first|exact Kd|(simp [or_imp,forall_and,oid];done)|(simp [or_imp,forall_and,oid];omega)) ?_)) (by simp [ObjLow,or_imp,forall_and]) (by simp))|exact B0 2 (by omega) (by omega) (Bs (own:=[.cells 30 prC,bob 2]) (fun _=>.refl _) (by repeat (first|exact Ao|refine An (by first|exact Kd|(simp [or_imp,forall_and,oid];done)|(simp [or_imp,forall_and,oid];omega)) ?_)) (by simp [ObjLow,or_imp,forall_and]) (by simp))
 have hx2:x=2:=by have:=of_decide_eq_false ht10;omega
 subst hx2
 refine Z29 ?_;refine Z40 ?_
 refine A2 (h:=Ab (0) (bA 1) (fun _=>rfl)) (hr:=?_)
 refine Z1 ?_;refine A0 [3,34] ?_
 refine A1 (fun ht34=>?_) (fun ht34=>?_)
 ·exact absurd ht34 (by decide)
 refine Pd ?_;refine Z4 ?_;exact A5 (Aa A4) (hlow:=Kd (l:=[1,1,1,2]))

theorem c5 (Hp:List AObj):AFun Tryz.prog 5 [] Hp (Ag true):=by
 refine Ac [.tmp 0] [] Tryz.func5 Tryz.ntmps5 (fun d=>?_)
 refine Z0 ?_;refine A0 [] ?_;refine Z95 ?_;refine Ns jU jS jZ ?_;refine Ju (places:=#[(0,1),(1,1),(2,1),(3,1)]) jU (fun w=>by simp) jZ ?_;refine A7 Tryz.call17 (c17 _) ?_;refine A2 ?_;refine A0 [1] ?_;refine Z31 ?_;refine Bk ?_
 refine Bk (h:=Ab (0) (bA 1) (fun _=>rfl)) (hr:=?_)
 refine Z11 ?_;refine Z1 ?_;refine Bk ?_
 refine Bk (h:=Ab (3) (bA 2) (fun _=>rfl)) (hr:=?_)
 refine Z11 ?_;refine Z1 ?_;refine A0 [0] ?_;refine Ei ?_;exact Xq

/-! How long plan.Text's pieces are. -/
section
variable {O X U:List AObj} {i:Nat} {b y:AObj}
end
/-- Moves whose numbers are ones of 64 bits. -/
structure RngMv (m:Mov):Prop where
 ahead:∀e∈m.ahead,D6 H2 e=true
 back:∀e∈m.back,D6 H2 e=true
theorem Tp {l:List Expr} (h20:l.length≤1048576) (h:l.any Og=false) (hr:∀e∈l,D6 H2 e=true):OkEs l:=by
 have h1:∀e∈l,Slim e:=fun e he=>fl (by
  rw [Fl] at h
  simpa using h e he)
 exact ⟨h20,fun e he=>(h1 e he).ok,fun e he=>by have:=(h1 e he).size;omega,hr⟩
theorem Yu {m:Mov} (h:G5 m=false) (hr:RngMv m):OkMov m:=by
 unfold G5 at h
 simp only [D0,decide_eq_false_iff_not] at h
 obtain ⟨⟨⟨⟨⟨⟨h1,h2⟩,h3⟩,h4⟩,h5⟩,h6⟩,h7⟩:=h
 have h50:m.give.length≤1000000:=by
  unfold Ed at h1
  simp only [D0,decide_eq_false_iff_not] at h1
  omega
 refine ⟨by omega,fun s hs=>?_,Wd h1,h50,Tp (by omega) h6 hr.ahead,Tp (by omega) h7 hr.back⟩
 rw [Fl] at h5
 have:=h5 s hs
 simp only [decide_eq_true_eq] at this
 omega
theorem Yv {l:List Mov} (h:Er l=false) (hr:∀m∈l,RngMv m):OkMovs l:=by
 unfold Er at h
 simp only [D0,decide_eq_false_iff_not] at h
 refine ⟨by omega,fun m hm=>Yu ?_ (hr m hm)⟩
 rw [Fl] at h
 simpa using h.2 m hm
theorem dr {c:List Col} (h:Ed c=false):c.length≤1000000:=by
 unfold Ed at h
 simp only [D0,decide_eq_false_iff_not] at h
 omega
theorem km {c:List Col} {l:List Mov} {row:List Val} (h:(Bw c l row).2=0):(E5 c l row).2=0:=by
 unfold Bw at h
 split at h
 ·exact h
 rename_i h1;simpa using h1
theorem dt {c:List Col} {l:List Mov} {row:List Val} (h:(Bv c l row).2=0):(Bp c l row).2=0:=by
 unfold Bv at h
 split at h
 ·exact h
 rename_i h1;simpa using h1
theorem kn (l:List Val):Le (.agg [.nil,Aw l,Ag false,Ag true]) (Mz ⟨[],l,false,true⟩):=.agg _ _ rfl (by simp;exact ⟨rfl,rfl,rfl,rfl⟩) fun i y y' h h'=>by
 rcases i with _|_|_|_|i<;>simp at h h'<;>subst h<;>subst h'
 ·exact an
 ·exact .inl rfl
 ·exact .inl rfl
 exact .inl rfl
theorem c3 (c:List Col) (l:List Mov) (hrl:∀m∈l,RngMv m) (row:List Val) (hrr:∀v∈row, -9223372036854775808≤v.n∧v.n≤9223372036854775807) (Hp:List AObj):AFun Tryz.prog 3 [Ad c,Cx l,Aw row] Hp (Ag true):=by
 refine Ac [.tmp 6] [0,1,2] Tryz.func3 Tryz.ntmps3 (fun d=>?_)
 refine Z0 ?_;refine A0 [0,1,2] ?_;refine Z59 ?_;refine A7 Tryz.call5 (c5 _) ?_;refine A2 ?_;refine A0 [0,1,2,16] ?_
 refine A1 (fun ht16=>?_) (fun ht16=>?_)
 ·cases ht16
 refine Pc ?_;refine A7 Tryz.call6 (om c _) ?_;refine A2 ?_;refine Bk ?_;refine Br Tryz.call7 (fun hB=>c7 l _) ?_;refine Z1 ?_;refine Bk ?_;refine Br Tryz.call8 (fun hB=>c8 row _) ?_;refine A2 ?_;refine A0 [0,1,2,26] ?_
 refine A1 (fun ht26=>?_) (fun ht26=>?_)
 ·refine Z0 ?_;refine Rb ?_;exact Xq
 simp only [D0] at ht26
 obtain ⟨⟨hw1,hw2⟩,hw3⟩:=ht26
 have hc:=Wd hw1
 have hc2:c.length≤1000000:=dr hw1
 have h:OkMovs l:=Yv hw2 hrl
 have hw4:row.length≤1048576:=by
  unfold Mq at hw3
  simp only [D0,decide_eq_false_iff_not] at hw3
  omega
 refine Pe ?_;refine A7 Tryz.call9 (c9 c hc hc2 l h row hrr hw4 _) ?_;refine Uo ?_;refine A0 [0,1,2,7,8] ?_;refine Z28 ?_;refine A0 [0,1,2,7,35] ?_
 refine A1 (fun ht35=>?_) (fun ht35=>?_)
 ·have hN:(Bw c l row).2=0:=by simpa using ht35
  obtain ⟨a1,a2⟩:=Yo hN
  have e1:=Rv hN
  have hO:=gw h hrr (km hN)
  have hNr:∀v∈(Bw c l row).1.old, -9223372036854775808≤v.n∧v.n≤9223372036854775807:=by rw [e1];exact H9 hO.fine
  have hNl:(Bw c l row).1.old.length≤1048576:=by rw [e1];show (E5 c l row).1.length≤_;rw [hO.len];exact hc.len
  have hNl2:(Bw c l row).1.new.length≤1048576:=by rw [e1];exact hw4
  have hQr:∀v∈(Bv c l (Bw c l row).1.old).1.new, -9223372036854775808≤v.n∧v.n≤9223372036854775807:=by rw [a1,e1];exact hrr
  have hQl:(Bv c l (Bw c l row).1.old).1.new.length≤1048576:=by rw [a1,e1];exact hw4
  refine Z31 ?_;refine A7 Tryz.call10 (c10 c hc hc2 l h (Bw c l row).1.old hNr hNl _) ?_;refine Uo ?_;refine A0 [0,1,2,7,9,10] ?_;refine Z31 ?_;refine A7 Tryz.call9 (c9 c hc hc2 l h (Bv c l (Bw c l row).1.old).1.new hQr hQl _) ?_;refine Uo ?_;refine A0 [0,1,2,7,9,10,11,12] ?_;refine Si ?_;refine Nv ?_;refine Br Tryz.call11 (fun hB=>c11 (Bw c l row).1 (Bv c l (Bw c l row).1.old).1 hNl hNl2 _) ?_;refine Z45 ?_;refine Z11 ?_;refine Br Tryz.call11 (fun hB=>c11 (Bw c l row).1 (Bw c l (Bv c l (Bw c l row).1.old).1.new).1 hNl hNl2 _) ?_;refine Z86 ?_;refine A0 [0,1,2,7,69] ?_
  refine A1 (fun ht69=>?_) (fun ht69=>?_)
  ·exfalso
   rw [a2,a1,hN] at ht69
   simp at ht69
  refine Pe ?_;refine A7 Tryz.call10 (c10 c hc hc2 l h row hrr hw4 _) ?_;refine Z37 ?_;refine Z12 ?_;refine A0 [0,1,7,8] ?_;refine Z28 ?_;refine A0 [0,1,7,78] ?_
  refine A1 (fun ht78=>?_) (fun ht78=>?_)
  ·have hP:(Bv c l row).2≠0:=by simpa using ht78
   refine Z56 ?_
   refine A7 Tryz.call11 (c11 (Bv c l row).1 Hx (by rw [E0 hP];simp [Hx]) (by rw [E0 hP];simp [Hx]) _) ?_
   refine A2 ?_;refine Rb ?_
   first|exact A5 (Aa A4)|exact A5 (Aa A4) ⟨by rw [E0 hP];simp,rfl⟩|exact A5 (Aa A4) ⟨by rw [E1 hS];simp,rfl⟩|exact A5 (Aa A4) ⟨by rw [e3];simp [H8],rfl⟩
  have hP:(Bv c l row).2=0:=by simpa using ht78
  have e2:=Wp hP
  have hF:=Kc h hrr (dt hP)
  have hPr:∀v∈(Bv c l row).1.new, -9223372036854775808≤v.n∧v.n≤9223372036854775807:=by rw [e2];exact H9 hF.fine
  have hPl:(Bv c l row).1.new.length≤1048576:=by rw [e2];show (Bp c l row).1.length≤_;rw [hF.len];exact (Dd hc (fun m hm=>h.each m hm) l.length).len
  refine Z9 ?_;refine Z31 ?_;refine lz ?_;refine A0 [7,13,14] ?_;refine Z28 ?_;refine A0 [7,13,91] ?_
  refine A1 (fun ht91=>?_) (fun ht91=>?_)
  ·have hS:(Bw c l (Bv c l row).1.new).2≠0:=by simpa using ht91
   refine Z56 ?_
   refine A7 Tryz.call11 (c11 (Bw c l (Bv c l row).1.new).1 Hx (by rw [E1 hS];simp [Hx]) (by rw [E1 hS];simp [Hx]) _) ?_
   refine A2 ?_;refine Rb ?_
   first|exact A5 (Aa A4)|exact A5 (Aa A4) ⟨by rw [E0 hP];simp,rfl⟩|exact A5 (Aa A4) ⟨by rw [E1 hS];simp,rfl⟩|exact A5 (Aa A4) ⟨by rw [e3];simp [H8],rfl⟩
  have hS:(Bw c l (Bv c l row).1.new).2=0:=by simpa using ht91
  have e3:=Rv hS
  refine Z9 ?_;refine Cm [0,1,3,0,8,31,63] 5 Aq (by kernel_rfl) ?_;refine Z16 ?_;refine Z97 ?_;refine m0 ?_;refine A2 ?_;refine Z47 ?_
  first|exact A5 (Aa A4)|exact A5 (Aa A4) ⟨by rw [E0 hP];simp,rfl⟩|exact A5 (Aa A4) ⟨by rw [E1 hS];simp,rfl⟩|exact A5 (Aa A4) ⟨by rw [e3];simp [H8],rfl⟩
 refine Pe ?_;refine A7 Tryz.call10 (c10 c hc hc2 l h row hrr hw4 _) ?_;refine Z37 ?_;refine Z12 ?_;refine A0 [0,1,7,8] ?_;refine Z28 ?_;refine A0 [0,1,7,78] ?_
 refine A1 (fun ht78=>?_) (fun ht78=>?_)
 ·have hP:(Bv c l row).2≠0:=by simpa using ht78
  refine Z56 ?_
  refine A7 Tryz.call11 (c11 (Bv c l row).1 Hx (by rw [E0 hP];simp [Hx]) (by rw [E0 hP];simp [Hx]) _) ?_
  refine A2 ?_;refine Rb ?_
  first|exact A5 (Aa A4)|exact A5 (Aa A4) ⟨by rw [E0 hP];simp,rfl⟩|exact A5 (Aa A4) ⟨by rw [E1 hS];simp,rfl⟩|exact A5 (Aa A4) ⟨by rw [e3];simp [H8],rfl⟩
 have hP:(Bv c l row).2=0:=by simpa using ht78
 have e2:=Wp hP
 have hF:=Kc h hrr (dt hP)
 have hPr:∀v∈(Bv c l row).1.new, -9223372036854775808≤v.n∧v.n≤9223372036854775807:=by rw [e2];exact H9 hF.fine
 have hPl:(Bv c l row).1.new.length≤1048576:=by rw [e2];show (Bp c l row).1.length≤_;rw [hF.len];exact (Dd hc (fun m hm=>h.each m hm) l.length).len
 refine Z9 ?_;refine Z31 ?_;refine lz ?_;refine A0 [7,13,14] ?_;refine Z28 ?_;refine A0 [7,13,91] ?_
 refine A1 (fun ht91=>?_) (fun ht91=>?_)
 ·have hS:(Bw c l (Bv c l row).1.new).2≠0:=by simpa using ht91
  refine Z56 ?_
  refine A7 Tryz.call11 (c11 (Bw c l (Bv c l row).1.new).1 Hx (by rw [E1 hS];simp [Hx]) (by rw [E1 hS];simp [Hx]) _) ?_
  refine A2 ?_;refine Rb ?_
  first|exact A5 (Aa A4)|exact A5 (Aa A4) ⟨by rw [E0 hP];simp,rfl⟩|exact A5 (Aa A4) ⟨by rw [E1 hS];simp,rfl⟩|exact A5 (Aa A4) ⟨by rw [e3];simp [H8],rfl⟩
 have hS:(Bw c l (Bv c l row).1.new).2=0:=by simpa using ht91
 have e3:=Rv hS
 refine Z9 ?_;refine Cm [0,1,3,0,8,31,63] 5 Aq (by kernel_rfl) ?_;refine Z16 ?_;refine Z97 ?_;refine m0 ?_;refine A2 ?_;refine Z47 ?_
 first|exact A5 (Aa A4)|exact A5 (Aa A4) ⟨by rw [E0 hP];simp,rfl⟩|exact A5 (Aa A4) ⟨by rw [E1 hS];simp,rfl⟩|exact A5 (Aa A4) ⟨by rw [e3];simp [H8],rfl⟩

end Go.SX.Nb
namespace Go.Proofs.YtcmnamfkljlglaaGreatDoor
open Go Go.SX Go.SX.Nb Go.ChangeShapes Go.RowKit
set_option maxRecDepth 100000
theorem Yw:Tryz.pinned.checked.prog.funcNamed Rows.bothAgainRow.func=some 3:=by kernel_rfl
theorem i4:laidOutB Tryz.pinned.checked.prog=true:=by kernel_rfl
theorem i5:(Rows.bothAgainRow.inPlace==Tryz.pinned.checked.prog.inPlace 3)=true:=by kernel_rfl
theorem i6:(Rows.bothAgainRow.unfollowed==Tryz.pinned.checked.prog.unfollowed 3)=true:=by kernel_rfl
theorem i7:(Rows.bothAgainRow.recurses==Tryz.pinned.checked.prog.recurses 3)=true:=by kernel_rfl
theorem i8:(Rows.bothAgainRow.named==Tryz.pinned.checked.prog.varsNamed 3)=true:=by kernel_rfl
theorem i9:Tryz.pinned.checked.prog.mayEnter=true:=by kernel_rfl
theorem Vu:joinedFacts Tryz.pinned.checked.prog 3 Tryz.f3 (OpenSpec.ofChange Rows.bothAgainSpec).bare Rows.bothAgainRow=true:=by
 unfold joinedFacts
 rw [i4,i5,i6,i7,i8,i9]
 kernel_rfl
theorem Yx:false=Rows.bothAgainRow.goesBy Tryz.pinned.checked.prog:=by kernel_rfl
theorem Yy:Tryz.f3.isInstance Tryz.pinned.checked.prog Rows.bothAgainRow.origin Rows.bothAgainRow.targs:=of_decide_eq_true (by kernel_rfl)
theorem Yz:Tryz.f3.isWrapper Tryz.pinned.checked.prog Rows.bothAgainRow.wrapper Rows.bothAgainRow.mainSum:=by
 unfold Func.isWrapper
 first|(rw [if_pos (by decide +kernel)];kernel_rfl)|(rw [if_neg (by decide +kernel)];exact ⟨rfl,rfl⟩)
end Go.Proofs.YtcmnamfkljlglaaGreatDoor
