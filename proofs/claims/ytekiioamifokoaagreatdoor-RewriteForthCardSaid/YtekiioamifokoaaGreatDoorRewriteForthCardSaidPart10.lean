/- On the way (part 10). -/
import Derived.Test.YtekiioamifokoaaGreatDoorRewriteForthCardSaidPart9
set_option linter.all false
namespace Go.SX.Nb
open Go Go.SX Go.Proofs
variable [ErrAt]
set_option maxRecDepth 4000
theorem c77 (l:List Expr) (hl:l.length≤1048576) (Hp:List AObj):AFun Tryz.prog 77 [Cm l] Hp (Cm l):=by
 refine Ae [.tmp 2] [0] Tryz.func77 Tryz.ntmps77 (fun d=>?_)
 refine Z41 ?_;refine Z31 ?_
 refine R.eqlNil jU (by kernel_rfl) (fun b hb=>?_)
 refine A2 [0,4] ?_
 refine A4 (fun ht4=>?_) (fun ht4=>?_)
 ·have hl0:l=[]:=by simpa using hb ht4
  subst hl0
  refine Z2 ?_;refine Md 2 6 false ?_;refine Z4 ?_;refine Ck ?_;exact AMi
 refine Z3 ?_;refine Z40 ?_;refine A5 ?_
 refine Ek jU Tryz.type27 ?_ ?_ ?_
 ·simp [Tryz.t27];omega
 ·simp [Tryz.t27];omega
 refine I0 ?_;refine Z4 ?_;exact AMi

theorem c33 (q:Qry) (h:QW q) (c:List Col) (hc:OkCols c) (l:List Expr) (hll:l.length≤1048576) (hcl:c.length=l.length) (hlo:∀e∈l,okE 61 e) (hn:∀s∈q.cols,¬Ay s c<0) (Hp:List AObj):AFun Tryz.prog 33 [Rq q,Ar c,Cm l] Hp (.tup [m9 (Lm q c l).1,A3 (Lm q c l).2]):=by
 refine Ae [.cell 6 37,.tmp 7] [0,1,2] Tryz.func33 Tryz.ntmps33 (fun d=>?_)
 refine Z2 ?_;refine zx ?_;refine Z1 ?_;refine Ou (places:=#[(0,1),(1,6),(7,1)]) jU (fun w=>by simp) jZ ?_;refine Z14 ?_;refine A2 [1,2,3,6,8] ?_;refine Z62 ?_;refine H5 1 0 6 ?_;refine H5 1 6 6 ?_;refine Z58 ?_;refine A2 [1,2,3,6,8,17,18,19] ?_
 refine Bg (α:=Nat) (fun i=>⟨60,A6 1 (Ar c) (A6 2 (Cm l) (A6 3 (.ro (qoC false q)) (A6 6 (.ptr (oid Hp.length 0) 0) (A6 8 (.ptr (oid Hp.length 1) 0) (A6 17 (Fq q.cols) (A6 18 (A3 (q.cols.length:Nat)) (A6 19 (A3 (i:Nat)) (fun _=>.any)))))))),Hp,[.cells 37 [.nil,A3 0,Ac [],A3 0,A3 0,Ac [],.nil,A3 0],.cells 37 [.slice true 6 (((q.cols.take i).map (Kg c l)).map A8),A3 0,Ac [],A3 0,A3 0,Ac [],.slice true 6 [],A3 q.lim]],[],none⟩) (fun i=>i≤q.cols.length) (fun i=>q.cols.length-i) (0) (Aq _) (Bl (by simp)) rfl (fun i hi=>?_)
 refine Z2 ?_;refine A2 [1,2,3,6,8,17,18,19,20] ?_
 refine Co (fun ht20=>?_) (fun ht20=>?_)
 ·have hlt:i<q.cols.length:=by simpa using ht20
  have hkl:=h.len
  obtain ⟨j,hj,hjc⟩:=tq (hn _ (Bf hlt))
  have hk:0≤Ay q.cols[i] c∧(Ay q.cols[i] c).toNat<l.length:=by omega
  have hget:(l.map A8)[(Ay q.cols[i] c).toNat]? = some (A8 (Kg c l q.cols[i])):=by
   rw [C5,Ab hk.2]
   unfold Kg
   rw [Cc,Ab hk.2]
   rfl
  refine Z77 ?_
  refine A5 (h:=Ah (i) (Ac q.cols[i]) (fun _=>B7 hlt)) (hr:=?_)
  refine Z0 ?_;refine A2 [1,2,3,6,8,10,17,18,19] ?_;refine Tw [0,1,0,0,0,24,60,124,252,511,1023,2047] [1] [.q 1 [] [0],.s [24] (some 0) [] [],.q 7 [] []] (fun _=>Hp) (fun B=>[.cells 37 [.nil,A3 0,Ac [],A3 0,A3 0,Ac [],.nil,A3 0],.cells 37 (if B 0=true then [.slice false 6 (((q.cols.take i).map (Kg c l)).map A8),A3 0,Ac [],A3 0,A3 0,Ac [],.slice true 6 [],A3 q.lim] else [.slice true 6 (((q.cols.take i).map (Kg c l)).map A8),A3 0,Ac [],A3 0,A3 0,Ac [],.slice true 6 [],A3 q.lim])]) Ak (by kernel_rfl) rfl rfl (fun _=>rfl) ?_
  apply Y.q
  ·intro B hT hF
   exact Z56
  case hTF=>decide
  refine Y.loadOwnT (u:=Hp.length) (n:=1) (t':=37) (cs:=[.slice true 6 (((q.cols.take i).map (Kg c l)).map A8),A3 0,Ac [],A3 0,A3 0,Ac [],.slice true 6 [],A3 q.lim]) (cs':=[.slice false 6 (((q.cols.take i).map (Kg c l)).map A8),A3 0,Ac [],A3 0,A3 0,Ac [],.slice true 6 [],A3 q.lim]) Tryz.isAgg25 (fun B hB=>⟨rfl,by simp only [hB];rfl,by simp [upd],rfl⟩) ?_
  apply Y.q
  ·intro B hT hF
   refine Z33 ?_;refine Dx Tryz.call60 (c60 c hc q.cols[i] _) ?_
   refine As (h:=Ah ((Ay q.cols[i] c).toNat) (A8 (Kg c l q.cols[i])) (fun _=>hget)) (hr:=?_)
   exact v8
  case hTF=>decide
  refine Er (tn:=[1]) (O:=[.cells 37 [.nil,A3 0,Ac [],A3 0,A3 0,Ac [],.nil,A3 0],.cells 37 [.slice false 6 (((q.cols.take i).map (Kg c l)).map A8),A3 0,Ac [],A3 0,A3 0,Ac [],.slice true 6 [],A3 q.lim]]) ?_
  refine Ek jU Tryz.type27 ?_ ?_ ?_
  ·simp only [An,C0,B2,Bz,Tryz.t27];omega
  ·simp only [An,C0,B2,Bz,Tryz.t27];omega
  refine AEi ?_;refine A2 [1,2,3,6,8,17,18,19] ?_;refine R9 ?_;refine A2 [1,2,3,6,8,17,18,19] ?_;refine Bm (i+1) hlt (by omega) ?_;exact Ds (by simp only [Ss hlt,Bj,Bk,Dr,Al];rfl)
 have hxe:q.cols.length≤i:=by simpa using ht20
 rw [Ej hxe]
 refine Z27 ?_;refine Z7 ?_;refine A2 [1,2,3,6,8,36] ?_
 refine A4 (fun ht36=>?_) (fun ht36=>?_)
 ·have htr:=xu (c:=c) (l:=l) ht36
  refine Z52 ?_;refine A9 Tryz.call77 (c77 l hll _) ?_;refine A5 ?_;refine Gs ?_;refine A2 [1,2,3,6,8] ?_;refine H4 ?_;refine Z88 ?_;refine A2 [1,2,3,6,8,43] ?_
  refine A4 (fun ht43=>?_) (fun ht43=>?_)
  ·refine Z2 ?_;refine Z79 ?_;exact AKj
  refine jg ?_;refine A9 Tryz.call78 (c78 q.whr h.ok c hc l hll hlo _) ?_;refine Ra ?_;refine A2 [6,8,11,12] ?_;refine Z7 ?_;refine A2 [6,8,11,12,54] ?_
  refine A4 (fun ht54=>?_) (fun ht54=>?_)
  ·refine Z55 ?_;refine vk ?_;exact AKk
  refine Ni ?_;refine Gs ?_;refine A2 [6,8] ?_;refine Z2 ?_;exact AKi
 have htr:=qe (c:=c) (l:=l) ht36
 refine Z3 ?_;refine Z88 ?_;refine A2 [1,2,3,6,8,43] ?_
 refine A4 (fun ht43=>?_) (fun ht43=>?_)
 ·refine Z2 ?_;refine Z79 ?_;exact AKj
 refine jg ?_;refine A9 Tryz.call78 (c78 q.whr h.ok c hc l hll hlo _) ?_;refine Ra ?_;refine A2 [6,8,11,12] ?_;refine Z7 ?_;refine A2 [6,8,11,12,54] ?_
 refine A4 (fun ht54=>?_) (fun ht54=>?_)
 ·refine Z55 ?_;refine vk ?_;exact AKk
 refine Ni ?_;refine Gs ?_;refine A2 [6,8] ?_;refine Z2 ?_;exact AKi

def H9 (q:Qry) (c:List Col) (rows:List Row) (k:Nat):List Row:=((rows.take k).filter fun x=>(Ca q c x.l).1).map (K4 q c)
theorem Ut {q:Qry} {c:List Col} {rows:List Row} {k:Nat} {y:Row} (hk:rows[k]? = some y) (hf:(Ca q c y.l).1=false):H9 q c rows (k+1)=H9 q c rows k:=by
 unfold H9
 rw [N3,hk,Og]
 simp [Hh,hf]
theorem Ta {q:Qry} {c:List Col} {rows:List Row} {k:Nat} {y:Row} (hk:rows[k]? = some y) (hf:(Ca q c y.l).1=true):H9 q c rows (k+1)=H9 q c rows k++[K4 q c y]:=by
 unfold H9
 rw [N3,hk,Og]
 simp [Hh,hf]
theorem Zb (q:Qry) (c:List Col) (rows:List Row) (k:Nat):(H9 q c rows k).length≤rows.length:=by
 unfold H9
 rw [An]
 exact AMh
def NK (q:Qry) (c:List Col) (rows:List Row) (k:Nat):Prop:=Mk q c rows []=Mk q c (rows.drop k) (H9 q c rows k)
theorem Tb {rows:List Row} {k:Nat} {y:Row} (hk:rows[k]? = some y):rows.drop k=y::rows.drop (k+1):=by
 obtain ⟨h1,h2⟩:=Ad.1 hk
 rw [Ig h1,h2]
theorem AGi {q:Qry} {c:List Col} {rows:List Row} {k:Nat} {y:Row} (hk:rows[k]? = some y) (hN:NK q c rows k) (he:(Ca q c y.l).2≠0):Mk q c rows []=([],(Ca q c y.l).2):=by
 rw [hN,Tb hk,Mk,if_pos (by simpa using he)]
theorem AD9 {q:Qry} {c:List Col} {rows:List Row} {k:Nat} {y:Row} (hk:rows[k]? = some y) (hN:NK q c rows k) (he:(Ca q c y.l).2=0) (hf:(Ca q c y.l).1=false):NK q c rows (k+1):=by
 unfold NK
 rw [hN,Tb hk,Mk,if_neg (by rw [he];simp),if_neg (by rw [hf];simp),Ut hk hf]
theorem AJy {q:Qry} {c:List Col} {rows:List Row} {k:Nat} {y:Row} (hk:rows[k]? = some y) (hN:NK q c rows k) (he:(Ca q c y.l).2=0) (hf:(Ca q c y.l).1=true) (hl:(((H9 q c rows k).length+1:Nat):Int)≠q.lim):NK q c rows (k+1):=by
 unfold NK
 rw [hN,Tb hk,Mk,if_neg (by rw [he];simp),if_pos hf,if_neg (by simpa using hl),Ta hk hf]
theorem AGj {q:Qry} {c:List Col} {rows:List Row} {k:Nat} {y:Row} (hk:rows[k]? = some y) (hN:NK q c rows k) (he:(Ca q c y.l).2=0) (hf:(Ca q c y.l).1=true) (hl:(((H9 q c rows k).length+1:Nat):Int)=q.lim):Mk q c rows []=(H9 q c rows (k+1),0):=by
 rw [hN,Tb hk,Mk,if_neg (by rw [he];simp),if_pos hf,if_pos (by simpa using hl),Ta hk hf]
theorem AGk {q:Qry} {c:List Col} {rows:List Row} (hN:NK q c rows rows.length):Mk q c rows []=(H9 q c rows rows.length,0):=by
 rw [hN,dj,Mk]
theorem ANu {q:Qry} {c:List Col} {rows:List Row}:NK q c rows 0:=rfl
theorem cu {n k:Nat} {o:Bool} {l:List Row}:Low n (.slice o k (l.map Eb)):=by simp [or_imp,forall_and]
theorem cv {n k:Nat} {o:Bool} {l:List Row} {r:Row}:Low n (.slice o k (l.map Eb++[Eb r])):=by simp [or_imp,forall_and]
theorem ANv {U:List AObj} {i j:Nat} {x y:AObj} (h:U[i]? = some x) (hne:j≠i):(U.set j y)[i]? = some x:=by rw [Bx hne];exact h
theorem AGl {q:Qry} {c:List Col} {l:List Val} (h:(Ca q c l).2=0):c.length=l.length:=by
 have h1:=x5 (q:=q) (c:=c) (l:=l) (by rw [h];rfl)
 unfold F9 at h1
 simp only [Ao,beq_iff_eq] at h1
 exact h1.1.2.symm
theorem Rv {q:Qry} {c:List Col} (h:De q c=0):∀s∈q.cols,¬Ay s c<0:=by
 intro s hs hf
 unfold De at h
 split at h
 ·cases h
 rw [if_pos (Fi.2 ⟨s,hs,by simpa using hf⟩)] at h
 cases h
theorem AGm {q:Qry} {c:List Col} {rows:List Row} (h:((De q c != 0) || (q.lim==0))=true):Up q c rows=([],De q c):=if_pos h
theorem AGn {q:Qry} {c:List Col} {rows:List Row} (h:((De q c != 0) || (q.lim==0))=false):De q c=0∧Up q c rows=Mk q c rows []:=by
 refine ⟨?_,if_neg (by rw [h];simp)⟩
 simp only [E3,bne_eq_false_iff_eq] at h
 exact h.1
theorem c23 (q:Qry) (h:QW q) (c:List Col) (hc:OkCols c) (rows:List Row) (hw:RW rows) (Hp:List AObj):AFun Tryz.prog 23 [Rq q,Ar c,Hc rows] Hp (.tup [Hc (Up q c rows).1,A3 (Up q c rows).2]):=by
 refine Ae [.cell 6 52,.cell 7 38] [0,1,2,10,11] Tryz.func23 Tryz.ntmps23 (fun d=>?_)
 refine Z1 ?_;refine P1 ?_;refine P1 ?_;refine A2 [2,3,4,6,7,10,11] ?_;refine Z7 ?_;refine A9 Tryz.call25 (c25 q h c hc _) ?_;refine A5 ?_;refine A2 [2,3,4,6,7,8,10,11] ?_;refine fp ?_;refine Z53 ?_;refine A2 [2,3,4,6,7,8,10,11,21] ?_
 refine A4 (fun ht21=>?_) (fun ht21=>?_)
 ·have hm:=AGm (rows:=rows) ht21
  refine Vy ?_;refine Mb 0 2 ?_;refine zu ?_;exact Z99
 have hy:=AGn (rows:=rows) ht21
 refine Z3 ?_;refine Z24 ?_;refine A2 [2,3,4,6,7,9,10,11] ?_;refine Z62 ?_;refine Mb 2 2 ?_
 refine Ma (fun hlow=>?_)
 refine Z12 ?_;refine A9 Tryz.call54 (c54 q c rows _) ?_;refine A2 [3,4,6,7,9,10,11,26] ?_;refine Lo ?_
 refine Nh (m:=3) Tryz.call102 (fun FR as' bd' hFR has hbd=>?_)
 have hFRl:∀s,Low (Hp.length+5) (FR s):=by
  intro s
  rw [hFR]
  refine Oi ?_
  revert s
  repeat (first|exact Bc|refine Bb (by first|(simp [oid,or_imp,forall_and];done)|(simp [oid,or_imp,forall_and]<;>(first|exact fun a _=>Am _ a|omega))) ?_)
 have hOl:∀{e:Int} {o:List Row} {lp:AObj},ObjLow (Hp.length+5) lp→∀x∈Hp++[AObj.cells 52 [AV.nil],AObj.cells 38 [A3 e],AObj.cells 52 [AV.slice true 2 ((o).map Eb)],AObj.defs,lp],ObjLow (Hp.length+5) x:=by
  intro e o lp hlp x hx
  refine Kp (fun x hx=>Nl (by omega) (hlow x hx)) (fun x hx=>?_) x hx
  simp only [B3,Et,or_false] at hx
  rcases hx with rfl|rfl|rfl|rfl|rfl
  ·intro y hy;rw [Bo.1 hy];simp
  ·intro y hy;rw [Bo.1 hy];simp
  ·intro y hy;rw [Bo.1 hy];exact cu
  ·trivial
  exact hlp
 have hwy:∀{k:Nat} {y:Row},rows[k]? = some y→y.l.length≤1048576∧∀v∈y.l, -9223372036854775808≤v.n∧v.n≤9223372036854775807:=fun hk=>hw.each _ (Aw hk)
 refine ⟨_,AR9 (oid Hp.length 4) q h c hc rows hw (fun k=>Hp++[AObj.cells 52 [AV.nil],AObj.cells 38 [A3 0],AObj.cells 52 [AV.slice true 2 ((H9 q c rows k).map Eb)],AObj.defs,AObj.loop LoopState.ready none FR 45 #[27,28] as' bd' (oid Hp.length 3)]) (NK q c rows) (fun V=>(∃o lp,V=Hp++[AObj.cells 52 [AV.nil],AObj.cells 38 [A3 0],AObj.cells 52 [AV.slice true 2 ((o).map Eb)],AObj.defs,lp]∧(lp=AObj.loop LoopState.ready none FR 45 #[27,28] as' bd' (oid Hp.length 3)∨lp=AObj.loop LoopState.done (some (Code.exit 0)) FR 45 #[27,28] as' bd' (oid Hp.length 3))∧Mk q c rows []=(o,0))∨(∃e k,V=Hp++[AObj.cells 52 [AV.nil],AObj.cells 38 [A3 e],AObj.cells 52 [AV.slice true 2 ((H9 q c rows k).map Eb)],AObj.defs,AObj.loop LoopState.done (some Code.ret) FR 45 #[27,28] as' bd' (oid Hp.length 3)]∧Mk q c rows []=([],e))) (fun k=>by simp) (by simp [oid]) (fun k=>(fun x hx=>by rw [At];exact hOl (lp:=AObj.loop LoopState.ready none FR 45 #[27,28] as' bd' (oid Hp.length 3)) (by exact ⟨hFRl,by simp [oid]⟩) x hx)) ANu (fun k y hk hN he0 hf=>⟨AD9 hk hN he0 hf,by simp only [Ut hk hf]⟩) (fun k y X hk hN hne=>?_) (fun k y X hk hN he0 hf=>?_) (fun hN=>.inl ⟨_,_,rfl,.inl rfl,AGk hN⟩),?_⟩
 ·generalize hV:Hp++[AObj.cells 52 [AV.nil],AObj.cells 38 [A3 0],AObj.cells 52 [AV.slice true 2 ((H9 q c rows k).map Eb)],AObj.defs,AObj.loop LoopState.ready none FR 45 #[27,28] as' bd' (oid Hp.length 3)]++X=V
  have hL:V[oid Hp.length 4]? = some (AObj.loop LoopState.ready none FR 45 #[27,28] as' bd' (oid Hp.length 3)):=by rw [←hV,B8,Ax];rfl
  have hA0:V[oid Hp.length 2]? = some (AObj.cells 52 [AV.slice true 2 ((H9 q c rows k).map Eb)]):=by rw [←hV,B8,Ax];rfl
  have hB0:V[oid Hp.length 0]? = some (AObj.cells 52 [AV.nil]):=by rw [←hV,B8,Ax];rfl
  have hC0:V[oid Hp.length 1]? = some (AObj.cells 38 [A3 0]):=by rw [←hV,B8,Ax];rfl
  refine L8 (pd:=none) (fr:=FR) (sz:=45) (ps:=#[27,28]) (df:=oid Hp.length 3) (asg:=as') (bd:=bd') hL rfl (by decide) (fun d=>?_)
  subst hFR has hbd
  refine G9 [3,4,6,7,9,27,28] ?_;refine fh ?_;refine A2 [3,4,6,7,9,10,28] ?_;refine Z52 ?_;refine A2 [3,4,6,7,9,10,11] ?_
  refine ⟨rfl,none,hL,?_⟩
  generalize hbz:(AObj.loop LoopState.busy _ _ _ _ _ _ _)=bz
  have hA:(V.set (oid Hp.length 4) bz)[oid Hp.length 2]? = some (AObj.cells 52 [AV.slice true 2 ((H9 q c rows k).map Eb)]):=by rw [Bx (Cb (by decide))];exact hA0
  have hB:(V.set (oid Hp.length 4) bz)[oid Hp.length 0]? = some (AObj.cells 52 [AV.nil]):=by rw [Bx (Cb (by decide))];exact hB0
  have hC:(V.set (oid Hp.length 4) bz)[oid Hp.length 1]? = some (AObj.cells 38 [A3 0]):=by rw [Bx (Cb (by decide))];exact hC0
  refine vh ?_;refine A2 [3,4,6,7,9,10,11,30] ?_
  refine A4 (fun ht30=>?_) (fun ht30=>?_)
  ·refine Z2 ?_
   refine Dp jS hB ?_ ?_
   ·simp
   refine Dp jS (ANv hC (Cb (by decide))) ?_ ?_
   ·simp
   refine j7 ?_;refine K.blR ?_
   subst hbz
   refine AEp ?_
   refine ⟨Hp++[AObj.cells 52 [AV.nil],AObj.cells 38 [A3 (Ca q c y.l).2],AObj.cells 52 [AV.slice true 2 ((H9 q c rows k).map Eb)],AObj.defs,_],?_,by simp,(fun x hx=>by rw [At];exact hOl (lp:=_) (by exact ⟨hFRl,by simp [oid]⟩) x hx),.inr ⟨_,_,rfl,AGi hk hN hne⟩⟩
   subst hV
   simp only [B8,Dm,E9,E5,List.set_cons_succ,List.set_cons_zero]
  exact absurd hne (by simpa using ht30)
 ·generalize hV:Hp++[AObj.cells 52 [AV.nil],AObj.cells 38 [A3 0],AObj.cells 52 [AV.slice true 2 ((H9 q c rows k).map Eb)],AObj.defs,AObj.loop LoopState.ready none FR 45 #[27,28] as' bd' (oid Hp.length 3)]++X=V
  have hL:V[oid Hp.length 4]? = some (AObj.loop LoopState.ready none FR 45 #[27,28] as' bd' (oid Hp.length 3)):=by rw [←hV,B8,Ax];rfl
  have hA0:V[oid Hp.length 2]? = some (AObj.cells 52 [AV.slice true 2 ((H9 q c rows k).map Eb)]):=by rw [←hV,B8,Ax];rfl
  have hB0:V[oid Hp.length 0]? = some (AObj.cells 52 [AV.nil]):=by rw [←hV,B8,Ax];rfl
  have hC0:V[oid Hp.length 1]? = some (AObj.cells 38 [A3 0]):=by rw [←hV,B8,Ax];rfl
  refine L8 (pd:=none) (fr:=FR) (sz:=45) (ps:=#[27,28]) (df:=oid Hp.length 3) (asg:=as') (bd:=bd') hL rfl (by decide) (fun d=>?_)
  subst hFR has hbd
  refine G9 [3,4,6,7,9,27,28] ?_;refine fh ?_;refine A2 [3,4,6,7,9,10,28] ?_;refine Z52 ?_;refine A2 [3,4,6,7,9,10,11] ?_
  refine ⟨rfl,none,hL,?_⟩
  generalize hbz:(AObj.loop LoopState.busy _ _ _ _ _ _ _)=bz
  have hA:(V.set (oid Hp.length 4) bz)[oid Hp.length 2]? = some (AObj.cells 52 [AV.slice true 2 ((H9 q c rows k).map Eb)]):=by rw [Bx (Cb (by decide))];exact hA0
  have hB:(V.set (oid Hp.length 4) bz)[oid Hp.length 0]? = some (AObj.cells 52 [AV.nil]):=by rw [Bx (Cb (by decide))];exact hB0
  have hC:(V.set (oid Hp.length 4) bz)[oid Hp.length 1]? = some (AObj.cells 38 [A3 0]):=by rw [Bx (Cb (by decide))];exact hC0
  refine vh ?_;refine A2 [3,4,6,7,9,10,11,30] ?_
  refine A4 (fun ht30=>?_) (fun ht30=>?_)
  ·simp at ht30
  refine Z3 ?_;refine Fj [0,0,0,0,14,30,63,127] [0] [.s [32] (some 0) [] [],.q 5 [] []] (fun B=>(V.set (oid Hp.length 4) bz).set (oid Hp.length 2) (if B 0=true then .cells 52 [AV.slice false 2 ((H9 q c rows k).map Eb)] else .cells 52 [AV.slice true 2 ((H9 q c rows k).map Eb)])) (fun _=>[AObj.cells 58 (qd y)]) Ak (by kernel_rfl) (Ce hA) rfl (fun B=>by simp) ?_
  refine Oy (o:=oid Hp.length 2) (t':=52) (cs:=[AV.slice true 2 ((H9 q c rows k).map Eb)]) (cs':=[AV.slice false 2 ((H9 q c rows k).map Eb)]) Tryz.isAgg52 (fun B hB=>⟨by simp only [hB];exact getset hA,(Bv ..).symm,rfl⟩) ?_
  apply Y.q
  ·intro B hT hF
   refine Z33 ?_;refine Dx Tryz.call55 (c55 q h c hc y (hwy hk).1 (AGl he0) (Rv hy.1) _) ?_;exact Z39
  case hTF=>decide
  refine Er (tn:=[0]) (U:=(V.set (oid Hp.length 4) bz).set (oid Hp.length 2) (.cells 52 [AV.slice false 2 ((H9 q c rows k).map Eb)])) ?_
  refine Ek jU Tryz.type58 ?_ ?_ ?_
  ·have hwl:=hw.len;have:=Zb q c rows k;simp [Tryz.t58];omega
  ·have hwl:=hw.len;have:=Zb q c rows k;simp [Tryz.t58];omega
  refine G8 jS (getset hA) ?_ ?_
  ·exact cv
  refine A2 [3,9] ?_;refine Ez ?_
  refine A5 (h:=Bh (getset (getset hA))) (hr:=?_)
  refine Z58 ?_;refine A2 [43] ?_
  refine A4 (fun ht43=>?_) (fun ht43=>?_)
  ·refine am ?_;refine K.blO (by decide) ?_
   subst hbz
   refine K.rdE (ix hL (Cb (by decide)) (Cb (by decide))) ?_
   refine .inr ⟨rfl,Hp++[AObj.cells 52 [AV.nil],AObj.cells 38 [A3 0],AObj.cells 52 [AV.slice true 2 ((H9 q c rows (k+1)).map Eb)],AObj.defs,_],?_,by simp,(fun x hx=>by rw [At];exact hOl (lp:=_) (by exact ⟨hFRl,by simp [oid]⟩) x hx),.inl ⟨_,_,rfl,.inr rfl,AGj hk hN he0 hf (by simpa using ht43)⟩⟩
   subst hV
   simp only [B8,Dm,E9,E5,List.set_cons_succ,List.set_cons_zero]
   rw [Ta hk hf,Bj]
   rfl
  refine vf ?_
  subst hbz
  refine AAc ?_
  refine .inl ⟨rfl,AJy hk hN he0 hf (by simpa using ht43),?_⟩
  subst hV
  simp only [B8,Dm,E9,E5,List.set_cons_succ,List.set_cons_zero]
  rw [Ta hk hf,Bj]
  rfl
 rintro r H' (⟨o,lp,rfl,rfl|rfl,hrun⟩|⟨e,k,rfl,hrun⟩)
 ·refine ⟨Hp,_,_,_,rfl,rfl,fun h=>h,?_,rfl,by simp,?_⟩
  ·intro o ho
   have:o=oid Hp.length 3:=by simpa using ho
   subst this
   rw [Ax]
   rfl
  refine Z11 ?_;refine Vy ?_;exact AKr
 ·refine ⟨Hp,_,_,_,rfl,rfl,fun h=>h,?_,rfl,by simp,?_⟩
  ·intro o ho
   have:o=oid Hp.length 3:=by simpa using ho
   subst this
   rw [Ax]
   rfl
  refine am ?_;refine K.blE ?_;refine H4 ?_;refine Vy ?_;exact AKr
 refine ⟨Hp,_,_,_,rfl,rfl,fun h=>h,?_,rfl,by simp,?_⟩
 ·intro o ho
  have:o=oid Hp.length 3:=by simpa using ho
  subst this
  rw [Ax]
  rfl
 refine W.nilOwn 0 2 ?_;refine jb ?_;exact Aa (B5 (Fp jA) (Fp jA)) ⟨by rw [hy.2,hrun];rfl,rfl⟩

/-! ref21.Over: names that nothing has stand between. -/
/-! How great the trees of ref21.Over are on the way. -/
theorem Uu {take:List Str}:∀{c:List Col} {l:List Expr},Do take c l=((c.zip l).filter fun p => !take.contains p.1.name).map (·.2)
 | [],[]=>rfl
 | [],_::_=>rfl
 | _::_,[]=>rfl
 | y::c,x::l=>by
  rw [Do,List.zip_cons_cons,Hh]
  cases h:take.contains y.name with
  | true=>simp only [Hw,Bd,if_false,if_true];exact Uu
  | false=>simp only [Wn,Bd,if_false,if_true,Bk];rw [Uu]
theorem cw {take:List Str}:∀{c:List Col} {l:List Expr},c.length=l.length→Di c take=((c.zip l).filter fun p => !take.contains p.1.name).map (·.1)
 | [],[],_=>rfl
 | [],_::_,h=>by simp at h
 | _::_,[],h=>by simp at h
 | y::c,x::l,h=>by
  have ih:=cw (take:=take) (c:=c) (l:=l) (by simpa using h)
  unfold Di at ih ⊢
  rw [List.zip_cons_cons,Hh,Hh]
  cases h:take.contains y.name with
  | true=>simp only [Hw,Bd,if_false];exact ih
  | false=>simp only [Wn,if_true,Bk];rw [ih]
/-! The trees of all columns ahead, from the last move to the first. -/
theorem qf {c:List Col} {m:Mov} {r:List Mov} (h:(Ct c (m::r)).2=0):(C9 c m).2=0∧(Ct (C9 c m).1 r).2=0:=by
 unfold Ct at h
 split at h
 ·rename_i h1;exact absurd h (by simpa using h1)
 rename_i h1;exact ⟨by simpa using h1,h⟩
set_option maxHeartbeats 1000000 in
/-! How long plan.Text's pieces are. -/
/-- The trees forth are as many as the columns behind, and may be walked. -/
theorem mb {c:List Col} {l:List Mov} (hc:OkCols c) (h:OkMovs l) (hs:((Cg c l).2 != 0)=false):TOk (Eh c l).1∧((Eh c l).2=0→(Eh c l).1.length=(Dw c l).1.length):=by
 obtain ⟨hmay,hst,_⟩:=Gc hs
 have hmv:=Jl hmay
 have e:Eh c l=Fv c (Ks c) l:=if_neg (by rw [hs];simp)
 have key:∀k,k≤l.length→(Kb c l k∧TOk (By c l k)∧(By c l k).length=(colsAt c l k).length)∨(∃z,z≠0∧Fv c (Ks c) l=([],z)):=by
  intro k
  induction k with
  | zero=>exact fun _=>.inl ⟨AJl,ACl hc,by simp [By,Ks,colsAt]⟩
  | succ k ih =>
   intro hk
   rcases ih (by omega) with ⟨h1,h2,h3⟩|h1
   ·have hmk:l[k]? = some l[k]:=Ab (by omega)
    cases he:((Ch (colsAt c l k) (By c l k) l[k].ahead).2 != 0) with
    | true=>exact .inr ⟨_,by simpa using he,pu hmk h1 he⟩
    | false=>exact .inl ⟨gy hmk h1 he,td hmk (h.each _ (Bf (by omega))) h2 he,lm hmk (hmv _ (Bf (by omega))) (T0 hst hmk) h3 he⟩
   exact .inr h1
 rcases key l.length (Aj _) with ⟨h1,h2,h3⟩|⟨z,hz,h1⟩
 ·rw [e,pv h1,Uq hs]
  exact ⟨h2,fun _=>h3⟩
 rw [e,h1]
 exact ⟨⟨fun e h=>(E6 h).elim,fun e h=>(E6 h).elim⟩,fun h=>absurd h hz⟩
theorem Wj {c:List Col} {l:List Mov} (hc:OkCols c) (h:OkMovs l) (h0:((Dw c l).2 != 0)=false):((Cg c l).2 != 0)=false∧OkCols (Dw c l).1:=by
 have hs:((Cg c l).2 != 0)=false:=by
  unfold Dw at h0
  split at h0
  ·rename_i h1;rw [show ((Cg c l).2 != 0)=false from h0] at h1;cases h1
  rename_i h1;simpa using h1
 exact ⟨hs,by rw [Uq hs];exact Jj hc (fun m hm=>h.each m hm) _⟩
theorem AHr {q:Qry} {c:List Col} {l:List Mov} (h:((Dw c l).2 != 0)=true):Eo q c l=(Po,1):=if_pos h
theorem AHs {q:Qry} {c:List Col} {l:List Mov} (h:((Dw c l).2 != 0)=false) (h1:(De q (Dw c l).1 != 0)=true):Eo q c l=(Po,De q (Dw c l).1):=by
 unfold Eo;rw [if_neg (by rw [h];simp),if_pos h1]
theorem AHt {q:Qry} {c:List Col} {l:List Mov} (h:((Dw c l).2 != 0)=false) (h1:(De q (Dw c l).1 != 0)=false) (h2:((Eh c l).2 != 0)=true):Eo q c l=(Po,(Eh c l).2):=by
 unfold Eo;rw [if_neg (by rw [h];simp),if_neg (by rw [h1];simp),if_pos h2]
theorem AHu {q:Qry} {c:List Col} {l:List Mov} (h:((Dw c l).2 != 0)=false) (h1:(De q (Dw c l).1 != 0)=false) (h2:((Eh c l).2 != 0)=false):Eo q c l=Lm q (Dw c l).1 (Eh c l).1:=by
 unfold Eo;rw [if_neg (by rw [h];simp),if_neg (by rw [h1];simp),if_neg (by rw [h2];simp)]
/-- What the trees of a turn must be. -/
structure TreesOk (q:Qry) (c:List Col) (t:List Expr):Prop where
 len:t.length≤1048576
 cl:c.length=t.length
 ok:∀e∈t,okE 61 e
 names:∀s∈q.cols,¬Ay s c<0
theorem mc {q:Qry} {c:List Col} {l:List Mov} (hc:OkCols c) (h:OkMovs l) (h0:((Dw c l).2 != 0)=false) (h1:(De q (Dw c l).1 != 0)=false) (h2:((Eh c l).2 != 0)=false):TreesOk q (Dw c l).1 (Eh c l).1:=by
 obtain ⟨hs,hB⟩:=Wj hc h h0
 obtain ⟨ht,hl⟩:=mb hc h hs
 have hl:=hl (by simpa using h2)
 exact ⟨by rw [hl];exact hB.len,hl.symm,ht.ok,Rv (by simpa using h1)⟩
theorem c11 (q:Qry) (hq:QW q) (c:List Col) (hc:OkCols c) (hc2:c.length≤1000000) (l:List Mov) (h:OkMovs l) (Hp:List AObj):AFun Tryz.prog 11 [Rq q,Ar c,Fu l] Hp (.tup [m9 (Eo q c l).1,A3 (Eo q c l).2]):=by
 refine Ae [.cell 6 37,.tmp 7] [0,1,2] Tryz.func11 Tryz.ntmps11 (fun d=>?_)
 refine Z2 ?_;refine zx ?_;refine Z1 ?_;refine A9 Tryz.call21 (c21 c hc hc2 l h _) ?_;refine Z75 ?_;refine A2 [1,2,3,6,8,9] ?_;refine Z7 ?_;refine A2 [1,2,3,6,8,19] ?_
 refine A4 (fun ht19=>?_) (fun ht19=>?_)
 ·refine Z55 ?_;refine Z79 ?_;refine Ck ?_;exact Aa (B5 (B4 jA jS) A7) ⟨by rw [AHr ht19]<;>rfl,rfl⟩ (hlow:=by simp [or_imp,forall_and]<;>(repeat' apply And.intro)<;>(intros;exact Am _ _))
 obtain ⟨hs,hB⟩:=Wj hc h ht19
 refine ji ?_;refine A9 Tryz.call25 (c25 q hq _ hB _) ?_;refine A5 ?_;refine A2 [1,2,3,6,8,10] ?_;refine Z1 ?_;refine A2 [1,2,3,6,8,10,25] ?_
 refine A4 (fun ht25=>?_) (fun ht25=>?_)
 ·refine Z55 ?_;refine vk ?_;refine Ck ?_;exact Aa (B5 (B4 jA jS) A7) ⟨by rw [AHs ht19 ht25]<;>rfl,rfl⟩ (hlow:=by simp [or_imp,forall_and]<;>(repeat' apply And.intro)<;>(intros;exact Am _ _))
 refine Ni ?_;refine A9 Tryz.call32 (c32 c hc hc2 l h _) ?_;refine Z75 ?_;refine A2 [3,6,8,9,11] ?_;refine Z7 ?_;refine A2 [3,6,8,9,11,35] ?_
 refine A4 (fun ht35=>?_) (fun ht35=>?_)
 ·refine Z55 ?_;refine vk ?_;refine Ck ?_;exact Aa (B5 (B4 jA jS) A7) ⟨by rw [AHt ht19 ht25 ht35]<;>rfl,rfl⟩ (hlow:=by simp [or_imp,forall_and]<;>(repeat' apply And.intro)<;>(intros;exact Am _ _))
 have hT:=mc hc h ht19 ht25 ht35
 refine Rb ?_;refine A9 Tryz.call33 (c33 q hq (Dw c l).1 hB (Eh c l).1 hT.len hT.cl hT.ok hT.names _) ?_;refine Z0 ?_;refine Z79 ?_;exact Aa (B5 (B4 jA jS) A7) ⟨by rw [AHu ht19 ht25 ht35]<;>rfl,rfl⟩ (hlow:=by simp [or_imp,forall_and]<;>(repeat' apply And.intro)<;>(intros;exact Am _ _))

/-! What ref22.Run answers is what query.Run answers. -/
/-! mig.Parse: the first fault is nl. -/
inductive PR (α:Type) where
 | ok (r:α) (i:Nat)
 | bad (e a:Int)
def PR.bind {α β:Type} (x:PR α) (f:α→Nat→PR β):PR β:=match x with
 | .ok r i=>f r i
 | .bad e a=>.bad e a
def cx {α:Type} (L:List Tok) (i:Nat) (e:Int):PR α:=.bad e (Af L i).at_
def isP (L:List Tok) (s:Str) (i:Nat):Bool:=(((Af L i).kind==5) || ((Af L i).kind==2))&&((Af L i).text==s)
def D7 (L:List Tok) (s:Str) (i:Nat):PR Unit:=if isP L s i then .ok () (i+1) else cx L i 8
def Hr (L:List Tok) (i:Nat):PR Str:=if (Af L i).kind != 1 then cx L i 8 else .ok (Af L i).text (i+1)
def tr (L:List Tok) (nm:Str) (j:Nat):PR Col:=if ((Af L j).kind != 2) || (Ve (Af L j).text==0) then cx L j 8 else .ok ⟨nm,Ve (Af L j).text⟩ (j+1)
def Kx (L:List Tok) (i:Nat):PR Col:=(Hr L i).bind (tr L)
def O9 (L:List Tok) (i:Nat):PR Expr:=if (atM L i).2.2.1 != 0 then .bad (atM L i).2.2.1 (atM L i).2.2.2 else .ok (atM L i).1 (atM L i).2.1.toNat
def E8 (m:Mov) (c:Col):Mov:={ m with give:=m.give++[c] }
def tt (m:Mov) (x:Expr):Mov:={ m with ahead:=m.ahead++[x] }
def Fh (L:List Tok) (m:Mov) (i:Nat):PR Mov:=(Kx L i).bind fun c j=>(D7 L [61] j).bind fun _ j=>(O9 L j).bind fun x j=>.ok (tt (E8 m c) x) j
def Vq (L:List Tok) (n:Int) (k:Nat) (i:Nat):Bool:=decide ((k:Int)<n) || ((n==0)&&(decide ((k:Int)<2) || isP L [44] i))
/-- Things with commas between, behind the first k. -/
def Tc (L:List Tok) (n:Int) (one:Mov→Nat→PR Mov):Nat→Nat→Mov→Nat→PR Mov
 | 0,_,m,i=>.ok m i
 | f+1,k,m,i=>if Vq L n k i then (D7 L [44] i).bind fun _ j=>(one m j).bind fun m j=>Tc L n one f (k+1) m j else .ok m i
def Iz (L:List Tok) (n:Int) (one:Mov→Nat→PR Mov) (m:Mov) (i:Nat):PR Mov:=(one m i).bind fun m j=>Tc L n one (L.length+1) 1 m j
def ADa:Str:=[98,97,99,107]
def Ki:Str:=[105,110,116,111]
def toW:Str:=[116,111]
def tw (m:Mov) (x:Expr):Mov:={ m with back:=m.back++[x] }
def Vr (L:List Tok) (m:Mov) (i:Nat):PR Mov:=(O9 L i).bind fun x j=>.ok (tw m x) j
def Gj (L:List Tok) (m:Mov) (i:Nat):PR Mov:=(D7 L ADa i).bind fun _ j=>Iz L m.take.length (Vr L) m j
def Ky (L:List Tok) (m:Mov) (i:Nat):PR Mov:=(Hr L i).bind fun s j=>(D7 L toW j).bind fun _ j=>(Hr L j).bind fun t j=>.ok ⟨m.kind,[s],[⟨t,0⟩],[Cu s],[Cu t]⟩ j
def takeS (m:Mov) (s:Str):Mov:={ m with take:=[s] }
def tx (m:Mov) (s:Str):Mov:={ m with take:=m.take++[s] }
def Td (L:List Tok) (m:Mov) (i:Nat):PR Mov:=(Hr L i).bind fun s j=>.ok (tx m s) j
def J0 (L:List Tok) (m:Mov) (i:Nat):PR Mov:=
 if m.kind==1 then Fh L m i
 else if m.kind==2 then (Hr L i).bind fun s j=>Gj L (takeS m s) j
 else if m.kind==3 then Ky L m i
 else if m.kind==4 then (Hr L i).bind fun s j=>(D7 L Ki j).bind fun _ j=>(Iz L 0 (Fh L) (takeS m s) j).bind fun m j=>Gj L m j
 else if m.kind==5 then (Iz L 0 (Td L) m i).bind fun m j=>(D7 L Ki j).bind fun _ j=>(Fh L m j).bind fun m j=>Gj L m j
 else if m.kind==6 then (Fh L m i).bind fun m j=>Gj L (takeS m (m.give.getD 0 ⟨[],0⟩).name) j
 else .ok m i
def migWords:List Str:=[[],[97,100,100],[100,114,111,112],[114,101,110,97,109,101],[115,112,108,105,116],[109,101,114,103,101],[114,101,116,121,112,101]]
def Ev (k:Int):Str:=if (decide (k<1) || decide (6<k))=true then [] else migWords.getD k.toNat []
def Hv (s:Str):Int:=if Ev 1==s then 1 else if Ev 2==s then 2 else if Ev 3==s then 3 else if Ev 4==s then 4 else if Ev 5==s then 5 else if Ev 6==s then 6 else 0
def Pq (L:List Tok) (i:Nat):PR Mov:=
 if ((Af L i).kind != 2) || (Hv (Af L i).text==0) then cx L i 8
 else (J0 L ⟨Hv (Af L i).text,[],[],[],[]⟩ (i+1)).bind fun m j=>(D7 L [59] j).bind fun _ j=>.ok m j
/-- Moves, behind some. -/
def O1 (L:List Tok):Nat→List Mov→Nat→PR (List Mov)
 | 0,l,i=>.ok l i
 | f+1,l,i=>if (Af L i).kind != 0 then (if (l.length:Int)==8 then cx L i 3 else (Pq L i).bind fun m j=>O1 L f (l++[m]) j) else .ok l i
def Kc (L:List Tok):PR (List Mov):=O1 L 9 [] 0
/-- The moves; the fault's code and place. -/
def Zc (s:Str):List Mov×Int×Int:=
 if (Bi s).2.1 != 0 then ([],(Bi s).2.1,(Bi s).2.2)
 else match Kc (Bi s).1 with
  | .ok l _=>(l,0,0)
  | .bad e a=>([],e,a)
end Go.SX.Nb
namespace Go.SX
variable [GI:GlobInv]
open Classical
section
variable {P:Program} {d:Nat}
variable {sz:Nat} {dfs:List Nat} {rnd:Option Nat} {l0:List Oper} {up own:(Nat→Bool)→List AObj} {KP:List PanicEntry→St→Prop} {E:List Oper→(Nat→AV)→Prop} {S:List SegY} {l:List Oper} {fr:Nat→AV} {ty:TypeId} {pos:String} {aft:Array Edge} {s:Nat} {T F:List Nat}
end
section
variable {P:Program} {d:Nat} {ops:Array Oper}
theorem AW.upEq {c:Code} {sz:Nat} {fr:Nat→AV} {up up' own:List AObj} {dfs:List Nat} {rnd:Option Nat} {K:Exit→St→Prop} (e:up=up') (h:AW P d c ⟨sz,fr,up',own,dfs,rnd⟩ K):AW P d c ⟨sz,fr,up,own,dfs,rnd⟩ K:=e ▸ h
end
end Go.SX
namespace Go.SX
def Rw:=@AW.upEq
end Go.SX
