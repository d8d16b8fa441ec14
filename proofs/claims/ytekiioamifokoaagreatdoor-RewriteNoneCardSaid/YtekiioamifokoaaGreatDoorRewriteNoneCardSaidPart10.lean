/- On the way (part 10). -/
import Derived.Test.YtekiioamifokoaaGreatDoorRewriteNoneCardSaidPart9
set_option linter.all false
namespace Go.SX.Nb
open Go Go.SX Go.Proofs
variable [ErrAt]
set_option maxRecDepth 4000
theorem c77 (l:List Expr) (hl:l.length≤1048576) (Hp:List AObj):AFun Tryz.prog 77 [Bo l] Hp (Bo l):=by
 refine Ae [.tmp 2] [0] Tryz.func77 Tryz.ntmps77 (fun d=>?_)
 refine Z43 ?_;refine Z30 ?_
 refine R.eqlNil jU (by kernel_rfl) (fun b hb=>?_)
 refine A2 [0,4] ?_
 refine A4 (fun ht4=>?_) (fun ht4=>?_)
 ·have hl0:l=[]:=by simpa using hb ht4
  subst hl0
  refine Z2 ?_;refine Ts 2 6 false ?_;refine Z4 ?_;refine C9 ?_;exact AM4
 refine Z3 ?_;refine Z42 ?_;refine A5 ?_
 refine Ep jU Tryz.type27 ?_ ?_ ?_
 ·simp [Tryz.t27];omega
 ·simp [Tryz.t27];omega
 refine Jv ?_;refine Z4 ?_;exact AM4

theorem c33 (q:Qry) (h:QW q) (c:List Col) (hc:OkCols c) (l:List Expr) (hll:l.length≤1048576) (hcl:c.length=l.length) (hlo:∀e∈l,okE 61 e) (hn:∀s∈q.cols,¬Aw s c<0) (Hp:List AObj):AFun Tryz.prog 33 [Nx q,An c,Bo l] Hp (.tup [Yh (Hj q c l).1,A3 (Hj q c l).2]):=by
 refine Ae [.cell 6 37,.tmp 7] [0,1,2] Tryz.func33 Tryz.ntmps33 (fun d=>?_)
 refine Z2 ?_;refine uc ?_;refine Z1 ?_;refine Ob (places:=#[(0,1),(1,6),(7,1)]) jU (fun w=>by simp) jZ ?_;refine Z14 ?_;refine A2 [1,2,3,6,8] ?_;refine Z54 ?_;refine Gw 1 0 6 ?_;refine Gw 1 6 6 ?_;refine Z57 ?_;refine A2 [1,2,3,6,8,17,18,19] ?_
 refine Bf (α:=Nat) (fun i=>⟨60,A6 1 (An c) (A6 2 (Bo l) (A6 3 (.ro (qoC false q)) (A6 6 (.ptr (oid Hp.length 0) 0) (A6 8 (.ptr (oid Hp.length 1) 0) (A6 17 (Fg q.cols) (A6 18 (A3 (q.cols.length:Nat)) (A6 19 (A3 (i:Nat)) (fun _=>.any)))))))),Hp,[.cells 37 [.nil,A3 0,Ac [],A3 0,A3 0,Ac [],.nil,A3 0],.cells 37 [.slice true 6 (((q.cols.take i).map (Ih c l)).map A7),A3 0,Ac [],A3 0,A3 0,Ac [],.slice true 6 [],A3 q.lim]],[],none⟩) (fun i=>i≤q.cols.length) (fun i=>q.cols.length-i) (0) (Ar _) (Bj (by simp)) rfl (fun i hi=>?_)
 refine Z2 ?_;refine A2 [1,2,3,6,8,17,18,19,20] ?_
 refine Cr (fun ht20=>?_) (fun ht20=>?_)
 ·have hlt:i<q.cols.length:=by simpa using ht20
  have hkl:=h.len
  obtain ⟨j,hj,hjc⟩:=se (hn _ (Be hlt))
  have hk:0≤Aw q.cols[i] c∧(Aw q.cols[i] c).toNat<l.length:=by omega
  have hget:(l.map A7)[(Aw q.cols[i] c).toNat]? = some (A7 (Ih c l q.cols[i])):=by
   rw [Bz,Ab hk.2]
   unfold Ih
   rw [Bw,Ab hk.2]
   rfl
  refine Z76 ?_
  refine A5 (h:=Ai (i) (Ac q.cols[i]) (fun _=>B6 hlt)) (hr:=?_)
  refine Z0 ?_;refine A2 [1,2,3,6,8,10,17,18,19] ?_;refine Qt [0,1,0,0,0,24,60,124,252,511,1023,2047] [1] [.q 1 [] [0],.s [24] (some 0) [] [],.q 7 [] []] (fun _=>Hp) (fun B=>[.cells 37 [.nil,A3 0,Ac [],A3 0,A3 0,Ac [],.nil,A3 0],.cells 37 (if B 0=true then [.slice false 6 (((q.cols.take i).map (Ih c l)).map A7),A3 0,Ac [],A3 0,A3 0,Ac [],.slice true 6 [],A3 q.lim] else [.slice true 6 (((q.cols.take i).map (Ih c l)).map A7),A3 0,Ac [],A3 0,A3 0,Ac [],.slice true 6 [],A3 q.lim])]) Aj (by kernel_rfl) rfl rfl (fun _=>rfl) ?_
  apply Y.q
  ·intro B hT hF
   exact Z55
  case hTF=>decide
  refine Y.loadOwnT (u:=Hp.length) (n:=1) (t':=37) (cs:=[.slice true 6 (((q.cols.take i).map (Ih c l)).map A7),A3 0,Ac [],A3 0,A3 0,Ac [],.slice true 6 [],A3 q.lim]) (cs':=[.slice false 6 (((q.cols.take i).map (Ih c l)).map A7),A3 0,Ac [],A3 0,A3 0,Ac [],.slice true 6 [],A3 q.lim]) Tryz.isAgg25 (fun B hB=>⟨rfl,by simp only [hB];rfl,by simp [upd],rfl⟩) ?_
  apply Y.q
  ·intro B hT hF
   refine Z33 ?_;refine Dl Tryz.call60 (c60 c hc q.cols[i] _) ?_
   refine Aq (h:=Ai ((Aw q.cols[i] c).toNat) (A7 (Ih c l q.cols[i])) (fun _=>hget)) (hr:=?_)
   exact mv
  case hTF=>decide
  refine Ed (tn:=[1]) (O:=[.cells 37 [.nil,A3 0,Ac [],A3 0,A3 0,Ac [],.nil,A3 0],.cells 37 [.slice false 6 (((q.cols.take i).map (Ih c l)).map A7),A3 0,Ac [],A3 0,A3 0,Ac [],.slice true 6 [],A3 q.lim]]) ?_
  refine Ep jU Tryz.type27 ?_ ?_ ?_
  ·simp only [Ao,Cy,Bi,Cb,Tryz.t27];omega
  ·simp only [Ao,Cy,Bi,Cb,Tryz.t27];omega
  refine AE3 ?_;refine A2 [1,2,3,6,8,17,18,19] ?_;refine Ry ?_;refine A2 [1,2,3,6,8,17,18,19] ?_;refine Bg (i+1) hlt (by omega) ?_;exact Dn (by simp only [Xz hlt,Bq,Br,Ec,Al];rfl)
 have hxe:q.cols.length≤i:=by simpa using ht20
 rw [Eo hxe]
 refine Z28 ?_;refine Z7 ?_;refine A2 [1,2,3,6,8,36] ?_
 refine A4 (fun ht36=>?_) (fun ht36=>?_)
 ·have htr:=wz (c:=c) (l:=l) ht36
  refine Z44 ?_;refine Aa Tryz.call77 (c77 l hll _) ?_;refine A5 ?_;refine Fw ?_;refine A2 [1,2,3,6,8] ?_;refine Gg ?_;refine Z83 ?_;refine A2 [1,2,3,6,8,43] ?_
  refine A4 (fun ht43=>?_) (fun ht43=>?_)
  ·refine Z2 ?_;refine Z68 ?_;exact AK2
  refine Zh ?_;refine Aa Tryz.call78 (c78 q.whr h.ok c hc l hll hlo _) ?_;refine Pv ?_;refine A2 [6,8,11,12] ?_;refine Z7 ?_;refine A2 [6,8,11,12,54] ?_
  refine A4 (fun ht54=>?_) (fun ht54=>?_)
  ·refine Z29 ?_;refine A5 ?_;refine Z68 ?_;exact AK3
  refine Z98 ?_;refine Fw ?_;refine A2 [6,8] ?_;refine Z2 ?_;exact AK1
 have htr:=ph (c:=c) (l:=l) ht36
 refine Z3 ?_;refine Z83 ?_;refine A2 [1,2,3,6,8,43] ?_
 refine A4 (fun ht43=>?_) (fun ht43=>?_)
 ·refine Z2 ?_;refine Z68 ?_;exact AK2
 refine Zh ?_;refine Aa Tryz.call78 (c78 q.whr h.ok c hc l hll hlo _) ?_;refine Pv ?_;refine A2 [6,8,11,12] ?_;refine Z7 ?_;refine A2 [6,8,11,12,54] ?_
 refine A4 (fun ht54=>?_) (fun ht54=>?_)
 ·refine Z29 ?_;refine A5 ?_;refine Z68 ?_;exact AK3
 refine Z98 ?_;refine Fw ?_;refine A2 [6,8] ?_;refine Z2 ?_;exact AK1

def H1 (q:Qry) (c:List Col) (rows:List Row) (k:Nat):List Row:=((rows.take k).filter fun x=>(C4 q c x.l).1).map (It q c)
theorem Ud {q:Qry} {c:List Col} {rows:List Row} {k:Nat} {y:Row} (hk:rows[k]? = some y) (hf:(C4 q c y.l).1=false):H1 q c rows (k+1)=H1 q c rows k:=by
 unfold H1
 rw [Ms,hk,Ta]
 simp [O0,hf]
theorem Ss {q:Qry} {c:List Col} {rows:List Row} {k:Nat} {y:Row} (hk:rows[k]? = some y) (hf:(C4 q c y.l).1=true):H1 q c rows (k+1)=H1 q c rows k++[It q c y]:=by
 unfold H1
 rw [Ms,hk,Ta]
 simp [O0,hf]
theorem Yk (q:Qry) (c:List Col) (rows:List Row) (k:Nat):(H1 q c rows k).length≤rows.length:=by
 unfold H1
 rw [Ao]
 exact AM3
def NK (q:Qry) (c:List Col) (rows:List Row) (k:Nat):Prop:=Mb q c rows []=Mb q c (rows.drop k) (H1 q c rows k)
theorem Su {rows:List Row} {k:Nat} {y:Row} (hk:rows[k]? = some y):rows.drop k=y::rows.drop (k+1):=by
 obtain ⟨h1,h2⟩:=Ad.1 hk
 rw [I4 h1,h2]
theorem AG4 {q:Qry} {c:List Col} {rows:List Row} {k:Nat} {y:Row} (hk:rows[k]? = some y) (hN:NK q c rows k) (he:(C4 q c y.l).2≠0):Mb q c rows []=([],(C4 q c y.l).2):=by
 rw [hN,Su hk,Mb,if_pos (by simpa using he)]
theorem ACs {q:Qry} {c:List Col} {rows:List Row} {k:Nat} {y:Row} (hk:rows[k]? = some y) (hN:NK q c rows k) (he:(C4 q c y.l).2=0) (hf:(C4 q c y.l).1=false):NK q c rows (k+1):=by
 unfold NK
 rw [hN,Su hk,Mb,if_neg (by rw [he];simp),if_neg (by rw [hf];simp),Ud hk hf]
theorem AJi {q:Qry} {c:List Col} {rows:List Row} {k:Nat} {y:Row} (hk:rows[k]? = some y) (hN:NK q c rows k) (he:(C4 q c y.l).2=0) (hf:(C4 q c y.l).1=true) (hl:(((H1 q c rows k).length+1:Nat):Int)≠q.lim):NK q c rows (k+1):=by
 unfold NK
 rw [hN,Su hk,Mb,if_neg (by rw [he];simp),if_pos hf,if_neg (by simpa using hl),Ss hk hf]
theorem AG5 {q:Qry} {c:List Col} {rows:List Row} {k:Nat} {y:Row} (hk:rows[k]? = some y) (hN:NK q c rows k) (he:(C4 q c y.l).2=0) (hf:(C4 q c y.l).1=true) (hl:(((H1 q c rows k).length+1:Nat):Int)=q.lim):Mb q c rows []=(H1 q c rows (k+1),0):=by
 rw [hN,Su hk,Mb,if_neg (by rw [he];simp),if_pos hf,if_pos (by simpa using hl),Ss hk hf]
theorem AG6 {q:Qry} {c:List Col} {rows:List Row} (hN:NK q c rows rows.length):Mb q c rows []=(H1 q c rows rows.length,0):=by
 rw [hN,W4,Mb]
theorem ANg {q:Qry} {c:List Col} {rows:List Row}:NK q c rows 0:=rfl
theorem ce {n k:Nat} {o:Bool} {l:List Row}:Low n (.slice o k (l.map Eh)):=by simp [or_imp,forall_and]
theorem cf {n k:Nat} {o:Bool} {l:List Row} {r:Row}:Low n (.slice o k (l.map Eh++[Eh r])):=by simp [or_imp,forall_and]
theorem ANh {U:List AObj} {i j:Nat} {x y:AObj} (h:U[i]? = some x) (hne:j≠i):(U.set j y)[i]? = some x:=by rw [Bh hne];exact h
theorem AG7 {q:Qry} {c:List Col} {l:List Val} (h:(C4 q c l).2=0):c.length=l.length:=by
 have h1:=w8 (q:=q) (c:=c) (l:=l) (by rw [h];rfl)
 unfold Im at h1
 simp only [At,beq_iff_eq] at h1
 exact h1.1.2.symm
theorem Lk {q:Qry} {c:List Col} (h:Bp q c=0):∀s∈q.cols,¬Aw s c<0:=by
 intro s hs hf
 unfold Bp at h
 split at h
 ·cases h
 rw [if_pos (H9.2 ⟨s,hs,by simpa using hf⟩)] at h
 cases h
theorem AG8 {q:Qry} {c:List Col} {rows:List Row} (h:((Bp q c != 0) || (q.lim==0))=true):Sk q c rows=([],Bp q c):=if_pos h
theorem AG9 {q:Qry} {c:List Col} {rows:List Row} (h:((Bp q c != 0) || (q.lim==0))=false):Bp q c=0∧Sk q c rows=Mb q c rows []:=by
 refine ⟨?_,if_neg (by rw [h];simp)⟩
 simp only [E1,bne_eq_false_iff_eq] at h
 exact h.1
theorem c23 (q:Qry) (h:QW q) (c:List Col) (hc:OkCols c) (rows:List Row) (hw:RW rows) (Hp:List AObj):AFun Tryz.prog 23 [Nx q,An c,Gy rows] Hp (.tup [Gy (Sk q c rows).1,A3 (Sk q c rows).2]):=by
 refine Ae [.cell 6 52,.cell 7 38] [0,1,2,10,11] Tryz.func23 Tryz.ntmps23 (fun d=>?_)
 refine Z1 ?_;refine R0 ?_;refine R0 ?_;refine A2 [2,3,4,6,7,10,11] ?_;refine Z7 ?_;refine Aa Tryz.call25 (c25 q h c hc _) ?_;refine A5 ?_;refine A2 [2,3,4,6,7,8,10,11] ?_;refine eh ?_;refine Z48 ?_;refine A2 [2,3,4,6,7,8,10,11,21] ?_
 refine A4 (fun ht21=>?_) (fun ht21=>?_)
 ·have hm:=AG8 (rows:=rows) ht21
  refine Z89 ?_;refine Kz 0 2 ?_;refine Fw ?_;refine Z17 ?_;exact ADq
 have hy:=AG9 (rows:=rows) ht21
 refine Z3 ?_;refine Z24 ?_;refine A2 [2,3,4,6,7,9,10,11] ?_;refine Z54 ?_;refine Kz 2 2 ?_
 refine Jx (fun hlow=>?_)
 refine Z13 ?_;refine Aa Tryz.call54 (c54 q c rows _) ?_;refine A2 [3,4,6,7,9,10,11,26] ?_;refine Jy ?_
 refine L0 (m:=3) Tryz.call102 (fun FR as' bd' hFR has hbd=>?_)
 have hFRl:∀s,Low (Hp.length+5) (FR s):=by
  intro s
  rw [hFR]
  refine M3 ?_
  revert s
  repeat (first|exact Bc|refine Bb (by first|(simp [oid,or_imp,forall_and];done)|(simp [oid,or_imp,forall_and]<;>(first|exact fun a _=>Ah _ a|omega))) ?_)
 have hOl:∀{e:Int} {o:List Row} {lp:AObj},ObjLow (Hp.length+5) lp→∀x∈Hp++[AObj.cells 52 [AV.nil],AObj.cells 38 [A3 e],AObj.cells 52 [AV.slice true 2 ((o).map Eh)],AObj.defs,lp],ObjLow (Hp.length+5) x:=by
  intro e o lp hlp x hx
  refine Ic (fun x hx=>L4 (by omega) (hlow x hx)) (fun x hx=>?_) x hx
  simp only [B4,E2,or_false] at hx
  rcases hx with rfl|rfl|rfl|rfl|rfl
  ·intro y hy;rw [B7.1 hy];simp
  ·intro y hy;rw [B7.1 hy];simp
  ·intro y hy;rw [B7.1 hy];exact ce
  ·trivial
  exact hlp
 have hwy:∀{k:Nat} {y:Row},rows[k]? = some y→y.l.length≤1048576∧∀v∈y.l, -9223372036854775808≤v.n∧v.n≤9223372036854775807:=fun hk=>hw.each _ (B2 hk)
 refine ⟨_,AQx (oid Hp.length 4) q h c hc rows hw (fun k=>Hp++[AObj.cells 52 [AV.nil],AObj.cells 38 [A3 0],AObj.cells 52 [AV.slice true 2 ((H1 q c rows k).map Eh)],AObj.defs,AObj.loop LoopState.ready none FR 45 #[27,28] as' bd' (oid Hp.length 3)]) (NK q c rows) (fun V=>(∃o lp,V=Hp++[AObj.cells 52 [AV.nil],AObj.cells 38 [A3 0],AObj.cells 52 [AV.slice true 2 ((o).map Eh)],AObj.defs,lp]∧(lp=AObj.loop LoopState.ready none FR 45 #[27,28] as' bd' (oid Hp.length 3)∨lp=AObj.loop LoopState.done (some (Code.exit 0)) FR 45 #[27,28] as' bd' (oid Hp.length 3))∧Mb q c rows []=(o,0))∨(∃e k,V=Hp++[AObj.cells 52 [AV.nil],AObj.cells 38 [A3 e],AObj.cells 52 [AV.slice true 2 ((H1 q c rows k).map Eh)],AObj.defs,AObj.loop LoopState.done (some Code.ret) FR 45 #[27,28] as' bd' (oid Hp.length 3)]∧Mb q c rows []=([],e))) (fun k=>by simp) (by simp [oid]) (fun k=>(fun x hx=>by rw [Av];exact hOl (lp:=AObj.loop LoopState.ready none FR 45 #[27,28] as' bd' (oid Hp.length 3)) (by exact ⟨hFRl,by simp [oid]⟩) x hx)) ANg (fun k y hk hN he0 hf=>⟨ACs hk hN he0 hf,by simp only [Ud hk hf]⟩) (fun k y X hk hN hne=>?_) (fun k y X hk hN he0 hf=>?_) (fun hN=>.inl ⟨_,_,rfl,.inl rfl,AG6 hN⟩),?_⟩
 ·generalize hV:Hp++[AObj.cells 52 [AV.nil],AObj.cells 38 [A3 0],AObj.cells 52 [AV.slice true 2 ((H1 q c rows k).map Eh)],AObj.defs,AObj.loop LoopState.ready none FR 45 #[27,28] as' bd' (oid Hp.length 3)]++X=V
  have hL:V[oid Hp.length 4]? = some (AObj.loop LoopState.ready none FR 45 #[27,28] as' bd' (oid Hp.length 3)):=by rw [←hV,Ax,As];rfl
  have hA0:V[oid Hp.length 2]? = some (AObj.cells 52 [AV.slice true 2 ((H1 q c rows k).map Eh)]):=by rw [←hV,Ax,As];rfl
  have hB0:V[oid Hp.length 0]? = some (AObj.cells 52 [AV.nil]):=by rw [←hV,Ax,As];rfl
  have hC0:V[oid Hp.length 1]? = some (AObj.cells 38 [A3 0]):=by rw [←hV,Ax,As];rfl
  refine Iy (pd:=none) (fr:=FR) (sz:=45) (ps:=#[27,28]) (df:=oid Hp.length 3) (asg:=as') (bd:=bd') hL rfl (by decide) (fun d=>?_)
  subst hFR has hbd
  refine Fd [3,4,6,7,9,27,28] ?_;refine Ze ?_;refine A2 [3,4,6,7,9,10,28] ?_;refine Z44 ?_;refine A2 [3,4,6,7,9,10,11] ?_
  refine ⟨rfl,none,hL,?_⟩
  generalize hbz:(AObj.loop LoopState.busy _ _ _ _ _ _ _)=bz
  have hA:(V.set (oid Hp.length 4) bz)[oid Hp.length 2]? = some (AObj.cells 52 [AV.slice true 2 ((H1 q c rows k).map Eh)]):=by rw [Bh (Bv (by decide))];exact hA0
  have hB:(V.set (oid Hp.length 4) bz)[oid Hp.length 0]? = some (AObj.cells 52 [AV.nil]):=by rw [Bh (Bv (by decide))];exact hB0
  have hC:(V.set (oid Hp.length 4) bz)[oid Hp.length 1]? = some (AObj.cells 38 [A3 0]):=by rw [Bh (Bv (by decide))];exact hC0
  refine mw ?_;refine A2 [3,4,6,7,9,10,11,30] ?_
  refine A4 (fun ht30=>?_) (fun ht30=>?_)
  ·refine Z2 ?_
   refine Cq jS hB ?_ ?_
   ·simp
   refine Cq jS (ANh hC (Bv (by decide))) ?_ ?_
   ·simp
   refine uj ?_
   subst hbz
   refine ut ?_
   refine ⟨Hp++[AObj.cells 52 [AV.nil],AObj.cells 38 [A3 (C4 q c y.l).2],AObj.cells 52 [AV.slice true 2 ((H1 q c rows k).map Eh)],AObj.defs,_],?_,by simp,(fun x hx=>by rw [Av];exact hOl (lp:=_) (by exact ⟨hFRl,by simp [oid]⟩) x hx),.inr ⟨_,_,rfl,AG4 hk hN hne⟩⟩
   subst hV
   simp only [Ax,Cp,Dk,D9,List.set_cons_succ,List.set_cons_zero]
  exact absurd hne (by simpa using ht30)
 ·generalize hV:Hp++[AObj.cells 52 [AV.nil],AObj.cells 38 [A3 0],AObj.cells 52 [AV.slice true 2 ((H1 q c rows k).map Eh)],AObj.defs,AObj.loop LoopState.ready none FR 45 #[27,28] as' bd' (oid Hp.length 3)]++X=V
  have hL:V[oid Hp.length 4]? = some (AObj.loop LoopState.ready none FR 45 #[27,28] as' bd' (oid Hp.length 3)):=by rw [←hV,Ax,As];rfl
  have hA0:V[oid Hp.length 2]? = some (AObj.cells 52 [AV.slice true 2 ((H1 q c rows k).map Eh)]):=by rw [←hV,Ax,As];rfl
  have hB0:V[oid Hp.length 0]? = some (AObj.cells 52 [AV.nil]):=by rw [←hV,Ax,As];rfl
  have hC0:V[oid Hp.length 1]? = some (AObj.cells 38 [A3 0]):=by rw [←hV,Ax,As];rfl
  refine Iy (pd:=none) (fr:=FR) (sz:=45) (ps:=#[27,28]) (df:=oid Hp.length 3) (asg:=as') (bd:=bd') hL rfl (by decide) (fun d=>?_)
  subst hFR has hbd
  refine Fd [3,4,6,7,9,27,28] ?_;refine Ze ?_;refine A2 [3,4,6,7,9,10,28] ?_;refine Z44 ?_;refine A2 [3,4,6,7,9,10,11] ?_
  refine ⟨rfl,none,hL,?_⟩
  generalize hbz:(AObj.loop LoopState.busy _ _ _ _ _ _ _)=bz
  have hA:(V.set (oid Hp.length 4) bz)[oid Hp.length 2]? = some (AObj.cells 52 [AV.slice true 2 ((H1 q c rows k).map Eh)]):=by rw [Bh (Bv (by decide))];exact hA0
  have hB:(V.set (oid Hp.length 4) bz)[oid Hp.length 0]? = some (AObj.cells 52 [AV.nil]):=by rw [Bh (Bv (by decide))];exact hB0
  have hC:(V.set (oid Hp.length 4) bz)[oid Hp.length 1]? = some (AObj.cells 38 [A3 0]):=by rw [Bh (Bv (by decide))];exact hC0
  refine mw ?_;refine A2 [3,4,6,7,9,10,11,30] ?_
  refine A4 (fun ht30=>?_) (fun ht30=>?_)
  ·simp at ht30
  refine Z3 ?_;refine Fc [0,0,0,0,14,30,63,127] [0] [.s [32] (some 0) [] [],.q 5 [] []] (fun B=>(V.set (oid Hp.length 4) bz).set (oid Hp.length 2) (if B 0=true then .cells 52 [AV.slice false 2 ((H1 q c rows k).map Eh)] else .cells 52 [AV.slice true 2 ((H1 q c rows k).map Eh)])) (fun _=>[AObj.cells 58 (pg y)]) Aj (by kernel_rfl) (Ce hA) rfl (fun B=>by simp) ?_
  refine Of (o:=oid Hp.length 2) (t':=52) (cs:=[AV.slice true 2 ((H1 q c rows k).map Eh)]) (cs':=[AV.slice false 2 ((H1 q c rows k).map Eh)]) Tryz.isAgg52 (fun B hB=>⟨by simp only [hB];exact getset hA,(Bu ..).symm,rfl⟩) ?_
  apply Y.q
  ·intro B hT hF
   refine Z33 ?_;refine Dl Tryz.call55 (c55 q h c hc y (hwy hk).1 (AG7 he0) (Lk hy.1) _) ?_;exact Z38
  case hTF=>decide
  refine Ed (tn:=[0]) (U:=(V.set (oid Hp.length 4) bz).set (oid Hp.length 2) (.cells 52 [AV.slice false 2 ((H1 q c rows k).map Eh)])) ?_
  refine Ep jU Tryz.type58 ?_ ?_ ?_
  ·have hwl:=hw.len;have:=Yk q c rows k;simp [Tryz.t58];omega
  ·have hwl:=hw.len;have:=Yk q c rows k;simp [Tryz.t58];omega
  refine Fv jS (getset hA) ?_ ?_
  ·exact cf
  refine A2 [3,9] ?_;refine Ez ?_
  refine A5 (h:=B8 (getset (getset hA))) (hr:=?_)
  refine Z57 ?_;refine A2 [43] ?_
  refine A4 (fun ht43=>?_) (fun ht43=>?_)
  ·refine Zy ?_;refine K.blO (by decide) ?_
   subst hbz
   refine K.rdE (i9 hL (Bv (by decide)) (Bv (by decide))) ?_
   refine .inr ⟨rfl,Hp++[AObj.cells 52 [AV.nil],AObj.cells 38 [A3 0],AObj.cells 52 [AV.slice true 2 ((H1 q c rows (k+1)).map Eh)],AObj.defs,_],?_,by simp,(fun x hx=>by rw [Av];exact hOl (lp:=_) (by exact ⟨hFRl,by simp [oid]⟩) x hx),.inl ⟨_,_,rfl,.inr rfl,AG5 hk hN he0 hf (by simpa using ht43)⟩⟩
   subst hV
   simp only [Ax,Cp,Dk,D9,List.set_cons_succ,List.set_cons_zero]
   rw [Ss hk hf,Bq]
   rfl
  refine uh ?_
  subst hbz
  refine zw ?_
  refine .inl ⟨rfl,AJi hk hN he0 hf (by simpa using ht43),?_⟩
  subst hV
  simp only [Ax,Cp,Dk,D9,List.set_cons_succ,List.set_cons_zero]
  rw [Ss hk hf,Bq]
  rfl
 rintro r H' (⟨o,lp,rfl,rfl|rfl,hrun⟩|⟨e,k,rfl,hrun⟩)
 ·refine ⟨Hp,_,_,_,rfl,rfl,fun h=>h,?_,rfl,by simp,?_⟩
  ·intro o ho
   have:o=oid Hp.length 3:=by simpa using ho
   subst this
   rw [As]
   rfl
  refine Z12 ?_;refine mu ?_;exact AKb
 ·refine ⟨Hp,_,_,_,rfl,rfl,fun h=>h,?_,rfl,by simp,?_⟩
  ·intro o ho
   have:o=oid Hp.length 3:=by simpa using ho
   subst this
   rw [As]
   rfl
  refine Zy ?_;refine K.blE ?_;refine Gg ?_;refine mu ?_;exact AKb
 refine ⟨Hp,_,_,_,rfl,rfl,fun h=>h,?_,rfl,by simp,?_⟩
 ·intro o ho
  have:o=oid Hp.length 3:=by simpa using ho
  subst this
  rw [As]
  rfl
 refine Wm 0 2 ?_;refine Zf ?_;exact A8 (B1 (Dm jA) (Dm jA)) ⟨by rw [hy.2,hrun];rfl,rfl⟩

/-! ref21.Over: names that nothing has stand between. -/
/-! How great the trees of ref21.Over are on the way. -/
theorem x6 (s:Str):sizeE (Cm s)=1:=rfl
theorem ACt {c:List Col} {l0:List Mov}:∀e∈C7 c l0 0,sizeE e≤1048576:=by
 intro e he
 obtain ⟨y,_,rfl⟩:=C2.1 he
 rw [x6]
 decide
theorem Yl {c:List Col} {t:List Expr}:∀(l:List Expr),(C1 c t l).2=0→∀e∈(C1 c t l).1,Ay e=true
 | [],_,e,h=>by cases h
 | x::r,he,e,h=>by
  unfold C1 at he h
  split at he
  ·rename_i h3
   exact absurd he (by simpa using h3)
  rename_i h3
  rw [if_neg h3] at h
  split at he
  ·rename_i h4
   exact absurd he (by simpa using h4)
  rename_i h4
  rw [if_neg h4] at h
  rcases B4.1 h with rfl|h
  ·have h5:(Da x c t).2=0:=by simpa using h3
   unfold Da at h5 ⊢
   split at h5
   ·exact absurd (show (1:Int)=0 from h5) (by decide)
   rename_i h6
   rw [if_neg h6]
   cases hp:putF c t x with
   | none=>rw [hp] at h5;exact absurd (show (9:Int)=0 from h5) (by decide)
   | some y =>
    rw [hp] at h5
    simp only at h5 ⊢
    split at h5
    ·rename_i h7
     rw [if_pos h7];exact h7
    exact absurd (show (3:Int)=0 from h5) (by decide)
  exact Yl r (by simpa using h4) e h
/-! The trees of all columns ahead, from the last move to the first. -/
def Iv (c:List Col):List Mov→List Expr×Int
 | []=>(Dy c,0)
 | m::r=>if (Iv (By c m).1 r).2 != 0 then ([],(Iv (By c m).1 r).2) else if (C1 (By c m).1 (Iv (By c m).1 r).1 m.back).2 != 0 then ([],(C1 (By c m).1 (Iv (By c m).1 r).1 m.back).2)
  else (Jr c m.take (C1 (By c m).1 (Iv (By c m).1 r).1 m.back).1 (Iv (By c m).1 r).1 (By c m).1,0)
theorem ACu {c:List Col} {m:Mov} (hc:OkCols c) (hm:OkMov m):OkCols (By c m).1:=by
 simpa [colsAt] using Gc hc (ms:=[m]) (fun x hx=>by rw [B7.1 hx];exact hm) 1
theorem Ue {c:List Col} (h:Ci c=true):((Cn c []).2 != 0)=false:=by
 have:Ke c []=true:=by unfold Ke;rw [h];rfl
 unfold Cn Hd
 rw [if_pos this]
 rfl
theorem x7 {c:List Col} (h:Ci c=true):F3 c []=(Dy c,0):=by rw [bx (Ue h)];rfl
theorem ACv {c d:List Col} {take:List Str} {was t:List Expr} {p:Expr→Prop} (h0:p Au) (hw:∀e∈was,p e) (ht:∀e∈t,p e):∀e∈Jr c take was t d,p e:=fun e he=>by
 obtain ⟨x,_,rfl⟩:=C2.1 he
 rcases sa (take:=take) (was:=was) (t:=t) (d:=d) (x:=x) with h|h|h
 ·exact hw _ h
 ·exact ht _ h
 rw [h];exact h0
/-- Trees that may be put. -/
structure BOk (t:List Expr) (n:Nat):Prop where
 tok:TOk t
 size:∀e∈t,sizeE e≤1048576
 len:t.length=n
theorem la:∀(l:List Mov) (c:List Col),OkCols c→(∀m∈l,OkMov m)→(Iv c l).2=0→BOk (Iv c l).1 c.length
 | [],c,hc,_,_=>⟨g7 hc,ACt (c:=c) (l0:=[]),by simp [Iv,Dy]⟩
 | m::r,c,hc,hm,h=>by
  have hmo:=hm m Gk
  unfold Iv at h ⊢
  split at h
  ·rename_i h1;exact absurd h (by simpa using h1)
  rename_i h1
  rw [if_neg h1]
  have ih:=la r _ (ACu hc hmo) (fun x hx=>hm x (Hm _ hx)) (by simpa using h1)
  split at h
  ·rename_i h2;exact absurd h (by simpa using h2)
  rename_i h2
  rw [if_neg h2]
  have h3:=Yl m.back (by simpa using h2)
  refine ⟨kv (Ps ih.tok _ hmo.back.ok hmo.back.rng (by simpa using h2)) ih.tok,ACv (by decide) (fun e he=>?_) ih.size,by simp [Jr]⟩
  have h4:=h3 e he
  rw [Fx] at h4
  have:=(U8 h4).2
  omega
set_option maxHeartbeats 1000000 in
theorem AGa {c:List Col} {ms:List Mov} {i:Nat} {t:List Expr} {m:Mov} (hk:ms[i]? = some m):Ri c ms i t=C1 (colsAt c ms (i+1)) t m.back:=by unfold Ri;rw [Bw,hk];rfl
theorem cg {c:List Col} {ms:List Mov} {z:Int} (hz:z≠0):∀i,i≤ms.length→Iv (colsAt c ms i) (ms.drop i)=([],z)→Iv c ms=([],z)
 | 0,_,h=>h
 | i+1,hi,h=>by
  have hk:ms[i]? = some ms[i]:=Ab (by omega)
  refine cg hz i (by omega) ?_
  rw [Lf hk,Iv,←H5 hk,h]
  exact if_pos (by simpa using hz)
theorem lb {c:List Col} {ms:List Mov}:∀i,i≤ms.length→∀t,Iv (colsAt c ms i) (ms.drop i)=(t,0)→Iv c ms=P5 c ms i t
 | 0,_,t,h=>h
 | i+1,hi,t,h=>by
  have hk:ms[i]? = some ms[i]:=Ab (by omega)
  have e:Iv (colsAt c ms i) (ms.drop i)=if (Ri c ms i t).2 != 0 then ([],(Ri c ms i t).2) else (Jr (colsAt c ms i) (ms.getD i Ub).take (Ri c ms i t).1 t (colsAt c ms (i+1)),0):=by
   rw [Lf hk,Iv,←H5 hk,h,AGa hk,Bw,hk]
   exact if_neg (by simp)
  rw [P5]
  split
  ·rename_i h1
   exact cg (by simpa using h1) i (by omega) (e.trans (if_pos h1))
  rename_i h1
  exact lb i (by omega) _ (e.trans (if_neg h1))
theorem sg {c:List Col} {l:List Mov} (h:((Cn c l).2 != 0)=false):Iu c l=Iv c l:=by
 rw [So h]
 exact (lb l.length (Am _) _ (by rw [W4];rfl)).symm
theorem cj {c:List Col} {l:List Mov} (b:Bool) (h:((Hd c l).2 != 0)=b):((Cn c l).2 != 0)=b:=by
 unfold Cn
 split
 ·exact h
 exact h
theorem c26 (a:List Expr) (ha:∀e∈a,okE 61 e) (hl:a.length≤1048576) (Hp:List AObj):AFun Tryz.prog 26 [Bo a,Bo a] Hp (Az true):=by
 refine Ae [.tmp 4] [0,1] Tryz.func26 Tryz.ntmps26 (fun d=>?_)
 refine Z36 ?_;refine ek ?_;refine A2 [0,1,10] ?_
 refine A4 (fun ht10=>?_) (fun ht10=>?_)
 ·simp at ht10
 refine Oi ?_;refine Vg ?_
 refine Bf (α:=Nat) (fun x=>⟨27,A6 0 (Bo a) (A6 1 (Bo a) (A6 5 (A3 (x:Nat)) (fun _=>.any))),Hp,[],[],none⟩) (fun x=>x≤a.length) (fun x=>a.length-x) (0) (Ar _) (Bj (by simp)) rfl (fun x hx=>?_)
 refine Z83 ?_;refine A2 [0,1,5,14] ?_
 refine A4 (fun ht14=>?_) (fun ht14=>?_)
 ·have hlt:x<a.length:=by simpa using ht14
  refine Oh ?_;refine Dt [0,0,3,7,0,0,48,112,255,511] 8 Aj (by kernel_rfl) ?_;refine Z8 ?_
  refine Aq (h:=Ai (x) (A7 a[x]) (fun _=>B6 hlt)) (hr:=?_)
  refine Z33 ?_
  refine Aq (h:=Ai (x) (A7 a[x]) (fun _=>B6 hlt)) (hr:=?_)
  refine uk ?_;refine Aa Tryz.call27 (c27 61 a[x] (ha _ (Be hlt)) a[x] _) ?_;refine A5 ?_;refine A2 [0,1,5,26] ?_
  refine A4 (fun ht26=>?_) (fun ht26=>?_)
  ·exfalso
   simp [Xg] at ht26
  refine ef ?_;refine Vg ?_;exact Bg (x+1) hlt (by omega) (Dn rfl)
 refine Pu ?_;refine Z41 ?_;exact uq

/-! How long plan.Text's pieces are. -/
/-- The trees forth are as many as the columns behind, and may be walked. -/
theorem Ym {c:List Col} {l:List Mov} (hc:OkCols c) (h:OkMovs l) (hs:((Cn c l).2 != 0)=false):TOk (F3 c l).1∧((F3 c l).2=0→(F3 c l).1.length=(E5 c l).1.length):=by
 obtain ⟨hmay,hst,_⟩:=Nj hs
 have hmv:=U9 hmay
 have e:F3 c l=K2 c (Dy c) l:=if_neg (by rw [hs];simp)
 have key:∀k,k≤l.length→(Md c l k∧TOk (C7 c l k)∧(C7 c l k).length=(colsAt c l k).length)∨(∃z,z≠0∧K2 c (Dy c) l=([],z)):=by
  intro k
  induction k with
  | zero=>exact fun _=>.inl ⟨AMx,g7 hc,by simp [C7,Dy,colsAt]⟩
  | succ k ih =>
   intro hk
   rcases ih (by omega) with ⟨h1,h2,h3⟩|h1
   ·have hmk:l[k]? = some l[k]:=Ab (by omega)
    cases he:((C1 (colsAt c l k) (C7 c l k) l[k].ahead).2 != 0) with
    | true=>exact .inr ⟨_,by simpa using he,AC5 hmk h1 he⟩
    | false=>exact .inl ⟨s7 hmk h1 he,s8 hmk (h.each _ (Be (by omega))) h2 he,ku hmk (hmv _ (Be (by omega))) (g8 hst hmk) h3 he⟩
   exact .inr h1
 rcases key l.length (Am _) with ⟨h1,h2,h3⟩|⟨z,hz,h1⟩
 ·rw [e,AC6 h1,Ua hs]
  exact ⟨h2,fun _=>h3⟩
 rw [e,h1]
 exact ⟨⟨fun e h=>(Ej h).elim,fun e h=>(Ej h).elim⟩,fun h=>absurd h hz⟩
theorem Vx {c:List Col} {l:List Mov} (hc:OkCols c) (h:OkMovs l) (h0:((E5 c l).2 != 0)=false):((Cn c l).2 != 0)=false∧OkCols (E5 c l).1:=by
 have hs:((Cn c l).2 != 0)=false:=by
  unfold E5 at h0
  split at h0
  ·rename_i h1;rw [show ((Cn c l).2 != 0)=false from h0] at h1;cases h1
  rename_i h1;simpa using h1
 exact ⟨hs,by rw [Ua hs];exact Gc hc (fun m hm=>h.each m hm) _⟩
theorem V8 {c:List Col} {l:List Mov}:(Fz c l).2=(Hd c l).2:=by
 unfold Fz Hd
 split<;>rfl
theorem pi {c:List Col} {l:List Mov} (b:Bool) (h:((Fz c l).2 != 0)=b):((Cn c l).2 != 0)=b:=cj b (by rw [←V8];exact h)
theorem sh {q:Qry} {c:List Col} {l:List Mov} (h:((E5 c l).2 != 0)=true):Ba q c l=(Hz,1):=if_pos h
theorem AHa {q:Qry} {c:List Col} {l:List Mov} (h:((E5 c l).2 != 0)=false) (h1:(Bp q (E5 c l).1 != 0)=true):Ba q c l=(Hz,Bp q (E5 c l).1):=by
 unfold Ba;rw [if_neg (by rw [h];simp),if_pos h1]
theorem AHb {q:Qry} {c:List Col} {l:List Mov} (h:((E5 c l).2 != 0)=false) (h1:(Bp q (E5 c l).1 != 0)=false) (h2:((F3 c l).2 != 0)=true):Ba q c l=(Hz,(F3 c l).2):=by
 unfold Ba;rw [if_neg (by rw [h];simp),if_neg (by rw [h1];simp),if_pos h2]
theorem AHc {q:Qry} {c:List Col} {l:List Mov} (h:((E5 c l).2 != 0)=false) (h1:(Bp q (E5 c l).1 != 0)=false) (h2:((F3 c l).2 != 0)=false):Ba q c l=Hj q (E5 c l).1 (F3 c l).1:=by
 unfold Ba;rw [if_neg (by rw [h];simp),if_neg (by rw [h1];simp),if_neg (by rw [h2];simp)]
theorem AHd {q:Qry} {c:List Col} {l:List Mov} (h:((Fz c l).2 != 0)=true):Li q c l=(Hz,1):=if_pos h
theorem ANi {q:Qry} {c:List Col} {l:List Mov} (h:((Fz c l).2 != 0)=false) (h1:(Bp q c != 0)=true):Li q c l=(Hz,Bp q c):=by
 unfold Li;rw [if_neg (by rw [h];simp),if_pos h1]
theorem ANj {q:Qry} {c:List Col} {l:List Mov} (h:((Fz c l).2 != 0)=false) (h1:(Bp q c != 0)=false) (h2:((Iu c l).2 != 0)=true):Li q c l=(Hz,(Iu c l).2):=by
 unfold Li;rw [if_neg (by rw [h];simp),if_neg (by rw [h1];simp),if_pos h2]
theorem ANk {q:Qry} {c:List Col} {l:List Mov} (h:((Fz c l).2 != 0)=false) (h1:(Bp q c != 0)=false) (h2:((Iu c l).2 != 0)=false):Li q c l=Hj q c (Iu c l).1:=by
 unfold Li;rw [if_neg (by rw [h];simp),if_neg (by rw [h1];simp),if_neg (by rw [h2];simp)]
/-- What the trees of a turn must be. -/
structure TreesOk (q:Qry) (c:List Col) (t:List Expr):Prop where
 len:t.length≤1048576
 cl:c.length=t.length
 ok:∀e∈t,okE 61 e
 names:∀s∈q.cols,¬Aw s c<0
theorem lc {q:Qry} {c:List Col} {l:List Mov} (hc:OkCols c) (h:OkMovs l) (h0:((E5 c l).2 != 0)=false) (h1:(Bp q (E5 c l).1 != 0)=false) (h2:((F3 c l).2 != 0)=false):TreesOk q (E5 c l).1 (F3 c l).1:=by
 obtain ⟨hs,hB⟩:=Vx hc h h0
 obtain ⟨ht,hl⟩:=Ym hc h hs
 have hl:=hl (by simpa using h2)
 exact ⟨by rw [hl];exact hB.len,hl.symm,ht.ok,Lk (by simpa using h1)⟩
theorem pj {q:Qry} {c:List Col} {l:List Mov} (hc:OkCols c) (h:OkMovs l) (h0:((Fz c l).2 != 0)=false) (h1:(Bp q c != 0)=false) (h2:((Iu c l).2 != 0)=false):TreesOk q c (Iu c l).1∧∀e∈(Iu c l).1,sizeE e≤1048576:=by
 have hs:=pi false h0
 have e:=sg hs
 have hb:=la l c hc (fun m hm=>h.each m hm) (by rw [←e];simpa using h2)
 rw [←e] at hb
 exact ⟨⟨by rw [hb.len];exact hc.len,hb.len.symm,hb.tok.ok,Lk (by simpa using h1)⟩,hb.size⟩
theorem c11 (q:Qry) (hq:QW q) (c:List Col) (hc:OkCols c) (hc2:c.length≤1000000) (l:List Mov) (h:OkMovs l) (Hp:List AObj):AFun Tryz.prog 11 [Nx q,An c,Gm l] Hp (.tup [Yh (Ba q c l).1,A3 (Ba q c l).2]):=by
 refine Ae [.cell 6 37,.tmp 7] [0,1,2] Tryz.func11 Tryz.ntmps11 (fun d=>?_)
 refine Z2 ?_;refine uc ?_;refine Z1 ?_;refine Aa Tryz.call21 (c21 c hc hc2 l h _) ?_;refine Z81 ?_;refine A2 [1,2,3,6,8,9] ?_;refine Z7 ?_;refine A2 [1,2,3,6,8,19] ?_
 refine A4 (fun ht19=>?_) (fun ht19=>?_)
 ·refine Z29 ?_;refine AHu ?_;exact A8 (B1 (B3 jA jS) A9) ⟨by rw [sh ht19]<;>rfl,rfl⟩ (hlow:=by simp [or_imp,forall_and]<;>(repeat' apply And.intro)<;>(intros;exact Ah _ _))
 obtain ⟨hs,hB⟩:=Vx hc h ht19
 refine Zi ?_;refine Aa Tryz.call25 (c25 q hq _ hB _) ?_;refine A5 ?_;refine A2 [1,2,3,6,8,10] ?_;refine Z1 ?_;refine A2 [1,2,3,6,8,10,25] ?_
 refine A4 (fun ht25=>?_) (fun ht25=>?_)
 ·refine Z29 ?_;refine ul ?_;exact A8 (B1 (B3 jA jS) A9) ⟨by rw [AHa ht19 ht25]<;>rfl,rfl⟩ (hlow:=by simp [or_imp,forall_and]<;>(repeat' apply And.intro)<;>(intros;exact Ah _ _))
 refine Z98 ?_;refine Aa Tryz.call32 (c32 c hc hc2 l h _) ?_;refine Z81 ?_;refine A2 [3,6,8,9,11] ?_;refine Z7 ?_;refine A2 [3,6,8,9,11,35] ?_
 refine A4 (fun ht35=>?_) (fun ht35=>?_)
 ·refine Z29 ?_;refine ul ?_;exact A8 (B1 (B3 jA jS) A9) ⟨by rw [AHb ht19 ht25 ht35]<;>rfl,rfl⟩ (hlow:=by simp [or_imp,forall_and]<;>(repeat' apply And.intro)<;>(intros;exact Ah _ _))
 have hT:=lc hc h ht19 ht25 ht35
 refine Qy ?_;refine Aa Tryz.call33 (c33 q hq (E5 c l).1 hB (F3 c l).1 hT.len hT.cl hT.ok hT.names _) ?_;refine Z0 ?_;refine Z68 ?_;exact A8 (B1 (B3 jA jS) A9) ⟨by rw [AHc ht19 ht25 ht35]<;>rfl,rfl⟩ (hlow:=by simp [or_imp,forall_and]<;>(repeat' apply And.intro)<;>(intros;exact Ah _ _))

theorem AQy (q:Qry) (hq:QW q) (c:List Col) (hc:OkCols c) (hc2:c.length≤1000000) (l:List Mov) (h:OkMovs l) (Hp:List AObj):AFun Tryz.prog 12 [Nx q,An c,Gm l] Hp (.tup [Yh (Li q c l).1,A3 (Li q c l).2]):=by
 refine Ae [.cell 6 37,.tmp 7] [0,1,2] Tryz.func12 Tryz.ntmps12 (fun d=>?_)
 refine Z2 ?_;refine uc ?_;refine Z7 ?_;refine Aa Tryz.call34 (c34 c hc hc2 l h _) ?_;refine Z81 ?_;refine A2 [1,2,3,6,9] ?_;refine Z1 ?_;refine A2 [1,2,3,6,20] ?_
 refine A4 (fun ht20=>?_) (fun ht20=>?_)
 ·refine Z29 ?_;refine AHu ?_;exact A8 (B1 (B3 jA jS) A9) ⟨by rw [AHd ht20]<;>rfl,rfl⟩ (hlow:=by simp [or_imp,forall_and]<;>(repeat' apply And.intro)<;>(intros;exact Ah _ _))
 refine Zi ?_;refine Aa Tryz.call25 (c25 q hq c hc _) ?_;refine A5 ?_;refine A2 [1,2,3,6,10] ?_;refine Z1 ?_;refine A2 [1,2,3,6,10,26] ?_
 refine A4 (fun ht26=>?_) (fun ht26=>?_)
 ·refine Z29 ?_;refine ul ?_;exact A8 (B1 (B3 jA jS) A9) ⟨by rw [ANi ht20 ht26]<;>rfl,rfl⟩ (hlow:=by simp [or_imp,forall_and]<;>(repeat' apply And.intro)<;>(intros;exact Ah _ _))
 refine Z98 ?_;refine Aa Tryz.call35 (c35 c hc hc2 l h _) ?_;refine Z81 ?_;refine A2 [1,3,6,11,12] ?_;refine Z7 ?_;refine A2 [1,3,6,11,12,36] ?_
 refine A4 (fun ht36=>?_) (fun ht36=>?_)
 ·refine Z29 ?_;refine ul ?_;exact A8 (B1 (B3 jA jS) A9) ⟨by rw [ANj ht20 ht26 ht36]<;>rfl,rfl⟩ (hlow:=by simp [or_imp,forall_and]<;>(repeat' apply And.intro)<;>(intros;exact Ah _ _))
 have hT:=(pj hc h ht20 ht26 ht36).1
 refine Qy ?_;refine Aa Tryz.call33 (c33 q hq c hc (Iu c l).1 hT.len hT.cl hT.ok hT.names _) ?_;refine Z0 ?_;refine Z68 ?_;exact A8 (B1 (B3 jA jS) A9) ⟨by rw [ANk ht20 ht26 ht36]<;>rfl,rfl⟩ (hlow:=by simp [or_imp,forall_and]<;>(repeat' apply And.intro)<;>(intros;exact Ah _ _))

/-! What ref22.Run answers is what query.Run answers. -/
/-! mig.Parse: the first fault is mr. -/
inductive PR (α:Type) where
 | ok (r:α) (i:Nat)
 | bad (e a:Int)
def PR.bind {α β:Type} (x:PR α) (f:α→Nat→PR β):PR β:=match x with
 | .ok r i=>f r i
 | .bad e a=>.bad e a
def ck {α:Type} (L:List Tok) (i:Nat) (e:Int):PR α:=.bad e (Af L i).at_
def isP (L:List Tok) (s:Str) (i:Nat):Bool:=(((Af L i).kind==5) || ((Af L i).kind==2))&&((Af L i).text==s)
def D5 (L:List Tok) (s:Str) (i:Nat):PR Unit:=if isP L s i then .ok () (i+1) else ck L i 8
def Hl (L:List Tok) (i:Nat):PR Str:=if (Af L i).kind != 1 then ck L i 8 else .ok (Af L i).text (i+1)
def si (L:List Tok) (nm:Str) (j:Nat):PR Col:=if ((Af L j).kind != 2) || (Uy (Af L j).text==0) then ck L j 8 else .ok ⟨nm,Uy (Af L j).text⟩ (j+1)
def Kj (L:List Tok) (i:Nat):PR Col:=(Hl L i).bind (si L)
def Nu (L:List Tok) (i:Nat):PR Expr:=if (atM L i).2.2.1 != 0 then .bad (atM L i).2.2.1 (atM L i).2.2.2 else .ok (atM L i).1 (atM L i).2.1.toNat
def E6 (m:Mov) (c:Col):Mov:={ m with give:=m.give++[c] }
def sj (m:Mov) (x:Expr):Mov:={ m with ahead:=m.ahead++[x] }
def Fb (L:List Tok) (m:Mov) (i:Nat):PR Mov:=(Kj L i).bind fun c j=>(D5 L [61] j).bind fun _ j=>(Nu L j).bind fun x j=>.ok (sj (E6 m c) x) j
def V9 (L:List Tok) (n:Int) (k:Nat) (i:Nat):Bool:=decide ((k:Int)<n) || ((n==0)&&(decide ((k:Int)<2) || isP L [44] i))
/-- Things with commas between, behind the first k. -/
def Sv (L:List Tok) (n:Int) (one:Mov→Nat→PR Mov):Nat→Nat→Mov→Nat→PR Mov
 | 0,_,m,i=>.ok m i
 | f+1,k,m,i=>if V9 L n k i then (D5 L [44] i).bind fun _ j=>(one m j).bind fun m j=>Sv L n one f (k+1) m j else .ok m i
def Ii (L:List Tok) (n:Int) (one:Mov→Nat→PR Mov) (m:Mov) (i:Nat):PR Mov:=(one m i).bind fun m j=>Sv L n one (L.length+1) 1 m j
def ACw:Str:=[98,97,99,107]
def K7:Str:=[105,110,116,111]
def toW:Str:=[116,111]
def sk (m:Mov) (x:Expr):Mov:={ m with back:=m.back++[x] }
def Va (L:List Tok) (m:Mov) (i:Nat):PR Mov:=(Nu L i).bind fun x j=>.ok (sk m x) j
def G9 (L:List Tok) (m:Mov) (i:Nat):PR Mov:=(D5 L ACw i).bind fun _ j=>Ii L m.take.length (Va L) m j
def Kk (L:List Tok) (m:Mov) (i:Nat):PR Mov:=(Hl L i).bind fun s j=>(D5 L toW j).bind fun _ j=>(Hl L j).bind fun t j=>.ok ⟨m.kind,[s],[⟨t,0⟩],[Cm s],[Cm t]⟩ j
def takeS (m:Mov) (s:Str):Mov:={ m with take:=[s] }
def sm (m:Mov) (s:Str):Mov:={ m with take:=m.take++[s] }
def Sw (L:List Tok) (m:Mov) (i:Nat):PR Mov:=(Hl L i).bind fun s j=>.ok (sm m s) j
def Ij (L:List Tok) (m:Mov) (i:Nat):PR Mov:=
 if m.kind==1 then Fb L m i
 else if m.kind==2 then (Hl L i).bind fun s j=>G9 L (takeS m s) j
 else if m.kind==3 then Kk L m i
 else if m.kind==4 then (Hl L i).bind fun s j=>(D5 L K7 j).bind fun _ j=>(Ii L 0 (Fb L) (takeS m s) j).bind fun m j=>G9 L m j
 else if m.kind==5 then (Ii L 0 (Sw L) m i).bind fun m j=>(D5 L K7 j).bind fun _ j=>(Fb L m j).bind fun m j=>G9 L m j
 else if m.kind==6 then (Fb L m i).bind fun m j=>G9 L (takeS m (m.give.getD 0 ⟨[],0⟩).name) j
 else .ok m i
def migWords:List Str:=[[],[97,100,100],[100,114,111,112],[114,101,110,97,109,101],[115,112,108,105,116],[109,101,114,103,101],[114,101,116,121,112,101]]
def Et (k:Int):Str:=if (decide (k<1) || decide (6<k))=true then [] else migWords.getD k.toNat []
def Hq (s:Str):Int:=if Et 1==s then 1 else if Et 2==s then 2 else if Et 3==s then 3 else if Et 4==s then 4 else if Et 5==s then 5 else if Et 6==s then 6 else 0
def P9 (L:List Tok) (i:Nat):PR Mov:=
 if ((Af L i).kind != 2) || (Hq (Af L i).text==0) then ck L i 8
 else (Ij L ⟨Hq (Af L i).text,[],[],[],[]⟩ (i+1)).bind fun m j=>(D5 L [59] j).bind fun _ j=>.ok m j
/-- Moves, behind some. -/
def Nl (L:List Tok):Nat→List Mov→Nat→PR (List Mov)
 | 0,l,i=>.ok l i
 | f+1,l,i=>if (Af L i).kind != 0 then (if (l.length:Int)==8 then ck L i 3 else (P9 L i).bind fun m j=>Nl L f (l++[m]) j) else .ok l i
def K3 (L:List Tok):PR (List Mov):=Nl L 9 [] 0
/-- The moves; the fault's code and place. -/
def Yn (s:Str):List Mov×Int×Int:=
 if (Bd s).2.1 != 0 then ([],(Bd s).2.1,(Bd s).2.2)
 else match K3 (Bd s).1 with
  | .ok l _=>(l,0,0)
  | .bad e a=>([],e,a)
end Go.SX.Nb
namespace Go.SX
variable [GI:GlobInv]
open Classical
section
variable {P:Program} {d:Nat}
variable {sz:Nat} {dfs:List Nat} {rnd:Option Nat} {l0:List Oper} {up own:(Nat→Bool)→List AObj} {KP:List PanicEntry→St→Prop} {E:List Oper→(Nat→AV)→Prop} {S:List SegY} {l:List Oper} {fr:Nat→AV} {ty:TypeId} {pos:String} {aft:Array Edge} {s:Nat} {T F:List Nat}
end
section
variable {P:Program} {d:Nat} {ops:Array Oper}
theorem AW.upEq {c:Code} {sz:Nat} {fr:Nat→AV} {up up' own:List AObj} {dfs:List Nat} {rnd:Option Nat} {K:Exit→St→Prop} (e:up=up') (h:AW P d c ⟨sz,fr,up',own,dfs,rnd⟩ K):AW P d c ⟨sz,fr,up,own,dfs,rnd⟩ K:=e ▸ h
end
end Go.SX
namespace Go.SX
def Rj:=@AW.upEq
end Go.SX
