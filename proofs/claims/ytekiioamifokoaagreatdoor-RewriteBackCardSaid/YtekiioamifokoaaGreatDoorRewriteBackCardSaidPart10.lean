/- On the way (part 10). -/
import Derived.Test.YtekiioamifokoaaGreatDoorRewriteBackCardSaidPart9
set_option linter.all false
namespace Go.SX.Nb
open Go Go.SX Go.Proofs
variable [ErrAt]
set_option maxRecDepth 4000
theorem c77 (l:List Expr) (hl:l.length≤1048576) (Hp:List AObj):AFun Tryz.prog 77 [C4 l] Hp (C4 l):=by
 refine Ae [.tmp 2] [0] Tryz.func77 Tryz.ntmps77 (fun d=>?_)
 refine Z42 ?_;refine Z33 ?_
 refine R.eqlNil jU (by kernel_rfl) (fun b hb=>?_)
 refine A2 [0,4] ?_
 refine A4 (fun ht4=>?_) (fun ht4=>?_)
 ·have hl0:l=[]:=by simpa using hb ht4
  subst hl0
  refine Z2 ?_;refine M7 2 6 false ?_;refine Z4 ?_;refine Cz ?_;exact AP8
 refine Z3 ?_;refine Z41 ?_;refine A5 ?_
 refine E6 jU Tryz.type27 ?_ ?_ ?_
 ·simp [Tryz.t27];omega
 ·simp [Tryz.t27];omega
 refine Oj ?_;refine Z4 ?_;exact AP8

theorem c33 (q:Qry) (h:QW q) (c:List Col) (hc:OkCols c) (l:List Expr) (hll:l.length≤1048576) (hcl:c.length=l.length) (hlo:∀e∈l,okE 61 e) (hn:∀s∈q.cols,¬Ay s c<0) (Hp:List AObj):AFun Tryz.prog 33 [Rl q,Am c,C4 l] Hp (.tup [jt (Kx q c l).1,A3 (Kx q c l).2]):=by
 refine Ae [.cell 6 37,.tmp 7] [0,1,2] Tryz.func33 Tryz.ntmps33 (fun d=>?_)
 refine Z2 ?_;refine xf ?_;refine Z1 ?_;refine Pv (places:=#[(0,1),(1,6),(7,1)]) jU (fun w=>by simp) jZ ?_;refine Z9 ?_;refine A2 [1,2,3,6,8] ?_;refine Z43 ?_;refine Hg 1 0 6 ?_;refine Hg 1 6 6 ?_;refine Z68 ?_;refine A2 [1,2,3,6,8,17,18,19] ?_
 refine Bi (α:=Nat) (fun i=>⟨60,A6 1 (Am c) (A6 2 (C4 l) (A6 3 (.ro (qoC false q)) (A6 6 (.ptr (oid Hp.length 0) 0) (A6 8 (.ptr (oid Hp.length 1) 0) (A6 17 (G9 q.cols) (A6 18 (A3 (q.cols.length:Nat)) (A6 19 (A3 (i:Nat)) (fun _=>.any)))))))),Hp,[.cells 37 [.nil,A3 0,Ac [],A3 0,A3 0,Ac [],.nil,A3 0],.cells 37 [.slice true 6 (((q.cols.take i).map (Lc c l)).map Aa),A3 0,Ac [],A3 0,A3 0,Ac [],.slice true 6 [],A3 q.lim]],[],none⟩) (fun i=>i≤q.cols.length) (fun i=>q.cols.length-i) (0) (Au _) (Bo (by simp)) rfl (fun i hi=>?_)
 refine Z2 ?_;refine A2 [1,2,3,6,8,17,18,19,20] ?_
 refine Ck (fun ht20=>?_) (fun ht20=>?_)
 ·have hlt:i<q.cols.length:=by simpa using ht20
  have hkl:=h.len
  obtain ⟨j,hj,hjc⟩:=vz (hn _ (Bl hlt))
  have hk:0≤Ay q.cols[i] c∧(Ay q.cols[i] c).toNat<l.length:=by omega
  have hget:(l.map Aa)[(Ay q.cols[i] c).toNat]? = some (Aa (Lc c l q.cols[i])):=by
   rw [C5,Ab hk.2]
   unfold Lc
   rw [Bv,Ab hk.2]
   rfl
  refine Z73 ?_
  refine A5 (h:=Ag (i) (Ac q.cols[i]) (fun _=>B7 hlt)) (hr:=?_)
  refine Z0 ?_;refine A2 [1,2,3,6,8,10,17,18,19] ?_;refine Se [0,1,0,0,0,24,60,124,252,511,1023,2047] [1] [.q 1 [] [0],.s [24] (some 0) [] [],.q 7 [] []] (fun _=>Hp) (fun B=>[.cells 37 [.nil,A3 0,Ac [],A3 0,A3 0,Ac [],.nil,A3 0],.cells 37 (if B 0=true then [.slice false 6 (((q.cols.take i).map (Lc c l)).map Aa),A3 0,Ac [],A3 0,A3 0,Ac [],.slice true 6 [],A3 q.lim] else [.slice true 6 (((q.cols.take i).map (Lc c l)).map Aa),A3 0,Ac [],A3 0,A3 0,Ac [],.slice true 6 [],A3 q.lim])]) An (by kernel_rfl) rfl rfl (fun _=>rfl) ?_
  apply Y.q
  ·intro B hT hF
   exact Z56
  case hTF=>decide
  refine Y.loadOwnT (u:=Hp.length) (n:=1) (t':=37) (cs:=[.slice true 6 (((q.cols.take i).map (Lc c l)).map Aa),A3 0,Ac [],A3 0,A3 0,Ac [],.slice true 6 [],A3 q.lim]) (cs':=[.slice false 6 (((q.cols.take i).map (Lc c l)).map Aa),A3 0,Ac [],A3 0,A3 0,Ac [],.slice true 6 [],A3 q.lim]) Tryz.isAgg25 (fun B hB=>⟨rfl,by simp only [hB];rfl,by simp [upd],rfl⟩) ?_
  apply Y.q
  ·intro B hT hF
   refine Z35 ?_;refine Du Tryz.call60 (c60 c hc q.cols[i] _) ?_
   refine Aq (h:=Ag ((Ay q.cols[i] c).toNat) (Aa (Lc c l q.cols[i])) (fun _=>hget)) (hr:=?_)
   exact pv
  case hTF=>decide
  refine Ej (tn:=[1]) (O:=[.cells 37 [.nil,A3 0,Ac [],A3 0,A3 0,Ac [],.nil,A3 0],.cells 37 [.slice false 6 (((q.cols.take i).map (Lc c l)).map Aa),A3 0,Ac [],A3 0,A3 0,Ac [],.slice true 6 [],A3 q.lim]]) ?_
  refine E6 jU Tryz.type27 ?_ ?_ ?_
  ·simp only [Ah,C1,B0,Bu,Tryz.t27];omega
  ·simp only [Ah,C1,B0,Bu,Tryz.t27];omega
  refine AGs ?_;refine A2 [1,2,3,6,8,17,18,19] ?_;refine Q3 ?_;refine A2 [1,2,3,6,8,17,18,19] ?_;refine Bt (i+1) hlt (by omega) ?_;exact Dx (by simp only [Ty hlt,Bj,Bm,Dc,Ap];rfl)
 have hxe:q.cols.length≤i:=by simpa using ht20
 rw [E9 hxe]
 refine Z27 ?_;refine Z7 ?_;refine A2 [1,2,3,6,8,36] ?_
 refine A4 (fun ht36=>?_) (fun ht36=>?_)
 ·have htr:=AA4 (c:=c) (l:=l) ht36
  refine Z50 ?_;refine A7 Tryz.call77 (c77 l hll _) ?_;refine A5 ?_;refine Hh ?_;refine A2 [1,2,3,6,8] ?_;refine Il ?_;refine Z79 ?_;refine A2 [1,2,3,6,8,43] ?_
  refine A4 (fun ht43=>?_) (fun ht43=>?_)
  ·refine Z2 ?_;refine Z69 ?_;exact AN4
  refine Y6 ?_;refine A7 Tryz.call78 (c78 q.whr h.ok c hc l hll hlo _) ?_;refine Rf ?_;refine A2 [6,8,11,12] ?_;refine Z7 ?_;refine A2 [6,8,11,12,54] ?_
  refine A4 (fun ht54=>?_) (fun ht54=>?_)
  ·refine Z32 ?_;refine A5 ?_;refine Z69 ?_;exact AN5
  refine Nc ?_;refine Hh ?_;refine A2 [6,8] ?_;refine Z2 ?_;exact AN3
 have htr:=sk (c:=c) (l:=l) ht36
 refine Z3 ?_;refine Z79 ?_;refine A2 [1,2,3,6,8,43] ?_
 refine A4 (fun ht43=>?_) (fun ht43=>?_)
 ·refine Z2 ?_;refine Z69 ?_;exact AN4
 refine Y6 ?_;refine A7 Tryz.call78 (c78 q.whr h.ok c hc l hll hlo _) ?_;refine Rf ?_;refine A2 [6,8,11,12] ?_;refine Z7 ?_;refine A2 [6,8,11,12,54] ?_
 refine A4 (fun ht54=>?_) (fun ht54=>?_)
 ·refine Z32 ?_;refine A5 ?_;refine Z69 ?_;exact AN5
 refine Nc ?_;refine Hh ?_;refine A2 [6,8] ?_;refine Z2 ?_;exact AN3

def Hn (q:Qry) (c:List Col) (rows:List Row) (k:Nat):List Row:=((rows.take k).filter fun x=>(Cj q c x.l).1).map (Ku q c)
theorem Vt {q:Qry} {c:List Col} {rows:List Row} {k:Nat} {y:Row} (hk:rows[k]? = some y) (hf:(Cj q c y.l).1=false):Hn q c rows (k+1)=Hn q c rows k:=by
 unfold Hn
 rw [O6,hk,Pk]
 simp [Hz,hf]
theorem Ud {q:Qry} {c:List Col} {rows:List Row} {k:Nat} {y:Row} (hk:rows[k]? = some y) (hf:(Cj q c y.l).1=true):Hn q c rows (k+1)=Hn q c rows k++[Ku q c y]:=by
 unfold Hn
 rw [O6,hk,Pk]
 simp [Hz,hf]
theorem am (q:Qry) (c:List Col) (rows:List Row) (k:Nat):(Hn q c rows k).length≤rows.length:=by
 unfold Hn
 rw [Ah]
 exact AP7
def NK (q:Qry) (c:List Col) (rows:List Row) (k:Nat):Prop:=Nl q c rows []=Nl q c (rows.drop k) (Hn q c rows k)
theorem Ue {rows:List Row} {k:Nat} {y:Row} (hk:rows[k]? = some y):rows.drop k=y::rows.drop (k+1):=by
 obtain ⟨h1,h2⟩:=Ad.1 hk
 rw [J1 h1,h2]
theorem AIv {q:Qry} {c:List Col} {rows:List Row} {k:Nat} {y:Row} (hk:rows[k]? = some y) (hN:NK q c rows k) (he:(Cj q c y.l).2≠0):Nl q c rows []=([],(Cj q c y.l).2):=by
 rw [hN,Ue hk,Nl,if_pos (by simpa using he)]
theorem AFe {q:Qry} {c:List Col} {rows:List Row} {k:Nat} {y:Row} (hk:rows[k]? = some y) (hN:NK q c rows k) (he:(Cj q c y.l).2=0) (hf:(Cj q c y.l).1=false):NK q c rows (k+1):=by
 unfold NK
 rw [hN,Ue hk,Nl,if_neg (by rw [he];simp),if_neg (by rw [hf];simp),Vt hk hf]
theorem AMh {q:Qry} {c:List Col} {rows:List Row} {k:Nat} {y:Row} (hk:rows[k]? = some y) (hN:NK q c rows k) (he:(Cj q c y.l).2=0) (hf:(Cj q c y.l).1=true) (hl:(((Hn q c rows k).length+1:Nat):Int)≠q.lim):NK q c rows (k+1):=by
 unfold NK
 rw [hN,Ue hk,Nl,if_neg (by rw [he];simp),if_pos hf,if_neg (by simpa using hl),Ud hk hf]
theorem AIw {q:Qry} {c:List Col} {rows:List Row} {k:Nat} {y:Row} (hk:rows[k]? = some y) (hN:NK q c rows k) (he:(Cj q c y.l).2=0) (hf:(Cj q c y.l).1=true) (hl:(((Hn q c rows k).length+1:Nat):Int)=q.lim):Nl q c rows []=(Hn q c rows (k+1),0):=by
 rw [hN,Ue hk,Nl,if_neg (by rw [he];simp),if_pos hf,if_pos (by simpa using hl),Ud hk hf]
theorem AIx {q:Qry} {c:List Col} {rows:List Row} (hN:NK q c rows rows.length):Nl q c rows []=(Hn q c rows rows.length,0):=by
 rw [hN,Xm,Nl]
theorem AQq {q:Qry} {c:List Col} {rows:List Row}:NK q c rows 0:=rfl
theorem f7 {n k:Nat} {o:Bool} {l:List Row}:Low n (.slice o k (l.map Eo)):=by simp [or_imp,forall_and]
theorem f8 {n k:Nat} {o:Bool} {l:List Row} {r:Row}:Low n (.slice o k (l.map Eo++[Eo r])):=by simp [or_imp,forall_and]
theorem AQr {U:List AObj} {i j:Nat} {x y:AObj} (h:U[i]? = some x) (hne:j≠i):(U.set j y)[i]? = some x:=by rw [Bk hne];exact h
theorem AIy {q:Qry} {c:List Col} {l:List Val} (h:(Cj q c l).2=0):c.length=l.length:=by
 have h1:=ze (q:=q) (c:=c) (l:=l) (by rw [h];rfl)
 unfold Ew at h1
 simp only [As,beq_iff_eq] at h1
 exact h1.1.2.symm
theorem P3 {q:Qry} {c:List Col} (h:Cu q c=0):∀s∈q.cols,¬Ay s c<0:=by
 intro s hs hf
 unfold Cu at h
 split at h
 ·cases h
 rw [if_pos (Fy.2 ⟨s,hs,by simpa using hf⟩)] at h
 cases h
theorem AIz {q:Qry} {c:List Col} {rows:List Row} (h:((Cu q c != 0) || (q.lim==0))=true):Vo q c rows=([],Cu q c):=if_pos h
theorem AJ0 {q:Qry} {c:List Col} {rows:List Row} (h:((Cu q c != 0) || (q.lim==0))=false):Cu q c=0∧Vo q c rows=Nl q c rows []:=by
 refine ⟨?_,if_neg (by rw [h];simp)⟩
 simp only [Ei,bne_eq_false_iff_eq] at h
 exact h.1
theorem c23 (q:Qry) (h:QW q) (c:List Col) (hc:OkCols c) (rows:List Row) (hw:RW rows) (Hp:List AObj):AFun Tryz.prog 23 [Rl q,Am c,Hu rows] Hp (.tup [Hu (Vo q c rows).1,A3 (Vo q c rows).2]):=by
 refine Ae [.cell 6 52,.cell 7 38] [0,1,2,10,11] Tryz.func23 Tryz.ntmps23 (fun d=>?_)
 refine Z1 ?_;refine Rj ?_;refine Rj ?_;refine A2 [2,3,4,6,7,10,11] ?_;refine Z7 ?_;refine A7 Tryz.call25 (c25 q h c hc _) ?_;refine A5 ?_;refine A2 [2,3,4,6,7,8,10,11] ?_;refine bq ?_;refine Z55 ?_;refine A2 [2,3,4,6,7,8,10,11,21] ?_
 refine A4 (fun ht21=>?_) (fun ht21=>?_)
 ·have hm:=AIz (rows:=rows) ht21
  refine Z82 ?_;refine L1 0 2 ?_;refine pu ?_;exact AGe
 have hy:=AJ0 (rows:=rows) ht21
 refine Z3 ?_;refine Z24 ?_;refine A2 [2,3,4,6,7,9,10,11] ?_;refine Z43 ?_;refine L1 2 2 ?_
 refine Jx (fun hlow=>?_)
 refine Z12 ?_;refine A7 Tryz.call54 (c54 q c rows _) ?_;refine A2 [3,4,6,7,9,10,11,26] ?_;refine K1 ?_
 refine L2 (m:=3) Tryz.call102 (fun FR as' bd' hFR has hbd=>?_)
 have hFRl:∀s,Low (Hp.length+5) (FR s):=by
  intro s
  rw [hFR]
  refine Lz ?_
  revert s
  repeat (first|exact Bb|refine Ba (by first|(simp [oid,or_imp,forall_and];done)|(simp [oid,or_imp,forall_and]<;>(first|exact fun a _=>Ak _ a|omega))) ?_)
 have hOl:∀{e:Int} {o:List Row} {lp:AObj},ObjLow (Hp.length+5) lp→∀x∈Hp++[AObj.cells 52 [AV.nil],AObj.cells 38 [A3 e],AObj.cells 52 [AV.slice true 2 ((o).map Eo)],AObj.defs,lp],ObjLow (Hp.length+5) x:=by
  intro e o lp hlp x hx
  refine Id (fun x hx=>L3 (by omega) (hlow x hx)) (fun x hx=>?_) x hx
  simp only [B3,E5,or_false] at hx
  rcases hx with rfl|rfl|rfl|rfl|rfl
  ·intro y hy;rw [B9.1 hy];simp
  ·intro y hy;rw [B9.1 hy];simp
  ·intro y hy;rw [B9.1 hy];exact f7
  ·trivial
  exact hlp
 have hwy:∀{k:Nat} {y:Row},rows[k]? = some y→y.l.length≤1048576∧∀v∈y.l, -9223372036854775808≤v.n∧v.n≤9223372036854775807:=fun hk=>hw.each _ (Aw hk)
 refine ⟨_,AU9 (oid Hp.length 4) q h c hc rows hw (fun k=>Hp++[AObj.cells 52 [AV.nil],AObj.cells 38 [A3 0],AObj.cells 52 [AV.slice true 2 ((Hn q c rows k).map Eo)],AObj.defs,AObj.loop LoopState.ready none FR 45 #[27,28] as' bd' (oid Hp.length 3)]) (NK q c rows) (fun V=>(∃o lp,V=Hp++[AObj.cells 52 [AV.nil],AObj.cells 38 [A3 0],AObj.cells 52 [AV.slice true 2 ((o).map Eo)],AObj.defs,lp]∧(lp=AObj.loop LoopState.ready none FR 45 #[27,28] as' bd' (oid Hp.length 3)∨lp=AObj.loop LoopState.done (some (Code.exit 0)) FR 45 #[27,28] as' bd' (oid Hp.length 3))∧Nl q c rows []=(o,0))∨(∃e k,V=Hp++[AObj.cells 52 [AV.nil],AObj.cells 38 [A3 e],AObj.cells 52 [AV.slice true 2 ((Hn q c rows k).map Eo)],AObj.defs,AObj.loop LoopState.done (some Code.ret) FR 45 #[27,28] as' bd' (oid Hp.length 3)]∧Nl q c rows []=([],e))) (fun k=>by simp) (by simp [oid]) (fun k=>(fun x hx=>by rw [Ai];exact hOl (lp:=AObj.loop LoopState.ready none FR 45 #[27,28] as' bd' (oid Hp.length 3)) (by exact ⟨hFRl,by simp [oid]⟩) x hx)) AQq (fun k y hk hN he0 hf=>⟨AFe hk hN he0 hf,by simp only [Vt hk hf]⟩) (fun k y X hk hN hne=>?_) (fun k y X hk hN he0 hf=>?_) (fun hN=>.inl ⟨_,_,rfl,.inl rfl,AIx hN⟩),?_⟩
 ·generalize hV:Hp++[AObj.cells 52 [AV.nil],AObj.cells 38 [A3 0],AObj.cells 52 [AV.slice true 2 ((Hn q c rows k).map Eo)],AObj.defs,AObj.loop LoopState.ready none FR 45 #[27,28] as' bd' (oid Hp.length 3)]++X=V
  have hL:V[oid Hp.length 4]? = some (AObj.loop LoopState.ready none FR 45 #[27,28] as' bd' (oid Hp.length 3)):=by rw [←hV,Ax,Ar];rfl
  have hA0:V[oid Hp.length 2]? = some (AObj.cells 52 [AV.slice true 2 ((Hn q c rows k).map Eo)]):=by rw [←hV,Ax,Ar];rfl
  have hB0:V[oid Hp.length 0]? = some (AObj.cells 52 [AV.nil]):=by rw [←hV,Ax,Ar];rfl
  have hC0:V[oid Hp.length 1]? = some (AObj.cells 38 [A3 0]):=by rw [←hV,Ax,Ar];rfl
  refine J8 (pd:=none) (fr:=FR) (sz:=45) (ps:=#[27,28]) (df:=oid Hp.length 3) (asg:=as') (bd:=bd') hL rfl (by decide) (fun d=>?_)
  subst hFR has hbd
  refine Fo [3,4,6,7,9,27,28] ?_;refine bo ?_;refine A2 [3,4,6,7,9,10,28] ?_;refine Z50 ?_;refine A2 [3,4,6,7,9,10,11] ?_
  refine ⟨rfl,none,hL,?_⟩
  generalize hbz:(AObj.loop LoopState.busy _ _ _ _ _ _ _)=bz
  have hA:(V.set (oid Hp.length 4) bz)[oid Hp.length 2]? = some (AObj.cells 52 [AV.slice true 2 ((Hn q c rows k).map Eo)]):=by rw [Bk (Bf (by decide))];exact hA0
  have hB:(V.set (oid Hp.length 4) bz)[oid Hp.length 0]? = some (AObj.cells 52 [AV.nil]):=by rw [Bk (Bf (by decide))];exact hB0
  have hC:(V.set (oid Hp.length 4) bz)[oid Hp.length 1]? = some (AObj.cells 38 [A3 0]):=by rw [Bk (Bf (by decide))];exact hC0
  refine py ?_;refine A2 [3,4,6,7,9,10,11,30] ?_
  refine A4 (fun ht30=>?_) (fun ht30=>?_)
  ·refine Z2 ?_
   refine Cx jS hB ?_ ?_
   ·simp
   refine Cx jS (AQr hC (Bf (by decide))) ?_ ?_
   ·simp
   refine xm ?_
   subst hbz
   refine xz ?_
   refine ⟨Hp++[AObj.cells 52 [AV.nil],AObj.cells 38 [A3 (Cj q c y.l).2],AObj.cells 52 [AV.slice true 2 ((Hn q c rows k).map Eo)],AObj.defs,_],?_,by simp,(fun x hx=>by rw [Ai];exact hOl (lp:=_) (by exact ⟨hFRl,by simp [oid]⟩) x hx),.inr ⟨_,_,rfl,AIv hk hN hne⟩⟩
   subst hV
   simp only [Ax,Cp,Dh,D9,List.set_cons_succ,List.set_cons_zero]
  exact absurd hne (by simpa using ht30)
 ·generalize hV:Hp++[AObj.cells 52 [AV.nil],AObj.cells 38 [A3 0],AObj.cells 52 [AV.slice true 2 ((Hn q c rows k).map Eo)],AObj.defs,AObj.loop LoopState.ready none FR 45 #[27,28] as' bd' (oid Hp.length 3)]++X=V
  have hL:V[oid Hp.length 4]? = some (AObj.loop LoopState.ready none FR 45 #[27,28] as' bd' (oid Hp.length 3)):=by rw [←hV,Ax,Ar];rfl
  have hA0:V[oid Hp.length 2]? = some (AObj.cells 52 [AV.slice true 2 ((Hn q c rows k).map Eo)]):=by rw [←hV,Ax,Ar];rfl
  have hB0:V[oid Hp.length 0]? = some (AObj.cells 52 [AV.nil]):=by rw [←hV,Ax,Ar];rfl
  have hC0:V[oid Hp.length 1]? = some (AObj.cells 38 [A3 0]):=by rw [←hV,Ax,Ar];rfl
  refine J8 (pd:=none) (fr:=FR) (sz:=45) (ps:=#[27,28]) (df:=oid Hp.length 3) (asg:=as') (bd:=bd') hL rfl (by decide) (fun d=>?_)
  subst hFR has hbd
  refine Fo [3,4,6,7,9,27,28] ?_;refine bo ?_;refine A2 [3,4,6,7,9,10,28] ?_;refine Z50 ?_;refine A2 [3,4,6,7,9,10,11] ?_
  refine ⟨rfl,none,hL,?_⟩
  generalize hbz:(AObj.loop LoopState.busy _ _ _ _ _ _ _)=bz
  have hA:(V.set (oid Hp.length 4) bz)[oid Hp.length 2]? = some (AObj.cells 52 [AV.slice true 2 ((Hn q c rows k).map Eo)]):=by rw [Bk (Bf (by decide))];exact hA0
  have hB:(V.set (oid Hp.length 4) bz)[oid Hp.length 0]? = some (AObj.cells 52 [AV.nil]):=by rw [Bk (Bf (by decide))];exact hB0
  have hC:(V.set (oid Hp.length 4) bz)[oid Hp.length 1]? = some (AObj.cells 38 [A3 0]):=by rw [Bk (Bf (by decide))];exact hC0
  refine py ?_;refine A2 [3,4,6,7,9,10,11,30] ?_
  refine A4 (fun ht30=>?_) (fun ht30=>?_)
  ·simp at ht30
  refine Z3 ?_;refine Fd [0,0,0,0,14,30,63,127] [0] [.s [32] (some 0) [] [],.q 5 [] []] (fun B=>(V.set (oid Hp.length 4) bz).set (oid Hp.length 2) (if B 0=true then .cells 52 [AV.slice false 2 ((Hn q c rows k).map Eo)] else .cells 52 [AV.slice true 2 ((Hn q c rows k).map Eo)])) (fun _=>[AObj.cells 58 (sj y)]) An (by kernel_rfl) (Cm hA) rfl (fun B=>by simp) ?_
  refine Pz (o:=oid Hp.length 2) (t':=52) (cs:=[AV.slice true 2 ((Hn q c rows k).map Eo)]) (cs':=[AV.slice false 2 ((Hn q c rows k).map Eo)]) Tryz.isAgg52 (fun B hB=>⟨by simp only [hB];exact getset hA,(C6 ..).symm,rfl⟩) ?_
  apply Y.q
  ·intro B hT hF
   refine Z35 ?_;refine Du Tryz.call55 (c55 q h c hc y (hwy hk).1 (AIy he0) (P3 hy.1) _) ?_;exact Z39
  case hTF=>decide
  refine Ej (tn:=[0]) (U:=(V.set (oid Hp.length 4) bz).set (oid Hp.length 2) (.cells 52 [AV.slice false 2 ((Hn q c rows k).map Eo)])) ?_
  refine E6 jU Tryz.type58 ?_ ?_ ?_
  ·have hwl:=hw.len;have:=am q c rows k;simp [Tryz.t58];omega
  ·have hwl:=hw.len;have:=am q c rows k;simp [Tryz.t58];omega
  refine Gm jS (getset hA) ?_ ?_
  ·exact f8
  refine A2 [3,9] ?_;refine F0 ?_
  refine A5 (h:=Bd (getset (getset hA))) (hr:=?_)
  refine Z68 ?_;refine A2 [43] ?_
  refine A4 (fun ht43=>?_) (fun ht43=>?_)
  ·refine cq ?_;refine K.blO (by decide) ?_
   subst hbz
   refine K.rdE (cy hL (Bf (by decide)) (Bf (by decide))) ?_
   refine .inr ⟨rfl,Hp++[AObj.cells 52 [AV.nil],AObj.cells 38 [A3 0],AObj.cells 52 [AV.slice true 2 ((Hn q c rows (k+1)).map Eo)],AObj.defs,_],?_,by simp,(fun x hx=>by rw [Ai];exact hOl (lp:=_) (by exact ⟨hFRl,by simp [oid]⟩) x hx),.inl ⟨_,_,rfl,.inr rfl,AIw hk hN he0 hf (by simpa using ht43)⟩⟩
   subst hV
   simp only [Ax,Cp,Dh,D9,List.set_cons_succ,List.set_cons_zero]
   rw [Ud hk hf,Bj]
   rfl
  refine px ?_
  subst hbz
  refine xy ?_
  refine .inl ⟨rfl,AMh hk hN he0 hf (by simpa using ht43),?_⟩
  subst hV
  simp only [Ax,Cp,Dh,D9,List.set_cons_succ,List.set_cons_zero]
  rw [Ud hk hf,Bj]
  rfl
 rintro r H' (⟨o,lp,rfl,rfl|rfl,hrun⟩|⟨e,k,rfl,hrun⟩)
 ·refine ⟨Hp,_,_,_,rfl,rfl,fun h=>h,?_,rfl,by simp,?_⟩
  ·intro o ho
   have:o=oid Hp.length 3:=by simpa using ho
   subst this
   rw [Ar]
   rfl
  refine xt ?_;exact ANe
 ·refine ⟨Hp,_,_,_,rfl,rfl,fun h=>h,?_,rfl,by simp,?_⟩
  ·intro o ho
   have:o=oid Hp.length 3:=by simpa using ho
   subst this
   rw [Ar]
   rfl
  refine cq ?_;refine AC9 ?_;refine Z82 ?_;exact ANe
 refine ⟨Hp,_,_,_,rfl,rfl,fun h=>h,?_,rfl,by simp,?_⟩
 ·intro o ho
  have:o=oid Hp.length 3:=by simpa using ho
  subst this
  rw [Ar]
  rfl
 refine Uz 0 2 ?_;refine bn ?_;exact A9 (B1 (Dw jA) (Dw jA)) ⟨by rw [hy.2,hrun];rfl,rfl⟩

/-! ref21.Over: names that nothing has stand between. -/
/-! How great the trees of ref21.Over are on the way. -/
theorem AA6 (s:Str):sizeE (D6 s)=1:=rfl
theorem Vu {take:List Str}:∀{c:List Col} {l:List Expr},E3 take c l=((c.zip l).filter fun p => !take.contains p.1.name).map (·.2)
 | [],[]=>rfl
 | [],_::_=>rfl
 | _::_,[]=>rfl
 | y::c,x::l=>by
  rw [E3,List.zip_cons_cons,Hz]
  cases h:take.contains y.name with
  | true=>simp only [Ig,Bg,if_false,if_true];exact Vu
  | false=>simp only [Xl,Bg,if_false,if_true,Bm];rw [Vu]
theorem f9 {take:List Str}:∀{c:List Col} {l:List Expr},c.length=l.length→Dg c take=((c.zip l).filter fun p => !take.contains p.1.name).map (·.1)
 | [],[],_=>rfl
 | [],_::_,h=>by simp at h
 | _::_,[],h=>by simp at h
 | y::c,x::l,h=>by
  have ih:=f9 (take:=take) (c:=c) (l:=l) (by simpa using h)
  unfold Dg at ih ⊢
  rw [List.zip_cons_cons,Hz,Hz]
  cases h:take.contains y.name with
  | true=>simp only [Ig,Bg,if_false];exact ih
  | false=>simp only [Xl,if_true,Bm];rw [ih]
theorem AFf {c:List Col} {l0:List Mov}:∀e∈C8 c l0 0,sizeE e≤1048576:=by
 intro e he
 obtain ⟨y,_,rfl⟩:=C2.1 he
 rw [AA6]
 decide
theorem an {c:List Col} {t:List Expr}:∀(l:List Expr),(Br c t l).2=0→∀e∈(Br c t l).1,Az e=true
 | [],_,e,h=>by cases h
 | x::r,he,e,h=>by
  unfold Br at he h
  split at he
  ·rename_i h3
   exact absurd he (by simpa using h3)
  rename_i h3
  rw [if_neg h3] at h
  split at he
  ·rename_i h4
   exact absurd he (by simpa using h4)
  rename_i h4
  rw [if_neg h4] at h
  rcases B3.1 h with rfl|h
  ·have h5:(Cy x c t).2=0:=by simpa using h3
   unfold Cy at h5 ⊢
   split at h5
   ·exact absurd (show (1:Int)=0 from h5) (by decide)
   rename_i h6
   rw [if_neg h6]
   cases hp:putF c t x with
   | none=>rw [hp] at h5;exact absurd (show (9:Int)=0 from h5) (by decide)
   | some y =>
    rw [hp] at h5
    simp only at h5 ⊢
    split at h5
    ·rename_i h7
     rw [if_pos h7];exact h7
    exact absurd (show (3:Int)=0 from h5) (by decide)
  exact an r (by simpa using h4) e h
/-! The trees of all columns ahead, from the last move to the first. -/
def Ho (c:List Col):List Mov→List Expr×Int
 | []=>(Ht c,0)
 | m::r=>if (Ho (Bp c m).1 r).2 != 0 then ([],(Ho (Bp c m).1 r).2) else if (Br (Bp c m).1 (Ho (Bp c m).1 r).1 m.back).2 != 0 then ([],(Br (Bp c m).1 (Ho (Bp c m).1 r).1 m.back).2)
  else (I7 c m.take (Br (Bp c m).1 (Ho (Bp c m).1 r).1 m.back).1 (Ho (Bp c m).1 r).1 (Bp c m).1,0)
theorem AFg {c:List Col} {m:Mov} (hc:OkCols c) (hm:OkMov m):OkCols (Bp c m).1:=by
 simpa [colsAt] using E4 hc (ms:=[m]) (fun x hx=>by rw [B9.1 hx];exact hm) 1
theorem ap {c:List Col} {m:Mov} {r:List Mov} (h:(C7 c (m::r)).2=0):(Bp c m).2=0∧(C7 (Bp c m).1 r).2=0:=by
 unfold C7 at h
 split at h
 ·rename_i h1;exact absurd h (by simpa using h1)
 rename_i h1;exact ⟨by simpa using h1,h⟩
theorem AFh {c d:List Col} {take:List Str} {was t:List Expr} {p:Expr→Prop} (h0:p Av) (hw:∀e∈was,p e) (ht:∀e∈t,p e):∀e∈I7 c take was t d,p e:=fun e he=>by
 obtain ⟨x,_,rfl⟩:=C2.1 he
 rcases vp (take:=take) (was:=was) (t:=t) (d:=d) (x:=x) with h|h|h
 ·exact hw _ h
 ·exact ht _ h
 rw [h];exact h0
/-- Trees that may be put. -/
structure BOk (t:List Expr) (n:Nat):Prop where
 tok:TOk t
 size:∀e∈t,sizeE e≤1048576
 len:t.length=n
theorem aq:∀(l:List Mov) (c:List Col),OkCols c→(∀m∈l,OkMov m)→(Ho c l).2=0→BOk (Ho c l).1 c.length
 | [],c,hc,_,_=>⟨jq hc,AFf (c:=c) (l0:=[]),by simp [Ho,Ht]⟩
 | m::r,c,hc,hm,h=>by
  have hmo:=hm m G5
  unfold Ho at h ⊢
  split at h
  ·rename_i h1;exact absurd h (by simpa using h1)
  rename_i h1
  rw [if_neg h1]
  have ih:=aq r _ (AFg hc hmo) (fun x hx=>hm x (J2 _ hx)) (by simpa using h1)
  split at h
  ·rename_i h2;exact absurd h (by simpa using h2)
  rename_i h2
  rw [if_neg h2]
  have h3:=an m.back (by simpa using h2)
  refine ⟨nf (Rd ih.tok _ hmo.back.ok hmo.back.rng (by simpa using h2)) ih.tok,AFh (by decide) (fun e he=>?_) ih.size,by simp [I7]⟩
  have h4:=h3 e he
  rw [Fv] at h4
  have:=(Vp h4).2
  omega
set_option maxHeartbeats 1000000 in
theorem AJ1 {c:List Col} {ms:List Mov} {i:Nat} {t:List Expr} {m:Mov} (hk:ms[i]? = some m):P0 c ms i t=Br (colsAt c ms (i+1)) t m.back:=by unfold P0;rw [Bv,hk];rfl
theorem fe {c:List Col} {ms:List Mov} {z:Int} (hz:z≠0):∀i,i≤ms.length→Ho (colsAt c ms i) (ms.drop i)=([],z)→Ho c ms=([],z)
 | 0,_,h=>h
 | i+1,hi,h=>by
  have hk:ms[i]? = some ms[i]:=Ab (by omega)
  refine fe hz i (by omega) ?_
  rw [Mf hk,Ho,←Eu hk,h]
  exact if_pos (by simpa using hz)
theorem nu {c:List Col} {ms:List Mov}:∀i,i≤ms.length→∀t,Ho (colsAt c ms i) (ms.drop i)=(t,0)→Ho c ms=O1 c ms i t
 | 0,_,t,h=>h
 | i+1,hi,t,h=>by
  have hk:ms[i]? = some ms[i]:=Ab (by omega)
  have e:Ho (colsAt c ms i) (ms.drop i)=if (P0 c ms i t).2 != 0 then ([],(P0 c ms i t).2) else (I7 (colsAt c ms i) (ms.getD i Su).take (P0 c ms i t).1 t (colsAt c ms (i+1)),0):=by
   rw [Mf hk,Ho,←Eu hk,h,AJ1 hk,Bv,hk]
   exact if_neg (by simp)
  rw [O1]
  split
  ·rename_i h1
   exact fe (by simpa using h1) i (by omega) (e.trans (if_pos h1))
  rename_i h1
  exact nu i (by omega) _ (e.trans (if_neg h1))
theorem ju {c:List Col} {l:List Mov} (h:((Bn c l).2 != 0)=false):Gx c l=Ho c l:=by
 rw [Qp h]
 exact (nu l.length (Al _) _ (by rw [Xm];rfl)).symm
theorem AA7 {c:List Col} {l:List Mov} (b:Bool) (h:((K9 c l).2 != 0)=b):((Bn c l).2 != 0)=b:=by
 unfold Bn
 split
 ·exact h
 exact h
/-! How long plan.Text's pieces are. -/
/-- The trees forth are as many as the columns behind, and may be walked. -/
theorem AFi {c:List Col} {l:List Mov} (hc:OkCols c) (h:OkMovs l) (hs:((Bn c l).2 != 0)=false):TOk (Fh c l).1∧((Fh c l).2=0→(Fh c l).1.length=(Fl c l).1.length):=by
 obtain ⟨hmay,hst,_⟩:=Ee hs
 have hmv:=H1 hmay
 have e:Fh c l=Gc c (Ht c) l:=if_neg (by rw [hs];simp)
 have key:∀k,k≤l.length→(L6 c l k∧TOk (C8 c l k)∧(C8 c l k).length=(colsAt c l k).length)∨(∃z,z≠0∧Gc c (Ht c) l=([],z)):=by
  intro k
  induction k with
  | zero=>exact fun _=>.inl ⟨AM4,jq hc,by simp [C8,Ht,colsAt]⟩
  | succ k ih =>
   intro hk
   rcases ih (by omega) with ⟨h1,h2,h3⟩|h1
   ·have hmk:l[k]? = some l[k]:=Ab (by omega)
    cases he:((Br (colsAt c l k) (C8 c l k) l[k].ahead).2 != 0) with
    | true=>exact .inr ⟨_,by simpa using he,s7 hmk h1 he⟩
    | false=>exact .inl ⟨jp hmk h1 he,vn hmk (h.each _ (Bl (by omega))) h2 he,nd hmk (hmv _ (Bl (by omega))) (Lm hst hmk) h3 he⟩
   exact .inr h1
 rcases key l.length (Al _) with ⟨h1,h2,h3⟩|⟨z,hz,h1⟩
 ·rw [e,s8 h1,Vq hs]
  exact ⟨h2,fun _=>h3⟩
 rw [e,h1]
 exact ⟨⟨fun e h=>(Em h).elim,fun e h=>(Em h).elim⟩,fun h=>absurd h hz⟩
theorem jv {c:List Col} {l:List Mov} (hc:OkCols c) (h:OkMovs l) (h0:((Fl c l).2 != 0)=false):((Bn c l).2 != 0)=false∧OkCols (Fl c l).1:=by
 have hs:((Bn c l).2 != 0)=false:=by
  unfold Fl at h0
  split at h0
  ·rename_i h1;rw [show ((Bn c l).2 != 0)=false from h0] at h1;cases h1
  rename_i h1;simpa using h1
 exact ⟨hs,by rw [Vq hs];exact E4 hc (fun m hm=>h.each m hm) _⟩
theorem nv {c:List Col} {l:List Mov}:(H8 c l).2=(K9 c l).2:=by
 unfold H8 K9
 split<;>rfl
theorem ar {c:List Col} {l:List Mov} (b:Bool) (h:((H8 c l).2 != 0)=b):((Bn c l).2 != 0)=b:=AA7 b (by rw [←nv];exact h)
theorem AQs {q:Qry} {c:List Col} {l:List Mov} (h:((Fl c l).2 != 0)=true):Ie q c l=(Kw,1):=if_pos h
theorem AQt {q:Qry} {c:List Col} {l:List Mov} (h:((Fl c l).2 != 0)=false) (h1:(Cu q (Fl c l).1 != 0)=true):Ie q c l=(Kw,Cu q (Fl c l).1):=by
 unfold Ie;rw [if_neg (by rw [h];simp),if_pos h1]
theorem AQu {q:Qry} {c:List Col} {l:List Mov} (h:((Fl c l).2 != 0)=false) (h1:(Cu q (Fl c l).1 != 0)=false) (h2:((Fh c l).2 != 0)=true):Ie q c l=(Kw,(Fh c l).2):=by
 unfold Ie;rw [if_neg (by rw [h];simp),if_neg (by rw [h1];simp),if_pos h2]
theorem AQv {q:Qry} {c:List Col} {l:List Mov} (h:((Fl c l).2 != 0)=false) (h1:(Cu q (Fl c l).1 != 0)=false) (h2:((Fh c l).2 != 0)=false):Ie q c l=Kx q (Fl c l).1 (Fh c l).1:=by
 unfold Ie;rw [if_neg (by rw [h];simp),if_neg (by rw [h1];simp),if_neg (by rw [h2];simp)]
theorem AK7 {q:Qry} {c:List Col} {l:List Mov} (h:((H8 c l).2 != 0)=true):Hm q c l=(Kw,1):=if_pos h
theorem AK8 {q:Qry} {c:List Col} {l:List Mov} (h:((H8 c l).2 != 0)=false) (h1:(Cu q c != 0)=true):Hm q c l=(Kw,Cu q c):=by
 unfold Hm;rw [if_neg (by rw [h];simp),if_pos h1]
theorem AK9 {q:Qry} {c:List Col} {l:List Mov} (h:((H8 c l).2 != 0)=false) (h1:(Cu q c != 0)=false) (h2:((Gx c l).2 != 0)=true):Hm q c l=(Kw,(Gx c l).2):=by
 unfold Hm;rw [if_neg (by rw [h];simp),if_neg (by rw [h1];simp),if_pos h2]
theorem AKa {q:Qry} {c:List Col} {l:List Mov} (h:((H8 c l).2 != 0)=false) (h1:(Cu q c != 0)=false) (h2:((Gx c l).2 != 0)=false):Hm q c l=Kx q c (Gx c l).1:=by
 unfold Hm;rw [if_neg (by rw [h];simp),if_neg (by rw [h1];simp),if_neg (by rw [h2];simp)]
/-- What the trees of a turn must be. -/
structure TreesOk (q:Qry) (c:List Col) (t:List Expr):Prop where
 len:t.length≤1048576
 cl:c.length=t.length
 ok:∀e∈t,okE 61 e
 names:∀s∈q.cols,¬Ay s c<0
theorem nw {q:Qry} {c:List Col} {l:List Mov} (hc:OkCols c) (h:OkMovs l) (h0:((Fl c l).2 != 0)=false) (h1:(Cu q (Fl c l).1 != 0)=false) (h2:((Fh c l).2 != 0)=false):TreesOk q (Fl c l).1 (Fh c l).1:=by
 obtain ⟨hs,hB⟩:=jv hc h h0
 obtain ⟨ht,hl⟩:=AFi hc h hs
 have hl:=hl (by simpa using h2)
 exact ⟨by rw [hl];exact hB.len,hl.symm,ht.ok,P3 (by simpa using h1)⟩
theorem sm {q:Qry} {c:List Col} {l:List Mov} (hc:OkCols c) (h:OkMovs l) (h0:((H8 c l).2 != 0)=false) (h1:(Cu q c != 0)=false) (h2:((Gx c l).2 != 0)=false):TreesOk q c (Gx c l).1∧∀e∈(Gx c l).1,sizeE e≤1048576:=by
 have hs:=ar false h0
 have e:=ju hs
 have hb:=aq l c hc (fun m hm=>h.each m hm) (by rw [←e];simpa using h2)
 rw [←e] at hb
 exact ⟨⟨by rw [hb.len];exact hc.len,hb.len.symm,hb.tok.ok,P3 (by simpa using h1)⟩,hb.size⟩
theorem c11 (q:Qry) (hq:QW q) (c:List Col) (hc:OkCols c) (hc2:c.length≤1000000) (l:List Mov) (h:OkMovs l) (Hp:List AObj):AFun Tryz.prog 11 [Rl q,Am c,Eh l] Hp (.tup [jt (Ie q c l).1,A3 (Ie q c l).2]):=by
 refine Ae [.cell 6 37,.tmp 7] [0,1,2] Tryz.func11 Tryz.ntmps11 (fun d=>?_)
 refine Z2 ?_;refine xf ?_;refine Z1 ?_;refine A7 Tryz.call21 (c21 c hc hc2 l h _) ?_;refine Z59 ?_;refine A2 [1,2,3,6,8,9] ?_;refine Z7 ?_;refine A2 [1,2,3,6,8,19] ?_
 refine A4 (fun ht19=>?_) (fun ht19=>?_)
 ·refine Z32 ?_;refine AKr ?_;exact A9 (B1 (B6 jA jS) A8) ⟨by rw [AQs ht19]<;>rfl,rfl⟩ (hlow:=by simp [or_imp,forall_and]<;>(repeat' apply And.intro)<;>(intros;exact Ak _ _))
 obtain ⟨hs,hB⟩:=jv hc h ht19
 refine iu ?_;refine A7 Tryz.call25 (c25 q hq _ hB _) ?_;refine A5 ?_;refine A2 [1,2,3,6,8,10] ?_;refine Z1 ?_;refine A2 [1,2,3,6,8,10,25] ?_
 refine A4 (fun ht25=>?_) (fun ht25=>?_)
 ·refine Z32 ?_;refine xn ?_;exact A9 (B1 (B6 jA jS) A8) ⟨by rw [AQt ht19 ht25]<;>rfl,rfl⟩ (hlow:=by simp [or_imp,forall_and]<;>(repeat' apply And.intro)<;>(intros;exact Ak _ _))
 refine Nc ?_;refine A7 Tryz.call32 (c32 c hc hc2 l h _) ?_;refine Z59 ?_;refine A2 [3,6,8,9,11] ?_;refine Z7 ?_;refine A2 [3,6,8,9,11,35] ?_
 refine A4 (fun ht35=>?_) (fun ht35=>?_)
 ·refine Z32 ?_;refine xn ?_;exact A9 (B1 (B6 jA jS) A8) ⟨by rw [AQu ht19 ht25 ht35]<;>rfl,rfl⟩ (hlow:=by simp [or_imp,forall_and]<;>(repeat' apply And.intro)<;>(intros;exact Ak _ _))
 have hT:=nw hc h ht19 ht25 ht35
 refine Q4 ?_;refine A7 Tryz.call33 (c33 q hq (Fl c l).1 hB (Fh c l).1 hT.len hT.cl hT.ok hT.names _) ?_;refine Z0 ?_;refine Z69 ?_;exact A9 (B1 (B6 jA jS) A8) ⟨by rw [AQv ht19 ht25 ht35]<;>rfl,rfl⟩ (hlow:=by simp [or_imp,forall_and]<;>(repeat' apply And.intro)<;>(intros;exact Ak _ _))

theorem AUa (q:Qry) (hq:QW q) (c:List Col) (hc:OkCols c) (hc2:c.length≤1000000) (l:List Mov) (h:OkMovs l) (Hp:List AObj):AFun Tryz.prog 12 [Rl q,Am c,Eh l] Hp (.tup [jt (Hm q c l).1,A3 (Hm q c l).2]):=by
 refine Ae [.cell 6 37,.tmp 7] [0,1,2] Tryz.func12 Tryz.ntmps12 (fun d=>?_)
 refine Z2 ?_;refine xf ?_;refine Z7 ?_;refine A7 Tryz.call34 (c34 c hc hc2 l h _) ?_;refine Z59 ?_;refine A2 [1,2,3,6,9] ?_;refine Z1 ?_;refine A2 [1,2,3,6,20] ?_
 refine A4 (fun ht20=>?_) (fun ht20=>?_)
 ·refine Z32 ?_;refine AKr ?_;exact A9 (B1 (B6 jA jS) A8) ⟨by rw [AK7 ht20]<;>rfl,rfl⟩ (hlow:=by simp [or_imp,forall_and]<;>(repeat' apply And.intro)<;>(intros;exact Ak _ _))
 refine iu ?_;refine A7 Tryz.call25 (c25 q hq c hc _) ?_;refine A5 ?_;refine A2 [1,2,3,6,10] ?_;refine Z1 ?_;refine A2 [1,2,3,6,10,26] ?_
 refine A4 (fun ht26=>?_) (fun ht26=>?_)
 ·refine Z32 ?_;refine xn ?_;exact A9 (B1 (B6 jA jS) A8) ⟨by rw [AK8 ht20 ht26]<;>rfl,rfl⟩ (hlow:=by simp [or_imp,forall_and]<;>(repeat' apply And.intro)<;>(intros;exact Ak _ _))
 refine Nc ?_;refine A7 Tryz.call35 (c35 c hc hc2 l h _) ?_;refine Z59 ?_;refine A2 [1,3,6,11,12] ?_;refine Z7 ?_;refine A2 [1,3,6,11,12,36] ?_
 refine A4 (fun ht36=>?_) (fun ht36=>?_)
 ·refine Z32 ?_;refine xn ?_;exact A9 (B1 (B6 jA jS) A8) ⟨by rw [AK9 ht20 ht26 ht36]<;>rfl,rfl⟩ (hlow:=by simp [or_imp,forall_and]<;>(repeat' apply And.intro)<;>(intros;exact Ak _ _))
 have hT:=(sm hc h ht20 ht26 ht36).1
 refine Q4 ?_;refine A7 Tryz.call33 (c33 q hq c hc (Gx c l).1 hT.len hT.cl hT.ok hT.names _) ?_;refine Z0 ?_;refine Z69 ?_;exact A9 (B1 (B6 jA jS) A8) ⟨by rw [AKa ht20 ht26 ht36]<;>rfl,rfl⟩ (hlow:=by simp [or_imp,forall_and]<;>(repeat' apply And.intro)<;>(intros;exact Ak _ _))

/-! What ref22.Run answers is what query.Run answers. -/
/-! mig.Parse: the first fault is pt. -/
inductive PR (α:Type) where
 | ok (r:α) (i:Nat)
 | bad (e a:Int)
def PR.bind {α β:Type} (x:PR α) (f:α→Nat→PR β):PR β:=match x with
 | .ok r i=>f r i
 | .bad e a=>.bad e a
def ff {α:Type} (L:List Tok) (i:Nat) (e:Int):PR α:=.bad e (Af L i).at_
def isP (L:List Tok) (s:Str) (i:Nat):Bool:=(((Af L i).kind==5) || ((Af L i).kind==2))&&((Af L i).text==s)
def Dl (L:List Tok) (s:Str) (i:Nat):PR Unit:=if isP L s i then .ok () (i+1) else ff L i 8
def I9 (L:List Tok) (i:Nat):PR Str:=if (Af L i).kind != 1 then ff L i 8 else .ok (Af L i).text (i+1)
def w4 (L:List Tok) (nm:Str) (j:Nat):PR Col:=if ((Af L j).kind != 2) || (Wi (Af L j).text==0) then ff L j 8 else .ok ⟨nm,Wi (Af L j).text⟩ (j+1)
def Lr (L:List Tok) (i:Nat):PR Col:=(I9 L i).bind (w4 L)
def Pc (L:List Tok) (i:Nat):PR Expr:=if (atM L i).2.2.1 != 0 then .bad (atM L i).2.2.1 (atM L i).2.2.2 else .ok (atM L i).1 (atM L i).2.1.toNat
def Ep (m:Mov) (c:Col):Mov:={ m with give:=m.give++[c] }
def w5 (m:Mov) (x:Expr):Mov:={ m with ahead:=m.ahead++[x] }
def Fx (L:List Tok) (m:Mov) (i:Nat):PR Mov:=(Lr L i).bind fun c j=>(Dl L [61] j).bind fun _ j=>(Pc L j).bind fun x j=>.ok (w5 (Ep m c) x) j
def Wt (L:List Tok) (n:Int) (k:Nat) (i:Nat):Bool:=decide ((k:Int)<n) || ((n==0)&&(decide ((k:Int)<2) || isP L [44] i))
/-- Things with commas between, behind the first k. -/
def Uf (L:List Tok) (n:Int) (one:Mov→Nat→PR Mov):Nat→Nat→Mov→Nat→PR Mov
 | 0,_,m,i=>.ok m i
 | f+1,k,m,i=>if Wt L n k i then (Dl L [44] i).bind fun _ j=>(one m j).bind fun m j=>Uf L n one f (k+1) m j else .ok m i
def Jl (L:List Tok) (n:Int) (one:Mov→Nat→PR Mov) (m:Mov) (i:Nat):PR Mov:=(one m i).bind fun m j=>Uf L n one (L.length+1) 1 m j
def AFj:Str:=[98,97,99,107]
def Lf:Str:=[105,110,116,111]
def toW:Str:=[116,111]
def w6 (m:Mov) (x:Expr):Mov:={ m with back:=m.back++[x] }
def Wu (L:List Tok) (m:Mov) (i:Nat):PR Mov:=(Pc L i).bind fun x j=>.ok (w6 m x) j
def Gy (L:List Tok) (m:Mov) (i:Nat):PR Mov:=(Dl L AFj i).bind fun _ j=>Jl L m.take.length (Wu L) m j
def Ls (L:List Tok) (m:Mov) (i:Nat):PR Mov:=(I9 L i).bind fun s j=>(Dl L toW j).bind fun _ j=>(I9 L j).bind fun t j=>.ok ⟨m.kind,[s],[⟨t,0⟩],[D6 s],[D6 t]⟩ j
def takeS (m:Mov) (s:Str):Mov:={ m with take:=[s] }
def w7 (m:Mov) (s:Str):Mov:={ m with take:=m.take++[s] }
def Uh (L:List Tok) (m:Mov) (i:Nat):PR Mov:=(I9 L i).bind fun s j=>.ok (w7 m s) j
def Jm (L:List Tok) (m:Mov) (i:Nat):PR Mov:=
 if m.kind==1 then Fx L m i
 else if m.kind==2 then (I9 L i).bind fun s j=>Gy L (takeS m s) j
 else if m.kind==3 then Ls L m i
 else if m.kind==4 then (I9 L i).bind fun s j=>(Dl L Lf j).bind fun _ j=>(Jl L 0 (Fx L) (takeS m s) j).bind fun m j=>Gy L m j
 else if m.kind==5 then (Jl L 0 (Uh L) m i).bind fun m j=>(Dl L Lf j).bind fun _ j=>(Fx L m j).bind fun m j=>Gy L m j
 else if m.kind==6 then (Fx L m i).bind fun m j=>Gy L (takeS m (m.give.getD 0 ⟨[],0⟩).name) j
 else .ok m i
def migWords:List Str:=[[],[97,100,100],[100,114,111,112],[114,101,110,97,109,101],[115,112,108,105,116],[109,101,114,103,101],[114,101,116,121,112,101]]
def F5 (k:Int):Str:=if (decide (k<1) || decide (6<k))=true then [] else migWords.getD k.toNat []
def If (s:Str):Int:=if F5 1==s then 1 else if F5 2==s then 2 else if F5 3==s then 3 else if F5 4==s then 4 else if F5 5==s then 5 else if F5 6==s then 6 else 0
def Qt (L:List Tok) (i:Nat):PR Mov:=
 if ((Af L i).kind != 2) || (If (Af L i).text==0) then ff L i 8
 else (Jm L ⟨If (Af L i).text,[],[],[],[]⟩ (i+1)).bind fun m j=>(Dl L [59] j).bind fun _ j=>.ok m j
/-- Moves, behind some. -/
def P4 (L:List Tok):Nat→List Mov→Nat→PR (List Mov)
 | 0,l,i=>.ok l i
 | f+1,l,i=>if (Af L i).kind != 0 then (if (l.length:Int)==8 then ff L i 3 else (Qt L i).bind fun m j=>P4 L f (l++[m]) j) else .ok l i
def L7 (L:List Tok):PR (List Mov):=P4 L 9 [] 0
/-- The moves; the fault's code and place. -/
def au (s:Str):List Mov×Int×Int:=
 if (Bs s).2.1 != 0 then ([],(Bs s).2.1,(Bs s).2.2)
 else match L7 (Bs s).1 with
  | .ok l _=>(l,0,0)
  | .bad e a=>([],e,a)
end Go.SX.Nb
namespace Go.SX
variable [GI:GlobInv]
open Classical
section
variable {P:Program} {d:Nat}
variable {sz:Nat} {dfs:List Nat} {rnd:Option Nat} {l0:List Oper} {up own:(Nat→Bool)→List AObj} {KP:List PanicEntry→St→Prop} {E:List Oper→(Nat→AV)→Prop} {S:List SegY} {l:List Oper} {fr:Nat→AV} {ty:TypeId} {pos:String} {aft:Array Edge} {s:Nat} {T F:List Nat}
end
section
variable {P:Program} {d:Nat} {ops:Array Oper}
theorem AW.upEq {c:Code} {sz:Nat} {fr:Nat→AV} {up up' own:List AObj} {dfs:List Nat} {rnd:Option Nat} {K:Exit→St→Prop} (e:up=up') (h:AW P d c ⟨sz,fr,up',own,dfs,rnd⟩ K):AW P d c ⟨sz,fr,up,own,dfs,rnd⟩ K:=e ▸ h
end
end Go.SX
namespace Go.SX
def Sx:=@AW.upEq
end Go.SX
