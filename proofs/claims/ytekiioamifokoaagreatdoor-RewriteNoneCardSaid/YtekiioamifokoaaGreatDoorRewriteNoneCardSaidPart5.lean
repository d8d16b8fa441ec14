/- On the way (part 5). -/
import Derived.Test.YtekiioamifokoaaGreatDoorRewriteNoneCardSaidPart4
set_option linter.all false
namespace Go.SX.Nb
open Go Go.SX Go.Proofs
variable [ErrAt]
set_option maxRecDepth 4000
def wAt (s:Str) (k:Nat):Int×Str×Int×Int:=Cl (s.drop k)
theorem On {f k:Nat} {s:Str} (h:s≠[]):J2 (f+1) k s=(⟨(Cl s).1,(Cl s).2.1,k⟩,(Cl s).2.2.2)::(if (Cl s).2.2.2==0 then J2 f (k+(Cl s).2.2.1.toNat+gapM (s.drop (Cl s).2.2.1.toNat)) ((s.drop (Cl s).2.2.1.toNat).drop (gapM (s.drop (Cl s).2.2.1.toNat))) else []):=by
 rw [J2,if_neg (by simpa using h)]
/-- Where the reader is, with k words behind it. -/
def Uu (s:Str) (k p:Nat):Prop:=(∃f,(s.drop p).length<f∧(Cj s).drop k=J2 f p (s.drop p))∧p≤s.length∧∀j,j<k→∃it,(Cj s)[j]? = some it∧it.2=0
theorem ns (s:Str):Uu s 0 (gapM s):=⟨⟨s.length+1,by rw [Gj];omega,by rw [cv];rfl⟩,np s,fun j hj=>by omega⟩
theorem vf {s:Str} {k p:Nat} (h:Uu s k p):k≤(Cj s).length:=by
 refine Iw fun hn=>?_
 obtain ⟨it,hit,_⟩:=h.2.2 (Cj s).length (by omega)
 rw [Ge (Am _)] at hit
 cases hit
theorem vg {s:Str} {k p:Nat} (h:Uu s k p) (hp:s.length≤p):k=(Cj s).length∧∀it∈Cj s,it.2=0:=by
 have hl:=vf h
 obtain ⟨⟨f,_,hd⟩,_,h0⟩:=h
 have e:s.drop p=[]:=by rw [lz];exact hp
 rw [e] at hd
 have:(Cj s).drop k=[]:=by rw [hd];cases f<;>rfl
 rw [lz] at this
 have hk:k=(Cj s).length:=by omega
 refine ⟨hk,fun it hit=>?_⟩
 obtain ⟨j,hj,rfl⟩:=List.mem_iff_getElem.1 hit
 obtain ⟨it',h1,h2⟩:=h0 j (by omega)
 rw [Ab hj] at h1
 injection h1 with h1
 rw [h1];exact h2
theorem X1 {s:Str} {k p:Nat} (h:Uu s k p) (hp:p<s.length):∃f,(s.drop p).length<f+1∧(Cj s).drop k=J2 (f+1) p (s.drop p)∧s.drop p≠[]:=by
 obtain ⟨⟨f,hf,hd⟩,_,_⟩:=h
 obtain ⟨g,rfl⟩:∃g,f=g+1:=⟨f-1,by omega⟩
 exact ⟨g,hf,hd,fun e=>by rw [lz] at e;omega⟩
theorem R6 {s:Str} {k p:Nat} (h:Uu s k p) (hp:p<s.length):(Cj s)[k]? = some (⟨(wAt s p).1,(wAt s p).2.1,p⟩,(wAt s p).2.2.2):=by
 obtain ⟨f,_,hd,hne⟩:=X1 h hp
 rw [On hne] at hd
 have:=congrArg (·[0]?) hd
 unfold wAt
 simpa using this
theorem nt {s:Str} {k p:Nat} (h:Uu s k p) (hp:p<s.length) (he:(wAt s p).2.2.2=0):∃n:Nat,(wAt s p).2.2.1=(n:Int)∧1≤n∧p+n≤s.length∧Uu s (k+1) (p+n+gapM (s.drop (p+n))):=by
 have hi:=R6 h hp
 obtain ⟨f,hf,hd,hne⟩:=X1 h hp
 obtain ⟨n,hn,h1,h2⟩:=qv (s:=s.drop p) (by rw [Gj];omega) he
 rw [Gj] at h2 hf
 have hg:=np (s.drop (p+n))
 rw [Gj] at hg
 refine ⟨n,hn,h1,by omega,⟨f,by rw [Gj];omega,?_⟩,by omega,fun j hj=>?_⟩
 ·rw [On hne] at hd
  have:=congrArg (·.drop 1) hd
  simp only [cu,m8,cv] at this
  unfold wAt at he
  rw [this,hn,he]
  simp only [beq_self_eq_true,if_true,Int.toNat_natCast,cu]
 rcases Bk j k with h'|h'
 ·exact h.2.2 j h'
 have:j=k:=by omega
 subst this
 exact ⟨_,hi,he⟩
theorem AOq (l:Nat) (s:Str) (hs:s.length≤1048576) (U F:Nat→List AObj) (hlen:∀k,(U k).length=(U 0).length) (hll:l<(U 0).length)
  (hy:∀k it,(Cj s)[k]? = some it→AYield Tryz.prog l [I1 it.1,A3 it.2] (U k) (fun b H'=>if it.2=0 then b=true∧H'=U (k+1) else b=false∧H'=F k)):ACall Tryz.prog 148 [.yield l,.ro [Ac s]] (U 0) (fun r H'=>((∀it∈Cj s,it.2=0)∧H'=U (Cj s).length)∨∃k it,(Cj s)[k]? = some it∧it.2≠0∧(∀j,j<k→∃it',(Cj s)[j]? = some it'∧it'.2=0)∧H'=F k):=by
 refine Ae [] [0,1] Tryz.func148 Tryz.ntmps148 (fun d=>?_)
 refine Z2 ?_;refine Aa Tryz.call149 (AMh s hs _) ?_;refine A5 ?_;refine A2 [0,1,3] ?_
 refine Bf (α:=Nat×Nat) (fun x=>⟨44,A6 0 (.yield l) (A6 1 (.ro [Ac s]) (A6 3 (A3 (x.2:Nat)) (fun _=>.any))),U x.1,[],[],none⟩) (fun x=>Uu s x.1 x.2) (fun x=>s.length-x.2) (0,gapM s) (ns s) (Kt _) rfl (fun x hx=>?_)
 obtain ⟨k,p⟩:=x
 simp only at hx ⊢
 refine Z83 ?_;refine A2 [0,1,3,13] ?_
 refine A4 (fun ht13=>?_) (fun ht13=>?_)
 ·have hpl:p<s.length:=by simpa using ht13
  refine Oh ?_;refine Z1 ?_
  refine A5 (h:=Q.scutL p (fun _=>hx.2.1) (fun _=>Am _)) (hr:=?_)
  refine Aa Tryz.call150 (AOn (s.drop p) (by rw [Gj];omega) (by rw [Gj];omega) _) ?_
  refine Z57 ?_;refine Z81 ?_;refine A2 [0,1,3,4,5,6,7] ?_;refine Z83 ?_;refine ur ?_;refine A5 ?_;refine R.yield0 (hy k _ (R6 hx hpl)) ?_
  intro b V hV hb
  refine Z35 ?_;refine A5 ?_;refine A2 [0,1,3,6,40] ?_
  refine A4 (fun ht40=>?_) (fun ht40=>?_)
  ·have hbe:(Cl (s.drop p)).2.2.2≠0∧V=F k:=by
    split at hb
    ·rename_i h0
     obtain ⟨rfl,_⟩:=hb
     have h0':(Cl (s.drop p)).2.2.2=0:=h0
     simp [h0'] at ht40
    rename_i h0
    exact ⟨h0,hb.2⟩
   refine Z34 ?_;refine Z32 ?_;exact A8 .nores (hp:=.inr ⟨k,_,R6 hx hpl,hbe.1,hx.2.2,hbe.2⟩)
  have hbe:(Cl (s.drop p)).2.2.2=0∧V=U (k+1):=by
   split at hb
   ·rename_i h0
    exact ⟨h0,hb.2⟩
   obtain ⟨rfl,_⟩:=hb
   simp at ht40
  obtain ⟨n,hn,hn1,hnl,hnx⟩:=nt hx hpl hbe.1
  unfold wAt at hn
  rw [hn]
  have hgl:=np (s.drop (p+n))
  rw [Gj] at hgl
  refine Z3 ?_;refine Z22 ?_;refine Z0 ?_;refine A2 [0,1,3] ?_;refine Z12 ?_;refine Z49 ?_
  refine A5 (h:=Q.scutL (p+n) (fun _=>hnl) (fun _=>Am _)) (hr:=?_)
  refine Aa Tryz.call149 (AMh (s.drop (p+n)) (by rw [Gj];omega) _) ?_
  refine Z0 ?_;refine A2 [0,1,3] ?_;exact Bg (k+1,p+n+gapM (s.drop (p+n))) hnx (by show s.length-_<s.length-p;omega) (Dn (by rw [hbe.2];simp))
 have hpl:s.length≤p:=by simpa using ht13
 obtain ⟨hk,hz⟩:=vg hx hpl
 refine Z59 ?_;refine K.lpE ?_;exact Es .nores (hp:=.inl ⟨hz,by rw [hk]⟩)

theorem AOr (s:Str) (Hp:List AObj):AFun Tryz.prog 113 [Ac s] Hp (.fn (.func 148) [] [.ro [Ac s]]):=by
 refine Ae [.tmp 2] [0] Tryz.func113 Tryz.ntmps113 (fun d=>?_)
 refine Z93 ?_;refine mx ?_;exact ADw

def Bd (s:Str):List Tok×Int×Nat:=if 4000<s.length then ([],3,0) else
 match (Cj s).find? (fun it=>it.2 != 0) with
 | some it=>([],it.2,it.1.at_)
 | none=>((Cj s).map (·.1)++[⟨0,[],s.length⟩],0,0)
theorem AEg {s:Str} {k:Nat} {it:Tok×Int} (hit:(Cj s)[k]? = some it) (he:it.2≠0) (h0:∀j,j<k→∃it',(Cj s)[j]? = some it'∧it'.2=0):(Cj s).find? (fun it=>it.2 != 0)=some it:=by
 rw [yh]
 obtain ⟨hk,e⟩:=Ad.1 hit
 refine ⟨by simpa using he,k,hk,e,fun j hj=>?_⟩
 obtain ⟨it',h1,h2⟩:=h0 j hj
 rw [Ab (by omega)] at h1
 injection h1 with h1
 rw [h1,h2];rfl
theorem AAk {s:Str} (h:∀it∈Cj s,it.2=0):(Cj s).find? (fun it=>it.2 != 0)=none:=by
 rw [O1]
 intro it hit
 simp [h it hit]
def ar (s:Str) (k:Nat):Int×Nat:=match (Cj s)[k]? with|some it=>(it.2,it.1.at_)|none=>(0,0)
theorem X2:∀(f k:Nat) (s:Str),(J2 f k s).length≤f
 | 0,_,_=>Ar _
 | f+1,k,s=>by
  rw [J2]
  split
  ·exact Ar _
  rw [Bi]
  split
  ·have:=X2 f (k+(Cl s).2.2.1.toNat+gapM (s.drop (Cl s).2.2.1.toNat)) ((s.drop (Cl s).2.2.1.toNat).drop (gapM (s.drop (Cl s).2.2.1.toNat)))
   omega
  simp
theorem X3 (s:Str):(Cj s).length≤s.length+1:=X2 _ _ _
def Mf (s:Str) (k:Nat):List Tok:=((Cj s).take k).map (·.1)
theorem Tt (s:Str) (k:Nat):(Mf s k).length≤s.length+1:=by
 have:=X3 s
 unfold Mf
 rw [Ao,Cy]
 omega
theorem nu {s:Str} {k:Nat} {it:Tok×Int} (hit:(Cj s)[k]? = some it):Mf s (k+1)=Mf s k++[it.1]:=by
 unfold Mf
 rw [Ms,hit,Bq]
 rfl
theorem vh (s:Str):Mf s (Cj s).length=(Cj s).map (·.1):=by unfold Mf;rw [Lq]
theorem vi {s:Str} {k:Nat} {it:Tok×Int} (hl4:¬4000<s.length) (hit:(Cj s)[k]? = some it) (he:it.2≠0) (h0:∀j,j<k→∃it',(Cj s)[j]? = some it'∧it'.2=0):Bd s=([],it.2,it.1.at_):=by
 unfold Bd
 rw [if_neg hl4,AEg hit he h0]
theorem AAl {s:Str} (hl4:¬4000<s.length) (hz:∀it∈Cj s,it.2=0):Bd s=(Mf s (Cj s).length++[⟨0,[],s.length⟩],0,0):=by
 unfold Bd
 rw [if_neg hl4,AAk hz,vh]
theorem c66 (s:Str) (hs:s.length≤1048576) (Hp:List AObj):AFun Tryz.prog 66 [Ac s] Hp (.tup [qt (Bd s).1,.agg [A3 (Bd s).2.1,A3 (Bd s).2.2]]):=by
 refine Ae [.cell 2 104,.cell 3 73] [0,5,6] Tryz.func66 Tryz.ntmps66 (fun d=>?_)
 refine zq ?_;refine A2 [0,2,3,5,6] ?_;refine Z31 ?_;refine A2 [0,2,3,5,6,9] ?_
 refine A4 (fun ht9=>?_) (fun ht9=>?_)
 ·have hlm:Bd s=([],3,0):=by unfold Bd;rw [if_pos (by simp at ht9;omega)]
  refine Ez ?_;refine Z21 ?_;refine Kz 0 3 ?_;refine ze ?_;refine Z34 ?_;exact A8 (B1 (Dm jA) (B3 jA jS)) ⟨by rw [hlm];rfl,rfl⟩
 have hl4:¬4000<s.length:=by simp at ht9;omega
 refine Z3 ?_;refine Z24 ?_;refine A2 [0,2,3,4,5,6] ?_;refine Z54 ?_;refine Kz 2 3 ?_;refine A5 ?_;refine Aa Tryz.call113 (AOr s _) ?_;refine A2 [0,2,3,4,5,6,12] ?_;refine Jy ?_
 refine L0 (m:=3) Tryz.call148 (fun FR as' bd' hFR has hbd=>?_)
 refine ⟨_,AOq (oid Hp.length 4) s hs (fun k=>Hp++[AObj.cells 104 [AV.nil],AObj.cells 73 [A3 0,A3 0],AObj.cells 104 [AV.slice true 3 ((Mf s k).map I1)],AObj.defs,AObj.loop LoopState.ready none FR 32 #[13,14] as' bd' (oid Hp.length 3)]) (fun k=>Hp++[AObj.cells 104 [AV.nil],AObj.cells 73 [A3 (ar s k).1,A3 (ar s k).2],AObj.cells 104 [AV.slice true 3 ((Mf s k).map I1)],AObj.defs,AObj.loop LoopState.done (some Code.ret) FR 32 #[13,14] as' bd' (oid Hp.length 3)]) (fun k=>by simp) (by simp [oid]) (fun k it hit=>?_),?_⟩
 ·generalize hV:Hp++[AObj.cells 104 [AV.nil],AObj.cells 73 [A3 0,A3 0],AObj.cells 104 [AV.slice true 3 ((Mf s k).map I1)],AObj.defs,AObj.loop LoopState.ready none FR 32 #[13,14] as' bd' (oid Hp.length 3)]=V
  have hL:V[oid Hp.length 4]? = some (AObj.loop LoopState.ready none FR 32 #[13,14] as' bd' (oid Hp.length 3)):=by rw [←hV,As];rfl
  have hA0:V[oid Hp.length 2]? = some (AObj.cells 104 [AV.slice true 3 ((Mf s k).map I1)]):=by rw [←hV,As];rfl
  have hB0:V[oid Hp.length 0]? = some (AObj.cells 104 [AV.nil]):=by rw [←hV,As];rfl
  have hC0:V[oid Hp.length 1]? = some (AObj.cells 73 [A3 0,A3 0]):=by rw [←hV,As];rfl
  refine Iy (pd:=none) (fr:=FR) (sz:=32) (ps:=#[13,14]) (df:=oid Hp.length 3) (asg:=as') (bd:=bd') hL rfl (by decide) (fun d=>?_)
  subst hFR has hbd
  refine Fd [2,3,4,13,14] ?_;refine Ze ?_;refine A2 [2,3,4,5,14] ?_;refine Z44 ?_;refine A2 [2,3,4,5,6] ?_
  refine ⟨rfl,none,hL,?_⟩
  generalize hbz:(AObj.loop LoopState.busy _ _ _ _ _ _ _)=bz
  have hA:(V.set (oid Hp.length 4) bz)[oid Hp.length 2]? = some (AObj.cells 104 [AV.slice true 3 ((Mf s k).map I1)]):=by rw [Bh (Bv (by decide))];exact hA0
  have hB:(V.set (oid Hp.length 4) bz)[oid Hp.length 0]? = some (AObj.cells 104 [AV.nil]):=by rw [Bh (Bv (by decide))];exact hB0
  have hC:(V.set (oid Hp.length 4) bz)[oid Hp.length 1]? = some (AObj.cells 73 [A3 0,A3 0]):=by rw [Bh (Bv (by decide))];exact hC0
  refine mw ?_;refine A2 [2,3,4,5,6,16] ?_
  refine A4 (fun ht16=>?_) (fun ht16=>?_)
  ·have hne:it.2≠0:=by simpa using ht16
   refine Fc [0,0,2,7,0,31] [4] [.q 4 [] [],.s [] (some 0) [] []] (fun _=>V.set (oid Hp.length 4) bz) (fun _=>[AObj.cells 118 [A3 it.1.kind,Ac it.1.text,A3 it.1.at_]]) Aj (by kernel_rfl) rfl rfl (fun _=>rfl) ?_
   apply Y.q
   ·intro B hT hF
    refine Z33 ?_;exact AKh
   case hTF=>decide
   refine Y.storeUp (o:=oid Hp.length 0) (ys:=[.nil]) (t':=104) (cs:=[AV.nil]) (cs':=[AV.nil]) jS (fun _ _=>⟨hB,(Ce hB).symm,rfl,by simp⟩) ?_;refine Ed (tn:=[4]) (U:=V.set (oid Hp.length 4) bz) ?_
   refine Cq jS hC ?_ ?_
   ·simp
   refine uj ?_
   subst hbz
   refine K.rdR (z7 hL (Bv (by decide))) ?_
   rw [if_neg hne]
   refine ⟨rfl,?_⟩
   subst hV
   simp only [Cp,List.set_cons_succ,List.set_cons_zero]
   rw [show ar s k=(it.2,it.1.at_) by unfold ar;rw [hit]]
  have heq:it.2=0:=by simpa using ht16
  refine Z3 ?_;refine Gf ?_
  have hl3:=Tt s k
  refine AE2 ?_
  refine Ep jU Tryz.type118 ?_ ?_ ?_
  ·simp [hl3,Tryz.t118];omega
  ·simp [hl3,Tryz.t118];omega
  refine Fv jS (getset hA) ?_ ?_
  ·simp [or_imp,forall_and]
  refine Z91 ?_
  subst hbz
  refine zw ?_
  rw [if_pos heq]
  refine ⟨rfl,?_⟩
  subst hV
  simp only [Cp,List.set_cons_succ,List.set_cons_zero]
  rw [nu hit,Bq]
  rfl
 rintro r H' (⟨hz,rfl⟩|⟨k,it,hit,hne,h0,rfl⟩)
 ·refine ⟨Hp,_,_,_,rfl,rfl,fun h=>h,?_,rfl,by simp,?_⟩
  ·intro o ho
   have:o=oid Hp.length 3:=by simpa using ho
   subst this
   rw [As]
   rfl
  refine Z12 ?_;refine Ez ?_;refine Wi jA ?_;refine Z0 ?_;refine ur ?_;refine Tj ?_
  refine Ep jU Tryz.type118 ?_ ?_ ?_
  ·have:=Tt s (Cj s).length;simp [Tryz.t118];omega
  ·have:=Tt s (Cj s).length;simp [Tryz.t118];omega
  refine n6 ?_;refine Wj jS ?_;refine Fw ?_;refine Z60 ?_;exact A8 (B1 (Dm jA) (B3 jA jS)) ⟨by rw [AAl hl4 hz,qt,Bq];rfl,rfl⟩ (hlow:=by simp [or_imp,forall_and])
 refine ⟨Hp,_,_,_,rfl,rfl,fun h=>h,?_,rfl,by simp,?_⟩
 ·intro o ho
  have:o=oid Hp.length 3:=by simpa using ho
  subst this
  rw [As]
  rfl
 refine Wm 0 3 ?_;refine Zf ?_;exact A8 (B1 (Dm jA) (B3 jA jS)) ⟨by rw [vi hl4 hit hne h0,show ar s k=(it.2,it.1.at_) by unfold ar;rw [hit]];rfl,rfl⟩

inductive Expr where
 | mk (op:Int) (text:Str) (val:Val) (kids:List Expr)
def Expr.op:Expr→Int|.mk o _ _ _=>o
def Expr.text:Expr→Str|.mk _ t _ _=>t
def Expr.val:Expr→Val|.mk _ _ v _=>v
def Expr.kids:Expr→List Expr|.mk _ _ _ k=>k
mutual
def A7:Expr→AV
 | .mk o t v k=>.agg [.v (.int .i64 o),.v (sv t),.v (.int .i64 v.kind),.v (.int .i64 v.n),.v (sv v.s),.slice false 6 (Tu k)]
def Tu:List Expr→List AV
  | []=>[]
  | e::r=>A7 e::Tu r
 end
theorem X4:∀l,Tu l=l.map A7
 | []=>rfl
 | e::r=>by rw [Tu,X4 r];rfl
theorem Al (e:Expr):A7 e=.agg [.v (.int .i64 e.op),.v (sv e.text),.v (.int .i64 e.val.kind),.v (.int .i64 e.val.n),.v (sv e.val.s),.slice false 6 (e.kids.map A7)]:=by
 cases e with
 | mk o t v k=>rw [A7,X4];rfl
attribute [go_sem] Al
def Pn:Str:=[32,111,114,32,32,97,110,100,32,32,61,32,33,61,32,60,32,60,61,32,62,32,62,61,32,32,43,32,45,32,38,32,32,42,32,47,32,37,32]
def Ns (v:Val):Bool:=v.kind==0&&v.n==0&&v.s==[]
def Ew (e:Expr):Bool:=
 if e.op==1 then ((Ee e.val&&decide (0≤e.val.n))&&(e.text==[]))&&((e.kids.length:Int)==0)
 else if e.op==2 then (Ns e.val&&Dw e.text)&&((e.kids.length:Int)==0)
 else if e.op==3 || e.op==4 then (Ns e.val&&(e.text==[]))&&((e.kids.length:Int)==1)
 else if e.op==5 then (Ns e.val&&Pm e.text Pn)&&((e.kids.length:Int)==2)
 else if e.op==6 then Ns e.val&&(Cf e.text==(e.kids.length:Int))
 else false
theorem AOs (e:Expr) (hs:e.text.length≤1048576) (Hp:List AObj):AFun Tryz.prog 140 [A7 e] Hp (Az (Ew e)):=by
 refine ACall.body [.tmp 2] [0] Tryz.func140 Tryz.ntmps140 (fun d=>?_)
 refine Z93 ?_;refine Z1 ?_;refine ur ?_
 refine R.go (h:=Q.eqlAgg Zk (Jc e.val.kind e.val.n 0 0 e.val.s [])) (hr:=?_)
 refine R.go ?_;refine R.fin [1,3] ?_;refine Z7 ?_;refine R.fin [1,3,9] ?_;refine Vf ?_;refine R.fin [1,3,9,10] ?_
 refine W.cond (fun ht10=>?_) (fun ht10=>?_)
 ·refine Z1 ?_;refine R.call Tryz.call93 (c93 e.val _) ?_;refine R.go ?_;refine Pw ?_;refine Zg ?_;exact zf
 refine Z1 ?_;refine R.fin [1,3,9,32] ?_
 refine W.cond (fun ht32=>?_) (fun ht32=>?_)
 ·refine Z1 ?_;refine Z6 ?_;refine G.call Tryz.call105 (fun hB=>AA8 e.text hs _) ?_;exact zf
 refine Z7 ?_;refine R.fin [1,3,9,46] ?_
 refine W.cond (fun ht46=>?_) (fun ht46=>?_)
 ·refine Z3 ?_
  refine W.cond (fun ht46=>?_) (fun ht46=>?_)
  ·refine Z1 ?_;refine Z69 ?_;exact zf
  refine Z1 ?_;refine R.fin [1,3,9,61] ?_
  refine W.cond (fun ht61=>?_) (fun ht61=>?_)
  ·refine Z1 ?_;refine Z6 ?_;exact AKi
  refine Z1 ?_;refine R.fin [1,3,75] ?_
  refine W.cond (fun ht75=>?_) (fun ht75=>?_)
  ·refine AL2 ?_;refine Z87 ?_;refine H.call Tryz.call176 (fun hB=>AIe e.text _) ?_;refine Z87 ?_;refine H.go ?_;refine D.tail ?_;refine G.go ?_;exact AHr
  refine Z19 ?_;exact AKm
 refine Z22 ?_;refine R.fin [1,3,9,46] ?_;refine K.thN ?_
 refine W.cond (fun ht46=>?_) (fun ht46=>?_)
 ·refine Z1 ?_;refine Z69 ?_;exact zf
 refine Z1 ?_;refine R.fin [1,3,9,61] ?_
 refine W.cond (fun ht61=>?_) (fun ht61=>?_)
 ·refine Z1 ?_;refine Z6 ?_;exact AKi
 refine Z1 ?_;refine R.fin [1,3,75] ?_
 refine W.cond (fun ht75=>?_) (fun ht75=>?_)
 ·refine AL2 ?_;refine Z87 ?_;refine H.call Tryz.call176 (fun hB=>AIe e.text _) ?_;refine Z87 ?_;refine H.go ?_;refine D.tail ?_;refine G.go ?_;exact AHr
 refine Z19 ?_;exact AKm

mutual
def Bs (d:Int):Expr→List (Int×Expr)
 | .mk o t v k=>(d,.mk o t v k)::Bn (d+1) k
def Bn (d:Int):List Expr→List (Int×Expr)
  | []=>[]
  | e::r=>Bs d e++Bn d r
 end
theorem J3 (d:Int) (e:Expr):Bs d e=(d,e)::Bn (d+1) e.kids:=by cases e;rfl
theorem M6 (d:Int):∀a b,Bn d (a++b)=Bn d a++Bn d b
 | [],b=>rfl
 | e::r,b=>by rw [Dk,Bn,Bn,M6 d r b,Ax]
theorem j5 (d:Int) (l:List Expr) {x:Nat} (h:x<l.length):Bn d (l.take (x+1))=Bn d (l.take x)++Bs d l[x]:=by
 rw [J8 h,M6]
 simp [Bn]
theorem S4 (d:Int) (l:List Expr) {x:Nat} (h:x<l.length):Bn d l=Bn d (l.take x)++(Bs d l[x]++Bn d (l.drop (x+1))):=by
 have e:l=l.take x++(l[x]::l.drop (x+1)):=by rw [←I4 h,qc]
 conv=>lhs;rw [e]
 rw [M6,Bn]
mutual
def sizeE:Expr→Nat
 | .mk _ _ _ k=>1+Ef k
def Ef:List Expr→Nat
  | []=>0
  | e::r=>sizeE e+Ef r
 end
theorem j6 (e:Expr):sizeE e=1+Ef e.kids:=by cases e;rfl
/-- Each node has few kids. -/
def okE:Nat→Expr→Prop
 | 0,_=>False
 | n+1,e=>e.text.length≤1048576∧e.kids.length≤1048576∧∀y∈e.kids,okE n y
/-- Who takes what a tree yields: item k is taken at U k; it goes on (go k) to U (k + 1), or ends at F k. Behind U k there may stand others' objects. -/
structure Takes (P:Program) (l:Nat) (L:List (Int×Expr)) (go:Nat→Bool) (U F:Nat→List AObj) (n0:Nat):Prop where
 lenU:∀k,(U k).length=n0
 lenF:∀k,(F k).length=n0
 lowU:∀k,∀x∈U k,ObjLow n0 x
 lowF:∀k,∀x∈F k,ObjLow n0 x
 lt:l<n0
 y:∀(X:List AObj) (k:Nat) (it:Int×Expr),L[k]? = some it→(∀j,j<k→go j=true)→AYield P l [A3 it.1,A7 it.2] (U k++X) (fun b H'=>b=go k∧H'=(if go k then U (k+1) else F k)++X)
theorem ObjLow.le {m m':Nat} (h:m≤m') {x:AObj} (hx:ObjLow m x):ObjLow m' x:=by
 cases x with
 | cells t cs=>exact fun y hy=>(hx y hy).mono h
 | loop s pd fr sz ps as' bd df=>exact ⟨fun s=>(hx.1 s).mono h,Fp hx.2 h⟩
 | defs=>trivial
 | dead=>trivial
 | bld _ _ _=>trivial
 | gone=>trivial
/-- What the walk over n items from k0 on comes to. -/
def j7 (go:Nat→Bool) (U F:Nat→List AObj) (k0 n:Nat) (X:List AObj):AV→List AObj→Prop:=fun r H' =>
 ((∀j,j<n→go (k0+j)=true)∧r=Az true∧H'=U (k0+n)++X)∨(∃j,j<n∧(∀i,i<j→go (k0+i)=true)∧go (k0+j)=false∧r=Az false∧H'=F (k0+j)++X)
mutual
theorem Ah (m:Nat):∀e,Low m (A7 e)
 | .mk o t v k=>by
  rw [A7]
  refine .agg _ fun y hy=>?_
  simp only [B4,E2,or_false] at hy
  rcases hy with rfl|rfl|rfl|rfl|rfl|rfl
  ·exact .v _
  ·exact .v _
  ·exact .v _
  ·exact .v _
  ·exact .v _
  exact low_slice.2 (X5 m k)
theorem X5 (m:Nat):∀l,∀y∈Tu l,Low m y
  | [],y,hy=>by cases hy
  | e::r,y,hy=>by
    rw [Tu] at hy
    rcases B4.1 hy with rfl|h
    · exact Ah m e
    exact X5 m r y h
 end
theorem S5 {V O A B own:List AObj} (h:V++O=A++(B++own)) (hl:V.length=(A++B).length):V=A++B∧O=own:=by
 rw [←Ax] at h
 exact I3 h hl
theorem Ic {m:Nat} {A X:List AObj} (hA:∀x∈A,ObjLow m x) (hX:∀x∈X,ObjLow m x):∀x∈A++X,ObjLow m x:=fun x hx=>by
 rcases Ei.1 hx with h|h
 ·exact hA x h
 exact hX x h
theorem nv {P:Program} {l:Nat} {L:List (Int×Expr)} {go:Nat→Bool} {U F:Nat→List AObj} {n0 k n K:Nat} {X own V O:List AObj} {r:AV} (T:Takes P l L go U F n0) (hV:V.length=(U K++X).length) (hp:j7 go U F k n (X++own) r (V++O)):
  ∃b,r=Az b∧O=own∧(if b then (∀j,j<n→go (k+j)=true)∧V=U (k+n)++X else ∃j,j<n∧(∀i,i<j→go (k+i)=true)∧go (k+j)=false∧V=F (k+j)++X)∧((∀x∈U K++X,ObjLow V.length x)→∀x∈V,ObjLow V.length x):=by
 have hn:n0≤V.length:=by rw [hV,Av,T.lenU];omega
 rcases hp with ⟨h1,h2,h3⟩|⟨j,hj,h1,h2,h3,h4⟩
 ·obtain ⟨e1,e2⟩:=S5 h3 (by rw [hV];simp [T.lenU])
  refine ⟨true,h2,e2,⟨h1,e1⟩,fun h=>?_⟩
  rw [e1] at h ⊢
  exact Ic (fun x hx=>ObjLow.le (by rw [Av,T.lenU];omega) (T.lowU _ x hx)) (fun x hx=>h x (Rn _ hx))
 obtain ⟨e1,e2⟩:=S5 h4 (by rw [hV];simp [T.lenU,T.lenF])
 refine ⟨false,h3,e2,⟨j,hj,h1,h2,e1⟩,fun h=>?_⟩
 rw [e1] at h ⊢
 exact Ic (fun x hx=>ObjLow.le (by rw [Av,T.lenF];omega) (T.lowF _ x hx)) (fun x hx=>h x (Rn _ hx))
theorem j8 (d:Int) (l:List Expr) {x:Nat} (h:x<l.length):(Bn d (l.take (x+1))).length=(Bn d (l.take x)).length+(Bs d l[x]).length:=by rw [j5 d l h,Av]
theorem AAm {d0:Int} {e:Expr} {x:Nat} (h:x<e.kids.length) {j:Nat} {it:Int×Expr} (hj:(Bs (d0+1) e.kids[x])[j]? = some it):(Bs d0 e)[1+(Bn (d0+1) (e.kids.take x)).length+j]? = some it:=by
 rw [J3 d0 e,show 1+(Bn (d0+1) (e.kids.take x)).length+j=((Bn (d0+1) (e.kids.take x)).length+j)+1 by omega,Qj,S4 (d0+1) e.kids h,Ds (by omega)]
 rw [show (Bn (d0+1) (e.kids.take x)).length+j-(Bn (d0+1) (e.kids.take x)).length=j by omega,Dr (Ad.1 hj).1]
 exact hj
theorem vj (d0:Int) (e:Expr) {x:Nat} (h:x<e.kids.length):1+(Bn (d0+1) (e.kids.take x)).length+(Bs (d0+1) e.kids[x]).length≤(Bs d0 e).length:=by
 rw [J3 d0 e,Bi,S4 (d0+1) e.kids h]
 simp only [Av]
 omega
theorem AOt {l:Nat} {L:List (Int×Expr)} {go:Nat→Bool} {U F:Nat→List AObj} {n0:Nat} (T:Takes Tryz.prog l L go U F n0):∀(n:Nat) (e:Expr),okE n e→∀(d0:Int) (k0:Nat) (X:List AObj),0≤d0→d0+n≤1099511627776→(∀(j:Nat) (it:Int×Expr),(Bs d0 e)[j]? = some it→L[k0+j]? = some it)→(∀j,j<k0→go j=true)→ACall Tryz.prog 174 [A7 e,A3 d0,.yield l] (U k0++X) (j7 go U F k0 (Bs d0 e).length X):=by
 intro n
 induction n with
 | zero=>exact fun e h=>h.elim
 | succ n ih =>
 intro e hok d0 k0 X hd hdn hit hgo
 have hlen0:(U k0++X).length=n0+X.length:=by rw [Av,T.lenU]
 refine Ae [.tmp 6] [0,1,2] Tryz.func174 Tryz.ntmps174 (fun d=>?_)
 refine Z1 ?_;refine A2 [1,2,3] ?_;refine Z31 ?_
 refine R.yield0 (T.y X k0 (d0,e) (hit 0 _ (by rw [J3];rfl)) hgo) ?_
 intro b Vv hV hb
 refine A5 ?_;refine A2 [1,2,3,13] ?_
 refine A4 (fun ht13=>?_) (fun ht13=>?_)
 ·have hb':b=false:=by simpa using ht13
  subst hb'
  refine Z2 ?_;refine ie ?_;exact A8 (Ak A9) (Or.inr ⟨0,by rw [J3];simp,fun i hi=>by omega,hb.1.symm,rfl,by have:=hb.2;rw [show go k0=false from hb.1.symm] at this;exact this⟩)
 have hb':b=true:=by simpa using ht13
 subst hb'
 have hgo0:go (k0+0)=true:=hb.1.symm
 have hVe:Vv=U (k0+1)++X:=by have:=hb.2;rw [show go k0=true from hb.1.symm] at this;exact this
 subst hVe
 have h0x:0≤e.kids.length∧∀j,j<1+(Bn (d0+1) (e.kids.take 0)).length→go (k0+j)=true:=⟨Ar _,fun j hj=>by
  have:j=0:=by simp [Bn] at hj;omega
  subst this
  exact hgo0⟩
 refine Z3 ?_;refine Z83 ?_;refine A2 [1,2,15,16,17] ?_
 refine Bf (α:=Nat) (fun x=>⟨28,A6 1 (A3 d0) (A6 2 (.yield l) (A6 15 (.slice false 6 (e.kids.map A7)) (A6 16 (A3 e.kids.length) (A6 17 (A3 (x:Nat)) (fun _=>.any))))),U (k0+(1+(Bn (d0+1) (e.kids.take x)).length))++X,[],[],none⟩) (fun x=>x≤e.kids.length∧∀j,j<1+(Bn (d0+1) (e.kids.take x)).length→go (k0+j)=true) (fun x=>e.kids.length-x) (0) h0x (Bj (by simp [Bn])) rfl (fun x hx=>?_)
 refine Z2 ?_;refine A2 [1,2,15,16,17,18] ?_
 refine Cr (fun ht18=>?_) (fun ht18=>?_)
 ·have hlt:x<e.kids.length:=by simpa using ht18
  have hkl:=hok.2.1
  refine Z76 ?_
  refine A5 (h:=Ai (x) (A7 e.kids[x]) (fun _=>B6 hlt)) (hr:=?_)
  refine Qw ?_;refine A2 [1,2,8,15,16,17] ?_;refine Z23 ?_
  refine R.callG Tryz.call174 (args:=[A7 e.kids[x],A3 (d0+1),.yield l]) (by rw [Ax];exact ih e.kids[x] (hok.2.2 _ (Be hlt)) (d0+1) (k0+(1+(Bn (d0+1) (e.kids.take x)).length)) (X++_) (by omega) (by omega) (fun j it hj=>by have:=hit _ it (AAm hlt hj);rwa [←Ka] at this) (fun j hj=>by rcases Bk j k0 with h|h;exact hgo j h;have:=hx.2 (j-k0) (by omega);rwa [show k0+(j-k0)=j by omega] at this)) ?_
  intro r Vv O hV hp
  obtain ⟨b,rfl,rfl,hc,hlowV⟩:=nv T hV hp
  refine ⟨hlowV,fun o ho=>by simp at ho,?_⟩
  refine A5 ?_;refine A2 [1,2,15,16,17,26] ?_
  refine A4 (fun ht26=>?_) (fun ht26=>?_)
  ·have hb':b=false:=by simpa using ht26
   subst hb'
   obtain ⟨j,hj,h1,h2,h3⟩:=hc
   refine Z2 ?_;refine Z72 ?_;refine Z62 ?_
   have hil:=vj d0 e hlt
   refine A8 (Ak A9) (Or.inr ⟨1+(Bn (d0+1) (e.kids.take x)).length+j,by omega,fun i hi=>?_,by rwa [Ka] at h2,rfl,by rwa [Ka] at h3⟩)
   rcases Bk i (1+(Bn (d0+1) (e.kids.take x)).length) with h|h
   ·exact hx.2 i h
   have:=h1 (i-(1+(Bn (d0+1) (e.kids.take x)).length)) (by omega)
   rwa [show k0+(1+(Bn (d0+1) (e.kids.take x)).length)+(i-(1+(Bn (d0+1) (e.kids.take x)).length))=k0+i by omega] at this
  have hb':b=true:=by simpa using ht26
  subst hb'
  obtain ⟨h1,h3⟩:=hc
  refine Z73 ?_;refine A2 [1,2,15,16,17] ?_
  subst h3
  have hll:=j8 (d0+1) e.kids hlt
  have e1:k0+(1+(Bn (d0+1) (e.kids.take (x+1))).length)=k0+(1+(Bn (d0+1) (e.kids.take x)).length)+(Bs (d0+1) e.kids[x]).length:=by omega
  refine Bg (x+1) ⟨hlt,fun j hj=>?_⟩ (by omega) ?_
  ·rcases Bk j (1+(Bn (d0+1) (e.kids.take x)).length) with h|h
   ·exact hx.2 j h
   have:=h1 (j-(1+(Bn (d0+1) (e.kids.take x)).length)) (by omega)
   rwa [show k0+(1+(Bn (d0+1) (e.kids.take x)).length)+(j-(1+(Bn (d0+1) (e.kids.take x)).length))=k0+j by omega] at this
  simp only [e1]
  exact Di (own:=[]) (fun _=>.refl _) (by repeat (first|exact Bc|refine Bb (by first|(simp [Ah];done)|(have:=T.lt;simp [T.lenU];omega)) ?_)) (by simp) (by simp)
 have hxe:e.kids.take x=e.kids:=Eo (by simp at ht18;omega)
 refine n5 ?_;refine Z72 ?_
 have hl2:(Bs d0 e).length=1+(Bn (d0+1) (e.kids.take x)).length:=by rw [J3,hxe,Bi];omega
 exact A8 (Ak A9) (Or.inl ⟨fun j hj=>hx.2 j (by omega),rfl,by rw [hl2]⟩)

def L4:=@ObjLow.le
abbrev E4 (e:Expr):List AV:=[.v (.int .i64 e.op),.v (sv e.text),.v (.int .i64 e.val.kind),.v (.int .i64 e.val.n),.v (sv e.val.s),.slice false 6 (e.kids.map A7)]
/-- What taking all of a tree comes to. -/
def Mg (go:Nat→Bool) (U F:Nat→List AObj) (n:Nat) (H':List AObj):Prop:=
 ((∀j,j<n→go j=true)∧H'=U n)∨(∃j,j<n∧(∀i,i<j→go i=true)∧go j=false∧H'=F j)
theorem AIk {l:Nat} {e:Expr} {go:Nat→Bool} {U F:Nat→List AObj} {n0:Nat} (T:Takes Tryz.prog l (Bs 1 e) go U F n0) (n:Nat) (hok:okE n e) (hn:n≤1048576):ACall Tryz.prog 173 [.yield l,.ro (E4 e)] (U 0) (fun r H'=>Mg go U F (Bs 1 e).length H'):=by
 refine Ae [] [0,1] Tryz.func173 Tryz.ntmps173 (fun d=>?_)
 refine Z22 ?_;refine R.callG Tryz.call174 (args:=[A7 e,A3 1,.yield l]) (AOt T n e hok 1 0 [] (by omega) (by omega) (fun j it hj=>by rwa [Bl]) (fun j hj=>by omega)) ?_
 intro r Vv O hV hp
 have hO:O=[]:=by
  have h1:(Vv++O).length=n0:=by rcases hp with ⟨_,_,h⟩|⟨j,_,_,_,_,h⟩<;>rw [h]<;>simp [T.lenU,T.lenF]
  have h2:=T.lenU 0
  rw [Av,hV,h2] at h1
  exact cw (by omega)
 subst hO
 rw [Gs] at hp
 have hq:Mg go U F (Bs 1 e).length Vv:=by
  rcases hp with ⟨h1,_,h⟩|⟨j,h1,h2,h3,_,h⟩
  ·exact .inl ⟨fun j hj=>by have:=h1 j hj;rwa [Bl] at this,by rw [h];simp⟩
  exact .inr ⟨j,h1,fun i hi=>by have:=h2 i hi;rwa [Bl] at this,by rwa [Bl] at h3,by rw [h];simp⟩
 refine ⟨fun h=>?_,fun o ho=>by simp at ho,?_⟩
 ·rcases hq with ⟨_,h⟩|⟨j,_,_,_,h⟩<;>rw [h]
  ·rw [T.lenU];exact T.lowU _
  rw [T.lenF];exact T.lowF _
 refine A2 [] ?_;exact Es .nores (hp:=hq)

theorem AOu (e:Expr) (Hp:List AObj):AFun Tryz.prog 139 [A7 e] Hp (.fn (.func 173) [] [.ro (E4 e)]):=by
 refine Ae [.tmp 2] [0] Tryz.func139 Tryz.ntmps139 (fun d=>?_)
 refine Z93 ?_;refine mx ?_;refine Z4 ?_;exact A8 (Ak A9) (hlow:=by have:=Ah Hp.length e;rw [Al] at this;simpa using this)

def goM (e:Expr) (k:Nat):Bool:=match (Bs 1 e)[k]? with
 | some it => !((!Ew it.2 || decide ((30:Int)<it.1)) || decide ((300:Int)<(k:Int)+1))
 | none=>true
def Ay (e:Expr):Bool:=(List.range (Bs 1 e).length).all (goM e)
mutual
theorem au:∀(n:Nat) (e:Expr),okE n e→∀d,∀it∈Bs d e,it.2.text.length≤1048576
 | 0,_,h,_,_,_=>h.elim
 | n+1,e,h,d,it,hit=>by
  rw [J3] at hit
  rcases B4.1 hit with rfl|h'
  ·exact h.1
  exact av n e.kids h.2.2 (d+1) it h'
 termination_by n e=>(n,0)
theorem av:∀(n:Nat) (l:List Expr),(∀y∈l,okE n y)→∀d,∀it∈Bn d l,it.2.text.length≤1048576
  | n,[],_,_,_,h=>by cases h
  | n,e::r,h,d,it,hit=>by
    rw [Bn] at hit
    rcases Ei.1 hit with h'|h'
    · exact au n e (h e (by simp)) d it h'
    exact av n r (fun y hy=>h y (by simp [hy])) d it h'
  termination_by n l=>(n,l.length+1)
 end
theorem nw {U:List AObj} {i j:Nat} {x y:AObj} (h:U[i]? = some x) (hne:j≠i):(U.set j y)[i]? = some x:=by rw [Bh hne];exact h
theorem AIl {e:Expr} {k:Nat} {it:Int×Expr} (hit:(Bs 1 e)[k]? = some it) (h:∀j,j<k→goM e j=true):(k:Int)≤300:=by
 rcases Nat.eq_zero_or_pos k with h0|h0
 ·omega
 have hl:=(Ad.1 hit).1
 have:=h (k-1) (by omega)
 unfold goM at this
 rw [Ab (by omega)] at this
 simp at this
 omega
theorem f7 {e:Expr} {k:Nat} {it:Int×Expr} (hit:(Bs 1 e)[k]? = some it):goM e k = !((!Ew it.2 || decide ((30:Int)<it.1)) || decide ((300:Int)<(k:Int)+1)):=by
 unfold goM;rw [hit]
theorem c96 (n:Nat) (e:Expr) (hok:okE n e) (hn:n≤1048576) (Hp:List AObj):AFun Tryz.prog 96 [A7 e] Hp (Az (Ay e)):=by
 refine Ae [.cell 2 4] [0,4,5] Tryz.func96 Tryz.ntmps96 (fun d=>?_)
 refine zu ?_;refine A2 [1,2,4,5] ?_;refine Ze ?_;refine A2 [1,2,3,4,5] ?_;refine Z54 ?_
 refine Jx (fun hlow=>?_)
 refine AI1 ?_;refine A2 [2,3,4,5,7] ?_;refine Jy ?_
 refine L0 (m:=2) Tryz.call173 (fun FR as' bd' hFR has hbd=>?_)
 have hFRl:∀s,Low (Hp.length+4) (FR s):=by
  intro s
  rw [hFR]
  refine M3 ?_
  revert s
  repeat (first|exact Bc|refine Bb (by simp [oid,Ah]<;>try omega) ?_)
 have hOl:∀{k:Nat},∀x∈[AObj.cells 4 [Az false],AObj.cells 3 [A3 (k:Nat)],AObj.defs,AObj.loop LoopState.ready none FR 23 #[8,9] as' bd' (oid Hp.length 2)],ObjLow (Hp.length+4) x:=by
  intro k x hx
  simp only [B4,E2,or_false] at hx
  rcases hx with rfl|rfl|rfl|rfl
  ·exact ADp
  ·exact ADp
  ·trivial
  exact zx
 have hOf:∀{k:Nat},∀x∈[AObj.cells 4 [Az false],AObj.cells 3 [A3 ((k:Nat)+1)],AObj.defs,AObj.loop LoopState.done (some Code.ret) FR 23 #[8,9] as' bd' (oid Hp.length 2)],ObjLow (Hp.length+4) x:=by
  intro k x hx
  simp only [B4,E2,or_false] at hx
  rcases hx with rfl|rfl|rfl|rfl
  ·exact ADp
  ·exact ADp
  ·trivial
  exact zx
 refine ⟨fun _ H'=>Mg (goM e) (fun k=>Hp++[AObj.cells 4 [Az false],AObj.cells 3 [A3 (k:Nat)],AObj.defs,AObj.loop LoopState.ready none FR 23 #[8,9] as' bd' (oid Hp.length 2)]) (fun k=>Hp++[AObj.cells 4 [Az false],AObj.cells 3 [A3 ((k:Nat)+1)],AObj.defs,AObj.loop LoopState.done (some Code.ret) FR 23 #[8,9] as' bd' (oid Hp.length 2)]) (Bs 1 e).length H',AIk (l:=oid Hp.length 3) (go:=goM e) (U:=fun k=>Hp++[AObj.cells 4 [Az false],AObj.cells 3 [A3 (k:Nat)],AObj.defs,AObj.loop LoopState.ready none FR 23 #[8,9] as' bd' (oid Hp.length 2)]) (F:=fun k=>Hp++[AObj.cells 4 [Az false],AObj.cells 3 [A3 ((k:Nat)+1)],AObj.defs,AObj.loop LoopState.done (some Code.ret) FR 23 #[8,9] as' bd' (oid Hp.length 2)]) (n0:=Hp.length+4) ⟨fun k=>by simp,fun k=>by simp,fun k x hx=>?_,fun k x hx=>?_,by simp [oid],fun X k it hit hgo=>?_⟩ n hok hn,?_⟩
 ·exact zy
 ·exact Ic (fun x hx=>L4 (by omega) (hlow x hx)) hOf x hx
 ·have hk3:=AIl hit hgo
  generalize hV:(Hp++[AObj.cells 4 [Az false],AObj.cells 3 [A3 (k:Nat)],AObj.defs,AObj.loop LoopState.ready none FR 23 #[8,9] as' bd' (oid Hp.length 2)]++X)=V
  have hL:V[oid Hp.length 3]? = some (AObj.loop LoopState.ready none FR 23 #[8,9] as' bd' (oid Hp.length 2)):=by rw [←hV,Ax,As];rfl
  have hA0:V[oid Hp.length 1]? = some (AObj.cells 3 [A3 (k:Nat)]):=by rw [←hV,Ax,As];rfl
  have hB0:V[oid Hp.length 0]? = some (AObj.cells 4 [Az false]):=by rw [←hV,Ax,As];rfl
  refine Iy (pd:=none) (fr:=FR) (sz:=23) (ps:=#[8,9]) (df:=oid Hp.length 2) (asg:=as') (bd:=bd') hL rfl (by decide) (fun d=>?_)
  subst hFR has hbd
  refine Fd [2,3,8,9] ?_;refine Z2 ?_;refine A2 [2,3,4,9] ?_;refine Gf ?_;refine Z14 ?_;refine A2 [2,3,4,5] ?_
  refine ⟨rfl,none,hL,?_⟩
  generalize hbz:(AObj.loop LoopState.busy _ _ _ _ _ _ _)=bz
  have hA:(V.set (oid Hp.length 3) bz)[oid Hp.length 1]? = some (AObj.cells 3 [A3 (k:Nat)]):=by rw [Bh (Bv (by decide))];exact hA0
  have hB:(V.set (oid Hp.length 3) bz)[oid Hp.length 0]? = some (AObj.cells 4 [Az false]):=by rw [Bh (Bv (by decide))];exact hB0
  refine Jy ?_;refine Ez ?_
  refine A5 (h:=B8 hA) (hr:=?_)
  refine A5 ?_
  refine Cq jS hA ?_ ?_
  ·simp
  refine A2 [2,3,4,5] ?_;refine Z2 ?_;refine Aa Tryz.call140 (AOs it.2 (au n e hok 1 it (B2 hit)) _) ?_;refine Z35 ?_;refine Z0 ?_
  refine Cd (h:=B8 (getset hA)) (hr:=?_)
  refine Z48 ?_;refine A2 [2,22] ?_
  refine A4 (fun ht22=>?_) (fun ht22=>?_)
  ·have hgf:goM e k=false:=by rw [f7 hit,ht22];rfl
   refine Ez ?_
   refine Cq jS (nw (j:=oid Hp.length 1) hB (Bv (by decide))) ?_ ?_
   ·simp
   refine A2 [] ?_;refine Fs ?_;refine K.blR ?_
   subst hbz
   refine ut ?_
   refine ⟨hgf.symm,?_⟩
   rw [if_neg (by rw [hgf];simp)]
   subst hV
   simp only [Ax,Cp,Dk,D9,List.set_cons_succ,List.set_cons_zero]
   try rfl
  have hgt:goM e k=true:=by rw [f7 hit,ht22];rfl
  refine uh ?_
  subst hbz
  refine zz ?_
  refine ⟨hgt.symm,?_⟩
  rw [if_pos hgt]
  subst hV
  simp only [Ax,Cp,Dk,D9,List.set_cons_succ,List.set_cons_zero]
  try rfl
 rintro r H' (⟨h1,rfl⟩|⟨j,hj,h1,h2,rfl⟩)
 ·refine ⟨Hp,_,_,_,rfl,rfl,fun h=>h,?_,rfl,by simp,?_⟩
  ·intro o ho
   have:o=oid Hp.length 2:=by simpa using ho
   subst this
   rw [As]
   rfl
  refine Z12 ?_;refine Ez ?_;refine Z39 ?_;exact A8 (Ak (Dm jA)) ⟨by rw [show Ay e=true from B0.2 fun j hj=>h1 j (Pc.1 hj)],rfl⟩
 refine ⟨Hp,_,_,_,rfl,rfl,fun h=>h,?_,rfl,by simp,?_⟩
 ·intro o ho
  have:o=oid Hp.length 2:=by simpa using ho
  subst this
  rw [As]
  rfl
 refine Zf ?_;exact A8 (Ak (Dm jA)) ⟨by rw [show Ay e=false from List.all_eq_false.2 ⟨j,Pc.2 hj,by rw [h2];simp⟩],rfl⟩

def Cm (s:Str):Expr:=.mk 2 s ⟨0,0,[]⟩ []
theorem j9 (s:Str):Le (.agg [A3 2,Ac s,A3 0,A3 0,Ac [],.nil]) (A7 (Cm s)):=by
 rw [Al]
 refine .agg _ _ rfl (by simp [AV.one,Value.oneCell',sv]) fun i y y' h1 h2=>?_
 match i with
 | 0=>simp at h1 h2;subst h1;subst h2;exact .inl rfl
 | 1=>simp at h1 h2;subst h1;subst h2;exact .inl rfl
 | 2=>simp at h1 h2;subst h1;subst h2;exact .inl rfl
 | 3=>simp at h1 h2;subst h1;subst h2;exact .inl rfl
 | 4=>simp at h1 h2;subst h1;subst h2;exact .inl rfl
 | 5=>simp at h1 h2;subst h1;subst h2;exact .inr ⟨rfl,6,rfl⟩
 | i+6=>simp at h1
theorem ja (s:Str) (h:s.length≤1048576):okE 1 (Cm s):=⟨h,by simp [Cm,Expr.kids],fun y hy=>by cases hy⟩
def Tv (c:List Col) (x:Nat) (y:Col):Bool := !(((!Ay (Cm y.name)) || (Cw y.kind==[])) || (Aw y.name c != (x:Int)))
def Ip (c:List Col):Bool:=c.zipIdx.all fun x=>Tv c x.2 x.1
theorem colsP_true {c:List Col}:Ip c=true↔∀(j:Nat) (y:Col),c[j]? = some y→Tv c j y=true:=R2
theorem c50 (c:List Col) (hc:OkCols c) (Hp:List AObj):AFun Tryz.prog 50 [An c] Hp (Az (Ip c)):=by
 refine Ae [.tmp 2] [0] Tryz.func50 Tryz.ntmps50 (fun d=>?_)
 refine mz ?_;refine A2 [0,5,6,7] ?_
 refine Bf (α:=Nat) (fun x=>⟨32,A6 0 (An c) (A6 5 (An c) (A6 6 (A3 c.length) (A6 7 (A3 (x:Nat)) (fun _=>.any)))),Hp,[],[],none⟩) (fun x=>x≤c.length∧∀(j:Nat) (y:Col),j<x→c[j]? = some y→Tv c j y=true) (fun x=>c.length-x) (0) (by simp) (Bj (by simp)) rfl (fun x hx=>?_)
 refine Z2 ?_;refine A2 [0,5,6,7,8] ?_
 refine Cr (fun ht8=>?_) (fun ht8=>?_)
 ·have hlt:x<c.length:=by simpa using ht8
  have hcl:=hc.len
  refine Rz ?_
  refine A5 (h:=Ai (x) (C0 c[x]) (fun _=>B6 hlt)) (hr:=?_)
  refine um ?_;refine A2 [0,3,4,5,6,7] ?_;refine AHl ?_;refine R.wk 14 _ (j9 c[x].name) ?_;refine Aa Tryz.call96 (c96 1 (Cm c[x].name) (ja _ (hc.names _ (Be hlt))) (by decide) _) ?_;refine Z35 ?_;refine C3 Tryz.call97 (fun hB=>c97 c[x].kind _) ?_;refine Cd ?_;refine Zg ?_;refine C3 Tryz.call60 (fun hB=>c60 c hc c[x].name _) ?_;refine io ?_;refine A2 [0,5,6,7,30] ?_
  refine A4 (fun ht30=>?_) (fun ht30=>?_)
  ·refine Z58 ?_;refine Z62 ?_
   exact A8 (Ak A9) ⟨by rw [show Ip c=false from Jt.2 fun h=>by have:=colsP_true.1 h x c[x] (Ab hlt);unfold Tv at this;rw [ht30] at this;cases this],rfl⟩
  refine Z73 ?_;refine A2 [0,5,6,7] ?_
  refine Bg (x+1) ⟨hlt,L3 hlt hx.2 (by unfold Tv;rw [ht30];rfl)⟩ (by omega) ?_
  exact Di (own:=[]) (fun _=>.refl _) (by repeat (first|exact Bc|refine Bb (by simp) ?_)) (by simp) (by simp)
 refine Z28 ?_;refine Z58 ?_;exact A8 (Ak A9) ⟨by rw [colsP_true.2 (Tl (by simp at ht8;omega) hx.2)],rfl⟩

def X6 (c:List Col):Bool:=decide ((c.length:Int)≤12)&&Ip c
theorem AMi (c:List Col) (hc:OkCols c) (Hp:List AObj):AFun Tryz.prog 125 [An c] Hp (Az (X6 c)):=by
 refine Ae [.tmp 2] [0] Tryz.func125 Tryz.ntmps125 (fun d=>?_)
 refine Z43 ?_;refine un ?_;refine C3 Tryz.call50 (fun hB=>c50 c hc _) ?_;refine Z65 ?_;exact A8 (Ak A9) ⟨by unfold X6;simp,rfl⟩

theorem f8 (s:Str) (h:s≠[]):Lib.contains [] s=false:=by
 cases s with
 | nil=>exact absurd rfl h
 | cons a r=>rfl
theorem contains_cons (b:UInt8) (l s:Str):Lib.contains (b::l) s=(s.isPrefixOf (b::l) || Lib.contains l s):=by
 unfold Lib.contains
 have hge:=Lib.index_ge l s
 rw [Lib.index]
 by_cases hp:s.isPrefixOf (b::l)=true
 ·rw [if_pos hp,hp];rfl
 rw [if_neg hp]
 have hp':s.isPrefixOf (b::l)=false:=Jt.2 hp
 rw [hp',F6]
 by_cases hi:Lib.index l s = -1
 ·rw [hi];rfl
 have:(Lib.index l s == -1)=false:=by simpa using hi
 rw [this,if_neg (by simp)]
 rw [decide_eq_decide]
 omega
/-- Words between blanks. -/
def Oo:List Str→Str
 | []=>[32]
 | w::r=>32::(w++Oo r)
theorem aw (sub:Str):∀(w R:Str),(32:UInt8)∉w→Lib.contains (w++R) (32::sub)=Lib.contains R (32::sub)
 | [],R,_=>rfl
 | b::w,R,h=>by
  have hb:b≠32:=fun e=>h (by simp [e])
  rw [Dk,contains_cons,aw sub w R (fun hm=>h (by simp [hm]))]
  have:(32::sub).isPrefixOf (b::(w++R))=false:=by
   simp [List.isPrefixOf,Ne.symm hb]
  rw [this,F6]
theorem Uv:∀(s w:Str) (R:Str),(32:UInt8)∉s→(32:UInt8)∉w→(s++[32]).isPrefixOf (w++32::R)=(s==w)
 | [],[],R,_,_=>by simp [List.isPrefixOf]
 | [],b::w,R,_,hw=>by
  have hb:(32:UInt8)≠b:=fun e=>hw (by simp [e])
  simp [List.isPrefixOf,hb]
 | a::s,[],R,hs,_=>by
  have hb:a≠(32:UInt8):=fun e=>hs (by simp [e])
  simp [List.isPrefixOf,hb]
 | a::s,b::w,R,hs,hw=>by
  have ih:=Uv s w R (fun h=>hs (by simp [h])) (fun h=>hw (by simp [h]))
  rw [Dk,Dk,List.isPrefixOf,ih]
  rfl
theorem jb:∀ws,∃R,Oo ws=32::R
 | []=>⟨[],rfl⟩
 | w::r=>⟨_,rfl⟩
theorem L5 (s:Str) (hs:(32:UInt8)∉s):∀(ws:List Str),(∀w∈ws,(32:UInt8)∉w)→Lib.contains (Oo ws) ([32]++s++[32])=ws.any (·==s)
 | [],_=>by
  rw [Oo,contains_cons,f8 _ (by simp),Qg]
  cases s<;>simp [List.isPrefixOf]
 | w::r,h=>by
  have hw:=h w (by simp)
  obtain ⟨R,hR⟩:=jb r
  have ih:=L5 s hs r (fun x hx=>h x (by simp [hx]))
  have e1:([32]++s++[32]:Str)=32::(s++[32]):=rfl
  rw [Oo,contains_cons,e1,aw _ w _ hw,←e1,ih,List.any_cons]
  congr 1
  rw [e1,hR]
  have:=Uv s w R hs hw
  rw [List.isPrefixOf,this]
  simp only [beq_self_eq_true,Mp]
  by_cases hsw:s=w
  ·subst hsw;rfl
  rw [beq_eq_false_iff_ne.2 hsw,beq_eq_false_iff_ne.2 (Ne.symm hsw)]
theorem Zq:N4=Oo words:=by kernel_rfl
theorem jc:∀w∈words,(32:UInt8)∉w:=by decide
theorem jd (s:Str):Lib.contains s [32]=s.contains 32:=by
 induction s with
 | nil=>rfl
 | cons b l ih =>
  rw [contains_cons,ih,List.contains_cons]
  congr 1
  simp [List.isPrefixOf]
theorem X7 (s:Str) (h1:s≠[]) (h2:(32:UInt8)∉s):H4 s=Tk s:=by
 unfold H4
 rw [jd,Zq,L5 s h2 words jc]
 have e1:(s==[])=false:=by simpa using h1
 have e2:s.contains 32=false:=by simpa using h2
 rw [e1,e2]
 rfl
set_option maxRecDepth 8000
theorem AAn {p:UInt8→Bool} (h:((List.range 256).all fun n=>p (UInt8.ofNat n))=true) (c:UInt8):p c=true:=by
 have:=B0.1 h c.toNat (Pc.2 c.toNat_lt)
 simpa using this
theorem nx (c:UInt8):tails.contains c=Wr c:=by
 have:=AAn (p:=fun c=>tails.contains c==Wr c) (by kernel_rfl) c
 simpa using this
theorem f9 (c:UInt8):letters.contains c=Pl c:=by
 have:=AAn (p:=fun c=>letters.contains c==Pl c) (by kernel_rfl) c
 simpa using this
theorem ny:Wr 32=false:=by kernel_rfl
theorem qw (s of:Str):(S1 s of==(s.length:Int))=s.all (of.contains ·):=by
 unfold S1 Lib.trimLeftS
 induction s with
 | nil=>rfl
 | cons c r ih =>
  rw [T8,List.all_cons]
  cases hc:of.contains c with
  | true =>
   simp only [if_true,Mp]
   rw [←ih,T6]
   have:=(lx (fun x=>of.contains x) (l:=r)).length_le
   simp only [beq_iff_eq,Bi]
   omega
  | false =>
   simp only [Bt,if_false,cr]
   rw [beq_eq_false_iff_ne]
   simp only [Bi]
   omega
theorem Hu (s:Str):Dw s=Q6 s:=by
 cases s with
 | nil=>rfl
 | cons c r =>
  unfold Dw
  rw [qw]
  have e1:((c::r).all fun x=>tails.contains x)=(c::r).all Wr:=by
   congr 1
   funext x
   exact nx x
  have e2:(S1 ((c::r).take 1) letters==1)=Pl c:=by
   have:=qw [c] letters
   rw [←f9 c]
   simpa using this
  rw [e1,e2]
  have e3:((c::r:Str)==[])=false:=rfl
  have e4:decide (((c::r).length:Int)≤16)=decide ((c::r).length≤16):=by
   rw [decide_eq_decide];omega
  rw [e3,e4]
  show _=(decide ((c::r).length≤16)&&Pl c && !Tk (c::r)&&(c::r).all Wr)
  cases ha:(c::r).all Wr with
  | false=>simp
  | true =>
   have hb:(32:UInt8)∉(c::r):=fun hm=>by
    have:=B0.1 ha 32 hm
    rw [ny] at this
    cases this
   rw [X7 _ (by simp) hb]
   simp
theorem R7 (s:Str):Ay (Cm s)=Q6 s:=by
 have e:Bs 1 (Cm s)=[(1,Cm s)]:=by rw [J3];rfl
 unfold Ay
 rw [e]
 show ((List.range 1).all (goM (Cm s)))=_
 have g:goM (Cm s) 0=Ew (Cm s):=by
  unfold goM
  rw [e]
  simp
 simp only [db,List.range_zero,D9,List.all_cons,List.all_nil,W3]
 rw [g,←Hu]
 simp [Ew,Cm,Expr.op,Expr.val,Expr.text,Expr.kids,Ns]
theorem fe (k:Int):(Cw k==[])=(decide (k<1) || decide ((3:Int)<k)):=by
 unfold Cw
 by_cases h:k<1∨3<k
 ·rw [if_pos h]
  have:(decide (k<1) || decide ((3:Int)<k))=true:=by simpa using h
  rw [this];rfl
 rw [if_neg h]
 have:(decide (k<1) || decide ((3:Int)<k))=false:=by simp;omega
 rw [this]
 have hk:k=1∨k=2∨k=3:=by omega
 rcases hk with rfl|rfl|rfl<;>rfl
theorem N6 (c:List Col):Ip c=L2 c:=by
 unfold Ip L2
 congr 1
 funext x
 unfold Tv qj
 rw [R7,fe,←Bool.or_assoc (!Q6 x.1.name)]
theorem Mh (c:List Col):X6 c=Ci c:=by unfold X6 Ci;rw [N6]
set_option maxRecDepth 4000
def Af (l:List Tok) (i:Nat):Tok:=l.getD i ⟨0,[],0⟩
theorem M7 {l:List Tok} {i:Nat} (h:i<l.length):(l.map I1)[i]? = some (I1 (Af l i)):=by
 rw [Bz,Ab h]
 unfold Af
 rw [Bw,Ab h]
 rfl
end Go.SX.Nb
