/- On the way (part 5). -/
import Derived.Test.YtekiioamifokoaaGreatDoorRewriteTellsCardSaidPart4
set_option linter.all false
namespace Go.SX.Nb
open Go Go.SX Go.Proofs
variable [ErrAt]
set_option maxRecDepth 4000
def wAt (s:Str) (k:Nat):Int×Str×Int×Int:=Cp (s.drop k)
theorem Pb {f k:Nat} {s:Str} (h:s≠[]):Jy (f+1) k s=(⟨(Cp s).1,(Cp s).2.1,k⟩,(Cp s).2.2.2)::(if (Cp s).2.2.2==0 then Jy f (k+(Cp s).2.2.1.toNat+gapM (s.drop (Cp s).2.2.1.toNat)) ((s.drop (Cp s).2.2.1.toNat).drop (gapM (s.drop (Cp s).2.2.1.toNat))) else []):=by
 rw [Jy,if_neg (by simpa using h)]
/-- Where the reader is, with k words behind it. -/
def V0 (s:Str) (k p:Nat):Prop:=(∃f,(s.drop p).length<f∧(Cm s).drop k=Jy f p (s.drop p))∧p≤s.length∧∀j,j<k→∃it,(Cm s)[j]? = some it∧it.2=0
theorem oi (s:Str):V0 s 0 (gapM s):=⟨⟨s.length+1,by rw [H4];omega,by rw [d7];rfl⟩,oe s,fun j hj=>by omega⟩
theorem w7 {s:Str} {k p:Nat} (h:V0 s k p):k≤(Cm s).length:=by
 refine Jp fun hn=>?_
 obtain ⟨it,hit,_⟩:=h.2.2 (Cm s).length (by omega)
 rw [Fv (An _)] at hit
 cases hit
theorem w8 {s:Str} {k p:Nat} (h:V0 s k p) (hp:s.length≤p):k=(Cm s).length∧∀it∈Cm s,it.2=0:=by
 have hl:=w7 h
 obtain ⟨⟨f,_,hd⟩,_,h0⟩:=h
 have e:s.drop p=[]:=by rw [md];exact hp
 rw [e] at hd
 have:(Cm s).drop k=[]:=by rw [hd];cases f<;>rfl
 rw [md] at this
 have hk:k=(Cm s).length:=by omega
 refine ⟨hk,fun it hit=>?_⟩
 obtain ⟨j,hj,rfl⟩:=List.mem_iff_getElem.1 hit
 obtain ⟨it',h1,h2⟩:=h0 j (by omega)
 rw [Ac hj] at h1
 injection h1 with h1
 rw [h1];exact h2
theorem Xg {s:Str} {k p:Nat} (h:V0 s k p) (hp:p<s.length):∃f,(s.drop p).length<f+1∧(Cm s).drop k=Jy (f+1) p (s.drop p)∧s.drop p≠[]:=by
 obtain ⟨⟨f,hf,hd⟩,_,_⟩:=h
 obtain ⟨g,rfl⟩:∃g,f=g+1:=⟨f-1,by omega⟩
 exact ⟨g,hf,hd,fun e=>by rw [md] at e;omega⟩
theorem Rj {s:Str} {k p:Nat} (h:V0 s k p) (hp:p<s.length):(Cm s)[k]? = some (⟨(wAt s p).1,(wAt s p).2.1,p⟩,(wAt s p).2.2.2):=by
 obtain ⟨f,_,hd,hne⟩:=Xg h hp
 rw [Pb hne] at hd
 have:=congrArg (·[0]?) hd
 unfold wAt
 simpa using this
theorem ol {s:Str} {k p:Nat} (h:V0 s k p) (hp:p<s.length) (he:(wAt s p).2.2.2=0):∃n:Nat,(wAt s p).2.2.1=(n:Int)∧1≤n∧p+n≤s.length∧V0 s (k+1) (p+n+gapM (s.drop (p+n))):=by
 have hi:=Rj h hp
 obtain ⟨f,hf,hd,hne⟩:=Xg h hp
 obtain ⟨n,hn,h1,h2⟩:=rp (s:=s.drop p) (by rw [H4];omega) he
 rw [H4] at h2 hf
 have hg:=oe (s.drop (p+n))
 rw [H4] at hg
 refine ⟨n,hn,h1,by omega,⟨f,by rw [H4];omega,?_⟩,by omega,fun j hj=>?_⟩
 ·rw [Pb hne] at hd
  have:=congrArg (·.drop 1) hd
  simp only [cz,mf,d7] at this
  unfold wAt at he
  rw [this,hn,he]
  simp only [beq_self_eq_true,if_true,Int.toNat_natCast,cz]
 rcases C0 j k with h'|h'
 ·exact h.2.2 j h'
 have:j=k:=by omega
 subst this
 exact ⟨_,hi,he⟩
theorem ANz (l:Nat) (s:Str) (hs:s.length≤1048576) (U F:Nat→List AObj) (hlen:∀k,(U k).length=(U 0).length) (hll:l<(U 0).length)
  (hy:∀k it,(Cm s)[k]? = some it→AYield Tryz.prog l [Ix it.1,A4 it.2] (U k) (fun b H'=>if it.2=0 then b=true∧H'=U (k+1) else b=false∧H'=F k)):ACall Tryz.prog 148 [.yield l,.ro [Ab s]] (U 0) (fun r H'=>((∀it∈Cm s,it.2=0)∧H'=U (Cm s).length)∨∃k it,(Cm s)[k]? = some it∧it.2≠0∧(∀j,j<k→∃it',(Cm s)[j]? = some it'∧it'.2=0)∧H'=F k):=by
 refine Ah [] [0,1] Tryz.func148 Tryz.ntmps148 (fun d=>?_)
 refine Z2 ?_;refine Aa Tryz.call149 (ALw s hs _) ?_;refine A5 ?_;refine A2 [0,1,3] ?_
 refine Bg (α:=Nat×Nat) (fun x=>⟨44,A6 0 (.yield l) (A6 1 (.ro [Ab s]) (A6 3 (A4 (x.2:Nat)) (fun _=>.any))),U x.1,[],[],none⟩) (fun x=>V0 s x.1 x.2) (fun x=>s.length-x.2) (0,gapM s) (oi s) (Em _) rfl (fun x hx=>?_)
 obtain ⟨k,p⟩:=x
 simp only at hx ⊢
 refine Z46 ?_;refine A2 [0,1,3,13] ?_
 refine A3 (fun ht13=>?_) (fun ht13=>?_)
 ·have hpl:p<s.length:=by simpa using ht13
  refine Sk ?_
  refine A5 (h:=Q.scutL p (fun _=>hx.2.1) (fun _=>An _)) (hr:=?_)
  refine Aa Tryz.call150 (ANx (s.drop p) (by rw [H4];omega) (by rw [H4];omega) _) ?_
  refine Z75 ?_;refine Z82 ?_;refine A2 [0,1,3,4,5,6,7] ?_;refine Z46 ?_;refine nr ?_;refine A5 ?_;refine R.yield0 (hy k _ (Rj hx hpl)) ?_
  intro b V hV hb
  refine Z21 ?_;refine A5 ?_;refine A2 [0,1,3,6,40] ?_
  refine A3 (fun ht40=>?_) (fun ht40=>?_)
  ·have hbe:(Cp (s.drop p)).2.2.2≠0∧V=F k:=by
    split at hb
    ·rename_i h0
     obtain ⟨rfl,_⟩:=hb
     have h0':(Cp (s.drop p)).2.2.2=0:=h0
     simp [h0'] at ht40
    rename_i h0
    exact ⟨h0,hb.2⟩
   refine Z12 ?_;refine Z6 ?_;refine Lp ?_;exact A9 .nores (hp:=.inr ⟨k,_,Rj hx hpl,hbe.1,hx.2.2,hbe.2⟩)
  have hbe:(Cp (s.drop p)).2.2.2=0∧V=U (k+1):=by
   split at hb
   ·rename_i h0
    exact ⟨h0,hb.2⟩
   obtain ⟨rfl,_⟩:=hb
   simp at ht40
  obtain ⟨n,hn,hn1,hnl,hnx⟩:=ol hx hpl hbe.1
  unfold wAt at hn
  rw [hn]
  have hgl:=oe (s.drop (p+n))
  rw [H4] at hgl
  refine Z4 ?_;refine Z45 ?_;refine Z0 ?_;refine A2 [0,1,3] ?_;refine Z87 ?_
  refine A5 (h:=Q.scutL (p+n) (fun _=>hnl) (fun _=>An _)) (hr:=?_)
  refine Aa Tryz.call149 (ALw (s.drop (p+n)) (by rw [H4];omega) _) ?_
  refine Z0 ?_;refine A2 [0,1,3] ?_;exact Au (k+1,p+n+gapM (s.drop (p+n))) hnx (by show s.length-_<s.length-p;omega) (Bk (by rw [hbe.2];simp))
 have hpl:s.length≤p:=by simpa using ht13
 obtain ⟨hk,hz⟩:=w8 hx hpl
 refine nj ?_;exact Eo .nores (hp:=.inl ⟨hz,by rw [hk]⟩)

theorem AO0 (s:Str) (Hp:List AObj):AFun Tryz.prog 113 [Ab s] Hp (.fn (.func 148) [] [.ro [Ab s]]):=by
 refine Ah [.tmp 2] [0] Tryz.func113 Tryz.ntmps113 (fun d=>?_)
 refine Z66 ?_;refine zt ?_;exact AJm

def Bu (s:Str):List Tok×Int×Nat:=if 4000<s.length then ([],3,0) else
 match (Cm s).find? (fun it=>it.2 != 0) with
 | some it=>([],it.2,it.1.at_)
 | none=>((Cm s).map (·.1)++[⟨0,[],s.length⟩],0,0)
theorem ADo {s:Str} {k:Nat} {it:Tok×Int} (hit:(Cm s)[k]? = some it) (he:it.2≠0) (h0:∀j,j<k→∃it',(Cm s)[j]? = some it'∧it'.2=0):(Cm s).find? (fun it=>it.2 != 0)=some it:=by
 rw [yk]
 obtain ⟨hk,e⟩:=Ae.1 hit
 refine ⟨by simpa using he,k,hk,e,fun j hj=>?_⟩
 obtain ⟨it',h1,h2⟩:=h0 j hj
 rw [Ac (by omega)] at h1
 injection h1 with h1
 rw [h1,h2];rfl
theorem AAm {s:Str} (h:∀it∈Cm s,it.2=0):(Cm s).find? (fun it=>it.2 != 0)=none:=by
 rw [R2]
 intro it hit
 simp [h it hit]
def ar (s:Str) (k:Nat):Int×Nat:=match (Cm s)[k]? with|some it=>(it.2,it.1.at_)|none=>(0,0)
theorem Xh:∀(f k:Nat) (s:Str),(Jy f k s).length≤f
 | 0,_,_=>Ao _
 | f+1,k,s=>by
  rw [Jy]
  split
  ·exact Ao _
  rw [B8]
  split
  ·have:=Xh f (k+(Cp s).2.2.1.toNat+gapM (s.drop (Cp s).2.2.1.toNat)) ((s.drop (Cp s).2.2.1.toNat).drop (gapM (s.drop (Cp s).2.2.1.toNat)))
   omega
  simp
theorem Xi (s:Str):(Cm s).length≤s.length+1:=Xh _ _ _
def Mz (s:Str) (k:Nat):List Tok:=((Cm s).take k).map (·.1)
theorem U4 (s:Str) (k:Nat):(Mz s k).length≤s.length+1:=by
 have:=Xi s
 unfold Mz
 rw [Ag,Bx]
 omega
theorem oo {s:Str} {k:Nat} {it:Tok×Int} (hit:(Cm s)[k]? = some it):Mz s (k+1)=Mz s k++[it.1]:=by
 unfold Mz
 rw [Vx,hit,Bn]
 rfl
theorem w9 (s:Str):Mz s (Cm s).length=(Cm s).map (·.1):=by unfold Mz;rw [M8]
theorem wc {s:Str} {k:Nat} {it:Tok×Int} (hl4:¬4000<s.length) (hit:(Cm s)[k]? = some it) (he:it.2≠0) (h0:∀j,j<k→∃it',(Cm s)[j]? = some it'∧it'.2=0):Bu s=([],it.2,it.1.at_):=by
 unfold Bu
 rw [if_neg hl4,ADo hit he h0]
theorem AAn {s:Str} (hl4:¬4000<s.length) (hz:∀it∈Cm s,it.2=0):Bu s=(Mz s (Cm s).length++[⟨0,[],s.length⟩],0,0):=by
 unfold Bu
 rw [if_neg hl4,AAm hz,w9]
theorem c66 (s:Str) (hs:s.length≤1048576) (Hp:List AObj):AFun Tryz.prog 66 [Ab s] Hp (.tup [rm (Bu s).1,.agg [A4 (Bu s).2.1,A4 (Bu s).2.2]]):=by
 refine Ah [.cell 2 104,.cell 3 73] [0,5,6] Tryz.func66 Tryz.ntmps66 (fun d=>?_)
 refine zp ?_;refine A2 [0,2,3,5,6] ?_;refine Z30 ?_;refine A2 [0,2,3,5,6,9] ?_
 refine A3 (fun ht9=>?_) (fun ht9=>?_)
 ·have hlm:Bu s=([],3,0):=by unfold Bu;rw [if_pos (by simp at ht9;omega)]
  refine Ef ?_;refine Z24 ?_;refine Ts 0 3 ?_;refine eb ?_;refine Z12 ?_;exact A9 (B9 (Fc jA) (B5 jA jS)) ⟨by rw [hlm];rfl,rfl⟩
 have hl4:¬4000<s.length:=by simp at ht9;omega
 refine Z4 ?_;refine Z32 ?_;refine A2 [0,2,3,4,5,6] ?_;refine Z53 ?_;refine Ts 2 3 ?_;refine A5 ?_;refine Aa Tryz.call113 (AO0 s _) ?_;refine A2 [0,2,3,4,5,6,12] ?_;refine Ju ?_
 refine Nq (m:=3) Tryz.call148 (fun FR as' bd' hFR has hbd=>?_)
 refine ⟨_,ANz (oid Hp.length 4) s hs (fun k=>Hp++[AObj.cells 104 [AV.nil],AObj.cells 73 [A4 0,A4 0],AObj.cells 104 [AV.slice true 3 ((Mz s k).map Ix)],AObj.defs,AObj.loop LoopState.ready none FR 32 #[13,14] as' bd' (oid Hp.length 3)]) (fun k=>Hp++[AObj.cells 104 [AV.nil],AObj.cells 73 [A4 (ar s k).1,A4 (ar s k).2],AObj.cells 104 [AV.slice true 3 ((Mz s k).map Ix)],AObj.defs,AObj.loop LoopState.done (some Code.ret) FR 32 #[13,14] as' bd' (oid Hp.length 3)]) (fun k=>by simp) (by simp [oid]) (fun k it hit=>?_),?_⟩
 ·generalize hV:Hp++[AObj.cells 104 [AV.nil],AObj.cells 73 [A4 0,A4 0],AObj.cells 104 [AV.slice true 3 ((Mz s k).map Ix)],AObj.defs,AObj.loop LoopState.ready none FR 32 #[13,14] as' bd' (oid Hp.length 3)]=V
  have hL:V[oid Hp.length 4]? = some (AObj.loop LoopState.ready none FR 32 #[13,14] as' bd' (oid Hp.length 3)):=by rw [←hV,B6];rfl
  have hA0:V[oid Hp.length 2]? = some (AObj.cells 104 [AV.slice true 3 ((Mz s k).map Ix)]):=by rw [←hV,B6];rfl
  have hB0:V[oid Hp.length 0]? = some (AObj.cells 104 [AV.nil]):=by rw [←hV,B6];rfl
  have hC0:V[oid Hp.length 1]? = some (AObj.cells 73 [A4 0,A4 0]):=by rw [←hV,B6];rfl
  refine Nh (pd:=none) (fr:=FR) (sz:=32) (ps:=#[13,14]) (df:=oid Hp.length 3) (asg:=as') (bd:=bd') hL rfl (by decide) (fun d=>?_)
  subst hFR has hbd
  refine Ep [2,3,4,13,14] ?_;refine Ef ?_;refine Z11 ?_;refine A2 [2,3,4,5,14] ?_;refine Z61 ?_;refine A2 [2,3,4,5,6] ?_
  refine ⟨rfl,none,hL,?_⟩
  generalize hbz:(AObj.loop LoopState.busy _ _ _ _ _ _ _)=bz
  have hA:(V.set (oid Hp.length 4) bz)[oid Hp.length 2]? = some (AObj.cells 104 [AV.slice true 3 ((Mz s k).map Ix)]):=by rw [Cf (Do (by decide))];exact hA0
  have hB:(V.set (oid Hp.length 4) bz)[oid Hp.length 0]? = some (AObj.cells 104 [AV.nil]):=by rw [Cf (Do (by decide))];exact hB0
  have hC:(V.set (oid Hp.length 4) bz)[oid Hp.length 1]? = some (AObj.cells 73 [A4 0,A4 0]):=by rw [Cf (Do (by decide))];exact hC0
  refine Ju ?_;refine Z7 ?_;refine A2 [2,3,4,5,6,16] ?_
  refine A3 (fun ht16=>?_) (fun ht16=>?_)
  ·have hne:it.2≠0:=by simpa using ht16
   refine Hh [0,0,2,7,0,31] [4] [.q 4 [] [],.s [] (some 0) [] []] (fun _=>V.set (oid Hp.length 4) bz) (fun _=>[AObj.cells 118 [A4 it.1.kind,Ab it.1.text,A4 it.1.at_]]) Ap (by kernel_rfl) rfl rfl (fun _=>rfl) ?_
   apply Y.q
   ·intro B hT hF
    refine Z37 ?_;exact AJr
   case hTF=>decide
   refine Y.storeUp (o:=oid Hp.length 0) (ys:=[.nil]) (t':=104) (cs:=[AV.nil]) (cs':=[AV.nil]) jS (fun _ _=>⟨hB,(Co hB).symm,rfl,by simp⟩) ?_;refine Gx (tn:=[4]) (U:=V.set (oid Hp.length 4) bz) ?_
   refine De jS hC ?_ ?_
   ·simp
   refine Ku ?_;refine ng ?_
   subst hbz
   refine K.rdR (z8 hL (Do (by decide))) ?_
   rw [if_neg hne]
   refine ⟨rfl,?_⟩
   subst hV
   simp only [Du,List.set_cons_succ,List.set_cons_zero]
   rw [show ar s k=(it.2,it.1.at_) by unfold ar;rw [hit]]
  have heq:it.2=0:=by simpa using ht16
  refine Z4 ?_;refine Og ?_
  have hl3:=U4 s k
  refine R.loadUpT jA hA ?_;refine Z55 ?_
  refine D5 jU Tryz.type118 ?_ ?_ ?_
  ·simp [hl3,Tryz.t118];omega
  ·simp [hl3,Tryz.t118];omega
  refine Hg jS (getset hA) ?_ ?_
  ·simp [or_imp,forall_and]
  refine Z96 ?_
  subst hbz
  refine AHa ?_
  rw [if_pos heq]
  refine ⟨rfl,?_⟩
  subst hV
  simp only [Du,List.set_cons_succ,List.set_cons_zero]
  rw [oo hit,Bn]
  rfl
 rintro r H' (⟨hz,rfl⟩|⟨k,it,hit,hne,h0,rfl⟩)
 ·refine ⟨Hp,_,_,_,rfl,rfl,fun h=>h,?_,rfl,by simp,?_⟩
  ·intro o ho
   have:o=oid Hp.length 3:=by simpa using ho
   subst this
   rw [B6]
   rfl
  refine Z9 ?_;refine Ef ?_;refine dr jA ?_;refine Z0 ?_;refine nr ?_;refine Ns ?_
  refine D5 jU Tryz.type118 ?_ ?_ ?_
  ·have:=U4 s (Cm s).length;simp [Tryz.t118];omega
  ·have:=U4 s (Cm s).length;simp [Tryz.t118];omega
  refine ns ?_;refine Wq jS ?_;refine eb ?_;refine El ?_;exact A9 (B9 (Fc jA) (B5 jA jS)) ⟨by rw [AAn hl4 hz,rm,Bn];rfl,rfl⟩ (hlow:=by simp [or_imp,forall_and])
 refine ⟨Hp,_,_,_,rfl,rfl,fun h=>h,?_,rfl,by simp,?_⟩
 ·intro o ho
  have:o=oid Hp.length 3:=by simpa using ho
  subst this
  rw [B6]
  rfl
 refine W.nilOwn 0 3 ?_;refine Z64 ?_;exact A9 (B9 (Fc jA) (B5 jA jS)) ⟨by rw [wc hl4 hit hne h0,show ar s k=(it.2,it.1.at_) by unfold ar;rw [hit]];rfl,rfl⟩

inductive Expr where
 | mk (op:Int) (text:Str) (val:Val) (kids:List Expr)
def Expr.op:Expr→Int|.mk o _ _ _=>o
def Expr.text:Expr→Str|.mk _ t _ _=>t
def Expr.val:Expr→Val|.mk _ _ v _=>v
def Expr.kids:Expr→List Expr|.mk _ _ _ k=>k
mutual
def A7:Expr→AV
 | .mk o t v k=>.agg [.v (.int .i64 o),.v (sv t),.v (.int .i64 v.kind),.v (.int .i64 v.n),.v (sv v.s),.slice false 6 (U5 k)]
def U5:List Expr→List AV
  | []=>[]
  | e::r=>A7 e::U5 r
 end
theorem Xj:∀l,U5 l=l.map A7
 | []=>rfl
 | e::r=>by rw [U5,Xj r];rfl
theorem Al (e:Expr):A7 e=.agg [.v (.int .i64 e.op),.v (sv e.text),.v (.int .i64 e.val.kind),.v (.int .i64 e.val.n),.v (sv e.val.s),.slice false 6 (e.kids.map A7)]:=by
 cases e with
 | mk o t v k=>rw [A7,Xj];rfl
attribute [go_sem] Al
def Q8:Str:=[32,111,114,32,32,97,110,100,32,32,61,32,33,61,32,60,32,60,61,32,62,32,62,61,32,32,43,32,45,32,38,32,32,42,32,47,32,37,32]
def N0 (v:Val):Bool:=v.kind==0&&v.n==0&&v.s==[]
def E5 (e:Expr):Bool:=
 if e.op==1 then ((Hm e.val&&decide (0≤e.val.n))&&(e.text==[]))&&((e.kids.length:Int)==0)
 else if e.op==2 then (N0 e.val&&Cc e.text)&&((e.kids.length:Int)==0)
 else if e.op==3 || e.op==4 then (N0 e.val&&(e.text==[]))&&((e.kids.length:Int)==1)
 else if e.op==5 then (N0 e.val&&Q7 e.text Q8)&&((e.kids.length:Int)==2)
 else if e.op==6 then N0 e.val&&(Ci e.text==(e.kids.length:Int))
 else false
theorem AO1 (e:Expr) (hs:e.text.length≤1048576) (Hp:List AObj):AFun Tryz.prog 140 [A7 e] Hp (B0 (E5 e)):=by
 refine ACall.body [.tmp 2] [0] Tryz.func140 Tryz.ntmps140 (fun d=>?_)
 refine Z66 ?_;refine Z1 ?_;refine nr ?_
 refine R.go (h:=Q.eqlAgg AA4 (Sl e.val.kind e.val.n 0 0 e.val.s [])) (hr:=?_)
 refine R.go ?_;refine Tv ?_;refine Z7 ?_;refine R.fin [1,3,9] ?_;refine Wy ?_;refine R.fin [1,3,9,10] ?_
 refine W.cond (fun ht10=>?_) (fun ht10=>?_)
 ·refine Z1 ?_;refine R.call Tryz.call93 (c93 e.val _) ?_;refine R.go ?_;refine Qg ?_;refine Z67 ?_;exact zi
 refine Z1 ?_;refine R.fin [1,3,9,32] ?_
 refine W.cond (fun ht32=>?_) (fun ht32=>?_)
 ·refine Z1 ?_;refine Z5 ?_;refine G.call Tryz.call105 (fun hB=>AAa e.text hs _) ?_;exact zi
 refine Z7 ?_;refine R.fin [1,3,9,46] ?_
 refine W.cond (fun ht46=>?_) (fun ht46=>?_)
 ·refine Z4 ?_
  refine W.cond (fun ht46=>?_) (fun ht46=>?_)
  ·refine Z1 ?_;refine Tu ?_;exact zi
  refine Z1 ?_;refine R.fin [1,3,9,61] ?_
  refine W.cond (fun ht61=>?_) (fun ht61=>?_)
  ·refine Z1 ?_;refine Z5 ?_;exact AJs
  refine Z1 ?_;refine R.fin [1,3,75] ?_
  refine W.cond (fun ht75=>?_) (fun ht75=>?_)
  ·refine AKd ?_;refine Z85 ?_;refine H.call Tryz.call176 (fun hB=>AHp e.text _) ?_;refine iu ?_;refine zr ?_;exact AGx
  refine Z47 ?_;exact AJy
 refine Z45 ?_;refine R.fin [1,3,9,46] ?_;refine K.thN ?_
 refine W.cond (fun ht46=>?_) (fun ht46=>?_)
 ·refine Z1 ?_;refine Tu ?_;exact zi
 refine Z1 ?_;refine R.fin [1,3,9,61] ?_
 refine W.cond (fun ht61=>?_) (fun ht61=>?_)
 ·refine Z1 ?_;refine Z5 ?_;exact AJs
 refine Z1 ?_;refine R.fin [1,3,75] ?_
 refine W.cond (fun ht75=>?_) (fun ht75=>?_)
 ·refine AKd ?_;refine Z85 ?_;refine H.call Tryz.call176 (fun hB=>AHp e.text _) ?_;refine iu ?_;refine zr ?_;exact AGx
 refine Z47 ?_;exact AJy

mutual
def C4 (d:Int):Expr→List (Int×Expr)
 | .mk o t v k=>(d,.mk o t v k)::Bz (d+1) k
def Bz (d:Int):List Expr→List (Int×Expr)
  | []=>[]
  | e::r=>C4 d e++Bz d r
 end
theorem Jz (d:Int) (e:Expr):C4 d e=(d,e)::Bz (d+1) e.kids:=by cases e;rfl
theorem Mp (d:Int):∀a b,Bz d (a++b)=Bz d a++Bz d b
 | [],b=>rfl
 | e::r,b=>by rw [E8,Bz,Bz,Mp d r b,Bp]
theorem jd (d:Int) (l:List Expr) {x:Nat} (h:x<l.length):Bz d (l.take (x+1))=Bz d (l.take x)++C4 d l[x]:=by
 rw [Id h,Mp]
 simp [Bz]
theorem Sp (d:Int) (l:List Expr) {x:Nat} (h:x<l.length):Bz d l=Bz d (l.take x)++(C4 d l[x]++Bz d (l.drop (x+1))):=by
 have e:l=l.take x++(l[x]::l.drop (x+1)):=by rw [←N8 h,ra]
 conv=>lhs;rw [e]
 rw [Mp,Bz]
mutual
def sizeE:Expr→Nat
 | .mk _ _ _ k=>1+Bv k
def Bv:List Expr→Nat
  | []=>0
  | e::r=>sizeE e+Bv r
 end
theorem Lt (e:Expr):sizeE e=1+Bv e.kids:=by cases e;rfl
theorem au:∀(l:List Expr) {x:Nat} (h:x<l.length),sizeE l[x]≤Bv l
 | e::r,0,_=>by simp only [List.getElem_cons_zero,Bv];omega
 | e::r,x+1,h=>by
  have:=au r (x:=x) (by simpa using h)
  simp only [List.getElem_cons_succ,Bv]
  omega
theorem AAo (e:Expr) {x:Nat} (h:x<e.kids.length):sizeE e.kids[x]+1≤sizeE e:=by
 have:=au e.kids h
 rw [Lt e]
 omega
/-- Each node has few kids. -/
def okE:Nat→Expr→Prop
 | 0,_=>False
 | n+1,e=>e.text.length≤1048576∧e.kids.length≤1048576∧∀y∈e.kids,okE n y
/-- Who takes what a tree yields: item k is taken at U k; it goes on (go k) to U (k + 1), or ends at F k. Behind U k there may stand others' objects. -/
structure Takes (P:Program) (l:Nat) (L:List (Int×Expr)) (go:Nat→Bool) (U F:Nat→List AObj) (n0:Nat):Prop where
 lenU:∀k,(U k).length=n0
 lenF:∀k,(F k).length=n0
 lowU:∀k,∀x∈U k,ObjLow n0 x
 lowF:∀k,∀x∈F k,ObjLow n0 x
 lt:l<n0
 y:∀(X:List AObj) (k:Nat) (it:Int×Expr),L[k]? = some it→(∀j,j<k→go j=true)→AYield P l [A4 it.1,A7 it.2] (U k++X) (fun b H'=>b=go k∧H'=(if go k then U (k+1) else F k)++X)
theorem ObjLow.le {m m':Nat} (h:m≤m') {x:AObj} (hx:ObjLow m x):ObjLow m' x:=by
 cases x with
 | cells t cs=>exact fun y hy=>(hx y hy).mono h
 | loop s pd fr sz ps as' bd df=>exact ⟨fun s=>(hx.1 s).mono h,Ga hx.2 h⟩
 | defs=>trivial
 | dead=>trivial
 | bld _ _ _=>trivial
 | gone=>trivial
/-- What the walk over n items from k0 on comes to. -/
def je (go:Nat→Bool) (U F:Nat→List AObj) (k0 n:Nat) (X:List AObj):AV→List AObj→Prop:=fun r H' =>
 ((∀j,j<n→go (k0+j)=true)∧r=B0 true∧H'=U (k0+n)++X)∨(∃j,j<n∧(∀i,i<j→go (k0+i)=true)∧go (k0+j)=false∧r=B0 false∧H'=F (k0+j)++X)
mutual
theorem Am (m:Nat):∀e,Low m (A7 e)
 | .mk o t v k=>by
  rw [A7]
  refine .agg _ fun y hy=>?_
  simp only [B3,Dt,or_false] at hy
  rcases hy with rfl|rfl|rfl|rfl|rfl|rfl
  ·exact .v _
  ·exact .v _
  ·exact .v _
  ·exact .v _
  ·exact .v _
  exact low_slice.2 (Xk m k)
theorem Xk (m:Nat):∀l,∀y∈U5 l,Low m y
  | [],y,hy=>by cases hy
  | e::r,y,hy=>by
    rw [U5] at hy
    rcases B3.1 hy with rfl|h
    · exact Am m e
    exact Xk m r y h
 end
theorem Sq {V O A B own:List AObj} (h:V++O=A++(B++own)) (hl:V.length=(A++B).length):V=A++B∧O=own:=by
 rw [←Bp] at h
 exact Qy h hl
theorem L4 {m:Nat} {A X:List AObj} (hA:∀x∈A,ObjLow m x) (hX:∀x∈X,ObjLow m x):∀x∈A++X,ObjLow m x:=fun x hx=>by
 rcases Ds.1 hx with h|h
 ·exact hA x h
 exact hX x h
theorem ot {P:Program} {l:Nat} {L:List (Int×Expr)} {go:Nat→Bool} {U F:Nat→List AObj} {n0 k n K:Nat} {X own V O:List AObj} {r:AV} (T:Takes P l L go U F n0) (hV:V.length=(U K++X).length) (hp:je go U F k n (X++own) r (V++O)):
  ∃b,r=B0 b∧O=own∧(if b then (∀j,j<n→go (k+j)=true)∧V=U (k+n)++X else ∃j,j<n∧(∀i,i<j→go (k+i)=true)∧go (k+j)=false∧V=F (k+j)++X)∧((∀x∈U K++X,ObjLow V.length x)→∀x∈V,ObjLow V.length x):=by
 have hn:n0≤V.length:=by rw [hV,Ax,T.lenU];omega
 rcases hp with ⟨h1,h2,h3⟩|⟨j,hj,h1,h2,h3,h4⟩
 ·obtain ⟨e1,e2⟩:=Sq h3 (by rw [hV];simp [T.lenU])
  refine ⟨true,h2,e2,⟨h1,e1⟩,fun h=>?_⟩
  rw [e1] at h ⊢
  exact L4 (fun x hx=>ObjLow.le (by rw [Ax,T.lenU];omega) (T.lowU _ x hx)) (fun x hx=>h x (S5 _ hx))
 obtain ⟨e1,e2⟩:=Sq h4 (by rw [hV];simp [T.lenU,T.lenF])
 refine ⟨false,h3,e2,⟨j,hj,h1,h2,e1⟩,fun h=>?_⟩
 rw [e1] at h ⊢
 exact L4 (fun x hx=>ObjLow.le (by rw [Ax,T.lenF];omega) (T.lowF _ x hx)) (fun x hx=>h x (S5 _ hx))
theorem jf (d:Int) (l:List Expr) {x:Nat} (h:x<l.length):(Bz d (l.take (x+1))).length=(Bz d (l.take x)).length+(C4 d l[x]).length:=by rw [jd d l h,Ax]
theorem AAp {d0:Int} {e:Expr} {x:Nat} (h:x<e.kids.length) {j:Nat} {it:Int×Expr} (hj:(C4 (d0+1) e.kids[x])[j]? = some it):(C4 d0 e)[1+(Bz (d0+1) (e.kids.take x)).length+j]? = some it:=by
 rw [Jz d0 e,show 1+(Bz (d0+1) (e.kids.take x)).length+j=((Bz (d0+1) (e.kids.take x)).length+j)+1 by omega,On,Sp (d0+1) e.kids h,Dx (by omega)]
 rw [show (Bz (d0+1) (e.kids.take x)).length+j-(Bz (d0+1) (e.kids.take x)).length=j by omega,Dw (Ae.1 hj).1]
 exact hj
theorem wd (d0:Int) (e:Expr) {x:Nat} (h:x<e.kids.length):1+(Bz (d0+1) (e.kids.take x)).length+(C4 (d0+1) e.kids[x]).length≤(C4 d0 e).length:=by
 rw [Jz d0 e,B8,Sp (d0+1) e.kids h]
 simp only [Ax]
 omega
theorem AO2 {l:Nat} {L:List (Int×Expr)} {go:Nat→Bool} {U F:Nat→List AObj} {n0:Nat} (T:Takes Tryz.prog l L go U F n0):∀(n:Nat) (e:Expr),okE n e→∀(d0:Int) (k0:Nat) (X:List AObj),0≤d0→d0+n≤1099511627776→(∀(j:Nat) (it:Int×Expr),(C4 d0 e)[j]? = some it→L[k0+j]? = some it)→(∀j,j<k0→go j=true)→ACall Tryz.prog 174 [A7 e,A4 d0,.yield l] (U k0++X) (je go U F k0 (C4 d0 e).length X):=by
 intro n
 induction n with
 | zero=>exact fun e h=>h.elim
 | succ n ih =>
 intro e hok d0 k0 X hd hdn hit hgo
 have hlen0:(U k0++X).length=n0+X.length:=by rw [Ax,T.lenU]
 refine Ah [.tmp 6] [0,1,2] Tryz.func174 Tryz.ntmps174 (fun d=>?_)
 refine Z1 ?_;refine A2 [1,2,3] ?_;refine Z30 ?_
 refine R.yield0 (T.y X k0 (d0,e) (hit 0 _ (by rw [Jz];rfl)) hgo) ?_
 intro b Vv hV hb
 refine A5 ?_;refine A2 [1,2,3,13] ?_
 refine A3 (fun ht13=>?_) (fun ht13=>?_)
 ·have hb':b=false:=by simpa using ht13
  subst hb'
  refine Z2 ?_;refine n9 ?_;exact A9 (Aj A8) (Or.inr ⟨0,by rw [Jz];simp,fun i hi=>by omega,hb.1.symm,rfl,by have:=hb.2;rw [show go k0=false from hb.1.symm] at this;exact this⟩)
 have hb':b=true:=by simpa using ht13
 subst hb'
 have hgo0:go (k0+0)=true:=hb.1.symm
 have hVe:Vv=U (k0+1)++X:=by have:=hb.2;rw [show go k0=true from hb.1.symm] at this;exact this
 subst hVe
 have h0x:0≤e.kids.length∧∀j,j<1+(Bz (d0+1) (e.kids.take 0)).length→go (k0+j)=true:=⟨Ao _,fun j hj=>by
  have:j=0:=by simp [Bz] at hj;omega
  subst this
  exact hgo0⟩
 refine Z4 ?_;refine Z46 ?_;refine A2 [1,2,15,16,17] ?_
 refine Bg (α:=Nat) (fun x=>⟨28,A6 1 (A4 d0) (A6 2 (.yield l) (A6 15 (.slice false 6 (e.kids.map A7)) (A6 16 (A4 e.kids.length) (A6 17 (A4 (x:Nat)) (fun _=>.any))))),U (k0+(1+(Bz (d0+1) (e.kids.take x)).length))++X,[],[],none⟩) (fun x=>x≤e.kids.length∧∀j,j<1+(Bz (d0+1) (e.kids.take x)).length→go (k0+j)=true) (fun x=>e.kids.length-x) (0) h0x (B4 (by simp [Bz])) rfl (fun x hx=>?_)
 refine Z2 ?_;refine A2 [1,2,15,16,17,18] ?_
 refine E2 (fun ht18=>?_) (fun ht18=>?_)
 ·have hlt:x<e.kids.length:=by simpa using ht18
  have hkl:=hok.2.1
  refine Tt ?_
  refine A5 (h:=Ad (x) (A7 e.kids[x]) (fun _=>Ar hlt)) (hr:=?_)
  refine Si ?_;refine A2 [1,2,8,15,16,17] ?_;refine Z34 ?_
  refine R.callG Tryz.call174 (args:=[A7 e.kids[x],A4 (d0+1),.yield l]) (by rw [Bp];exact ih e.kids[x] (hok.2.2 _ (As hlt)) (d0+1) (k0+(1+(Bz (d0+1) (e.kids.take x)).length)) (X++_) (by omega) (by omega) (fun j it hj=>by have:=hit _ it (AAp hlt hj);rwa [←L3] at this) (fun j hj=>by rcases C0 j k0 with h|h;exact hgo j h;have:=hx.2 (j-k0) (by omega);rwa [show k0+(j-k0)=j by omega] at this)) ?_
  intro r Vv O hV hp
  obtain ⟨b,rfl,rfl,hc,hlowV⟩:=ot T hV hp
  refine ⟨hlowV,fun o ho=>by simp at ho,?_⟩
  refine A5 ?_;refine A2 [1,2,15,16,17,26] ?_
  refine A3 (fun ht26=>?_) (fun ht26=>?_)
  ·have hb':b=false:=by simpa using ht26
   subst hb'
   obtain ⟨j,hj,h1,h2,h3⟩:=hc
   refine Z2 ?_;refine Z92 ?_;refine Z28 ?_
   have hil:=wd d0 e hlt
   refine A9 (Aj A8) (Or.inr ⟨1+(Bz (d0+1) (e.kids.take x)).length+j,by omega,fun i hi=>?_,by rwa [L3] at h2,rfl,by rwa [L3] at h3⟩)
   rcases C0 i (1+(Bz (d0+1) (e.kids.take x)).length) with h|h
   ·exact hx.2 i h
   have:=h1 (i-(1+(Bz (d0+1) (e.kids.take x)).length)) (by omega)
   rwa [show k0+(1+(Bz (d0+1) (e.kids.take x)).length)+(i-(1+(Bz (d0+1) (e.kids.take x)).length))=k0+i by omega] at this
  have hb':b=true:=by simpa using ht26
  subst hb'
  obtain ⟨h1,h3⟩:=hc
  refine Ra ?_;refine A2 [1,2,15,16,17] ?_
  subst h3
  have hll:=jf (d0+1) e.kids hlt
  have e1:k0+(1+(Bz (d0+1) (e.kids.take (x+1))).length)=k0+(1+(Bz (d0+1) (e.kids.take x)).length)+(C4 (d0+1) e.kids[x]).length:=by omega
  refine Au (x+1) ⟨hlt,fun j hj=>?_⟩ (by omega) ?_
  ·rcases C0 j (1+(Bz (d0+1) (e.kids.take x)).length) with h|h
   ·exact hx.2 j h
   have:=h1 (j-(1+(Bz (d0+1) (e.kids.take x)).length)) (by omega)
   rwa [show k0+(1+(Bz (d0+1) (e.kids.take x)).length)+(j-(1+(Bz (d0+1) (e.kids.take x)).length))=k0+j by omega] at this
  simp only [e1]
  exact Di (own:=[]) (fun _=>.refl _) (by repeat (first|exact Bt|refine Bs (by first|(simp [Am];done)|(have:=T.lt;simp [T.lenU];omega)) ?_)) (by simp) (by simp)
 have hxe:e.kids.take x=e.kids:=Cu (by simp at ht18;omega)
 refine Wz ?_;refine Z92 ?_
 have hl2:(C4 d0 e).length=1+(Bz (d0+1) (e.kids.take x)).length:=by rw [Jz,hxe,B8];omega
 exact A9 (Aj A8) (Or.inl ⟨fun j hj=>hx.2 j (by omega),rfl,by rw [hl2]⟩)

def Nv:=@ObjLow.le
abbrev D0 (e:Expr):List AV:=[.v (.int .i64 e.op),.v (sv e.text),.v (.int .i64 e.val.kind),.v (.int .i64 e.val.n),.v (sv e.val.s),.slice false 6 (e.kids.map A7)]
/-- What taking all of a tree comes to. -/
def N1 (go:Nat→Bool) (U F:Nat→List AObj) (n:Nat) (H':List AObj):Prop:=
 ((∀j,j<n→go j=true)∧H'=U n)∨(∃j,j<n∧(∀i,i<j→go i=true)∧go j=false∧H'=F j)
theorem AHu {l:Nat} {e:Expr} {go:Nat→Bool} {U F:Nat→List AObj} {n0:Nat} (T:Takes Tryz.prog l (C4 1 e) go U F n0) (n:Nat) (hok:okE n e) (hn:n≤1048576):ACall Tryz.prog 173 [.yield l,.ro (D0 e)] (U 0) (fun r H'=>N1 go U F (C4 1 e).length H'):=by
 refine Ah [] [0,1] Tryz.func173 Tryz.ntmps173 (fun d=>?_)
 refine Z45 ?_;refine R.callG Tryz.call174 (args:=[A7 e,A4 1,.yield l]) (AO2 T n e hok 1 0 [] (by omega) (by omega) (fun j it hj=>by rwa [By]) (fun j hj=>by omega)) ?_
 intro r Vv O hV hp
 have hO:O=[]:=by
  have h1:(Vv++O).length=n0:=by rcases hp with ⟨_,_,h⟩|⟨j,_,_,_,_,h⟩<;>rw [h]<;>simp [T.lenU,T.lenF]
  have h2:=T.lenU 0
  rw [Ax,hV,h2] at h1
  exact Wb (by omega)
 subst hO
 rw [Ha] at hp
 have hq:N1 go U F (C4 1 e).length Vv:=by
  rcases hp with ⟨h1,_,h⟩|⟨j,h1,h2,h3,_,h⟩
  ·exact .inl ⟨fun j hj=>by have:=h1 j hj;rwa [By] at this,by rw [h];simp⟩
  exact .inr ⟨j,h1,fun i hi=>by have:=h2 i hi;rwa [By] at this,by rwa [By] at h3,by rw [h];simp⟩
 refine ⟨fun h=>?_,fun o ho=>by simp at ho,?_⟩
 ·rcases hq with ⟨_,h⟩|⟨j,_,_,_,h⟩<;>rw [h]
  ·rw [T.lenU];exact T.lowU _
  rw [T.lenF];exact T.lowF _
 refine Ku ?_;exact Eo .nores (hp:=hq)

theorem AO3 (e:Expr) (Hp:List AObj):AFun Tryz.prog 139 [A7 e] Hp (.fn (.func 173) [] [.ro (D0 e)]):=by
 refine Ah [.tmp 2] [0] Tryz.func139 Tryz.ntmps139 (fun d=>?_)
 refine Z66 ?_;refine zt ?_;refine Z3 ?_;exact A9 (Aj A8) (hlow:=by have:=Am Hp.length e;rw [Al] at this;simpa using this)

def goM (e:Expr) (k:Nat):Bool:=match (C4 1 e)[k]? with
 | some it => !((!E5 it.2 || decide ((30:Int)<it.1)) || decide ((300:Int)<(k:Int)+1))
 | none=>true
def Bc (e:Expr):Bool:=(List.range (C4 1 e).length).all (goM e)
mutual
theorem av:∀(n:Nat) (e:Expr),okE n e→∀d,∀it∈C4 d e,it.2.text.length≤1048576
 | 0,_,h,_,_,_=>h.elim
 | n+1,e,h,d,it,hit=>by
  rw [Jz] at hit
  rcases B3.1 hit with rfl|h'
  ·exact h.1
  exact aw n e.kids h.2.2 (d+1) it h'
 termination_by n e=>(n,0)
theorem aw:∀(n:Nat) (l:List Expr),(∀y∈l,okE n y)→∀d,∀it∈Bz d l,it.2.text.length≤1048576
  | n,[],_,_,_,h=>by cases h
  | n,e::r,h,d,it,hit=>by
    rw [Bz] at hit
    rcases Ds.1 hit with h'|h'
    · exact av n e (h e (by simp)) d it h'
    exact aw n r (fun y hy=>h y (by simp [hy])) d it h'
  termination_by n l=>(n,l.length+1)
 end
theorem ou {U:List AObj} {i j:Nat} {x y:AObj} (h:U[i]? = some x) (hne:j≠i):(U.set j y)[i]? = some x:=by rw [Cf hne];exact h
theorem AHv {e:Expr} {k:Nat} {it:Int×Expr} (hit:(C4 1 e)[k]? = some it) (h:∀j,j<k→goM e j=true):(k:Int)≤300:=by
 rcases Nat.eq_zero_or_pos k with h0|h0
 ·omega
 have hl:=(Ae.1 hit).1
 have:=h (k-1) (by omega)
 unfold goM at this
 rw [Ac (by omega)] at this
 simp at this
 omega
theorem f6 {e:Expr} {k:Nat} {it:Int×Expr} (hit:(C4 1 e)[k]? = some it):goM e k = !((!E5 it.2 || decide ((30:Int)<it.1)) || decide ((300:Int)<(k:Int)+1)):=by
 unfold goM;rw [hit]
theorem c96 (n:Nat) (e:Expr) (hok:okE n e) (hn:n≤1048576) (Hp:List AObj):AFun Tryz.prog 96 [A7 e] Hp (B0 (Bc e)):=by
 refine Ah [.cell 2 4] [0,4,5] Tryz.func96 Tryz.ntmps96 (fun d=>?_)
 refine ec ?_;refine A2 [1,2,4,5] ?_;refine Ef ?_;refine Z11 ?_;refine A2 [1,2,3,4,5] ?_;refine Z53 ?_
 refine Mm (fun hlow=>?_)
 refine AH7 ?_;refine A2 [2,3,4,5,7] ?_;refine Ju ?_
 refine Nq (m:=2) Tryz.call173 (fun FR as' bd' hFR has hbd=>?_)
 have hFRl:∀s,Low (Hp.length+4) (FR s):=by
  intro s
  rw [hFR]
  refine Ot ?_
  revert s
  repeat (first|exact Bt|refine Bs (by simp [oid,Am]<;>try omega) ?_)
 have hOl:∀{k:Nat},∀x∈[AObj.cells 4 [B0 false],AObj.cells 3 [A4 (k:Nat)],AObj.defs,AObj.loop LoopState.ready none FR 23 #[8,9] as' bd' (oid Hp.length 2)],ObjLow (Hp.length+4) x:=by
  intro k x hx
  simp only [B3,Dt,or_false] at hx
  rcases hx with rfl|rfl|rfl|rfl
  ·exact ACu
  ·exact ACu
  ·trivial
  exact zw
 have hOf:∀{k:Nat},∀x∈[AObj.cells 4 [B0 false],AObj.cells 3 [A4 ((k:Nat)+1)],AObj.defs,AObj.loop LoopState.done (some Code.ret) FR 23 #[8,9] as' bd' (oid Hp.length 2)],ObjLow (Hp.length+4) x:=by
  intro k x hx
  simp only [B3,Dt,or_false] at hx
  rcases hx with rfl|rfl|rfl|rfl
  ·exact ACu
  ·exact ACu
  ·trivial
  exact zw
 refine ⟨fun _ H'=>N1 (goM e) (fun k=>Hp++[AObj.cells 4 [B0 false],AObj.cells 3 [A4 (k:Nat)],AObj.defs,AObj.loop LoopState.ready none FR 23 #[8,9] as' bd' (oid Hp.length 2)]) (fun k=>Hp++[AObj.cells 4 [B0 false],AObj.cells 3 [A4 ((k:Nat)+1)],AObj.defs,AObj.loop LoopState.done (some Code.ret) FR 23 #[8,9] as' bd' (oid Hp.length 2)]) (C4 1 e).length H',AHu (l:=oid Hp.length 3) (go:=goM e) (U:=fun k=>Hp++[AObj.cells 4 [B0 false],AObj.cells 3 [A4 (k:Nat)],AObj.defs,AObj.loop LoopState.ready none FR 23 #[8,9] as' bd' (oid Hp.length 2)]) (F:=fun k=>Hp++[AObj.cells 4 [B0 false],AObj.cells 3 [A4 ((k:Nat)+1)],AObj.defs,AObj.loop LoopState.done (some Code.ret) FR 23 #[8,9] as' bd' (oid Hp.length 2)]) (n0:=Hp.length+4) ⟨fun k=>by simp,fun k=>by simp,fun k x hx=>?_,fun k x hx=>?_,by simp [oid],fun X k it hit hgo=>?_⟩ n hok hn,?_⟩
 ·exact zx
 ·exact L4 (fun x hx=>Nv (by omega) (hlow x hx)) hOf x hx
 ·have hk3:=AHv hit hgo
  generalize hV:(Hp++[AObj.cells 4 [B0 false],AObj.cells 3 [A4 (k:Nat)],AObj.defs,AObj.loop LoopState.ready none FR 23 #[8,9] as' bd' (oid Hp.length 2)]++X)=V
  have hL:V[oid Hp.length 3]? = some (AObj.loop LoopState.ready none FR 23 #[8,9] as' bd' (oid Hp.length 2)):=by rw [←hV,Bp,B6];rfl
  have hA0:V[oid Hp.length 1]? = some (AObj.cells 3 [A4 (k:Nat)]):=by rw [←hV,Bp,B6];rfl
  have hB0:V[oid Hp.length 0]? = some (AObj.cells 4 [B0 false]):=by rw [←hV,Bp,B6];rfl
  refine Nh (pd:=none) (fr:=FR) (sz:=23) (ps:=#[8,9]) (df:=oid Hp.length 2) (asg:=as') (bd:=bd') hL rfl (by decide) (fun d=>?_)
  subst hFR has hbd
  refine Ep [2,3,8,9] ?_;refine Z2 ?_;refine A2 [2,3,4,9] ?_;refine Og ?_;refine Z11 ?_;refine Zl ?_
  refine ⟨rfl,none,hL,?_⟩
  generalize hbz:(AObj.loop LoopState.busy _ _ _ _ _ _ _)=bz
  have hA:(V.set (oid Hp.length 3) bz)[oid Hp.length 1]? = some (AObj.cells 3 [A4 (k:Nat)]):=by rw [Cf (Do (by decide))];exact hA0
  have hB:(V.set (oid Hp.length 3) bz)[oid Hp.length 0]? = some (AObj.cells 4 [B0 false]):=by rw [Cf (Do (by decide))];exact hB0
  refine Ju ?_;refine Ef ?_
  refine A5 (h:=Bj hA) (hr:=?_)
  refine A5 ?_
  refine De jS hA ?_ ?_
  ·simp
  refine Zl ?_;refine Z2 ?_;refine Aa Tryz.call140 (AO1 it.2 (av n e hok 1 it (Bi hit)) _) ?_;refine Z21 ?_;refine Z0 ?_
  refine B7 (h:=Bj (getset hA)) (hr:=?_)
  refine Z80 ?_;refine A2 [2,22] ?_
  refine A3 (fun ht22=>?_) (fun ht22=>?_)
  ·have hgf:goM e k=false:=by rw [f6 hit,ht22];rfl
   refine Ef ?_
   refine De jS (ou (j:=oid Hp.length 1) hB (Do (by decide))) ?_ ?_
   ·simp
   refine Ku ?_;refine El ?_;refine K.blR ?_
   subst hbz
   refine ADf ?_
   refine ⟨hgf.symm,?_⟩
   rw [if_neg (by rw [hgf];simp)]
   subst hV
   simp only [Bp,Du,E8,E3,List.set_cons_succ,List.set_cons_zero]
   try rfl
  have hgt:goM e k=true:=by rw [f6 hit,ht22];rfl
  refine Gc ?_;refine I4 ?_
  subst hbz
  refine zy ?_
  refine ⟨hgt.symm,?_⟩
  rw [if_pos hgt]
  subst hV
  simp only [Bp,Du,E8,E3,List.set_cons_succ,List.set_cons_zero]
  try rfl
 rintro r H' (⟨h1,rfl⟩|⟨j,hj,h1,h2,rfl⟩)
 ·refine ⟨Hp,_,_,_,rfl,rfl,fun h=>h,?_,rfl,by simp,?_⟩
  ·intro o ho
   have:o=oid Hp.length 2:=by simpa using ho
   subst this
   rw [B6]
   rfl
  refine Z9 ?_;refine Ef ?_;refine Z71 ?_;exact A9 (Aj (Fc jA)) ⟨by rw [show Bc e=true from B1.2 fun j hj=>h1 j (Pv.1 hj)],rfl⟩
 refine ⟨Hp,_,_,_,rfl,rfl,fun h=>h,?_,rfl,by simp,?_⟩
 ·intro o ho
  have:o=oid Hp.length 2:=by simpa using ho
  subst this
  rw [B6]
  rfl
 refine Z64 ?_;exact A9 (Aj (Fc jA)) ⟨by rw [show Bc e=false from Qx.2 ⟨j,Pv.2 hj,by rw [h2];simp⟩],rfl⟩

def Bo (s:Str):Expr:=.mk 2 s ⟨0,0,[]⟩ []
theorem jg (s:Str):Le (.agg [A4 2,Ab s,A4 0,A4 0,Ab [],.nil]) (A7 (Bo s)):=by
 rw [Al]
 refine .agg _ _ rfl (by simp [AV.one,Value.oneCell',sv]) fun i y y' h1 h2=>?_
 match i with
 | 0=>simp at h1 h2;subst h1;subst h2;exact .inl rfl
 | 1=>simp at h1 h2;subst h1;subst h2;exact .inl rfl
 | 2=>simp at h1 h2;subst h1;subst h2;exact .inl rfl
 | 3=>simp at h1 h2;subst h1;subst h2;exact .inl rfl
 | 4=>simp at h1 h2;subst h1;subst h2;exact .inl rfl
 | 5=>simp at h1 h2;subst h1;subst h2;exact .inr ⟨rfl,6,rfl⟩
 | i+6=>simp at h1
theorem jh (s:Str) (h:s.length≤1048576):okE 1 (Bo s):=⟨h,by simp [Bo,Expr.kids],fun y hy=>by cases hy⟩
def U6 (c:List Col) (x:Nat) (y:Col):Bool := !(((!Bc (Bo y.name)) || (C8 y.kind==[])) || (At y.name c != (x:Int)))
def Pc (c:List Col):Bool:=c.zipIdx.all fun x=>U6 c x.2 x.1
theorem colsP_true {c:List Col}:Pc c=true↔∀(j:Nat) (y:Col),c[j]? = some y→U6 c j y=true:=Rf
theorem c50 (c:List Col) (hc:OkCols c) (Hp:List AObj):AFun Tryz.prog 50 [Ai c] Hp (B0 (Pc c)):=by
 refine Ah [.tmp 2] [0] Tryz.func50 Tryz.ntmps50 (fun d=>?_)
 refine nl ?_;refine A2 [0,5,6,7] ?_
 refine Bg (α:=Nat) (fun x=>⟨32,A6 0 (Ai c) (A6 5 (Ai c) (A6 6 (A4 c.length) (A6 7 (A4 (x:Nat)) (fun _=>.any)))),Hp,[],[],none⟩) (fun x=>x≤c.length∧∀(j:Nat) (y:Col),j<x→c[j]? = some y→U6 c j y=true) (fun x=>c.length-x) (0) (by simp) (B4 (by simp)) rfl (fun x hx=>?_)
 refine Z2 ?_;refine A2 [0,5,6,7,8] ?_
 refine E2 (fun ht8=>?_) (fun ht8=>?_)
 ·have hlt:x<c.length:=by simpa using ht8
  have hcl:=hc.len
  refine X1 ?_
  refine A5 (h:=Ad (x) (Bl c[x]) (fun _=>Ar hlt)) (hr:=?_)
  refine A5 ?_;refine iq ?_;refine A2 [0,3,4,5,6,7] ?_;refine Z86 ?_;refine R.wk 14 _ (jg c[x].name) ?_;refine Aa Tryz.call96 (c96 1 (Bo c[x].name) (jh _ (hc.names _ (As hlt))) (by decide) _) ?_;refine Z21 ?_;refine Bm Tryz.call97 (fun hB=>c97 c[x].kind _) ?_;refine B7 ?_;refine Z67 ?_;refine Bm Tryz.call60 (fun hB=>c60 c hc c[x].name _) ?_;refine eh ?_;refine A2 [0,5,6,7,30] ?_
  refine A3 (fun ht30=>?_) (fun ht30=>?_)
  ·refine Zi ?_
   exact A9 (Aj A8) ⟨by rw [show Pc c=false from G7.2 fun h=>by have:=colsP_true.1 h x c[x] (Ac hlt);unfold U6 at this;rw [ht30] at this;cases this],rfl⟩
  refine Ra ?_;refine A2 [0,5,6,7] ?_
  refine Au (x+1) ⟨hlt,Ij hlt hx.2 (by unfold U6;rw [ht30];rfl)⟩ (by omega) ?_
  exact Di (own:=[]) (fun _=>.refl _) (by repeat (first|exact Bt|refine Bs (by simp) ?_)) (by simp) (by simp)
 refine Z17 ?_;refine Z18 ?_;exact A9 (Aj A8) ⟨by rw [colsP_true.2 (Lf (by simp at ht8;omega) hx.2)],rfl⟩

def Xl (c:List Col):Bool:=decide ((c.length:Int)≤12)&&Pc c
theorem ALx (c:List Col) (hc:OkCols c) (Hp:List AObj):AFun Tryz.prog 125 [Ai c] Hp (B0 (Xl c)):=by
 refine Ah [.tmp 2] [0] Tryz.func125 Tryz.ntmps125 (fun d=>?_)
 refine Z44 ?_;refine Z34 ?_;refine B7 ?_;refine Bm Tryz.call50 (fun hB=>c50 c hc _) ?_;refine Z43 ?_;exact A9 (Aj A8) ⟨by unfold Xl;simp,rfl⟩

theorem f7 (s:Str) (h:s≠[]):Lib.contains [] s=false:=by
 cases s with
 | nil=>exact absurd rfl h
 | cons a r=>rfl
theorem contains_cons (b:UInt8) (l s:Str):Lib.contains (b::l) s=(s.isPrefixOf (b::l) || Lib.contains l s):=by
 unfold Lib.contains
 have hge:=Lib.index_ge l s
 rw [Lib.index]
 by_cases hp:s.isPrefixOf (b::l)=true
 ·rw [if_pos hp,hp];rfl
 rw [if_neg hp]
 have hp':s.isPrefixOf (b::l)=false:=G7.2 hp
 rw [hp',Ce]
 by_cases hi:Lib.index l s = -1
 ·rw [hi];rfl
 have:(Lib.index l s == -1)=false:=by simpa using hi
 rw [this,if_neg (by simp)]
 rw [decide_eq_decide]
 omega
/-- Words between blanks. -/
def Pd:List Str→Str
 | []=>[32]
 | w::r=>32::(w++Pd r)
theorem ax (sub:Str):∀(w R:Str),(32:UInt8)∉w→Lib.contains (w++R) (32::sub)=Lib.contains R (32::sub)
 | [],R,_=>rfl
 | b::w,R,h=>by
  have hb:b≠32:=fun e=>h (by simp [e])
  rw [E8,contains_cons,ax sub w R (fun hm=>h (by simp [hm]))]
  have:(32::sub).isPrefixOf (b::(w++R))=false:=by
   simp [List.isPrefixOf,Ne.symm hb]
  rw [this,Ce]
theorem V1:∀(s w:Str) (R:Str),(32:UInt8)∉s→(32:UInt8)∉w→(s++[32]).isPrefixOf (w++32::R)=(s==w)
 | [],[],R,_,_=>by simp [List.isPrefixOf]
 | [],b::w,R,_,hw=>by
  have hb:(32:UInt8)≠b:=fun e=>hw (by simp [e])
  simp [List.isPrefixOf,hb]
 | a::s,[],R,hs,_=>by
  have hb:a≠(32:UInt8):=fun e=>hs (by simp [e])
  simp [List.isPrefixOf,hb]
 | a::s,b::w,R,hs,hw=>by
  have ih:=V1 s w R (fun h=>hs (by simp [h])) (fun h=>hw (by simp [h]))
  rw [E8,E8,List.isPrefixOf,ih]
  rfl
theorem ji:∀ws,∃R,Pd ws=32::R
 | []=>⟨[],rfl⟩
 | w::r=>⟨_,rfl⟩
theorem Lu (s:Str) (hs:(32:UInt8)∉s):∀(ws:List Str),(∀w∈ws,(32:UInt8)∉w)→Lib.contains (Pd ws) ([32]++s++[32])=ws.any (·==s)
 | [],_=>by
  rw [Pd,contains_cons,f7 _ (by simp),Ks]
  cases s<;>simp [List.isPrefixOf]
 | w::r,h=>by
  have hw:=h w (by simp)
  obtain ⟨R,hR⟩:=ji r
  have ih:=Lu s hs r (fun x hx=>h x (by simp [hx]))
  have e1:([32]++s++[32]:Str)=32::(s++[32]):=rfl
  rw [Pd,contains_cons,e1,ax _ w _ hw,←e1,ih,List.any_cons]
  congr 1
  rw [e1,hR]
  have:=V1 s w R hs hw
  rw [List.isPrefixOf,this]
  simp only [beq_self_eq_true,Fb]
  by_cases hsw:s=w
  ·subst hsw;rfl
  rw [beq_eq_false_iff_ne.2 hsw,beq_eq_false_iff_ne.2 (Ne.symm hsw)]
theorem Zr:Nt=Pd words:=by kernel_rfl
theorem jk:∀w∈words,(32:UInt8)∉w:=by decide
theorem jl (s:Str):Lib.contains s [32]=s.contains 32:=by
 induction s with
 | nil=>rfl
 | cons b l ih =>
  rw [contains_cons,ih,List.contains_cons]
  congr 1
  simp [List.isPrefixOf]
theorem Xm (s:Str) (h1:s≠[]) (h2:(32:UInt8)∉s):Hs s=Jw s:=by
 unfold Hs
 rw [jl,Zr,Lu s h2 words jk]
 have e1:(s==[])=false:=by simpa using h1
 have e2:s.contains 32=false:=by simpa using h2
 rw [e1,e2]
 rfl
set_option maxRecDepth 8000
theorem AAq {p:UInt8→Bool} (h:((List.range 256).all fun n=>p (UInt8.ofNat n))=true) (c:UInt8):p c=true:=by
 have:=B1.1 h c.toNat (Pv.2 c.toNat_lt)
 simpa using this
theorem ov (c:UInt8):tails.contains c=Mx c:=by
 have:=AAq (p:=fun c=>tails.contains c==Mx c) (by kernel_rfl) c
 simpa using this
theorem f8 (c:UInt8):letters.contains c=Hr c:=by
 have:=AAq (p:=fun c=>letters.contains c==Hr c) (by kernel_rfl) c
 simpa using this
theorem ow:Mx 32=false:=by kernel_rfl
theorem rq (s of:Str):(Sn s of==(s.length:Int))=s.all (of.contains ·):=by
 unfold Sn Lib.trimLeftS
 induction s with
 | nil=>rfl
 | cons c r ih =>
  rw [Ti,List.all_cons]
  cases hc:of.contains c with
  | true =>
   simp only [if_true,Fb]
   rw [←ih,Tg]
   have:=(mc (fun x=>of.contains x) (l:=r)).length_le
   simp only [beq_iff_eq,B8]
   omega
  | false =>
   simp only [Ay,if_false,H9]
   rw [beq_eq_false_iff_ne]
   simp only [B8]
   omega
theorem Eh (s:Str):Cc s=Hl s:=by
 cases s with
 | nil=>rfl
 | cons c r =>
  unfold Cc
  rw [rq]
  have e1:((c::r).all fun x=>tails.contains x)=(c::r).all Mx:=by
   congr 1
   funext x
   exact ov x
  have e2:(Sn ((c::r).take 1) letters==1)=Hr c:=by
   have:=rq [c] letters
   rw [←f8 c]
   simpa using this
  rw [e1,e2]
  have e3:((c::r:Str)==[])=false:=rfl
  have e4:decide (((c::r).length:Int)≤16)=decide ((c::r).length≤16):=by
   rw [decide_eq_decide];omega
  rw [e3,e4]
  show _=(decide ((c::r).length≤16)&&Hr c && !Jw (c::r)&&(c::r).all Mx)
  cases ha:(c::r).all Mx with
  | false=>simp
  | true =>
   have hb:(32:UInt8)∉(c::r):=fun hm=>by
    have:=B1.1 ha 32 hm
    rw [ow] at this
    cases this
   rw [Xm _ (by simp) hb]
   simp
theorem oy (s:Str):Bc (Bo s)=Hl s:=by
 have e:C4 1 (Bo s)=[(1,Bo s)]:=by rw [Jz];rfl
 unfold Bc
 rw [e]
 show ((List.range 1).all (goM (Bo s)))=_
 have g:goM (Bo s) 0=E5 (Bo s):=by
  unfold goM
  rw [e]
  simp
 simp only [dc,List.range_zero,E3,List.all_cons,List.all_nil,Tf]
 rw [g,←Eh]
 simp [E5,Bo,Expr.op,Expr.val,Expr.text,Expr.kids,N0]
theorem f9 (k:Int):(C8 k==[])=(decide (k<1) || decide ((3:Int)<k)):=by
 unfold C8
 by_cases h:k<1∨3<k
 ·rw [if_pos h]
  have:(decide (k<1) || decide ((3:Int)<k))=true:=by simpa using h
  rw [this];rfl
 rw [if_neg h]
 have:(decide (k<1) || decide ((3:Int)<k))=false:=by simp;omega
 rw [this]
 have hk:k=1∨k=2∨k=3:=by omega
 rcases hk with rfl|rfl|rfl<;>rfl
theorem Md (c:List Col):Pc c=F8 c:=by
 unfold Pc F8
 congr 1
 funext x
 unfold U6 Sm
 rw [oy,f9,←Bool.or_assoc (!Hl x.1.name)]
theorem J6 (c:List Col):Xl c=Cx c:=by unfold Xl Cx;rw [Md]
set_option maxRecDepth 4000
def Af (l:List Tok) (i:Nat):Tok:=l.getD i ⟨0,[],0⟩
theorem Mq {l:List Tok} {i:Nat} (h:i<l.length):(l.map Ix)[i]? = some (Ix (Af l i)):=by
 rw [Ch,Ac h]
 unfold Af
 rw [Cq,Ac h]
 rfl
end Go.SX.Nb
