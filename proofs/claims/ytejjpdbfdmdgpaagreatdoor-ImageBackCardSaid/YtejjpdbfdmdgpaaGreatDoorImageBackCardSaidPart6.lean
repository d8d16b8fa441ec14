/- On the way (part 6). -/
import Derived.Test.YtejjpdbfdmdgpaaGreatDoorImageBackCardSaidPart5
set_option linter.all false
namespace Go.SX.Nb
open Go Go.SX Go.Proofs
variable [ErrAt]
set_option maxRecDepth 4000
def wAt (s:Str) (k:Nat):Int×Str×Int×Int:=Cz (s.drop k)
theorem Pz {f k:Nat} {s:Str} (h:s≠[]):K6 (f+1) k s=(⟨(Cz s).1,(Cz s).2.1,k⟩,(Cz s).2.2.2)::(if (Cz s).2.2.2==0 then K6 f (k+(Cz s).2.2.1.toNat+gapM (s.drop (Cz s).2.2.1.toNat)) ((s.drop (Cz s).2.2.1.toNat).drop (gapM (s.drop (Cz s).2.2.1.toNat))) else []):=by
 rw [K6,if_neg (by simpa using h)]
/-- Where the reader is, with k words behind it. -/
def Wi (s:Str) (k p:Nat):Prop:=(∃f,(s.drop p).length<f∧(Cw s).drop k=K6 f p (s.drop p))∧p≤s.length∧∀j,j<k→∃it,(Cw s)[j]? = some it∧it.2=0
theorem ss (s:Str):Wi s 0 (gapM s):=⟨⟨s.length+1,by rw [Fh];omega,by rw [gm];rfl⟩,so s,fun j hj=>by omega⟩
theorem zq {s:Str} {k p:Nat} (h:Wi s k p):k≤(Cw s).length:=by
 refine Hs fun hn=>?_
 obtain ⟨it,hit,_⟩:=h.2.2 (Cw s).length (by omega)
 rw [G9 (Aj _)] at hit
 cases hit
theorem zr {s:Str} {k p:Nat} (h:Wi s k p) (hp:s.length≤p):k=(Cw s).length∧∀it∈Cw s,it.2=0:=by
 have hl:=zq h
 obtain ⟨⟨f,_,hd⟩,_,h0⟩:=h
 have e:s.drop p=[]:=by rw [qe];exact hp
 rw [e] at hd
 have:(Cw s).drop k=[]:=by rw [hd];cases f<;>rfl
 rw [qe] at this
 have hk:k=(Cw s).length:=by omega
 refine ⟨hk,fun it hit=>?_⟩
 obtain ⟨j,hj,rfl⟩:=List.mem_iff_getElem.1 hit
 obtain ⟨it',h1,h2⟩:=h0 j (by omega)
 rw [Aa hj] at h1
 injection h1 with h1
 rw [h1];exact h2
theorem Zh {s:Str} {k p:Nat} (h:Wi s k p) (hp:p<s.length):∃f,(s.drop p).length<f+1∧(Cw s).drop k=K6 (f+1) p (s.drop p)∧s.drop p≠[]:=by
 obtain ⟨⟨f,hf,hd⟩,_,_⟩:=h
 obtain ⟨g,rfl⟩:∃g,f=g+1:=⟨f-1,by omega⟩
 exact ⟨g,hf,hd,fun e=>by rw [qe] at e;omega⟩
theorem Sk {s:Str} {k p:Nat} (h:Wi s k p) (hp:p<s.length):(Cw s)[k]? = some (⟨(wAt s p).1,(wAt s p).2.1,p⟩,(wAt s p).2.2.2):=by
 obtain ⟨f,_,hd,hne⟩:=Zh h hp
 rw [Pz hne] at hd
 have:=congrArg (·[0]?) hd
 unfold wAt
 simpa using this
theorem su {s:Str} {k p:Nat} (h:Wi s k p) (hp:p<s.length) (he:(wAt s p).2.2.2=0):∃n:Nat,(wAt s p).2.2.1=(n:Int)∧1≤n∧p+n≤s.length∧Wi s (k+1) (p+n+gapM (s.drop (p+n))):=by
 have hi:=Sk h hp
 obtain ⟨f,hf,hd,hne⟩:=Zh h hp
 obtain ⟨n,hn,h1,h2⟩:=vp (s:=s.drop p) (by rw [Fh];omega) he
 rw [Fh] at h2 hf
 have hg:=so (s.drop (p+n))
 rw [Fh] at hg
 refine ⟨n,hn,h1,by omega,⟨f,by rw [Fh];omega,?_⟩,by omega,fun j hj=>?_⟩
 ·rw [Pz hne] at hd
  have:=congrArg (·.drop 1) hd
  simp only [gk,qf,gm] at this
  unfold wAt at he
  rw [this,hn,he]
  simp only [beq_self_eq_true,if_true,Int.toNat_natCast,gk]
 rcases Be j k with h'|h'
 ·exact h.2.2 j h'
 have:j=k:=by omega
 subst this
 exact ⟨_,hi,he⟩
theorem c91 (l:Nat) (s:Str) (hs:s.length≤1048576) (U F:Nat→List AObj) (hlen:∀k,(U k).length=(U 0).length) (hll:l<(U 0).length)
  (hy:∀k it,(Cw s)[k]? = some it→AYield Tryz.prog l [Mm it.1,A5 it.2] (U k) (fun b H'=>if it.2=0 then b=true∧H'=U (k+1) else b=false∧H'=F k)):ACall Tryz.prog 91 [.yield l,.ro [Af s]] (U 0) (fun r H'=>((∀it∈Cw s,it.2=0)∧H'=U (Cw s).length)∨∃k it,(Cw s)[k]? = some it∧it.2≠0∧(∀j,j<k→∃it',(Cw s)[j]? = some it'∧it'.2=0)∧H'=F k):=by
 refine Ah [] [0,1] Tryz.func91 Tryz.ntmps91 (fun d=>?_)
 refine Z2 ?_;refine A9 Tryz.call92 (c92 s hs _) ?_;refine A4 ?_;refine A2 [0,1,3] ?_
 refine Az (α:=Nat×Nat) (fun x=>⟨44,A6 0 (.yield l) (A6 1 (.ro [Af s]) (A6 3 (A5 (x.2:Nat)) (fun _=>.any))),U x.1,[],[],none⟩) (fun x=>Wi s x.1 x.2) (fun x=>s.length-x.2) (0,gapM s) (ss s) (F6 _) rfl (fun x hx=>?_)
 obtain ⟨k,p⟩:=x
 simp only at hx ⊢
 refine Z50 ?_;refine A2 [0,1,3,13] ?_
 refine A3 (fun ht13=>?_) (fun ht13=>?_)
 ·have hpl:p<s.length:=by simpa using ht13
  refine Se ?_
  refine A4 (h:=S4 p (fun _=>hx.2.1) (fun _=>Aj _)) (hr:=?_)
  refine A9 Tryz.call93 (c93 (s.drop p) (by rw [Fh];omega) (by rw [Fh];omega) _) ?_
  refine Z70 ?_;refine Z63 ?_;refine A2 [0,1,3,4,5,6,7] ?_;refine Z50 ?_;refine co ?_;refine A4 ?_;refine R.yield0 (hy k _ (Sk hx hpl)) ?_
  intro b V hV hb
  refine Z44 ?_;refine A4 ?_;refine A2 [0,1,3,6,40] ?_
  refine A3 (fun ht40=>?_) (fun ht40=>?_)
  ·have hbe:(Cz (s.drop p)).2.2.2≠0∧V=F k:=by
    split at hb
    ·rename_i h0
     obtain ⟨rfl,_⟩:=hb
     have h0':(Cz (s.drop p)).2.2.2=0:=h0
     simp [h0'] at ht40
    rename_i h0
    exact ⟨h0,hb.2⟩
   refine Z13 ?_;refine Z6 ?_;refine Mg ?_;exact A8 .nores (hp:=.inr ⟨k,_,Sk hx hpl,hbe.1,hx.2.2,hbe.2⟩)
  have hbe:(Cz (s.drop p)).2.2.2=0∧V=U (k+1):=by
   split at hb
   ·rename_i h0
    exact ⟨h0,hb.2⟩
   obtain ⟨rfl,_⟩:=hb
   simp at ht40
  obtain ⟨n,hn,hn1,hnl,hnx⟩:=su hx hpl hbe.1
  unfold wAt at hn
  rw [hn]
  have hgl:=so (s.drop (p+n))
  rw [Fh] at hgl
  refine Z4 ?_;refine Z31 ?_;refine Z0 ?_;refine A2 [0,1,3] ?_;refine Z83 ?_
  refine A4 (h:=S4 (p+n) (fun _=>hnl) (fun _=>Aj _)) (hr:=?_)
  refine A9 Tryz.call92 (c92 (s.drop (p+n)) (by rw [Fh];omega) _) ?_
  refine Z0 ?_;refine A2 [0,1,3] ?_;exact Ay (k+1,p+n+gapM (s.drop (p+n))) hnx (by show s.length-_<s.length-p;omega) (Bh (by rw [hbe.2];simp))
 have hpl:s.length≤p:=by simpa using ht13
 obtain ⟨hk,hz⟩:=zr hx hpl
 refine rm ?_;exact Gn .nores (hp:=.inl ⟨hz,by rw [hk]⟩)

theorem c62 (s:Str) (Hp:List AObj):AFun Tryz.prog 62 [Af s] Hp (.fn (.func 91) [] [.ro [Af s]]):=by
 refine Ah [.tmp 2] [0] Tryz.func62 Tryz.ntmps62 (fun d=>?_)
 refine Pv ?_;refine Ec ?_;refine ADh ?_;exact AM7

def I7 (s:Str):List Tok×Int×Nat:=if 4000<s.length then ([],3,0) else
 match (Cw s).find? (fun it=>it.2 != 0) with
 | some it=>([],it.2,it.1.at_)
 | none=>((Cw s).map (·.1)++[⟨0,[],s.length⟩],0,0)
theorem AI0 {s:Str} {k:Nat} {it:Tok×Int} (hit:(Cw s)[k]? = some it) (he:it.2≠0) (h0:∀j,j<k→∃it',(Cw s)[j]? = some it'∧it'.2=0):(Cw s).find? (fun it=>it.2 != 0)=some it:=by
 rw [ACh]
 obtain ⟨hk,e⟩:=Ad.1 hit
 refine ⟨by simpa using he,k,hk,e,fun j hj=>?_⟩
 obtain ⟨it',h1,h2⟩:=h0 j hj
 rw [Aa (by omega)] at h1
 injection h1 with h1
 rw [h1,h2];rfl
theorem AEj {s:Str} (h:∀it∈Cw s,it.2=0):(Cw s).find? (fun it=>it.2 != 0)=none:=by
 rw [Na]
 intro it hit
 simp [h it hit]
def ec (s:Str) (k:Nat):Int×Nat:=match (Cw s)[k]? with|some it=>(it.2,it.1.at_)|none=>(0,0)
theorem Zi:∀(f k:Nat) (s:Str),(K6 f k s).length≤f
 | 0,_,_=>Ap _
 | f+1,k,s=>by
  rw [K6]
  split
  ·exact ru
  rw [B6]
  split
  ·have:=Zi f (k+(Cz s).2.2.1.toNat+gapM (s.drop (Cz s).2.2.1.toNat)) ((s.drop (Cz s).2.2.1.toNat).drop (gapM (s.drop (Cz s).2.2.1.toNat)))
   omega
  simp
theorem Zj (s:Str):(Cw s).length≤s.length+1:=Zi _ _ _
def Nt (s:Str) (k:Nat):List Tok:=((Cw s).take k).map (·.1)
theorem Vd (s:Str) (k:Nat):(Nt s k).length≤s.length+1:=by
 have:=Zj s
 unfold Nt
 rw [Am,Bx]
 omega
theorem sw {s:Str} {k:Nat} {it:Tok×Int} (hit:(Cw s)[k]? = some it):Nt s (k+1)=Nt s k++[it.1]:=by
 unfold Nt
 rw [Xn,hit,C4]
 rfl
theorem zt (s:Str):Nt s (Cw s).length=(Cw s).map (·.1):=by unfold Nt;rw [Ta]
theorem zu {s:Str} {k:Nat} {it:Tok×Int} (hl4:¬4000<s.length) (hit:(Cw s)[k]? = some it) (he:it.2≠0) (h0:∀j,j<k→∃it',(Cw s)[j]? = some it'∧it'.2=0):I7 s=([],it.2,it.1.at_):=by
 unfold I7
 rw [if_neg hl4,AI0 hit he h0]
theorem AEk {s:Str} (hl4:¬4000<s.length) (hz:∀it∈Cw s,it.2=0):I7 s=(Nt s (Cw s).length++[⟨0,[],s.length⟩],0,0):=by
 unfold I7
 rw [if_neg hl4,AEj hz,zt]
theorem c37 (s:Str) (hs:s.length≤1048576) (Hp:List AObj):AFun Tryz.prog 37 [Af s] Hp (.tup [vn (I7 s).1,.agg [A5 (I7 s).2.1,A5 (I7 s).2.2]]):=by
 refine Ah [.cell 2 65,.cell 3 38] [0,5,6] Tryz.func37 Tryz.ntmps37 (fun d=>?_)
 refine Z37 ?_;refine Mj ?_;refine A2 [0,2,3,5,6] ?_;refine Z33 ?_;refine A2 [0,2,3,5,6,9] ?_
 refine A3 (fun ht9=>?_) (fun ht9=>?_)
 ·have hlm:I7 s=([],3,0):=by unfold I7;rw [if_pos (by simp at ht9;omega)]
  refine Ec ?_;refine APz ?_;refine Yn 0 3 ?_;refine r9 ?_;refine Z13 ?_;exact A8 (B1 (Hg jA) (B8 jA jS)) ⟨by rw [hlm];rfl,rfl⟩
 have hl4:¬4000<s.length:=by simp at ht9;omega
 refine Z4 ?_;refine Z37 ?_;refine A2 [0,2,3,4,5,6] ?_;refine Z74 ?_;refine Yn 2 3 ?_;refine A4 ?_;refine A9 Tryz.call62 (c62 s _) ?_;refine A2 [0,2,3,4,5,6,12] ?_;refine Mi ?_
 refine Sb (m:=3) Tryz.call91 (fun FR as' bd' hFR has hbd=>?_)
 refine ⟨_,c91 (oid Hp.length 4) s hs (fun k=>Hp++[AObj.cells 65 [AV.nil],AObj.cells 38 [A5 0,A5 0],AObj.cells 65 [AV.slice true 3 ((Nt s k).map Mm)],AObj.defs,AObj.loop LoopState.ready none FR 32 #[13,14] as' bd' (oid Hp.length 3)]) (fun k=>Hp++[AObj.cells 65 [AV.nil],AObj.cells 38 [A5 (ec s k).1,A5 (ec s k).2],AObj.cells 65 [AV.slice true 3 ((Nt s k).map Mm)],AObj.defs,AObj.loop LoopState.done (some Code.ret) FR 32 #[13,14] as' bd' (oid Hp.length 3)]) (fun k=>by simp) (by simp [oid]) (fun k it hit=>?_),?_⟩
 ·generalize hV:Hp++[AObj.cells 65 [AV.nil],AObj.cells 38 [A5 0,A5 0],AObj.cells 65 [AV.slice true 3 ((Nt s k).map Mm)],AObj.defs,AObj.loop LoopState.ready none FR 32 #[13,14] as' bd' (oid Hp.length 3)]=V
  have hL:V[oid Hp.length 4]? = some (AObj.loop LoopState.ready none FR 32 #[13,14] as' bd' (oid Hp.length 3)):=by rw [←hV,C0];rfl
  have hA0:V[oid Hp.length 2]? = some (AObj.cells 65 [AV.slice true 3 ((Nt s k).map Mm)]):=by rw [←hV,C0];rfl
  have hB0:V[oid Hp.length 0]? = some (AObj.cells 65 [AV.nil]):=by rw [←hV,C0];rfl
  have hC0:V[oid Hp.length 1]? = some (AObj.cells 38 [A5 0,A5 0]):=by rw [←hV,C0];rfl
  refine S3 (pd:=none) (fr:=FR) (sz:=32) (ps:=#[13,14]) (df:=oid Hp.length 3) (asg:=as') (bd:=bd') hL rfl (by decide) (fun d=>?_)
  subst hFR has hbd
  refine Hh [2,3,4,13,14] ?_;refine Ec ?_;refine Z20 ?_;refine A2 [2,3,4,5,14] ?_;refine Z52 ?_;refine A2 [2,3,4,5,6] ?_
  refine ⟨rfl,none,hL,?_⟩
  generalize hbz:(AObj.loop LoopState.busy _ _ _ _ _ _ _)=bz
  have hA:(V.set (oid Hp.length 4) bz)[oid Hp.length 2]? = some (AObj.cells 65 [AV.slice true 3 ((Nt s k).map Mm)]):=by rw [Ed (Cv (by decide))];exact hA0
  have hB:(V.set (oid Hp.length 4) bz)[oid Hp.length 0]? = some (AObj.cells 65 [AV.nil]):=by rw [Ed (Cv (by decide))];exact hB0
  have hC:(V.set (oid Hp.length 4) bz)[oid Hp.length 1]? = some (AObj.cells 38 [A5 0,A5 0]):=by rw [Ed (Cv (by decide))];exact hC0
  refine Mi ?_;refine Z8 ?_;refine A2 [2,3,4,5,6,16] ?_
  refine A3 (fun ht16=>?_) (fun ht16=>?_)
  ·have hne:it.2≠0:=by simpa using ht16
   refine Hy [0,0,2,7,0,31] [4] [.q 4 [] [],.s [] (some 0) [] []] (fun _=>V.set (oid Hp.length 4) bz) (fun _=>[AObj.cells 103 [A5 it.1.kind,Af it.1.text,A5 it.1.at_]]) Ai (by kernel_rfl) rfl rfl (fun _=>rfl) ?_
   apply Y.q
   ·intro B hT hF
    refine Z40 ?_;exact AOo
   case hTF=>decide
   refine Y.storeUp (o:=oid Hp.length 0) (ys:=[.nil]) (t':=65) (cs:=[AV.nil]) (cs':=[AV.nil]) jS (fun _ _=>⟨hB,(Jh hB).symm,rfl,by simp⟩) ?_;refine Gx (tn:=[4]) (U:=V.set (oid Hp.length 4) bz) ?_
   refine Gm jS hC ?_ ?_
   ·simp
   refine A2 [] ?_;refine Z13 ?_;refine Mf ?_
   subst hbz
   refine K.rdR (li hL (Cv (by decide))) ?_
   rw [if_neg hne]
   refine ⟨rfl,?_⟩
   subst hV
   simp only [Hm,List.set_cons_succ,List.set_cons_zero]
   rw [show ec s k=(it.2,it.1.at_) by unfold ec;rw [hit]]
  have heq:it.2=0:=by simpa using ht16
  refine Z4 ?_;refine Ix ?_
  have hl3:=Vd s k
  refine R.loadUpT jA hA ?_;refine Z54 ?_
  refine Ee jU Tryz.type103 ?_ ?_ ?_
  ·simp [hl3,Tryz.t103];omega
  ·simp [hl3,Tryz.t103];omega
  refine J1 jS (getset hA) ?_ ?_
  ·simp [or_imp,forall_and]
  refine Yq ?_
  subst hbz
  refine AHq ?_
  rw [if_pos heq]
  refine ⟨rfl,?_⟩
  subst hV
  simp only [Hm,List.set_cons_succ,List.set_cons_zero]
  rw [sw hit,C4]
  rfl
 rintro r H' (⟨hz,rfl⟩|⟨k,it,hit,hne,h0,rfl⟩)
 ·refine ⟨Hp,_,_,_,rfl,rfl,fun h=>h,?_,rfl,by simp,?_⟩
  ·intro o ho
   have:o=oid Hp.length 3:=by simpa using ho
   subst this
   rw [C0]
   rfl
  refine Z11 ?_;refine Ec ?_;refine R.loadOwnT jA ?_;refine Z0 ?_;refine co ?_;refine Ra ?_
  refine Ee jU Tryz.type103 ?_ ?_ ?_
  ·have:=Vd s (Cw s).length;simp [Tryz.t103];omega
  ·have:=Vd s (Cw s).length;simp [Tryz.t103];omega
  refine j7 ?_;refine ip jS ?_;refine r9 ?_;refine Dd ?_;exact A8 (B1 (Hg jA) (B8 jA jS)) ⟨by rw [AEk hl4 hz,vn,C4];rfl,rfl⟩ (hlow:=by simp [or_imp,forall_and])
 refine ⟨Hp,_,_,_,rfl,rfl,fun h=>h,?_,rfl,by simp,?_⟩
 ·intro o ho
  have:o=oid Hp.length 3:=by simpa using ho
  subst this
  rw [C0]
  rfl
 refine W.nilOwn 0 3 ?_;refine Z21 ?_;exact A8 (B1 (Hg jA) (B8 jA jS)) ⟨by rw [zu hl4 hit hne h0,show ec s k=(it.2,it.1.at_) by unfold ec;rw [hit]];rfl,rfl⟩

inductive Expr where
 | mk (op:Int) (text:Str) (val:Val) (kids:List Expr)
def Expr.op:Expr→Int|.mk o _ _ _=>o
def Expr.text:Expr→Str|.mk _ t _ _=>t
def Expr.val:Expr→Val|.mk _ _ v _=>v
def Expr.kids:Expr→List Expr|.mk _ _ _ k=>k
mutual
def Ab:Expr→AV
 | .mk o t v k=>.agg [.v (.int .i64 o),.v (sv t),.v (.int .i64 v.kind),.v (.int .i64 v.n),.v (sv v.s),.slice false 6 (Ve k)]
def Ve:List Expr→List AV
  | []=>[]
  | e::r=>Ab e::Ve r
 end
theorem Zk:∀l,Ve l=l.map Ab
 | []=>rfl
 | e::r=>by rw [Ve,Zk r];rfl
theorem Ax (e:Expr):Ab e=.agg [.v (.int .i64 e.op),.v (sv e.text),.v (.int .i64 e.val.kind),.v (.int .i64 e.val.n),.v (sv e.val.s),.slice false 6 (e.kids.map Ab)]:=by
 cases e with
 | mk o t v k=>rw [Ab,Zk];rfl
attribute [go_sem] Ax
def Qz:Str:=[32,111,114,32,32,97,110,100,32,32,61,32,33,61,32,60,32,60,61,32,62,32,62,61,32,32,43,32,45,32,38,32,32,42,32,47,32,37,32]
def Nu (v:Val):Bool:=v.kind==0&&v.n==0&&v.s==[]
def E9 (e:Expr):Bool:=
 if e.op==1 then ((Cg e.val&&decide (0≤e.val.n))&&(e.text==[]))&&((e.kids.length:Int)==0)
 else if e.op==2 then (Nu e.val&&Dg e.text)&&((e.kids.length:Int)==0)
 else if e.op==3 || e.op==4 then (Nu e.val&&(e.text==[]))&&((e.kids.length:Int)==1)
 else if e.op==5 then (Nu e.val&&Qy e.text Qz)&&((e.kids.length:Int)==2)
 else if e.op==6 then Nu e.val&&(Cc e.text==(e.kids.length:Int))
 else false
theorem c89 (e:Expr) (hs:e.text.length≤1048576) (Hp:List AObj):AFun Tryz.prog 89 [Ab e] Hp (B4 (E9 e)):=by
 refine ACall.body [.tmp 2] [0] Tryz.func89 Tryz.ntmps89 (fun d=>?_)
 refine Pv ?_;refine Z1 ?_;refine co ?_
 refine R.go (h:=Q.eqlAgg Tt (Hn e.val.kind e.val.n 0 0 e.val.s [])) (hr:=?_)
 refine R.go ?_;refine R.fin [1,3] ?_;refine Z8 ?_;refine R.fin [1,3,9] ?_;refine P8 ?_;refine R.fin [1,3,9,10] ?_
 refine W.cond (fun ht10=>?_) (fun ht10=>?_)
 ·refine Z1 ?_;refine R.call Tryz.call35 (c35 e.val _) ?_;refine R.go ?_;refine Pw ?_;refine Z0 ?_;refine Xb ?_;exact yu
 refine Z1 ?_;refine R.fin [1,3,9,32] ?_
 refine W.cond (fun ht32=>?_) (fun ht32=>?_)
 ·refine Z1 ?_;refine Z7 ?_;refine G.call Tryz.call111 (fun hB=>AE7 e.text hs _) ?_;refine Z44 ?_;exact yu
 refine Z8 ?_;refine R.fin [1,3,9,46] ?_
 refine W.cond (fun ht46=>?_) (fun ht46=>?_)
 ·refine Z4 ?_
  refine W.cond (fun ht46=>?_) (fun ht46=>?_)
  ·refine Z1 ?_;refine Xb ?_;exact yu
  refine Z1 ?_;refine R.fin [1,3,9,61] ?_
  refine W.cond (fun ht61=>?_) (fun ht61=>?_)
  ·refine Z1 ?_;refine Z7 ?_;refine AQ0 ?_;exact yu
  refine Z1 ?_;refine R.fin [1,3,75] ?_
  refine W.cond (fun ht75=>?_) (fun ht75=>?_)
  ·refine APp ?_;refine Z56 ?_;refine H.call Tryz.call113 (fun hB=>AMl e.text _) ?_;refine lv ?_;refine D.tail ?_;refine G.go ?_;refine Z53 ?_;exact Z69
  refine Z17 ?_;exact AP3
 refine Z31 ?_;refine R.fin [1,3,9,46] ?_;refine K.thN ?_
 refine W.cond (fun ht46=>?_) (fun ht46=>?_)
 ·refine Z1 ?_;refine Xb ?_;exact yu
 refine Z1 ?_;refine R.fin [1,3,9,61] ?_
 refine W.cond (fun ht61=>?_) (fun ht61=>?_)
 ·refine Z1 ?_;refine Z7 ?_;refine AQ0 ?_;exact yu
 refine Z1 ?_;refine R.fin [1,3,75] ?_
 refine W.cond (fun ht75=>?_) (fun ht75=>?_)
 ·refine APp ?_;refine Z56 ?_;refine H.call Tryz.call113 (fun hB=>AMl e.text _) ?_;refine lv ?_;refine D.tail ?_;refine G.go ?_;refine Z53 ?_;exact Z69
 refine Z17 ?_;exact AP3

mutual
def C3 (d:Int):Expr→List (Int×Expr)
 | .mk o t v k=>(d,.mk o t v k)::Bz (d+1) k
def Bz (d:Int):List Expr→List (Int×Expr)
  | []=>[]
  | e::r=>C3 d e++Bz d r
 end
theorem K7 (d:Int) (e:Expr):C3 d e=(d,e)::Bz (d+1) e.kids:=by cases e;rfl
theorem Nh (d:Int):∀a b,Bz d (a++b)=Bz d a++Bz d b
 | [],b=>rfl
 | e::r,b=>by rw [Fe,Bz,Bz,Nh d r b,C9]
theorem ml (d:Int) (l:List Expr) {x:Nat} (h:x<l.length):Bz d (l.take (x+1))=Bz d (l.take x)++C3 d l[x]:=by
 rw [Ip h,Nh]
 simp [Bz]
theorem Tx (d:Int) (l:List Expr) {x:Nat} (h:x<l.length):Bz d l=Bz d (l.take x)++(C3 d l[x]++Bz d (l.drop (x+1))):=by
 have e:l=l.take x++(l[x]::l.drop (x+1)):=by rw [←Hd h,v8]
 conv=>lhs;rw [e]
 rw [Nh,Bz]
mutual
def sizeE:Expr→Nat
 | .mk _ _ _ k=>1+D7 k
def D7:List Expr→Nat
  | []=>0
  | e::r=>sizeE e+D7 r
 end
theorem Kv (e:Expr):sizeE e=1+D7 e.kids:=by cases e;rfl
theorem Vf:∀(l:List Expr) {x:Nat} (h:x<l.length),sizeE l[x]≤D7 l
 | e::r,0,_=>by simp only [List.getElem_cons_zero,D7];omega
 | e::r,x+1,h=>by
  have:=Vf r (x:=x) (by simpa using h)
  simp only [List.getElem_cons_succ,D7]
  omega
theorem mm (e:Expr) {x:Nat} (h:x<e.kids.length):sizeE e.kids[x]+1≤sizeE e:=by
 have:=Vf e.kids h
 rw [Kv e]
 omega
/-- Each node has few kids. -/
def okE:Nat→Expr→Prop
 | 0,_=>False
 | n+1,e=>e.text.length≤1048576∧e.kids.length≤1048576∧∀y∈e.kids,okE n y
/-- Who takes what a tree yields: item k is taken at U k; it goes on (go k) to U (k + 1), or ends at F k. Behind U k there may stand others' objects. -/
structure Takes (P:Program) (l:Nat) (L:List (Int×Expr)) (go:Nat→Bool) (U F:Nat→List AObj) (n0:Nat):Prop where
 lenU:∀k,(U k).length=n0
 lenF:∀k,(F k).length=n0
 lowU:∀k,∀x∈U k,ObjLow n0 x
 lowF:∀k,∀x∈F k,ObjLow n0 x
 lt:l<n0
 y:∀(X:List AObj) (k:Nat) (it:Int×Expr),L[k]? = some it→(∀j,j<k→go j=true)→AYield P l [A5 it.1,Ab it.2] (U k++X) (fun b H'=>b=go k∧H'=(if go k then U (k+1) else F k)++X)
theorem ObjLow.le {m m':Nat} (h:m≤m') {x:AObj} (hx:ObjLow m x):ObjLow m' x:=by
 cases x with
 | cells t cs=>exact fun y hy=>(hx y hy).mono h
 | loop s pd fr sz ps as' bd df=>exact ⟨fun s=>(hx.1 s).mono h,Cp hx.2 h⟩
 | defs=>trivial
 | dead=>trivial
 | bld _ _ _=>trivial
 | gone=>trivial
/-- What the walk over n items from k0 on comes to. -/
def mn (go:Nat→Bool) (U F:Nat→List AObj) (k0 n:Nat) (X:List AObj):AV→List AObj→Prop:=fun r H' =>
 ((∀j,j<n→go (k0+j)=true)∧r=B4 true∧H'=U (k0+n)++X)∨(∃j,j<n∧(∀i,i<j→go (k0+i)=true)∧go (k0+j)=false∧r=B4 false∧H'=F (k0+j)++X)
mutual
theorem B7 (m:Nat):∀e,Low m (Ab e)
 | .mk o t v k=>by
  rw [Ab]
  refine .agg _ fun y hy=>?_
  simp only [Bu,Fi,or_false] at hy
  rcases hy with rfl|rfl|rfl|rfl|rfl|rfl
  ·exact .v _
  ·exact .v _
  ·exact .v _
  ·exact .v _
  ·exact .v _
  exact low_slice.2 (Zl m k)
theorem Zl (m:Nat):∀l,∀y∈Ve l,Low m y
  | [],y,hy=>by cases hy
  | e::r,y,hy=>by
    rw [Ve] at hy
    rcases Bu.1 hy with rfl|h
    · exact B7 m e
    exact Zl m r y h
 end
theorem Ty {V O A B own:List AObj} (h:V++O=A++(B++own)) (hl:V.length=(A++B).length):V=A++B∧O=own:=by
 rw [←C9] at h
 exact Ur h hl
theorem Om {m:Nat} {A X:List AObj} (hA:∀x∈A,ObjLow m x) (hX:∀x∈X,ObjLow m x):∀x∈A++X,ObjLow m x:=fun x hx=>by
 rcases Eo.1 hx with h|h
 ·exact hA x h
 exact hX x h
theorem sx {P:Program} {l:Nat} {L:List (Int×Expr)} {go:Nat→Bool} {U F:Nat→List AObj} {n0 k n K:Nat} {X own V O:List AObj} {r:AV} (T:Takes P l L go U F n0) (hV:V.length=(U K++X).length) (hp:mn go U F k n (X++own) r (V++O)):
  ∃b,r=B4 b∧O=own∧(if b then (∀j,j<n→go (k+j)=true)∧V=U (k+n)++X else ∃j,j<n∧(∀i,i<j→go (k+i)=true)∧go (k+j)=false∧V=F (k+j)++X)∧((∀x∈U K++X,ObjLow V.length x)→∀x∈V,ObjLow V.length x):=by
 have hn:n0≤V.length:=by rw [hV,Ao,T.lenU];omega
 rcases hp with ⟨h1,h2,h3⟩|⟨j,hj,h1,h2,h3,h4⟩
 ·obtain ⟨e1,e2⟩:=Ty h3 (by rw [hV];simp [T.lenU])
  refine ⟨true,h2,e2,⟨h1,e1⟩,fun h=>?_⟩
  rw [e1] at h ⊢
  exact Om (fun x hx=>ObjLow.le (by rw [Ao,T.lenU];omega) (T.lowU _ x hx)) (fun x hx=>h x (T8 _ hx))
 obtain ⟨e1,e2⟩:=Ty h4 (by rw [hV];simp [T.lenU,T.lenF])
 refine ⟨false,h3,e2,⟨j,hj,h1,h2,e1⟩,fun h=>?_⟩
 rw [e1] at h ⊢
 exact Om (fun x hx=>ObjLow.le (by rw [Ao,T.lenF];omega) (T.lowF _ x hx)) (fun x hx=>h x (T8 _ hx))
theorem mo (d:Int) (l:List Expr) {x:Nat} (h:x<l.length):(Bz d (l.take (x+1))).length=(Bz d (l.take x)).length+(C3 d l[x]).length:=by rw [ml d l h,Ao]
theorem AEl {d0:Int} {e:Expr} {x:Nat} (h:x<e.kids.length) {j:Nat} {it:Int×Expr} (hj:(C3 (d0+1) e.kids[x])[j]? = some it):(C3 d0 e)[1+(Bz (d0+1) (e.kids.take x)).length+j]? = some it:=by
 rw [K7 d0 e,show 1+(Bz (d0+1) (e.kids.take x)).length+j=((Bz (d0+1) (e.kids.take x)).length+j)+1 by omega,Pf,Tx (d0+1) e.kids h,Dn (by omega)]
 rw [show (Bz (d0+1) (e.kids.take x)).length+j-(Bz (d0+1) (e.kids.take x)).length=j by omega,Dh (Ad.1 hj).1]
 exact hj
theorem zv (d0:Int) (e:Expr) {x:Nat} (h:x<e.kids.length):1+(Bz (d0+1) (e.kids.take x)).length+(C3 (d0+1) e.kids[x]).length≤(C3 d0 e).length:=by
 rw [K7 d0 e,B6,Tx (d0+1) e.kids h]
 simp only [Ao]
 omega
theorem AT9 {l:Nat} {L:List (Int×Expr)} {go:Nat→Bool} {U F:Nat→List AObj} {n0:Nat} (T:Takes Tryz.prog l L go U F n0):∀(n:Nat) (e:Expr),okE n e→∀(d0:Int) (k0:Nat) (X:List AObj),0≤d0→d0+n≤1099511627776→(∀(j:Nat) (it:Int×Expr),(C3 d0 e)[j]? = some it→L[k0+j]? = some it)→(∀j,j<k0→go j=true)→ACall Tryz.prog 110 [Ab e,A5 d0,.yield l] (U k0++X) (mn go U F k0 (C3 d0 e).length X):=by
 intro n
 induction n with
 | zero=>exact fun e h=>h.elim
 | succ n ih =>
 intro e hok d0 k0 X hd hdn hit hgo
 have hlen0:(U k0++X).length=n0+X.length:=by rw [Ao,T.lenU]
 refine Ah [.tmp 6] [0,1,2] Tryz.func110 Tryz.ntmps110 (fun d=>?_)
 refine Z1 ?_;refine A2 [1,2,3] ?_;refine Z33 ?_
 refine R.yield0 (T.y X k0 (d0,e) (hit 0 _ (by rw [K7];rfl)) hgo) ?_
 intro b Vv hV hb
 refine A4 ?_;refine A2 [1,2,3,13] ?_
 refine A3 (fun ht13=>?_) (fun ht13=>?_)
 ·have hb':b=false:=by simpa using ht13
  subst hb'
  refine Z2 ?_;refine iy ?_;exact A8 (Ae A7) (Or.inr ⟨0,by rw [K7];simp,fun i hi=>by omega,hb.1.symm,rfl,by have:=hb.2;rw [show go k0=false from hb.1.symm] at this;exact this⟩)
 have hb':b=true:=by simpa using ht13
 subst hb'
 have hgo0:go (k0+0)=true:=hb.1.symm
 have hVe:Vv=U (k0+1)++X:=by have:=hb.2;rw [show go k0=true from hb.1.symm] at this;exact this
 subst hVe
 have h0x:0≤e.kids.length∧∀j,j<1+(Bz (d0+1) (e.kids.take 0)).length→go (k0+j)=true:=⟨Ap _,fun j hj=>by
  have:j=0:=by simp [Bz] at hj;omega
  subst this
  exact hgo0⟩
 refine ma ?_;refine A2 [1,2,15,16,17] ?_
 refine Az (α:=Nat) (fun x=>⟨28,A6 1 (A5 d0) (A6 2 (.yield l) (A6 15 (.slice false 6 (e.kids.map Ab)) (A6 16 (A5 e.kids.length) (A6 17 (A5 (x:Nat)) (fun _=>.any))))),U (k0+(1+(Bz (d0+1) (e.kids.take x)).length))++X,[],[],none⟩) (fun x=>x≤e.kids.length∧∀j,j<1+(Bz (d0+1) (e.kids.take x)).length→go (k0+j)=true) (fun x=>e.kids.length-x) (0) h0x (B2 (by simp [Bz])) rfl (fun x hx=>?_)
 refine Z2 ?_;refine A2 [1,2,15,16,17,18] ?_
 refine Ej (fun ht18=>?_) (fun ht18=>?_)
 ·have hlt:x<e.kids.length:=by simpa using ht18
  have hkl:=hok.2.1
  refine X6 ?_
  refine A4 (h:=Ac (x) (Ab e.kids[x]) (fun _=>Aw hlt)) (hr:=?_)
  refine X9 ?_;refine A2 [1,2,8,15,16,17] ?_;refine Z25 ?_
  refine R.callG Tryz.call110 (args:=[Ab e.kids[x],A5 (d0+1),.yield l]) (by rw [C9];exact ih e.kids[x] (hok.2.2 _ (Av hlt)) (d0+1) (k0+(1+(Bz (d0+1) (e.kids.take x)).length)) (X++_) (by omega) (by omega) (fun j it hj=>by have:=hit _ it (AEl hlt hj);rwa [←Ll] at this) (fun j hj=>by rcases Be j k0 with h|h;exact hgo j h;have:=hx.2 (j-k0) (by omega);rwa [show k0+(j-k0)=j by omega] at this)) ?_
  intro r Vv O hV hp
  obtain ⟨b,rfl,rfl,hc,hlowV⟩:=sx T hV hp
  refine ⟨hlowV,fun o ho=>by simp at ho,?_⟩
  refine A4 ?_;refine A2 [1,2,15,16,17,26] ?_
  refine A3 (fun ht26=>?_) (fun ht26=>?_)
  ·have hb':b=false:=by simpa using ht26
   subst hb'
   obtain ⟨j,hj,h1,h2,h3⟩:=hc
   refine Z2 ?_;refine A2 [6] ?_;refine Tp ?_
   have hil:=zv d0 e hlt
   refine A8 (Ae A7) (Or.inr ⟨1+(Bz (d0+1) (e.kids.take x)).length+j,by omega,fun i hi=>?_,by rwa [Ll] at h2,rfl,by rwa [Ll] at h3⟩)
   rcases Be i (1+(Bz (d0+1) (e.kids.take x)).length) with h|h
   ·exact hx.2 i h
   have:=h1 (i-(1+(Bz (d0+1) (e.kids.take x)).length)) (by omega)
   rwa [show k0+(1+(Bz (d0+1) (e.kids.take x)).length)+(i-(1+(Bz (d0+1) (e.kids.take x)).length))=k0+i by omega] at this
  have hb':b=true:=by simpa using ht26
  subst hb'
  obtain ⟨h1,h3⟩:=hc
  refine Nm ?_;refine A2 [1,2,15,16,17] ?_
  subst h3
  have hll:=mo (d0+1) e.kids hlt
  have e1:k0+(1+(Bz (d0+1) (e.kids.take (x+1))).length)=k0+(1+(Bz (d0+1) (e.kids.take x)).length)+(C3 (d0+1) e.kids[x]).length:=by omega
  refine Ay (x+1) ⟨hlt,fun j hj=>?_⟩ (by omega) ?_
  ·rcases Be j (1+(Bz (d0+1) (e.kids.take x)).length) with h|h
   ·exact hx.2 j h
   have:=h1 (j-(1+(Bz (d0+1) (e.kids.take x)).length)) (by omega)
   rwa [show k0+(1+(Bz (d0+1) (e.kids.take x)).length)+(j-(1+(Bz (d0+1) (e.kids.take x)).length))=k0+j by omega] at this
  simp only [e1]
  exact Dq (own:=[]) (fun _=>.refl _) (by repeat (first|exact Bq|refine Bp (by first|(simp [B7];done)|(have:=T.lt;simp [T.lenU];omega)) ?_)) (by simp) (by simp)
 have hxe:e.kids.take x=e.kids:=D9 (by simp at ht18;omega)
 refine Ts ?_;refine r8 ?_
 have hl2:(C3 d0 e).length=1+(Bz (d0+1) (e.kids.take x)).length:=by rw [K7,hxe,B6];omega
 exact A8 (Ae A7) (Or.inl ⟨fun j hj=>hx.2 j (by omega),rfl,by rw [hl2]⟩)

def Vg:=@ObjLow.le
abbrev Dz (e:Expr):List AV:=[.v (.int .i64 e.op),.v (sv e.text),.v (.int .i64 e.val.kind),.v (.int .i64 e.val.n),.v (sv e.val.s),.slice false 6 (e.kids.map Ab)]
/-- What taking all of a tree comes to. -/
def Nv (go:Nat→Bool) (U F:Nat→List AObj) (n:Nat) (H':List AObj):Prop:=
 ((∀j,j<n→go j=true)∧H'=U n)∨(∃j,j<n∧(∀i,i<j→go i=true)∧go j=false∧H'=F j)
theorem AMs {l:Nat} {e:Expr} {go:Nat→Bool} {U F:Nat→List AObj} {n0:Nat} (T:Takes Tryz.prog l (C3 1 e) go U F n0) (n:Nat) (hok:okE n e) (hn:n≤1048576):ACall Tryz.prog 109 [.yield l,.ro (Dz e)] (U 0) (fun r H'=>Nv go U F (C3 1 e).length H'):=by
 refine Ah [] [0,1] Tryz.func109 Tryz.ntmps109 (fun d=>?_)
 refine Z31 ?_;refine R.callG Tryz.call110 (args:=[Ab e,A5 1,.yield l]) (AT9 T n e hok 1 0 [] (by omega) (by omega) (fun j it hj=>by rwa [Bl]) (fun j hj=>by omega)) ?_
 intro r Vv O hV hp
 have hO:O=[]:=by
  have h1:(Vv++O).length=n0:=by rcases hp with ⟨_,_,h⟩|⟨j,_,_,_,_,h⟩<;>rw [h]<;>simp [T.lenU,T.lenF]
  have h2:=T.lenU 0
  rw [Ao,hV,h2] at h1
  exact Pd (by omega)
 subst hO
 rw [Ht] at hp
 have hq:Nv go U F (C3 1 e).length Vv:=by
  rcases hp with ⟨h1,_,h⟩|⟨j,h1,h2,h3,_,h⟩
  ·exact .inl ⟨fun j hj=>by have:=h1 j hj;rwa [Bl] at this,by rw [h];simp⟩
  exact .inr ⟨j,h1,fun i hi=>by have:=h2 i hi;rwa [Bl] at this,by rwa [Bl] at h3,by rw [h];simp⟩
 refine ⟨fun h=>?_,fun o ho=>by simp at ho,?_⟩
 ·rcases hq with ⟨_,h⟩|⟨j,_,_,_,h⟩<;>rw [h]
  ·rw [T.lenU];exact T.lowU _
  rw [T.lenF];exact T.lowF _
 refine A2 [] ?_;exact Gn .nores (hp:=hq)

theorem c88 (e:Expr) (Hp:List AObj):AFun Tryz.prog 88 [Ab e] Hp (.fn (.func 109) [] [.ro (Dz e)]):=by
 refine Ah [.tmp 2] [0] Tryz.func88 Tryz.ntmps88 (fun d=>?_)
 refine Pv ?_;refine Ec ?_;refine ADh ?_;refine Z3 ?_;exact A8 (Ae A7) (hlow:=by have:=B7 Hp.length e;rw [Ax] at this;simpa using this)

def goM (e:Expr) (k:Nat):Bool:=match (C3 1 e)[k]? with
 | some it => !((!E9 it.2 || decide ((30:Int)<it.1)) || decide ((300:Int)<(k:Int)+1))
 | none=>true
def Bk (e:Expr):Bool:=(List.range (C3 1 e).length).all (goM e)
mutual
theorem ee:∀(n:Nat) (e:Expr),okE n e→∀d,∀it∈C3 d e,it.2.text.length≤1048576
 | 0,_,h,_,_,_=>h.elim
 | n+1,e,h,d,it,hit=>by
  rw [K7] at hit
  rcases Bu.1 hit with rfl|h'
  ·exact h.1
  exact ef n e.kids h.2.2 (d+1) it h'
 termination_by n e=>(n,0)
theorem ef:∀(n:Nat) (l:List Expr),(∀y∈l,okE n y)→∀d,∀it∈Bz d l,it.2.text.length≤1048576
  | n,[],_,_,_,h=>by cases h
  | n,e::r,h,d,it,hit=>by
    rw [Bz] at hit
    rcases Eo.1 hit with h'|h'
    · exact ee n e (h e (by simp)) d it h'
    exact ef n r (fun y hy=>h y (by simp [hy])) d it h'
  termination_by n l=>(n,l.length+1)
 end
theorem sy {U:List AObj} {i j:Nat} {x y:AObj} (h:U[i]? = some x) (hne:j≠i):(U.set j y)[i]? = some x:=by rw [Ed hne];exact h
theorem AMt {e:Expr} {k:Nat} {it:Int×Expr} (hit:(C3 1 e)[k]? = some it) (h:∀j,j<k→goM e j=true):(k:Int)≤300:=by
 rcases Nat.eq_zero_or_pos k with h0|h0
 ·omega
 have hl:=(Ad.1 hit).1
 have:=h (k-1) (by omega)
 unfold goM at this
 rw [Aa (by omega)] at this
 simp at this
 omega
theorem jf {e:Expr} {k:Nat} {it:Int×Expr} (hit:(C3 1 e)[k]? = some it):goM e k = !((!E9 it.2 || decide ((30:Int)<it.1)) || decide ((300:Int)<(k:Int)+1)):=by
 unfold goM;rw [hit]
theorem c59 (n:Nat) (e:Expr) (hok:okE n e) (hn:n≤1048576) (Hp:List AObj):AFun Tryz.prog 59 [Ab e] Hp (B4 (Bk e)):=by
 refine Ah [.cell 2 4] [0,4,5] Tryz.func59 Tryz.ntmps59 (fun d=>?_)
 refine Z2 ?_;refine Mj ?_;refine A2 [1,2,4,5] ?_;refine Ec ?_;refine Z20 ?_;refine A2 [1,2,3,4,5] ?_;refine Z74 ?_
 refine Pu (fun hlow=>?_)
 refine AMa ?_;refine A2 [2,3,4,5,7] ?_;refine Mi ?_
 refine Sb (m:=2) Tryz.call109 (fun FR as' bd' hFR has hbd=>?_)
 have hFRl:∀s,Low (Hp.length+4) (FR s):=by
  intro s
  rw [hFR]
  refine Uw ?_
  revert s
  repeat (first|exact Bq|refine Bp (by simp [oid,B7]<;>try omega) ?_)
 have hOl:∀{k:Nat},∀x∈[AObj.cells 4 [B4 false],AObj.cells 3 [A5 (k:Nat)],AObj.defs,AObj.loop LoopState.ready none FR 23 #[8,9] as' bd' (oid Hp.length 2)],ObjLow (Hp.length+4) x:=by
  intro k x hx
  simp only [Bu,Fi,or_false] at hx
  rcases hx with rfl|rfl|rfl|rfl
  ·exact AH1
  ·exact AH1
  ·trivial
  exact ADo
 have hOf:∀{k:Nat},∀x∈[AObj.cells 4 [B4 false],AObj.cells 3 [A5 ((k:Nat)+1)],AObj.defs,AObj.loop LoopState.done (some Code.ret) FR 23 #[8,9] as' bd' (oid Hp.length 2)],ObjLow (Hp.length+4) x:=by
  intro k x hx
  simp only [Bu,Fi,or_false] at hx
  rcases hx with rfl|rfl|rfl|rfl
  ·exact AH1
  ·exact AH1
  ·trivial
  exact ADo
 refine ⟨fun _ H'=>Nv (goM e) (fun k=>Hp++[AObj.cells 4 [B4 false],AObj.cells 3 [A5 (k:Nat)],AObj.defs,AObj.loop LoopState.ready none FR 23 #[8,9] as' bd' (oid Hp.length 2)]) (fun k=>Hp++[AObj.cells 4 [B4 false],AObj.cells 3 [A5 ((k:Nat)+1)],AObj.defs,AObj.loop LoopState.done (some Code.ret) FR 23 #[8,9] as' bd' (oid Hp.length 2)]) (C3 1 e).length H',AMs (l:=oid Hp.length 3) (go:=goM e) (U:=fun k=>Hp++[AObj.cells 4 [B4 false],AObj.cells 3 [A5 (k:Nat)],AObj.defs,AObj.loop LoopState.ready none FR 23 #[8,9] as' bd' (oid Hp.length 2)]) (F:=fun k=>Hp++[AObj.cells 4 [B4 false],AObj.cells 3 [A5 ((k:Nat)+1)],AObj.defs,AObj.loop LoopState.done (some Code.ret) FR 23 #[8,9] as' bd' (oid Hp.length 2)]) (n0:=Hp.length+4) ⟨fun k=>by simp,fun k=>by simp,fun k x hx=>?_,fun k x hx=>?_,by simp [oid],fun X k it hit hgo=>?_⟩ n hok hn,?_⟩
 ·exact ADp
 ·exact Om (fun x hx=>Vg (by omega) (hlow x hx)) hOf x hx
 ·have hk3:=AMt hit hgo
  generalize hV:(Hp++[AObj.cells 4 [B4 false],AObj.cells 3 [A5 (k:Nat)],AObj.defs,AObj.loop LoopState.ready none FR 23 #[8,9] as' bd' (oid Hp.length 2)]++X)=V
  have hL:V[oid Hp.length 3]? = some (AObj.loop LoopState.ready none FR 23 #[8,9] as' bd' (oid Hp.length 2)):=by rw [←hV,C9,C0];rfl
  have hA0:V[oid Hp.length 1]? = some (AObj.cells 3 [A5 (k:Nat)]):=by rw [←hV,C9,C0];rfl
  have hB0:V[oid Hp.length 0]? = some (AObj.cells 4 [B4 false]):=by rw [←hV,C9,C0];rfl
  refine S3 (pd:=none) (fr:=FR) (sz:=23) (ps:=#[8,9]) (df:=oid Hp.length 2) (asg:=as') (bd:=bd') hL rfl (by decide) (fun d=>?_)
  subst hFR has hbd
  refine Hh [2,3,8,9] ?_;refine Z2 ?_;refine A2 [2,3,4,9] ?_;refine Ix ?_;refine Z20 ?_;refine cp ?_
  refine ⟨rfl,none,hL,?_⟩
  generalize hbz:(AObj.loop LoopState.busy _ _ _ _ _ _ _)=bz
  have hA:(V.set (oid Hp.length 3) bz)[oid Hp.length 1]? = some (AObj.cells 3 [A5 (k:Nat)]):=by rw [Ed (Cv (by decide))];exact hA0
  have hB:(V.set (oid Hp.length 3) bz)[oid Hp.length 0]? = some (AObj.cells 4 [B4 false]):=by rw [Ed (Cv (by decide))];exact hB0
  refine Mi ?_;refine Ec ?_
  refine A4 (h:=Cm hA) (hr:=?_)
  refine A4 ?_
  refine Gm jS hA ?_ ?_
  ·simp
  refine cp ?_;refine Z2 ?_;refine A9 Tryz.call89 (c89 it.2 (ee n e hok 1 it (B3 hit)) _) ?_;refine Z44 ?_;refine Z0 ?_
  refine Bd (h:=Cm (getset hA)) (hr:=?_)
  refine Z93 ?_;refine A2 [2,22] ?_
  refine A3 (fun ht22=>?_) (fun ht22=>?_)
  ·have hgf:goM e k=false:=by rw [jf hit,ht22];rfl
   refine Ec ?_
   refine Gm jS (sy (j:=oid Hp.length 1) hB (Cv (by decide))) ?_ ?_
   ·simp
   refine A2 [] ?_;refine Dd ?_;refine Mf ?_
   subst hbz
   refine K.rdR (vj hL (Cv (by decide)) (Cv (by decide))) ?_
   refine ⟨hgf.symm,?_⟩
   rw [if_neg (by rw [hgf];simp)]
   subst hV
   simp only [C9,Hm,Fe,F5,List.set_cons_succ,List.set_cons_zero]
   try rfl
  have hgt:goM e k=true:=by rw [jf hit,ht22];rfl
  refine ADi ?_
  subst hbz
  refine K.rdN (li hL (Cv (by decide))) ?_
  refine ⟨hgt.symm,?_⟩
  rw [if_pos hgt]
  subst hV
  simp only [C9,Hm,Fe,F5,List.set_cons_succ,List.set_cons_zero]
  try rfl
 rintro r H' (⟨h1,rfl⟩|⟨j,hj,h1,h2,rfl⟩)
 ·refine ⟨Hp,_,_,_,rfl,rfl,fun h=>h,?_,rfl,by simp,?_⟩
  ·intro o ho
   have:o=oid Hp.length 2:=by simpa using ho
   subst this
   rw [C0]
   rfl
  refine Z11 ?_;refine Ec ?_;refine Z16 ?_;exact A8 (Ae (Hg jA)) ⟨by rw [show Bk e=true from B5.2 fun j hj=>h1 j (Qm.1 hj)],rfl⟩
 refine ⟨Hp,_,_,_,rfl,rfl,fun h=>h,?_,rfl,by simp,?_⟩
 ·intro o ho
  have:o=oid Hp.length 2:=by simpa using ho
  subst this
  rw [C0]
  rfl
 refine Z21 ?_;exact A8 (Ae (Hg jA)) ⟨by rw [show Bk e=false from Rv.2 ⟨j,Qm.2 hj,by rw [h2];simp⟩],rfl⟩

def Dt (s:Str):Expr:=.mk 2 s ⟨0,0,[]⟩ []
theorem mp (s:Str):Le (.agg [A5 2,Af s,A5 0,A5 0,Af [],.nil]) (Ab (Dt s)):=by
 rw [Ax]
 refine .agg _ _ rfl (by simp [AV.one,Value.oneCell',sv]) fun i y y' h1 h2=>?_
 match i with
 | 0=>simp at h1 h2;subst h1;subst h2;exact .inl rfl
 | 1=>simp at h1 h2;subst h1;subst h2;exact .inl rfl
 | 2=>simp at h1 h2;subst h1;subst h2;exact .inl rfl
 | 3=>simp at h1 h2;subst h1;subst h2;exact .inl rfl
 | 4=>simp at h1 h2;subst h1;subst h2;exact .inl rfl
 | 5=>simp at h1 h2;subst h1;subst h2;exact .inr ⟨rfl,6,rfl⟩
 | i+6=>simp at h1
theorem mq (s:Str) (h:s.length≤1048576):okE 1 (Dt s):=⟨h,by simp [Dt,Expr.kids],fun y hy=>by cases hy⟩
def Vh (c:List Col) (x:Nat) (y:Col):Bool := !(((!Bk (Dt y.name)) || (Ci y.kind==[])) || (Bn y.name c != (x:Int)))
def Tz (c:List Col):Bool:=c.zipIdx.all fun x=>Vh c x.2 x.1
theorem colsP_true {c:List Col}:Tz c=true↔∀(j:Nat) (y:Col),c[j]? = some y→Vh c j y=true:=Sg
theorem c34 (c:List Col) (hc:OkCols c) (Hp:List AObj):AFun Tryz.prog 34 [An c] Hp (B4 (Tz c)):=by
 refine Ah [.tmp 2] [0] Tryz.func34 Tryz.ntmps34 (fun d=>?_)
 refine j4 ?_;refine A2 [0,5,6,7] ?_
 refine Az (α:=Nat) (fun x=>⟨32,A6 0 (An c) (A6 5 (An c) (A6 6 (A5 c.length) (A6 7 (A5 (x:Nat)) (fun _=>.any)))),Hp,[],[],none⟩) (fun x=>x≤c.length∧∀(j:Nat) (y:Col),j<x→c[j]? = some y→Vh c j y=true) (fun x=>c.length-x) (0) (by simp) (B2 (by simp)) rfl (fun x hx=>?_)
 refine Z2 ?_;refine A2 [0,5,6,7,8] ?_
 refine Ej (fun ht8=>?_) (fun ht8=>?_)
 ·have hlt:x<c.length:=by simpa using ht8
  have hcl:=hc.len
  refine Tr ?_
  refine A4 (h:=Ac (x) (Bj c[x]) (fun _=>Aw hlt)) (hr:=?_)
  refine rl ?_;refine A2 [0,3,4,5,6,7] ?_;refine APw ?_;refine R.wk 14 _ (mp c[x].name) ?_;refine A9 Tryz.call59 (c59 1 (Dt c[x].name) (mq _ (hc.names _ (Av hlt))) (by decide) _) ?_;refine Z44 ?_;refine Bm Tryz.call60 (fun hB=>c60 c[x].kind _) ?_;refine Bd ?_;refine Z0 ?_;refine Z38 ?_;refine Bm Tryz.call46 (fun hB=>c46 c hc c[x].name _) ?_;refine Z97 ?_;refine A2 [0,5,6,7,30] ?_
  refine A3 (fun ht30=>?_) (fun ht30=>?_)
  ·refine cm ?_
   exact A8 (Ae A7) ⟨by rw [show Tz c=false from Ic.2 fun h=>by have:=colsP_true.1 h x c[x] (Aa hlt);unfold Vh at this;rw [ht30] at this;cases this],rfl⟩
  refine Nm ?_;refine A2 [0,5,6,7] ?_
  refine Ay (x+1) ⟨hlt,I1 hlt hx.2 (by unfold Vh;rw [ht30];rfl)⟩ (by omega) ?_
  exact Dq (own:=[]) (fun _=>.refl _) (by repeat (first|exact Bq|refine Bp (by simp) ?_)) (by simp) (by simp)
 refine Z26 ?_;refine Z28 ?_;exact A8 (Ae A7) ⟨by rw [colsP_true.2 (J5 (by simp at ht8;omega) hx.2)],rfl⟩

def Zm (c:List Col):Bool:=decide ((c.length:Int)≤12)&&Tz c
theorem c68 (c:List Col) (hc:OkCols c) (Hp:List AObj):AFun Tryz.prog 68 [An c] Hp (B4 (Zm c)):=by
 refine Ah [.tmp 2] [0] Tryz.func68 Tryz.ntmps68 (fun d=>?_)
 refine Z49 ?_;refine rp ?_;refine Bm Tryz.call34 (fun hB=>c34 c hc _) ?_;refine Z53 ?_;exact A8 (Ae A7) ⟨by unfold Zm;simp,rfl⟩

theorem jg (s:Str) (h:s≠[]):Lib.contains [] s=false:=by
 cases s with
 | nil=>exact absurd rfl h
 | cons a r=>rfl
theorem contains_cons (b:UInt8) (l s:Str):Lib.contains (b::l) s=(s.isPrefixOf (b::l) || Lib.contains l s):=by
 unfold Lib.contains
 have hge:=Lib.index_ge l s
 rw [Lib.index]
 by_cases hp:s.isPrefixOf (b::l)=true
 ·rw [if_pos hp,hp];rfl
 rw [if_neg hp]
 have hp':s.isPrefixOf (b::l)=false:=Ic.2 hp
 rw [hp',C7]
 by_cases hi:Lib.index l s = -1
 ·rw [hi];rfl
 have:(Lib.index l s == -1)=false:=by simpa using hi
 rw [this,if_neg (by simp)]
 rw [decide_eq_decide]
 omega
/-- Words between blanks. -/
def Q0:List Str→Str
 | []=>[32]
 | w::r=>32::(w++Q0 r)
theorem eg (sub:Str):∀(w R:Str),(32:UInt8)∉w→Lib.contains (w++R) (32::sub)=Lib.contains R (32::sub)
 | [],R,_=>rfl
 | b::w,R,h=>by
  have hb:b≠32:=fun e=>h (by simp [e])
  rw [Fe,contains_cons,eg sub w R (fun hm=>h (by simp [hm]))]
  have:(32::sub).isPrefixOf (b::(w++R))=false:=by
   simp [List.isPrefixOf,Ne.symm hb]
  rw [this,C7]
theorem Wj:∀(s w:Str) (R:Str),(32:UInt8)∉s→(32:UInt8)∉w→(s++[32]).isPrefixOf (w++32::R)=(s==w)
 | [],[],R,_,_=>by simp [List.isPrefixOf]
 | [],b::w,R,_,hw=>by
  have hb:(32:UInt8)≠b:=fun e=>hw (by simp [e])
  simp [List.isPrefixOf,hb]
 | a::s,[],R,hs,_=>by
  have hb:a≠(32:UInt8):=fun e=>hs (by simp [e])
  simp [List.isPrefixOf,hb]
 | a::s,b::w,R,hs,hw=>by
  have ih:=Wj s w R (fun h=>hs (by simp [h])) (fun h=>hw (by simp [h]))
  rw [Fe,Fe,List.isPrefixOf,ih]
  rfl
theorem mr:∀ws,∃R,Q0 ws=32::R
 | []=>⟨[],rfl⟩
 | w::r=>⟨_,rfl⟩
theorem Mn (s:Str) (hs:(32:UInt8)∉s):∀(ws:List Str),(∀w∈ws,(32:UInt8)∉w)→Lib.contains (Q0 ws) ([32]++s++[32])=ws.any (·==s)
 | [],_=>by
  rw [Q0,contains_cons,jg _ (by simp),Ky]
  cases s<;>simp [List.isPrefixOf]
 | w::r,h=>by
  have hw:=h w (by simp)
  obtain ⟨R,hR⟩:=mr r
  have ih:=Mn s hs r (fun x hx=>h x (by simp [hx]))
  have e1:([32]++s++[32]:Str)=32::(s++[32]):=rfl
  rw [Q0,contains_cons,e1,eg _ w _ hw,←e1,ih,List.any_cons]
  congr 1
  rw [e1,hR]
  have:=Wj s w R hs hw
  rw [List.isPrefixOf,this]
  simp only [beq_self_eq_true,Dm]
  by_cases hsw:s=w
  ·subst hsw;rfl
  rw [beq_eq_false_iff_ne.2 hsw,beq_eq_false_iff_ne.2 (Ne.symm hsw)]
theorem d7:Ok=Q0 words:=by kernel_rfl
theorem mt:∀w∈words,(32:UInt8)∉w:=by decide
theorem mu (s:Str):Lib.contains s [32]=s.contains 32:=by
 induction s with
 | nil=>rfl
 | cons b l ih =>
  rw [contains_cons,ih,List.contains_cons]
  congr 1
  simp [List.isPrefixOf]
theorem Zn (s:Str) (h1:s≠[]) (h2:(32:UInt8)∉s):I6 s=K4 s:=by
 unfold I6
 rw [mu,d7,Mn s h2 words mt]
 have e1:(s==[])=false:=by simpa using h1
 have e2:s.contains 32=false:=by simpa using h2
 rw [e1,e2]
 rfl
set_option maxRecDepth 8000
theorem AEm {p:UInt8→Bool} (h:((List.range 256).all fun n=>p (UInt8.ofNat n))=true) (c:UInt8):p c=true:=by
 have:=B5.1 h c.toNat (Qm.2 c.toNat_lt)
 simpa using this
theorem t4 (c:UInt8):tails.contains c=Nq c:=by
 have:=AEm (p:=fun c=>tails.contains c==Nq c) (by kernel_rfl) c
 simpa using this
theorem jh (c:UInt8):letters.contains c=I5 c:=by
 have:=AEm (p:=fun c=>letters.contains c==I5 c) (by kernel_rfl) c
 simpa using this
theorem t6:Nq 32=false:=by kernel_rfl
theorem vq (s of:Str):(Tv s of==(s.length:Int))=s.all (of.contains ·):=by
 unfold Tv Lib.trimLeftS
 induction s with
 | nil=>rfl
 | cons c r ih =>
  rw [Ut,List.all_cons]
  cases hc:of.contains c with
  | true =>
   simp only [if_true,Dm]
   rw [←ih,N9]
   have:=(qd (fun x=>of.contains x) (l:=r)).length_le
   simp only [beq_iff_eq,B6]
   omega
  | false =>
   simp only [Ag,if_false,Ey]
   rw [beq_eq_false_iff_ne]
   simp only [B6]
   omega
theorem Gy (s:Str):Dg s=Nr s:=by
 cases s with
 | nil=>rfl
 | cons c r =>
  unfold Dg
  rw [vq]
  have e1:((c::r).all fun x=>tails.contains x)=(c::r).all Nq:=by
   congr 1
   funext x
   exact t4 x
  have e2:(Tv ((c::r).take 1) letters==1)=I5 c:=by
   have:=vq [c] letters
   rw [←jh c]
   simpa using this
  rw [e1,e2]
  have e3:((c::r:Str)==[])=false:=rfl
  have e4:decide (((c::r).length:Int)≤16)=decide ((c::r).length≤16):=by
   rw [decide_eq_decide];omega
  rw [e3,e4]
  show _=(decide ((c::r).length≤16)&&I5 c && !K4 (c::r)&&(c::r).all Nq)
  cases ha:(c::r).all Nq with
  | false=>simp
  | true =>
   have hb:(32:UInt8)∉(c::r):=fun hm=>by
    have:=B5.1 ha 32 hm
    rw [t6] at this
    cases this
   rw [Zn _ (by simp) hb]
   simp
theorem t7 (s:Str):Bk (Dt s)=Nr s:=by
 have e:C3 1 (Dt s)=[(1,Dt s)]:=by rw [K7];rfl
 unfold Bk
 rw [e]
 show ((List.range 1).all (goM (Dt s)))=_
 have g:goM (Dt s) 0=E9 (Dt s):=by
  unfold goM
  rw [e]
  simp
 simp only [gy,List.range_zero,F5,List.all_cons,List.all_nil,Pc]
 rw [g,←Gy]
 simp [E9,Dt,Expr.op,Expr.val,Expr.text,Expr.kids,Nu]
theorem ji (k:Int):(Ci k==[])=(decide (k<1) || decide ((3:Int)<k)):=by
 unfold Ci
 by_cases h:k<1∨3<k
 ·rw [if_pos h]
  have:(decide (k<1) || decide ((3:Int)<k))=true:=by simpa using h
  rw [this];rfl
 rw [if_neg h]
 have:(decide (k<1) || decide ((3:Int)<k))=false:=by simp;omega
 rw [this]
 have hk:k=1∨k=2∨k=3:=by omega
 rcases hk with rfl|rfl|rfl<;>rfl
theorem N6 (c:List Col):Tz c=H5 c:=by
 unfold Tz H5
 congr 1
 funext x
 unfold Vh Tu
 rw [t7,ji,←Bool.or_assoc (!Nr x.1.name)]
theorem Nw (c:List Col):Zm c=D8 c:=by unfold Zm D8;rw [N6]
set_option maxRecDepth 4000
def Aq (l:List Tok) (i:Nat):Tok:=l.getD i ⟨0,[],0⟩
theorem Zo {l:List Tok} {i:Nat} (h:i<l.length):(l.map Mm)[i]? = some (Mm (Aq l i)):=by
 rw [Ce,Aa h]
 unfold Aq
 rw [D4,Aa h]
 rfl
end Go.SX.Nb
