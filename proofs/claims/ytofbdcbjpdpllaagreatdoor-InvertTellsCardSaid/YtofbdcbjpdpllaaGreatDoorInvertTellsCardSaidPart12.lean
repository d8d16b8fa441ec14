/- On the way (part 12). -/
import Derived.Test.YtofbdcbjpdpllaaGreatDoorInvertTellsCardSaidPart11
set_option linter.all false
namespace Go.SX.Nb
open Go Go.SX Go.Proofs
variable [ErrAt]
set_option maxRecDepth 4000
abbrev pmO (L:List Tok) (i:Nat):AObj:=.cells 144 [rr L,A5 (i:Int)]
/-! Where the parser of moves comes to. -/
/-- The parser's object and the move's, turned. -/
def U2 (L:List Tok) (Hp:List AObj) (o om i:Nat) (x:AObj):List AObj:=(Hp.set o (pmO L i)).set om x
theorem AMq {L:List Tok} {Hp:List AObj} {o om i:Nat} {x:AObj}:(U2 L Hp o om i x).length=Hp.length:=by simp [U2]
section
variable {L:List Tok} {o om bp bm:Nat} {X:List AObj} {z z':AObj}
end
attribute [go_sem] AMq
section
variable {L:List Tok} {m:Mov} {i:Nat}
end
/-! How long plan.Text's pieces are. -/
section
variable {O X U:List AObj} {i:Nat} {b y:AObj}
end
theorem AF2 {c:List Col} (h:O4 c=false):c.length≤1000000:=by
 unfold O4 at h
 simp only [Df,decide_eq_false_iff_not] at h
 omega
/-! fuse: the chapter's example, and the weight of trees. -/
/-! ref21.Over: names that nothing has stand between. -/
/-! How great the trees of ref21.Over are on the way. -/
/-! ImageJoins: rows forth and back, move by move. -/
/-! Columns of parts of moves. -/
/-! A row that went forth through a move comes back through it, where the trees back come to what was taken. -/
set_option maxRecDepth 8000
/-! invert.Move, and InvertFaithful: forth and back. -/
abbrev mvZ:Mov:=⟨0,[],[],[],[]⟩
abbrev mvI (nm:Str) (k:Int) (x y:Expr):Mov:=⟨6,[nm],[⟨nm,k⟩],[x],[y]⟩
/-- invert.Move. -/
def Fa (c:List Col) (nm:Str) (k:Int) (x:Expr):Mov×Int:=
 if !Ew c then (mvZ,1) else if C6 nm c<0 then (mvZ,9) else match ofI x nm nm with
 | none=>(mvZ,14)
 | some y=>if (H2 c [mvI nm k x y]).2 != 0 then (mvZ,(H2 c [mvI nm k x y]).2) else (mvI nm k x y,0)
set_option maxRecDepth 4000
section
variable {c:List Col} {nm:Str} {k:Int} {x:Expr}
theorem ARj (h:(!Np c)=true):Fa c nm k x=(mvZ,1):=by rw [Hh] at h;exact if_pos h
theorem ARk (h:(!Np c)=false) (h2:decide (C6 nm c<0)=true):Fa c nm k x=(mvZ,9):=by
 rw [Hh] at h
 unfold Fa
 rw [if_neg (by rw [h];simp),if_pos (by simpa using h2)]
theorem ARl (h:(!Np c)=false) (h2:decide (C6 nm c<0)=false) (h3:ofI x nm nm=none):Fa c nm k x=(mvZ,14):=by
 rw [Hh] at h
 unfold Fa
 rw [if_neg (by rw [h];simp),if_neg (by simpa using h2),h3]
theorem AW7 (h:(!Np c)=false) (h2:decide (C6 nm c<0)=false) {y:Expr} (h3:ofI x nm nm=some y) (h4:((H2 c [mvI nm k x y]).2 != 0)=true):Fa c nm k x=(mvZ,(H2 c [mvI nm k x y]).2):=by
 rw [Hh] at h
 unfold Fa
 rw [if_neg (by rw [h];simp),if_neg (by simpa using h2),h3]
 simp only
 rw [if_pos h4]
theorem AW8 (h:(!Np c)=false) (h2:decide (C6 nm c<0)=false) {y:Expr} (h3:ofI x nm nm=some y) (h4:((H2 c [mvI nm k x y]).2 != 0)=false):Fa c nm k x=(mvI nm k x y,0):=by
 rw [Hh] at h
 unfold Fa
 rw [if_neg (by rw [h];simp),if_neg (by simpa using h2),h3]
 simp only
 rw [if_neg (by rw [h4];simp)]
theorem mp {x:Expr} (h:Ar x=true) (hg:Bq Cw x=true):OkEs [x]:=by
 have:=F6 (e:=x) (by rw [←C4];exact h)
 exact ⟨by simp,fun e he=>by rw [Br.1 he];exact Fo (by decide) this.1,fun e he=>by rw [Br.1 he];omega,fun e he=>by rw [Br.1 he];exact hg⟩
theorem qz {y:Expr} (hn:nm.length≤1048576) (hx:Ar x=true) (hg:Bq Cw x=true) (hy:Ar y=true) (hgy:Bq Cw y=true):OkMovs [mvI nm k x y]:=
 ⟨by simp,fun m hm=>by
  rw [Br.1 hm]
  exact ⟨by simp,fun s hs=>by rw [Br.1 hs];exact hn,⟨by simp,fun z hz=>by rw [Br.1 hz];exact hn⟩,by simp,mp hx hg,mp hy hgy⟩⟩
theorem AF3 (hn:nm.length≤1048576) (hg:Bq Cw x=true) (h:(Fa c nm k x).2=0):OkMovs [(Fa c nm k x).1]:=by
 unfold Fa at h ⊢
 split at h
 ·cases h
 rename_i h1
 rw [if_neg h1]
 split at h
 ·cases h
 rename_i h2
 rw [if_neg h2]
 cases hO:ofI x nm nm with
 | none=>rw [hO] at h;cases h
 | some y =>
  rw [hO] at h
  simp only at h ⊢
  obtain ⟨a,b,e⟩:=Tp hg hO
  by_cases h3:((H2 c [mvI nm k x y]).2 != 0)=true
  ·rw [if_pos h3] at h
   rw [show (H2 c [mvI nm k x y]).2=0 from h] at h3
   cases h3
  rw [if_neg h3]
  exact qz hn a hg b e
theorem AJo (x:Expr):Jp [x]=.slice false 6 [.agg (B7 x)]:=by rw [Jp,Ci,Fs,Af]
theorem Tq:Le (.agg [A5 0,.nil,.nil,.nil,.nil]) (Ir mvZ):=by
 refine .agg _ _ rfl (by simp [AV.one,Value.oneCell',sv]) fun i y y' h1 h2=>?_
 match i with
 | 0=>simp at h1 h2;subst h1;subst h2;exact .inl rfl
 | 1=>simp at h1 h2;subst h1;subst h2;exact .inr ⟨rfl,1,rfl⟩
 | 2=>simp at h1 h2;subst h1;subst h2;exact .inr ⟨rfl,2,rfl⟩
 | 3=>simp at h1 h2;subst h1;subst h2;exact .inr ⟨rfl,6,rfl⟩
 | 4=>simp at h1 h2;subst h1;subst h2;exact .inr ⟨rfl,6,rfl⟩
 | i+5=>simp at h1
end
abbrev mvX (nm:Str) (k:Int) (x y:Expr):AV:=.agg [A5 6,En [nm],B0 [⟨nm,k⟩],.slice false 6 [.agg (B7 x)],.slice false 6 [.agg (B7 y)]]
theorem ie (nm:Str) (k:Int) (x y:Expr):Ir (mvI nm k x y)=mvX nm k x y:=by
 show AV.agg [_,_,_,Jp [x],Jp [y]]=_
 rw [AJo,AJo]
theorem ARm (c:List Col) (hc:OkCols c) (hc2:c.length≤1000000) (nm:Str) (k:Int) (x y:Expr) (h:OkMovs [mvI nm k x y]) (Hp:List AObj):AFun Tryz.prog 59 [B0 c,.slice false 5 [mvX nm k x y]] Hp (.tup [A5 (H2 c [mvI nm k x y]).1,A5 (H2 c [mvI nm k x y]).2]):=by
 have:=c59 c hc hc2 [mvI nm k x y] h Hp
 rwa [Gi,Ci,Fs,ie] at this
theorem c23 (c:List Col) (hc:OkCols c) (hc2:c.length≤1000000) (nm:Str) (hnm:nm.length≤1048576) (k:Int) (n:Nat) (x:Expr) (hok:okE n x) (hn:n≤1048576) (hg:Bq Cw x=true) (Hp:List AObj):AFun Tryz.prog 23 [B0 c,Ac nm,A5 k,Ab x] Hp (.tup [Ir (Fa c nm k x).1,A5 (Fa c nm k x).2]):=by
 refine Aj [.cell 8 48,.tmp 9] [0,1,2,3] Tryz.func23 Tryz.ntmps23 (fun d=>?_)
 refine j8 ?_;refine A2 [0,1,2,7,8] ?_;refine Z25 ?_;refine A9 Tryz.call57 (c57 c hc _) ?_;refine A4 ?_;refine A2 [0,1,2,7,8,17] ?_
 refine A3 (fun ht17=>?_) (fun ht17=>?_)
 ·have hm:=ARj (nm:=nm) (k:=k) (x:=x) ht17
  refine AFg ?_;refine D7 18 _ Tq ?_;exact AG3
 refine Re ?_;refine A9 Tryz.call58 (c58 c hc nm _) ?_;refine A4 ?_;refine A2 [0,1,2,7,8,22] ?_
 refine A3 (fun ht22=>?_) (fun ht22=>?_)
 ·have hm:=ARk (k:=k) (x:=x) ht17 ht22
  refine AFg ?_;refine D7 23 _ Tq ?_;exact AG3
 refine Nl ?_;refine A9 Tryz.call14 (c14 n x hok hn hg nm nm hnm hnm _) ?_;refine Z94 ?_;refine A2 [0,1,2,7,8,10,11] ?_;refine Z8 ?_;refine A2 [0,1,2,7,8,10,32] ?_
 refine A3 (fun ht32=>?_) (fun ht32=>?_)
 ·have hm:=ARl (k:=k) ht17 ht22 (Pe (by simpa using ht32))
  refine AFg ?_;refine D7 33 _ Tq ?_;exact AG3
 have hO:=Pd (show (ofI x nm nm).isSome=true by simpa using ht32)
 obtain ⟨hrx,hry,hyg⟩:=Tp hg hO
 have hM:=qz (k:=k) hnm hrx hg hry hyg
 refine Z58 ?_;refine Wi ?_;refine Z0 ?_;refine jm ?_;refine AFw ?_;refine AFw ?_;refine ANs ?_;refine Z17 ?_;refine A2 [0,8,12] ?_;refine Z8 ?_;refine Wi ?_;refine A9 Tryz.call59 (ARm c hc hc2 nm k x ((ofI x nm nm).getD A6) hM _) ?_;refine L9 ?_;refine A2 [8,12,14] ?_;refine Z1 ?_;refine A2 [8,12,14,53] ?_
 refine A3 (fun ht53=>?_) (fun ht53=>?_)
 ·have hm:=AW7 ht17 ht22 hO ht53
  refine AFg ?_;refine D7 54 _ Tq ?_;refine A4 ?_;exact AG3
 have hm:=AW8 ht17 ht22 hO ht53
 refine Z58 ?_;refine Z6 ?_;refine A2 [8,9] ?_;refine Fg ?_;exact A8 (As (Ap jA jS) A7) ⟨by rw [hm];show _=AV.tup [Ir (mvI nm k x ((ofI x nm nm).getD A6)),A5 0];rw [ie];rfl,rfl⟩ (hlow:=by simp [or_imp,forall_and,Ag])

theorem AMr {C:Bool} {x y:AV} (h:Le x y):Le (gAV C x) (gAV C y):=by
 cases C
 ·exact .refl _
 exact h
abbrev AW9 (nm:Str) (k:Int) (x y:Expr):List AV:=[A5 6,En [nm],B0 [⟨nm,k⟩],.slice false 6 [.agg (B7 x)],.slice false 6 [.agg (B7 y)]]
theorem ARn (c:List Col) (hc:OkCols c) (nm:Str) (k:Int) (x y:Expr) (h:OkMovs [mvI nm k x y]) (Hp:List AObj):AFun Tryz.prog 26 [B0 c,.slice false 5 [mvX nm k x y]] Hp (.tup [AE4 (Lm c [mvI nm k x y]).1,A5 (Lm c [mvI nm k x y]).2]):=by
 have:=c26 c hc [mvI nm k x y] h Hp
 rwa [Gi,Ci,Fs,ie] at this
theorem ARo (m:Mov) (h:OkMovs [m]) (nm:Str) (k:Int) (x y:Expr) (Hp:List AObj):AFun Tryz.prog 27 [Gi [m],.slice false 5 [mvX nm k x y]] Hp (At (Qq [m] [mvI nm k x y])):=by
 have:=c27 [m] [mvI nm k x y] h Hp
 rw [←ie]
 exact this
theorem AMs:OkMovs [mvZ]:=⟨by decide,fun m hm=>by
 rw [Br.1 hm]
 exact ⟨by decide,fun s h=>by simp at h,⟨by decide,fun y h=>by simp at h⟩,by decide,⟨by decide,fun e h=>by simp at h,fun e h=>by simp at h,fun e h=>by simp at h⟩,⟨by decide,fun e h=>by simp at h,fun e h=>by simp at h,fun e h=>by simp at h⟩⟩⟩
theorem AF4 {c:List Col} {l:List Mov}:(H2 c l).2=(Lm c l).2:=by unfold H2 Lm;split<;>rfl
theorem AJ0 {c:List Col} {nm:Str} {k:Int} {x y:Expr} (h:(!Ew c)=false) (h2:decide (C6 nm c<0)=false) (hO:ofI x nm nm=some y):(Fa c nm k x).2=(Lm c [mvI nm k x y]).2:=by
 rw [←AF4]
 unfold Fa
 rw [if_neg (by rw [h];simp),if_neg (by simpa using h2),hO]
 simp only
 split
 ·rfl
 rename_i h3;simp at h3;exact h3.symm
theorem AF5 {c:List Col} {nm:Str} {k:Int} {x:Expr} (h:(Fa c nm k x).2≠0):(Fa c nm k x).1=mvZ:=by
 unfold Fa at h ⊢
 repeat' split
 all_goals first|rfl|skip
 all_goals simp_all
theorem AJ1 {c:List Col} {nm:Str} {k:Int} {x:Expr} (h:(Fa c nm k x).2=0):(Fa c nm k x).1=mvI nm k x ((ofI x nm nm).getD A6):=by
 unfold Fa at h ⊢
 repeat' split
 all_goals simp_all
theorem AJ2 {x:Expr} (gx:Bq Cw x=true) (a b:Str):okE 30 ((ofI x a b).getD A6)∧sizeE ((ofI x a b).getD A6)≤300∧((ofI x a b).isSome=true→Ax ((ofI x a b).getD A6)=true):=by
 cases hO:ofI x a b with
 | none=>exact ⟨Lh (by decide),by decide,fun h=>by cases h⟩
 | some y =>
  obtain ⟨_,hry,_⟩:=Tp gx hO
  rw [C4] at hry
  exact ⟨(F6 hry).1,(F6 hry).2,fun _=>hry⟩
theorem c19 (n:Nat) (x:Expr) (hok:okE n x) (hn:n≤1048576) (hs:sizeE x≤1048576) (hg:Bq Cw x=true) (a b:Str) (ha:a.length≤1048576) (hb:b.length≤1048576) (Hp:List AObj):AFun Tryz.prog 19 [Ab x,Ac a,Ac b] Hp (.tup [Ab ((ofI x a b).getD A6),At (ofI x a b).isSome]):=by
 refine Aj [.cell 6 26,.tmp 7] [0,1,2] Tryz.func19 Tryz.ntmps19 (fun d=>?_)
 refine j8 ?_;refine A2 [1,2,3,6] ?_;refine Z25 ?_;refine A9 Tryz.call22 (c22 n x hok hn hs _) ?_;refine Wf ?_;refine Bk Tryz.call52 (fun hB=>c52 a ha _) ?_;refine wc ?_;refine Bk Tryz.call52 (fun hB=>c52 b hb _) ?_;refine Z92 ?_;refine A2 [1,2,3,6,22] ?_
 refine A3 (fun ht22=>?_) (fun ht22=>?_)
 ·have hm:ofI x a b=none:=by unfold ofI;rw [C4];exact if_pos ht22
  refine Z19 ?_;refine D7 23 _ Du ?_;exact AN0
 have hm0:=AHg hg ht22
 have hR:(Ax x=true∧Hg a=true)∧Hg b=true:=by simpa using ht22
 have hbr:Ax (Bh b)=true:=by rw [←C4,Nq];exact hR.2
 refine Nl ?_;refine Wh ?_;refine D7 28 _ (K6 2 b noV) ?_;refine A9 Tryz.call53 (c53 a ha (sizeE x) x (Bh b) (Ao _) hR.1.1 hg (YOk.of hbr) _) ?_;refine Z94 ?_;refine A2 [6,8,9] ?_;refine Z8 ?_;refine A2 [6,8,33] ?_
 refine A3 (fun ht33=>?_) (fun ht33=>?_)
 ·have hm:=hm0.trans (if_neg (by simpa using ht33))
  refine Z19 ?_;refine D7 34 _ Du ?_;exact AN0
 have hm:=hm0.trans (if_pos (by simpa using ht33))
 refine Z58 ?_;refine jb ?_;exact APs

theorem c21 (n:Nat) (x:Expr) (hok:okE n x) (hn:n≤1048576) (hg:Bq Cw x=true) (a:Str) (ha:a.length≤1048576) (Hp:List AObj):AFun Tryz.prog 21 [Ab x,Ac a] Hp (At (ofI x a a).isSome):=by
 refine Aj [.tmp 4] [0,1] Tryz.func21 Tryz.ntmps21 (fun d=>?_)
 refine Z1 ?_;refine A2 [1,2] ?_;refine Z14 ?_;refine A9 Tryz.call14 (c14 n x hok hn hg a a ha ha _) ?_;refine Z94 ?_;refine A2 [6] ?_;refine Z1 ?_;exact nt

set_option maxHeartbeats 1000000 in
theorem c5 (x:Expr) (gx:Bq Cw x=true) (a b:Str) (c:List Col) (k:Int) (Hp:List AObj):AFun Tryz.prog 5 [Ab x,Ac a,Ac b,B0 c,A5 k] Hp (At true):=by
 refine Aj [.tmp 10] [0,1,2,3,4] Tryz.func5 Tryz.ntmps5 (fun d=>?_)
 refine Z1 ?_;refine A2 [1,2,3,4,5] ?_;refine Z89 ?_;refine A9 Tryz.call8 (c8 _) ?_;refine A4 ?_;refine A2 [1,2,3,4,5,22] ?_
 refine A3 (fun ht22=>?_) (fun ht22=>?_)
 ·cases ht22
 refine Nk ?_;refine A9 Tryz.call9 (c9 x _) ?_;refine o0 ?_;refine Bk Tryz.call10 (fun hB=>c6u c _) ?_;refine Z0 ?_;refine Z67 ?_;refine Mf ?_;refine A2 [1,2,3,4,5,38] ?_
 refine A3 (fun ht38=>?_) (fun ht38=>?_)
 ·refine Z2 ?_;refine A2 [10] ?_;refine Z10 ?_;exact wl
 have h38:((ACi x=false∧O4 c=false)∧(a.length:Int)≤100)∧(b.length:Int)≤100:=by simpa using ht38
 obtain ⟨⟨⟨hwx,hmc⟩,ha0⟩,hb0⟩:=h38
 have ha:a.length≤1048576:=by omega
 have hb:b.length≤1048576:=by omega
 have hs:=AGr hwx
 have hss:sizeE x≤1048576:=by have:=hs.size;omega
 have hc:=AGx hmc
 have hc2:c.length≤1000000:=AF2 hmc
 have hy:=AJ2 gx a b
 have hMo:OkMovs [(Fa c a k x).1]:=by
  by_cases h:(Fa c a k x).2=0
  ·exact AF3 ha gx h
  rw [AF5 h];exact AMs
 refine Nl ?_;refine A9 Tryz.call14 (c14 61 x hs.ok (by decide) gx a b ha hb _) ?_;refine Z94 ?_;refine A2 [1,2,3,4,5,11,12] ?_;refine Z14 ?_;refine A9 Tryz.call19 (c19 61 x hs.ok (by decide) hss gx a b ha hb _) ?_;refine Z94 ?_;refine A2 [1,3,4,5,11,12,13,14] ?_;refine Z14 ?_;refine A9 Tryz.call19 (c19 61 x hs.ok (by decide) hss gx a a ha ha _) ?_;refine Z94 ?_;refine A2 [1,3,4,5,11,12,13,14,15,16] ?_;refine Z8 ?_;refine Z42 ?_;refine Bk Tryz.call20 (fun hB=>c20 30 ((ofI x a b).getD A6) hy.1 ((ofI x a b).getD A6) _) ?_;refine wd ?_;refine Bk Tryz.call21 (fun hB=>c21 61 x hs.ok (by decide) gx a ha _) ?_;refine Z5 ?_;refine Z0 ?_;refine Z27 ?_
 refine Bk Tryz.call22 (fun hB=>c22 30 ((ofI x a b).getD A6) hy.1 (by decide) (by have:=hy.2.1;omega) _) ?_
 refine Nj ?_;refine A2 [1,3,4,5,15,16,83] ?_
 refine A3 (fun ht83=>?_) (fun ht83=>?_)
 ·exfalso
  have h3:(!Ax ((ofI x a b).getD A6)&&(ofI x a b).isSome)=false:=by
   cases hq:(ofI x a b).isSome with
   | false=>simp
   | true=>rw [hy.2.2 hq];rfl
  rw [kg] at ht83
  simp at ht83 h3
  simp_all
 refine U9 ?_;refine A9 Tryz.call23 (c23 c hc hc2 a ha k 61 x hs.ok (by decide) gx _) ?_;refine Z94 ?_;refine A2 [1,3,4,5,15,16,17,18] ?_;refine Z2 ?_;refine Wi ?_;refine Z0 ?_;refine jm ?_;refine AFw ?_;refine AFw ?_;refine ANs ?_;refine Z17 ?_;refine A2 [1,3,16,17,18,19] ?_;refine Z2 ?_;refine A2 [1,3,16,17,18,19] ?_
 refine Hw ⟨143,Aa 17 (.ptr (oid Hp.length 3) 0) (Aa 18 (A5 (Fa c a k x).2) (Aa 19 (.ptr (oid Hp.length 4) 0) (Aa 20 (A5 (Fa c a k x).2) (fun _=>.any)))),Hp,[.cells 26 (B7 ((ofI x a b).getD A6)),.cells 26 (B7 ((ofI x a b).getD A6)),.cells 26 (B7 ((ofI x a a).getD A6)),.cells 48 (Ph (Fa c a k x).1),.cells 48 (AW9 a k x ((ofI x a a).getD A6))],[],none⟩ ?_ ?_
 ·refine J6 ?_;refine Z2 ?_;refine A9 Tryz.call24 (c24 c hc _) ?_;refine Z0 ?_;refine A2 [1,3,16,17,18,19,110] ?_
  refine A3 (fun ht110=>?_) (fun ht110=>?_)
  ·have hm:=ARj (nm:=a) (k:=k) (x:=x) (by rw [Hh];exact ht110)
   refine Z48 ?_;refine AFt ?_
   first|(rw [hm];exact Az rfl)|(rw [←hm];exact Az rfl)
  refine Z1 ?_;refine A9 Tryz.call25 (c25 c hc a _) ?_;refine Z0 ?_;refine A2 [3,16,17,18,19,114] ?_
  refine A3 (fun ht114=>?_) (fun ht114=>?_)
  ·have hm:=ARk (k:=k) (x:=x) (by rw [Hh];exact ht110) ht114
   refine Z48 ?_;refine AFt ?_
   first|(rw [hm];exact Az rfl)|(rw [←hm];exact Az rfl)
  refine Z14 ?_;refine A2 [3,17,18,19,119] ?_
  refine A3 (fun ht119=>?_) (fun ht119=>?_)
  ·have hm:=ARl (k:=k) (by rw [Hh];exact ht110) ht114 (Pe (by simpa using ht119))
   refine Z48 ?_;refine AFt ?_
   first|(rw [hm];exact Az rfl)|(rw [←hm];exact Az rfl)
  have hO:=Pd (show (ofI x a a).isSome=true by simpa using ht119)
  obtain ⟨hrx,hry,hyg⟩:=Tp gx hO
  have hM:=qz (k:=k) ha hrx gx hry hyg
  have hm:=AJ0 (k:=k) ht110 ht114 hO
  refine Z29 ?_;refine Wi ?_;refine A9 Tryz.call26 (ARn c hc a k x ((ofI x a a).getD A6) hM _) ?_;refine Z72 ?_;refine AFt ?_
  first|(rw [hm];exact Az rfl)|(rw [←hm];exact Az rfl)
 refine Z8 ?_;refine A2 [17,18,19,20,123] ?_
 refine A3 (fun ht123=>?_) (fun ht123=>?_)
 ·have hz:=AF5 (show (Fa c a k x).2≠0 by simpa using ht123)
  refine fg ?_;refine U5 jU jS jZ ?_;refine G.build (places:=#[(0,1),(1,1),(2,1),(3,1),(4,1)]) jU (fun w=>by simp) jZ ?_;refine D7 130 _ (AMr Tq) ?_;refine U5 jU jS jZ ?_;refine Bk Tryz.call27 (fun hB=>c27 [(Fa c a k x).1] [mvZ] hMo _) ?_;refine Z0 ?_;refine A2 [10] ?_;refine Z10 ?_
  first|exact A8 (Ai A7)|exact A8 (Ai A7) ⟨by rw [hz,dp];first|(simp;done)|(simpa using ht123),rfl⟩
 have hz:=AJ1 (show (Fa c a k x).2=0 by simpa using ht123)
 refine Nl ?_;refine Bl ?_;refine U5 jU jS jZ ?_;refine Bl ?_;refine U5 jU jS jZ ?_;refine Bk Tryz.call27 (fun hB=>ARo (Fa c a k x).1 hMo a k x ((ofI x a a).getD A6) _) ?_;refine Z0 ?_;refine A2 [10] ?_;refine Fg ?_
 first|exact A8 (Ai A7)|exact A8 (Ai A7) ⟨by rw [hz,dp];first|(simp;done)|(simpa using ht123),rfl⟩

end Go.SX.Nb
namespace Go.Proofs.YtofbdcbjpdpllaaGreatDoor
open Go Go.SX Go.SX.Nb Go.ChangeShapes Go.RowKit
set_option maxRecDepth 100000
theorem AA1:Tryz.pinned.checked.prog.funcNamed Rows.invertTellsRow.func=some 5:=by kernel_rfl
theorem AJ3:laidOutB Tryz.pinned.checked.prog=true:=by kernel_rfl
theorem AJ4:(Rows.invertTellsRow.inPlace==Tryz.pinned.checked.prog.inPlace 5)=true:=by kernel_rfl
theorem AJ5:(Rows.invertTellsRow.unfollowed==Tryz.pinned.checked.prog.unfollowed 5)=true:=by kernel_rfl
theorem AJ6:(Rows.invertTellsRow.recurses==Tryz.pinned.checked.prog.recurses 5)=true:=by kernel_rfl
theorem AJ7:(Rows.invertTellsRow.named==Tryz.pinned.checked.prog.varsNamed 5)=true:=by kernel_rfl
theorem AJ8:Tryz.pinned.checked.prog.mayEnter=true:=by kernel_rfl
theorem r6:joinedFacts Tryz.pinned.checked.prog 5 Tryz.f5 (OpenSpec.ofChange Rows.invertTellsSpec).bare Rows.invertTellsRow=true:=by
 unfold joinedFacts
 rw [AJ3,AJ4,AJ5,AJ6,AJ7,AJ8]
 kernel_rfl
theorem AA2:false=Rows.invertTellsRow.goesBy Tryz.pinned.checked.prog:=by kernel_rfl
theorem AA3:Tryz.f5.isInstance Tryz.pinned.checked.prog Rows.invertTellsRow.origin Rows.invertTellsRow.targs:=of_decide_eq_true (by kernel_rfl)
theorem AA4:Tryz.f5.isWrapper Tryz.pinned.checked.prog Rows.invertTellsRow.wrapper Rows.invertTellsRow.mainSum:=by
 unfold Func.isWrapper
 first|(rw [if_pos (by decide +kernel)];kernel_rfl)|(rw [if_neg (by decide +kernel)];exact ⟨rfl,rfl⟩)
end Go.Proofs.YtofbdcbjpdpllaaGreatDoor
