/- Texts on the way to this: MigPrints answers true for whatever it is handed: any migration that is right has the text that the chapter says, and is parsed from it as it was, unless brackets nest too deep; any other one has none (up to 12 moves, trees of up to 500 nodes). (part 8) -/
import Derived.Lib.SliceRun
import Derived.Test.YtlafnblklafbkaaGreatDoorMigPrintsCardSaidPart7
set_option linter.all false
namespace Go.SX.Nb
open Go Go.SX Go.Proofs
variable [ErrAt]
set_option maxRecDepth 8000
theorem Yn:∀{k:List Expr},k≠[]→∃y∈k,Pk (H6 k)≤Ag y
 | [a],_=>⟨a,by simp,by simp [H6,Pk]⟩
 | a::b::r,_=>by
  obtain ⟨y,hy,h⟩:=Yn (k:=b::r) (by simp)
  by_cases hle:Ag a≤Pk (H6 (b::r))
  ·exact ⟨y,List.mem_cons_of_mem _ hy,by rw [H6,Pk];omega⟩
  exact ⟨a,List.mem_cons_self,by rw [H6,Pk];omega⟩
theorem L8 {ks:List Expr} {rest:List TK} (hst:stops 0 rest):stops 0 (Ey (Dd ks)++rest):=by
 cases ks with
 | nil=>exact hst
 | cons z ks =>
  intro h r e _
  injection e with e _
  subst e
  exact np
theorem qf {l:List Tok} {nst:Nat} (hN:nst≤30) {rest:List TK} (hst:stops 0 rest):∀(ks:List Expr),(∀y∈ks,T1 l y)→(∀y∈ks,F1 l y)→∀(acc:List Expr) (S:PS) (n:Nat),S.nest=nst→S.code=0→(∃y∈ks,30<nst+Ag y)→seg l S.i=Ey (Dd ks)++rest→l.length≤S.i+n →
  (argsF l (pf l (fam l nst) 0) n (acc,S)).2.code=18
 | [],_,_,acc,S,n,_,_,⟨y,hy,_⟩,_,_=>by cases hy
 | y::ks,hT,hF,acc,S,n,hS,h0,hex,hs,hn=>by
  have hs':seg l S.i=(5,[44])::(A9 y++(Ey (Dd ks)++rest)):=by rw [hs];simp [Dd,Ey]
  obtain ⟨_,_,s1,i1⟩:=Af hs'
  obtain ⟨m,rfl⟩:∃m,n=m+1:=⟨n-1,by omega⟩
  rw [argsF,if_pos (by
   show ((S.code==0)&&isM l Ji S)=true
   rw [h0,Bw hs',Rv]
   decide)]
  show (argsF l (pf l (fam l nst) 0) m (acc++[(pf l (fam l nst) 0 (A2 S)).1],(pf l (fam l nst) 0 (A2 S)).2)).2.code=_
  by_cases hy:30<nst+Ag y
  ·refine Sg ?_
   have:=hF y List.mem_cons_self 0 (A2 S) _ (Nat.zero_le _) h0 (show S.nest≤30 by omega) (show 30<S.nest+Ag y by omega) s1 (L8 hst)
   rw [←hS]
   exact this
  have h1:=hT y List.mem_cons_self 0 (A2 S) _ (Nat.zero_le _) h0 (show S.nest+Ag y≤30 by omega) s1 (L8 hst)
  have h1':pf l (fam l nst) 0 (A2 S)=(y,adv (A2 S) (A9 y).length):=by rw [←hS];exact h1
  rw [h1']
  obtain ⟨z,hz,hzn⟩:=hex
  refine qf hN hst ks (fun w hw=>hT w (List.mem_cons_of_mem _ hw)) (fun w hw=>hF w (List.mem_cons_of_mem _ hw)) _ (adv (A2 S) (A9 y).length) m hS h0 ?_ (B1 s1) (by show l.length≤S.i+1+(A9 y).length+m;omega)
  rcases List.mem_cons.1 hz with rfl|hz
  ·omega
  exact ⟨z,hz,hzn⟩
theorem yt {l:List Tok} {t:Str} {k:List Expr} (hx:B0 At (.mk 6 t noV k)=true) (ha:B5 t=(k.length:Int)) (h1:1≤k.length) (hT:∀y∈k,T1 l y) (hF:∀y∈k,F1 l y):F1 l (.mk 6 t noV k)∧F2 l (.mk 6 t noV k):=by
 refine vn hx ?_ (fun S rest h=>by rw [Kj] at h;omega)
 rw [Kj,L5,O3]
 intro S rest h0 hN hn hs hst
 match k,h1,ha,hT,hF,hn,hs with
 | y::ks,_,ha,hT,hF,hn,hs =>
 rw [Dd,Yg] at hs
 have hs':seg l S.i=(1,t)::((5,[40])::(A9 y++(Ey (Dd ks)++((5,[41])::rest)))):=by rw [hs];simp
 obtain ⟨k1,t1,s1,i1⟩:=Af hs'
 have s1':seg l (A2 S).i=(5,[40])::(A9 y++(Ey (Dd ks)++((5,[41])::rest))):=s1
 obtain ⟨k2,t2,s2,i2⟩:=Af s1'
 have hz:stops 0 (((5,[41]):TK)::rest):=fun h r e _=>by
  injection e with e _
  subst e
  exact np
 have hk:(Bb l (fam l S.nest) (A2 S)).2.code=18:=by
  unfold Bb H5
  by_cases h30:S.nest=30
  ·rw [if_pos (by show ((S.nest:Int)==30)=true;rw [h30];rfl)]
   exact qd h0
  rw [if_neg (by show ¬(((S.nest:Int)==30)=true);simp;omega),Gr (by omega)]
  show (argsF l (pf l (fam l (S.nest+1)) 0) l.length ([(pf l (fam l (S.nest+1)) 0 (Al (A2 (A2 S)))).1],(pf l (fam l (S.nest+1)) 0 (Al (A2 (A2 S)))).2)).2.code=18
  obtain ⟨z,hzm,hzn⟩:=Yn (k:=y::ks) (by simp)
  by_cases hy:30<S.nest+1+Ag y
  ·exact Sg (hF y List.mem_cons_self 0 (Al (A2 (A2 S))) _ (Nat.zero_le _) h0 (show S.nest+1≤30 by omega) hy s2 (L8 hz))
  have h1:=hT y List.mem_cons_self 0 (Al (A2 (A2 S))) _ (Nat.zero_le _) h0 (show S.nest+1+Ag y≤30 by omega) s2 (L8 hz)
  have h1':pf l (fam l (S.nest+1)) 0 (Al (A2 (A2 S)))=(y,adv (Al (A2 (A2 S))) (A9 y).length):=h1
  rw [h1']
  refine qf (l:=l) (nst:=S.nest+1) (by omega) hz ks (fun w hw=>hT w (List.mem_cons_of_mem _ hw)) (fun w hw=>hF w (List.mem_cons_of_mem _ hw)) [y] (adv (Al (A2 (A2 S))) (A9 y).length) l.length rfl h0 ?_ (B1 s2) (by omega)
  rcases List.mem_cons.1 hzm with rfl|hzm
  ·omega
  exact ⟨z,hzm,by omega⟩
 show (Cj l (fam l S.nest) S).2.code=_
 have e1:isM l Mt S=false:=by rw [Bw (show seg l S.i=(1,t)::_ from hs')];rfl
 have e2:isM l opT (A2 S)=true:=by rw [Bw s1',Ye];decide
 unfold Cj
 rw [if_neg (by rw [h0];decide),k1,e1,if_neg (by decide),if_neg (by decide),if_pos (by decide),if_pos e2]
 unfold F3
 have hw:(Ce l D0 (Bb l (fam l S.nest) (A2 S)).2).code=18:=Uk hk
 rw [t1,if_neg (by rw [ha];omega),if_neg (by rw [hw];simp)]
 exact hw
theorem Ul (l:List Tok):∀(n:Nat) (x:Expr),sizeE x≤n→B0 At x=true→B0 D6 x=true→F1 l x∧F2 l x
 | 0,x,hn,_,_=>by have:=Dw x;omega
 | n+1,x,hn,hnd,hrg=>by
  have hnd0:=hnd
  have hrg0:=hrg
  rw [Co,Bool.and_eq_true] at hnd0 hrg0
  have ih:∀y∈x.kids,F1 l y∧F2 l y:=fun y hy=>Ul l n y (O5 hn hy) ((Bv _ _).1 hnd0.2 y hy) ((Bv _ _).1 hrg0.2 y hy)
  have iT:∀y∈x.kids,T1 l y∧T2 l y:=fun y hy=>M2 l _ y (Nat.le_refl _) ((Bv _ _).1 hnd0.2 y hy) ((Bv _ _).1 hrg0.2 y hy)
  have hNC:=Fi hnd0.1
  cases hNC with
  | val v hp h0=>exact qe (Rx v)
  | name t ht=>exact qe (Ue t)
  | neg a=>exact AC0 hnd (ih a (by simp [Bq,Expr.kids])).1
  | no a=>exact ADv hnd (ih a (by simp [Bq,Expr.kids])).1
  | bin t a b ht=>exact AC1 ht hnd (iT a (by simp [C6,Expr.kids])) (ih a (by simp [C6,Expr.kids])) (ih b (by simp [C6,Expr.kids])).1
  | call t k ht =>
   refine yt hnd ht ?_ (fun y hy=>(iT y (by simpa [Expr.kids] using hy)).1) (fun y hy=>(ih y (by simpa [Expr.kids] using hy)).1)
   have:=O6 t
   omega
/-! What was parsed is right, where the words are the lexer's. -/
/-- What the lexer's words are. -/
structure WordOk (t:Tok):Prop where
 name:t.kind=1→E0 t.text=true
 num:t.kind=3→Bd (Cv t.text).1=true∧0≤(Cv t.text).1.n∧(Cv t.text).1.n≤9223372036854775807
def RB (r:Expr×PS):Prop:=r.2.code=0→B0 At r.1=true∧B0 D6 r.1=true
def RF (N:Nat) (f:PS→Expr×PS):Prop:=∀S:PS,S.nest=N→RB (f S)
theorem qg {t:Str} {x y:Expr} (ht:0≤Ae t):At (C6 t x y)=true:=by
 rw [Et,C6,Fh]
 simp [ht,show Fy noV=true from rfl]
theorem l3 (x:Expr):At (Bq 3 x)=true:=by rw [Et,Bq,Fh];simp [show Fy noV=true from rfl]
theorem l4 (x:Expr):At (Bq 4 x)=true:=by rw [Et,Bq,Fh];simp [show Fy noV=true from rfl]
theorem l5 {v:Val} (h:Bd v=true) (h0:0≤v.n):At (Ff v)=true:=by rw [Et,Ff,Fh];simp [h,h0]
theorem d7 {t:Str} (h:E0 t=true):At (Aq t)=true:=by rw [Et,Aq,Fh];simp [h,show Fy ⟨0,0,[]⟩=true from rfl]
theorem l6 {t:Str} {k:List Expr} (h:B5 t=(k.length:Int)):At (.mk 6 t noV k)=true:=by rw [Et,Fh];simp [h,show Fy noV=true from rfl]
theorem qh {t:Str} {x y:Expr} (ht:0≤Ae t) (hx:B0 At x=true∧B0 D6 x=true) (hy:B0 At y=true∧B0 D6 y=true):B0 At (C6 t x y)=true∧B0 D6 (C6 t x y)=true:=by
 rw [Co,Co]
 refine ⟨?_,?_⟩
 ·rw [qg ht]
  show (true&&(B0 At x&&(B0 At y&&true)))=true
  rw [hx.1,hy.1];rfl
 show (D6 (C6 t x y)&&(B0 D6 x&&(B0 D6 y&&true)))=true
 rw [hx.2,hy.2];rfl
theorem qi {o:Int} {x:Expr} (ho:At (Bq o x)=true) (hx:B0 At x=true∧B0 D6 x=true):B0 At (Bq o x)=true∧B0 D6 (Bq o x)=true:=by
 rw [Co,Co]
 refine ⟨?_,?_⟩
 ·rw [ho]
  show (true&&(B0 At x&&true))=true
  rw [hx.1];rfl
 show (D6 (Bq o x)&&(B0 D6 x&&true))=true
 rw [hx.2];rfl
theorem ge {x:Expr} (hn:At x=true) (hr:D6 x=true) (hk:x.kids=[]):B0 At x=true∧B0 D6 x=true:=by
 rw [Co,Co,hk,hn,hr]
 exact ⟨rfl,rfl⟩
theorem Oc {N:Nat} {a:Int} {f:PS→Expr×PS} (hN:N≤30) (hf:N<30→RF (N+1) f) {S:PS} (hS:S.nest=N):RB (Ak a f S):=by
 unfold Ak
 split
 ·exact th
 rename_i h
 exact hf (by simp at h;omega) (Al S) (by show S.nest+1=N+1;omega)
theorem gg {N:Nat} {l:List Tok} {f:PS→Expr×PS} (hn:NF N 0 f) (hf:RF N f):∀(n:Nat) (r:List Expr×PS),r.2.nest=N→(r.2.code=0→∀y∈r.1,B0 At y=true∧B0 D6 y=true)→((argsF l f n r).2.code=0→∀y∈(argsF l f n r).1,B0 At y=true∧B0 D6 y=true)
 | 0,r,h1,h2=>h2
 | n+1,r,h1,h2=>by
  rw [argsF]
  split
  ·rename_i hc
   simp only [Bool.and_eq_true,beq_iff_eq] at hc
   refine gg hn hf n _ (hn (A2 r.2) h1).nest (fun h0 y hy=>?_)
   rcases List.mem_append.1 hy with hy|hy
   ·exact h2 hc.1 y hy
   rw [List.mem_singleton.1 hy]
   exact hf (A2 r.2) h1 h0
  exact h2
theorem vo {t:Str} (h:Dh t Mt=true):Bd (Cv t).1=true∧0≤(Cv t).1.n∧(Cv t).1.n≤9223372036854775807:=by
 rw [Wd] at h
 simp only [Bool.and_eq_true,litWords,List.contains_cons,List.contains_nil,Bool.or_false,Bool.or_eq_true,beq_iff_eq] at h
 rcases h.2 with rfl|rfl|rfl
 ·exact xr
 ·exact xr
 exact xr
theorem vp {v:Val} (h0:0≤v.n) (h1:v.n≤9223372036854775807):D6 (Ff v)=true:=by
 show (decide (-9223372036854775808≤v.n)&&decide (v.n≤9223372036854775807))=true
 simp only [Bool.and_eq_true,decide_eq_true_eq]
 omega
theorem vq {N:Nat} {l:List Tok} {D:Fam} (hw:∀i,WordOk (A7 l i)) (hN:N≤30) (hD:N<30→NF (N+1) 0 D.ei) (hR:N<30→RF (N+1) D.ei):RF N (Cj l D):=fun S hS=>by
 have val:∀(v:Val) (S':PS),Bd v=true→0≤v.n→v.n≤9223372036854775807→RB (Ff v,S'):=fun v S' h1 h2 h3 _=>ge (l5 h1 h2) (vp h2 h3) rfl
 unfold Cj
 split
 ·rename_i h;exact fun h0=>absurd h0 (by simpa using h)
 split
 ·rename_i h1 h2
  rw [Bool.or_eq_true] at h2
  rcases h2 with h2|h2
  ·obtain ⟨a,b,c⟩:=(hw S.i).num (by simpa using h2)
   exact val _ _ a b c
  unfold isM at h2
  rw [Bool.and_eq_true] at h2
  obtain ⟨a,b,c⟩:=vo h2.2
  exact val _ _ a b c
 split
 ·refine val _ _ ?_ (by show (0:Int)≤0;decide) (by show (0:Int)≤9223372036854775807;decide)
  exact (pu _).plain
 split
 ·rename_i h1
  have hnm:=(hw S.i).name (by simpa using h1)
  split
  ·unfold F3
   split
   ·exact th
   split
   ·exact th
   rename_i h2 h3
   intro h0
   have h0':(Ce l D0 (Bb l D (A2 S)).2).code=0:=h0
   have hlen:((Bb l D (A2 S)).1.length:Int)=B5 (A7 l S.i).text:=by
    rw [h0'] at h3
    simpa using h3
   have hc:=J1 h0'
   have hkids:∀y∈(Bb l D (A2 S)).1,B0 At y=true∧B0 D6 y=true:=by
    unfold Bb H5 at hc ⊢
    by_cases h30:((A2 (A2 S)).nest:Int)==30
    ·rw [if_pos h30] at hc
     exact xt
    rw [if_neg h30] at hc ⊢
    have hlt:N<30:=by
     have:(A2 (A2 S)).nest=N:=hS
     rw [this] at h30
     simp at h30
     omega
    have hd:(Al (A2 (A2 S))).nest=N+1:=by show S.nest+1=N+1;omega
    exact gg (l:=l) (hD hlt) (hR hlt) l.length ([(D.ei (Al (A2 (A2 S)))).1],(D.ei (Al (A2 (A2 S)))).2) (hD hlt _ hd).nest (fun h0 y hy=>by rw [List.mem_singleton.1 hy];exact hR hlt _ hd h0) hc
   show B0 At (.mk 6 _ noV _)=true∧B0 D6 (.mk 6 _ noV _)=true
   rw [Co,Co,l6 hlen.symm]
   exact ⟨by rw [Bool.true_and];exact (Bv _ _).2 fun y hy=>(hkids y hy).1,by
    rw [Bool.and_eq_true]
    exact ⟨rfl,(Bv _ _).2 fun y hy=>(hkids y hy).2⟩⟩
  exact fun _=>ge (d7 hnm) rfl rfl
 split
 ·intro h0
  exact Oc hN hR (show (A2 S).nest=N from hS) (J1 h0)
 exact th
theorem Pw {N k:Nat} {l:List Tok} {f:PS→Expr×PS} (hk:k=0∨k=1∨k=4∨k=5) (hn:NF N (k+1) f) (hf:RF N f):RF N (Ci l (ofL k) f):=by
 have hloop:∀(n:Nat) (r:Expr×PS),r.2.nest=N→RB r→RB (Eu l (ofL k) f n r):=by
  intro n
  induction n with
  | zero=>exact fun r _ h=>h
  | succ n ih =>
   intro r hr h
   rw [Eu]
   split
   ·rename_i hc
    simp only [Bool.and_eq_true,beq_iff_eq] at hc
    refine ih _ (hn (A2 r.2) hr).nest (fun h0=>?_)
    have hlv:Ae (A7 l r.2.i).text=(k:Int):=by
     have hm:=hc.2
     unfold isM at hm
     rw [Bool.and_eq_true] at hm
     have:=hm.2
     rw [E7 (Kk hk)] at this
     simpa using this
    exact qh (by omega) (h hc.1) (hf (A2 r.2) hr h0)
   exact h
 exact fun S hS=>hloop _ _ (hn S hS).nest (hf S hS)
theorem yu {N:Nat} {l:List Tok} {D:Fam} (hn:NF N 4 (Bo l D)) (hf:RF N (Bo l D)):RF N (Bg l D):=fun S hS=>by
 unfold Bg
 split
 ·exact hf S hS
 rename_i hc
 simp only [Bool.or_eq_true,not_or,bne_iff_ne,ne_eq,Decidable.not_not,Bool.not_eq_true',Bool.not_eq_false] at hc
 intro h0
 have hlv:Ae (A7 l (Bo l D S).2.i).text=((3:Nat):Int):=by
  have hm:=hc.2
  unfold isM at hm
  rw [Bool.and_eq_true] at hm
  have:=hm.2
  rw [show Rj=ofL 3 from rfl,E7 (.inr (.inr (.inl rfl)))] at this
  simpa using this
 exact qh (by omega) (hf S hS hc.1) (hf (A2 (Bo l D S).2) (hn S hS).nest h0)
theorem qj (l:List Tok) (hw:∀i,WordOk (A7 l i)):∀(d N:Nat),N+d=30→RF N (L4 l (C1 l d))∧RF N (Gq l (C1 l d))∧RF N (Gp l (C1 l d))
 | d,N,h=>by
  have ihn:N<30→NF (N+1) 0 (C1 l d).ei∧NF (N+1) 2 (C1 l d).no∧NF (N+1) 6 (C1 l d).ne:=fun hlt=>by
   match d,h with
   | 0,h=>omega
   | d+1,h=>exact cz l d (N+1) (by omega)
  have ih:N<30→RF (N+1) (C1 l d).ei∧RF (N+1) (C1 l d).no∧RF (N+1) (C1 l d).ne:=fun hlt=>by
   match d,h with
   | 0,h=>omega
   | d+1,h=>exact qj l hw d (N+1) (by omega)
  have hN:N≤30:=by omega
  have hnegN:=q9 (l:=l) (D:=C1 l d) hN (fun h=>(ihn h).1) (fun h=>(ihn h).2.2)
  have hneg:RF N (Gp l (C1 l d)):=fun S hS=>by
   unfold Gp
   split
   ·exact vq hw hN (fun h=>(ihn h).1) (fun h=>(ih h).1) S hS
   exact fun h0=>qi (l3 _) (Oc hN (fun h=>(ih h).2.2) (show (A2 S).nest=N from hS) h0)
  have hprodN:NF N 5 (Rl l (C1 l d)):=Jo (k:=5) (by decide) hnegN
  have hprod:RF N (Rl l (C1 l d)):=Pw (k:=5) (by decide) hnegN hneg
  have hsumN:NF N 4 (Bo l (C1 l d)):=Jo (k:=4) (by decide) hprodN
  have hsum:RF N (Bo l (C1 l d)):=Pw (k:=4) (by decide) hprodN hprod
  have hcmpN:=qb hsumN
  have hcmp:=yu hsumN hsum
  have hnoN:=qc (l:=l) (D:=C1 l d) hN hcmpN (fun h=>(ihn h).2.1)
  have hno:RF N (Gq l (C1 l d)):=fun S hS=>by
   unfold Gq
   split
   ·exact hcmp S hS
   exact fun h0=>qi (l4 _) (Oc hN (fun h=>(ih h).2.1) (show (A2 S).nest=N from hS) h0)
  have hboN:NF N 1 (Rm l (C1 l d)):=Jo (k:=1) (by decide) hnoN
  have hbo:RF N (Rm l (C1 l d)):=Pw (k:=1) (by decide) hnoN hno
  exact ⟨Pw (k:=0) (by decide) hboN hbo,hno,hneg⟩
/-! The lexer's words. -/
theorem ql {c:UInt8} {r of:Str} (h:decide (0<H1 ((c::r).take 1) of)=true):of.contains c=true:=by
 rw [show (c::r).take 1=[c] from rfl,Jl] at h
 cases hc:of.contains c with
 | true=>rfl
 | false=>rw [hc] at h;simp at h
theorem qm {q:Str} (h0:q≠[]) (ha:∀c∈q,digs.contains c=true) (he:(Cv q).2=0):Bd (Cv q).1=true∧0≤(Cv q).1.n∧(Cv q).1.n≤9223372036854775807:=by
 cases q with
 | nil=>exact absurd rfl h0
 | cons c r =>
 have hc:=ha c List.mem_cons_self
 have hn:=S3 c hc
 have n1:((c::r:Str)==[110,117,108,108])=false:=by rw [beq_eq_false_iff_ne];intro e;injection e with e;exact hn.2.2.2.1 e
 have n2:((c::r:Str)==[116,114,117,101])=false:=by rw [beq_eq_false_iff_ne];intro e;injection e with e;exact hn.2.2.2.2.1 e
 have n3:((c::r:Str)==[102,97,108,115,101])=false:=by rw [beq_eq_false_iff_ne];intro e;injection e with e;exact hn.2.2.2.2.2 e
 have hq:Jt (c::r)=false:=by
  unfold Jt
  have:Lib.hasPrefix (c::r) [39]=false:=by simp [Lib.hasPrefix,List.isPrefixOf,Ne.symm hn.2.2.1]
  rw [this]
  simp
 unfold Cv at he ⊢
 rw [n1,n2,n3,hq] at he ⊢
 simp only [Bool.false_eq_true,if_false,Bool.or_self] at he ⊢
 split at he
 ·rename_i h1
  rw [if_pos h1]
  have hb:Fe (c::r)=false:=by
   cases hb:Fe (c::r) with
   | false=>rfl
   | true=>unfold Cp at h1;rw [hb] at h1;simp at h1
  unfold Cp at h1 ⊢
  rw [hb] at h1 ⊢
  simp only [Bool.false_eq_true,if_false] at h1 ⊢
  have h43:c.toNat≠43:=fun e=>hn.2.1 (UInt8.toNat_inj.1 (by rw [e];rfl))
  have h45:c.toNat≠45:=fun e=>hn.1 (UInt8.toNat_inj.1 (by rw [e];rfl))
  have hp:=Lib.parseIntB_plain 64 c r h43 h45
  cases hv:Lib.parseIntB 64 (c::r) with
  | ok v =>
   have hb:=Lib.parseIntB_bounds hv
   simp only [show ((2 ^ (64-1):Nat):Int)=9223372036854775808 by decide] at hb
   rw [hp] at hv
   have h0:0≤v:=by
    cases hu:Lib.parseUintB 64 (c::r) with
    | ok u =>
     rw [hu] at hv
     have e:Lib.signlessC (2 ^ (64-1)) (.ok u)=if 2 ^ (64-1)≤u then .range else .ok (u:Int):=rfl
     rw [e] at hv
     split at hv
     ·cases hv
     injection hv with hv
     omega
    | _=>rw [hu] at hv;cases hv
   exact ⟨rfl,h0,by show v≤9223372036854775807;omega⟩
  | _=>first|(rw [hv] at h1;simp at h1;done)|(exact ⟨rfl,Int.le_refl 0,by show (0:Int)≤9223372036854775807;decide⟩)
 rename_i h1
 split at he
 ·simp at he
 simp at he
theorem Yo {p:UInt8→Bool}:∀{l:Str} {b:UInt8},b∈l.takeWhile p→p b=true
 | [],_,h=>by cases h
 | a::r,b,h=>by
  rw [List.takeWhile_cons] at h
  by_cases ha:p a=true
  ·rw [if_pos ha] at h
   rcases List.mem_cons.1 h with rfl|h
   ·exact ha
   exact Yo h
  rw [if_neg ha] at h
  cases h
theorem l7 {s:Str} {n:Nat} (h0:s≠[]) (he:(Aw s).2.2.2=0):WordOk ⟨(Aw s).1,(Aw s).2.1,n⟩:=by
 cases s with
 | nil=>exact absurd rfl h0
 | cons c r =>
 unfold Aw at he ⊢
 by_cases h1:decide (0<H1 ((c::r).take 1) letters)=true
 ·rw [if_pos h1] at he
  simp only [if_pos h1]
  unfold Je at he ⊢
  by_cases r1:Ct (Bh (c::r) tails)=true
  ·simp only [if_pos r1]
   exact b8
  rw [if_neg r1] at he
  simp only [if_neg r1]
  by_cases r2:(!Bf (Bh (c::r) tails))=true
  ·rw [if_pos r2] at he;simp at he
  simp only [if_neg r2]
  exact ⟨fun _=>by rw [←Cy];simpa using r2,fun h=>by cases h⟩
 rw [if_neg h1] at he
 simp only [if_neg h1]
 by_cases h2:decide (0<H1 ((c::r).take 1) digs)=true
 ·rw [if_pos h2] at he
  simp only [if_pos h2]
  unfold Mm at he ⊢
  refine ⟨(fun h=>by cases h),fun _=>qm ?_ (fun b hb=>?_) he⟩
  ·show Bh (c::r) digs≠[]
   rw [Hj,List.takeWhile_cons,ql h2]
   simp
  have hb:b∈Bh (c::r) digs:=hb
  rw [Hj] at hb
  exact Yo hb
 rw [if_neg h2] at he
 simp only [if_neg h2]
 by_cases h3:((((c::r).getD 0 0).toNat:Int)==39)=true
 ·rw [if_pos h3] at he
  simp only [if_pos h3]
  unfold Ge at he ⊢
  split
  ·exact b8
  split
  ·exact b8
  exact b8
 simp only [if_neg h3]
 unfold Ke
 split
 ·exact b8
 split
 ·exact b8
 exact b8
theorem Yp:∀(f q:Nat) (s:Str),∀it∈E6 f q s,it.2=0→WordOk it.1
 | 0,_,_,it,h,_=>by cases h
 | f+1,q,s,it,h,h0=>by
  rw [E6] at h
  split at h
  ·cases h
  rename_i hs
  have hne:s≠[]:=by rintro rfl;exact hs rfl
  rcases List.mem_cons.1 h with rfl|h
  ·exact l7 hne h0
  split at h
  ·exact Yp f _ _ it h h0
  cases h
theorem yw (n:Nat):WordOk ⟨0,[],n⟩:=⟨(fun h=>by cases h),(fun h=>by cases h)⟩
/-! The parse laws where nothing is too deep. -/
/-! The parser from a word on, and of a source. -/
/-! Other trees have other words, and other prints. -/
/-! The laws of printing. -/
/-- show.Print. -/
def Ek (x:Expr):Str×Int:=if !(B4 x) then ([],1) else if decide ((4000:Int)<((A8 x).length:Int)) then ([],3) else (A8 x,0)
theorem vr {x:Expr} (h:(Ek x).2=0):Ax x=true∧(A8 x).length≤4000∧Ek x=(A8 x,0):=by
 unfold Ek at h ⊢
 split at h
 ·cases h
 rename_i h1
 split at h
 ·cases h
 rename_i h2
 rw [if_neg h1,if_neg h2]
 refine ⟨by rw [←Cu];simpa using h1,by simp at h2;omega,rfl⟩
theorem vt {x:Expr} (h:Ax x=true):(Ek x=([],3)∧4000<(A8 x).length)∨(Ek x=(A8 x,0)∧(A8 x).length≤4000):=by
 unfold Ek
 rw [Cu,h]
 simp only [Bool.not_true,Bool.false_eq_true,if_false]
 split
 ·rename_i h2;exact .inl ⟨rfl,by simp at h2;omega⟩
 rename_i h2;exact .inr ⟨rfl,by simp at h2;omega⟩
theorem Ev {x:Expr} (h:Ax x=true):B0 At x=true:=by
 unfold Ax at h
 rw [Bool.and_eq_true] at h
 exact h.2
set_option maxRecDepth 4000
/-! The words of moves, and what is parsed from them. -/
/-- A tree that may be printed and read. -/
structure PrE (x:Expr):Prop where
 right:Ax x=true
 rng:B0 D6 x=true
 need:Ag x≤30
theorem Sh {l:List Tok} {i:Nat} {x:Expr} {rest:List TK} (hx:PrE x) (hs:seg l i=A9 x++rest) (hst:stops 0 rest):Fw l i=.ok x (i+(A9 x).length):=by
 have hr:=hx.right
 unfold Ax at hr
 simp only [Bool.and_eq_true,decide_eq_true_eq] at hr
 obtain ⟨⟨hd,hz⟩,hn⟩:=hr
 have hneed:=hx.need
 have h1:atR l i=(x,adv ⟨i,0,0,0⟩ (A9 x).length):=
  (M2 l _ x (Nat.le_refl _) hn hx.rng).1 0 ⟨i,0,0,0⟩ rest (Nat.zero_le _) rfl (by show 0+Ag x≤30;omega) hs hst
 have e:atS l i (x,adv ⟨i,0,0,0⟩ (A9 x).length)=adv ⟨i,0,0,0⟩ (A9 x).length:=by
  unfold atS
  rw [if_neg (by show ¬(((0:Int) != 0)=true);decide),if_neg (by simp;omega),if_neg (by simp;omega)]
 have e2:atM l i=(x,((i+(A9 x).length:Nat):Int),0,0):=by
  unfold atM
  rw [h1,e,if_neg (by show ¬(((0:Int) != 0)=true);decide)]
  rfl
 unfold Fw
 rw [e2,if_neg (show ¬(((0:Int) != 0)=true) by decide)]
 show PR.ok x (((i+(A9 x).length:Nat):Int)).toNat=_
 rw [Int.toNat_natCast]
theorem Dn {l:List Tok} {i:Nat} {k:Int} {s:Str} {rest:List TK} (hk:((k==5) || (k==2))=true) (hs:seg l i=(k,s)::rest):Bc l s i=.ok () (i+1):=by
 obtain ⟨h1,h2,_,_⟩:=Af hs
 unfold Bc isP
 rw [h1,h2,hk,if_pos (by simp)]
theorem d8 {l:List Tok} {i:Nat} {k:Int} {t s:Str} {rest:List TK} (hs:seg l i=(k,t)::rest):isP l s i=(((k==5) || (k==2))&&(t==s)):=by
 obtain ⟨h1,h2,_,_⟩:=Af hs
 unfold isP
 rw [h1,h2]
theorem Ew {l:List Tok} {i:Nat} {s:Str} {rest:List TK} (hs:seg l i=(1,s)::rest):De l i=.ok s (i+1):=by
 obtain ⟨h1,h2,_,_⟩:=Af hs
 unfold De
 rw [h1,h2]
 rfl
theorem Yq {l:List Tok} {i:Nat} {nm:Str} {k:Int} {rest:List TK} (h1:1≤k) (h3:k≤3) (hs:seg l i=(2,Ah k)::rest):N0 l nm i=.ok ⟨nm,k⟩ (i+1):=by
 obtain ⟨h4,h5,_,_⟩:=Af hs
 unfold N0
 rw [h4,h5,kj h1 h3,if_neg (by simp;omega)]
def D3 (c:Col) (x:Expr):List TK:=(1,c.name)::(2,Ah c.kind)::(5,[61])::A9 x
theorem N6 {l:List Tok} {m:Mov} {i:Nat} {c:Col} {x:Expr} {rest:List TK} (h1:1≤c.kind) (h3:c.kind≤3) (hx:PrE x) (hs:seg l i=D3 c x++rest) (hst:stops 0 rest):C0 l m i=.ok (J0 (Bi m c) x) (i+(D3 c x).length):=by
 unfold D3 at hs
 simp only [List.cons_append] at hs
 have s1:=(Af hs).2.2.1
 have s2:=(Af s1).2.2.1
 have s3:=(Af s2).2.2.1
 unfold C0 Ez
 rw [Ew hs]
 show ((N0 l c.name (i+1)).bind _)=_
 rw [Yq h1 h3 s1]
 show ((Bc l [61] (i+1+1)).bind _)=_
 rw [Dn (by decide) s2]
 show ((Fw l (i+1+1+1)).bind _)=_
 rw [Sh hx s3 hst]
 show PR.ok _ (i+1+1+1+(A9 x).length)=_
 rw [show i+(D3 c x).length=i+1+1+1+(A9 x).length by simp [D3];omega]
/-- Things with commas between. -/
theorem Od {l:List Tok} {α:Type} {one:Mov→Nat→PR Mov} {tk:α→List TK} {ap:Mov→α→Mov} {P:α→Prop} {n:Int} (h1:∀it,P it→∀m i rest,stops 0 rest→seg l i=tk it++rest→one m i=.ok (ap m it) (i+(tk it).length)) (hc:∀r:List TK,stops 0 ((5,[44])::r)) {rest:List TK} (hst:stops 0 rest) (hr:∃k t r,rest=(k,t)::r∧t≠[44]):
  ∀(its:List α) (k f:Nat) (m:Mov) (i:Nat),1≤k→(∀it∈its,P it)→its.length<f→seg l i=(its.flatMap fun it=>(5,[44])::tk it)++rest→(n=k+its.length∨(n=0∧2≤k+its.length))→Fz l n one f k m i=.ok (its.foldl ap m) (i+(its.flatMap fun it=>(5,[44])::tk it).length)
 | [],k,f,m,i,hk1,_,hf,hs,hn=>by
  obtain ⟨f,rfl⟩:∃g,f=g+1:=⟨f-1,by simp at hf;omega⟩
  obtain ⟨k',t,r,hr,ht⟩:=hr
  rw [hr] at hs
  have:H7 l n k i=false:=by
   unfold H7
   rw [d8 hs]
   simp only [List.length_nil] at hn
   have e:(t==([44]:Str))=false:=by simpa using ht
   rw [e,Bool.and_false,Bool.or_false]
   rcases hn with hn|⟨hn,h2⟩
   ·rw [hn,show decide ((k:Int)<(k:Int)+((0:Nat):Int))=false from decide_eq_false (by omega)]
    rw [show ((((k:Int)+((0:Nat):Int)))==0)=false by simp;omega]
    rfl
   rw [hn,show decide ((k:Int)<0)=false from decide_eq_false (by omega),show decide ((k:Int)<2)=false from decide_eq_false (by omega)]
   rfl
  rw [Fz,this,if_neg (by simp)]
  rfl
 | it::its,k,f,m,i,hk1,hP,hf,hs,hn=>by
  obtain ⟨f,rfl⟩:∃g,f=g+1:=⟨f-1,by simp at hf;omega⟩
  rw [List.flatMap_cons,List.append_assoc,List.cons_append] at hs
  have s1:=(Af hs).2.2.1
  have:H7 l n k i=true:=by
   unfold H7
   rw [d8 hs]
   simp only [List.length_cons] at hn
   rcases hn with hn|⟨hn,h2⟩
   ·rw [show decide ((k:Int)<n)=true from decide_eq_true (by omega)]
    rfl
   rw [hn]
   simp
  rw [Fz,this,if_pos rfl,Dn (by decide) hs]
  show ((one m (i+1)).bind _)=_
  have hst2:stops 0 ((its.flatMap fun it=>(5,[44])::tk it)++rest):=by
   cases its with
   | nil=>exact hst
   | cons a b=>rw [List.flatMap_cons];exact hc _
  rw [h1 it (hP it List.mem_cons_self) m (i+1) _ hst2 s1]
  show Fz l n one f (k+1) (ap m it) (i+1+(tk it).length)=_
  rw [Od h1 hc hst hr its (k+1) f (ap m it) _ (by omega) (fun x hx=>hP x (.tail _ hx)) (by simp at hf;omega) (B1 s1) (by simp only [List.length_cons] at hn;omega)]
  simp only [List.foldl_cons,List.flatMap_cons,List.length_append,List.length_cons]
  congr 1
  omega
/-- Words of some things, with commas between. -/
def Cw:List (List TK)→List TK
 | []=>[]
 | t::r=>t++r.flatMap fun u=>(5,[44])::u
theorem I5 (r:List TK):stops 0 ((5,[44])::r):=fun h r' e _=>by
 injection e with e _
 subst e
 exact np
theorem Hn (r:List TK):stops 0 ((2,backW)::r):=fun h r' e _=>by
 injection e with e _
 subst e
 exact ⟨by decide +kernel,by decide⟩
theorem Um (r:List TK):stops 0 ((2,intoW)::r):=fun h r' e _=>by
 injection e with e _
 subst e
 exact ⟨by decide +kernel,by decide⟩
theorem Ed (r:List TK):stops 0 ((5,[59])::r):=fun h r' e _=>by
 injection e with e _
 subst e
 exact np
theorem gh {l:List Tok} {i:Nat} {ts:List TK} (h:seg l i=ts):ts.length≤l.length:=by
 rw [←h]
 unfold seg
 rw [List.length_map,List.length_drop]
 omega
theorem Oe {α:Type} {tk:α→List TK}:∀(its:List α),its.length≤(its.flatMap fun it=>(5,[44])::tk it).length
 | []=>Nat.le_refl _
 | a::r=>by
  have:=Oe (tk:=tk) r
  rw [List.flatMap_cons,List.length_append,List.length_cons,List.length_cons]
  omega
theorem Si {l:List Tok} {α:Type} {one:Mov→Nat→PR Mov} {tk:α→List TK} {ap:Mov→α→Mov} {P:α→Prop} {n:Int} (h1:∀it,P it→∀m i rest,stops 0 rest→seg l i=tk it++rest→one m i=.ok (ap m it) (i+(tk it).length)) {rest:List TK} (hst:stops 0 rest) (hr:∃k t r,rest=(k,t)::r∧t≠[44])
  {its:List α} {m:Mov} {i:Nat} (h0:its≠[]) (hP:∀it∈its,P it) (hs:seg l i=Cw (its.map tk)++rest) (hn:n=its.length∨(n=0∧2≤its.length)):Df l n one m i=.ok (its.foldl ap m) (i+(Cw (its.map tk)).length):=by
 cases its with
 | nil=>exact absurd rfl h0
 | cons a r =>
  have e:Cw ((a::r).map tk)=tk a++r.flatMap fun it=>(5,[44])::tk it:=by
   rw [List.map_cons,Cw,List.flatMap_map]
  rw [e,List.append_assoc] at hs
  have hst2:stops 0 ((r.flatMap fun it=>(5,[44])::tk it)++rest):=by
   cases r with
   | nil=>exact hst
   | cons a b=>rw [List.flatMap_cons];exact I5 _
  have s1:=B1 hs
  have hl:=gh s1
  rw [List.length_append] at hl
  have hf:=Oe (tk:=tk) r
  unfold Df
  rw [h1 a (hP a List.mem_cons_self) m i _ hst2 hs]
  show Fz l n one (l.length+1) 1 (ap m a) (i+(tk a).length)=_
  rw [Od h1 I5 hst hr r 1 (l.length+1) (ap m a) _ (Nat.le_refl _) (fun x hx=>hP x (.tail _ hx)) (by omega) s1 (by simp only [List.length_cons] at hn;omega),e,List.length_append,Nat.add_assoc]
  rfl
theorem Of:∀(g:List (Col×Expr)) (m:Mov),g.foldl (fun m p=>J0 (Bi m p.1) p.2) m=⟨m.kind,m.take,m.give++g.map (·.1),m.ahead++g.map (·.2),m.back⟩
 | [],m=>by simp
 | p::g,m=>by rw [List.foldl_cons,Of g];simp [J0,Bi]
theorem Og:∀(g:List Expr) (m:Mov),g.foldl P9 m=⟨m.kind,m.take,m.give,m.ahead,m.back++g⟩
 | [],m=>by simp
 | p::g,m=>by rw [List.foldl_cons,Og g];simp [P9]
theorem Un:∀(g:List Str) (m:Mov),g.foldl S7 m=⟨m.kind,m.take++g,m.give,m.ahead,m.back⟩
 | [],m=>by simp
 | p::g,m=>by rw [List.foldl_cons,Un g];simp [S7]
def Jp (m:Mov):List TK:=Cw ((m.give.zip m.ahead).map fun p=>D3 p.1 p.2)
def M4 (m:Mov):List TK:=Cw (m.take.map fun s=>[(1,s)])
def Jq (m:Mov):List TK:=(2,backW)::Cw (m.back.map A9)
/-- The words of a move. -/
def mvT (m:Mov):List TK:=(2,Av m.kind)::((if m.kind==1 then Jp m else if m.kind==2 then M4 m++Jq m else if m.kind==3 then M4 m++[(2,toW),(1,(m.give.getD 0 ⟨[],0⟩).name)] else if m.kind==6 then Jp m++Jq m else M4 m++(2,intoW)::(Jp m++Jq m))++[(5,[59])])
theorem N7 {l:List Tok} {m:Mov} {xs:List Expr} {i:Nat} {rest:List TK} (hx:∀x∈xs,PrE x) (hn:xs.length=m.take.length) (h0:xs≠[]) (hst:stops 0 rest) (hr:∃k t r,rest=(k,t)::r∧t≠[44]) (hs:seg l i=(2,backW)::(Cw (xs.map A9)++rest)):Ck l m i=.ok ⟨m.kind,m.take,m.give,m.ahead,m.back++xs⟩ (i+1+(Cw (xs.map A9)).length):=by
 unfold Ck
 rw [Dn (by decide) hs]
 show Df l m.take.length (Kl l) m (i+1)=_
 rw [Si (ap:=P9) (tk:=A9) (P:=PrE) (fun x hx m i rest hst hs=>by unfold Kl;rw [Sh hx hs hst];rfl) hst hr h0 hx (Af hs).2.2.1 (.inl (by rw [hn])),Og]
theorem l8 {l:List Tok} {n:Int} {m:Mov} {g:List (Col×Expr)} {i:Nat} {rest:List TK} (hg:∀p∈g,1≤p.1.kind∧p.1.kind≤3∧PrE p.2) (hn:n=g.length∨(n=0∧2≤g.length)) (h0:g≠[]) (hst:stops 0 rest) (hr:∃k t r,rest=(k,t)::r∧t≠[44]) (hs:seg l i=Cw (g.map fun p=>D3 p.1 p.2)++rest):Df l n (C0 l) m i=.ok ⟨m.kind,m.take,m.give++g.map (·.1),m.ahead++g.map (·.2),m.back⟩ (i+(Cw (g.map fun p=>D3 p.1 p.2)).length):=by
 rw [Si (ap:=fun m p=>J0 (Bi m p.1) p.2) (tk:=fun p=>D3 p.1 p.2) (P:=fun p=>1≤p.1.kind∧p.1.kind≤3∧PrE p.2) (fun p hp m i rest hst hs=>N6 hp.1 hp.2.1 hp.2.2 hs hst) hst hr h0 hg hs hn,Of]
theorem Uo {l:List Tok} {m:Mov} {g:List Str} {i:Nat} {rest:List TK} (hn:2≤g.length) (hst:stops 0 rest) (hr:∃k t r,rest=(k,t)::r∧t≠[44]) (hs:seg l i=Cw (g.map fun s=>[(1,s)])++rest):Df l 0 (Ii l) m i=.ok ⟨m.kind,m.take++g,m.give,m.ahead,m.back⟩ (i+(Cw (g.map fun s=>[((1:Int),s)])).length):=by
 rw [Si (ap:=S7) (tk:=fun s=>[(1,s)]) (P:=fun _=>True) (fun s _ m i rest hst hs=>by unfold Ii;rw [Ew hs];rfl) hst hr (fun e=>by rw [e] at hn;simp at hn) (fun _ _=>trivial) hs (.inr ⟨rfl,hn⟩),Un]
/-- A move that may be printed and read. -/
structure PrM (m:Mov):Prop where
 one:Cf m=true
 ahead:∀x∈m.ahead,PrE x
 back:∀x∈m.back,PrE x
def F4 (m:Mov):List TK:=if m.kind==1 then Jp m else if m.kind==2 then M4 m++Jq m else if m.kind==3 then M4 m++[(2,toW),(1,(m.give.getD 0 ⟨[],0⟩).name)] else if m.kind==6 then Jp m++Jq m else M4 m++(2,intoW)::(Jp m++Jq m)
theorem Wk (m:Mov):mvT m=(2,Av m.kind)::(F4 m++[(5,[59])]):=rfl
theorem Yr {k:Int} (h:(Ah k==([]:Str))=false):1≤k∧k≤3:=by
 unfold Ah at h
 split at h
 ·cases h
 rename_i h1;omega
theorem Eg {α:Type} {l:List α} (h:((l.length:Int)==1)=true):∃a,l=[a]:=by
 match l,h with
 | [a],_=>exact ⟨a,rfl⟩
 | [],h=>simp at h
 | _::_::_,h=>simp at h;omega
theorem Px {α:Type} {l:List α} (h:((l.length:Int)==0)=true):l=[]:=by
 match l,h with
 | [],_=>rfl
 | _::_,h=>simp at h;omega
theorem Ij {r:List TK}:∃k t r',((5,[59])::r:List TK)=(k,t)::r'∧t≠[44]:=⟨_,_,_,rfl,by decide⟩
theorem Ys {r:List TK}:∃k t r',((2,backW)::r:List TK)=(k,t)::r'∧t≠[44]:=⟨_,_,_,rfl,by decide⟩
theorem gi {r:List TK}:∃k t r',((2,intoW)::r:List TK)=(k,t)::r'∧t≠[44]:=⟨_,_,_,rfl,by decide⟩
theorem E9 (t:List TK):Cw [t]=t:=by simp [Cw]
theorem Wl {α β:Type}:∀{a:List α} {b:List β},b.length=a.length→(a.zip b).map (·.1)=a∧(a.zip b).map (·.2)=b
 | [],[],_=>⟨rfl,rfl⟩
 | [],_::_,h=>by simp at h
 | _::_,[],h=>by simp at h
 | x::a,y::b,h=>by
  obtain ⟨h1,h2⟩:=Wl (a:=a) (b:=b) (by simpa using h)
  rw [List.zip_cons_cons,List.map_cons,List.map_cons,h1,h2]
  exact ⟨rfl,rfl⟩
/-- What a right move has. -/
theorem Sj {m:Mov} (h:PrM m):Bs m=true∧(m.kind≠3→∀c∈m.give,1≤c.kind∧c.kind≤3)∧(m.kind=3→∀c∈m.give,c.kind=0)∧E8 m=true:=by
 have h1:=h.one
 unfold Cf at h1
 simp only [Bool.and_eq_true,List.all_eq_true] at h1
 refine ⟨h1.1.1.1.1.1,fun hk c hc=>?_,fun hk c hc=>?_,h1.2⟩
 ·have:=h1.1.1.1.1.2 c hc
  unfold Ef at this
  simp only [Bool.and_eq_true] at this
  have e:(m.kind==3)=false:=by simpa using hk
  rw [e] at this
  exact Yr (by simpa using this.2.1)
 have:=h1.1.1.1.1.2 c hc
 unfold Ef at this
 simp only [Bool.and_eq_true] at this
 rw [hk] at this
 simpa using this.2.2
theorem qn {m:Mov} (h:PrM m) (hk:m.kind≠3):∀p∈m.give.zip m.ahead,1≤p.1.kind∧p.1.kind≤3∧PrE p.2:=fun p hp=>by
 have h1:=(Sj h).2.1 hk p.1 (List.of_mem_zip hp).1
 exact AB6
theorem qo {l:List Tok} {m:Mov} {i:Nat} {rest:List TK} (h:PrM m) (hs:seg l i=F4 m++(5,[59])::rest):Ei l ⟨m.kind,[],[],[],[]⟩ i=.ok m (i+(F4 m).length):=by
 obtain ⟨hc,hg3,hg0,hl⟩:=Sj h
 obtain ⟨hal,hbl⟩:=Dq hc
 have hgo:=qn h
 have hba:=h.back
 have hz:=Wl hal
 unfold Bs at hc
 rw [if_neg (by simp [hal,hbl])] at hc
 obtain ⟨k,take,give,ahead,back⟩:=m
 simp only at *
 by_cases k1:(k==1)=true
 ·rw [if_pos k1,Bool.and_eq_true] at hc
  have e:k=1:=by simpa using k1
  subst e
  obtain rfl:=Px hc.1
  obtain ⟨c,rfl⟩:=Eg hc.2
  obtain ⟨x,rfl⟩:∃x,ahead=[x]:=List.length_eq_one_iff.1 (by simpa using hal)
  obtain rfl:back=[]:=List.eq_nil_of_length_eq_zero (by simpa using hbl)
  have hb:F4 ⟨1,[],[c],[x],[]⟩=D3 c x:=by show Cw [D3 c x]=_;exact E9 _
  rw [hb] at hs ⊢
  have hp:=hgo (by decide) (c,x) (by simp)
  exact N6 (m:=⟨1,[],[],[],[]⟩) hp.1 hp.2.1 hp.2.2 hs (Ed _)
 rw [if_neg k1] at hc
 by_cases k2:(k==2)=true
 ·rw [if_pos k2,Bool.and_eq_true] at hc
  have e:k=2:=by simpa using k2
  subst e
  obtain ⟨s,rfl⟩:=Eg hc.1
  obtain rfl:=Px hc.2
  obtain rfl:ahead=[]:=List.eq_nil_of_length_eq_zero (by simpa using hal)
  have hb:F4 ⟨2,[s],[],[],back⟩=(1,s)::(2,backW)::Cw (back.map A9):=by show Cw [[(1,s)]]++_=_;rw [E9];rfl
  rw [hb] at hs ⊢
  show ((De l i).bind fun s j=>Ck l (takeS ⟨2,[],[],[],[]⟩ s) j)=_
  rw [Ew hs]
  show Ck l ⟨2,[s],[],[],[]⟩ (i+1)=_
  rw [N7 (m:=⟨2,[s],[],[],[]⟩) hba hbl (fun e=>by rw [e] at hbl;simp at hbl) (Ed _) Ij (Af hs).2.2.1]
  simp only [List.nil_append,List.length_cons]
  congr 1
  omega
 rw [if_neg k2] at hc
 by_cases k3:(k==3)=true
 ·rw [if_pos (show ((k==3) || (k==6))=true by rw [k3];rfl),Bool.and_eq_true] at hc
  have e:k=3:=by simpa using k3
  subst e
  obtain ⟨s,rfl⟩:=Eg hc.1
  obtain ⟨c,rfl⟩:=Eg hc.2
  obtain ⟨x,rfl⟩:∃x,ahead=[x]:=List.length_eq_one_iff.1 (by simpa using hal)
  obtain ⟨y,rfl⟩:∃x,back=[x]:=List.length_eq_one_iff.1 (by simpa using hbl)
  have hc0:=hg0 rfl c (by simp)
  obtain ⟨t,q⟩:=c
  have e0:q=0:=hc0
  subst e0
  have hl':(eqE x (Aq s)&&eqE y (Aq t))=true:=hl
  rw [Bool.and_eq_true] at hl'
  obtain rfl:x=Aq s:=(Jh _ _).1 hl'.1
  obtain rfl:y=Aq t:=(Jh _ _).1 hl'.2
  have hb:F4 ⟨3,[s],[⟨t,0⟩],[Aq s],[Aq t]⟩=[(1,s),(2,toW),(1,t)]:=by show Cw [[(1,s)]]++_=_;rw [E9];rfl
  rw [hb] at hs ⊢
  show ((De l i).bind _)=_
  have s1:=(Af hs).2.2.1
  have s2:=(Af s1).2.2.1
  rw [Ew hs]
  show ((Bc l toW (i+1)).bind _)=_
  rw [Dn (by decide) s1]
  show ((De l (i+1+1)).bind _)=_
  rw [Ew s2]
  rfl
 by_cases k6:(k==6)=true
 ·rw [if_pos (show ((k==3) || (k==6))=true by rw [k6];simp),Bool.and_eq_true] at hc
  have e:k=6:=by simpa using k6
  subst e
  obtain ⟨s,rfl⟩:=Eg hc.1
  obtain ⟨c,rfl⟩:=Eg hc.2
  obtain ⟨x,rfl⟩:∃x,ahead=[x]:=List.length_eq_one_iff.1 (by simpa using hal)
  have hsn:s=c.name:=by
   have hl':(s==c.name)=true:=hl
   simpa using hl'
  subst hsn
  have hb:F4 ⟨6,[c.name],[c],[x],back⟩=D3 c x++(2,backW)::Cw (back.map A9):=by show Cw [D3 c x]++_=_;rw [E9];rfl
  rw [hb,List.append_assoc] at hs
  rw [hb]
  have hp:=hgo (by decide) (c,x) (by simp)
  show ((C0 l ⟨6,[],[],[],[]⟩ i).bind _)=_
  rw [N6 hp.1 hp.2.1 hp.2.2 hs (Hn _)]
  show Ck l ⟨6,[c.name],[c],[x],[]⟩ (i+(D3 c x).length)=_
  rw [N7 (m:=⟨6,[c.name],[c],[x],[]⟩) hba hbl (fun e=>by rw [e] at hbl;simp at hbl) (Ed _) Ij (B1 hs)]
  simp only [List.nil_append,List.length_cons,List.length_append]
  congr 1
  omega
 rw [if_neg (show ¬((k==3) || (k==6))=true by rw [Bool.or_eq_true];rintro (h|h);exact k3 h;exact k6 h)] at hc
 have hz1:∀{n:Nat},give.length=n→(give.zip ahead).length=n:=fun e=>by rw [List.length_zip,hal,e];simp
 by_cases k4:(k==4)=true
 ·rw [if_pos k4,Bool.and_eq_true] at hc
  have e:k=4:=by simpa using k4
  subst e
  obtain ⟨s,rfl⟩:=Eg hc.1
  have hg2:2≤give.length:=by have:=hc.2;simp at this;omega
  have hb:F4 ⟨4,[s],give,ahead,back⟩=(1,s)::(2,intoW)::(Cw ((give.zip ahead).map fun p=>D3 p.1 p.2)++(2,backW)::Cw (back.map A9)):=by show Cw [[(1,s)]]++_=_;rw [E9];rfl
  rw [hb] at hs ⊢
  simp only [List.cons_append,List.append_assoc] at hs
  have s1:=(Af hs).2.2.1
  have s2:=(Af s1).2.2.1
  show ((De l i).bind _)=_
  rw [Ew hs]
  show ((Bc l intoW (i+1)).bind _)=_
  rw [Dn (by decide) s1]
  show ((Df l 0 (C0 l) ⟨4,[s],[],[],[]⟩ (i+1+1)).bind _)=_
  rw [l8 (hgo (by decide)) (.inr ⟨rfl,by rw [hz1 rfl];exact hg2⟩) (fun e=>by have:=hz1 rfl;rw [e] at this;simp at this;omega) (Hn _) Ys s2]
  show Ck l ⟨4,[s],[]++_,[]++_,[]⟩ _=_
  rw [N7 (m:=⟨4,[s],[]++(give.zip ahead).map (·.1),[]++(give.zip ahead).map (·.2),[]⟩) hba hbl (fun e=>by rw [e] at hbl;simp at hbl) (Ed _) Ij (B1 s2)]
  simp only [List.nil_append,hz.1,hz.2,List.length_cons,List.length_append]
  congr 1
  omega
 rw [if_neg k4] at hc
 by_cases k5:(k==5)=true
 ·rw [if_pos k5,Bool.and_eq_true] at hc
  have e:k=5:=by simpa using k5
  subst e
  obtain ⟨c,rfl⟩:=Eg hc.2
  have ht2:2≤take.length:=by have:=hc.1;simp at this;omega
  obtain ⟨x,rfl⟩:∃x,ahead=[x]:=List.length_eq_one_iff.1 (by simpa using hal)
  have hb:F4 ⟨5,take,[c],[x],back⟩=Cw (take.map fun s=>[(1,s)])++(2,intoW)::(D3 c x++(2,backW)::Cw (back.map A9)):=by show Cw _++(2,intoW)::(Cw [D3 c x]++_)=_;rw [E9];rfl
  rw [hb] at hs ⊢
  simp only [List.cons_append,List.append_assoc] at hs
  have s1:=B1 hs
  have s2:=(Af s1).2.2.1
  have hp:=hgo (by decide) (c,x) (by simp)
  show ((Df l 0 (Ii l) ⟨5,[],[],[],[]⟩ i).bind _)=_
  rw [Uo ht2 (Um _) gi hs]
  show ((Bc l intoW _).bind _)=_
  rw [Dn (by decide) s1]
  show ((C0 l _ _).bind _)=_
  rw [N6 hp.1 hp.2.1 hp.2.2 s2 (Hn _)]
  show Ck l ⟨5,[]++take,[c],[x],[]⟩ _=_
  rw [N7 (m:=⟨5,[]++take,[c],[x],[]⟩) hba hbl (fun e=>by rw [e] at hbl;simp at hbl;omega) (Ed _) Ij (B1 s2)]
  simp only [List.nil_append,List.length_cons,List.length_append]
  congr 1
  omega
 rw [if_neg k5] at hc
 cases hc
theorem qq {m:Mov} (h:PrM m):m.kind=1∨m.kind=2∨m.kind=3∨m.kind=4∨m.kind=5∨m.kind=6:=by
 have hc:=(Sj h).1
 unfold Bs at hc
 split at hc
 ·cases hc
 split at hc
 ·rename_i h;exact .inl (by simpa using h)
 split at hc
 ·rename_i h;exact .inr (.inl (by simpa using h))
 split at hc
 ·rename_i h
  rw [Bool.or_eq_true] at h
  rcases h with h|h
  ·exact .inr (.inr (.inl (by simpa using h)))
  exact .inr (.inr (.inr (.inr (.inr (by simpa using h)))))
 split at hc
 ·rename_i h;exact .inr (.inr (.inr (.inl (by simpa using h))))
 split at hc
 ·rename_i h;exact .inr (.inr (.inr (.inr (.inl (by simpa using h)))))
 cases hc
theorem Up {k:Int} (h:k=1∨k=2∨k=3∨k=4∨k=5∨k=6):D7 (Av k)=k∧(k==0)=false:=by
 rcases h with rfl|rfl|rfl|rfl|rfl|rfl<;>exact ⟨by kernel_rfl,rfl⟩
theorem qr {l:List Tok} {m:Mov} {i:Nat} {rest:List TK} (h:PrM m) (hs:seg l i=mvT m++rest):F8 l i=.ok m (i+(mvT m).length):=by
 rw [Wk] at hs ⊢
 simp only [List.cons_append,List.append_assoc,List.nil_append] at hs
 obtain ⟨h1,h2,s1,_⟩:=Af hs
 obtain ⟨w1,w2⟩:=Up (qq h)
 unfold F8
 rw [h1,h2,w1,w2,if_neg (by decide),qo h s1]
 show ((Bc l [59] (i+1+(F4 m).length)).bind _)=_
 rw [Dn (by decide) (B1 s1)]
 show PR.ok m _=_
 rw [List.length_cons,List.length_append]
 congr 1
 simp
 omega
theorem Sk {l:List Tok}:∀(ms:List Mov) (f:Nat) (acc:List Mov) (i:Nat),(∀m∈ms,PrM m)→acc.length+ms.length≤8→acc.length+f=9→seg l i=ms.flatMap mvT++[(0,[])]→Cr l f acc i=.ok (acc++ms) (i+(ms.flatMap mvT).length)
 | [],0,acc,i,_,h8,hf,_=>by simp at h8;omega
 | [],f+1,acc,i,_,h8,hf,hs=>by
  rw [Cr,(Af hs).1,if_neg (by decide),List.append_nil]
  rfl
 | m::ms,0,acc,i,_,h8,hf,_=>by simp at h8;omega
 | m::ms,f+1,acc,i,h,h8,hf,hs=>by
  rw [List.flatMap_cons,List.append_assoc] at hs
  have hs':=hs
  rw [Wk] at hs'
  simp only [List.cons_append] at hs'
  simp only [List.length_cons] at h8
  rw [Cr,(Af hs').1,if_pos (by decide),if_neg (by simp only [beq_iff_eq];omega),qr (h m List.mem_cons_self) hs]
  show Cr l f (acc++[m]) (i+(mvT m).length)=_
  rw [Sk ms f (acc++[m]) _ (fun x hx=>h x (.tail _ hx)) (by rw [List.length_append];simp;omega) (by rw [List.length_append];simp;omega) (B1 hs),List.append_assoc,List.flatMap_cons,List.length_append,Nat.add_assoc]
  rfl
/-! Two sources, one behind the other, with a line's end between. -/
/-! The text of moves, and its words. -/
def B7:List Str→Str
 | []=>[]
 | s::r=>s++r.flatMap fun u=>[44,32]++u
def Uq (c:Col) (x:Expr):Str:=c.name++([32]++(Ah c.kind++([32]++([61]++([32]++A8 x)))))
def Fk (m:Mov):Str:=B7 ((m.give.zip m.ahead).map fun p=>Uq p.1 p.2)
def H3 (m:Mov):Str:=B7 m.take
def Fx (m:Mov):Str:=[32]++(backW++([32]++B7 (m.back.map A8)))
def I6 (m:Mov):Str:=if m.kind==1 then Fk m else if m.kind==2 then H3 m++Fx m else if m.kind==3 then H3 m++([32]++(toW++([32]++(m.give.getD 0 ⟨[],0⟩).name))) else if m.kind==6 then Fk m++Fx m else H3 m++([32]++(intoW++([32]++(Fk m++Fx m))))
/-- A move's text. -/
def mvS (m:Mov):Str:=Av m.kind++([32]++(I6 m++([59]++[10])))
theorem Lx.nl (R:Str):Lx [10] [] R:=fun f q hf=>⟨[],rfl,by
 have h:gapM (10::R)=1+gapM R:=by
  unfold gapM
  rw [Dm,if_pos (by decide)]
  have:=L1 R false
  simp only [List.length_cons]
  omega
 show Jw f q (10::R)=_
 unfold Jw
 rw [h,List.map_nil,List.nil_append,Nat.add_comm 1,List.drop_succ_cons,show q+(gapM R+1)=q+[(10:UInt8)].length+gapM R by simp;omega]⟩
theorem Tg {u R:Str} {T:List TK} (h:Lx u T R):Lx ([32]++u) T R:=Pv h
theorem vu {k:Int} (h1:1≤k) (h3:k≤3) {R:Str} (hR:Di R):Lx (Ah k) [(2,Ah k)] R:=by
 have:k=1∨k=2∨k=3:=by omega
 rcases this with rfl|rfl|rfl<;>exact Sb (by kernel_rfl) hR
theorem ADw (Z:Str):Lx [61] [(5,[61])] ([32]++Z):=Jm (by kernel_rfl) (fun d r e=>by injection e with e1 e2;rw [←e1];decide)
theorem yx {c:Col} {x:Expr} (hn:E0 c.name=true) (h1:1≤c.kind) (h3:c.kind≤3) (hx:PL x) {R:Str} (hR:Di R):Lx (Uq c x) (D3 c x) R:=by
 have a1:=Tg (hx.1 R hR)
 have a2:Lx ([61]++([32]++A8 x)) ([(5,[61])]++A9 x) R:=Lx.app (by rw [List.append_assoc];exact ADw _) a1
 have a3:Lx (Ah c.kind++([32]++([61]++([32]++A8 x)))) ([(2,Ah c.kind)]++([(5,[61])]++A9 x)) R:=Lx.app (vu h1 h3 (F0 _)) (Tg a2)
 have a4:Lx (Uq c x) ([(1,c.name)]++([(2,Ah c.kind)]++([(5,[61])]++A9 x))) R:=Lx.app (Sa hn (F0 _)) (Tg a3)
 exact a4
theorem qt {α:Type} {s:α→Str} {tk:α→List TK}:∀(its:List α),(∀it∈its,∀R,Di R→Lx (s it) (tk it) R)→∀R,Di R→Lx ((its.map s).flatMap fun u=>[44,32]++u) (its.flatMap fun it=>(5,[44])::tk it) R∧Di (((its.map s).flatMap fun u=>[44,32]++u)++R)
 | [],_,R,hR=>⟨Lx.nil R,hR⟩
 | a::r,h,R,hR=>by
  obtain ⟨h1,h2⟩:=qt r (fun it hit=>h it (.tail _ hit)) R hR
  refine ⟨?_,?_⟩
  ·have b1:Lx (s a++(r.map s).flatMap fun u=>[44,32]++u) (tk a++r.flatMap fun it=>(5,[44])::tk it) R:=Lx.app (h a List.mem_cons_self _ h2) h1
   have b2:=Lx.app (g8 _) b1
   rw [List.map_cons,List.flatMap_cons,List.flatMap_cons]
   simpa using b2
  rw [List.map_cons,List.flatMap_cons]
  exact fx _
theorem Wm {α:Type} {s:α→Str} {tk:α→List TK} {its:List α} (h:∀it∈its,∀R,Di R→Lx (s it) (tk it) R) {R:Str} (hR:Di R):Lx (B7 (its.map s)) (Cw (its.map tk)) R:=by
 cases its with
 | nil=>exact Lx.nil R
 | cons a r =>
  obtain ⟨h1,h2⟩:=qt r (fun it hit=>h it (.tail _ hit)) R hR
  have:=Lx.app (h a List.mem_cons_self _ h2) h1
  rw [List.map_cons,List.map_cons,B7,Cw,List.flatMap_map (f:=tk)]
  exact this
/-- A tree that may be printed. -/
structure PrT (x:Expr):Prop where
 node:B0 At x=true
 rng:B0 D6 x=true
theorem PrT.pl {x:Expr} (h:PrT x):PL x:=Ym (sizeE x) x (Nat.le_refl _) h.node h.rng
/-- What the text of a move needs. -/
structure PrS (m:Mov):Prop where
 kinds:m.kind=1∨m.kind=2∨m.kind=3∨m.kind=4∨m.kind=5∨m.kind=6
 takes:∀s∈m.take,E0 s=true
 gives:∀c∈m.give,E0 c.name=true
 cols:m.kind≠3→∀c∈m.give,1≤c.kind∧c.kind≤3
 one:m.kind=3→m.give≠[]
 ahead:∀x∈m.ahead,PrT x
 back:∀x∈m.back,PrT x
theorem gj {m:Mov} (h:PrS m) (hk:m.kind≠3) {R:Str} (hR:Di R):Lx (Fk m) (Jp m) R:=
 Wm (s:=fun p:Col×Expr=>Uq p.1 p.2) (tk:=fun p=>D3 p.1 p.2) (fun p hp R hR=>by
  have hc:=(List.of_mem_zip hp).1
  have hb:=h.cols hk p.1 hc
  exact yx (h.gives _ hc) hb.1 hb.2 (h.ahead _ (List.of_mem_zip hp).2).pl hR) hR
theorem Wn {m:Mov} (h:PrS m) {R:Str} (hR:Di R):Lx (H3 m) (M4 m) R:=by
 have:=Wm (s:=fun s:Str=>s) (tk:=fun s=>[((1:Int),s)]) (its:=m.take) (fun s hs R hR=>Sa (h.takes s hs) hR) hR
 rw [List.map_id'] at this
 exact this
theorem gk {m:Mov} (h:PrS m) {R:Str} (hR:Di R):Lx (Fx m) (Jq m) R:=by
 have a:=Wm (s:=A8) (tk:=A9) (its:=m.back) (fun x hx R hR=>(h.back x hx).pl.1 R hR) hR
 have b:Lx (backW++([32]++B7 (m.back.map A8))) ([(2,backW)]++Cw (m.back.map A9)) R:=Lx.app (Sb (by kernel_rfl) (F0 _)) (Tg a)
 exact Tg b
theorem Sl {m:Mov} {R:Str}:Di (Fx m++R):=F0 _
theorem yy {m:Mov} (h:PrS m) {R:Str} (hR:Di R):Lx (I6 m) (F4 m) R:=by
 unfold I6 F4
 by_cases k1:(m.kind==1)=true
 ·rw [if_pos k1,if_pos k1]
  exact gj h (by
   have:m.kind=1:=by simpa using k1
   omega) hR
 rw [if_neg k1,if_neg k1]
 by_cases k2:(m.kind==2)=true
 ·rw [if_pos k2,if_pos k2]
  exact Lx.app (Wn h Sl) (gk h hR)
 rw [if_neg k2,if_neg k2]
 by_cases k3:(m.kind==3)=true
 ·rw [if_pos k3,if_pos k3]
  have e:m.kind=3:=by simpa using k3
  have hn:E0 (m.give.getD 0 ⟨[],0⟩).name=true:=by
   have:=h.one e
   cases hg:m.give with
   | nil=>exact absurd hg this
   | cons c r=>exact h.gives c (by rw [hg];exact List.mem_cons_self)
  have a:Lx (toW++([32]++(m.give.getD 0 ⟨[],0⟩).name)) ([(2,toW)]++[(1,(m.give.getD 0 ⟨[],0⟩).name)]) R:=Lx.app (Sb (by kernel_rfl) (F0 _)) (Tg (Sa hn hR))
  exact Lx.app (Wn h (F0 _)) (Tg a)
 rw [if_neg k3,if_neg k3]
 have n3:m.kind≠3:=by simpa using k3
 have gb:Lx (Fk m++Fx m) (Jp m++Jq m) R:=Lx.app (gj h n3 Sl) (gk h hR)
 by_cases k6:(m.kind==6)=true
 ·rw [if_pos k6,if_pos k6]
  exact gb
 rw [if_neg k6,if_neg k6]
 have a:Lx (intoW++([32]++(Fk m++Fx m))) ([(2,intoW)]++(Jp m++Jq m)) R:=Lx.app (Sb (by kernel_rfl) (F0 _)) (Tg gb)
 exact Lx.app (Wn h (F0 _)) (Tg a)
theorem ADx {m:Mov} (h:PrS m) (R:Str):Lx (mvS m) (mvT m) R:=by
 have a:Lx ([59]++[10]) ([(5,[59])]++[]) R:=Lx.app (Jm (by kernel_rfl) (fun d r e=>by injection e with e1 e2;rw [←e1];decide)) (Lx.nl R)
 have b:Lx (I6 m++([59]++[10])) (F4 m++[(5,[59])]) R:=Lx.app (yy h (vj _)) a
 have w:∀Z,Lx (Av m.kind) [(2,Av m.kind)] (32::Z):=fun Z=>by
  rcases h.kinds with e|e|e|e|e|e<;>rw [e]<;>exact Sb (by kernel_rfl) (F0 _)
 exact Lx.app (w _) (Tg b)
theorem x5:∀(ms:List Mov),(∀m∈ms,PrS m)→∀R,Lx (ms.flatMap mvS) (ms.flatMap mvT) R
 | [],_,R=>Lx.nil R
 | m::ms,h,R=>by
  rw [List.flatMap_cons,List.flatMap_cons]
  exact Lx.app (ADx (h m List.mem_cons_self) _) (x5 ms (fun x hx=>h x (.tail _ hx)) R)
/-- The words of what is printed. -/
theorem d9 {ms:List Mov} (h:∀m∈ms,PrS m) (hl:(ms.flatMap mvS).length≤4000):∃(L:List Tok) (n:Nat),Db (ms.flatMap mvS)=(L++[⟨0,[],n⟩],0,0)∧L.map ktT=ms.flatMap mvT:=by
 obtain ⟨M,hM,e⟩:=x5 ms h [] ((ms.flatMap mvS).length+1) 0 (by simp)
 rw [List.append_nil] at e
 have e0:Jw ((ms.flatMap mvS).length+1) (0+(ms.flatMap mvS).length) []=[]:=by
  unfold Jw
  rw [List.drop_nil,E6]
  rfl
 rw [e0,List.append_nil] at e
 have hi:B3 (ms.flatMap mvS)=M.map (fun t=>(t,0)):=by rw [ov];exact e
 have:=uj hl (by rw [hi];intro it hit;obtain ⟨t,_,rfl⟩:=List.mem_map.1 hit;rfl)
 refine ⟨M,(ms.flatMap mvS).length,?_,hM⟩
 rw [this,hi,List.map_map]
 simp [Function.comp_def]
/-! The same where brackets may nest too deep: then 18 is told. -/
def Q18 {α:Type} (x:PR α) (r:α) (j:Nat):Prop:=x=.ok r j∨∃a,x=.bad 18 a
theorem Q18.bind {α β:Type} {x:PR α} {f:α→Nat→PR β} {r:α} {j:Nat} {r':β} {j':Nat} (h:Q18 x r j) (h2:Q18 (f r j) r' j'):Q18 (x.bind f) r' j':=by
 rcases h with rfl|⟨a,rfl⟩
 ·exact h2
 exact .inr ⟨a,rfl⟩
theorem Q18.ok {α:Type} {x:PR α} {r:α} {j:Nat} (h:x=.ok r j):Q18 x r j:=.inl h
theorem Q18.at {α:Type} {x:PR α} {r:α} {j j':Nat} (h:Q18 x r j) (e:j=j'):Q18 x r j':=e ▸ h
/-- A tree that may be printed. -/
structure PrD (x:Expr):Prop where
 right:Ax x=true
 rng:B0 D6 x=true
theorem gm {l:List Tok} {i:Nat} {x:Expr} {rest:List TK} (hx:PrD x) (hs:seg l i=A9 x++rest) (hst:stops 0 rest):Q18 (Fw l i) x (i+(A9 x).length):=by
 by_cases hn:Ag x≤30
 ·exact .inl (Sh ⟨hx.right,hx.rng,hn⟩ hs hst)
 have h1:(atR l i).2.code=18:=(Ul l _ x (Nat.le_refl _) (Ev hx.right) hx.rng).1 0 ⟨i,0,0,0⟩ rest (Nat.zero_le _) rfl (by show 0≤30;omega) (by show 30<0+Ag x;omega) hs hst
 have h2:(atS l i (atR l i)).code=18:=by
  unfold atS
  rw [if_pos (by rw [h1];decide)]
  exact h1
 refine .inr ⟨(atS l i (atR l i)).at_,?_⟩
 have e:atM l i=(Ad,0,18,(atS l i (atR l i)).at_):=by
  unfold atM
  rw [if_pos (by rw [h2];decide),h2]
 unfold Fw
 rw [e,if_pos (by show ((18:Int) != 0)=true;decide)]
theorem Py {l:List Tok} {m:Mov} {i:Nat} {c:Col} {x:Expr} {rest:List TK} (h1:1≤c.kind) (h3:c.kind≤3) (hx:PrD x) (hs:seg l i=D3 c x++rest) (hst:stops 0 rest):Q18 (C0 l m i) (J0 (Bi m c) x) (i+(D3 c x).length):=by
 unfold D3 at hs
 simp only [List.cons_append] at hs
 have s1:=(Af hs).2.2.1
 have s2:=(Af s1).2.2.1
 have s3:=(Af s2).2.2.1
 have e:Ez l i=.ok c (i+1+1):=by
  unfold Ez
  rw [Ew hs]
  show N0 l c.name (i+1)=_
  rw [Yq h1 h3 s1]
 have h:Q18 (C0 l m i) (J0 (Bi m c) x) (i+1+1+1+(A9 x).length):=Q18.bind (Q18.ok e) <| Q18.bind (Q18.ok (Dn (by decide) s2)) <| Q18.bind (gm hx s3 hst) <| .inl rfl
 exact h.at (by simp [D3];omega)
theorem Yt {l:List Tok} {α:Type} {one:Mov→Nat→PR Mov} {tk:α→List TK} {ap:Mov→α→Mov} {P:α→Prop} {n:Int} (h1:∀it,P it→∀m i rest,stops 0 rest→seg l i=tk it++rest→Q18 (one m i) (ap m it) (i+(tk it).length)) {rest:List TK} (hst:stops 0 rest) (hr:∃k t r,rest=(k,t)::r∧t≠[44]):
  ∀(its:List α) (k f:Nat) (m:Mov) (i:Nat),1≤k→(∀it∈its,P it)→its.length<f→seg l i=(its.flatMap fun it=>(5,[44])::tk it)++rest→(n=k+its.length∨(n=0∧2≤k+its.length))→Q18 (Fz l n one f k m i) (its.foldl ap m) (i+(its.flatMap fun it=>(5,[44])::tk it).length)
 | [],k,f,m,i,hk1,_,hf,hs,hn=>by
  exact .inl (Od (one:=one) (tk:=tk) (ap:=ap) (P:=fun _=>False) (fun _ h=>h.elim) I5 hst hr [] k f m i hk1 (fun _ h=>by cases h) hf hs hn)
 | it::its,k,f,m,i,hk1,hP,hf,hs,hn=>by
  obtain ⟨f,rfl⟩:∃g,f=g+1:=⟨f-1,by simp at hf;omega⟩
  rw [List.flatMap_cons,List.append_assoc,List.cons_append] at hs
  have s1:=(Af hs).2.2.1
  have:H7 l n k i=true:=by
   unfold H7
   rw [d8 hs]
   simp only [List.length_cons] at hn
   rcases hn with hn|⟨hn,h2⟩
   ·rw [show decide ((k:Int)<n)=true from decide_eq_true (by omega)]
    rfl
   rw [hn]
   simp
  have hst2:stops 0 ((its.flatMap fun it=>(5,[44])::tk it)++rest):=by
   cases its with
   | nil=>exact hst
   | cons a b=>rw [List.flatMap_cons];exact I5 _
  rw [Fz,this,if_pos rfl]
  refine (Q18.bind (Q18.ok (Dn (by decide) hs)) <| Q18.bind (h1 it (hP it List.mem_cons_self) m (i+1) _ hst2 s1) <| Yt h1 hst hr its (k+1) f (ap m it) _ (by omega) (fun x hx=>hP x (.tail _ hx)) (by simp at hf;omega) (B1 s1) (by simp only [List.length_cons] at hn;omega)).at ?_
  simp only [List.flatMap_cons,List.length_append,List.length_cons]
  omega
theorem gn {l:List Tok} {α:Type} {one:Mov→Nat→PR Mov} {tk:α→List TK} {ap:Mov→α→Mov} {P:α→Prop} {n:Int} (h1:∀it,P it→∀m i rest,stops 0 rest→seg l i=tk it++rest→Q18 (one m i) (ap m it) (i+(tk it).length)) {rest:List TK} (hst:stops 0 rest) (hr:∃k t r,rest=(k,t)::r∧t≠[44])
  {its:List α} {m:Mov} {i:Nat} (h0:its≠[]) (hP:∀it∈its,P it) (hs:seg l i=Cw (its.map tk)++rest) (hn:n=its.length∨(n=0∧2≤its.length)):Q18 (Df l n one m i) (its.foldl ap m) (i+(Cw (its.map tk)).length):=by
 cases its with
 | nil=>exact absurd rfl h0
 | cons a r =>
  have e:Cw ((a::r).map tk)=tk a++r.flatMap fun it=>(5,[44])::tk it:=by
   rw [List.map_cons,Cw,List.flatMap_map]
  rw [e,List.append_assoc] at hs
  have hst2:stops 0 ((r.flatMap fun it=>(5,[44])::tk it)++rest):=by
   cases r with
   | nil=>exact hst
   | cons a b=>rw [List.flatMap_cons];exact I5 _
  have s1:=B1 hs
  have hl:=gh s1
  rw [List.length_append] at hl
  have hf:=Oe (tk:=tk) r
  refine (Q18.bind (h1 a (hP a List.mem_cons_self) m i _ hst2 hs) <| Yt h1 hst hr r 1 (l.length+1) (ap m a) _ (Nat.le_refl _) (fun x hx=>hP x (.tail _ hx)) (by omega) s1 (by simp only [List.length_cons] at hn;omega)).at ?_
  rw [e,List.length_append,Nat.add_assoc]
theorem Pz {l:List Tok} {m:Mov} {xs:List Expr} {i:Nat} {rest:List TK} (hx:∀x∈xs,PrD x) (hn:xs.length=m.take.length) (h0:xs≠[]) (hst:stops 0 rest) (hr:∃k t r,rest=(k,t)::r∧t≠[44]) (hs:seg l i=(2,backW)::(Cw (xs.map A9)++rest)):Q18 (Ck l m i) ⟨m.kind,m.take,m.give,m.ahead,m.back++xs⟩ (i+1+(Cw (xs.map A9)).length):=by
 rw [←Og]
 exact Q18.bind (Q18.ok (Dn (by decide) hs)) (gn (ap:=P9) (tk:=A9) (P:=PrD) (fun x hx m i rest hst hs=>Q18.bind (gm hx hs hst) (.inl rfl)) hst hr h0 hx (Af hs).2.2.1 (.inl (by rw [hn])))
theorem qu {l:List Tok} {n:Int} {m:Mov} {g:List (Col×Expr)} {i:Nat} {rest:List TK} (hg:∀p∈g,1≤p.1.kind∧p.1.kind≤3∧PrD p.2) (hn:n=g.length∨(n=0∧2≤g.length)) (h0:g≠[]) (hst:stops 0 rest) (hr:∃k t r,rest=(k,t)::r∧t≠[44]) (hs:seg l i=Cw (g.map fun p=>D3 p.1 p.2)++rest):Q18 (Df l n (C0 l) m i) ⟨m.kind,m.take,m.give++g.map (·.1),m.ahead++g.map (·.2),m.back⟩ (i+(Cw (g.map fun p=>D3 p.1 p.2)).length):=by
 rw [←Of]
 exact gn (ap:=fun m p=>J0 (Bi m p.1) p.2) (tk:=fun p=>D3 p.1 p.2) (P:=fun p=>1≤p.1.kind∧p.1.kind≤3∧PrD p.2) (fun p hp m i rest hst hs=>Py hp.1 hp.2.1 hp.2.2 hs hst) hst hr h0 hg hs hn
/-- A right move, its trees of any depth. -/
structure PrN (m:Mov):Prop where
 one:Cf m=true
 ahead:∀x∈m.ahead,PrD x
 back:∀x∈m.back,PrD x
theorem L9 {m:Mov} (h1:Cf m=true):Bs m=true∧(m.kind≠3→∀c∈m.give,1≤c.kind∧c.kind≤3)∧(m.kind=3→∀c∈m.give,c.kind=0)∧E8 m=true:=by
 unfold Cf at h1
 simp only [Bool.and_eq_true,List.all_eq_true] at h1
 refine ⟨h1.1.1.1.1.1,fun hk c hc=>?_,fun hk c hc=>?_,h1.2⟩
 ·have:=h1.1.1.1.1.2 c hc
  unfold Ef at this
  simp only [Bool.and_eq_true] at this
  have e:(m.kind==3)=false:=by simpa using hk
  rw [e] at this
  exact Yr (by simpa using this.2.1)
 have:=h1.1.1.1.1.2 c hc
 unfold Ef at this
 simp only [Bool.and_eq_true] at this
 rw [hk] at this
 simpa using this.2.2
theorem l9 {m:Mov} (h:PrN m) (hk:m.kind≠3):∀p∈m.give.zip m.ahead,1≤p.1.kind∧p.1.kind≤3∧PrD p.2:=fun p hp=>by
 have h1:=(L9 h.one).2.1 hk p.1 (List.of_mem_zip hp).1
 exact AB6
theorem vw {l:List Tok} {m:Mov} {i:Nat} {rest:List TK} (h:PrN m) (hs:seg l i=F4 m++(5,[59])::rest):Q18 (Ei l ⟨m.kind,[],[],[],[]⟩ i) m (i+(F4 m).length):=by
 obtain ⟨hc,hg3,hg0,hl⟩:=L9 h.one
 obtain ⟨hal,hbl⟩:=Dq hc
 have hgo:=l9 h
 have hba:=h.back
 have hz:=Wl hal
 unfold Bs at hc
 rw [if_neg (by simp [hal,hbl])] at hc
 obtain ⟨k,take,give,ahead,back⟩:=m
 simp only at *
 by_cases k1:(k==1)=true
 ·rw [if_pos k1,Bool.and_eq_true] at hc
  have e:k=1:=by simpa using k1
  subst e
  obtain rfl:=Px hc.1
  obtain ⟨c,rfl⟩:=Eg hc.2
  obtain ⟨x,rfl⟩:∃x,ahead=[x]:=List.length_eq_one_iff.1 (by simpa using hal)
  obtain rfl:back=[]:=List.eq_nil_of_length_eq_zero (by simpa using hbl)
  have hb:F4 ⟨1,[],[c],[x],[]⟩=D3 c x:=by show Cw [D3 c x]=_;exact E9 _
  rw [hb] at hs ⊢
  have hp:=hgo (by decide) (c,x) (by simp)
  exact Py (m:=⟨1,[],[],[],[]⟩) hp.1 hp.2.1 hp.2.2 hs (Ed _)
 rw [if_neg k1] at hc
 by_cases k2:(k==2)=true
 ·rw [if_pos k2,Bool.and_eq_true] at hc
  have e:k=2:=by simpa using k2
  subst e
  obtain ⟨s,rfl⟩:=Eg hc.1
  obtain rfl:=Px hc.2
  obtain rfl:ahead=[]:=List.eq_nil_of_length_eq_zero (by simpa using hal)
  have hb:F4 ⟨2,[s],[],[],back⟩=(1,s)::(2,backW)::Cw (back.map A9):=by show Cw [[(1,s)]]++_=_;rw [E9];rfl
  rw [hb] at hs ⊢
  show Q18 ((De l i).bind fun s j=>Ck l (takeS ⟨2,[],[],[],[]⟩ s) j) _ _
  have q:=Pz (m:=⟨2,[s],[],[],[]⟩) hba hbl (fun e=>by rw [e] at hbl;simp at hbl) (Ed _) Ij (Af hs).2.2.1
  rw [List.nil_append] at q
  exact (Q18.bind (Q18.ok (Ew hs)) q).at (by simp only [List.length_cons];omega)
 rw [if_neg k2] at hc
 by_cases k3:(k==3)=true
 ·rw [if_pos (show ((k==3) || (k==6))=true by rw [k3];rfl),Bool.and_eq_true] at hc
  have e:k=3:=by simpa using k3
  subst e
  obtain ⟨s,rfl⟩:=Eg hc.1
  obtain ⟨c,rfl⟩:=Eg hc.2
  obtain ⟨x,rfl⟩:∃x,ahead=[x]:=List.length_eq_one_iff.1 (by simpa using hal)
  obtain ⟨y,rfl⟩:∃x,back=[x]:=List.length_eq_one_iff.1 (by simpa using hbl)
  have hc0:=hg0 rfl c (by simp)
  obtain ⟨t,q⟩:=c
  have e0:q=0:=hc0
  subst e0
  have hl':(eqE x (Aq s)&&eqE y (Aq t))=true:=hl
  rw [Bool.and_eq_true] at hl'
  obtain rfl:x=Aq s:=(Jh _ _).1 hl'.1
  obtain rfl:y=Aq t:=(Jh _ _).1 hl'.2
  have hb:F4 ⟨3,[s],[⟨t,0⟩],[Aq s],[Aq t]⟩=[(1,s),(2,toW),(1,t)]:=by show Cw [[(1,s)]]++_=_;rw [E9];rfl
  rw [hb] at hs ⊢
  have s1:=(Af hs).2.2.1
  have s2:=(Af s1).2.2.1
  show Q18 (Gf l ⟨3,[],[],[],[]⟩ i) _ _
  exact (Q18.bind (Q18.ok (Ew hs)) <| Q18.bind (Q18.ok (Dn (by decide) s1)) <| Q18.bind (Q18.ok (Ew s2)) (.inl rfl))
 by_cases k6:(k==6)=true
 ·rw [if_pos (show ((k==3) || (k==6))=true by rw [k6];simp),Bool.and_eq_true] at hc
  have e:k=6:=by simpa using k6
  subst e
  obtain ⟨s,rfl⟩:=Eg hc.1
  obtain ⟨c,rfl⟩:=Eg hc.2
  obtain ⟨x,rfl⟩:∃x,ahead=[x]:=List.length_eq_one_iff.1 (by simpa using hal)
  have hsn:s=c.name:=by
   have hl':(s==c.name)=true:=hl
   simpa using hl'
  subst hsn
  have hb:F4 ⟨6,[c.name],[c],[x],back⟩=D3 c x++(2,backW)::Cw (back.map A9):=by show Cw [D3 c x]++_=_;rw [E9];rfl
  rw [hb,List.append_assoc] at hs
  rw [hb]
  have hp:=hgo (by decide) (c,x) (by simp)
  show Q18 ((C0 l ⟨6,[],[],[],[]⟩ i).bind fun m j=>Ck l (takeS m (m.give.getD 0 ⟨[],0⟩).name) j) _ _
  have q:=Pz (m:=⟨6,[c.name],[c],[x],[]⟩) hba hbl (fun e=>by rw [e] at hbl;simp at hbl) (Ed _) Ij (B1 hs)
  rw [List.nil_append] at q
  exact (Q18.bind (Py (m:=⟨6,[],[],[],[]⟩) hp.1 hp.2.1 hp.2.2 hs (Hn _)) q).at (by simp only [List.length_cons,List.length_append];omega)
 rw [if_neg (show ¬((k==3) || (k==6))=true by rw [Bool.or_eq_true];rintro (h|h);exact k3 h;exact k6 h)] at hc
 have hz1:(give.zip ahead).length=give.length:=by rw [List.length_zip,hal];simp
 by_cases k4:(k==4)=true
 ·rw [if_pos k4,Bool.and_eq_true] at hc
  have e:k=4:=by simpa using k4
  subst e
  obtain ⟨s,rfl⟩:=Eg hc.1
  have hg2:2≤give.length:=by have:=hc.2;simp at this;omega
  have hb:F4 ⟨4,[s],give,ahead,back⟩=(1,s)::(2,intoW)::(Cw ((give.zip ahead).map fun p=>D3 p.1 p.2)++(2,backW)::Cw (back.map A9)):=by show Cw [[(1,s)]]++_=_;rw [E9];rfl
  rw [hb] at hs ⊢
  simp only [List.cons_append,List.append_assoc] at hs
  have s1:=(Af hs).2.2.1
  have s2:=(Af s1).2.2.1
  show Q18 ((De l i).bind fun s j=>(Bc l intoW j).bind fun _ j=>(Df l 0 (C0 l) (takeS ⟨4,[],[],[],[]⟩ s) j).bind fun m j=>Ck l m j) _ _
  have g:=qu (l:=l) (m:=⟨4,[s],[],[],[]⟩) (hgo (by decide)) (.inr ⟨rfl,by rw [hz1];exact hg2⟩) (fun e=>by rw [e] at hz1;simp at hz1;omega) (Hn _) Ys s2
  rw [List.nil_append,List.nil_append,hz.1,hz.2] at g
  have q:=Pz (m:=⟨4,[s],give,ahead,[]⟩) hba hbl (fun e=>by rw [e] at hbl;simp at hbl) (Ed _) Ij (B1 s2)
  rw [List.nil_append] at q
  exact (Q18.bind (Q18.ok (Ew hs)) <| Q18.bind (Q18.ok (Dn (by decide) s1)) <| Q18.bind g q).at (by simp only [List.length_cons,List.length_append];omega)
 rw [if_neg k4] at hc
 by_cases k5:(k==5)=true
 ·rw [if_pos k5,Bool.and_eq_true] at hc
  have e:k=5:=by simpa using k5
  subst e
  obtain ⟨c,rfl⟩:=Eg hc.2
  have ht2:2≤take.length:=by have:=hc.1;simp at this;omega
  obtain ⟨x,rfl⟩:∃x,ahead=[x]:=List.length_eq_one_iff.1 (by simpa using hal)
  have hb:F4 ⟨5,take,[c],[x],back⟩=Cw (take.map fun s=>[(1,s)])++(2,intoW)::(D3 c x++(2,backW)::Cw (back.map A9)):=by show Cw _++(2,intoW)::(Cw [D3 c x]++_)=_;rw [E9];rfl
  rw [hb] at hs ⊢
  simp only [List.cons_append,List.append_assoc] at hs
  have s1:=B1 hs
  have s2:=(Af s1).2.2.1
  have hp:=hgo (by decide) (c,x) (by simp)
  show Q18 ((Df l 0 (Ii l) ⟨5,[],[],[],[]⟩ i).bind fun m j=>(Bc l intoW j).bind fun _ j=>(C0 l m j).bind fun m j=>Ck l m j) _ _
  have q:=Pz (m:=⟨5,take,[c],[x],[]⟩) hba hbl (fun e=>by rw [e] at hbl;simp at hbl;omega) (Ed _) Ij (B1 s2)
  rw [List.nil_append] at q
  have t:=Uo (l:=l) (m:=⟨5,[],[],[],[]⟩) ht2 (Um _) gi hs
  rw [List.nil_append] at t
  exact (Q18.bind (Q18.ok t) <| Q18.bind (Q18.ok (Dn (by decide) s1)) <| Q18.bind (Py (m:=⟨5,take,[],[],[]⟩) hp.1 hp.2.1 hp.2.2 s2 (Hn _)) q).at (by simp only [List.length_cons,List.length_append];omega)
 rw [if_neg k5] at hc
 cases hc
theorem Oh {m:Mov} (h:Cf m=true):m.kind=1∨m.kind=2∨m.kind=3∨m.kind=4∨m.kind=5∨m.kind=6:=by
 have hc:=(L9 h).1
 unfold Bs at hc
 split at hc
 ·cases hc
 split at hc
 ·rename_i h;exact .inl (by simpa using h)
 split at hc
 ·rename_i h;exact .inr (.inl (by simpa using h))
 split at hc
 ·rename_i h
  rw [Bool.or_eq_true] at h
  rcases h with h|h
  ·exact .inr (.inr (.inl (by simpa using h)))
  exact .inr (.inr (.inr (.inr (.inr (by simpa using h)))))
 split at hc
 ·rename_i h;exact .inr (.inr (.inr (.inl (by simpa using h))))
 split at hc
 ·rename_i h;exact .inr (.inr (.inr (.inr (.inl (by simpa using h)))))
 cases hc
theorem vx {l:List Tok} {m:Mov} {i:Nat} {rest:List TK} (h:PrN m) (hs:seg l i=mvT m++rest):Q18 (F8 l i) m (i+(mvT m).length):=by
 rw [Wk] at hs ⊢
 simp only [List.cons_append,List.append_assoc,List.nil_append] at hs
 obtain ⟨h1,h2,s1,_⟩:=Af hs
 obtain ⟨w1,w2⟩:=Up (Oh h.one)
 unfold F8
 rw [h1,h2,w1,w2,if_neg (by decide)]
 have q:Q18 ((Ei l ⟨m.kind,[],[],[],[]⟩ (i+1)).bind fun m j=>(Bc l [59] j).bind fun _ j=>.ok m j) m (i+1+(F4 m).length+1):=Q18.bind (vw h s1) <| Q18.bind (Q18.ok (Dn (by decide) (B1 s1))) (.inl rfl)
 exact q.at (by simp only [List.length_cons,List.length_append,List.length_nil];omega)
theorem Ur {l:List Tok}:∀(ms:List Mov) (f:Nat) (acc:List Mov) (i:Nat),(∀m∈ms,PrN m)→acc.length+ms.length≤8→acc.length+f=9→seg l i=ms.flatMap mvT++[(0,[])]→Q18 (Cr l f acc i) (acc++ms) (i+(ms.flatMap mvT).length)
 | [],f,acc,i,_,h8,hf,hs=>.inl (Sk [] f acc i (fun _ h=>by cases h) h8 hf hs)
 | m::ms,0,acc,i,_,h8,hf,_=>by simp at h8;omega
 | m::ms,f+1,acc,i,h,h8,hf,hs=>by
  rw [List.flatMap_cons,List.append_assoc] at hs
  have hs':=hs
  rw [Wk] at hs'
  simp only [List.cons_append] at hs'
  simp only [List.length_cons] at h8
  rw [Cr,(Af hs').1,if_pos (by decide),if_neg (by simp only [beq_iff_eq];omega)]
  have q:=Q18.bind (f:=fun m j=>Cr l f (acc++[m]) j) (vx (h m List.mem_cons_self) hs) (Ur ms f (acc++[m]) _ (fun x hx=>h x (.tail _ hx)) (by rw [List.length_append];simp;omega) (by rw [List.length_append];simp;omega) (B1 hs))
  rw [List.append_assoc] at q
  exact q.at (by rw [List.flatMap_cons,List.length_append,Nat.add_assoc])
/-- What is printed of right moves is parsed as these, or brackets nest too deep. -/
theorem yz {ms:List Mov} (h:∀m∈ms,PrS m) (h2:∀m∈ms,PrN m) (h8:ms.length≤8) (hl:(ms.flatMap mvS).length≤4000):(I9 (ms.flatMap mvS)).2.1=18∨I9 (ms.flatMap mvS)=(ms,0,0):=by
 obtain ⟨L,n,e,hL⟩:=d9 h hl
 have hs:seg (L++[⟨0,[],n⟩]) 0=ms.flatMap mvT++[(0,[])]:=by
  unfold seg
  rw [List.drop_zero,List.map_append,hL]
  rfl
 have q:=Ur ms 9 [] 0 h2 (by simpa using h8) (by decide) hs
 have e2:I9 (ms.flatMap mvS)=match Cr (L++[⟨0,[],n⟩]) 9 [] 0 with|.ok l _=>(l,0,0)|.bad e a=>([],e,a):=by
  unfold I9
  rw [e,if_neg (by show ¬(((0:Int) != 0)=true);decide)]
  rfl
 rw [e2]
 rcases q with q|⟨a,q⟩
 ·rw [q];exact .inr rfl
 rw [q];exact .inl rfl
/-- A right move, its numbers in range, may be printed and read. -/
theorem x6 {m:Mov} (h:Cf m=true) (hr:(∀e∈m.ahead,B0 D6 e=true)∧∀e∈m.back,B0 D6 e=true):PrS m∧PrN m:=by
 have h1:=h
 unfold Cf at h1
 simp only [Bool.and_eq_true,List.all_eq_true] at h1
 have ha:∀x∈m.ahead,PrD x:=fun x hx=>⟨by rw [←Cu];exact h1.1.1.2 x hx,hr.1 x hx⟩
 have hb:∀x∈m.back,PrD x:=fun x hx=>⟨by rw [←Cu];exact h1.1.2 x hx,hr.2 x hx⟩
 have hp:=L9 h
 refine ⟨⟨Oh h,fun s hs=>by rw [←Cy];exact h1.1.1.1.2 s hs,fun c hc=>?_,hp.2.1,fun hk e=>?_,fun x hx=>⟨Ev (ha x hx).right,(ha x hx).rng⟩,fun x hx=>⟨Ev (hb x hx).right,(hb x hx).rng⟩⟩,⟨h,ha,hb⟩⟩
 ·have:=h1.1.1.1.1.2 c hc
  unfold Ef at this
  simp only [Bool.and_eq_true] at this
  rw [←Cy]
  exact this.1
 have hc:=hp.1
 unfold Bs at hc
 rw [hk,e] at hc
 split at hc
 ·cases hc
 simp at hc
/-- The law of MigPrints, for moves that are right. -/
theorem da {ms:List Mov} (h:I1 ms=true) (hr:∀m∈ms,(∀e∈m.ahead,B0 D6 e=true)∧∀e∈m.back,B0 D6 e=true) (hl:(ms.flatMap mvS).length≤4000):(I9 (ms.flatMap mvS)).2.1=18∨I9 (ms.flatMap mvS)=(ms,0,0):=by
 unfold I1 at h
 simp only [Bool.and_eq_true,decide_eq_true_eq,List.all_eq_true] at h
 exact yz (fun m hm=>(x6 (h.2 m hm) (hr m hm)).1) (fun m hm=>(x6 (h.2 m hm) (hr m hm)).2) (by omega) hl
theorem gq {n:Nat} {e:Expr}:Low n (.ro (Cs e)):=by have:=Aj n e;rw [Ac] at this;simpa using this
theorem la {n k:Nat} {o:Bool} {l:List Col}:Low n (.slice o k (l.map Bu)):=by simp [or_imp,forall_and]
theorem c6u (c:List Col) (Hp:List AObj):AFun Tryz.prog 20 [Mi c] Hp (Ap (Kc c)):=by
 refine ACall.body [.tmp 2] [0] Tryz.func20 Tryz.ntmps20 (fun d=>?_)
 refine Z46 ?_;refine Z22 ?_;refine R.fin [0,6] ?_
 refine W.cond (fun ht6=>?_) (fun ht6=>?_)
 ·rw [List.length_map] at ht6
  have hm:Kc c=true:=by unfold Kc;rw [ht6];rfl
  exact Z92
 rw [List.length_map] at ht6
 have hl50:c.length≤50:=by simp at ht6;omega
 refine Mg ?_;refine Hu ?_
 refine AW.loopC (α:=Nat) (fun x=>⟨20,A6 0 (Mi c) (A6 3 (A3 (x:Nat)) (fun _=>.any)),Hp,[],[],none⟩) (fun x=>x≤c.length∧∀(j:Nat) (v:Col),j<x→c[j]? = some v→decide ((100:Int)<(v.name.length:Int))=false) (fun x=>c.length-x) (0) ⟨Nat.zero_le _,fun j v h=>by omega⟩ (StLe.of_eq (by simp)) rfl (fun x hx=>?_)
 refine Z55 ?_;refine R.fin [0,3,10] ?_
 refine W.cond (fun ht10=>?_) (fun ht10=>?_)
 ·have hlt:x<c.length:=by simpa using ht10
  refine Vp ?_
  refine R.go (h:=Q.indexAddr (x) (Bu c[x]) (fun _=>Am hlt)) (hr:=?_)
  refine Z79 ?_;refine R.fin [0,3,19] ?_
  refine W.cond (fun ht19=>?_) (fun ht19=>?_)
  ·have hm:Kc c=true:=by unfold Kc;rw [Bool.or_eq_true];exact .inr (List.any_eq_true.2 ⟨c[x],List.getElem_mem hlt,ht19⟩)
   refine Z12 ?_;exact Z57
  refine AW.skip ?_;refine ar ?_
  refine R.go (h:=Q.add64 (h1:=fun _=>by omega) (h2:=fun _=>by omega)) (hr:=?_)
  refine R.go ?_;refine Hu ?_;refine K.lpN (x+1) ⟨hlt,Az hlt hx.2 ht19⟩ (by omega) ?_;exact StCut.of_eq (by simp)
 have hxe:c.length≤x:=by simpa using ht10
 have hm:Kc c=false:=by
  unfold Kc
  rw [ht6,Bool.false_or,List.any_eq_false]
  intro v hv
  obtain ⟨j,hj⟩:=List.getElem?_of_mem hv
  have:=hx.2 j v (by have:=(List.getElem?_eq_some_iff.1 hj).1;omega) hj
  rw [this]
  simp
 exact tc

/-- law18.Wide. -/
def I7 (m:Mov):Bool:=(((((Kc m.give || decide ((20:Int)<(m.take.length:Int))) || decide ((20:Int)<(m.ahead.length:Int))) || decide ((20:Int)<(m.back.length:Int))) || m.take.any fun s=>decide ((100:Int)<(s.length:Int))) || m.ahead.any Rh) || m.back.any Rh
def Fl (l:List Mov):Bool:=decide ((12:Int)<(l.length:Int)) || l.any I7
theorem F9 {α:Type} {p:α→Bool} {l:List α} {x:Nat} (h:l.length≤x) (hp:∀(j:Nat) (v:α),j<x→l[j]? = some v→p v=false):l.any p=false:=by
 rw [List.any_eq_false]
 intro v hv
 obtain ⟨j,hj⟩:=List.getElem?_of_mem hv
 rw [hp j v (by have:=(List.getElem?_eq_some_iff.1 hj).1;omega) hj]
 simp
theorem N8 {n:Nat} {m:Mov}:∀y∈I0 m,Low n y:=by
 intro y hy
 simp only [I0,List.mem_cons,List.mem_nil_iff,or_false] at hy
 rcases hy with rfl|rfl|rfl|rfl|rfl<;>simp [or_imp,forall_and,Aj]
theorem Yu {n:Nat} {m:Mov}:Low n (Dp m):=Go.SX.low_agg.2 N8
theorem Ea {n k:Nat} {o:Bool} {l:List Mov}:Low n (.slice o k (l.map Dp)):=low_slice.2 fun y hy=>by
 obtain ⟨m,_,rfl⟩:=List.mem_map.1 hy
 exact Yu
theorem Fb {α:Type} {p:α→Bool} (l:List α):(l.any fun s => !(p s)) = !(l.all p):=by
 induction l with
 | nil=>rfl
 | cons a r ih=>rw [List.any_cons,List.all_cons,ih];cases p a<;>simp
theorem c15 (l:List Mov) (Hp:List AObj):AFun Tryz.prog 15 [Ca l] Hp (Ap (Fl l)):=by
 refine ACall.body [.tmp 2] [0] Tryz.func15 Tryz.ntmps15 (fun d=>?_)
 refine Z46 ?_;refine Z22 ?_;refine R.fin [0,10] ?_
 refine W.cond (fun ht10=>?_) (fun ht10=>?_)
 ·rw [List.length_map] at ht10
  have hm:Fl l=true:=by unfold Fl;rw [ht10];rfl
  exact Z92
 rw [List.length_map] at ht10
 have hl12:l.length≤12:=by simp at ht10;omega
 refine Mg ?_;refine Hu ?_
 refine AW.loopC (α:=Nat) (fun x=>⟨82,A6 0 (Ca l) (A6 3 (A3 (x:Nat)) (fun _=>.any)),Hp,[],[],none⟩) (fun x=>x≤l.length∧∀(j:Nat) (v:Mov),j<x→l[j]? = some v→I7 v=false) (fun x=>l.length-x) (0) ⟨Nat.zero_le _,fun j v h=>by omega⟩ (StLe.of_eq (by simp)) rfl (fun x hx=>?_)
 refine Z55 ?_;refine R.fin [0,3,14] ?_
 refine W.cond (fun ht14=>?_) (fun ht14=>?_)
 ·have hlt:x<l.length:=by simpa using ht14
  have hbad:I7 l[x]=true→Fl l=true:=fun h=>by unfold Fl;rw [Bool.or_eq_true];exact .inr (List.any_eq_true.2 ⟨l[x],List.getElem_mem hlt,h⟩)
  refine Vp ?_
  refine R.go (h:=Q.indexAddr (x) (Dp l[x]) (fun _=>Am hlt)) (hr:=?_)
  refine Xi ?_;refine Qp ?_;refine Z31 ?_;refine R.call Tryz.call20 (c6u l[x].give _) ?_;refine R.go ?_;refine Z53 ?_;refine Vs ?_;refine Z29 ?_;refine Qo ?_;refine R.fin [0,3,4,41] ?_
  refine W.cond (fun ht41=>?_) (fun ht41=>?_)
  ·simp only [List.length_map] at ht41
   have hm:Fl l=true:=hbad (by unfold I7;rw [ht41];rfl)
   refine Z85 ?_;exact Z57
  simp only [List.length_map] at ht41
  have hk:l[x].take.length≤20∧l[x].ahead.length≤20∧l[x].back.length≤20:=by simp only [Bool.or_eq_false_iff,decide_eq_false_iff_not] at ht41;omega
  refine Mg ?_;refine R.fin [0,3,4,5] ?_
  refine AW.loopC (α:=Nat) (fun a=>⟨82,A6 0 (Ca l) (A6 3 (A3 (x:Nat)) (A6 4 (.ptr (oid Hp.length 0) 0) (A6 5 (A3 (a:Nat)) (fun _=>.any)))),Hp,[.cells 47 (I0 l[x])],[],none⟩) (fun a=>a≤l[x].take.length∧∀(j:Nat) v,j<a→l[x].take[j]? = some v→(fun s:Str=>decide ((100:Int)<(s.length:Int))) v=false) (fun a=>l[x].take.length-a) (0) ⟨Nat.zero_le _,fun j v h=>by omega⟩ (StLe.of_eq (by simp)) rfl (fun a ha=>?_)
  refine Z73 ?_;refine R.fin [0,3,4,5,46] ?_
  refine W.cond (fun ht46=>?_) (fun ht46=>?_)
  ·have ha1:a<l[x].take.length:=by simpa using ht46
   refine T6 ?_
   refine R.go (h:=Q.indexAddr (a) (Aa l[x].take[a]) (fun _=>Am ha1)) (hr:=?_)
   refine Z6 ?_;refine R.fin [0,3,4,5,55] ?_
   refine W.cond (fun ht55=>?_) (fun ht55=>?_)
   ·have hm:Fl l=true:=hbad (by unfold I7;rw [ht41,List.any_eq_true.2 ⟨_,List.getElem_mem ha1,ht55⟩];rfl)
    refine Z12 ?_;refine Z32 ?_;exact Z57
   refine Z58 ?_;refine R.fin [0,3,4,5] ?_;exact K.lpN (a+1) ⟨ha1,Az ha1 ha.2 ht55⟩ (by omega) (StCut.of_eq rfl)
  have hae:l[x].take.length≤a:=by simpa using ht46
  have e1:=F9 hae ha.2
  refine Z47 ?_;refine Z8 ?_;refine R.fin [0,3,4,6] ?_
  refine AW.loopC (α:=Nat) (fun b=>⟨82,A6 0 (Ca l) (A6 3 (A3 (x:Nat)) (A6 4 (.ptr (oid Hp.length 0) 0) (A6 6 (A3 (b:Nat)) (fun _=>.any)))),Hp,[.cells 47 (I0 l[x])],[],none⟩) (fun b=>b≤l[x].ahead.length∧∀(j:Nat) v,j<b→l[x].ahead[j]? = some v→Rh v=false) (fun b=>l[x].ahead.length-b) (0) ⟨Nat.zero_le _,fun j v h=>by omega⟩ (StLe.of_eq (by simp)) rfl (fun b hb=>?_)
  refine Z73 ?_;refine R.fin [0,3,4,6,60] ?_
  refine W.cond (fun ht60=>?_) (fun ht60=>?_)
  ·have hb1:b<l[x].ahead.length:=by simpa using ht60
   refine T6 ?_
   refine R.go (h:=Q.indexAddr (b) (A5 l[x].ahead[b]) (fun _=>Am hb1)) (hr:=?_)
   refine R.go ?_;refine R.call Tryz.call37 (c37 l[x].ahead[b] _) ?_;refine R.fin [0,3,4,6,68] ?_
   refine W.cond (fun ht68=>?_) (fun ht68=>?_)
   ·have hm:Fl l=true:=hbad (by unfold I7;rw [List.any_eq_true.2 ⟨_,List.getElem_mem hb1,ht68⟩];simp)
    refine Z12 ?_;refine Z32 ?_;exact Z57
   refine Z58 ?_;refine R.fin [0,3,4,6] ?_;exact K.lpN (b+1) ⟨hb1,Az hb1 hb.2 ht68⟩ (by omega) (StCut.of_eq rfl)
  have hbe:l[x].ahead.length≤b:=by simpa using ht60
  have e2:=F9 hbe hb.2
  refine Z47 ?_;refine Z0 ?_;refine R.fin [0,3,4,7] ?_
  refine AW.loopC (α:=Nat) (fun e=>⟨82,A6 0 (Ca l) (A6 3 (A3 (x:Nat)) (A6 4 (.ptr (oid Hp.length 0) 0) (A6 7 (A3 (e:Nat)) (fun _=>.any)))),Hp,[.cells 47 (I0 l[x])],[],none⟩) (fun e=>e≤l[x].back.length∧∀(j:Nat) v,j<e→l[x].back[j]? = some v→Rh v=false) (fun e=>l[x].back.length-e) (0) ⟨Nat.zero_le _,fun j v h=>by omega⟩ (StLe.of_eq (by simp)) rfl (fun e he=>?_)
  refine Z73 ?_;refine R.fin [0,3,4,7,73] ?_
  refine W.cond (fun ht73=>?_) (fun ht73=>?_)
  ·have he1:e<l[x].back.length:=by simpa using ht73
   refine T6 ?_
   refine R.go (h:=Q.indexAddr (e) (A5 l[x].back[e]) (fun _=>Am he1)) (hr:=?_)
   refine R.go ?_;refine R.call Tryz.call37 (c37 l[x].back[e] _) ?_;refine R.fin [0,3,4,7,81] ?_
   refine W.cond (fun ht81=>?_) (fun ht81=>?_)
   ·have hm:Fl l=true:=hbad (by unfold I7;rw [List.any_eq_true.2 ⟨_,List.getElem_mem he1,ht81⟩];simp)
    refine Z12 ?_;refine Z24 ?_;exact Z57
   refine Z58 ?_;refine R.fin [0,3,4,7] ?_;exact K.lpN (e+1) ⟨he1,Az he1 he.2 ht81⟩ (by omega) (StCut.of_eq rfl)
  have hee:l[x].back.length≤e:=by simpa using ht73
  have e3:=F9 hee he.2
  have e4:I7 l[x]=false:=by unfold I7;rw [ht41,e1,e2,e3];rfl
  refine Z25 ?_;refine K.lpE ?_;refine Z35 ?_;refine Hu ?_;refine K.lpN (x+1) ⟨hlt,Az hlt hx.2 e4⟩ (by omega) ?_
  exact StCut.take (own:=[]) (fun _=>.refl _) (by repeat (first|exact C5|refine C4 (by first|(simp [or_imp,forall_and];done)|exact Ea|(simp [oid]<;>omega)) ?_)) (by simp) (by simp)
 have hxe:l.length≤x:=by simpa using ht14
 have hm:Fl l=false:=by unfold Fl;rw [ht10,F9 hxe hx.2];rfl
 exact tc

theorem c77 (l:List Expr) (h:OkEs l) (Hp:List AObj):AFun Tryz.prog 77 [Ip l] Hp (Ap (l.all Ax)):=by
 refine ACall.body [.tmp 2] [0] Tryz.func77 Tryz.ntmps77 (fun d=>?_)
 refine Z46 ?_;refine Z8 ?_;refine Hu ?_
 refine AW.loopC (α:=Nat) (fun x=>⟨16,A6 0 (Ip l) (A6 3 (A3 (x:Nat)) (fun _=>.any)),Hp,[],[],none⟩) (fun x=>x≤l.length∧∀(j:Nat) (v:Expr),j<x→l[j]? = some v→(!Ax v)=false) (fun x=>l.length-x) (0) ⟨Nat.zero_le _,fun j v h=>by omega⟩ (StLe.of_eq (by simp)) rfl (fun x hx=>?_)
 refine Z55 ?_;refine R.fin [0,3,7] ?_
 refine W.cond (fun ht7=>?_) (fun ht7=>?_)
 ·have hlt:x<l.length:=by simpa using ht7
  have hlen:=h.len
  refine Vp ?_
  refine R.go (h:=Q.indexAddr (x) (A5 l[x]) (fun _=>Am hlt)) (hr:=?_)
  refine R.go ?_;refine R.call Tryz.call110 (ADn 61 l[x] (h.ok _ (List.getElem_mem hlt)) (by decide) (h.size _ (List.getElem_mem hlt)) _) ?_;refine R.go ?_;refine R.fin [0,3,15] ?_
  refine W.cond (fun ht15=>?_) (fun ht15=>?_)
  ·have hm:l.all Ax=false:=by rw [List.all_eq_false];exact ⟨_,List.getElem_mem hlt,by simpa using ht15⟩
   refine Z12 ?_;exact Z57
  refine n6 ?_;exact K.lpN (x+1) ⟨hlt,Az hlt hx.2 ht15⟩ (by omega) (StCut.of_eq rfl)
 have hxe:l.length≤x:=by simpa using ht7
 have hm:l.all Ax=true:=by have:=F9 hxe hx.2;rw [Fb] at this;simpa using this
 exact tc

theorem ADy {a b:Bool} (h:(a&&b)=true):a=true:=by cases a<;>simp_all
theorem qv {α:Type} {l:List α} (h:l.length=1):∃y,l=[y]:=by
 match l,h with
 | [y],_=>exact ⟨y,rfl⟩
end Go.SX.Nb
namespace Go.SX
variable [GI:GlobInv]
open Classical
variable {P:Program} {d:Nat} {ops:Array Oper} {rest:List Oper} {sz:Nat} {fr:Nat→AV} {up own:List AObj} {dfs:List Nat} {rnd:Option Nat} {Q:St→Prop} {s:Nat} {ty:TypeId} {pos:String} {aft:Array Edge}
/-! A guarded slice that may be appended to. -/
end Go.SX
namespace Go.SX
variable [GI:GlobInv]
open Classical
section
variable {P:Program} {d:Nat}
end
section
variable {P:Program} {d:Nat} {ops:Array Oper} {rest:List Oper} {sz s:Nat} {fr:Nat→AV} {up own:List AObj} {dfs:List Nat} {rnd:Option Nat} {Q:St→Prop} {ty:TypeId} {pos:String} {aft:Array Edge}
end
end Go.SX
