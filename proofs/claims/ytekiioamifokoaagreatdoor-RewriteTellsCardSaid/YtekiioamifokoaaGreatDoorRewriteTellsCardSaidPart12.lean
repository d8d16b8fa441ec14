/- On the way (part 12). -/
import Derived.Test.YtekiioamifokoaaGreatDoorRewriteTellsCardSaidPart11
set_option linter.all false
namespace Go.SX.Nb
open Go Go.SX Go.Proofs
variable [ErrAt]
set_option maxRecDepth 4000
abbrev pmO (L:List Tok) (i:Nat):AObj:=.cells 109 [rm L,A4 (i:Int)]
abbrev mvC (m:Mov):List AV:=[A4 m.kind,.slice true 1 (m.take.map Ab),.slice true 2 (m.give.map Bl),.slice true 6 (m.ahead.map A7),.slice true 6 (m.back.map A7)]
abbrev mvO (m:Mov):AObj:=.cells 80 (mvC m)
abbrev Qw:AV:=.v (.tuple #[])
theorem Eg {n:Nat} {L:List Tok} {i:Nat}:ObjLow n (pmO L i):=by
 show ∀y∈[AV.slice false 3 (L.map Ix),A4 (i:Int)],Low n y
 intro y hy
 simp only [B3,Ed,or_false] at hy
 rcases hy with rfl|rfl
 ·simp [or_imp,forall_and]
 simp
/-- A contract of the parser, of sources that are right: it comes to what the model comes to. -/
structure CP (g:FuncId) (args:List AV) (H:List AObj) {α:Type} (X:PR α) (Q:α→Nat→AV→List AObj→Prop) (R:List AObj→Prop):Prop where
 run:(∃c j,X=.ok c j)→ACall Tryz.prog g args H (fun r H'=>∃c j,X=.ok c j∧Q c j r H')
theorem CP.ok {g:FuncId} {args:List AV} {H:List AObj} {α:Type} {X:PR α} {Q:α→Nat→AV→List AObj→Prop} {R:List AObj→Prop} {c:α} {j:Nat} (h:CP g args H X Q R) (hX:X=.ok c j):ACall Tryz.prog g args H (fun r H'=>Q c j r H'):=
 (h.run ⟨c,j,hX⟩).mono (fun r H' ⟨c',j',e,hq⟩=>by rw [hX] at e;injection e with e1 e2;subst e1;subst e2;exact hq)
theorem D7 {α:Type} {X:PR α} {e a:Int} (h:∃c j,X=.ok c j) (hX:X=.bad e a):False:=by
 obtain ⟨c,j,h⟩:=h
 rw [hX] at h
 cases h
def PR.isOk {α:Type}:PR α→Bool
 | .ok _ _=>true
 | .bad _ _=>false
theorem AMp {α:Type} {X:PR α} (h:X.isOk=true):∃c j,X=.ok c j:=by
 cases X with
 | ok c j=>exact ⟨c,j,rfl⟩
 | bad e a=>cases h
/-- The parser's object alone has turned. -/
def W1 (L:List Tok) (o:Nat) (Hp H':List AObj):Prop:=∃j,H'=Hp.set o (pmO L j)
theorem AIt (L:List Tok) (i o:Nat) (Hp:List AObj) (ho:Hp[o]? = some (pmO L i)) (hi:i<L.length):AFun Tryz.prog 115 [.ptr o 0] Hp (Ix (Af L i)):=by
 refine Ah [.cell 2 118] [0] Tryz.func115 Tryz.ntmps115 (fun d=>?_)
 refine AKj ?_;refine Z37 ?_
 refine Av (h:=Bj ho) (hr:=?_)
 refine Z37 ?_
 refine Av (h:=Bj ho) (hr:=?_)
 refine Hf ?_
 refine A5 (h:=Ad (i) (Ix (Af L i)) (fun _=>Mq hi)) (hr:=?_)
 refine Z49 ?_;exact AH3

theorem AMq (L:List Tok) (s:Str) (i o:Nat) (Hp:List AObj) (ho:Hp[o]? = some (pmO L i)) (hi:i<L.length):AFun Tryz.prog 197 [.ptr o 0,Ab s] Hp (B0 (isP L s i)):=by
 refine Ah [.tmp 4] [0,1] Tryz.func197 Tryz.ntmps197 (fun d=>?_)
 refine Z48 ?_;refine AH1 ?_;refine Z11 ?_;refine A2 [1,5] ?_;refine ek ?_;refine Z52 ?_;exact zo

/-! Where the parser of moves comes to. -/
def PR.In {α:Type} (x:PR α) (i n:Nat):Prop:=∀r j,x=.ok r j→i<j∧j<n
theorem PR.bind_ok {α β:Type} {x:PR α} {f:α→Nat→PR β} {r:β} {j:Nat} (h:x.bind f=.ok r j):∃a k,x=.ok a k∧f a k=.ok r j:=by
 cases x with
 | ok a k=>exact ⟨a,k,rfl,h⟩
 | bad e a=>cases h
theorem AFg {L:List Tok} {s:Str} {i:Nat} (h:isP L s i=true):(Af L i).kind≠0:=by
 unfold isP at h
 simp only [Az,Dg,beq_iff_eq] at h
 rcases h.1 with h|h<;>rw [h]<;>decide
theorem H7 {L:List Tok} (hl:TokEnd L) {s:Str} {i:Nat} (hi:i<L.length):(Da L s i).In i L.length:=by
 intro r j h
 unfold Da at h
 split at h
 ·rename_i h1
  injection h with _ h
  subst h
  exact ⟨dd i,hl.step hi (AFg h1)⟩
 cases h
theorem Jk {L:List Tok} (hl:TokEnd L) {i:Nat} (hi:i<L.length):(Ic L i).In i L.length:=by
 intro r j h
 unfold Ic at h
 split at h
 ·cases h
 rename_i h1
 injection h with _ h
 subst h
 have hk:(Af L i).kind=1:=by simpa using h1
 exact ALi
theorem AFh {L:List Tok} (hl:TokEnd L) {nm:Str} {i:Nat} (hi:i<L.length):(u4 L nm i).In i L.length:=by
 intro r j h
 unfold u4 at h
 split at h
 ·cases h
 rename_i h1
 injection h with _ h
 subst h
 have hk:(Af L i).kind=2:=by simp only [Ol,Dn,bne_eq_false_iff_eq] at h1;exact h1.1
 exact ALi
theorem cr {L:List Tok} (hl:TokEnd L) {i:Nat} (hi:i<L.length):(La L i).In i L.length:=by
 intro r j h
 obtain ⟨a,k,h1,h2⟩:=PR.bind_ok h
 obtain ⟨a1,a2⟩:=Jk hl hi _ _ h1
 obtain ⟨b1,b2⟩:=AFh hl a2 _ _ h2
 exact ⟨by omega,b2⟩
theorem Ta {L:List Tok} (hl:TokEnd L) (hll:L.length≤500000) {i:Nat} (hi:i<L.length) {x:Expr} {k:Nat} (h:Oe L i=.ok x k):i≤k∧k<L.length:=by
 unfold Oe at h
 split at h
 ·cases h
 rename_i h0
 injection h with _ h
 subst h
 have h0:(atM L i).2.2.1=0:=by simpa using h0
 have hq:=Y1 hl (by omega:L.length≤1048576) hi
 unfold atM at h0 ⊢
 split at h0
 ·rename_i h1
  have:(atS L i (atR L i)).code=0:=h0
  rw [this] at h1
  cases h1
 rename_i h1
 rw [if_neg h1]
 have e:(atS L i (atR L i)).i=(atR L i).2.i:=by
  unfold atS
  repeat' split
  all_goals first|rfl|exact failM_i.1
 show i≤((atS L i (atR L i)).i:Int).toNat∧((atS L i (atR L i)).i:Int).toNat<_
 rw [Int.toNat_natCast,e]
 exact ⟨hq.le,hq.lt⟩
/-- A move has no more parts than so many. -/
structure MvLe (m:Mov) (n:Nat):Prop where
 take:m.take.length≤n
 give:m.give.length≤n
 ahead:m.ahead.length≤n
 back:m.back.length≤n
theorem MvLe.mono {m:Mov} {i j:Nat} (h:MvLe m i) (hij:i≤j):MvLe m j:=⟨K9 h.take hij,K9 h.give hij,K9 h.ahead hij,K9 h.back hij⟩
/-- What a part of a move comes to. -/
def AIu (x:PR Mov) (i n:Nat):Prop:=∀m j,x=.ok m j→i≤j∧j<n∧MvLe m (2*j)
/-- A part of a move that goes on from i. -/
def Zw (L:List Tok) (one:Mov→Nat→PR Mov):Prop:=∀m i,MvLe m (2*i-1)→0<i→i<L.length→AIu (one m i) i L.length
theorem Mf {L:List Tok} (hl:TokEnd L) (hll:L.length≤500000):Zw L (Fm L):=by
 intro m i hm _ hi m' k h
 obtain ⟨c,j,h1,h2⟩:=PR.bind_ok h
 obtain ⟨u,j2,h3,h4⟩:=PR.bind_ok h2
 obtain ⟨x,j3,h5,h6⟩:=PR.bind_ok h4
 injection h6 with h6 h7
 subst h6;subst h7
 have a1:=cr hl hi _ _ h1
 have a2:=H7 hl a1.2 _ _ h3
 have a3:=Ta hl hll a2.2 h5
 obtain ⟨b1,b2,b3,b4⟩:=hm
 exact ⟨by omega,a3.2,by show m.take.length≤_;omega,by show (m.give++[c]).length≤_;rw [Ax,K6];omega,by show (m.ahead++[x]).length≤_;rw [Ax,K6];omega,by show m.back.length≤_;omega⟩
theorem lu {L:List Tok} (hl:TokEnd L) (hll:L.length≤500000):Zw L (Vj L):=by
 intro m i hm h0 hi m' k h
 obtain ⟨x,j,h1,h2⟩:=PR.bind_ok h
 injection h2 with h6 h7
 subst h6;subst h7
 have a3:=Ta hl hll hi h1
 obtain ⟨b1,b2,b3,b4⟩:=hm
 exact ⟨by omega,a3.2,by show m.take.length≤_;omega,by show m.give.length≤_;omega,by show m.ahead.length≤_;omega,by show (m.back++[x]).length≤_;rw [Ax,K6];omega⟩
theorem Yz {L:List Tok} (hl:TokEnd L):Zw L (T9 L):=by
 intro m i hm _ hi m' k h
 obtain ⟨s,j,h1,h2⟩:=PR.bind_ok h
 injection h2 with h6 h7
 subst h6;subst h7
 have a1:=Jk hl hi _ _ h1
 obtain ⟨b1,b2,b3,b4⟩:=hm
 exact ⟨by omega,a1.2,by show (m.take++[s]).length≤_;rw [Ax,K6];omega,by show m.give.length≤_;omega,by show m.ahead.length≤_;omega,by show m.back.length≤_;omega⟩
theorem O7 {L:List Tok} {s:Str} {i:Nat} {u:Unit} {j:Nat} (h:Da L s i=.ok u j):j=i+1:=by
 unfold Da at h
 split at h
 ·injection h with _ h;exact h.symm
 cases h
theorem lv {L:List Tok} (hl:TokEnd L) {n:Int} {one:Mov→Nat→PR Mov} (hP:Zw L one):∀(f k:Nat) (m:Mov) (i:Nat),MvLe m (2*i)→0<i→i<L.length→AIu (T8 L n one f k m i) i L.length
 | 0,k,m,i,hm,h0,hi=>fun m' j h=>by
  injection h with h1 h2
  subst h1;subst h2
  exact ⟨An _,hi,hm⟩
 | f+1,k,m,i,hm,h0,hi=>fun m' j h=>by
  rw [T8] at h
  split at h
  ·obtain ⟨u,j1,h1,h2⟩:=PR.bind_ok h
   obtain ⟨m1,j2,h3,h4⟩:=PR.bind_ok h2
   have e:=O7 h1
   have a1:=H7 hl hi _ _ h1
   obtain ⟨b1,b2,b3⟩:=hP m j1 (hm.mono (by omega)) (by omega) a1.2 _ _ h3
   obtain ⟨c1,c2,c3⟩:=lv hl hP f (k+1) m1 j2 b3 (by omega) b2 _ _ h4
   exact nw
  injection h with h1 h2
  subst h1;subst h2
  exact ⟨An _,hi,hm⟩
theorem Tb {L:List Tok} (hl:TokEnd L) {n:Int} {one:Mov→Nat→PR Mov} (hP:Zw L one):Zw L (Ji L n one):=by
 intro m i hm h0 hi m' k h
 obtain ⟨m1,j,h1,h2⟩:=PR.bind_ok h
 obtain ⟨b1,b2,b3⟩:=hP m i hm h0 hi _ _ h1
 obtain ⟨c1,c2,c3⟩:=lv hl hP _ _ m1 j b3 (by omega) b2 _ _ h2
 exact nw
theorem Wa {L:List Tok} (hl:TokEnd L) (hll:L.length≤500000) {m:Mov} {i:Nat} (hm:MvLe m (2*i)) (hi:i<L.length):AIu (Gu L m i) i L.length:=by
 intro m' k h
 obtain ⟨u,j,h1,h2⟩:=PR.bind_ok h
 have e:=O7 h1
 have a1:=H7 hl hi _ _ h1
 obtain ⟨c1,c2,c3⟩:=Tb hl (lu hl hll) m j (hm.mono (by omega)) (by omega) a1.2 _ _ h2
 exact nw
theorem xj {L:List Tok} (hl:TokEnd L):Zw L (Lc L):=by
 intro m i hm h0 hi m' k h
 obtain ⟨s,j,h1,h2⟩:=PR.bind_ok h
 obtain ⟨u,j2,h3,h4⟩:=PR.bind_ok h2
 obtain ⟨t,j3,h5,h6⟩:=PR.bind_ok h4
 injection h6 with h6 h7
 subst h6;subst h7
 have a1:=Jk hl hi _ _ h1
 have a2:=H7 hl a1.2 _ _ h3
 have a3:=Jk hl a2.2 _ _ h5
 exact ⟨by omega,a3.2,by show 1≤_;omega,by show 1≤_;omega,by show 1≤_;omega,by show 1≤_;omega⟩
theorem MvLe.takeS {m:Mov} {n:Nat} (h:MvLe m n) {s:Str} (h1:1≤n):MvLe (takeS m s) n:=⟨h1,h.give,h.ahead,h.back⟩
theorem u9 {L:List Tok} (hl:TokEnd L) (hll:L.length≤500000):Zw L (Jj L):=by
 intro m i hm h0 hi m' k h
 unfold Jj at h
 split at h
 ·exact Mf hl hll m i hm h0 hi _ _ h
 split at h
 ·obtain ⟨s,j,h1,h2⟩:=PR.bind_ok h
  have a1:=Jk hl hi _ _ h1
  obtain ⟨c1,c2,c3⟩:=Wa hl hll ((hm.mono (by omega:2*i-1≤2*j)).takeS (by omega)) a1.2 _ _ h2
  exact nw
 split at h
 ·exact xj hl m i hm h0 hi _ _ h
 split at h
 ·obtain ⟨s,j,h1,h2⟩:=PR.bind_ok h
  obtain ⟨u,j2,h3,h4⟩:=PR.bind_ok h2
  obtain ⟨m1,j3,h5,h6⟩:=PR.bind_ok h4
  have a1:=Jk hl hi _ _ h1
  have a2:=H7 hl a1.2 _ _ h3
  obtain ⟨b1,b2,b3⟩:=Tb hl (Mf hl hll) (takeS m s) j2 ((hm.mono (by omega:2*i-1≤2*j2-1)).takeS (by omega)) (by omega) a2.2 _ _ h5
  obtain ⟨c1,c2,c3⟩:=Wa hl hll b3 b2 _ _ h6
  exact nw
 split at h
 ·obtain ⟨m1,j,h1,h2⟩:=PR.bind_ok h
  obtain ⟨u,j2,h3,h4⟩:=PR.bind_ok h2
  obtain ⟨m2,j3,h5,h6⟩:=PR.bind_ok h4
  obtain ⟨b1,b2,b3⟩:=Tb hl (Yz hl) m i hm h0 hi _ _ h1
  have e:=O7 h3
  have a2:=H7 hl b2 _ _ h3
  obtain ⟨d1,d2,d3⟩:=Mf hl hll m1 j2 (b3.mono (by omega)) (by omega) a2.2 _ _ h5
  obtain ⟨c1,c2,c3⟩:=Wa hl hll d3 d2 _ _ h6
  exact nw
 split at h
 ·obtain ⟨m1,j,h1,h2⟩:=PR.bind_ok h
  obtain ⟨d1,d2,d3⟩:=Mf hl hll m i hm h0 hi _ _ h1
  obtain ⟨c1,c2,c3⟩:=Wa hl hll (d3.takeS (by omega)) d2 _ _ h2
  exact nw
 injection h with h1 h2
 subst h1;subst h2
 exact ⟨An _,hi,hm.mono (by omega)⟩
def Za:=@PR.bind_ok
theorem qx (L:List Tok) (s:Str) (i o:Nat) (Hp:List AObj) (ho:Hp[o]? = some (pmO L i)) (hi:i<L.length) (hll:L.length≤500000):CP 153 [.ptr o 0,Ab s] Hp (Da L s i) (fun _ j r H'=>r=Qw∧H'=Hp.set o (pmO L j)) (W1 L o Hp):=by
 refine ⟨fun hX=>?_⟩
 refine Ah [] [0,1] Tryz.func153 Tryz.ntmps153 (fun d=>?_)
 refine Z7 ?_;refine Aa Tryz.call197 (AMq L s i o _ (Ak ho) hi) ?_;refine A5 ?_;refine A2 [0,7] ?_
 refine A3 (fun ht7=>?_) (fun ht7=>?_)
 ·have hq:isP L s i=false:=by simpa using ht7
  have e:Da L s i=.bad 8 (Af L i).at_:=if_neg (by rw [hq];simp)
  exact AA1
 have hq:isP L s i=true:=by simpa using ht7
 have e:Da L s i=.ok () (i+1):=if_pos hq
 refine Z4 ?_;refine Z74 ?_
 refine A5 (h:=Bj ho) (hr:=?_)
 refine Z8 ?_
 refine De jS ho ?_ ?_
 ·simp
 refine Ku ?_;exact Eo .nores (hp:=⟨(),i+1,e,rfl,rfl⟩)

theorem xk (L:List Tok) (i o:Nat) (Hp:List AObj) (ho:Hp[o]? = some (pmO L i)) (hi:i<L.length) (hll:L.length≤500000):CP 191 [.ptr o 0] Hp (Ic L i) (fun s j r H'=>r=Ab s∧H'=Hp.set o (pmO L j)) (W1 L o Hp):=by
 refine ⟨fun hX=>?_⟩
 refine Ah [.tmp 2] [0] Tryz.func191 Tryz.ntmps191 (fun d=>?_)
 refine Z44 ?_;refine AH1 ?_;refine Z11 ?_;refine Mn ?_;refine Z30 ?_;refine A2 [0,3,8] ?_
 refine A3 (fun ht8=>?_) (fun ht8=>?_)
 ·have e:Ic L i=.bad 8 (Af L i).at_:=if_pos ht8
  exact AA1
 have e:Ic L i=.ok (Af L i).text (i+1):=if_neg (by rw [ht8];simp)
 refine Rc ?_
 refine A5 (h:=Bj ho) (hr:=?_)
 refine Z8 ?_
 refine De jS ho ?_ ?_
 ·simp
 refine A2 [3] ?_;refine Z16 ?_;refine Z3 ?_;exact A9 (Aj A8) (hp:=⟨_,i+1,e,rfl,rfl⟩)

theorem getset {Hp:List AObj} {o:Nat} {A B:AObj} (h:Hp[o]? = some A):(Hp.set o B)[o]? = some B:=by
 have:=(Ae.1 h).1
 simp [this]
theorem APs (L:List Tok) (i o:Nat) (Hp:List AObj) (ho:Hp[o]? = some (pmO L i)) (hi:i<L.length) (hl:TokEnd L) (hll:L.length≤500000):CP 229 [.ptr o 0] Hp (La L i) (fun c j r H'=>r=Bl c∧H'=Hp.set o (pmO L j)) (W1 L o Hp):=by
 refine ⟨fun hX=>?_⟩
 refine Ah [.cell 2 69] [0] Tryz.func229 Tryz.ntmps229 (fun d=>?_)
 refine Z69 ?_
 rcases hN:Ic L i with ⟨s,j⟩|⟨e,a⟩
 rotate_left
 ·exact (D7 hX (by first|exact by unfold La;rw [hN];rfl|exact hN)).elim
 have hj:j<L.length:=(Jk hl hi _ _ hN).2
 have e0:La L i=u4 L s j:=by unfold La;rw [hN];rfl
 refine Z2 ?_;refine Cl (x:=pmO L j) Tryz.call191 ho (by simp) Eg ((xk L i o _ (Ak ho) hi hll).ok hN) ?_;refine ns ?_;refine il ?_;refine Z2 ?_;refine Aa Tryz.call115 (AIt L j o _ (Ak (getset ho)) hj) ?_;refine Z11 ?_;refine A2 [0,2,3,4] ?_;refine Z7 ?_;refine Aa Tryz.call254 (AO5 (Af L j).text _) ?_;refine Z49 ?_;refine A2 [0,2,3,4] ?_;refine ek ?_;refine A5 ?_;refine A2 [0,2,3,21] ?_
 refine A3 (fun ht21=>?_) (fun ht21=>?_)
 ·have e:La L i=.bad 8 (Af L j).at_:=by rw [e0];exact if_pos ht21
  exact AA1
 have e:La L i=.ok ⟨s,V6 (Af L j).text⟩ (j+1):=by rw [e0];exact if_neg (by rw [ht21];simp)
 refine Rc ?_
 refine A5 (h:=Bj (getset ho)) (hr:=?_)
 refine Z8 ?_
 refine De jS (getset ho) ?_ ?_
 ·simp
 refine Jt ?_;refine Z42 ?_;refine Z3 ?_;exact A9 (Aj (B5 jA jS)) (hp:=⟨_,j+1,e,rfl,by rw [C6];rfl⟩)

theorem AMr (L:List Tok) (i o:Nat) (Hp:List AObj) (ho:Hp[o]? = some (pmO L i)) (hi:i<L.length) (hl:TokEnd L) (hll:L.length≤500000):CP 230 [.ptr o 0] Hp (Oe L i) (fun c j r H'=>r=A7 c∧H'=Hp.set o (pmO L j)) (W1 L o Hp):=by
 refine ⟨fun hX=>?_⟩
 refine Ah [.cell 2 27] [0] Tryz.func230 Tryz.ntmps230 (fun d=>?_)
 refine Z69 ?_;refine Hh [0,1,3,7,0,16,48,112,255,511,1023,1023,1023,0,0,26623,61439,131071] [] [.q 13 [] [],.s [3] none [] [],.s [5] none [] [],.s [3] none [] [],.q 1 [] [],.s [5] none [] []] (fun _=>Hp) (fun _=>[.cells 27 [A4 0,Ab [],A4 0,A4 0,Ab [],.nil]]) Ap (by kernel_rfl) rfl rfl (fun _=>rfl) ?_
 apply Y.q
 ·intro B hT hF
  refine Z37 ?_
  refine Av (h:=Bj ho) (hr:=?_)
  refine Z37 ?_
  refine Av (h:=Bj ho) (hr:=?_)
  refine I3 Tryz.call120 (AM3 L i hi hl hll (fun n Dv h1 h2=>bq hl (by omega) n Dv h1 h2) _) ?_;exact io
 case hTF=>decide
 refine Y.allocP Tryz.zeroValue27 ?_;refine Y.allocP Tryz.zeroValue73 ?_;refine Y.storeP Tryz.sizeOf27 ?_
 apply Y.q
 ·intro B hT hF
  exact Z60
 case hTF=>decide
 refine Y.storeP Tryz.sizeOf73 ?_;refine nu ?_;refine A2 [0,2,3,4,5] ?_;refine Z30 ?_;refine A2 [0,2,3,4,5,21] ?_
 refine A3 (fun ht21=>?_) (fun ht21=>?_)
 ·have e:Oe L i=.bad (atM L i).2.2.1 (atM L i).2.2.2:=if_pos ht21
  exact AA1
 obtain ⟨k,hk,hkl⟩:=fm hl (by omega) hi (by simpa using ht21)
 have e:Oe L i=.ok (atM L i).1 k:=(if_neg (by rw [ht21];simp)).trans (by rw [hk];rfl)
 rw [hk]
 refine eg ?_
 refine De jS ho ?_ ?_
 ·simp
 refine Jt ?_;refine Z42 ?_;refine Z3 ?_;exact A9 (Aj (B5 jA jS)) (hp:=⟨_,k,e,(Al _).symm,rfl⟩) (hlow:=by have:=Am Hp.length (atM L i).1;rw [Al] at this;exact this)

/-- The parser's object and the move's, turned. -/
def U2 (L:List Tok) (Hp:List AObj) (o om i:Nat) (x:AObj):List AObj:=(Hp.set o (pmO L i)).set om x
theorem U2_len {L:List Tok} {Hp:List AObj} {o om i:Nat} {x:AObj}:(U2 L Hp o om i x).length=Hp.length:=by simp [U2]
theorem Fz {L:List Tok} {Hp:List AObj} {o om i:Nat} {x z:AObj} (hm:Hp[om]? = some z):(U2 L Hp o om i x)[om]? = some x:=gB hm
theorem F0 {L:List Tok} {Hp:List AObj} {o om i:Nat} {x z:AObj} (ho:Hp[o]? = some z) (hne:om≠o):(U2 L Hp o om i x)[o]? = some (pmO L i):=gA ho hne
theorem Fu {L:List Tok} {Hp:List AObj} {o om i j:Nat} {x:AObj} (hne:om≠o):(U2 L Hp o om i x).set o (pmO L j)=U2 L Hp o om j x:=ABf hne
theorem U2_setm {L:List Tok} {Hp:List AObj} {o om i:Nat} {x y:AObj}:(U2 L Hp o om i x).set om y=U2 L Hp o om i y:=C6 ..
theorem Tc {L:List Tok} {Hp:List AObj} {o om i:Nat} {x:AObj} (ho:Hp[o]? = some (pmO L i)) (hm:Hp[om]? = some x):U2 L Hp o om i x=Hp:=by unfold U2;rw [Co ho,Co hm]
theorem I6 {L:List Tok} {Hp:List AObj} {o om i q:Nat} {x:AObj} (h1:q≠o) (h2:q≠om):(U2 L Hp o om i x)[q]? = Hp[q]? := by unfold U2;rw [Cf (Ne.symm h2),Cf (Ne.symm h1)]
def W2 (L:List Tok) (o om:Nat) (Hp H':List AObj):Prop:=∃j m,H'=U2 L Hp o om j (mvO m)
theorem Rz {n k:Nat} {o:Bool} {l:List Expr} {x:Expr}:Low n (.slice o k (l.map A7++[.agg (D0 x)])):=by
 rw [show AV.agg (D0 x)=A7 x from (Al x).symm];exact Iq
theorem H8 {n:Nat} {m:Mov}:ObjLow n (mvO m):=by
 show ∀y∈mvC m,Low n y
 intro y hy
 simp only [mvC,B3,Ed,or_false] at hy
 rcases hy with rfl|rfl|rfl|rfl|rfl
 all_goals first|exact Cv|simp [or_imp,forall_and]
theorem xl {L:List Tok} {Hp:List AObj} {o om i:Nat} {m:Mov} {c:Col} {x:AObj}:(U2 L Hp o om i x).set om (.cells 80 [A4 m.kind,.slice true 1 (m.take.map Ab),.slice true 2 (m.give.map Bl++[Bl c]),.slice true 6 (m.ahead.map A7),.slice true 6 (m.back.map A7)])=U2 L Hp o om i (mvO (E6 m c)):=by
 rw [U2_setm];simp only [mvO,mvC,E6,Bn,Br,Ct]
theorem xm {L:List Tok} {Hp:List AObj} {o om i:Nat} {m:Mov} {e:Expr} {x:AObj}:(U2 L Hp o om i x).set om (.cells 80 [A4 m.kind,.slice true 1 (m.take.map Ab),.slice true 2 (m.give.map Bl),.slice true 6 (m.ahead.map A7++[.agg (D0 e)]),.slice true 6 (m.back.map A7)])=U2 L Hp o om i (mvO (u5 m e)):=by
 rw [U2_setm,show AV.agg (D0 e)=A7 e from (Al e).symm];simp only [mvO,mvC,u5,Bn,Br,Ct]
theorem xn {L:List Tok} {Hp:List AObj} {o om i:Nat} {m:Mov} {e:Expr} {x:AObj}:(U2 L Hp o om i x).set om (.cells 80 [A4 m.kind,.slice true 1 (m.take.map Ab),.slice true 2 (m.give.map Bl),.slice true 6 (m.ahead.map A7),.slice true 6 (m.back.map A7++[.agg (D0 e)])])=U2 L Hp o om i (mvO (u6 m e)):=by
 rw [U2_setm,show AV.agg (D0 e)=A7 e from (Al e).symm];simp only [mvO,mvC,u6,Bn,Br,Ct]
theorem xp {L:List Tok} {Hp:List AObj} {o om i:Nat} {m:Mov} {s:Str} {x:AObj}:(U2 L Hp o om i x).set om (.cells 80 [A4 m.kind,.slice true 1 (m.take.map Ab++[Ab s]),.slice true 2 (m.give.map Bl),.slice true 6 (m.ahead.map A7),.slice true 6 (m.back.map A7)])=U2 L Hp o om i (mvO (u7 m s)):=by
 rw [U2_setm];simp only [mvO,mvC,u7,Bn,Br,Ct]

theorem AFi (L:List Tok) (m:Mov) (i o om:Nat) (Hp:List AObj) (hne:om≠o) (ho:Hp[o]? = some (pmO L i)) (hm:Hp[om]? = some (mvO m)) (hi:i<L.length) (hl:TokEnd L) (hll:L.length≤500000) (hb:MvLe m (2*i-1)):CP 190 [.ptr o 0,.ptr om 0] Hp (Fm L m i) (fun m' j r H'=>r=Qw∧H'=U2 L Hp o om j (mvO m')) (W2 L o om Hp):=by
 refine ⟨fun hX=>?_⟩
 have:=hb.take;have:=hb.give;have:=hb.ahead;have:=hb.back
 refine Ah [] [0,1] Tryz.func190 Tryz.ntmps190 (fun d=>?_)
 rcases hC:La L i with ⟨c,j⟩|⟨e,a⟩
 rotate_left
 ·exact (D7 hX (by first|exact by unfold Fm;rw [hC];rfl|exact hC)).elim
 have hj:=cr hl hi _ _ hC
 refine Hh [0,0,2,6,14,0,32,96,254,511,1023,2047] [4,6] [.q 4 [] [],.s [8] (some 0) [] [],.q 1 [] [1],.s [10] (some 1) [] [],.q 1 [1] [],.s [8,12] none [0,1] []] (fun B=>U2 L Hp o om (if B 1=true then j else i) (if B 0=true then .cells 80 [A4 m.kind,.slice true 1 (m.take.map Ab),.slice false 2 (m.give.map Bl),.slice true 6 (m.ahead.map A7),.slice true 6 (m.back.map A7)] else .cells 80 [A4 m.kind,.slice true 1 (m.take.map Ab),.slice true 2 (m.give.map Bl),.slice true 6 (m.ahead.map A7),.slice true 6 (m.back.map A7)])) (fun _=>[]) Ap (by kernel_rfl) (Tc ho hm) rfl (fun B=>U2_len) ?_
 apply Y.q
 ·intro B hT hF
  exact io
 case hTF=>decide
 refine R9 (o:=om) (t':=80) (cs:=[A4 m.kind,.slice true 1 (m.take.map Ab),.slice true 2 (m.give.map Bl),.slice true 6 (m.ahead.map A7),.slice true 6 (m.back.map A7)]) (cs':=[A4 m.kind,.slice true 1 (m.take.map Ab),.slice false 2 (m.give.map Bl),.slice true 6 (m.ahead.map A7),.slice true 6 (m.back.map A7)]) Tryz.isAgg30 (fun B hB=>⟨by simp only [hB];exact Fz hm,U2_setm.symm,rfl⟩) ?_
 apply Y.q
 ·intro B hT hF
  exact Z60
 case hTF=>decide
 refine Nn (r:=Bl c) (o:=o) (x0:=pmO L i) (x:=pmO L j) Tryz.call229 (fun B hB1 hB2 hB=>⟨by simp only [hB];exact F0 ho hne,(Fu hne).symm,rfl,Eg,?_⟩) ?_
 ·simp only [hB]
  exact (APs L i o _ (Ak (F0 ho hne)) hi hl hll).ok hC
 apply Y.q
 ·intro B hT hF
  exact Z40
 case hTF=>decide
 refine Ws jU Tryz.type69 ?_ ?_ ?_
 ·simp [Tryz.t69];omega
 ·simp [Tryz.t69];omega
 refine Gx (tn:=[4,6]) (U:=U2 L Hp o om j (.cells 80 [A4 m.kind,.slice true 1 (m.take.map Ab),.slice false 2 (m.give.map Bl),.slice true 6 (m.ahead.map A7),.slice true 6 (m.back.map A7)])) ?_;refine Z0 ?_
 refine Hg jS (Fz hm) ?_ ?_
 ·simp [or_imp,forall_and]
 refine A2 [0,1] ?_;refine Ry (xl (m:=m) (c:=c)) ?_
 rcases hW:Da L [61] j with ⟨u,j2⟩|⟨e,a⟩
 rotate_left
 ·exact (D7 hX (by first|exact by unfold Fm;rw [hC];show (Da L [61] j).bind _=_;rw [hW];rfl|exact hW)).elim
 have hj2:=H7 hl hj.2 _ _ hW
 refine Z2 ?_;refine Cl (x:=pmO L j2) Tryz.call153 (F0 ho hne) (by simp) Eg ((qx L [61] j o _ (Ak (F0 ho hne)) hj.2 hll).ok hW) ?_
 rw [Fu hne]
 refine A2 [0,1] ?_
 rcases hT:Oe L j2 with ⟨x,k⟩|⟨e,a⟩
 rotate_left
 ·exact (D7 hX (by first|exact by unfold Fm;rw [hC];show (Da L [61] j).bind _=_;rw [hW];show (Oe L j2).bind _=_;rw [hT];rfl|exact hT)).elim
 have hk:=Ta hl hll hj2.2 hT
 refine W.drawT0 [0,1,3,7,0,16,15,0,255,511,1023,511,2559,6655] [3,5] [.q 3 [] [0],.s [20] (some 0) [] [],.q 1 [] [1],.s [22] (some 1) [] [],.q 2 [] []] (fun B=>U2 L Hp o om (if B 1=true then k else j2) (if B 0=true then .cells 80 [A4 (E6 m c).kind,.slice true 1 ((E6 m c).take.map Ab),.slice true 2 ((E6 m c).give.map Bl),.slice false 6 ((E6 m c).ahead.map A7),.slice true 6 ((E6 m c).back.map A7)] else .cells 80 [A4 (E6 m c).kind,.slice true 1 ((E6 m c).take.map Ab),.slice true 2 ((E6 m c).give.map Bl),.slice true 6 ((E6 m c).ahead.map A7),.slice true 6 ((E6 m c).back.map A7)])) (fun _=>[]) Ap (by kernel_rfl) rfl rfl (fun B=>by rw [U2_len];exact U2_len.symm) ?_
 apply Y.q
 ·intro B hT hF
  refine Z37 ?_;exact ep
 case hTF=>decide
 refine R9 (o:=om) (t':=80) (cs:=[A4 (E6 m c).kind,.slice true 1 ((E6 m c).take.map Ab),.slice true 2 ((E6 m c).give.map Bl),.slice true 6 ((E6 m c).ahead.map A7),.slice true 6 ((E6 m c).back.map A7)]) (cs':=[A4 (E6 m c).kind,.slice true 1 ((E6 m c).take.map Ab),.slice true 2 ((E6 m c).give.map Bl),.slice false 6 ((E6 m c).ahead.map A7),.slice true 6 ((E6 m c).back.map A7)]) Tryz.isAgg25 (fun B hB=>⟨by simp only [hB];exact Fz hm,U2_setm.symm,rfl⟩) ?_
 apply Y.q
 ·intro B hT hF
  exact Z60
 case hTF=>decide
 refine Nn (r:=A7 x) (o:=o) (x0:=pmO L j2) (x:=pmO L k) Tryz.call230 (fun B hB1 hB2 hB=>⟨by simp only [hB];exact F0 ho hne,(Fu hne).symm,rfl,Eg,?_⟩) ?_
 ·simp only [hB]
  exact (AMr L j2 o _ (Ak (F0 ho hne)) hj2.2 hl hll).ok hT
 apply Y.q
 ·intro B hT hF
  exact na
 case hTF=>decide
 refine Y.appendPut4 (tn:=[3,5]) (U:=U2 L Hp o om k (.cells 80 [A4 (E6 m c).kind,.slice true 1 ((E6 m c).take.map Ab),.slice true 2 ((E6 m c).give.map Bl),.slice false 6 ((E6 m c).ahead.map A7),.slice true 6 ((E6 m c).back.map A7)])) (O:=[]) (o:=om) (t':=80) (cs:=[A4 (E6 m c).kind,.slice true 1 ((E6 m c).take.map Ab),.slice true 2 ((E6 m c).give.map Bl),.slice false 6 ((E6 m c).ahead.map A7),.slice true 6 ((E6 m c).back.map A7)]) (by kernel_rfl) jU Tryz.type27 Tryz.sizeOf27 Tryz.sizeOf25 jU (Ak (Fz hm)) ?_ ?_ ?_ (hfsz:=Tryz.sizeOf25)
 ·simp [Tryz.t27,E6];omega
 ·simp [Tryz.t27,E6];omega
 refine Z0 ?_
 refine Hg jS (Fz hm) ?_ ?_
 ·exact Rz
 refine Ku ?_;exact Eo .nores (hp:=⟨u5 (E6 m c) x,k,by unfold Fm;rw [hC];show (Da L [61] j).bind _=_;rw [hW];show (Oe L j2).bind _=_;rw [hT];rfl,rfl,by exact xm (m:=E6 m c)⟩)

/-- What is asked of a part of a move that is a closure. -/
def ua (L:List Tok) (o om g:Nat) (caps:List AV) (Hp:List AObj) (one:Mov→Nat→PR Mov):Prop:=
 ∀m i,MvLe m (2*i-1)→0<i→i<L.length→CP g caps (U2 L Hp o om i (mvO m)) (one m i) (fun m' j r H'=>r=Qw∧H'=U2 L Hp o om j (mvO m')) (W2 L o om Hp)
theorem L1 {L:List Tok} {Hp:List AObj} {o om i j:Nat} {x y:AObj} (hne:om≠o):U2 L (U2 L Hp o om i x) o om j y=U2 L Hp o om j y:=by
 unfold U2
 rw [ABf hne,C6]
theorem ACf {L:List Tok} {Hp H':List AObj} {o om i:Nat} {x:AObj} (hne:om≠o) (h:W2 L o om (U2 L Hp o om i x) H'):W2 L o om Hp H':=by
 obtain ⟨j,m,e⟩:=h
 exact ⟨j,m,by rw [e,L1 hne]⟩
theorem APt (L:List Tok) (m:Mov) (i o om bp bm:Nat) (Hp:List AObj) (hne:om≠o) (ho:Hp[o]? = some (pmO L i)) (hm:Hp[om]? = some (mvO m)) (hbp:Hp[bp]? = some (.cells 107 [.ptr o 0])) (hbm:Hp[bm]? = some (.cells 194 [.ptr om 0])) (hi:i<L.length) (hl:TokEnd L) (hll:L.length≤500000) (hb:MvLe m (2*i-1)):CP 231 [.ptr bm 0,.ptr bp 0] Hp (Vj L m i) (fun m' j r H'=>r=Qw∧H'=U2 L Hp o om j (mvO m')) (W2 L o om Hp):=by
 refine ⟨fun hX=>?_⟩
 have n1:bp≠o:=fun e=>by rw [e,ho] at hbp;simp at hbp
 have n2:bp≠om:=fun e=>by rw [e,hm] at hbp;simp at hbp
 have n3:bm≠o:=fun e=>by rw [e,ho] at hbm;simp at hbm
 have n4:bm≠om:=fun e=>by rw [e,hm] at hbm;simp at hbm
 have:=hb.take;have:=hb.give;have:=hb.ahead;have:=hb.back
 refine Ah [] [0,1] Tryz.func231 Tryz.ntmps231 (fun d=>?_)
 refine W.flip Ap (by kernel_rfl) Tryz.zeroValue4 Tryz.sizeOf4 Tryz.isAgg4 (fun fb=>?_)
 refine af [0,1,3] (by simp only [go_sem,↓reduceIte,Nat.reduceEqDiff,Nat.reduceAdd]<;>rfl) ?_
 refine A3 (fun ht3=>?_) (fun ht3=>?_)
 ·rcases hT:Oe L i with ⟨x,k⟩|⟨e,a⟩
  rotate_left
  ·exact ALj
  have hk:=Ta hl hll hi hT
  refine W.drawZ0 [0,1,3,7,0,16,15,0,255,511,1023,2047] [3,5] [.q 3 [] [0],.s [7] (some 0) [] [],.q 1 [] [1],.s [9] (some 1) [] [],.q 2 [] []] (fun B=>U2 L Hp o om (if B 1=true then k else i) (if B 0=true then .cells 80 [A4 m.kind,.slice true 1 (m.take.map Ab),.slice true 2 (m.give.map Bl),.slice true 6 (m.ahead.map A7),.slice false 6 (m.back.map A7)] else .cells 80 [A4 m.kind,.slice true 1 (m.take.map Ab),.slice true 2 (m.give.map Bl),.slice true 6 (m.ahead.map A7),.slice true 6 (m.back.map A7)])) (fun _=>[.cells 4 [.v (.bool fb)]]) Ap (by kernel_rfl) (Tc ho hm) rfl (fun B=>U2_len) ?_
  apply Y.q
  ·intro B hT hF
   refine Av (h:=Bj ((I6 n3 n4).trans hbm)) (hr:=?_)
   exact Z72
  case hTF=>decide
  refine R9 (o:=om) (t':=80) (cs:=[A4 m.kind,.slice true 1 (m.take.map Ab),.slice true 2 (m.give.map Bl),.slice true 6 (m.ahead.map A7),.slice true 6 (m.back.map A7)]) (cs':=[A4 m.kind,.slice true 1 (m.take.map Ab),.slice true 2 (m.give.map Bl),.slice true 6 (m.ahead.map A7),.slice false 6 (m.back.map A7)]) Tryz.isAgg25 (fun B hB=>⟨by simp only [hB];exact Fz hm,U2_setm.symm,rfl⟩) ?_
  apply Y.q
  ·intro B hT hF
   refine Av (h:=Bj ((I6 n1 n2).trans hbp)) (hr:=?_)
   exact ep
  case hTF=>decide
  refine Nn (r:=A7 x) (o:=o) (x0:=pmO L i) (x:=pmO L k) Tryz.call230 (fun B hB1 hB2 hB=>⟨by simp only [hB];exact F0 ho hne,(Fu hne).symm,rfl,Eg,?_⟩) ?_
  ·simp only [hB]
   exact ALk
  apply Y.q
  ·intro B hT hF
   exact na
  case hTF=>decide
  refine Y.put2 (tn:=[3,5]) (U:=U2 L Hp o om k (.cells 80 [A4 m.kind,.slice true 1 (m.take.map Ab),.slice true 2 (m.give.map Bl),.slice true 6 (m.ahead.map A7),.slice false 6 (m.back.map A7)])) (O:=[.cells 4 [.v (.bool fb)]]) (o:=om) (t':=80) (cs:=[A4 m.kind,.slice true 1 (m.take.map Ab),.slice true 2 (m.give.map Bl),.slice true 6 (m.ahead.map A7),.slice false 6 (m.back.map A7)]) jU Tryz.type27 Tryz.sizeOf27 Tryz.sizeOf25 jU (Ak (Fz hm)) ?_ ?_ ?_ (hfsz:=Tryz.sizeOf25)
  ·simp [Tryz.t27];omega
  ·simp [Tryz.t27];omega
  refine Z0 ?_
  refine Hg jS (Fz hm) ?_ ?_
  ·exact Rz
  exact AJn
 rcases hT:Oe L i with ⟨x,k⟩|⟨e,a⟩
 rotate_left
 ·exact ALj
 have hk:=Ta hl hll hi hT
 refine P6 [0,0,2,6,14,0,32,96,254,511,1023,2047] [4,6] [.q 4 [] [],.s [20] (some 0) [] [],.q 1 [] [1],.s [22] (some 1) [] [],.q 1 [1] [],.s [20,24] none [0,1] []] (fun B=>U2 L Hp o om (if B 1=true then k else i) (if B 0=true then .cells 80 [A4 m.kind,.slice true 1 (m.take.map Ab),.slice true 2 (m.give.map Bl),.slice true 6 (m.ahead.map A7),.slice false 6 (m.back.map A7)] else .cells 80 [A4 m.kind,.slice true 1 (m.take.map Ab),.slice true 2 (m.give.map Bl),.slice true 6 (m.ahead.map A7),.slice true 6 (m.back.map A7)])) (fun _=>[.cells 4 [.v (.bool fb)]]) Ap (by kernel_rfl) (Tc ho hm) rfl (fun B=>U2_len) ?_
 apply Y.q
 ·intro B hT hF
  refine Av (h:=Bj ((I6 n3 n4).trans hbm)) (hr:=?_)
  refine Av (h:=Bj ((I6 n3 n4).trans hbm)) (hr:=?_)
  exact Z72
 case hTF=>decide
 refine R9 (o:=om) (t':=80) (cs:=[A4 m.kind,.slice true 1 (m.take.map Ab),.slice true 2 (m.give.map Bl),.slice true 6 (m.ahead.map A7),.slice true 6 (m.back.map A7)]) (cs':=[A4 m.kind,.slice true 1 (m.take.map Ab),.slice true 2 (m.give.map Bl),.slice true 6 (m.ahead.map A7),.slice false 6 (m.back.map A7)]) Tryz.isAgg25 (fun B hB=>⟨by simp only [hB];exact Fz hm,U2_setm.symm,rfl⟩) ?_
 apply Y.q
 ·intro B hT hF
  refine Av (h:=Bj ((I6 n1 n2).trans hbp)) (hr:=?_)
  exact ep
 case hTF=>decide
 refine Nn (r:=A7 x) (o:=o) (x0:=pmO L i) (x:=pmO L k) Tryz.call230 (fun B hB1 hB2 hB=>⟨by simp only [hB];exact F0 ho hne,(Fu hne).symm,rfl,Eg,?_⟩) ?_
 ·simp only [hB]
  exact ALk
 apply Y.q
 ·intro B hT hF
  exact Z40
 case hTF=>decide
 refine Ws jU Tryz.type27 ?_ ?_ ?_
 ·simp [Tryz.t27];omega
 ·simp [Tryz.t27];omega
 refine Gx (tn:=[4,6]) (U:=U2 L Hp o om k (.cells 80 [A4 m.kind,.slice true 1 (m.take.map Ab),.slice true 2 (m.give.map Bl),.slice true 6 (m.ahead.map A7),.slice false 6 (m.back.map A7)])) ?_;refine Z0 ?_
 refine Hg jS (Fz hm) ?_ ?_
 ·exact Rz
 exact AJn

theorem Jl {L:List Tok} {Hp:List AObj} {o om i j n:Nat} {x y:AObj} (hne:om≠o) (hy:ObjLow n y) (h:∀z∈U2 L Hp o om i x,ObjLow n z):∀z∈U2 L Hp o om j y,ObjLow n z:=by
 intro z hz
 rw [show U2 L Hp o om j y=((U2 L Hp o om i x).set o (pmO L j)).set om y by rw [Fu hne,U2_setm]] at hz
 rcases M5 hz with hz|rfl
 ·rcases M5 hz with hz|rfl
  ·exact h z hz
  exact Eg
 exact hy
theorem Ff {L:List Tok} {Hp own:List AObj} {o om i:Nat} {x:AObj} (h1:o<Hp.length) (h2:om<Hp.length):U2 L (Hp++own) o om i x=U2 L Hp o om i x++own:=by
 unfold U2
 rw [L2 _ _ h1,L2 _ _ (by simpa using h2)]
/-- Where the loop of things with commas between stands. -/
structure ListAt (L:List Tok) (n:Int) (one:Mov→Nat→PR Mov) (X:PR Mov) (x:Nat×Mov×Nat):Prop where
 lt:x.2.2<L.length
 pos:0<x.2.2
 le:MvLe x.2.1 (2*x.2.2)
 k:x.1≤x.2.2
 fuel:∃f,X=T8 L n one f x.1 x.2.1 x.2.2∧L.length-x.2.2<f
theorem ListAt.step {L:List Tok} {n:Int} {one:Mov→Nat→PR Mov} {X:PR Mov} {x:Nat×Mov×Nat} (h:ListAt L n one X x) (hq:Vi L n x.1 x.2.2=true):∃f,X=((Da L [44] x.2.2).bind fun _ j=>(one x.2.1 j).bind fun m j=>T8 L n one f (x.1+1) m j)∧L.length-x.2.2<f+1:=by
 obtain ⟨f,e,hf⟩:=h.fuel
 obtain ⟨f,rfl⟩:∃g,f=g+1:=⟨f-1,by omega⟩
 refine ⟨f,?_,hf⟩
 rw [e,T8,if_pos hq]
theorem ListAt.on {L:List Tok} (hl:TokEnd L) {n:Int} {one:Mov→Nat→PR Mov} (hP:Zw L one) {X:PR Mov} {x:Nat×Mov×Nat} (h:ListAt L n one X x) (hq:Vi L n x.1 x.2.2=true) {u:Unit} {j:Nat} (hW:Da L [44] x.2.2=.ok u j) {m2:Mov} {j2:Nat} (hO:one x.2.1 j=.ok m2 j2):ListAt L n one X (x.1+1,m2,j2)∧x.2.2<j2:=by
 obtain ⟨f,e,hf⟩:=h.step hq
 have h1:=H7 hl h.lt _ _ hW
 have hj:j=x.2.2+1:=by
  unfold Da at hW
  split at hW
  ·injection hW with _ h;exact h.symm
  cases hW
 obtain ⟨a1,a2,a3⟩:=hP x.2.1 j (h.le.mono (by omega)) (by omega) h1.2 _ _ hO
 have:=h.k
 refine ⟨⟨a2,by show 0<j2;omega,a3,by show x.1+1≤j2;omega,f,?_,by show L.length-j2<f;omega⟩,by omega⟩
 rw [e,hW]
 show (one x.2.1 j).bind _=_
 rw [hO];rfl
theorem ListAt.bad1 {L:List Tok} {n:Int} {one:Mov→Nat→PR Mov} {X:PR Mov} {x:Nat×Mov×Nat} (h:ListAt L n one X x) (hq:Vi L n x.1 x.2.2=true) {e a:Int} (hW:Da L [44] x.2.2=.bad e a):X=.bad e a:=by
 obtain ⟨f,e,_⟩:=h.step hq
 rw [e,hW];rfl
theorem ListAt.bad2 {L:List Tok} {n:Int} {one:Mov→Nat→PR Mov} {X:PR Mov} {x:Nat×Mov×Nat} (h:ListAt L n one X x) (hq:Vi L n x.1 x.2.2=true) {u:Unit} {j:Nat} (hW:Da L [44] x.2.2=.ok u j) {e a:Int} (hO:one x.2.1 j=.bad e a):X=.bad e a:=by
 obtain ⟨f,e,_⟩:=h.step hq
 rw [e,hW]
 show (one x.2.1 j).bind _=_
 rw [hO];rfl
theorem ListAt.out {L:List Tok} {n:Int} {one:Mov→Nat→PR Mov} {X:PR Mov} {x:Nat×Mov×Nat} (h:ListAt L n one X x) (hq:Vi L n x.1 x.2.2=false):X=.ok x.2.1 x.2.2:=by
 obtain ⟨f,e,hf⟩:=h.fuel
 obtain ⟨f,rfl⟩:∃g,f=g+1:=⟨f-1,by omega⟩
 rw [e,T8,if_neg (by rw [hq];simp)]
theorem APu (L:List Tok) (m:Mov) (i o om bp bm:Nat) (Hp:List AObj) (hne:om≠o) (ho:Hp[o]? = some (pmO L i)) (hm:Hp[om]? = some (mvO m)) (hbp:Hp[bp]? = some (.cells 107 [.ptr o 0])) (hbm:Hp[bm]? = some (.cells 194 [.ptr om 0])) (hi:i<L.length) (hl:TokEnd L) (hll:L.length≤500000) (hb:MvLe m (2*i-1)):CP 196 [.ptr bm 0,.ptr bp 0] Hp (T9 L m i) (fun m' j r H'=>r=Qw∧H'=U2 L Hp o om j (mvO m')) (W2 L o om Hp):=by
 refine ⟨fun hX=>?_⟩
 have n1:bp≠o:=fun e=>by rw [e,ho] at hbp;simp at hbp
 have n2:bp≠om:=fun e=>by rw [e,hm] at hbp;simp at hbp
 have n3:bm≠o:=fun e=>by rw [e,ho] at hbm;simp at hbm
 have n4:bm≠om:=fun e=>by rw [e,hm] at hbm;simp at hbm
 have:=hb.take;have:=hb.give;have:=hb.ahead;have:=hb.back
 refine Ah [] [0,1] Tryz.func196 Tryz.ntmps196 (fun d=>?_)
 rcases hT:Ic L i with ⟨s,k⟩|⟨e,a⟩
 rotate_left
 ·exact (D7 hX (by first|exact by unfold T9;rw [hT];rfl|exact hT)).elim
 have hk:=Jk hl hi _ _ hT
 refine P6 [0,0,2,6,14,0,32,96,254,511,1023,2047] [4,6] [.q 4 [] [],.s [6] (some 0) [] [],.q 1 [] [1],.s [8] (some 1) [] [],.q 1 [1] [],.s [6,10] none [0,1] []] (fun B=>U2 L Hp o om (if B 1=true then k else i) (if B 0=true then .cells 80 [A4 m.kind,.slice false 1 (m.take.map Ab),.slice true 2 (m.give.map Bl),.slice true 6 (m.ahead.map A7),.slice true 6 (m.back.map A7)] else .cells 80 [A4 m.kind,.slice true 1 (m.take.map Ab),.slice true 2 (m.give.map Bl),.slice true 6 (m.ahead.map A7),.slice true 6 (m.back.map A7)])) (fun _=>[]) Ap (by kernel_rfl) (Tc ho hm) rfl (fun B=>U2_len) ?_
 apply Y.q
 ·intro B hT hF
  refine Av (h:=Bj ((I6 n3 n4).trans hbm)) (hr:=?_)
  refine Av (h:=Bj ((I6 n3 n4).trans hbm)) (hr:=?_)
  exact Z72
 case hTF=>decide
 refine R9 (o:=om) (t':=80) (cs:=[A4 m.kind,.slice true 1 (m.take.map Ab),.slice true 2 (m.give.map Bl),.slice true 6 (m.ahead.map A7),.slice true 6 (m.back.map A7)]) (cs':=[A4 m.kind,.slice false 1 (m.take.map Ab),.slice true 2 (m.give.map Bl),.slice true 6 (m.ahead.map A7),.slice true 6 (m.back.map A7)]) Tryz.isAgg22 (fun B hB=>⟨by simp only [hB];exact Fz hm,U2_setm.symm,rfl⟩) ?_
 apply Y.q
 ·intro B hT hF
  refine Av (h:=Bj ((I6 n1 n2).trans hbp)) (hr:=?_)
  exact ep
 case hTF=>decide
 refine Nn (r:=Ab s) (o:=o) (x0:=pmO L i) (x:=pmO L k) Tryz.call191 (fun B hB1 hB2 hB=>⟨by simp only [hB];exact F0 ho hne,(Fu hne).symm,rfl,Eg,?_⟩) ?_
 ·simp only [hB]
  exact (xk L i o _ (Ak (F0 ho hne)) hi hll).ok hT
 apply Y.q
 ·intro B hT hF
  exact Z40
 case hTF=>decide
 refine Ws jU Tryz.type9 ?_ ?_ ?_
 ·simp [Tryz.t9];omega
 ·simp [Tryz.t9];omega
 refine Gx (tn:=[4,6]) (U:=U2 L Hp o om k (.cells 80 [A4 m.kind,.slice false 1 (m.take.map Ab),.slice true 2 (m.give.map Bl),.slice true 6 (m.ahead.map A7),.slice true 6 (m.back.map A7)])) ?_;refine Z0 ?_
 refine Hg jS (Fz hm) ?_ ?_
 ·simp [or_imp,forall_and]
 refine Ku ?_;exact Eo .nores (hp:=⟨u7 m s,k,by unfold T9;rw [hT];rfl,rfl,by exact xp⟩)

theorem APv (L:List Tok) (m:Mov) (i o om bp bm:Nat) (Hp:List AObj) (hne:om≠o) (ho:Hp[o]? = some (pmO L i)) (hm:Hp[om]? = some (mvO m)) (hbp:Hp[bp]? = some (.cells 107 [.ptr o 0])) (hbm:Hp[bm]? = some (.cells 194 [.ptr om 0])) (hi:i<L.length) (hl:TokEnd L) (hll:L.length≤500000) (hb:MvLe m (2*i-1)):CP 195 [.ptr bp 0,.ptr bm 0] Hp (Fm L m i) (fun m' j r H'=>r=Qw∧H'=U2 L Hp o om j (mvO m')) (W2 L o om Hp):=by
 refine ⟨fun hX=>?_⟩
 have hol:=(Ae.1 ho).1
 have hml:=(Ae.1 hm).1
 have n1:bp≠o:=fun e=>by rw [e,ho] at hbp;simp at hbp
 have n2:bp≠om:=fun e=>by rw [e,hm] at hbp;simp at hbp
 have n3:bm≠o:=fun e=>by rw [e,ho] at hbm;simp at hbm
 have n4:bm≠om:=fun e=>by rw [e,hm] at hbm;simp at hbm
 have:=hb.take;have:=hb.give;have:=hb.ahead;have:=hb.back
 refine Ah [] [0,1] Tryz.func195 Tryz.ntmps195 (fun d=>?_)
 refine AA2 ?_
 rcases hT:Fm L m i with ⟨m2,k⟩|⟨e,a⟩
 rotate_left
 ·exact (D7 hX hT).elim
 refine Og ?_
 refine A5 (h:=Bj ((I6 n1 n2).trans hbp)) (hr:=?_)
 refine A5 (h:=Bj ((I6 n3 n4).trans hbm)) (hr:=?_)
 refine Hi (up':=U2 L Hp o om k (mvO m2)) (own':=[]) Tryz.call190 (((AFi L m i o om _ hne (Ak (F0 ho hne)) (Ak (Fz hm)) hi hl hll hb).ok hT).mono (fun r H' e=>⟨e.1,e.2.trans (by rw [Ha,Ha,L1 hne])⟩)) (by rw [U2_len,U2_len]) (fun h=>Jl hne H8 h) ?_;refine Ku ?_;exact Eo .nores (hp:=⟨m2,k,rfl,rfl,rfl⟩)

theorem AIv (L:List Tok) (n:Int) (m:Mov) (i o om g:Nat) (caps:List AV) (one:Mov→Nat→PR Mov) (Hp:List AObj) (hne:om≠o) (ho:Hp[o]? = some (pmO L i)) (hm:Hp[om]? = some (mvO m)) (h0:0<i) (hi:i<L.length) (hl:TokEnd L) (hll:L.length≤500000) (hb:MvLe m (2*i-1)) (hcall:∀args w,(callFunc g args).run Tryz.prog w=.ok (.enter g args) w) (hC:ua L o om g caps Hp one) (hP:Zw L one):CP 194 [.ptr o 0,A4 n,.fn (.func g) [] caps] Hp (Ji L n one m i) (fun m' j r H'=>r=Qw∧H'=U2 L Hp o om j (mvO m')) (W2 L o om Hp):=by
 refine ⟨fun hX=>?_⟩
 have hol:=(Ae.1 ho).1
 have hml:=(Ae.1 hm).1
 refine Ah [] [0,1,2] Tryz.func194 Tryz.ntmps194 (fun d=>?_)
 refine AA2 ?_
 rcases h1:one m i with ⟨m1,j1⟩|⟨e,a⟩
 rotate_left
 ·exact (D7 hX (by first|exact by unfold Ji;rw [h1];rfl|exact h1)).elim
 have g1:=hP m i hb h0 hi _ _ h1
 have e0:Ji L n one m i=T8 L n one (L.length+1) 1 m1 j1:=by unfold Ji;rw [h1];rfl
 refine Z2 ?_
 refine R.callVX (up':=U2 L Hp o om j1 (mvO m1)) (own':=[]) hcall (by rw [Ha,Ha];exact (hC m i hb h0 hi).ok h1) (by rw [U2_len,U2_len]) (fun h=>Jl hne H8 h) ?_
 refine en ?_;refine Z2 ?_;refine nt ?_
 refine Bg (α:=Nat×Mov×Nat) (fun x=>⟨30,A6 0 (.ptr o 0) (A6 1 (A4 n) (A6 2 (.fn (.func g) [] caps) (A6 6 (A4 (x.1:Int)) (fun _=>.any)))),U2 L Hp o om x.2.2 (mvO x.2.1),[],[],none⟩) (fun x=>ListAt L n one (Ji L n one m i) x) (fun x=>L.length-x.2.2) ((1,m1,j1)) ⟨g1.2.1,by show 0<j1;omega,g1.2.2,by show 1≤j1;omega,_,e0,by show L.length-j1<_;omega⟩ (Em _) rfl (fun x hx=>?_)
 refine Z7 ?_;refine Z52 ?_;refine Tu ?_;refine Bm Tryz.call197 (fun hB=>AMq L [44] x.2.2 o _ (Ak (F0 ho hne)) hx.lt) ?_;refine eh ?_;refine A2 [0,1,2,6,23] ?_
 refine A3 (fun ht23=>?_) (fun ht23=>?_)
 ·have hq:Vi L n x.1 x.2.2=true:=ht23
  refine Z35 ?_
  rcases hW:Da L [44] x.2.2 with ⟨u,j⟩|⟨e,a⟩
  rotate_left
  ·exact (D7 hX (by first|exact hx.bad1 hq hW|exact hW)).elim
  have hj:=H7 hl hx.lt _ _ hW
  have hpos:=hx.pos
  refine Z2 ?_;refine Cl (x:=pmO L j) Tryz.call153 (F0 ho hne) (by simp) Eg ((qx L [44] x.2.2 o _ (Ak (F0 ho hne)) hx.lt hll).ok hW) ?_
  rw [Fu hne]
  refine nt ?_
  rcases hO:one x.2.1 j with ⟨m2,j2⟩|⟨e,a⟩
  rotate_left
  ·exact (D7 hX (by first|exact hx.bad2 hq hW hO|exact hO)).elim
  have hon:=hx.on hl hP hq hW hO
  refine Z61 ?_
  refine R.callVX (up':=U2 L Hp o om j2 (mvO m2)) (own':=[]) hcall (by rw [Ha,Ha];exact (hC x.2.1 j (hx.le.mono (by omega)) (by omega) hj.2).ok hO) (by rw [U2_len,U2_len]) (fun h=>Jl hne H8 h) ?_
  refine nt ?_;refine Z14 ?_;refine A5 ?_
  refine A5 (h:=Q.add64 (h2:=fun _=>by have:=hx.k;have:=hx.lt;omega)) (hr:=?_)
  refine A5 ?_;refine nt ?_
  refine Au (x.1+1,m2,j2) hon.1 (by have:=hx.lt;have:=hon.2;show L.length-j2<L.length-x.2.2;omega) (Bk rfl)
 have hq:Vi L n x.1 x.2.2=false:=ht23
 have e:=hx.out hq
 refine nj ?_;exact Eo .nores (hp:=⟨_,_,e,rfl,rfl⟩)

theorem CP.mono {g:FuncId} {args:List AV} {H:List AObj} {α:Type} {X:PR α} {Q Q':α→Nat→AV→List AObj→Prop} {R R':List AObj→Prop} (h:CP g args H X Q R) (hQ:∀c j r H',Q c j r H'→Q' c j r H') (hR:∀H',R H'→R' H'):CP g args H X Q' R':=
 ⟨fun hX=>(h.run hX).mono (fun r H' ⟨c,j,e,hq⟩=>⟨c,j,e,hQ _ _ _ _ hq⟩)⟩
section
variable {L:List Tok} {o om bp bm:Nat} {X:List AObj} {z z':AObj}
theorem xq (hne:om≠o) (ho:X[o]? = some z) (hm:X[om]? = some z') (hbp:X[bp]? = some (.cells 107 [.ptr o 0])) (hbm:X[bm]? = some (.cells 194 [.ptr om 0])) (n1:bp≠o) (n2:bp≠om) (n3:bm≠o) (n4:bm≠om) (hl:TokEnd L) (hll:L.length≤500000):ua L o om 231 [.ptr bm 0,.ptr bp 0] X (Vj L):=
 fun m i hb _ hi=>(APt L m i o om bp bm (U2 L X o om i (mvO m)) hne (F0 ho hne) (Fz hm) ((I6 n1 n2).trans hbp) ((I6 n3 n4).trans hbm) hi hl hll hb).mono (fun c j r H' e=>⟨e.1,e.2.trans (L1 hne)⟩) (fun H' h=>ACf hne h)
theorem xt (hne:om≠o) (ho:X[o]? = some z) (hm:X[om]? = some z') (hbp:X[bp]? = some (.cells 107 [.ptr o 0])) (hbm:X[bm]? = some (.cells 194 [.ptr om 0])) (n1:bp≠o) (n2:bp≠om) (n3:bm≠o) (n4:bm≠om) (hl:TokEnd L) (hll:L.length≤500000):ua L o om 196 [.ptr bm 0,.ptr bp 0] X (T9 L):=
 fun m i hb _ hi=>(APu L m i o om bp bm (U2 L X o om i (mvO m)) hne (F0 ho hne) (Fz hm) ((I6 n1 n2).trans hbp) ((I6 n3 n4).trans hbm) hi hl hll hb).mono (fun c j r H' e=>⟨e.1,e.2.trans (L1 hne)⟩) (fun H' h=>ACf hne h)
theorem xu (hne:om≠o) (ho:X[o]? = some z) (hm:X[om]? = some z') (hbp:X[bp]? = some (.cells 107 [.ptr o 0])) (hbm:X[bm]? = some (.cells 194 [.ptr om 0])) (n1:bp≠o) (n2:bp≠om) (n3:bm≠o) (n4:bm≠om) (hl:TokEnd L) (hll:L.length≤500000):ua L o om 195 [.ptr bp 0,.ptr bm 0] X (Fm L):=
 fun m i hb _ hi=>(APv L m i o om bp bm (U2 L X o om i (mvO m)) hne (F0 ho hne) (Fz hm) ((I6 n1 n2).trans hbp) ((I6 n3 n4).trans hbm) hi hl hll hb).mono (fun c j r H' e=>⟨e.1,e.2.trans (L1 hne)⟩) (fun H' h=>ACf hne h)
end
attribute [go_sem] U2_len
theorem xv {L:List Tok} {Hp own:List AObj} {o om i n:Nat} {x z:AObj} (h:own[n]? = some z):(U2 L Hp o om i x++own)[oid Hp.length n]? = some z:=by
 unfold oid
 rw [List.getElem?_append_right (by rw [U2_len];omega),U2_len,Nat.add_sub_cancel_left]
 exact h
theorem Ky {n k o:Nat} (h:o<n):oid n k≠o:=by unfold oid;omega
theorem AFj (L:List Tok) (m:Mov) (i o om:Nat) (Hp:List AObj) (hne:om≠o) (ho:Hp[o]? = some (pmO L i)) (hm:Hp[om]? = some (mvO m)) (hi:i<L.length) (hl:TokEnd L) (hll:L.length≤500000) (hb:MvLe m (2*i)):CP 192 [.ptr o 0,.ptr om 0] Hp (Gu L m i) (fun m' j r H'=>r=Qw∧H'=U2 L Hp o om j (mvO m')) (W2 L o om Hp):=by
 refine ⟨fun hX=>?_⟩
 have hol:=(List.getElem?_eq_some_iff.1 ho).1
 have hml:=(List.getElem?_eq_some_iff.1 hm).1
 refine ACall.body [] [0,1] Tryz.func192 Tryz.ntmps192 (fun d=>?_)
 refine nf ?_;refine R.box ?_;refine Jt ?_;refine AA2 ?_
 rcases hW:Da L ACe i with ⟨u,j⟩|⟨e,a⟩
 rotate_left
 ·exact (D7 hX (by first|exact by unfold Gu;rw [hW];rfl|exact hW)).elim
 have hj:=H7 hl hi _ _ hW
 refine Z2 ?_;refine R.callUp (x:=pmO L j) Tryz.call153 (F0 ho hne) (by simp) Eg ((qx L ACe i o _ (Ak (F0 ho hne)) hi hll).ok hW) ?_
 rw [Fu hne]
 refine Jt ?_
 rcases hP:Ji L ((m.take.map Ab).length:Int) (Vj L) m j with ⟨m2,k⟩|⟨e,a⟩
 rotate_left
 ·exact (D7 hX (by first|exact by unfold Gu;rw [hW];show Ji L _ _ m j=_;rw [←hP,List.length_map]|exact hP)).elim
 refine W.drawQ0 [0,0,2,6,14,30,0,127] 7 Ap (by kernel_rfl) ?_;refine Rb ?_
 refine D.go (h:=Q.loadUp (Fz hm)) (hr:=?_)
 refine D.go ?_;refine D.makeFunc ?_;refine D.tail ?_
 refine R.callX (up':=U2 L Hp o om k (mvO m2)) (own':=[.cells 107 [.ptr o 0],.cells 194 [.ptr om 0]]) Tryz.call194 (((AIv L (((m.take.map Ab).length:Int)) m j o om 231 [.ptr (oid Hp.length 1) 0,.ptr (oid Hp.length 0) 0] (Vj L) (U2 L Hp o om j (mvO m)++[.cells 107 [.ptr o 0],.cells 194 [.ptr om 0]]) hne (Ak (F0 ho hne)) (Ak (Fz hm)) (by omega) hj.2 hl hll (hb.mono (by omega)) Tryz.call231 (xq (z:=pmO L j) (z':=mvO m) hne (Ak (F0 ho hne)) (Ak (Fz hm)) (xv rfl) (xv rfl) (Ky hol) (Ky hml) (Ky hol) (Ky hml) hl hll) (lu hl hll)).ok hP).mono (fun r H' e=>⟨e.1,e.2.trans (by first|rw [Ff (by rw [U2_len];exact hol) (by rw [U2_len];exact hml),L1 hne]|rw [Ff hol hml])⟩)) (by first|rfl|rw [U2_len,U2_len]|rw [U2_len]) (fun h=>Jl hne H8 h) ?_
 refine Ku ?_;exact K.finN .nores (hp:=⟨m2,k,by unfold Gu;rw [hW];show Ji L _ _ m j=_;rw [←hP,List.length_map],rfl,rfl⟩)

theorem ct {L:List Tok} {Hp:List AObj} {o om i:Nat} {m:Mov} {s:Str} {x:AObj}:(U2 L Hp o om i x).set om (.cells 80 [A4 m.kind,.slice true 1 [Ab s],.slice true 2 (m.give.map Bl),.slice true 6 (m.ahead.map A7),.slice true 6 (m.back.map A7)])=U2 L Hp o om i (mvO (takeS m s)):=U2_setm
theorem ub {n:Nat} {x:Expr}:Low n (.slice true 6 [.agg (D0 x)]):=by
 have:=Cv (n:=n) (k:=6) (o:=true) (l:=[x])
 simp only [Br,Ct] at this
 rw [Al] at this
 exact this
theorem lw {n:Nat} {x:Expr}:Low n (.slice true 6 [A7 x]):=Cv (l:=[x])
theorem ACg {L:List Tok} {m m1:Mov} {i k:Nat} (h:Fm L m i=.ok m1 k):(m1.give.map Bl)[0]? = some (Bl (m1.give.getD 0 ⟨[],0⟩)):=by
 obtain ⟨c,j,h1,h2⟩:=Za h
 obtain ⟨u,j2,h3,h4⟩:=Za h2
 obtain ⟨x,j3,h5,h6⟩:=Za h4
 injection h6 with h6 h7
 subst h6
 show ((m.give++[c]).map Bl)[0]? = some (Bl ((m.give++[c]).getD 0 ⟨[],0⟩))
 cases m.give<;>rfl
section
variable {L:List Tok} {m:Mov} {i:Nat}
theorem ACh (h1:(m.kind==1)=true):Jj L m i=Fm L m i:=if_pos h1
theorem qy (h1:(m.kind==1)=false) (h2:(m.kind==2)=true):Jj L m i=(Ic L i).bind fun s j=>Gu L (takeS m s) j:=by
 unfold Jj;rw [if_neg (by rw [h1];simp),if_pos h2]
theorem ACi (h1:(m.kind==1)=false) (h2:(m.kind==2)=false) (h3:(m.kind==3)=true):Jj L m i=Lc L m i:=by
 unfold Jj;rw [if_neg (by rw [h1];simp),if_neg (by rw [h2];simp),if_pos h3]
theorem Zb (h1:(m.kind==1)=false) (h2:(m.kind==2)=false) (h3:(m.kind==3)=false) (h4:(m.kind==4)=true):Jj L m i=(Ic L i).bind fun s j=>(Da L L0 j).bind fun _ j=>(Ji L 0 (Fm L) (takeS m s) j).bind fun m j=>Gu L m j:=by
 unfold Jj;rw [if_neg (by rw [h1];simp),if_neg (by rw [h2];simp),if_neg (by rw [h3];simp),if_pos h4]
theorem Zc (h1:(m.kind==1)=false) (h2:(m.kind==2)=false) (h3:(m.kind==3)=false) (h4:(m.kind==4)=false) (h5:(m.kind==5)=true):Jj L m i=(Ji L 0 (T9 L) m i).bind fun m j=>(Da L L0 j).bind fun _ j=>(Fm L m j).bind fun m j=>Gu L m j:=by
 unfold Jj;rw [if_neg (by rw [h1];simp),if_neg (by rw [h2];simp),if_neg (by rw [h3];simp),if_neg (by rw [h4];simp),if_pos h5]
theorem qz (h1:(m.kind==1)=false) (h2:(m.kind==2)=false) (h3:(m.kind==3)=false) (h4:(m.kind==4)=false) (h5:(m.kind==5)=false) (h6:(m.kind==6)=true):Jj L m i=(Fm L m i).bind fun m j=>Gu L (takeS m (m.give.getD 0 ⟨[],0⟩).name) j:=by
 unfold Jj;rw [if_neg (by rw [h1];simp),if_neg (by rw [h2];simp),if_neg (by rw [h3];simp),if_neg (by rw [h4];simp),if_neg (by rw [h5];simp),if_pos h6]
theorem AIw (h1:(m.kind==1)=false) (h2:(m.kind==2)=false) (h3:(m.kind==3)=false) (h4:(m.kind==4)=false) (h5:(m.kind==5)=false) (h6:(m.kind==6)=false):Jj L m i=.ok m i:=by
 unfold Jj;rw [if_neg (by rw [h1];simp),if_neg (by rw [h2];simp),if_neg (by rw [h3];simp),if_neg (by rw [h4];simp),if_neg (by rw [h5];simp),if_neg (by rw [h6];simp)]
end
theorem APw (L:List Tok) (m:Mov) (i o om:Nat) (Hp:List AObj) (hne:om≠o) (ho:Hp[o]? = some (pmO L i)) (hm:Hp[om]? = some (mvO m)) (hi:i<L.length) (hl:TokEnd L) (hll:L.length≤500000) (hb:MvLe m (2*i-1)):CP 193 [.ptr o 0,.ptr om 0] Hp (Lc L m i) (fun m' j r H'=>r=Qw∧H'=U2 L Hp o om j (mvO m')) (W2 L o om Hp):=by
 refine ⟨fun hX=>?_⟩
 refine Ah [] [0,1] Tryz.func193 Tryz.ntmps193 (fun d=>?_)
 refine AA2 ?_
 rcases h1:Ic L i with ⟨s,j⟩|⟨e,a⟩
 rotate_left
 ·exact (D7 hX (by first|exact by unfold Lc;rw [h1];rfl|exact h1)).elim
 have hj:=Jk hl hi _ _ h1
 refine Z1 ?_;refine Cl (x:=pmO L j) Tryz.call191 (F0 ho hne) (by simp) Eg ((xk L i o _ (Ak (F0 ho hne)) hi hll).ok h1) ?_
 rw [Fu hne]
 refine Ns ?_;refine Z0 ?_
 refine Hg jS (Fz hm) ?_ ?_
 ·simp [or_imp,forall_and]
 refine A2 [0,1] ?_;refine Ry (U2_setm (y:=.cells 80 [A4 m.kind,.slice true 1 ([Ab s]),.slice true 2 (m.give.map Bl),.slice true 6 (m.ahead.map A7),.slice true 6 (m.back.map A7)])) ?_
 rcases h2:Da L toW j with ⟨u,j2⟩|⟨e,a⟩
 rotate_left
 ·exact (D7 hX (by first|exact by unfold Lc;rw [h1];show (Da L toW j).bind _=_;rw [h2];rfl|exact h2)).elim
 have hj2:=H7 hl hj.2 _ _ h2
 refine Z2 ?_;refine Cl (x:=pmO L j2) Tryz.call153 (F0 ho hne) (by simp) Eg ((qx L toW j o _ (Ak (F0 ho hne)) hj.2 hll).ok h2) ?_
 rw [Fu hne]
 refine A2 [0,1] ?_
 rcases h3:Ic L j2 with ⟨t,k⟩|⟨e,a⟩
 rotate_left
 ·exact (D7 hX (by first|exact by unfold Lc;rw [h1];show (Da L toW j).bind _=_;rw [h2];show (Ic L j2).bind _=_;rw [h3];rfl|exact h3)).elim
 refine Z2 ?_;refine Cl (x:=pmO L k) Tryz.call191 (F0 ho hne) (by simp) Eg ((xk L j2 o _ (Ak (F0 ho hne)) hj2.2 hll).ok h3) ?_
 rw [Fu hne]
 refine A5 ?_;refine A2 [1,4] ?_;refine Z1 ?_;refine ns ?_;refine Ns ?_;refine Z0 ?_
 refine Hg jS (Fz hm) ?_ ?_
 ·simp [or_imp,forall_and]
 refine A2 [1,4] ?_;refine Ry (U2_setm (y:=.cells 80 [A4 m.kind,.slice true 1 ([Ab s]),.slice true 2 ([Bl ⟨t,0⟩]),.slice true 6 (m.ahead.map A7),.slice true 6 (m.back.map A7)])) ?_;refine Z45 ?_;refine Z8 ?_
 refine A5 (h:=Bj (Fz hm)) (hr:=?_)
 refine A5 (h:=Ad (0) (Ab s) (fun _=>rfl)) (hr:=?_)
 refine A5 ?_;refine Aa Tryz.call209 (AEi s _) ?_;refine Ns ?_;refine A5 ?_;refine Aa Tryz.call209 (AEi t _) ?_;refine Ns ?_;refine Z0 ?_
 refine Hg jS (Fz hm) ?_ ?_
 ·first|exact ub|exact lw
 rw [U2_setm]
 refine Z0 ?_
 refine Hg jS (Fz hm) ?_ ?_
 ·first|exact ub|exact lw
 rw [U2_setm]
 refine Ku ?_;exact Eo .nores (hp:=⟨⟨m.kind,[s],[⟨t,0⟩],[Bo s],[Bo t]⟩,k,by unfold Lc;rw [h1];show (Da L toW j).bind _=_;rw [h2];show (Ic L j2).bind _=_;rw [h3];rfl,rfl,by simp only [mvO,mvC,Br,Ct,Al]⟩)

theorem xw {L:List Tok} {Hp:List AObj} {o om i:Nat} {m:Mov} {c:Col} {x:AObj}:(U2 L Hp o om i x).set om (.cells 80 [A4 m.kind,.slice true 1 [Ab c.name],.slice true 2 (m.give.map Bl),.slice true 6 (m.ahead.map A7),.slice true 6 (m.back.map A7)])=U2 L Hp o om i (mvO (takeS m c.name)):=U2_setm
theorem APx (L:List Tok) (m:Mov) (i o om:Nat) (Hp:List AObj) (hne:om≠o) (ho:Hp[o]? = some (pmO L i)) (hm:Hp[om]? = some (mvO m)) (hi:i<L.length) (hl:TokEnd L) (hll:L.length≤500000) (hb:MvLe m (2*i-1)) (h0:0<i):CP 152 [.ptr o 0,.ptr om 0] Hp (Jj L m i) (fun m' j r H'=>r=Qw∧H'=U2 L Hp o om j (mvO m')) (W2 L o om Hp):=by
 refine ⟨fun hX=>?_⟩
 have hol:=(Ae.1 ho).1
 have hml:=(Ae.1 hm).1
 refine Ah [] [0,1] Tryz.func152 Tryz.ntmps152 (fun d=>?_)
 refine nf ?_;refine R.box ?_;refine Jt ?_;refine AA2 ?_;refine Z16 ?_
 refine A5 (h:=Bj (Fz hm)) (hr:=?_)
 refine A2 [2,3,7] ?_;refine Wy ?_;refine A2 [2,3,7,8] ?_
 refine A3 (fun ht8=>?_) (fun ht8=>?_)
 ·rcases h1:Fm L m i with ⟨m1,k⟩|⟨e,a⟩
  rotate_left
  ·exact (D7 hX (by first|exact by rw [ACh ht8];rw [h1]|exact h1)).elim
  refine Z45 ?_
  refine Hi (up':=U2 L Hp o om k (mvO m1)) (own':=[.cells 107 [.ptr o 0],.cells 194 [.ptr om 0]]) Tryz.call190 (((AFi L m i o om (U2 L Hp o om i (mvO m)++[.cells 107 [.ptr o 0],.cells 194 [.ptr om 0]]) hne (Ak (F0 ho hne)) (Ak (Fz hm)) hi hl hll hb).ok h1).mono (fun r H' e=>⟨e.1,e.2.trans (by first|rw [Ff (by rw [U2_len];exact hol) (by rw [U2_len];exact hml),L1 hne]|rw [Ff hol hml])⟩)) (by first|rfl|rw [U2_len,U2_len]|rw [U2_len]) (fun h=>Jl hne H8 h) ?_
  refine Z96 ?_;exact Eo .nores (hp:=⟨m1,k,by rw [ACh ht8];rw [h1],rfl,rfl⟩)
 refine Z1 ?_;refine A2 [2,3,7,13] ?_
 refine A3 (fun ht13=>?_) (fun ht13=>?_)
 ·rcases h1:Ic L i with ⟨s,j⟩|⟨e,a⟩
  rotate_left
  ·exact (D7 hX (by first|exact by rw [qy ht8 ht13];rw [h1];rfl|exact h1)).elim
  have hj:=Jk hl hi _ _ h1
  refine Hh [0,0,2,6,15,31,63] [2] [.q 2 [] [],.s [17] (some 0) [] [],.s [18] none [0] []] (fun B=>U2 L Hp o om (if B 0=true then j else i) (mvO m)) (fun _=>[.cells 107 [.ptr o 0],.cells 194 [.ptr om 0]]) Ap (by kernel_rfl) rfl rfl (fun B=>by rw [U2_len];exact U2_len.symm) ?_
  apply Y.q
  ·intro B hT hF
   exact Z72
  case hTF=>decide
  refine Nn (r:=Ab s) (o:=o) (x0:=pmO L i) (x:=pmO L j) Tryz.call191 (fun B hB1 hB2 hB=>⟨by simp only [hB];exact F0 ho hne,(Fu hne).symm,rfl,Eg,?_⟩) ?_
  ·simp only [hB]
   exact (xk L i o _ (Ak (F0 ho hne)) hi hll).ok h1
  refine AK1 ?_;refine Z0 ?_
  refine Hg jS (Fz hm) ?_ ?_
  ·simp [or_imp,forall_and]
  refine Jt ?_;refine Ry (ct (m:=m) (s:=s)) ?_
  rcases h2:Gu L (takeS m s) j with ⟨m2,k⟩|⟨e,a⟩
  rotate_left
  ·exact (D7 hX (by first|exact by rw [qy ht8 ht13];rw [h1];show Gu L (takeS m s) j=_;rw [h2]|exact h2)).elim
  refine Z45 ?_
  refine Hi (up':=U2 L Hp o om k (mvO m2)) (own':=[.cells 107 [.ptr o 0],.cells 194 [.ptr om 0]]) Tryz.call192 (((AFj L (takeS m s) j o om (U2 L Hp o om j (mvO (takeS m s))++[.cells 107 [.ptr o 0],.cells 194 [.ptr om 0]]) hne (Ak (F0 ho hne)) (Ak (Fz hm)) hj.2 hl hll ((hb.mono (by omega:2*i-1≤2*j)).takeS (by omega))).ok h2).mono (fun r H' e=>⟨e.1,e.2.trans (by first|rw [Ff (by rw [U2_len];exact hol) (by rw [U2_len];exact hml),L1 hne]|rw [Ff hol hml])⟩)) (by first|rfl|rw [U2_len,U2_len]|rw [U2_len]) (fun h=>Jl hne H8 h) ?_
  refine Z96 ?_;exact Eo .nores (hp:=⟨m2,k,by rw [qy ht8 ht13];rw [h1];show Gu L (takeS m s) j=_;rw [h2],rfl,rfl⟩)
 refine Z1 ?_;refine A2 [2,3,7,24] ?_
 refine A3 (fun ht24=>?_) (fun ht24=>?_)
 ·rcases h1:Lc L m i with ⟨m1,k⟩|⟨e,a⟩
  rotate_left
  ·exact (D7 hX (by first|exact by rw [ACi ht8 ht13 ht24];rw [h1]|exact h1)).elim
  refine Z45 ?_
  refine Hi (up':=U2 L Hp o om k (mvO m1)) (own':=[.cells 107 [.ptr o 0],.cells 194 [.ptr om 0]]) Tryz.call193 (((APw L m i o om (U2 L Hp o om i (mvO m)++[.cells 107 [.ptr o 0],.cells 194 [.ptr om 0]]) hne (Ak (F0 ho hne)) (Ak (Fz hm)) hi hl hll hb).ok h1).mono (fun r H' e=>⟨e.1,e.2.trans (by first|rw [Ff (by rw [U2_len];exact hol) (by rw [U2_len];exact hml),L1 hne]|rw [Ff hol hml])⟩)) (by first|rfl|rw [U2_len,U2_len]|rw [U2_len]) (fun h=>Jl hne H8 h) ?_
  refine Z96 ?_;exact Eo .nores (hp:=⟨m1,k,by rw [ACi ht8 ht13 ht24];rw [h1],rfl,rfl⟩)
 refine Z1 ?_;refine A2 [2,3,7,29] ?_
 refine A3 (fun ht29=>?_) (fun ht29=>?_)
 ·rcases h1:Ic L i with ⟨s,j⟩|⟨e,a⟩
  rotate_left
  ·exact (D7 hX (by first|exact by rw [Zb ht8 ht13 ht24 ht29];rw [h1];rfl|exact h1)).elim
  have hj:=Jk hl hi _ _ h1
  refine Hh [0,0,2,6,15,31,63] [2] [.q 2 [] [],.s [33] (some 0) [] [],.s [34] none [0] []] (fun B=>U2 L Hp o om (if B 0=true then j else i) (mvO m)) (fun _=>[.cells 107 [.ptr o 0],.cells 194 [.ptr om 0]]) Ap (by kernel_rfl) rfl rfl (fun B=>by rw [U2_len];exact U2_len.symm) ?_
  apply Y.q
  ·intro B hT hF
   exact Z72
  case hTF=>decide
  refine Nn (r:=Ab s) (o:=o) (x0:=pmO L i) (x:=pmO L j) Tryz.call191 (fun B hB1 hB2 hB=>⟨by simp only [hB];exact F0 ho hne,(Fu hne).symm,rfl,Eg,?_⟩) ?_
  ·simp only [hB]
   exact (xk L i o _ (Ak (F0 ho hne)) hi hll).ok h1
  refine AK1 ?_;refine Z0 ?_
  refine Hg jS (Fz hm) ?_ ?_
  ·simp [or_imp,forall_and]
  refine Jt ?_;refine Ry (ct (m:=m) (s:=s)) ?_
  rcases h2:Da L L0 j with ⟨u,j2⟩|⟨e,a⟩
  rotate_left
  ·exact (D7 hX (by first|exact by rw [Zb ht8 ht13 ht24 ht29];rw [h1];show (Da L L0 j).bind _=_;rw [h2];rfl|exact h2)).elim
  have hj2:=H7 hl hj.2 _ _ h2
  refine Z2 ?_;refine Cl (x:=pmO L j2) Tryz.call153 (F0 ho hne) (by simp) Eg ((qx L L0 j o _ (Ak (F0 ho hne)) hj.2 hll).ok h2) ?_
  rw [Fu hne]
  refine Jt ?_
  rcases h3:Ji L 0 (Fm L) (takeS m s) j2 with ⟨m1,j3⟩|⟨e,a⟩
  rotate_left
  ·exact (D7 hX (by first|exact by rw [Zb ht8 ht13 ht24 ht29];rw [h1];show (Da L L0 j).bind _=_;rw [h2];show (Ji L 0 (Fm L) (takeS m s) j2).bind _=_;rw [h3];rfl|exact h3)).elim
  have hj3:=Tb hl (Mf hl hll) (takeS m s) j2 ((hb.mono (by omega:2*i-1≤2*j2-1)).takeS (by omega)) (by omega) hj2.2 _ _ h3
  refine Z2 ?_;refine J4 ?_
  refine Hi (up':=U2 L Hp o om j3 (mvO m1)) (own':=[.cells 107 [.ptr o 0],.cells 194 [.ptr om 0]]) Tryz.call194 (((AIv L (0) (takeS m s) j2 o om 195 [.ptr (oid Hp.length 0) 0,.ptr (oid Hp.length 1) 0] (Fm L) (U2 L Hp o om j2 (mvO (takeS m s))++[.cells 107 [.ptr o 0],.cells 194 [.ptr om 0]]) hne (Ak (F0 ho hne)) (Ak (Fz hm)) (by omega) hj2.2 hl hll ((hb.mono (by omega:2*i-1≤2*j2-1)).takeS (by omega)) Tryz.call195 (xu (z:=pmO L j2) (z':=mvO (takeS m s)) hne (Ak (F0 ho hne)) (Ak (Fz hm)) (xv rfl) (xv rfl) (Ky hol) (Ky hml) (Ky hol) (Ky hml) hl hll) (Mf hl hll)).ok h3).mono (fun r H' e=>⟨e.1,e.2.trans (by first|rw [Ff (by rw [U2_len];exact hol) (by rw [U2_len];exact hml),L1 hne]|rw [Ff hol hml])⟩)) (by first|rfl|rw [U2_len,U2_len]|rw [U2_len]) (fun h=>Jl hne H8 h) ?_
  refine Jt ?_
  rcases h4:Gu L m1 j3 with ⟨m2,k⟩|⟨e,a⟩
  rotate_left
  ·exact (D7 hX (by first|exact by rw [Zb ht8 ht13 ht24 ht29];rw [h1];show (Da L L0 j).bind _=_;rw [h2];show (Ji L 0 (Fm L) (takeS m s) j2).bind _=_;rw [h3];show Gu L m1 j3=_;rw [h4]|exact h4)).elim
  refine Z45 ?_
  refine Hi (up':=U2 L Hp o om k (mvO m2)) (own':=[.cells 107 [.ptr o 0],.cells 194 [.ptr om 0]]) Tryz.call192 (((AFj L m1 j3 o om (U2 L Hp o om j3 (mvO m1)++[.cells 107 [.ptr o 0],.cells 194 [.ptr om 0]]) hne (Ak (F0 ho hne)) (Ak (Fz hm)) hj3.2.1 hl hll hj3.2.2).ok h4).mono (fun r H' e=>⟨e.1,e.2.trans (by first|rw [Ff (by rw [U2_len];exact hol) (by rw [U2_len];exact hml),L1 hne]|rw [Ff hol hml])⟩)) (by first|rfl|rw [U2_len,U2_len]|rw [U2_len]) (fun h=>Jl hne H8 h) ?_
  refine Z96 ?_;exact Eo .nores (hp:=⟨m2,k,by rw [Zb ht8 ht13 ht24 ht29];rw [h1];show (Da L L0 j).bind _=_;rw [h2];show (Ji L 0 (Fm L) (takeS m s) j2).bind _=_;rw [h3];show Gu L m1 j3=_;rw [h4],rfl,rfl⟩)
 refine Z1 ?_;refine A2 [2,3,7,45] ?_
 refine A3 (fun ht45=>?_) (fun ht45=>?_)
 ·rcases h1:Ji L 0 (T9 L) m i with ⟨m1,j⟩|⟨e,a⟩
  rotate_left
  ·exact (D7 hX (by first|exact by rw [Zc ht8 ht13 ht24 ht29 ht45];rw [h1];rfl|exact h1)).elim
  have hj:=Tb hl (Yz hl) m i hb h0 hi _ _ h1
  refine Z2 ?_;refine J4 ?_
  refine Hi (up':=U2 L Hp o om j (mvO m1)) (own':=[.cells 107 [.ptr o 0],.cells 194 [.ptr om 0]]) Tryz.call194 (((AIv L (0) m i o om 196 [.ptr (oid Hp.length 1) 0,.ptr (oid Hp.length 0) 0] (T9 L) (U2 L Hp o om i (mvO m)++[.cells 107 [.ptr o 0],.cells 194 [.ptr om 0]]) hne (Ak (F0 ho hne)) (Ak (Fz hm)) h0 hi hl hll hb Tryz.call196 (xt (z:=pmO L i) (z':=mvO m) hne (Ak (F0 ho hne)) (Ak (Fz hm)) (xv rfl) (xv rfl) (Ky hol) (Ky hml) (Ky hol) (Ky hml) hl hll) (Yz hl)).ok h1).mono (fun r H' e=>⟨e.1,e.2.trans (by first|rw [Ff (by rw [U2_len];exact hol) (by rw [U2_len];exact hml),L1 hne]|rw [Ff hol hml])⟩)) (by first|rfl|rw [U2_len,U2_len]|rw [U2_len]) (fun h=>Jl hne H8 h) ?_
  refine Jt ?_
  rcases h2:Da L L0 j with ⟨u,j2⟩|⟨e,a⟩
  rotate_left
  ·exact (D7 hX (by first|exact by rw [Zc ht8 ht13 ht24 ht29 ht45];rw [h1];show (Da L L0 j).bind _=_;rw [h2];rfl|exact h2)).elim
  have hj2:=H7 hl hj.2.1 _ _ h2
  have hj2e:=O7 h2
  refine Z2 ?_;refine Cl (x:=pmO L j2) Tryz.call153 (F0 ho hne) (by simp) Eg ((qx L L0 j o _ (Ak (F0 ho hne)) hj.2.1 hll).ok h2) ?_
  rw [Fu hne]
  refine Jt ?_
  rcases h3:Fm L m1 j2 with ⟨m2,j3⟩|⟨e,a⟩
  rotate_left
  ·exact (D7 hX (by first|exact by rw [Zc ht8 ht13 ht24 ht29 ht45];rw [h1];show (Da L L0 j).bind _=_;rw [h2];show (Fm L m1 j2).bind _=_;rw [h3];rfl|exact h3)).elim
  have hj3:=Mf hl hll m1 j2 (hj.2.2.mono (by omega)) (by omega) hj2.2 _ _ h3
  refine Z1 ?_
  refine Hi (up':=U2 L Hp o om j3 (mvO m2)) (own':=[.cells 107 [.ptr o 0],.cells 194 [.ptr om 0]]) Tryz.call190 (((AFi L m1 j2 o om (U2 L Hp o om j2 (mvO m1)++[.cells 107 [.ptr o 0],.cells 194 [.ptr om 0]]) hne (Ak (F0 ho hne)) (Ak (Fz hm)) hj2.2 hl hll (hj.2.2.mono (by omega))).ok h3).mono (fun r H' e=>⟨e.1,e.2.trans (by first|rw [Ff (by rw [U2_len];exact hol) (by rw [U2_len];exact hml),L1 hne]|rw [Ff hol hml])⟩)) (by first|rfl|rw [U2_len,U2_len]|rw [U2_len]) (fun h=>Jl hne H8 h) ?_
  refine Jt ?_
  rcases h4:Gu L m2 j3 with ⟨m3,k⟩|⟨e,a⟩
  rotate_left
  ·exact (D7 hX (by first|exact by rw [Zc ht8 ht13 ht24 ht29 ht45];rw [h1];show (Da L L0 j).bind _=_;rw [h2];show (Fm L m1 j2).bind _=_;rw [h3];show Gu L m2 j3=_;rw [h4]|exact h4)).elim
  refine Z45 ?_
  refine Hi (up':=U2 L Hp o om k (mvO m3)) (own':=[.cells 107 [.ptr o 0],.cells 194 [.ptr om 0]]) Tryz.call192 (((AFj L m2 j3 o om (U2 L Hp o om j3 (mvO m2)++[.cells 107 [.ptr o 0],.cells 194 [.ptr om 0]]) hne (Ak (F0 ho hne)) (Ak (Fz hm)) hj3.2.1 hl hll hj3.2.2).ok h4).mono (fun r H' e=>⟨e.1,e.2.trans (by first|rw [Ff (by rw [U2_len];exact hol) (by rw [U2_len];exact hml),L1 hne]|rw [Ff hol hml])⟩)) (by first|rfl|rw [U2_len,U2_len]|rw [U2_len]) (fun h=>Jl hne H8 h) ?_
  refine Z96 ?_;exact Eo .nores (hp:=⟨m3,k,by rw [Zc ht8 ht13 ht24 ht29 ht45];rw [h1];show (Da L L0 j).bind _=_;rw [h2];show (Fm L m1 j2).bind _=_;rw [h3];show Gu L m2 j3=_;rw [h4],rfl,rfl⟩)
 refine Z1 ?_;refine A2 [2,3,58] ?_
 refine A3 (fun ht58=>?_) (fun ht58=>?_)
 ·rcases h1:Fm L m i with ⟨m1,j⟩|⟨e,a⟩
  rotate_left
  ·exact (D7 hX (by first|exact by rw [qz ht8 ht13 ht24 ht29 ht45 ht58];rw [h1];rfl|exact h1)).elim
  have hj:=Mf hl hll m i hb h0 hi _ _ h1
  refine Z1 ?_
  refine Hi (up':=U2 L Hp o om j (mvO m1)) (own':=[.cells 107 [.ptr o 0],.cells 194 [.ptr om 0]]) Tryz.call190 (((AFi L m i o om (U2 L Hp o om i (mvO m)++[.cells 107 [.ptr o 0],.cells 194 [.ptr om 0]]) hne (Ak (F0 ho hne)) (Ak (Fz hm)) hi hl hll hb).ok h1).mono (fun r H' e=>⟨e.1,e.2.trans (by first|rw [Ff (by rw [U2_len];exact hol) (by rw [U2_len];exact hml),L1 hne]|rw [Ff hol hml])⟩)) (by first|rfl|rw [U2_len,U2_len]|rw [U2_len]) (fun h=>Jl hne H8 h) ?_
  refine Jt ?_;refine Hh [0,0,2,6,14,30,62,126,254,511,1023,2047] [] [.q 8 [] [],.s [71] none [] []] (fun _=>U2 L Hp o om j (mvO m1)) (fun _=>[.cells 107 [.ptr o 0],.cells 194 [.ptr om 0]]) Ap (by kernel_rfl) rfl rfl (fun B=>rfl) ?_
  apply Y.q
  ·intro B hT hF
   refine Rb ?_
   refine Av (h:=Bj (Fz hm)) (hr:=?_)
   refine Av (h:=Ad (0) (Bl (m1.give.getD 0 ⟨[],0⟩)) (fun _=>ACg h1)) (hr:=?_)
   exact Z72
  case hTF=>decide
  refine n6 jU Tryz.sizeOf9 Tryz.zeroValue9 ?_;refine Gx (tn:=[]) (U:=U2 L Hp o om j (mvO m1)) ?_;refine Z0 ?_
  refine Hg jS (Fz hm) ?_ ?_
  ·simp [or_imp,forall_and]
  refine Jt ?_;refine Ry (xw (m:=m1) (c:=m1.give.getD 0 ⟨[],0⟩)) ?_
  rcases h2:Gu L (takeS m1 (m1.give.getD 0 ⟨[],0⟩).name) j with ⟨m2,k⟩|⟨e,a⟩
  rotate_left
  ·exact (D7 hX (by first|exact by rw [qz ht8 ht13 ht24 ht29 ht45 ht58];rw [h1];show Gu L (takeS m1 (m1.give.getD 0 ⟨[],0⟩).name) j=_;rw [h2]|exact h2)).elim
  refine Z45 ?_
  refine Hi (up':=U2 L Hp o om k (mvO m2)) (own':=[.cells 107 [.ptr o 0],.cells 194 [.ptr om 0]]) Tryz.call192 (((AFj L (takeS m1 (m1.give.getD 0 ⟨[],0⟩).name) j o om (U2 L Hp o om j (mvO (takeS m1 (m1.give.getD 0 ⟨[],0⟩).name))++[.cells 107 [.ptr o 0],.cells 194 [.ptr om 0]]) hne (Ak (F0 ho hne)) (Ak (Fz hm)) hj.2.1 hl hll (hj.2.2.takeS (by omega))).ok h2).mono (fun r H' e=>⟨e.1,e.2.trans (by first|rw [Ff (by rw [U2_len];exact hol) (by rw [U2_len];exact hml),L1 hne]|rw [Ff hol hml])⟩)) (by first|rfl|rw [U2_len,U2_len]|rw [U2_len]) (fun h=>Jl hne H8 h) ?_
  refine Z96 ?_;exact Eo .nores (hp:=⟨m2,k,by rw [qz ht8 ht13 ht24 ht29 ht45 ht58];rw [h1];show Gu L (takeS m1 (m1.give.getD 0 ⟨[],0⟩).name) j=_;rw [h2],rfl,rfl⟩)
 refine Gc ?_;refine I4 ?_;exact Eo .nores (hp:=⟨m,i,AIw ht8 ht13 ht24 ht29 ht45 ht58,rfl,rfl⟩)

def AMs:Str:=[32,97,100,100,32,100,114,111,112,32,114,101,110,97,109,101,32,115,112,108,105,116,32,109,101,114,103,101,32,114,101,116,121,112,101]
theorem xy:P9 AMs [32]=migWords:=by kernel_rfl
theorem APy (k:Int) (Hp:List AObj):AFun Tryz.prog 189 [A4 k] Hp (Ab (Et k)):=by
 refine Ah [.tmp 2] [0] Tryz.func189 Tryz.ntmps189 (fun d=>?_)
 refine nl ?_;refine eh ?_;refine A2 [0,8] ?_
 refine A3 (fun ht8=>?_) (fun ht8=>?_)
 ·have hm:Et k=[]:=if_pos ht8
  exact zl
 have hm:Et k=migWords.getD k.toNat []:=if_neg (by rw [ht8];simp)
 refine ir ?_;refine Aa Tryz.call141 (AHj AMs [32] (by decide) (by decide) _) ?_
 rw [xy]
 refine A5 ?_
 have hk:1≤k∧k≤6:=by simp at ht8;omega
 have hget:(migWords.map Ab)[k.toNat]? = some (Ab (migWords.getD k.toNat [])):=by
  have hlt:k.toNat<migWords.length:=by show k.toNat<7;omega
  rw [Ch,Ac hlt,Cq,Ac hlt]
  rfl
 refine A5 (h:=Ad (k.toNat) (Ab (migWords.getD k.toNat [])) (fun _=>hget)) (hr:=?_)
 exact AKb

theorem xz {s:Str} {x:Nat} (h:∀j:Nat,j<x→(Et ((j:Int)+1)==s)=false) (hx:x<6) (he:(Et ((x:Int)+1)==s)=true):Ig s=(x:Int)+1:=by
 have a:∀j:Nat,j<x→∀k:Int,k=(j:Int)+1→(Et k==s)=false:=fun j hj k e=>by rw [e];exact h j hj
 have b:∀k:Int,k=(x:Int)+1→(Et k==s)=true:=fun k e=>by rw [e];exact he
 have h6:x=0∨x=1∨x=2∨x=3∨x=4∨x=5:=by omega
 unfold Ig
 rcases h6 with rfl|rfl|rfl|rfl|rfl|rfl
 ·rw [if_pos (b 1 rfl)];rfl
 ·rw [if_neg (by rw [a 0 (by omega) 1 rfl];simp),if_pos (b 2 rfl)];rfl
 ·rw [if_neg (by rw [a 0 (by omega) 1 rfl];simp),if_neg (by rw [a 1 (by omega) 2 rfl];simp),if_pos (b 3 rfl)];rfl
 ·rw [if_neg (by rw [a 0 (by omega) 1 rfl];simp),if_neg (by rw [a 1 (by omega) 2 rfl];simp),if_neg (by rw [a 2 (by omega) 3 rfl];simp),if_pos (b 4 rfl)];rfl
 ·rw [if_neg (by rw [a 0 (by omega) 1 rfl];simp),if_neg (by rw [a 1 (by omega) 2 rfl];simp),if_neg (by rw [a 2 (by omega) 3 rfl];simp),if_neg (by rw [a 3 (by omega) 4 rfl];simp),if_pos (b 5 rfl)];rfl
 rw [if_neg (by rw [a 0 (by omega) 1 rfl];simp),if_neg (by rw [a 1 (by omega) 2 rfl];simp),if_neg (by rw [a 2 (by omega) 3 rfl];simp),if_neg (by rw [a 3 (by omega) 4 rfl];simp),if_neg (by rw [a 4 (by omega) 5 rfl];simp),if_pos (b 6 rfl)];rfl
theorem lx {s:Str} {x:Nat} (h:∀j:Nat,j<x→(Et ((j:Int)+1)==s)=false) (he:(Et ((x:Int)+1)==s)=false):∀j:Nat,j<x+1→(Et ((j:Int)+1)==s)=false:=fun j hj=>by
 rcases C0 j x with h1|h1
 ·exact h j h1
 rw [show j=x by omega];exact he
theorem y6 {s:Str} {x:Nat} (h:∀j:Nat,j<x→(Et ((j:Int)+1)==s)=false) (hx:6≤x):Ig s=0:=by
 have a:∀j:Nat,j<6→∀k:Int,k=(j:Int)+1→(Et k==s)=false:=fun j hj k e=>by rw [e];exact h j (by omega)
 unfold Ig
 rw [if_neg (by rw [a 0 (by omega) 1 rfl];simp),if_neg (by rw [a 1 (by omega) 2 rfl];simp),if_neg (by rw [a 2 (by omega) 3 rfl];simp),if_neg (by rw [a 3 (by omega) 4 rfl];simp),if_neg (by rw [a 4 (by omega) 5 rfl];simp),if_neg (by rw [a 5 (by omega) 6 rfl];simp)]
theorem APz (s:Str) (Hp:List AObj):AFun Tryz.prog 151 [Ab s] Hp (A4 (Ig s)):=by
 refine Ah [.tmp 2] [0] Tryz.func151 Tryz.ntmps151 (fun d=>?_)
 refine nk ?_;refine Mn ?_
 refine Bg (α:=Nat) (fun x=>⟨13,A6 0 (Ab s) (A6 3 (A4 ((x:Nat)+1)) (fun _=>.any)),Hp,[],[],none⟩) (fun x=>∀j:Nat,j<x→(Et ((j:Int)+1)==s)=false) (fun x=>6-x) (0) (fun j h=>by omega) (Em _) rfl (fun x hx=>?_)
 refine Z7 ?_;refine A2 [0,3,5] ?_
 refine A3 (fun ht5=>?_) (fun ht5=>?_)
 ·have hx6:x<6:=by simp at ht5;omega
  refine Z35 ?_;refine Z2 ?_;refine Aa Tryz.call189 (APy _ _) ?_;refine Z0 ?_;refine A2 [0,3,11] ?_
  refine A3 (fun ht11=>?_) (fun ht11=>?_)
  ·refine iz ?_;refine Z28 ?_;exact A9 (Aj A8) ⟨by rw [xz hx hx6 ht11],rfl⟩
  refine vf ?_
  refine Au (x+1) (lx hx ht11) (by omega) (Bk rfl)
 have hx6:6≤x:=by simp at ht5;omega
 refine iy ?_;exact A9 (Aj A8) ⟨by rw [y6 hx hx6],rfl⟩

theorem AIx {L:List Tok} {Hp own:List AObj} {o i n:Nat} {x:AObj} (h1:o<Hp.length):U2 L (Hp++own) o (oid Hp.length n) i x=Hp.set o (pmO L i)++own.set n x:=by
 unfold U2 oid
 rw [L2 _ _ h1,Vw,if_neg (by simp),Dl,Px]
theorem ACj {L:List Tok} {Hp:List AObj} {o i j n:Nat} (h:∀z∈Hp.set o (pmO L i),ObjLow n z):∀z∈Hp.set o (pmO L j),ObjLow n z:=by
 intro z hz
 rw [show Hp.set o (pmO L j)=(Hp.set o (pmO L i)).set o (pmO L j) by rw [C6]] at hz
 rcases M5 hz with hz|rfl
 ·exact h z hz
 exact Eg
theorem AQ0 (L:List Tok) (i o:Nat) (Hp:List AObj) (ho:Hp[o]? = some (pmO L i)) (hi:i<L.length) (hl:TokEnd L) (hll:L.length≤500000):CP 117 [.ptr o 0] Hp (Ps L i) (fun m j r H'=>r=G5 m∧H'=Hp.set o (pmO L j)) (W1 L o Hp):=by
 refine ⟨fun hX=>?_⟩
 have hol:=(Ae.1 ho).1
 have hne:oid Hp.length 2≠o:=by unfold oid;omega
 refine Ah [.cell 2 80] [0] Tryz.func117 Tryz.ntmps117 (fun d=>?_)
 refine Z69 ?_;refine AH1 ?_;refine il ?_;refine Z1 ?_;refine Aa Tryz.call151 (APz (Af L i).text _) ?_;refine Nk (places:=#[(0,1),(1,1),(2,1),(3,1),(4,1)]) jU (fun w=>by simp) jZ ?_;refine Z11 ?_;refine A2 [0,2,3,4] ?_;refine Z53 ?_;refine Fx 2 1 1 ?_;refine Fx 2 2 2 ?_;refine Fx 2 3 6 ?_;refine Fx 2 4 6 ?_;refine Z0 ?_;refine Z67 ?_;refine A5 ?_;refine A2 [0,2,4,18] ?_
 refine A3 (fun ht18=>?_) (fun ht18=>?_)
 ·have e:Ps L i=.bad 8 (Af L i).at_:=if_pos ht18
  exact AA1
 have e0:Ps L i=(Jj L (⟨Ig (Af L i).text,[],[],[],[]⟩:Mov) (i+1)).bind fun m j=>(Da L [59] j).bind fun _ j=>.ok m j:=if_neg (by rw [ht18];simp)
 have hi1:i+1<L.length:=hl.step hi (by simp only [Dn,bne_eq_false_iff_eq] at ht18;rw [ht18.1];decide)
 refine Rc ?_
 refine A5 (h:=Bj ho) (hr:=?_)
 refine Z8 ?_
 refine De jS ho ?_ ?_
 ·simp
 refine A2 [0,2,4] ?_
 rcases hR:Jj L (⟨Ig (Af L i).text,[],[],[],[]⟩:Mov) (i+1) with ⟨m1,k⟩|⟨e,a⟩
 rotate_left
 ·exact (D7 hX (by first|exact by rw [e0];rw [hR];rfl|exact hR)).elim
 have hk:=u9 hl hll (⟨Ig (Af L i).text,[],[],[],[]⟩:Mov) (i+1) ⟨Ao _,Ao _,Ao _,Ao _⟩ (by omega) hi1 _ _ hR
 refine Z2 ?_
 refine Hi (up':=Hp.set o (pmO L k)) (own':=[.cells 80 [A4 0,.nil,.nil,.nil,.nil],.cells 118 [.v (.int .i64 (Af L i).kind),.v (sv (Af L i).text),.v (.int .i64 ((Af L i).at_:Int))],mvO m1]) Tryz.call152 (((APx L (⟨Ig (Af L i).text,[],[],[],[]⟩:Mov) (i+1) o (oid Hp.length 2) (Hp.set o (pmO L (i+1))++[.cells 80 [A4 0,.nil,.nil,.nil,.nil],.cells 118 [.v (.int .i64 (Af L i).kind),.v (sv (Af L i).text),.v (.int .i64 ((Af L i).at_:Int))],mvO (⟨Ig (Af L i).text,[],[],[],[]⟩:Mov)]) hne (by rw [Dw (by simpa using hol)];exact getset ho) (by unfold oid;rw [Dx (by simp)];simp) hi1 hl hll ⟨Ao _,Ao _,Ao _,Ao _⟩ (by omega)).ok hR).mono (fun r H' e=>⟨e.1,e.2.trans (by rw [show oid Hp.length 2=oid (Hp.set o (pmO L (i+1))).length 2 by simp];rw [AIx (by simpa using hol),C6];rfl)⟩)) (by simp) (fun h=>by simpa using ACj h) ?_
 refine A2 [0,2,4] ?_
 rcases hW:Da L [59] k with ⟨u,j2⟩|⟨e,a⟩
 rotate_left
 ·exact (D7 hX (by first|exact by rw [e0];rw [hR];show (Da L [59] k).bind _=_;rw [hW];rfl|exact hW)).elim
 refine Z2 ?_;refine Cl (x:=pmO L j2) Tryz.call153 (getset ho) (by simp) Eg ((qx L [59] k o _ (Ak (getset ho)) hk.2.1 hll).ok hW) ?_
 rw [C6]
 refine A2 [2,4] ?_;refine Z42 ?_;refine Z3 ?_;exact A9 (Aj (B5 jA jS)) (hp:=⟨m1,j2,by rw [e0];rw [hR];show (Da L [59] k).bind _=_;rw [hW];rfl,rfl,rfl⟩) (hlow:=kx)

/-- What mig.parser.moves comes to: the moves, or none and the fault. -/
def S1 (L:List Tok):List Mov×Int×Int:=match Kx L with
 | .ok l _=>(l,0,0)
 | .bad e a=>([],e,a)
abbrev gn (L:List Tok):AV:=.tup [Dm (S1 L).1,.agg [A4 (S1 L).2.1,A4 (S1 L).2.2]]
theorem AFk {fc:Func} {r0 crest:Code} (hf:Tryz.prog.funcs[114]? = some fc) (hb:fc.body=some (.seq r0 crest)) (d a b:Nat) (H:List AObj):AW Tryz.prog (d+1) crest ⟨8,A6 2 (.v .nilIface) (A6 3 (.v .nilIface) (Go.SX.argsF [.ptr a 0,.ptr b 0])),H,[],[],none⟩ (fun e s2=>(e=.normal∨e=.ret)∧s2.defs=[]∧s2.up=H):=by
 have e:=Tryz.func114.symm.trans hf
 injection e with e
 subst e
 injection hb with hb
 injection hb with h1 h2
 subst h2
 refine af [0,1,2] (by simp only [go_sem,↓reduceIte,Nat.reduceEqDiff,Nat.reduceAdd]<;>rfl) ?_
 refine Z2 ?_;refine R.neqNil0 jU ?_;refine A2 [0,1,2,5] ?_
 refine A3 (fun ht5=>?_) (fun ht5=>?_)
 ·cases ht5
 refine Gc ?_;exact ⟨.inl rfl,rfl,rfl⟩

/-- Where the loop of moves stands. -/
structure MovAt (L:List Tok) (x:List Mov×Nat):Prop where
 lt:x.2<L.length
 le:x.1.length≤8
 at_:Kx L=O6 L (9-x.1.length) x.1 x.2
theorem AFl {L:List Tok} (hl:TokEnd L) (hll:L.length≤500000) {i:Nat} (hi:i<L.length) {m:Mov} {j:Nat} (h:Ps L i=.ok m j):i<j∧j<L.length:=by
 unfold Ps at h
 split at h
 ·cases h
 rename_i h0
 have hi1:i+1<L.length:=hl.step hi (by
  simp only [Dg,not_or,Ol,bne_eq_false_iff_eq] at h0
  rw [h0.1];decide)
 obtain ⟨m1,k,h1,h2⟩:=Za h
 obtain ⟨u,j2,h3,h4⟩:=Za h2
 injection h4 with h5 h6
 subst h6
 obtain ⟨a1,a2,_⟩:=u9 hl hll _ (i+1) ⟨Ao _,Ao _,Ao _,Ao _⟩ (by omega) hi1 _ _ h1
 obtain ⟨b1,b2⟩:=H7 hl a2 _ _ h3
 exact ⟨by omega,b2⟩
theorem Pt {L:List Tok} {l:List Mov} {i:Nat} (hl:l.length≤8):O6 L (9-l.length) l i=if (Af L i).kind != 0 then (if (l.length:Int)==8 then cq L i 3 else (Ps L i).bind fun m j=>O6 L (8-l.length) (l++[m]) j) else .ok l i:=by
 rw [show 9-l.length=(8-l.length)+1 by omega,O6]
theorem MovAt.out {L:List Tok} {x:List Mov×Nat} (h:MovAt L x) (hk:((Af L x.2).kind != 0)=false):Kx L=.ok x.1 x.2:=by
 rw [h.at_,Pt h.le,if_neg (by rw [hk];simp)]
theorem MovAt.long {L:List Tok} {x:List Mov×Nat} (h:MovAt L x) (hk:((Af L x.2).kind != 0)=true) (h8:((x.1.length:Int)==8)=true):Kx L=.bad 3 (Af L x.2).at_:=by
 rw [h.at_,Pt h.le,if_pos hk,if_pos h8];rfl
theorem MovAt.step {L:List Tok} {x:List Mov×Nat} (h:MovAt L x) (hk:((Af L x.2).kind != 0)=true) (h8:((x.1.length:Int)==8)=false):Kx L=(Ps L x.2).bind fun m j=>O6 L (8-x.1.length) (x.1++[m]) j:=by
 rw [h.at_,Pt h.le,if_pos hk,if_neg (by rw [h8];simp)]
theorem MovAt.bad {L:List Tok} {x:List Mov×Nat} (h:MovAt L x) (hk:((Af L x.2).kind != 0)=true) (h8:((x.1.length:Int)==8)=false) {e a:Int} (hM:Ps L x.2=.bad e a):Kx L=.bad e a:=by
 rw [h.step hk h8,hM];rfl
theorem MovAt.on {L:List Tok} (hl:TokEnd L) (hll:L.length≤500000) {x:List Mov×Nat} (h:MovAt L x) (hk:((Af L x.2).kind != 0)=true) (h8:((x.1.length:Int)==8)=false) {m:Mov} {j:Nat} (hM:Ps L x.2=.ok m j):MovAt L (x.1++[m],j)∧x.2<j:=by
 obtain ⟨a1,a2⟩:=AFl hl hll h.lt hM
 have h1:x.1.length≤7:=by
  have:=h.le
  simp only [beq_eq_false_iff_ne,ne_eq] at h8
  omega
 refine ⟨⟨a2,by show (x.1++[m]).length≤8;simp;omega,?_⟩,a1⟩
 rw [h.step hk h8,hM]
 show O6 L (8-x.1.length) (x.1++[m]) j=O6 L (9-(x.1++[m]).length) (x.1++[m]) j
 rw [show 9-(x.1++[m]).length=8-x.1.length by rw [Ax,K6];omega]
theorem y7 {L:List Tok} {l:List Mov} {i:Nat} (h:Kx L=.ok l i):gn L=.tup [Dm l,.agg [A4 0,A4 0]]:=by unfold gn S1;rw [h]
theorem AFm {fn fc:Func} {x0 r1 y r0 crest:Code} (hf:Tryz.prog.funcs[67]? = some fn) (hb:fn.body=some (.seq x0 (.seq r1 y))) (hf2:Tryz.prog.funcs[114]? = some fc) (hb2:fc.body=some (.seq r0 crest)) (L:List Tok) (o:Nat) (Hp:List AObj) (ho:Hp[o]? = some (pmO L 0)) (hl:TokEnd L) (hll:L.length≤500000) (hX:∃l i,Kx L=.ok l i) (d:Nat):
  AW Tryz.prog (d+1) y ⟨21,A6 0 (.ptr o 0) (A6 2 (.ptr (oid Hp.length 0) 0) (A6 3 (.ptr (oid Hp.length 1) 0) (A6 4 (.fn (.func 114) [] [.ptr (oid Hp.length 0) 0,.ptr (oid Hp.length 1) 0]) fun _=>.any))),Hp,[.cells 31 [.nil],.cells 73 [A4 0,A4 0]],[],none⟩ (KG Tryz.prog crest 8 3 2 [.ptr (oid Hp.length 0) 0,.ptr (oid Hp.length 1) 0] [.cell 2 31,.cell 3 73] Hp.length (fun r H'=>r=gn L∧∃i,H'=Hp.set o (pmO L i))):=by
 have e:=Tryz.func67.symm.trans hf
 injection e with e
 subst e
 injection hb with hb
 injection hb with h1 h2
 injection h2 with h2 h3
 subst h3
 refine af [0,2,3] (by simp only [go_sem,↓reduceIte,Nat.reduceEqDiff,Nat.reduceAdd]<;>rfl) ?_
 refine Ry (Co ho).symm ?_;refine Lq ?_
 refine Bg (α:=List Mov×Nat) (fun x=>⟨21,A6 0 (.ptr o 0) (A6 2 (.ptr (oid Hp.length 0) 0) (A6 3 (.ptr (oid Hp.length 1) 0) (fun _=>.any))),Hp.set o (pmO L x.2),[.cells 31 [.slice true 5 (x.1.map G5)],.cells 73 [A4 0,A4 0]],[],none⟩) (fun x=>MovAt L x) (fun x=>L.length-x.2) (([],0)) ⟨hl.pos,by decide,rfl⟩ (StLe.nilCell (own:=[.cells 31 [.nil],.cells 73 [A4 0,A4 0]]) (n:=0) (j0:=0) (k:=5) (t:=31) (cs:=[.nil]) rfl rfl) rfl (fun x hx=>?_)
 refine Z25 ?_;refine Aa Tryz.call115 (AIt L x.2 o _ (Ak (getset ho)) hx.lt) ?_;refine Z0 ?_;refine A2 [0,2,3,8] ?_
 refine A3 (fun ht8=>?_) (fun ht8=>?_)
 ·have hk:((Af L x.2).kind != 0)=true:=ht8
  refine vi ?_;refine Z30 ?_;refine A2 [0,2,3,11] ?_
  refine A3 (fun ht11=>?_) (fun ht11=>?_)
  ·have h8:((x.1.length:Int)==8)=true:=by rw [Ag] at ht11;exact ht11
   exact (D7 hX (hx.long hk h8)).elim
  have h8:((x.1.length:Int)==8)=false:=by rw [Ag] at ht11;exact ht11
  refine Z4 ?_
  rcases hM:Ps L x.2 with ⟨m,j⟩|⟨e,a⟩
  rotate_left
  ·exact (D7 hX (by first|exact hx.bad hk h8 hM|exact hM)).elim
  have hon:=hx.on hl hll hk h8 hM
  refine P6 [0,0,2,6,15,31] [0,2] [.s [14] (some 0) [] [],.q 1 [] [1],.s [16] (some 1) [] [],.q 1 [1] []] (fun B=>Hp.set o (pmO L (if B 1=true then j else x.2))) (fun B=>if B 0=true then [.cells 31 [.slice false 5 (x.1.map G5)],.cells 73 [A4 0,A4 0]] else [.cells 31 [.slice true 5 (x.1.map G5)],.cells 73 [A4 0,A4 0]]) Ap (by kernel_rfl) rfl rfl (fun B=>by simp) ?_
  refine dx (u:=Hp.length) (n:=0) (t':=31) (cs:=[.slice true 5 (x.1.map G5)]) (cs':=[.slice false 5 (x.1.map G5)]) Tryz.isAgg31 (fun B hB=>⟨by simp,by simp only [hB];rfl,by simp only [hB];rfl,rfl⟩) ?_
  apply Y.q
  ·intro B hT hF
   exact Z60
  case hTF=>decide
  refine Nn (r:=G5 m) (o:=o) (x0:=pmO L x.2) (x:=pmO L j) Tryz.call117 (fun B hB1 hB2 hB=>⟨by simp only [hB];exact getset ho,by simp only [hB];exact (C6 ..).symm,rfl,Eg,?_⟩) ?_
  ·simp only [hB]
   exact ((AQ0 L x.2 o _ (Ak (getset ho)) hx.lt hl hll).ok hM)
  apply Y.q
  ·intro B hT hF
   exact Z40
  case hTF=>decide
  refine Gx (tn:=[0,2]) (U:=Hp.set o (pmO L j)) (O:=[.cells 31 [.slice false 5 (x.1.map G5)],.cells 73 [A4 0,A4 0]]) ?_
  refine D5 jU Tryz.type80 ?_ ?_ ?_
  ·simp [Tryz.t80];have:=hx.le;omega
  ·simp [Tryz.t80];have:=hx.le;omega
  refine Wq jS ?_;refine A2 [0,2,3] ?_;refine I4 ?_
  refine Au (x.1++[m],j) hon.1 (by have:=hx.lt;have:=hon.2;show L.length-j<L.length-x.2;omega) (Bk (by simp [Bn,show Tryz.t80.size=5 from rfl]))
 have hk:((Af L x.2).kind != 0)=false:=ht8
 have e:=hx.out hk
 refine Zk ?_;refine Z24 ?_;refine eb ?_;refine El ?_;exact KG.fin .ret (B9 (Fc Tryz.isAgg31) (B5 Tryz.isAgg73 Tryz.sizeOf73)) (fun d=>AFk hf2 hb2 d _ _ _) ⟨(y7 e).symm,x.2,rfl⟩ (hlow:=by simpa using (Kn (n:=Hp.length) (k:=5) (o:=false) (l:=x.1)))

theorem c67 (L:List Tok) (o:Nat) (Hp:List AObj) (ho:Hp[o]? = some (pmO L 0)) (hl:TokEnd L) (hll:L.length≤500000) (hX:∃l i,Kx L=.ok l i):ACall Tryz.prog 67 [.ptr o 0] Hp (fun r H'=>r=gn L∧∃i,H'=Hp.set o (pmO L i)):=by
 refine ACall.guarded (n:=21) (nc:=8) (a:=3) (b:=2) (os:=[oid Hp.length 0,oid Hp.length 1]) (own0:=[.cells 31 [.nil],.cells 73 [A4 0,A4 0]]) (rs:=[.cell 2 31,.cell 3 73])
  (fr0:=A6 0 (.ptr o 0) (A6 2 (.ptr (oid Hp.length 0) 0) (A6 3 (.ptr (oid Hp.length 1) 0) fun _=>.any))) (fr1:=A6 0 (.ptr o 0) (A6 2 (.ptr (oid Hp.length 0) 0) (A6 3 (.ptr (oid Hp.length 1) 0) (A6 4 (.fn (.func 114) [] [.ptr (oid Hp.length 0) 0,.ptr (oid Hp.length 1) 0]) fun _=>.any))))
  Tryz.func67 rfl rfl Tryz.ntmps67 (by simp) Tryz.func114 rfl Tryz.ntmps114 rfl (by simp) (by decide) (by decide) Tryz.call114 (fun d=>?_) (fun d=>?_) rfl (fun d l=>?_)
 ·refine af [0] (by simp only [go_sem,↓reduceIte,Nat.reduceEqDiff,Nat.reduceAdd]<;>rfl) ?_
  refine Og ?_;refine Rd ?_;refine Rd ?_;refine A2 [0,2,3] ?_;exact ⟨rfl,rfl⟩
 ·refine J4 ?_;refine A2 [0,2,3,4] ?_
  rfl
 exact @AFm { b:=ErrAt.b,bs:=ErrAt.bs,bd:=d+1,bl:=l } _ _ _ _ _ _ _ Tryz.func67 rfl Tryz.func114 rfl L o Hp ho hl hll hX d
theorem AIy {s:Str} (h:((Bu s).2.1 != 0)=false):Yy s=S1 (Bu s).1:=by
 unfold Yy S1
 rw [if_neg (by rw [h];simp)]
 cases Kx (Bu s).1<;>rfl
theorem c29 (s:Str) (hs:s.length≤1048576) (hz0:(Bu s).2.1=0) (hX:∃l i,Kx (Bu s).1=.ok l i) (Hp:List AObj):AFun Tryz.prog 29 [Ab s] Hp (.tup [Dm (Yy s).1,.agg [A4 (Yy s).2.1,A4 (Yy s).2.2]]):=by
 refine Ah [.tmp 2,.cell 3 73] [0] Tryz.func29 Tryz.ntmps29 (fun d=>?_)
 refine ec ?_;refine Mn ?_;refine Z2 ?_;refine Aa Tryz.call66 (c66 s hs _) ?_;refine Z8 ?_;refine iq ?_;refine A2 [3,4,5] ?_;refine Z30 ?_;refine A2 [3,4,5,13] ?_
 refine A3 (fun ht13=>?_) (fun ht13=>?_)
 ·rw [hz0] at ht13;cases ht13
 have hz:(Bu s).2.1=0:=by simpa using ht13
 have hle:=s8 hz
 have hlen:=sq hz
 have e:=AIy ht13
 refine Of ?_;refine ns ?_;refine R.box ?_
 refine R.callEx (fun _=>Hp) (fun i=>[.cells 73 [A4 0,A4 0],.cells 73 [A4 (Bu s).2.1,A4 ((Bu s).2.2:Nat)],pmO (Bu s).1 i]) Tryz.call67 ((c67 (Bu s).1 (oid Hp.length 2) _ (by rw [B6];rfl) hle (by omega) hX).mono (fun r H' ⟨e,i,h⟩=>⟨e,i,h.trans (by rw [Du];rfl)⟩)) (fun _=>rfl) (fun _ h=>h) (fun i=>?_)
 refine Z8 ?_;refine eb ?_;refine El ?_;exact A9 (B9 A8 (B5 jA jS)) ⟨by rw [e],rfl⟩ (hlow:=by simpa using (Kn (n:=Hp.length) (k:=5) (o:=false) (l:=(S1 (Bu s).1).1)))

/-- Moves whose numbers are ones of 64 bits. -/
structure RngMv (m:Mov):Prop where
 ahead:∀e∈m.ahead,F7 Lv e=true
 back:∀e∈m.back,F7 Lv e=true
theorem lz {l:List Expr} (h20:l.length≤1048576) (h:l.any Pg=false) (hr:∀e∈l,F7 Lv e=true):OkEs l:=by
 have h1:∀e∈l,Slim e:=fun e he=>ry (by
  rw [Jq] at h
  simpa using h e he)
 exact ⟨h20,fun e he=>(h1 e he).ok,fun e he=>by have:=(h1 e he).size;omega,hr⟩
theorem y8 {m:Mov} (h:Ly m=false) (hr:RngMv m):OkMov m:=by
 unfold Ly at h
 simp only [Dn,decide_eq_false_iff_not] at h
 obtain ⟨⟨⟨⟨⟨⟨h1,h2⟩,h3⟩,h4⟩,h5⟩,h6⟩,h7⟩:=h
 have h50:m.give.length≤1000000:=by
  unfold Ls at h1
  simp only [Dn,decide_eq_false_iff_not] at h1
  omega
 refine ⟨by omega,fun s hs=>?_,sg h1,h50,lz (by omega) h6 hr.ahead,lz (by omega) h7 hr.back⟩
 rw [Jq] at h5
 have:=h5 s hs
 simp only [decide_eq_true_eq] at this
 omega
theorem cu {l:List Mov} (h:Jb l=false) (hr:∀m∈l,RngMv m):OkMovs l:=by
 unfold Jb at h
 simp only [Dn,decide_eq_false_iff_not] at h
 refine ⟨by omega,fun m hm=>y8 ?_ (hr m hm)⟩
 rw [Jq] at h
 simpa using h.2 m hm
def rwS:Str:=[114,101,110,97,109,101,32,97,32,116,111,32,98,59]
def rwT:Str:=[115,101,108,101,99,116,32,98,32,119,104,101,114,101,32,98,32,62,32,49,59]
def rwC:List Col:=[⟨[97],1⟩]
def rwQ:Qry:=⟨false,[[98]],Oh [62] (Bo [98]) (Rm ⟨1,1,[]⟩), -1⟩
theorem ACk:Mu rwT=(rwQ,0,0):=by kernel_rfl
theorem AFn:(Yy rwS).2.1=0:=by kernel_rfl
theorem AMt:QW rwQ:=by
 obtain ⟨h1,h2⟩:=Hw (show B2 rwQ.whr=true by kernel_rfl)
 exact ⟨Fq (by decide) h1,by omega,by kernel_rfl,by decide,by decide⟩
theorem AIz {l:List Mov} (h:(l.all fun m=>m.ahead.all (fun e=>F7 Lv e)&&m.back.all (fun e=>F7 Lv e))=true):∀m∈l,RngMv m:=fun m hm=>by
 have:=B1.1 h m hm
 rw [Az] at this
 exact ⟨fun e he=>B1.1 this.1 e he,fun e he=>B1.1 this.2 e he⟩
theorem AMu:OkMovs (Yy rwS).1:=cu (by kernel_rfl) (AIz (by kernel_rfl))
theorem AQ1:OkCols rwC:=⟨by simp [rwC],fun y hy=>by rw [Bh.1 hy];simp⟩
theorem AQ2:(E1 rwQ rwC (Yy rwS).1).2=0:=by kernel_rfl
theorem AMv:(E1 rwQ rwC (Yy rwS).1).1.trees=[Bo [97]]:=by kernel_rfl
theorem AQ3:(E1 rwQ rwC (Yy rwS).1).1.lim = -1:=by kernel_rfl
theorem AJ0 (Hp:List AObj):AFun Tryz.prog 30 [Ab rwT] Hp (.tup [Qi rwQ,.agg [A4 0,A4 0]]):=by
 have:=c6 rwT (by decide) Hp
 rw [ACk] at this
 exact this
theorem ne0 {a:Int} (h:(a==0)=false):(a != 0)=true:=by simpa using h
theorem eq0 {a:Int} (h:(a==0)=true):(a != 0)=false:=by simpa using h
theorem ACl {c:List Col} (h:Ls c=false):c.length≤1000000:=by
 unfold Ls at h
 simp only [Dn,decide_eq_false_iff_not] at h
 omega
/-- What is handed to same. -/
structure PlnOk (p:Pln):Prop where
 w:okE 61 p.whr
 t:∀e∈p.trees,okE 61 e
 l:p.trees.length≤1048576
theorem null_pln:PlnOk I2:=⟨Pi (by decide),(fun e h=>by cases h),by decide⟩
theorem AMw (Hp:List AObj):AFun Tryz.prog 14 [Zv I2,.agg [.nil,A4 0,Ab [],A4 0,A4 0,Ab [],.nil,A4 0]] Hp (B0 true):=
 ACall.argLe (c14 I2 null_pln.w null_pln.t null_pln.l Hp) rfl fun i y y' hy hy'=>by
  rcases i with _|_|i<;>simp at hy hy'<;>subst hy<;>subst hy'
  ·exact .refl _
  exact gg
theorem m0 {q:Qry} {c:List Col} {l:List Expr} (hq:QW q) (ht:TOk l) (hl:l.length≤1048576):PlnOk (M4 q c l).1:=by
 have h1:(∀e∈M3 q c l,okE 61 e)∧(M3 q c l).length≤1048576:=by
  unfold M3
  split
  ·exact ⟨ht.ok,hl⟩
  refine ⟨fun e he=>?_,by rw [Ag];exact hq.len⟩
  obtain ⟨s,_,rfl⟩:=Cj.1 he
  unfold Ib
  rw [Cq]
  cases hx:l[(At s c).toNat]? with
  | none=>exact Pi (by decide)
  | some y=>exact ht.ok y (Bi hx)
 unfold M4
 split
 ·exact ⟨Pi (by decide),h1.1,h1.2⟩
 split
 ·exact null_pln
 rename_i h2
 exact ⟨(la hq.ok hq.rng ht (by simpa using h2)).1,h1.1,h1.2⟩
theorem AFo {q:Qry} {c:List Col} {l:List Mov} (hq:QW q) (hc:OkCols c) (h:OkMovs l):PlnOk (E1 q c l).1:=by
 unfold E1
 split
 ·exact null_pln
 rename_i h0
 have h0:((Ec c l).2 != 0)=false:=by simpa using h0
 obtain ⟨hs,hB⟩:=gm hc h h0
 obtain ⟨ht,hl⟩:=ls hc h hs
 split
 ·exact null_pln
 split
 ·exact null_pln
 rename_i h2
 exact m0 hq ht (by rw [hl (by simpa using h2)];exact hB.len)
theorem AFp {q:Qry} {c:List Col} {l:List Mov} (hq:QW q) (hc:OkCols c) (h:OkMovs l):PlnOk (H3 q c l).1:=by
 unfold H3
 split
 ·exact null_pln
 rename_i h0
 have h0:((Gn c l).2 != 0)=false:=by simpa using h0
 split
 ·exact null_pln
 split
 ·exact null_pln
 rename_i h2
 have e:=gk (Yw false h0)
 have hb:=T7 l c hc (fun m hm=>h.each m hm) (by rw [←e];simpa using h2)
 rw [←e] at hb
 exact m0 hq hb.tok (by rw [hb.len];exact hc.len)
theorem Vk:∀(ms:List Mov) (c:List Col) (t:List Expr),(∀e∈t,sizeE e≤1048576)→∀e∈(Jc c t ms).1,sizeE e≤1048576
 | [],_,_,h=>h
 | m::r,c,t,h=>by
  rw [Jc]
  split
  ·intro e he;cases he
  rename_i h1
  refine Vk r _ _ fun e he=>?_
  rcases Ds.1 he with he|he
  ·exact h e (Li e he)
  have h3:=O4 m.ahead (by simpa using h1) e he
  rw [D6] at h3
  have:=(Hw h3).2
  omega
theorem r6 {c:List Col} {l:List Mov}:∀e∈(Es c l).1,sizeE e≤1048576:=by
 unfold Es
 split
 ·intro e he;cases he
 exact Vk l c _ (Yv (c:=c) (l0:=[]))
theorem cv {q:Qry} {c:List Col} (h:(Dk q c != 0)=false):q.all=true→q.cols=[]:=by
 intro ha
 have hr:Ja q=true:=by
  unfold Dk at h
  split at h
  ·cases h
  rename_i h1
  simp only [Dg,Kq,not_or,ma] at h1
  exact h1.1
 unfold Ja at hr
 split at hr
 ·cases hr
 rename_i h1
 simp only [Dg,not_or,Ol] at h1
 have:=h1.1.1.1
 rw [ha] at this
 have h2:((q.cols.length:Int)==0)=true:=by simpa using this
 exact List.length_eq_zero_iff.1 (by simpa using h2)
theorem uc {c:List Col} {l:List Mov} (h:((Fe c l).2 != 0)=true):((Ec c l).2 != 0)=true∧((Gn c l).2 != 0)=true:=by
 have h1:=Up true h
 refine ⟨?_,by rw [Pr];exact h⟩
 unfold Ec
 rw [if_pos h1]
 exact h1
theorem AFq {c:List Col} {l:List Mov} (hc:OkCols c) (h:OkMovs l) (h0:((Fe c l).2 != 0)=false):((Cg c l).2 != 0)=false∧((Ec c l).2 != 0)=false∧((Gn c l).2 != 0)=false∧Fe c l=(C7 c l l.length,0)∧(Ec c l).1=colsAt c l l.length∧OkCols (Ec c l).1∧(Ec c l).1.length<100∧Cx c=true∧(∀m∈l,Fs m=true)∧(C2 c l).2=0:=by
 have hs:=Up false h0
 obtain ⟨hmay,hst,e⟩:=K5 hs
 have el:=Uk hs
 have hr:Cx c=true:=by unfold K3 at hmay;simp only [Az] at hmay;exact hmay.1
 have hCr:=O0 hr hst l.length
 have hC12:=(Pj (by rw [J6];exact hCr)).1
 refine ⟨hs,by rw [el];rfl,by rw [Pr];exact h0,?_,by rw [el],by rw [el];exact Ez hc (fun m hm=>h.each m hm) _,by rw [el];show (colsAt c l l.length).length<100;omega,hr,Lj hmay,hst⟩
 rw [←e]
 unfold Cg
 rw [if_neg (by rw [h0];simp)]
theorem c7 (Hp:List AObj):AFun Tryz.prog 7 [] Hp (B0 true):=by
 refine Ah [.tmp 0] [] Tryz.func7 Tryz.ntmps7 (fun d=>?_)
 refine Z2 ?_;refine Ku ?_;refine Ef ?_;refine Aa Tryz.call29 (c29 rwS (by decide) (by kernel_rfl) (AMp (by kernel_rfl)) _) ?_;refine Z8 ?_;refine iq ?_;refine A2 [1,2] ?_;refine Ef ?_;refine Aa Tryz.call30 (AJ0 _) ?_;refine Z8 ?_;refine Rd ?_;refine Z11 ?_;refine Gz ?_;refine A2 [1,2,3,4] ?_;refine Z2 ?_;refine ns ?_;refine R.buildSl jU jS jZ ?_;refine A5 ?_;refine Aa Tryz.call11 (c11 rwQ AMt rwC AQ1 (by decide) (Yy rwS).1 AMu _) ?_;refine Qf ?_;refine A2 [2,4,5,6] ?_;refine ek ?_;refine Z21 ?_;refine Z52 ?_;refine Z21 ?_
 refine B7 (h:=Ad (0) (A7 (Bo [97])) (fun _=>by rw [AMv];rfl)) (hr:=?_)
 refine Tu ?_;refine Z67 ?_;refine Z0 ?_;refine A2 [0] ?_;refine El ?_;exact A9 (Aj A8) ⟨by simp only [AFn,AQ2,AMv,AQ3]<;>rfl,rfl⟩

theorem c3 (q:Qry) (hg:F7 Lv q.whr=true) (c:List Col) (l:List Mov) (hrl:∀m∈l,RngMv m) (Hp:List AObj):AFun Tryz.prog 3 [Qi q,Ai c,Dm l] Hp (B0 true):=by
 refine Ah [.tmp 6] [0,1,2] Tryz.func3 Tryz.ntmps3 (fun d=>?_)
 refine Z1 ?_;refine A2 [1,2,3] ?_;refine Z53 ?_;refine Aa Tryz.call7 (c7 _) ?_;refine A5 ?_;refine A2 [1,2,3,23] ?_
 refine A3 (fun ht23=>?_) (fun ht23=>?_)
 ·cases ht23
 refine Mw ?_;refine Aa Tryz.call8 (c8 q _) ?_;refine nh ?_;refine Bm Tryz.call9 (fun hB=>c6u c _) ?_;refine Z95 ?_;refine Bm Tryz.call10 (fun hB=>c10 l _) ?_;refine A5 ?_;refine A2 [1,2,3,33] ?_
 refine A3 (fun ht33=>?_) (fun ht33=>?_)
 ·refine Z2 ?_;exact AKn
 have hw:(T6 q=false∧Ls c=false)∧Jb l=false:=by simpa using ht33
 have hq:=AMn hw.1.1 hg
 have hc:=sg hw.1.2
 have hc2:c.length≤1000000:=ACl hw.1.2
 have hc50:c.length≤50:=by
  have:=hw.1.2
  unfold Ls at this
  simp only [Dn,decide_eq_false_iff_not] at this
  omega
 have h:OkMovs l:=cu hw.2 hrl
 have hXp:=AFo hq hc h
 have hYp:=AFp hq hc h
 refine Rc ?_;refine Aa Tryz.call11 (c11 q hq c hc hc2 l h _) ?_;refine Qf ?_;refine A2 [1,2,3,7,8] ?_;refine Z16 ?_;refine Aa Tryz.call12 (APr q hq c hc hc2 l h _) ?_;refine Qf ?_;refine A2 [1,2,3,7,8,9,10] ?_;refine Z1 ?_;refine Aa Tryz.call13 (c13 c hc l h _) ?_;refine Z82 ?_;refine A2 [1,2,3,7,8,9,10,11,12] ?_;refine Z7 ?_;refine A2 [1,2,3,7,8,9,10,11,55] ?_
 refine A3 (fun ht55=>?_) (fun ht55=>?_)
 ·refine Ef ?_
  rw [AGb (uc ht55).1,AGf (uc ht55).2]
  simp only []
  refine A5 ?_;refine Nk (places:=#[(0,1),(1,6),(7,1)]) jU (fun w=>by simp) jZ ?_;refine Aa Tryz.call14 (AMw _) ?_;refine nh ?_;refine G.build (places:=#[(0,1),(1,6),(7,1)]) jU (fun w=>by simp) jZ ?_;refine Bm Tryz.call14 (fun hB=>AMw _) ?_;refine Z21 ?_;refine Z21 ?_;refine Z0 ?_;exact AKn
 obtain ⟨hs,hL,hK,hRS,e1,hB,h100,hr,hmv,hst⟩:=AFq hc h ht55
 have hlen:=h.len
 have hol:((C7 c l l.length).map Ai).length=l.length+1:=by rw [Ag,Gt]
 refine ir ?_
 rw [hRS]
 refine Z8 ?_
 refine A5 (h:=Q.sub64 (h1:=fun _=>by rw [hol];omega) (h2:=fun _=>by rw [hol];omega)) (hr:=?_)
 refine A5 (h:=Ad (l.length) (Ai (colsAt c l l.length)) (fun _=>qd (Jd (An _))) (hn:=fun _=>by rw [hol];omega)) (hr:=?_)
 refine Z0 ?_;refine A2 [1,2,3,7,8,9,10,13] ?_;refine AGn ?_;refine ALl ?_;refine Rd ?_;refine Z11 ?_;refine Gz ?_;refine A2 [1,2,3,7,8,9,10,13,14,15] ?_;refine Ef ?_
 rw [←e1]
 refine Z0 ?_;refine Aa Tryz.call15 (c15 q hq (Ec c l).1 hB _) ?_;refine A5 ?_;refine A2 [1,2,3,7,8,9,10,13,14,15,16] ?_
 refine Np ⟨140,A6 1 (Ai c) (A6 2 (Dm l) (A6 3 (.ro (qoC false q)) (A6 7 (.ptr (oid Hp.length 0) 0) (A6 8 (A4 (E1 q c l).2) (A6 9 (.ptr (oid Hp.length 1) 0) (A6 10 (A4 (H3 q c l).2) (A6 14 (.ptr (oid Hp.length 2) 0) (A6 15 (.ptr (oid Hp.length 3) 0) (A6 16 (A4 (E1 q c l).2) (fun _=>.any)))))))))),Hp,[.cells 37 (ge (E1 q c l).1),.cells 37 (ge (H3 q c l).1),.cells 45 (ge (E1 q c l).1),.cells 45 (ge I2)],[],none⟩ ?_ ?_
 ·refine Z1 ?_;refine A2 [1,2,3,7,8,9,10,13,14,15,16,84] ?_
  refine A3 (fun ht84=>?_) (fun ht84=>?_)
  ·have hT0:=Vh (q:=q) hc h hL (eq0 ht84)
   refine Z1 ?_;refine Aa Tryz.call16 (c16 c hc l h hs _) ?_;refine Z82 ?_;refine A2 [1,2,3,7,8,9,10,13,14,15,17,18] ?_;refine Z1 ?_;refine A2 [1,2,3,7,8,9,10,13,14,15,16,17,18] ?_;refine Z1 ?_;refine A2 [1,2,3,7,8,9,10,13,14,15,16,17,93] ?_
   refine A3 (fun ht93=>?_) (fun ht93=>?_)
   ·have hm:=AGe hL (eq0 ht84) (eq0 ht93)
    have hT:=hT0 (eq0 ht93)
    refine Z74 ?_;refine Aa Tryz.call17 (c17 q hq (Ec c l).1 hB (Es c l).1 hT.len hT.cl hT.ok hT.names (cv (eq0 ht84)) h100 r6 _) ?_;refine Z8 ?_;refine AGr ?_;refine A2 [1,2,3,7,8,9,10,14,15,16] ?_;refine Ml ?_
    rw [hm]
    exact vq
   have hm:=AGd hL (eq0 ht84) (ne0 ht93)
   refine Ep [1,2,3,7,8,9,10,14,15,16] ?_;refine Gc ?_;refine Ml ?_
   rw [hm]
   exact vq
  have hm:=AGc hL (ne0 ht84)
  refine Ep [1,2,3,7,8,9,10,14,15,16] ?_;refine Gc ?_;refine Ml ?_
  rw [hm]
  exact vq
 refine Z1 ?_;refine Aa Tryz.call15 (c15 q hq c hc _) ?_;refine A5 ?_;refine A2 [1,2,3,7,8,9,10,14,15,16,19] ?_
 refine Np ⟨140,A6 7 (.ptr (oid Hp.length 0) 0) (A6 8 (A4 (E1 q c l).2) (A6 9 (.ptr (oid Hp.length 1) 0) (A6 10 (A4 (H3 q c l).2) (A6 14 (.ptr (oid Hp.length 2) 0) (A6 15 (.ptr (oid Hp.length 3) 0) (A6 16 (A4 (E1 q c l).2) (A6 19 (A4 (H3 q c l).2) (fun _=>.any)))))))),Hp,[.cells 37 (ge (E1 q c l).1),.cells 37 (ge (H3 q c l).1),.cells 45 (ge (E1 q c l).1),.cells 45 (ge (H3 q c l).1)],[],none⟩ ?_ ?_
 ·refine Z1 ?_;refine A2 [1,2,3,7,8,9,10,14,15,16,19,105] ?_
  refine A3 (fun ht105=>?_) (fun ht105=>?_)
  ·refine Z1 ?_;refine Aa Tryz.call18 (c18 l c hc h hr hmv hst _) ?_;refine Z82 ?_;refine A2 [1,3,7,8,9,10,14,15,16,20,21] ?_;refine Ef ?_
   rw [←gk hs]
   refine Z0 ?_;refine A2 [1,3,7,8,9,10,14,15,16,19,20,21] ?_;refine Z1 ?_;refine A2 [1,3,7,8,9,10,14,15,16,19,20,114] ?_
   refine A3 (fun ht114=>?_) (fun ht114=>?_)
   ·have hm:=AGi hK (eq0 ht105) (eq0 ht114)
    have hU:=Yx hc h hK (eq0 ht105) (eq0 ht114)
    refine Z74 ?_;refine Aa Tryz.call17 (c17 q hq c hc (Je c l).1 hU.1.len hU.1.cl hU.1.ok hU.1.names (cv (eq0 ht105)) (by omega) hU.2 _) ?_;refine Z8 ?_;refine AGr ?_;refine A2 [7,8,9,10,14,15,16,19] ?_;refine Ml ?_
    rw [hm]
    exact vq
   have hm:=AGh hK (eq0 ht105) (ne0 ht114)
   refine Ep [7,8,9,10,14,15,16,19] ?_;refine Gc ?_;refine Ml ?_
   rw [hm]
   exact vq
  have hm:=AGg hK (ne0 ht105)
  refine Ep [7,8,9,10,14,15,16,19] ?_;refine Gc ?_;refine Ml ?_
  rw [hm]
  exact vq
 refine ek ?_;refine Z21 ?_;refine Bm Tryz.call14 (fun hB=>c14 (E1 q c l).1 hXp.w hXp.t hXp.l _) ?_;refine Z21 ?_;refine Bm Tryz.call14 (fun hB=>c14 (H3 q c l).1 hYp.w hYp.t hYp.l _) ?_;refine Z0 ?_;refine Z92 ?_;exact A9 (Aj A8) ⟨by simp,rfl⟩

end Go.SX.Nb
namespace Go.Proofs.YtekiioamifokoaaGreatDoor
open Go Go.SX Go.SX.Nb Go.ChangeShapes Go.RowKit
set_option maxRecDepth 100000
theorem y9:Tryz.pinned.checked.prog.funcNamed Rows.rewriteTellsRow.func=some 3:=by kernel_rfl
theorem AFr:laidOutB Tryz.pinned.checked.prog=true:=by kernel_rfl
theorem AFs:(Rows.rewriteTellsRow.inPlace==Tryz.pinned.checked.prog.inPlace 3)=true:=by kernel_rfl
theorem AFt:(Rows.rewriteTellsRow.unfollowed==Tryz.pinned.checked.prog.unfollowed 3)=true:=by kernel_rfl
theorem AFu:(Rows.rewriteTellsRow.recurses==Tryz.pinned.checked.prog.recurses 3)=true:=by kernel_rfl
theorem AFv:(Rows.rewriteTellsRow.named==Tryz.pinned.checked.prog.varsNamed 3)=true:=by kernel_rfl
theorem AFw:Tryz.pinned.checked.prog.mayEnter=true:=by kernel_rfl
theorem r7:joinedFacts Tryz.pinned.checked.prog 3 Tryz.f3 (OpenSpec.ofChange Rows.rewriteTellsSpec).bare Rows.rewriteTellsRow=true:=by
 unfold joinedFacts
 rw [AFr,AFs,AFt,AFu,AFv,AFw]
 kernel_rfl
theorem yb:false=Rows.rewriteTellsRow.goesBy Tryz.pinned.checked.prog:=by kernel_rfl
theorem yd:Tryz.f3.isInstance Tryz.pinned.checked.prog Rows.rewriteTellsRow.origin Rows.rewriteTellsRow.targs:=of_decide_eq_true (by kernel_rfl)
theorem ye:Tryz.f3.isWrapper Tryz.pinned.checked.prog Rows.rewriteTellsRow.wrapper Rows.rewriteTellsRow.mainSum:=by
 unfold Func.isWrapper
 first|(rw [if_pos (by decide +kernel)];kernel_rfl)|(rw [if_neg (by decide +kernel)];exact ⟨rfl,rfl⟩)
end Go.Proofs.YtekiioamifokoaaGreatDoor
