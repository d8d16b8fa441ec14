/- On the way (part 11). -/
import Derived.Test.YtekiioamifokoaaGreatDoorRewriteNoneCardSaidPart10
set_option linter.all false
namespace Go.SX.Nb
open Go Go.SX Go.Proofs
variable [ErrAt]
set_option maxRecDepth 4000
abbrev pmO (L:List Tok) (i:Nat):AObj:=.cells 109 [qt L,A3 (i:Int)]
abbrev mvC (m:Mov):List AV:=[A3 m.kind,.slice true 1 (m.take.map Ac),.slice true 2 (m.give.map C0),.slice true 6 (m.ahead.map A7),.slice true 6 (m.back.map A7)]
abbrev mvO (m:Mov):AObj:=.cells 80 (mvC m)
abbrev Qd:AV:=.v (.tuple #[])
theorem En {n:Nat} {L:List Tok} {i:Nat}:ObjLow n (pmO L i):=by
 show ∀y∈[AV.slice false 3 (L.map I1),A3 (i:Int)],Low n y
 intro y hy
 simp only [B4,Ej,or_false] at hy
 rcases hy with rfl|rfl
 ·simp [or_imp,forall_and]
 simp
/-- A contract of the parser, of sources that are right: it comes to what the model comes to. -/
structure CP (g:FuncId) (args:List AV) (H:List AObj) {α:Type} (X:PR α) (Q:α→Nat→AV→List AObj→Prop) (R:List AObj→Prop):Prop where
 run:(∃c j,X=.ok c j)→ACall Tryz.prog g args H (fun r H'=>∃c j,X=.ok c j∧Q c j r H')
theorem CP.ok {g:FuncId} {args:List AV} {H:List AObj} {α:Type} {X:PR α} {Q:α→Nat→AV→List AObj→Prop} {R:List AObj→Prop} {c:α} {j:Nat} (h:CP g args H X Q R) (hX:X=.ok c j):ACall Tryz.prog g args H (fun r H'=>Q c j r H'):=
 (h.run ⟨c,j,hX⟩).mono (fun r H' ⟨c',j',e,hq⟩=>by rw [hX] at e;injection e with e1 e2;subst e1;subst e2;exact hq)
theorem D4 {α:Type} {X:PR α} {e a:Int} (h:∃c j,X=.ok c j) (hX:X=.bad e a):False:=by
 obtain ⟨c,j,h⟩:=h
 rw [hX] at h
 cases h
def PR.isOk {α:Type}:PR α→Bool
 | .ok _ _=>true
 | .bad _ _=>false
theorem ANl {α:Type} {X:PR α} (h:X.isOk=true):∃c j,X=.ok c j:=by
 cases X with
 | ok c j=>exact ⟨c,j,rfl⟩
 | bad e a=>cases h
/-- The parser's object alone has turned. -/
def W1 (L:List Tok) (o:Nat) (Hp H':List AObj):Prop:=∃j,H'=Hp.set o (pmO L j)
theorem AJj (L:List Tok) (i o:Nat) (Hp:List AObj) (ho:Hp[o]? = some (pmO L i)) (hi:i<L.length):AFun Tryz.prog 115 [.ptr o 0] Hp (I1 (Af L i)):=by
 refine Ae [.cell 2 118] [0] Tryz.func115 Tryz.ntmps115 (fun d=>?_)
 refine AL3 ?_;refine Z33 ?_
 refine Aq (h:=B8 ho) (hr:=?_)
 refine Z33 ?_
 refine Aq (h:=B8 ho) (hr:=?_)
 refine Ht ?_
 refine A5 (h:=Ai (i) (I1 (Af L i)) (fun _=>M7 hi)) (hr:=?_)
 refine A5 ?_;exact ADu

theorem ANm (L:List Tok) (s:Str) (i o:Nat) (Hp:List AObj) (ho:Hp[o]? = some (pmO L i)) (hi:i<L.length):AFun Tryz.prog 197 [.ptr o 0,Ac s] Hp (Az (isP L s i)):=by
 refine Ae [.tmp 4] [0,1] Tryz.func197 Tryz.ntmps197 (fun d=>?_)
 refine Z36 ?_;refine AHw ?_;refine Z14 ?_;refine A2 [1,5] ?_;refine Z23 ?_;refine Z69 ?_;refine Z77 ?_;exact AEa

/-! Where the parser of moves comes to. -/
def PR.In {α:Type} (x:PR α) (i n:Nat):Prop:=∀r j,x=.ok r j→i<j∧j<n
theorem PR.bind_ok {α β:Type} {x:PR α} {f:α→Nat→PR β} {r:β} {j:Nat} (h:x.bind f=.ok r j):∃a k,x=.ok a k∧f a k=.ok r j:=by
 cases x with
 | ok a k=>exact ⟨a,k,rfl,h⟩
 | bad e a=>cases h
theorem AGb {L:List Tok} {s:Str} {i:Nat} (h:isP L s i=true):(Af L i).kind≠0:=by
 unfold isP at h
 simp only [At,Dq,beq_iff_eq] at h
 rcases h.1 with h|h<;>rw [h]<;>decide
theorem Gq {L:List Tok} (hl:TokEnd L) {s:Str} {i:Nat} (hi:i<L.length):(D5 L s i).In i L.length:=by
 intro r j h
 unfold D5 at h
 split at h
 ·rename_i h1
  injection h with _ h
  subst h
  exact ⟨dc i,hl.step hi (AGb h1)⟩
 cases h
theorem Ik {L:List Tok} (hl:TokEnd L) {i:Nat} (hi:i<L.length):(Hl L i).In i L.length:=by
 intro r j h
 unfold Hl at h
 split at h
 ·cases h
 rename_i h1
 injection h with _ h
 subst h
 have hk:(Af L i).kind=1:=by simpa using h1
 exact AM5
theorem AGc {L:List Tok} (hl:TokEnd L) {nm:Str} {i:Nat} (hi:i<L.length):(si L nm i).In i L.length:=by
 intro r j h
 unfold si at h
 split at h
 ·cases h
 rename_i h1
 injection h with _ h
 subst h
 have hk:(Af L i).kind=2:=by simp only [Qf,E1,bne_eq_false_iff_eq] at h1;exact h1.1
 exact AM5
theorem cm {L:List Tok} (hl:TokEnd L) {i:Nat} (hi:i<L.length):(Kj L i).In i L.length:=by
 intro r j h
 obtain ⟨a,k,h1,h2⟩:=PR.bind_ok h
 obtain ⟨a1,a2⟩:=Ik hl hi _ _ h1
 obtain ⟨b1,b2⟩:=AGc hl a2 _ _ h2
 exact ⟨by omega,b2⟩
theorem Sx {L:List Tok} (hl:TokEnd L) (hll:L.length≤500000) {i:Nat} (hi:i<L.length) {x:Expr} {k:Nat} (h:Nu L i=.ok x k):i≤k∧k<L.length:=by
 unfold Nu at h
 split at h
 ·cases h
 rename_i h0
 injection h with _ h
 subst h
 have h0:(atM L i).2.2.1=0:=by simpa using h0
 have hq:=Xr hl (by omega:L.length≤1048576) hi
 unfold atM at h0 ⊢
 split at h0
 ·rename_i h1
  have:(atS L i (atR L i)).code=0:=h0
  rw [this] at h1
  cases h1
 rename_i h1
 rw [if_neg h1]
 have e:(atS L i (atR L i)).i=(atR L i).2.i:=by
  unfold atS
  repeat' split
  all_goals first|rfl|exact failM_i.1
 show i≤((atS L i (atR L i)).i:Int).toNat∧((atS L i (atR L i)).i:Int).toNat<_
 rw [Int.toNat_natCast,e]
 exact ⟨hq.le,hq.lt⟩
/-- A move has no more parts than so many. -/
structure MvLe (m:Mov) (n:Nat):Prop where
 take:m.take.length≤n
 give:m.give.length≤n
 ahead:m.ahead.length≤n
 back:m.back.length≤n
theorem MvLe.mono {m:Mov} {i j:Nat} (h:MvLe m i) (hij:i≤j):MvLe m j:=⟨I7 h.take hij,I7 h.give hij,I7 h.ahead hij,I7 h.back hij⟩
/-- What a part of a move comes to. -/
def AJk (x:PR Mov) (i n:Nat):Prop:=∀m j,x=.ok m j→i≤j∧j<n∧MvLe m (2*j)
/-- A part of a move that goes on from i. -/
def Zv (L:List Tok) (one:Mov→Nat→PR Mov):Prop:=∀m i,MvLe m (2*i-1)→0<i→i<L.length→AJk (one m i) i L.length
theorem Lz {L:List Tok} (hl:TokEnd L) (hll:L.length≤500000):Zv L (Fb L):=by
 intro m i hm _ hi m' k h
 obtain ⟨c,j,h1,h2⟩:=PR.bind_ok h
 obtain ⟨u,j2,h3,h4⟩:=PR.bind_ok h2
 obtain ⟨x,j3,h5,h6⟩:=PR.bind_ok h4
 injection h6 with h6 h7
 subst h6;subst h7
 have a1:=cm hl hi _ _ h1
 have a2:=Gq hl a1.2 _ _ h3
 have a3:=Sx hl hll a2.2 h5
 obtain ⟨b1,b2,b3,b4⟩:=hm
 exact ⟨by omega,a3.2,by show m.take.length≤_;omega,by show (m.give++[c]).length≤_;rw [Av,J7];omega,by show (m.ahead++[x]).length≤_;rw [Av,J7];omega,by show m.back.length≤_;omega⟩
theorem lf {L:List Tok} (hl:TokEnd L) (hll:L.length≤500000):Zv L (Va L):=by
 intro m i hm h0 hi m' k h
 obtain ⟨x,j,h1,h2⟩:=PR.bind_ok h
 injection h2 with h6 h7
 subst h6;subst h7
 have a3:=Sx hl hll hi h1
 obtain ⟨b1,b2,b3,b4⟩:=hm
 exact ⟨by omega,a3.2,by show m.take.length≤_;omega,by show m.give.length≤_;omega,by show m.ahead.length≤_;omega,by show (m.back++[x]).length≤_;rw [Av,J7];omega⟩
theorem Yo {L:List Tok} (hl:TokEnd L):Zv L (Sw L):=by
 intro m i hm _ hi m' k h
 obtain ⟨s,j,h1,h2⟩:=PR.bind_ok h
 injection h2 with h6 h7
 subst h6;subst h7
 have a1:=Ik hl hi _ _ h1
 obtain ⟨b1,b2,b3,b4⟩:=hm
 exact ⟨by omega,a1.2,by show (m.take++[s]).length≤_;rw [Av,J7];omega,by show m.give.length≤_;omega,by show m.ahead.length≤_;omega,by show m.back.length≤_;omega⟩
theorem Nm {L:List Tok} {s:Str} {i:Nat} {u:Unit} {j:Nat} (h:D5 L s i=.ok u j):j=i+1:=by
 unfold D5 at h
 split at h
 ·injection h with _ h;exact h.symm
 cases h
theorem lg {L:List Tok} (hl:TokEnd L) {n:Int} {one:Mov→Nat→PR Mov} (hP:Zv L one):∀(f k:Nat) (m:Mov) (i:Nat),MvLe m (2*i)→0<i→i<L.length→AJk (Sv L n one f k m i) i L.length
 | 0,k,m,i,hm,h0,hi=>fun m' j h=>by
  injection h with h1 h2
  subst h1;subst h2
  exact ⟨Am _,hi,hm⟩
 | f+1,k,m,i,hm,h0,hi=>fun m' j h=>by
  rw [Sv] at h
  split at h
  ·obtain ⟨u,j1,h1,h2⟩:=PR.bind_ok h
   obtain ⟨m1,j2,h3,h4⟩:=PR.bind_ok h2
   have e:=Nm h1
   have a1:=Gq hl hi _ _ h1
   obtain ⟨b1,b2,b3⟩:=hP m j1 (hm.mono (by omega)) (by omega) a1.2 _ _ h3
   obtain ⟨c1,c2,c3⟩:=lg hl hP f (k+1) m1 j2 b3 (by omega) b2 _ _ h4
   exact n7
  injection h with h1 h2
  subst h1;subst h2
  exact ⟨Am _,hi,hm⟩
theorem Sy {L:List Tok} (hl:TokEnd L) {n:Int} {one:Mov→Nat→PR Mov} (hP:Zv L one):Zv L (Ii L n one):=by
 intro m i hm h0 hi m' k h
 obtain ⟨m1,j,h1,h2⟩:=PR.bind_ok h
 obtain ⟨b1,b2,b3⟩:=hP m i hm h0 hi _ _ h1
 obtain ⟨c1,c2,c3⟩:=lg hl hP _ _ m1 j b3 (by omega) b2 _ _ h2
 exact n7
theorem Vy {L:List Tok} (hl:TokEnd L) (hll:L.length≤500000) {m:Mov} {i:Nat} (hm:MvLe m (2*i)) (hi:i<L.length):AJk (G9 L m i) i L.length:=by
 intro m' k h
 obtain ⟨u,j,h1,h2⟩:=PR.bind_ok h
 have e:=Nm h1
 have a1:=Gq hl hi _ _ h1
 obtain ⟨c1,c2,c3⟩:=Sy hl (lf hl hll) m j (hm.mono (by omega)) (by omega) a1.2 _ _ h2
 exact n7
theorem x8 {L:List Tok} (hl:TokEnd L):Zv L (Kk L):=by
 intro m i hm h0 hi m' k h
 obtain ⟨s,j,h1,h2⟩:=PR.bind_ok h
 obtain ⟨u,j2,h3,h4⟩:=PR.bind_ok h2
 obtain ⟨t,j3,h5,h6⟩:=PR.bind_ok h4
 injection h6 with h6 h7
 subst h6;subst h7
 have a1:=Ik hl hi _ _ h1
 have a2:=Gq hl a1.2 _ _ h3
 have a3:=Ik hl a2.2 _ _ h5
 exact ⟨by omega,a3.2,by show 1≤_;omega,by show 1≤_;omega,by show 1≤_;omega,by show 1≤_;omega⟩
theorem MvLe.takeS {m:Mov} {n:Nat} (h:MvLe m n) {s:Str} (h1:1≤n):MvLe (takeS m s) n:=⟨h1,h.give,h.ahead,h.back⟩
theorem so {L:List Tok} (hl:TokEnd L) (hll:L.length≤500000):Zv L (Ij L):=by
 intro m i hm h0 hi m' k h
 unfold Ij at h
 split at h
 ·exact Lz hl hll m i hm h0 hi _ _ h
 split at h
 ·obtain ⟨s,j,h1,h2⟩:=PR.bind_ok h
  have a1:=Ik hl hi _ _ h1
  obtain ⟨c1,c2,c3⟩:=Vy hl hll ((hm.mono (by omega:2*i-1≤2*j)).takeS (by omega)) a1.2 _ _ h2
  exact n7
 split at h
 ·exact x8 hl m i hm h0 hi _ _ h
 split at h
 ·obtain ⟨s,j,h1,h2⟩:=PR.bind_ok h
  obtain ⟨u,j2,h3,h4⟩:=PR.bind_ok h2
  obtain ⟨m1,j3,h5,h6⟩:=PR.bind_ok h4
  have a1:=Ik hl hi _ _ h1
  have a2:=Gq hl a1.2 _ _ h3
  obtain ⟨b1,b2,b3⟩:=Sy hl (Lz hl hll) (takeS m s) j2 ((hm.mono (by omega:2*i-1≤2*j2-1)).takeS (by omega)) (by omega) a2.2 _ _ h5
  obtain ⟨c1,c2,c3⟩:=Vy hl hll b3 b2 _ _ h6
  exact n7
 split at h
 ·obtain ⟨m1,j,h1,h2⟩:=PR.bind_ok h
  obtain ⟨u,j2,h3,h4⟩:=PR.bind_ok h2
  obtain ⟨m2,j3,h5,h6⟩:=PR.bind_ok h4
  obtain ⟨b1,b2,b3⟩:=Sy hl (Yo hl) m i hm h0 hi _ _ h1
  have e:=Nm h3
  have a2:=Gq hl b2 _ _ h3
  obtain ⟨d1,d2,d3⟩:=Lz hl hll m1 j2 (b3.mono (by omega)) (by omega) a2.2 _ _ h5
  obtain ⟨c1,c2,c3⟩:=Vy hl hll d3 d2 _ _ h6
  exact n7
 split at h
 ·obtain ⟨m1,j,h1,h2⟩:=PR.bind_ok h
  obtain ⟨d1,d2,d3⟩:=Lz hl hll m i hm h0 hi _ _ h1
  obtain ⟨c1,c2,c3⟩:=Vy hl hll (d3.takeS (by omega)) d2 _ _ h2
  exact n7
 injection h with h1 h2
 subst h1;subst h2
 exact ⟨Am _,hi,hm.mono (by omega)⟩
def Yp:=@PR.bind_ok
theorem pk (L:List Tok) (s:Str) (i o:Nat) (Hp:List AObj) (ho:Hp[o]? = some (pmO L i)) (hi:i<L.length) (hll:L.length≤500000):CP 153 [.ptr o 0,Ac s] Hp (D5 L s i) (fun _ j r H'=>r=Qd∧H'=Hp.set o (pmO L j)) (W1 L o Hp):=by
 refine ⟨fun hX=>?_⟩
 refine Ae [] [0,1] Tryz.func153 Tryz.ntmps153 (fun d=>?_)
 refine Z7 ?_;refine Aa Tryz.call197 (ANm L s i o _ (Ag ho) hi) ?_;refine A5 ?_;refine A2 [0,7] ?_
 refine A4 (fun ht7=>?_) (fun ht7=>?_)
 ·have hq:isP L s i=false:=by simpa using ht7
  have e:D5 L s i=.bad 8 (Af L i).at_:=if_neg (by rw [hq];simp)
  exact AA2
 have hq:isP L s i=true:=by simpa using ht7
 have e:D5 L s i=.ok () (i+1):=if_pos hq
 refine Z3 ?_;refine Z49 ?_
 refine A5 (h:=B8 ho) (hr:=?_)
 refine Z13 ?_
 refine Cq jS ho ?_ ?_
 ·simp
 refine A2 [] ?_;exact Es .nores (hp:=⟨(),i+1,e,rfl,rfl⟩)

theorem x9 (L:List Tok) (i o:Nat) (Hp:List AObj) (ho:Hp[o]? = some (pmO L i)) (hi:i<L.length) (hll:L.length≤500000):CP 191 [.ptr o 0] Hp (Hl L i) (fun s j r H'=>r=Ac s∧H'=Hp.set o (pmO L j)) (W1 L o Hp):=by
 refine ⟨fun hX=>?_⟩
 refine Ae [.tmp 2] [0] Tryz.func191 Tryz.ntmps191 (fun d=>?_)
 refine Z43 ?_;refine AHw ?_;refine Z14 ?_;refine Nv ?_;refine Z31 ?_;refine A2 [0,3,8] ?_
 refine A4 (fun ht8=>?_) (fun ht8=>?_)
 ·have e:Hl L i=.bad 8 (Af L i).at_:=if_pos ht8
  exact AA2
 have e:Hl L i=.ok (Af L i).text (i+1):=if_neg (by rw [ht8];simp)
 refine Qy ?_
 refine A5 (h:=B8 ho) (hr:=?_)
 refine Z13 ?_
 refine Cq jS ho ?_ ?_
 ·simp
 refine A2 [3] ?_;refine Z15 ?_;refine Z4 ?_;exact A8 (Ak A9) (hp:=⟨_,i+1,e,rfl,rfl⟩)

theorem getset {Hp:List AObj} {o:Nat} {A B:AObj} (h:Hp[o]? = some A):(Hp.set o B)[o]? = some B:=by
 have:=(Ad.1 h).1
 simp [this]
theorem AQz (L:List Tok) (i o:Nat) (Hp:List AObj) (ho:Hp[o]? = some (pmO L i)) (hi:i<L.length) (hl:TokEnd L) (hll:L.length≤500000):CP 229 [.ptr o 0] Hp (Kj L i) (fun c j r H'=>r=C0 c∧H'=Hp.set o (pmO L j)) (W1 L o Hp):=by
 refine ⟨fun hX=>?_⟩
 refine Ae [.cell 2 69] [0] Tryz.func229 Tryz.ntmps229 (fun d=>?_)
 refine Z63 ?_
 rcases hN:Hl L i with ⟨s,j⟩|⟨e,a⟩
 rotate_left
 ·exact (D4 hX (by first|exact by unfold Kj;rw [hN];rfl|exact hN)).elim
 have hj:j<L.length:=(Ik hl hi _ _ hN).2
 have e0:Kj L i=si L s j:=by unfold Kj;rw [hN];rfl
 refine Z2 ?_;refine Ch (x:=pmO L j) Tryz.call191 ho (by simp) En ((x9 L i o _ (Ag ho) hi hll).ok hN) ?_;refine n6 ?_;refine ic ?_;refine Z2 ?_;refine Aa Tryz.call115 (AJj L j o _ (Ag (getset ho)) hj) ?_;refine Z14 ?_;refine A2 [0,2,3,4] ?_;refine Z7 ?_;refine Aa Tryz.call254 (AOw (Af L j).text _) ?_;refine A5 ?_;refine Fw ?_;refine A2 [0,2,3,4] ?_;refine Z23 ?_;refine Z6 ?_;refine Z48 ?_;refine A2 [0,2,3,21] ?_
 refine A4 (fun ht21=>?_) (fun ht21=>?_)
 ·have e:Kj L i=.bad 8 (Af L j).at_:=by rw [e0];exact if_pos ht21
  exact AA2
 have e:Kj L i=.ok ⟨s,Uy (Af L j).text⟩ (j+1):=by rw [e0];exact if_neg (by rw [ht21];simp)
 refine Qy ?_
 refine A5 (h:=B8 (getset ho)) (hr:=?_)
 refine Z13 ?_
 refine Cq jS (getset ho) ?_ ?_
 ·simp
 refine Kc ?_;refine Z2 ?_;refine Z39 ?_;exact A8 (Ak (B3 jA jS)) (hp:=⟨_,j+1,e,rfl,by rw [Bu];rfl⟩)

theorem ANn (L:List Tok) (i o:Nat) (Hp:List AObj) (ho:Hp[o]? = some (pmO L i)) (hi:i<L.length) (hl:TokEnd L) (hll:L.length≤500000):CP 230 [.ptr o 0] Hp (Nu L i) (fun c j r H'=>r=A7 c∧H'=Hp.set o (pmO L j)) (W1 L o Hp):=by
 refine ⟨fun hX=>?_⟩
 refine Ae [.cell 2 27] [0] Tryz.func230 Tryz.ntmps230 (fun d=>?_)
 refine Z63 ?_;refine Fc [0,1,3,7,0,16,48,112,255,511,1023,1023,1023,0,0,26623,61439,131071] [] [.q 13 [] [],.s [3] none [] [],.s [5] none [] [],.s [3] none [] [],.q 1 [] [],.s [5] none [] []] (fun _=>Hp) (fun _=>[.cells 27 [A3 0,Ac [],A3 0,A3 0,Ac [],.nil]]) Aj (by kernel_rfl) rfl rfl (fun _=>rfl) ?_
 apply Y.q
 ·intro B hT hF
  refine Z33 ?_
  refine Aq (h:=B8 ho) (hr:=?_)
  refine Z33 ?_
  refine Aq (h:=B8 ho) (hr:=?_)
  refine Dl Tryz.call120 (AMm L i hi hl hll (fun n Dv h1 h2=>bn hl (by omega) n Dv h1 h2) _) ?_;exact ij
 case hTF=>decide
 refine Y.allocP Tryz.zeroValue27 ?_;refine Y.allocP Tryz.zeroValue73 ?_;refine Y.storeP Tryz.sizeOf27 ?_
 apply Y.q
 ·intro B hT hF
  exact Z55
 case hTF=>decide
 refine Y.storeP Tryz.sizeOf73 ?_;refine Ed (tn:=[])  ?_;refine A2 [0,2,3,4,5] ?_;refine Z31 ?_;refine A2 [0,2,3,4,5,21] ?_
 refine A4 (fun ht21=>?_) (fun ht21=>?_)
 ·have e:Nu L i=.bad (atM L i).2.2.1 (atM L i).2.2.2:=if_pos ht21
  exact AA2
 obtain ⟨k,hk,hkl⟩:=fk hl (by omega) hi (by simpa using ht21)
 have e:Nu L i=.ok (atM L i).1 k:=(if_neg (by rw [ht21];simp)).trans (by rw [hk];rfl)
 rw [hk]
 refine Zh ?_
 refine Cq jS ho ?_ ?_
 ·simp
 refine Kc ?_;refine Z2 ?_;refine Z39 ?_;exact A8 (Ak (B3 jA jS)) (hp:=⟨_,k,e,(Al _).symm,rfl⟩) (hlow:=by have:=Ah Hp.length (atM L i).1;rw [Al] at this;exact this)

/-- The parser's object and the move's, turned. -/
def U2 (L:List Tok) (Hp:List AObj) (o om i:Nat) (x:AObj):List AObj:=(Hp.set o (pmO L i)).set om x
theorem U2_len {L:List Tok} {Hp:List AObj} {o om i:Nat} {x:AObj}:(U2 L Hp o om i x).length=Hp.length:=by simp [U2]
theorem Fm {L:List Tok} {Hp:List AObj} {o om i:Nat} {x z:AObj} (hm:Hp[om]? = some z):(U2 L Hp o om i x)[om]? = some x:=gB hm
theorem Ey {L:List Tok} {Hp:List AObj} {o om i:Nat} {x z:AObj} (ho:Hp[o]? = some z) (hne:om≠o):(U2 L Hp o om i x)[o]? = some (pmO L i):=gA ho hne
theorem Fe {L:List Tok} {Hp:List AObj} {o om i j:Nat} {x:AObj} (hne:om≠o):(U2 L Hp o om i x).set o (pmO L j)=U2 L Hp o om j x:=ABl hne
theorem U2_setm {L:List Tok} {Hp:List AObj} {o om i:Nat} {x y:AObj}:(U2 L Hp o om i x).set om y=U2 L Hp o om i y:=Bu ..
theorem Sz {L:List Tok} {Hp:List AObj} {o om i:Nat} {x:AObj} (ho:Hp[o]? = some (pmO L i)) (hm:Hp[om]? = some x):U2 L Hp o om i x=Hp:=by unfold U2;rw [Ce ho,Ce hm]
theorem He {L:List Tok} {Hp:List AObj} {o om i q:Nat} {x:AObj} (h1:q≠o) (h2:q≠om):(U2 L Hp o om i x)[q]? = Hp[q]? := by unfold U2;rw [Bh (Ne.symm h2),Bh (Ne.symm h1)]
def W2 (L:List Tok) (o om:Nat) (Hp H':List AObj):Prop:=∃j m,H'=U2 L Hp o om j (mvO m)
theorem Rk {n k:Nat} {o:Bool} {l:List Expr} {x:Expr}:Low n (.slice o k (l.map A7++[.agg (E4 x)])):=by
 rw [show AV.agg (E4 x)=A7 x from (Al x).symm];exact Lg
theorem Gr {n:Nat} {m:Mov}:ObjLow n (mvO m):=by
 show ∀y∈mvC m,Low n y
 intro y hy
 simp only [mvC,B4,Ej,or_false] at hy
 rcases hy with rfl|rfl|rfl|rfl|rfl
 all_goals first|exact D3|simp [or_imp,forall_and]
theorem xa {L:List Tok} {Hp:List AObj} {o om i:Nat} {m:Mov} {c:Col} {x:AObj}:(U2 L Hp o om i x).set om (.cells 80 [A3 m.kind,.slice true 1 (m.take.map Ac),.slice true 2 (m.give.map C0++[C0 c]),.slice true 6 (m.ahead.map A7),.slice true 6 (m.back.map A7)])=U2 L Hp o om i (mvO (E6 m c)):=by
 rw [U2_setm];simp only [mvO,mvC,E6,Bq,Br,Ec]
theorem xb {L:List Tok} {Hp:List AObj} {o om i:Nat} {m:Mov} {e:Expr} {x:AObj}:(U2 L Hp o om i x).set om (.cells 80 [A3 m.kind,.slice true 1 (m.take.map Ac),.slice true 2 (m.give.map C0),.slice true 6 (m.ahead.map A7++[.agg (E4 e)]),.slice true 6 (m.back.map A7)])=U2 L Hp o om i (mvO (sj m e)):=by
 rw [U2_setm,show AV.agg (E4 e)=A7 e from (Al e).symm];simp only [mvO,mvC,sj,Bq,Br,Ec]
theorem xc {L:List Tok} {Hp:List AObj} {o om i:Nat} {m:Mov} {e:Expr} {x:AObj}:(U2 L Hp o om i x).set om (.cells 80 [A3 m.kind,.slice true 1 (m.take.map Ac),.slice true 2 (m.give.map C0),.slice true 6 (m.ahead.map A7),.slice true 6 (m.back.map A7++[.agg (E4 e)])])=U2 L Hp o om i (mvO (sk m e)):=by
 rw [U2_setm,show AV.agg (E4 e)=A7 e from (Al e).symm];simp only [mvO,mvC,sk,Bq,Br,Ec]
theorem xd {L:List Tok} {Hp:List AObj} {o om i:Nat} {m:Mov} {s:Str} {x:AObj}:(U2 L Hp o om i x).set om (.cells 80 [A3 m.kind,.slice true 1 (m.take.map Ac++[Ac s]),.slice true 2 (m.give.map C0),.slice true 6 (m.ahead.map A7),.slice true 6 (m.back.map A7)])=U2 L Hp o om i (mvO (sm m s)):=by
 rw [U2_setm];simp only [mvO,mvC,sm,Bq,Br,Ec]

theorem AGd (L:List Tok) (m:Mov) (i o om:Nat) (Hp:List AObj) (hne:om≠o) (ho:Hp[o]? = some (pmO L i)) (hm:Hp[om]? = some (mvO m)) (hi:i<L.length) (hl:TokEnd L) (hll:L.length≤500000) (hb:MvLe m (2*i-1)):CP 190 [.ptr o 0,.ptr om 0] Hp (Fb L m i) (fun m' j r H'=>r=Qd∧H'=U2 L Hp o om j (mvO m')) (W2 L o om Hp):=by
 refine ⟨fun hX=>?_⟩
 have:=hb.take;have:=hb.give;have:=hb.ahead;have:=hb.back
 refine Ae [] [0,1] Tryz.func190 Tryz.ntmps190 (fun d=>?_)
 rcases hC:Kj L i with ⟨c,j⟩|⟨e,a⟩
 rotate_left
 ·exact (D4 hX (by first|exact by unfold Fb;rw [hC];rfl|exact hC)).elim
 have hj:=cm hl hi _ _ hC
 refine Fc [0,0,2,6,14,0,32,96,254,511,1023,2047] [4,6] [.q 4 [] [],.s [8] (some 0) [] [],.q 1 [] [1],.s [10] (some 1) [] [],.q 1 [1] [],.s [8,12] none [0,1] []] (fun B=>U2 L Hp o om (if B 1=true then j else i) (if B 0=true then .cells 80 [A3 m.kind,.slice true 1 (m.take.map Ac),.slice false 2 (m.give.map C0),.slice true 6 (m.ahead.map A7),.slice true 6 (m.back.map A7)] else .cells 80 [A3 m.kind,.slice true 1 (m.take.map Ac),.slice true 2 (m.give.map C0),.slice true 6 (m.ahead.map A7),.slice true 6 (m.back.map A7)])) (fun _=>[]) Aj (by kernel_rfl) (Sz ho hm) rfl (fun B=>U2_len) ?_
 apply Y.q
 ·intro B hT hF
  exact ij
 case hTF=>decide
 refine Of (o:=om) (t':=80) (cs:=[A3 m.kind,.slice true 1 (m.take.map Ac),.slice true 2 (m.give.map C0),.slice true 6 (m.ahead.map A7),.slice true 6 (m.back.map A7)]) (cs':=[A3 m.kind,.slice true 1 (m.take.map Ac),.slice false 2 (m.give.map C0),.slice true 6 (m.ahead.map A7),.slice true 6 (m.back.map A7)]) Tryz.isAgg30 (fun B hB=>⟨by simp only [hB];exact Fm hm,U2_setm.symm,rfl⟩) ?_
 apply Y.q
 ·intro B hT hF
  exact Z55
 case hTF=>decide
 refine N2 (r:=C0 c) (o:=o) (x0:=pmO L i) (x:=pmO L j) Tryz.call229 (fun B hB1 hB2 hB=>⟨by simp only [hB];exact Ey ho hne,(Fe hne).symm,rfl,En,?_⟩) ?_
 ·simp only [hB]
  exact (AQz L i o _ (Ag (Ey ho hne)) hi hl hll).ok hC
 apply Y.q
 ·intro B hT hF
  exact Z38
 case hTF=>decide
 refine Y.append jU Tryz.type69 ?_ ?_ ?_
 ·simp [Tryz.t69];omega
 ·simp [Tryz.t69];omega
 refine Ed (tn:=[4,6]) (U:=U2 L Hp o om j (.cells 80 [A3 m.kind,.slice true 1 (m.take.map Ac),.slice false 2 (m.give.map C0),.slice true 6 (m.ahead.map A7),.slice true 6 (m.back.map A7)])) ?_;refine Z0 ?_
 refine Fv jS (Fm hm) ?_ ?_
 ·simp [or_imp,forall_and]
 refine A2 [0,1] ?_;refine Rj (xa (m:=m) (c:=c)) ?_
 rcases hW:D5 L [61] j with ⟨u,j2⟩|⟨e,a⟩
 rotate_left
 ·exact (D4 hX (by first|exact by unfold Fb;rw [hC];show (D5 L [61] j).bind _=_;rw [hW];rfl|exact hW)).elim
 have hj2:=Gq hl hj.2 _ _ hW
 refine Z2 ?_;refine Ch (x:=pmO L j2) Tryz.call153 (Ey ho hne) (by simp) En ((pk L [61] j o _ (Ag (Ey ho hne)) hj.2 hll).ok hW) ?_
 rw [Fe hne]
 refine A2 [0,1] ?_
 rcases hT:Nu L j2 with ⟨x,k⟩|⟨e,a⟩
 rotate_left
 ·exact (D4 hX (by first|exact by unfold Fb;rw [hC];show (D5 L [61] j).bind _=_;rw [hW];show (Nu L j2).bind _=_;rw [hT];rfl|exact hT)).elim
 have hk:=Sx hl hll hj2.2 hT
 refine W.drawT0 [0,1,3,7,0,16,15,0,255,511,1023,511,2559,6655] [3,5] [.q 3 [] [0],.s [20] (some 0) [] [],.q 1 [] [1],.s [22] (some 1) [] [],.q 2 [] []] (fun B=>U2 L Hp o om (if B 1=true then k else j2) (if B 0=true then .cells 80 [A3 (E6 m c).kind,.slice true 1 ((E6 m c).take.map Ac),.slice true 2 ((E6 m c).give.map C0),.slice false 6 ((E6 m c).ahead.map A7),.slice true 6 ((E6 m c).back.map A7)] else .cells 80 [A3 (E6 m c).kind,.slice true 1 ((E6 m c).take.map Ac),.slice true 2 ((E6 m c).give.map C0),.slice true 6 ((E6 m c).ahead.map A7),.slice true 6 ((E6 m c).back.map A7)])) (fun _=>[]) Aj (by kernel_rfl) rfl rfl (fun B=>by rw [U2_len];exact U2_len.symm) ?_
 apply Y.q
 ·intro B hT hF
  exact ADv
 case hTF=>decide
 refine Of (o:=om) (t':=80) (cs:=[A3 (E6 m c).kind,.slice true 1 ((E6 m c).take.map Ac),.slice true 2 ((E6 m c).give.map C0),.slice true 6 ((E6 m c).ahead.map A7),.slice true 6 ((E6 m c).back.map A7)]) (cs':=[A3 (E6 m c).kind,.slice true 1 ((E6 m c).take.map Ac),.slice true 2 ((E6 m c).give.map C0),.slice false 6 ((E6 m c).ahead.map A7),.slice true 6 ((E6 m c).back.map A7)]) Tryz.isAgg25 (fun B hB=>⟨by simp only [hB];exact Fm hm,U2_setm.symm,rfl⟩) ?_
 apply Y.q
 ·intro B hT hF
  exact Z55
 case hTF=>decide
 refine N2 (r:=A7 x) (o:=o) (x0:=pmO L j2) (x:=pmO L k) Tryz.call230 (fun B hB1 hB2 hB=>⟨by simp only [hB];exact Ey ho hne,(Fe hne).symm,rfl,En,?_⟩) ?_
 ·simp only [hB]
  exact (ANn L j2 o _ (Ag (Ey ho hne)) hj2.2 hl hll).ok hT
 apply Y.q
 ·intro B hT hF
  exact mv
 case hTF=>decide
 refine Y.appendPut4 (tn:=[3,5]) (U:=U2 L Hp o om k (.cells 80 [A3 (E6 m c).kind,.slice true 1 ((E6 m c).take.map Ac),.slice true 2 ((E6 m c).give.map C0),.slice false 6 ((E6 m c).ahead.map A7),.slice true 6 ((E6 m c).back.map A7)])) (O:=[]) (o:=om) (t':=80) (cs:=[A3 (E6 m c).kind,.slice true 1 ((E6 m c).take.map Ac),.slice true 2 ((E6 m c).give.map C0),.slice false 6 ((E6 m c).ahead.map A7),.slice true 6 ((E6 m c).back.map A7)]) (by kernel_rfl) jU Tryz.type27 Tryz.sizeOf27 Tryz.sizeOf25 jU (Ag (Fm hm)) ?_ ?_ ?_ (hfsz:=Tryz.sizeOf25)
 ·simp [Tryz.t27,E6];omega
 ·simp [Tryz.t27,E6];omega
 refine Z0 ?_
 refine Fv jS (Fm hm) ?_ ?_
 ·exact Rk
 refine A2 [] ?_;exact Es .nores (hp:=⟨sj (E6 m c) x,k,by unfold Fb;rw [hC];show (D5 L [61] j).bind _=_;rw [hW];show (Nu L j2).bind _=_;rw [hT];rfl,rfl,by exact xb (m:=E6 m c)⟩)

/-- What is asked of a part of a move that is a closure. -/
def sq (L:List Tok) (o om g:Nat) (caps:List AV) (Hp:List AObj) (one:Mov→Nat→PR Mov):Prop:=
 ∀m i,MvLe m (2*i-1)→0<i→i<L.length→CP g caps (U2 L Hp o om i (mvO m)) (one m i) (fun m' j r H'=>r=Qd∧H'=U2 L Hp o om j (mvO m')) (W2 L o om Hp)
theorem K8 {L:List Tok} {Hp:List AObj} {o om i j:Nat} {x y:AObj} (hne:om≠o):U2 L (U2 L Hp o om i x) o om j y=U2 L Hp o om j y:=by
 unfold U2
 rw [ABl hne,Bu]
theorem ACx {L:List Tok} {Hp H':List AObj} {o om i:Nat} {x:AObj} (hne:om≠o) (h:W2 L o om (U2 L Hp o om i x) H'):W2 L o om Hp H':=by
 obtain ⟨j,m,e⟩:=h
 exact ⟨j,m,by rw [e,K8 hne]⟩
theorem AR0 (L:List Tok) (m:Mov) (i o om bp bm:Nat) (Hp:List AObj) (hne:om≠o) (ho:Hp[o]? = some (pmO L i)) (hm:Hp[om]? = some (mvO m)) (hbp:Hp[bp]? = some (.cells 107 [.ptr o 0])) (hbm:Hp[bm]? = some (.cells 194 [.ptr om 0])) (hi:i<L.length) (hl:TokEnd L) (hll:L.length≤500000) (hb:MvLe m (2*i-1)):CP 231 [.ptr bm 0,.ptr bp 0] Hp (Va L m i) (fun m' j r H'=>r=Qd∧H'=U2 L Hp o om j (mvO m')) (W2 L o om Hp):=by
 refine ⟨fun hX=>?_⟩
 have n1:bp≠o:=fun e=>by rw [e,ho] at hbp;simp at hbp
 have n2:bp≠om:=fun e=>by rw [e,hm] at hbp;simp at hbp
 have n3:bm≠o:=fun e=>by rw [e,ho] at hbm;simp at hbm
 have n4:bm≠om:=fun e=>by rw [e,hm] at hbm;simp at hbm
 have:=hb.take;have:=hb.give;have:=hb.ahead;have:=hb.back
 refine Ae [] [0,1] Tryz.func231 Tryz.ntmps231 (fun d=>?_)
 refine W.flip Aj (by kernel_rfl) Tryz.zeroValue4 Tryz.sizeOf4 Tryz.isAgg4 (fun fb=>?_)
 refine ae [0,1,3] (by simp only [go_sem,↓reduceIte,Nat.reduceEqDiff,Nat.reduceAdd]<;>rfl) ?_
 refine A4 (fun ht3=>?_) (fun ht3=>?_)
 ·rcases hT:Nu L i with ⟨x,k⟩|⟨e,a⟩
  rotate_left
  ·exact AM6
  have hk:=Sx hl hll hi hT
  refine W.drawZ0 [0,1,3,7,0,16,15,0,255,511,1023,2047] [3,5] [.q 3 [] [0],.s [7] (some 0) [] [],.q 1 [] [1],.s [9] (some 1) [] [],.q 2 [] []] (fun B=>U2 L Hp o om (if B 1=true then k else i) (if B 0=true then .cells 80 [A3 m.kind,.slice true 1 (m.take.map Ac),.slice true 2 (m.give.map C0),.slice true 6 (m.ahead.map A7),.slice false 6 (m.back.map A7)] else .cells 80 [A3 m.kind,.slice true 1 (m.take.map Ac),.slice true 2 (m.give.map C0),.slice true 6 (m.ahead.map A7),.slice true 6 (m.back.map A7)])) (fun _=>[.cells 4 [.v (.bool fb)]]) Aj (by kernel_rfl) (Sz ho hm) rfl (fun B=>U2_len) ?_
  apply Y.q
  ·intro B hT hF
   refine Aq (h:=B8 ((He n3 n4).trans hbm)) (hr:=?_)
   exact Z71
  case hTF=>decide
  refine Of (o:=om) (t':=80) (cs:=[A3 m.kind,.slice true 1 (m.take.map Ac),.slice true 2 (m.give.map C0),.slice true 6 (m.ahead.map A7),.slice true 6 (m.back.map A7)]) (cs':=[A3 m.kind,.slice true 1 (m.take.map Ac),.slice true 2 (m.give.map C0),.slice true 6 (m.ahead.map A7),.slice false 6 (m.back.map A7)]) Tryz.isAgg25 (fun B hB=>⟨by simp only [hB];exact Fm hm,U2_setm.symm,rfl⟩) ?_
  apply Y.q
  ·intro B hT hF
   refine Aq (h:=B8 ((He n1 n2).trans hbp)) (hr:=?_)
   exact ir
  case hTF=>decide
  refine N2 (r:=A7 x) (o:=o) (x0:=pmO L i) (x:=pmO L k) Tryz.call230 (fun B hB1 hB2 hB=>⟨by simp only [hB];exact Ey ho hne,(Fe hne).symm,rfl,En,?_⟩) ?_
  ·simp only [hB]
   exact AM7
  apply Y.q
  ·intro B hT hF
   exact mv
  case hTF=>decide
  refine Y.put2 (tn:=[3,5]) (U:=U2 L Hp o om k (.cells 80 [A3 m.kind,.slice true 1 (m.take.map Ac),.slice true 2 (m.give.map C0),.slice true 6 (m.ahead.map A7),.slice false 6 (m.back.map A7)])) (O:=[.cells 4 [.v (.bool fb)]]) (o:=om) (t':=80) (cs:=[A3 m.kind,.slice true 1 (m.take.map Ac),.slice true 2 (m.give.map C0),.slice true 6 (m.ahead.map A7),.slice false 6 (m.back.map A7)]) jU Tryz.type27 Tryz.sizeOf27 Tryz.sizeOf25 jU (Ag (Fm hm)) ?_ ?_ ?_ (hfsz:=Tryz.sizeOf25)
  ·simp [Tryz.t27];omega
  ·simp [Tryz.t27];omega
  refine Z0 ?_
  refine Fv jS (Fm hm) ?_ ?_
  ·exact Rk
  exact AKd
 rcases hT:Nu L i with ⟨x,k⟩|⟨e,a⟩
 rotate_left
 ·exact AM6
 have hk:=Sx hl hll hi hT
 refine Qt [0,0,2,6,14,0,32,96,254,511,1023,2047] [4,6] [.q 4 [] [],.s [20] (some 0) [] [],.q 1 [] [1],.s [22] (some 1) [] [],.q 1 [1] [],.s [20,24] none [0,1] []] (fun B=>U2 L Hp o om (if B 1=true then k else i) (if B 0=true then .cells 80 [A3 m.kind,.slice true 1 (m.take.map Ac),.slice true 2 (m.give.map C0),.slice true 6 (m.ahead.map A7),.slice false 6 (m.back.map A7)] else .cells 80 [A3 m.kind,.slice true 1 (m.take.map Ac),.slice true 2 (m.give.map C0),.slice true 6 (m.ahead.map A7),.slice true 6 (m.back.map A7)])) (fun _=>[.cells 4 [.v (.bool fb)]]) Aj (by kernel_rfl) (Sz ho hm) rfl (fun B=>U2_len) ?_
 apply Y.q
 ·intro B hT hF
  refine Aq (h:=B8 ((He n3 n4).trans hbm)) (hr:=?_)
  refine Aq (h:=B8 ((He n3 n4).trans hbm)) (hr:=?_)
  exact Z71
 case hTF=>decide
 refine Of (o:=om) (t':=80) (cs:=[A3 m.kind,.slice true 1 (m.take.map Ac),.slice true 2 (m.give.map C0),.slice true 6 (m.ahead.map A7),.slice true 6 (m.back.map A7)]) (cs':=[A3 m.kind,.slice true 1 (m.take.map Ac),.slice true 2 (m.give.map C0),.slice true 6 (m.ahead.map A7),.slice false 6 (m.back.map A7)]) Tryz.isAgg25 (fun B hB=>⟨by simp only [hB];exact Fm hm,U2_setm.symm,rfl⟩) ?_
 apply Y.q
 ·intro B hT hF
  refine Aq (h:=B8 ((He n1 n2).trans hbp)) (hr:=?_)
  exact ir
 case hTF=>decide
 refine N2 (r:=A7 x) (o:=o) (x0:=pmO L i) (x:=pmO L k) Tryz.call230 (fun B hB1 hB2 hB=>⟨by simp only [hB];exact Ey ho hne,(Fe hne).symm,rfl,En,?_⟩) ?_
 ·simp only [hB]
  exact AM7
 apply Y.q
 ·intro B hT hF
  exact Z38
 case hTF=>decide
 refine Y.append jU Tryz.type27 ?_ ?_ ?_
 ·simp [Tryz.t27];omega
 ·simp [Tryz.t27];omega
 refine Ed (tn:=[4,6]) (U:=U2 L Hp o om k (.cells 80 [A3 m.kind,.slice true 1 (m.take.map Ac),.slice true 2 (m.give.map C0),.slice true 6 (m.ahead.map A7),.slice false 6 (m.back.map A7)])) ?_;refine Z0 ?_
 refine Fv jS (Fm hm) ?_ ?_
 ·exact Rk
 exact AKd

theorem Il {L:List Tok} {Hp:List AObj} {o om i j n:Nat} {x y:AObj} (hne:om≠o) (hy:ObjLow n y) (h:∀z∈U2 L Hp o om i x,ObjLow n z):∀z∈U2 L Hp o om j y,ObjLow n z:=by
 intro z hz
 rw [show U2 L Hp o om j y=((U2 L Hp o om i x).set o (pmO L j)).set om y by rw [Fe hne,U2_setm]] at hz
 rcases Ln hz with hz|rfl
 ·rcases Ln hz with hz|rfl
  ·exact h z hz
  exact En
 exact hy
theorem F8 {L:List Tok} {Hp own:List AObj} {o om i:Nat} {x:AObj} (h1:o<Hp.length) (h2:om<Hp.length):U2 L (Hp++own) o om i x=U2 L Hp o om i x++own:=by
 unfold U2
 rw [K9 _ _ h1,K9 _ _ (by simpa using h2)]
/-- Where the loop of things with commas between stands. -/
structure ListAt (L:List Tok) (n:Int) (one:Mov→Nat→PR Mov) (X:PR Mov) (x:Nat×Mov×Nat):Prop where
 lt:x.2.2<L.length
 pos:0<x.2.2
 le:MvLe x.2.1 (2*x.2.2)
 k:x.1≤x.2.2
 fuel:∃f,X=Sv L n one f x.1 x.2.1 x.2.2∧L.length-x.2.2<f
theorem ListAt.step {L:List Tok} {n:Int} {one:Mov→Nat→PR Mov} {X:PR Mov} {x:Nat×Mov×Nat} (h:ListAt L n one X x) (hq:V9 L n x.1 x.2.2=true):∃f,X=((D5 L [44] x.2.2).bind fun _ j=>(one x.2.1 j).bind fun m j=>Sv L n one f (x.1+1) m j)∧L.length-x.2.2<f+1:=by
 obtain ⟨f,e,hf⟩:=h.fuel
 obtain ⟨f,rfl⟩:∃g,f=g+1:=⟨f-1,by omega⟩
 refine ⟨f,?_,hf⟩
 rw [e,Sv,if_pos hq]
theorem ListAt.on {L:List Tok} (hl:TokEnd L) {n:Int} {one:Mov→Nat→PR Mov} (hP:Zv L one) {X:PR Mov} {x:Nat×Mov×Nat} (h:ListAt L n one X x) (hq:V9 L n x.1 x.2.2=true) {u:Unit} {j:Nat} (hW:D5 L [44] x.2.2=.ok u j) {m2:Mov} {j2:Nat} (hO:one x.2.1 j=.ok m2 j2):ListAt L n one X (x.1+1,m2,j2)∧x.2.2<j2:=by
 obtain ⟨f,e,hf⟩:=h.step hq
 have h1:=Gq hl h.lt _ _ hW
 have hj:j=x.2.2+1:=by
  unfold D5 at hW
  split at hW
  ·injection hW with _ h;exact h.symm
  cases hW
 obtain ⟨a1,a2,a3⟩:=hP x.2.1 j (h.le.mono (by omega)) (by omega) h1.2 _ _ hO
 have:=h.k
 refine ⟨⟨a2,by show 0<j2;omega,a3,by show x.1+1≤j2;omega,f,?_,by show L.length-j2<f;omega⟩,by omega⟩
 rw [e,hW]
 show (one x.2.1 j).bind _=_
 rw [hO];rfl
theorem ListAt.bad1 {L:List Tok} {n:Int} {one:Mov→Nat→PR Mov} {X:PR Mov} {x:Nat×Mov×Nat} (h:ListAt L n one X x) (hq:V9 L n x.1 x.2.2=true) {e a:Int} (hW:D5 L [44] x.2.2=.bad e a):X=.bad e a:=by
 obtain ⟨f,e,_⟩:=h.step hq
 rw [e,hW];rfl
theorem ListAt.bad2 {L:List Tok} {n:Int} {one:Mov→Nat→PR Mov} {X:PR Mov} {x:Nat×Mov×Nat} (h:ListAt L n one X x) (hq:V9 L n x.1 x.2.2=true) {u:Unit} {j:Nat} (hW:D5 L [44] x.2.2=.ok u j) {e a:Int} (hO:one x.2.1 j=.bad e a):X=.bad e a:=by
 obtain ⟨f,e,_⟩:=h.step hq
 rw [e,hW]
 show (one x.2.1 j).bind _=_
 rw [hO];rfl
theorem ListAt.out {L:List Tok} {n:Int} {one:Mov→Nat→PR Mov} {X:PR Mov} {x:Nat×Mov×Nat} (h:ListAt L n one X x) (hq:V9 L n x.1 x.2.2=false):X=.ok x.2.1 x.2.2:=by
 obtain ⟨f,e,hf⟩:=h.fuel
 obtain ⟨f,rfl⟩:∃g,f=g+1:=⟨f-1,by omega⟩
 rw [e,Sv,if_neg (by rw [hq];simp)]
theorem AR1 (L:List Tok) (m:Mov) (i o om bp bm:Nat) (Hp:List AObj) (hne:om≠o) (ho:Hp[o]? = some (pmO L i)) (hm:Hp[om]? = some (mvO m)) (hbp:Hp[bp]? = some (.cells 107 [.ptr o 0])) (hbm:Hp[bm]? = some (.cells 194 [.ptr om 0])) (hi:i<L.length) (hl:TokEnd L) (hll:L.length≤500000) (hb:MvLe m (2*i-1)):CP 196 [.ptr bm 0,.ptr bp 0] Hp (Sw L m i) (fun m' j r H'=>r=Qd∧H'=U2 L Hp o om j (mvO m')) (W2 L o om Hp):=by
 refine ⟨fun hX=>?_⟩
 have n1:bp≠o:=fun e=>by rw [e,ho] at hbp;simp at hbp
 have n2:bp≠om:=fun e=>by rw [e,hm] at hbp;simp at hbp
 have n3:bm≠o:=fun e=>by rw [e,ho] at hbm;simp at hbm
 have n4:bm≠om:=fun e=>by rw [e,hm] at hbm;simp at hbm
 have:=hb.take;have:=hb.give;have:=hb.ahead;have:=hb.back
 refine Ae [] [0,1] Tryz.func196 Tryz.ntmps196 (fun d=>?_)
 rcases hT:Hl L i with ⟨s,k⟩|⟨e,a⟩
 rotate_left
 ·exact (D4 hX (by first|exact by unfold Sw;rw [hT];rfl|exact hT)).elim
 have hk:=Ik hl hi _ _ hT
 refine Qt [0,0,2,6,14,0,32,96,254,511,1023,2047] [4,6] [.q 4 [] [],.s [6] (some 0) [] [],.q 1 [] [1],.s [8] (some 1) [] [],.q 1 [1] [],.s [6,10] none [0,1] []] (fun B=>U2 L Hp o om (if B 1=true then k else i) (if B 0=true then .cells 80 [A3 m.kind,.slice false 1 (m.take.map Ac),.slice true 2 (m.give.map C0),.slice true 6 (m.ahead.map A7),.slice true 6 (m.back.map A7)] else .cells 80 [A3 m.kind,.slice true 1 (m.take.map Ac),.slice true 2 (m.give.map C0),.slice true 6 (m.ahead.map A7),.slice true 6 (m.back.map A7)])) (fun _=>[]) Aj (by kernel_rfl) (Sz ho hm) rfl (fun B=>U2_len) ?_
 apply Y.q
 ·intro B hT hF
  refine Aq (h:=B8 ((He n3 n4).trans hbm)) (hr:=?_)
  refine Aq (h:=B8 ((He n3 n4).trans hbm)) (hr:=?_)
  exact Z71
 case hTF=>decide
 refine Of (o:=om) (t':=80) (cs:=[A3 m.kind,.slice true 1 (m.take.map Ac),.slice true 2 (m.give.map C0),.slice true 6 (m.ahead.map A7),.slice true 6 (m.back.map A7)]) (cs':=[A3 m.kind,.slice false 1 (m.take.map Ac),.slice true 2 (m.give.map C0),.slice true 6 (m.ahead.map A7),.slice true 6 (m.back.map A7)]) Tryz.isAgg22 (fun B hB=>⟨by simp only [hB];exact Fm hm,U2_setm.symm,rfl⟩) ?_
 apply Y.q
 ·intro B hT hF
  refine Aq (h:=B8 ((He n1 n2).trans hbp)) (hr:=?_)
  exact ir
 case hTF=>decide
 refine N2 (r:=Ac s) (o:=o) (x0:=pmO L i) (x:=pmO L k) Tryz.call191 (fun B hB1 hB2 hB=>⟨by simp only [hB];exact Ey ho hne,(Fe hne).symm,rfl,En,?_⟩) ?_
 ·simp only [hB]
  exact (x9 L i o _ (Ag (Ey ho hne)) hi hll).ok hT
 apply Y.q
 ·intro B hT hF
  exact Z38
 case hTF=>decide
 refine Y.append jU Tryz.type9 ?_ ?_ ?_
 ·simp [Tryz.t9];omega
 ·simp [Tryz.t9];omega
 refine Ed (tn:=[4,6]) (U:=U2 L Hp o om k (.cells 80 [A3 m.kind,.slice false 1 (m.take.map Ac),.slice true 2 (m.give.map C0),.slice true 6 (m.ahead.map A7),.slice true 6 (m.back.map A7)])) ?_;refine Z0 ?_
 refine Fv jS (Fm hm) ?_ ?_
 ·simp [or_imp,forall_and]
 refine A2 [] ?_;exact Es .nores (hp:=⟨sm m s,k,by unfold Sw;rw [hT];rfl,rfl,by exact xd⟩)

theorem AR2 (L:List Tok) (m:Mov) (i o om bp bm:Nat) (Hp:List AObj) (hne:om≠o) (ho:Hp[o]? = some (pmO L i)) (hm:Hp[om]? = some (mvO m)) (hbp:Hp[bp]? = some (.cells 107 [.ptr o 0])) (hbm:Hp[bm]? = some (.cells 194 [.ptr om 0])) (hi:i<L.length) (hl:TokEnd L) (hll:L.length≤500000) (hb:MvLe m (2*i-1)):CP 195 [.ptr bp 0,.ptr bm 0] Hp (Fb L m i) (fun m' j r H'=>r=Qd∧H'=U2 L Hp o om j (mvO m')) (W2 L o om Hp):=by
 refine ⟨fun hX=>?_⟩
 have hol:=(Ad.1 ho).1
 have hml:=(Ad.1 hm).1
 have n1:bp≠o:=fun e=>by rw [e,ho] at hbp;simp at hbp
 have n2:bp≠om:=fun e=>by rw [e,hm] at hbp;simp at hbp
 have n3:bm≠o:=fun e=>by rw [e,ho] at hbm;simp at hbm
 have n4:bm≠om:=fun e=>by rw [e,hm] at hbm;simp at hbm
 have:=hb.take;have:=hb.give;have:=hb.ahead;have:=hb.back
 refine Ae [] [0,1] Tryz.func195 Tryz.ntmps195 (fun d=>?_)
 refine AA3 ?_
 rcases hT:Fb L m i with ⟨m2,k⟩|⟨e,a⟩
 rotate_left
 ·exact (D4 hX hT).elim
 refine Gf ?_
 refine A5 (h:=B8 ((He n1 n2).trans hbp)) (hr:=?_)
 refine A5 (h:=B8 ((He n3 n4).trans hbm)) (hr:=?_)
 refine Gv (up':=U2 L Hp o om k (mvO m2)) (own':=[]) Tryz.call190 (((AGd L m i o om _ hne (Ag (Ey ho hne)) (Ag (Fm hm)) hi hl hll hb).ok hT).mono (fun r H' e=>⟨e.1,e.2.trans (by rw [Gs,Gs,K8 hne])⟩)) (by rw [U2_len,U2_len]) (fun h=>Il hne Gr h) ?_;refine A2 [] ?_;exact Es .nores (hp:=⟨m2,k,rfl,rfl,rfl⟩)

theorem AJl (L:List Tok) (n:Int) (m:Mov) (i o om g:Nat) (caps:List AV) (one:Mov→Nat→PR Mov) (Hp:List AObj) (hne:om≠o) (ho:Hp[o]? = some (pmO L i)) (hm:Hp[om]? = some (mvO m)) (h0:0<i) (hi:i<L.length) (hl:TokEnd L) (hll:L.length≤500000) (hb:MvLe m (2*i-1)) (hcall:∀args w,(callFunc g args).run Tryz.prog w=.ok (.enter g args) w) (hC:sq L o om g caps Hp one) (hP:Zv L one):CP 194 [.ptr o 0,A3 n,.fn (.func g) [] caps] Hp (Ii L n one m i) (fun m' j r H'=>r=Qd∧H'=U2 L Hp o om j (mvO m')) (W2 L o om Hp):=by
 refine ⟨fun hX=>?_⟩
 have hol:=(Ad.1 ho).1
 have hml:=(Ad.1 hm).1
 refine Ae [] [0,1,2] Tryz.func194 Tryz.ntmps194 (fun d=>?_)
 refine AA3 ?_
 rcases h1:one m i with ⟨m1,j1⟩|⟨e,a⟩
 rotate_left
 ·exact (D4 hX (by first|exact by unfold Ii;rw [h1];rfl|exact h1)).elim
 have g1:=hP m i hb h0 hi _ _ h1
 have e0:Ii L n one m i=Sv L n one (L.length+1) 1 m1 j1:=by unfold Ii;rw [h1];rfl
 refine Z2 ?_
 refine R.callVX (up':=U2 L Hp o om j1 (mvO m1)) (own':=[]) hcall (by rw [Gs,Gs];exact (hC m i hb h0 hi).ok h1) (by rw [U2_len,U2_len]) (fun h=>Il hne Gr h) ?_
 refine A2 [0,1,2] ?_;refine Z2 ?_;refine A2 [0,1,2,6] ?_
 refine Bf (α:=Nat×Mov×Nat) (fun x=>⟨30,A6 0 (.ptr o 0) (A6 1 (A3 n) (A6 2 (.fn (.func g) [] caps) (A6 6 (A3 (x.1:Int)) (fun _=>.any)))),U2 L Hp o om x.2.2 (mvO x.2.1),[],[],none⟩) (fun x=>ListAt L n one (Ii L n one m i) x) (fun x=>L.length-x.2.2) ((1,m1,j1)) ⟨g1.2.1,by show 0<j1;omega,g1.2.2,by show 1≤j1;omega,_,e0,by show L.length-j1<_;omega⟩ (Kt _) rfl (fun x hx=>?_)
 refine Z7 ?_;refine Z77 ?_;refine Z69 ?_;refine C3 Tryz.call197 (fun hB=>ANm L [44] x.2.2 o _ (Ag (Ey ho hne)) hx.lt) ?_;refine io ?_;refine A2 [0,1,2,6,23] ?_
 refine A4 (fun ht23=>?_) (fun ht23=>?_)
 ·have hq:V9 L n x.1 x.2.2=true:=ht23
  refine Oh ?_
  rcases hW:D5 L [44] x.2.2 with ⟨u,j⟩|⟨e,a⟩
  rotate_left
  ·exact (D4 hX (by first|exact hx.bad1 hq hW|exact hW)).elim
  have hj:=Gq hl hx.lt _ _ hW
  have hpos:=hx.pos
  refine Z2 ?_;refine Ch (x:=pmO L j) Tryz.call153 (Ey ho hne) (by simp) En ((pk L [44] x.2.2 o _ (Ag (Ey ho hne)) hx.lt hll).ok hW) ?_
  rw [Fe hne]
  refine A2 [0,1,2,6] ?_
  rcases hO:one x.2.1 j with ⟨m2,j2⟩|⟨e,a⟩
  rotate_left
  ·exact (D4 hX (by first|exact hx.bad2 hq hW hO|exact hO)).elim
  have hon:=hx.on hl hP hq hW hO
  refine Z44 ?_
  refine R.callVX (up':=U2 L Hp o om j2 (mvO m2)) (own':=[]) hcall (by rw [Gs,Gs];exact (hC x.2.1 j (hx.le.mono (by omega)) (by omega) hj.2).ok hO) (by rw [U2_len,U2_len]) (fun h=>Il hne Gr h) ?_
  refine A2 [0,1,2,6] ?_;refine Z12 ?_;refine Z44 ?_
  refine A5 (h:=Qp (h2:=fun _=>by have:=hx.k;have:=hx.lt;omega)) (hr:=?_)
  refine A5 ?_;refine A2 [0,1,2,6] ?_
  refine Bg (x.1+1,m2,j2) hon.1 (by have:=hx.lt;have:=hon.2;show L.length-j2<L.length-x.2.2;omega) (Dn rfl)
 have hq:V9 L n x.1 x.2.2=false:=ht23
 have e:=hx.out hq
 refine Z59 ?_;refine K.lpE ?_;exact Es .nores (hp:=⟨_,_,e,rfl,rfl⟩)

theorem CP.mono {g:FuncId} {args:List AV} {H:List AObj} {α:Type} {X:PR α} {Q Q':α→Nat→AV→List AObj→Prop} {R R':List AObj→Prop} (h:CP g args H X Q R) (hQ:∀c j r H',Q c j r H'→Q' c j r H') (hR:∀H',R H'→R' H'):CP g args H X Q' R':=
 ⟨fun hX=>(h.run hX).mono (fun r H' ⟨c,j,e,hq⟩=>⟨c,j,e,hQ _ _ _ _ hq⟩)⟩
section
variable {L:List Tok} {o om bp bm:Nat} {X:List AObj} {z z':AObj}
theorem xe (hne:om≠o) (ho:X[o]? = some z) (hm:X[om]? = some z') (hbp:X[bp]? = some (.cells 107 [.ptr o 0])) (hbm:X[bm]? = some (.cells 194 [.ptr om 0])) (n1:bp≠o) (n2:bp≠om) (n3:bm≠o) (n4:bm≠om) (hl:TokEnd L) (hll:L.length≤500000):sq L o om 231 [.ptr bm 0,.ptr bp 0] X (Va L):=
 fun m i hb _ hi=>(AR0 L m i o om bp bm (U2 L X o om i (mvO m)) hne (Ey ho hne) (Fm hm) ((He n1 n2).trans hbp) ((He n3 n4).trans hbm) hi hl hll hb).mono (fun c j r H' e=>⟨e.1,e.2.trans (K8 hne)⟩) (fun H' h=>ACx hne h)
theorem xf (hne:om≠o) (ho:X[o]? = some z) (hm:X[om]? = some z') (hbp:X[bp]? = some (.cells 107 [.ptr o 0])) (hbm:X[bm]? = some (.cells 194 [.ptr om 0])) (n1:bp≠o) (n2:bp≠om) (n3:bm≠o) (n4:bm≠om) (hl:TokEnd L) (hll:L.length≤500000):sq L o om 196 [.ptr bm 0,.ptr bp 0] X (Sw L):=
 fun m i hb _ hi=>(AR1 L m i o om bp bm (U2 L X o om i (mvO m)) hne (Ey ho hne) (Fm hm) ((He n1 n2).trans hbp) ((He n3 n4).trans hbm) hi hl hll hb).mono (fun c j r H' e=>⟨e.1,e.2.trans (K8 hne)⟩) (fun H' h=>ACx hne h)
theorem xg (hne:om≠o) (ho:X[o]? = some z) (hm:X[om]? = some z') (hbp:X[bp]? = some (.cells 107 [.ptr o 0])) (hbm:X[bm]? = some (.cells 194 [.ptr om 0])) (n1:bp≠o) (n2:bp≠om) (n3:bm≠o) (n4:bm≠om) (hl:TokEnd L) (hll:L.length≤500000):sq L o om 195 [.ptr bp 0,.ptr bm 0] X (Fb L):=
 fun m i hb _ hi=>(AR2 L m i o om bp bm (U2 L X o om i (mvO m)) hne (Ey ho hne) (Fm hm) ((He n1 n2).trans hbp) ((He n3 n4).trans hbm) hi hl hll hb).mono (fun c j r H' e=>⟨e.1,e.2.trans (K8 hne)⟩) (fun H' h=>ACx hne h)
end
attribute [go_sem] U2_len
theorem xh {L:List Tok} {Hp own:List AObj} {o om i n:Nat} {x z:AObj} (h:own[n]? = some z):(U2 L Hp o om i x++own)[oid Hp.length n]? = some z:=by
 unfold oid
 rw [List.getElem?_append_right (by rw [U2_len];omega),U2_len,Nat.add_sub_cancel_left]
 exact h
theorem K4 {n k o:Nat} (h:o<n):oid n k≠o:=by unfold oid;omega
theorem AGe (L:List Tok) (m:Mov) (i o om:Nat) (Hp:List AObj) (hne:om≠o) (ho:Hp[o]? = some (pmO L i)) (hm:Hp[om]? = some (mvO m)) (hi:i<L.length) (hl:TokEnd L) (hll:L.length≤500000) (hb:MvLe m (2*i)):CP 192 [.ptr o 0,.ptr om 0] Hp (G9 L m i) (fun m' j r H'=>r=Qd∧H'=U2 L Hp o om j (mvO m')) (W2 L o om Hp):=by
 refine ⟨fun hX=>?_⟩
 have hol:=(List.getElem?_eq_some_iff.1 ho).1
 have hml:=(List.getElem?_eq_some_iff.1 hm).1
 refine ACall.body [] [0,1] Tryz.func192 Tryz.ntmps192 (fun d=>?_)
 refine zr ?_;refine R.box ?_;refine Kc ?_;refine AA3 ?_
 rcases hW:D5 L ACw i with ⟨u,j⟩|⟨e,a⟩
 rotate_left
 ·exact (D4 hX (by first|exact by unfold G9;rw [hW];rfl|exact hW)).elim
 have hj:=Gq hl hi _ _ hW
 refine Z2 ?_;refine R.callUp (x:=pmO L j) Tryz.call153 (Ey ho hne) (by simp) En ((pk L ACw i o _ (Ag (Ey ho hne)) hi hll).ok hW) ?_
 rw [Fe hne]
 refine Kc ?_
 rcases hP:Ii L ((m.take.map Ac).length:Int) (Va L) m j with ⟨m2,k⟩|⟨e,a⟩
 rotate_left
 ·exact (D4 hX (by first|exact by unfold G9;rw [hW];show Ii L _ _ m j=_;rw [←hP,List.length_map]|exact hP)).elim
 refine W.drawQ0 [0,0,2,6,14,30,0,127] 7 Aj (by kernel_rfl) ?_;refine Ti ?_
 refine D.go (h:=Q.loadUp (Fm hm)) (hr:=?_)
 refine D.go ?_;refine D.makeFunc ?_;refine D.tail ?_
 refine R.callX (up':=U2 L Hp o om k (mvO m2)) (own':=[.cells 107 [.ptr o 0],.cells 194 [.ptr om 0]]) Tryz.call194 (((AJl L (((m.take.map Ac).length:Int)) m j o om 231 [.ptr (oid Hp.length 1) 0,.ptr (oid Hp.length 0) 0] (Va L) (U2 L Hp o om j (mvO m)++[.cells 107 [.ptr o 0],.cells 194 [.ptr om 0]]) hne (Ag (Ey ho hne)) (Ag (Fm hm)) (by omega) hj.2 hl hll (hb.mono (by omega)) Tryz.call231 (xe (z:=pmO L j) (z':=mvO m) hne (Ag (Ey ho hne)) (Ag (Fm hm)) (xh rfl) (xh rfl) (K4 hol) (K4 hml) (K4 hol) (K4 hml) hl hll) (lf hl hll)).ok hP).mono (fun r H' e=>⟨e.1,e.2.trans (by first|rw [F8 (by rw [U2_len];exact hol) (by rw [U2_len];exact hml),K8 hne]|rw [F8 hol hml])⟩)) (by first|rfl|rw [U2_len,U2_len]|rw [U2_len]) (fun h=>Il hne Gr h) ?_
 refine R.fin [] ?_;exact K.finN .nores (hp:=⟨m2,k,by unfold G9;rw [hW];show Ii L _ _ m j=_;rw [←hP,List.length_map],rfl,rfl⟩)

theorem cn {L:List Tok} {Hp:List AObj} {o om i:Nat} {m:Mov} {s:Str} {x:AObj}:(U2 L Hp o om i x).set om (.cells 80 [A3 m.kind,.slice true 1 [Ac s],.slice true 2 (m.give.map C0),.slice true 6 (m.ahead.map A7),.slice true 6 (m.back.map A7)])=U2 L Hp o om i (mvO (takeS m s)):=U2_setm
theorem sr {n:Nat} {x:Expr}:Low n (.slice true 6 [.agg (E4 x)]):=by
 have:=D3 (n:=n) (k:=6) (o:=true) (l:=[x])
 simp only [Br,Ec] at this
 rw [Al] at this
 exact this
theorem lh {n:Nat} {x:Expr}:Low n (.slice true 6 [A7 x]):=D3 (l:=[x])
theorem ACy {L:List Tok} {m m1:Mov} {i k:Nat} (h:Fb L m i=.ok m1 k):(m1.give.map C0)[0]? = some (C0 (m1.give.getD 0 ⟨[],0⟩)):=by
 obtain ⟨c,j,h1,h2⟩:=Yp h
 obtain ⟨u,j2,h3,h4⟩:=Yp h2
 obtain ⟨x,j3,h5,h6⟩:=Yp h4
 injection h6 with h6 h7
 subst h6
 show ((m.give++[c]).map C0)[0]? = some (C0 ((m.give++[c]).getD 0 ⟨[],0⟩))
 cases m.give<;>rfl
section
variable {L:List Tok} {m:Mov} {i:Nat}
theorem ACz (h1:(m.kind==1)=true):Ij L m i=Fb L m i:=if_pos h1
theorem pl (h1:(m.kind==1)=false) (h2:(m.kind==2)=true):Ij L m i=(Hl L i).bind fun s j=>G9 L (takeS m s) j:=by
 unfold Ij;rw [if_neg (by rw [h1];simp),if_pos h2]
theorem AD0 (h1:(m.kind==1)=false) (h2:(m.kind==2)=false) (h3:(m.kind==3)=true):Ij L m i=Kk L m i:=by
 unfold Ij;rw [if_neg (by rw [h1];simp),if_neg (by rw [h2];simp),if_pos h3]
theorem Yq (h1:(m.kind==1)=false) (h2:(m.kind==2)=false) (h3:(m.kind==3)=false) (h4:(m.kind==4)=true):Ij L m i=(Hl L i).bind fun s j=>(D5 L K7 j).bind fun _ j=>(Ii L 0 (Fb L) (takeS m s) j).bind fun m j=>G9 L m j:=by
 unfold Ij;rw [if_neg (by rw [h1];simp),if_neg (by rw [h2];simp),if_neg (by rw [h3];simp),if_pos h4]
theorem Yr (h1:(m.kind==1)=false) (h2:(m.kind==2)=false) (h3:(m.kind==3)=false) (h4:(m.kind==4)=false) (h5:(m.kind==5)=true):Ij L m i=(Ii L 0 (Sw L) m i).bind fun m j=>(D5 L K7 j).bind fun _ j=>(Fb L m j).bind fun m j=>G9 L m j:=by
 unfold Ij;rw [if_neg (by rw [h1];simp),if_neg (by rw [h2];simp),if_neg (by rw [h3];simp),if_neg (by rw [h4];simp),if_pos h5]
theorem pm (h1:(m.kind==1)=false) (h2:(m.kind==2)=false) (h3:(m.kind==3)=false) (h4:(m.kind==4)=false) (h5:(m.kind==5)=false) (h6:(m.kind==6)=true):Ij L m i=(Fb L m i).bind fun m j=>G9 L (takeS m (m.give.getD 0 ⟨[],0⟩).name) j:=by
 unfold Ij;rw [if_neg (by rw [h1];simp),if_neg (by rw [h2];simp),if_neg (by rw [h3];simp),if_neg (by rw [h4];simp),if_neg (by rw [h5];simp),if_pos h6]
theorem AJm (h1:(m.kind==1)=false) (h2:(m.kind==2)=false) (h3:(m.kind==3)=false) (h4:(m.kind==4)=false) (h5:(m.kind==5)=false) (h6:(m.kind==6)=false):Ij L m i=.ok m i:=by
 unfold Ij;rw [if_neg (by rw [h1];simp),if_neg (by rw [h2];simp),if_neg (by rw [h3];simp),if_neg (by rw [h4];simp),if_neg (by rw [h5];simp),if_neg (by rw [h6];simp)]
end
theorem AR3 (L:List Tok) (m:Mov) (i o om:Nat) (Hp:List AObj) (hne:om≠o) (ho:Hp[o]? = some (pmO L i)) (hm:Hp[om]? = some (mvO m)) (hi:i<L.length) (hl:TokEnd L) (hll:L.length≤500000) (hb:MvLe m (2*i-1)):CP 193 [.ptr o 0,.ptr om 0] Hp (Kk L m i) (fun m' j r H'=>r=Qd∧H'=U2 L Hp o om j (mvO m')) (W2 L o om Hp):=by
 refine ⟨fun hX=>?_⟩
 refine Ae [] [0,1] Tryz.func193 Tryz.ntmps193 (fun d=>?_)
 refine AA3 ?_
 rcases h1:Hl L i with ⟨s,j⟩|⟨e,a⟩
 rotate_left
 ·exact (D4 hX (by first|exact by unfold Kk;rw [h1];rfl|exact h1)).elim
 have hj:=Ik hl hi _ _ h1
 refine Z1 ?_;refine Ch (x:=pmO L j) Tryz.call191 (Ey ho hne) (by simp) En ((x9 L i o _ (Ag (Ey ho hne)) hi hll).ok h1) ?_
 rw [Fe hne]
 refine Tj ?_;refine Z0 ?_
 refine Fv jS (Fm hm) ?_ ?_
 ·simp [or_imp,forall_and]
 refine A2 [0,1] ?_;refine Rj (U2_setm (y:=.cells 80 [A3 m.kind,.slice true 1 ([Ac s]),.slice true 2 (m.give.map C0),.slice true 6 (m.ahead.map A7),.slice true 6 (m.back.map A7)])) ?_
 rcases h2:D5 L toW j with ⟨u,j2⟩|⟨e,a⟩
 rotate_left
 ·exact (D4 hX (by first|exact by unfold Kk;rw [h1];show (D5 L toW j).bind _=_;rw [h2];rfl|exact h2)).elim
 have hj2:=Gq hl hj.2 _ _ h2
 refine Z2 ?_;refine Ch (x:=pmO L j2) Tryz.call153 (Ey ho hne) (by simp) En ((pk L toW j o _ (Ag (Ey ho hne)) hj.2 hll).ok h2) ?_
 rw [Fe hne]
 refine A2 [0,1] ?_
 rcases h3:Hl L j2 with ⟨t,k⟩|⟨e,a⟩
 rotate_left
 ·exact (D4 hX (by first|exact by unfold Kk;rw [h1];show (D5 L toW j).bind _=_;rw [h2];show (Hl L j2).bind _=_;rw [h3];rfl|exact h3)).elim
 refine Z2 ?_;refine Ch (x:=pmO L k) Tryz.call191 (Ey ho hne) (by simp) En ((x9 L j2 o _ (Ag (Ey ho hne)) hj2.2 hll).ok h3) ?_
 rw [Fe hne]
 refine A5 ?_;refine A2 [1,4] ?_;refine AHs ?_;refine Tj ?_;refine Z0 ?_
 refine Fv jS (Fm hm) ?_ ?_
 ·simp [or_imp,forall_and]
 refine A2 [1,4] ?_;refine Rj (U2_setm (y:=.cells 80 [A3 m.kind,.slice true 1 ([Ac s]),.slice true 2 ([C0 ⟨t,0⟩]),.slice true 6 (m.ahead.map A7),.slice true 6 (m.back.map A7)])) ?_;refine Z22 ?_;refine Z13 ?_
 refine A5 (h:=B8 (Fm hm)) (hr:=?_)
 refine A5 (h:=Ai (0) (Ac s) (fun _=>rfl)) (hr:=?_)
 refine A5 ?_;refine Aa Tryz.call209 (AFd s _) ?_;refine Tj ?_;refine A5 ?_;refine Aa Tryz.call209 (AFd t _) ?_;refine Tj ?_;refine Z0 ?_
 refine Fv jS (Fm hm) ?_ ?_
 ·first|exact sr|exact lh
 rw [U2_setm]
 refine Z0 ?_
 refine Fv jS (Fm hm) ?_ ?_
 ·first|exact sr|exact lh
 rw [U2_setm]
 refine A2 [] ?_;exact Es .nores (hp:=⟨⟨m.kind,[s],[⟨t,0⟩],[Cm s],[Cm t]⟩,k,by unfold Kk;rw [h1];show (D5 L toW j).bind _=_;rw [h2];show (Hl L j2).bind _=_;rw [h3];rfl,rfl,by simp only [mvO,mvC,Br,Ec,Al]⟩)

theorem xi {L:List Tok} {Hp:List AObj} {o om i:Nat} {m:Mov} {c:Col} {x:AObj}:(U2 L Hp o om i x).set om (.cells 80 [A3 m.kind,.slice true 1 [Ac c.name],.slice true 2 (m.give.map C0),.slice true 6 (m.ahead.map A7),.slice true 6 (m.back.map A7)])=U2 L Hp o om i (mvO (takeS m c.name)):=U2_setm
theorem AR4 (L:List Tok) (m:Mov) (i o om:Nat) (Hp:List AObj) (hne:om≠o) (ho:Hp[o]? = some (pmO L i)) (hm:Hp[om]? = some (mvO m)) (hi:i<L.length) (hl:TokEnd L) (hll:L.length≤500000) (hb:MvLe m (2*i-1)) (h0:0<i):CP 152 [.ptr o 0,.ptr om 0] Hp (Ij L m i) (fun m' j r H'=>r=Qd∧H'=U2 L Hp o om j (mvO m')) (W2 L o om Hp):=by
 refine ⟨fun hX=>?_⟩
 have hol:=(Ad.1 ho).1
 have hml:=(Ad.1 hm).1
 refine Ae [] [0,1] Tryz.func152 Tryz.ntmps152 (fun d=>?_)
 refine zr ?_;refine R.box ?_;refine Kc ?_;refine AA3 ?_;refine Z15 ?_
 refine A5 (h:=B8 (Fm hm)) (hr:=?_)
 refine A2 [2,3,7] ?_;refine Vf ?_;refine A2 [2,3,7,8] ?_
 refine A4 (fun ht8=>?_) (fun ht8=>?_)
 ·rcases h1:Fb L m i with ⟨m1,k⟩|⟨e,a⟩
  rotate_left
  ·exact (D4 hX (by first|exact by rw [ACz ht8];rw [h1]|exact h1)).elim
  refine Z22 ?_
  refine Gv (up':=U2 L Hp o om k (mvO m1)) (own':=[.cells 107 [.ptr o 0],.cells 194 [.ptr om 0]]) Tryz.call190 (((AGd L m i o om (U2 L Hp o om i (mvO m)++[.cells 107 [.ptr o 0],.cells 194 [.ptr om 0]]) hne (Ag (Ey ho hne)) (Ag (Fm hm)) hi hl hll hb).ok h1).mono (fun r H' e=>⟨e.1,e.2.trans (by first|rw [F8 (by rw [U2_len];exact hol) (by rw [U2_len];exact hml),K8 hne]|rw [F8 hol hml])⟩)) (by first|rfl|rw [U2_len,U2_len]|rw [U2_len]) (fun h=>Il hne Gr h) ?_
  refine Z91 ?_;exact Es .nores (hp:=⟨m1,k,by rw [ACz ht8];rw [h1],rfl,rfl⟩)
 refine Z1 ?_;refine A2 [2,3,7,13] ?_
 refine A4 (fun ht13=>?_) (fun ht13=>?_)
 ·rcases h1:Hl L i with ⟨s,j⟩|⟨e,a⟩
  rotate_left
  ·exact (D4 hX (by first|exact by rw [pl ht8 ht13];rw [h1];rfl|exact h1)).elim
  have hj:=Ik hl hi _ _ h1
  refine Fc [0,0,2,6,15,31,63] [2] [.q 2 [] [],.s [17] (some 0) [] [],.s [18] none [0] []] (fun B=>U2 L Hp o om (if B 0=true then j else i) (mvO m)) (fun _=>[.cells 107 [.ptr o 0],.cells 194 [.ptr om 0]]) Aj (by kernel_rfl) rfl rfl (fun B=>by rw [U2_len];exact U2_len.symm) ?_
  apply Y.q
  ·intro B hT hF
   exact Z71
  case hTF=>decide
  refine N2 (r:=Ac s) (o:=o) (x0:=pmO L i) (x:=pmO L j) Tryz.call191 (fun B hB1 hB2 hB=>⟨by simp only [hB];exact Ey ho hne,(Fe hne).symm,rfl,En,?_⟩) ?_
  ·simp only [hB]
   exact (x9 L i o _ (Ag (Ey ho hne)) hi hll).ok h1
  refine AKp ?_;refine Z0 ?_
  refine Fv jS (Fm hm) ?_ ?_
  ·simp [or_imp,forall_and]
  refine Kc ?_;refine Rj (cn (m:=m) (s:=s)) ?_
  rcases h2:G9 L (takeS m s) j with ⟨m2,k⟩|⟨e,a⟩
  rotate_left
  ·exact (D4 hX (by first|exact by rw [pl ht8 ht13];rw [h1];show G9 L (takeS m s) j=_;rw [h2]|exact h2)).elim
  refine Z22 ?_
  refine Gv (up':=U2 L Hp o om k (mvO m2)) (own':=[.cells 107 [.ptr o 0],.cells 194 [.ptr om 0]]) Tryz.call192 (((AGe L (takeS m s) j o om (U2 L Hp o om j (mvO (takeS m s))++[.cells 107 [.ptr o 0],.cells 194 [.ptr om 0]]) hne (Ag (Ey ho hne)) (Ag (Fm hm)) hj.2 hl hll ((hb.mono (by omega:2*i-1≤2*j)).takeS (by omega))).ok h2).mono (fun r H' e=>⟨e.1,e.2.trans (by first|rw [F8 (by rw [U2_len];exact hol) (by rw [U2_len];exact hml),K8 hne]|rw [F8 hol hml])⟩)) (by first|rfl|rw [U2_len,U2_len]|rw [U2_len]) (fun h=>Il hne Gr h) ?_
  refine Z91 ?_;exact Es .nores (hp:=⟨m2,k,by rw [pl ht8 ht13];rw [h1];show G9 L (takeS m s) j=_;rw [h2],rfl,rfl⟩)
 refine Z1 ?_;refine A2 [2,3,7,24] ?_
 refine A4 (fun ht24=>?_) (fun ht24=>?_)
 ·rcases h1:Kk L m i with ⟨m1,k⟩|⟨e,a⟩
  rotate_left
  ·exact (D4 hX (by first|exact by rw [AD0 ht8 ht13 ht24];rw [h1]|exact h1)).elim
  refine Z22 ?_
  refine Gv (up':=U2 L Hp o om k (mvO m1)) (own':=[.cells 107 [.ptr o 0],.cells 194 [.ptr om 0]]) Tryz.call193 (((AR3 L m i o om (U2 L Hp o om i (mvO m)++[.cells 107 [.ptr o 0],.cells 194 [.ptr om 0]]) hne (Ag (Ey ho hne)) (Ag (Fm hm)) hi hl hll hb).ok h1).mono (fun r H' e=>⟨e.1,e.2.trans (by first|rw [F8 (by rw [U2_len];exact hol) (by rw [U2_len];exact hml),K8 hne]|rw [F8 hol hml])⟩)) (by first|rfl|rw [U2_len,U2_len]|rw [U2_len]) (fun h=>Il hne Gr h) ?_
  refine Z91 ?_;exact Es .nores (hp:=⟨m1,k,by rw [AD0 ht8 ht13 ht24];rw [h1],rfl,rfl⟩)
 refine Z1 ?_;refine A2 [2,3,7,29] ?_
 refine A4 (fun ht29=>?_) (fun ht29=>?_)
 ·rcases h1:Hl L i with ⟨s,j⟩|⟨e,a⟩
  rotate_left
  ·exact (D4 hX (by first|exact by rw [Yq ht8 ht13 ht24 ht29];rw [h1];rfl|exact h1)).elim
  have hj:=Ik hl hi _ _ h1
  refine Fc [0,0,2,6,15,31,63] [2] [.q 2 [] [],.s [33] (some 0) [] [],.s [34] none [0] []] (fun B=>U2 L Hp o om (if B 0=true then j else i) (mvO m)) (fun _=>[.cells 107 [.ptr o 0],.cells 194 [.ptr om 0]]) Aj (by kernel_rfl) rfl rfl (fun B=>by rw [U2_len];exact U2_len.symm) ?_
  apply Y.q
  ·intro B hT hF
   exact Z71
  case hTF=>decide
  refine N2 (r:=Ac s) (o:=o) (x0:=pmO L i) (x:=pmO L j) Tryz.call191 (fun B hB1 hB2 hB=>⟨by simp only [hB];exact Ey ho hne,(Fe hne).symm,rfl,En,?_⟩) ?_
  ·simp only [hB]
   exact (x9 L i o _ (Ag (Ey ho hne)) hi hll).ok h1
  refine AKp ?_;refine Z0 ?_
  refine Fv jS (Fm hm) ?_ ?_
  ·simp [or_imp,forall_and]
  refine Kc ?_;refine Rj (cn (m:=m) (s:=s)) ?_
  rcases h2:D5 L K7 j with ⟨u,j2⟩|⟨e,a⟩
  rotate_left
  ·exact (D4 hX (by first|exact by rw [Yq ht8 ht13 ht24 ht29];rw [h1];show (D5 L K7 j).bind _=_;rw [h2];rfl|exact h2)).elim
  have hj2:=Gq hl hj.2 _ _ h2
  refine Z2 ?_;refine Ch (x:=pmO L j2) Tryz.call153 (Ey ho hne) (by simp) En ((pk L K7 j o _ (Ag (Ey ho hne)) hj.2 hll).ok h2) ?_
  rw [Fe hne]
  refine Kc ?_
  rcases h3:Ii L 0 (Fb L) (takeS m s) j2 with ⟨m1,j3⟩|⟨e,a⟩
  rotate_left
  ·exact (D4 hX (by first|exact by rw [Yq ht8 ht13 ht24 ht29];rw [h1];show (D5 L K7 j).bind _=_;rw [h2];show (Ii L 0 (Fb L) (takeS m s) j2).bind _=_;rw [h3];rfl|exact h3)).elim
  have hj3:=Sy hl (Lz hl hll) (takeS m s) j2 ((hb.mono (by omega:2*i-1≤2*j2-1)).takeS (by omega)) (by omega) hj2.2 _ _ h3
  refine Z2 ?_;refine Ia ?_
  refine Gv (up':=U2 L Hp o om j3 (mvO m1)) (own':=[.cells 107 [.ptr o 0],.cells 194 [.ptr om 0]]) Tryz.call194 (((AJl L (0) (takeS m s) j2 o om 195 [.ptr (oid Hp.length 0) 0,.ptr (oid Hp.length 1) 0] (Fb L) (U2 L Hp o om j2 (mvO (takeS m s))++[.cells 107 [.ptr o 0],.cells 194 [.ptr om 0]]) hne (Ag (Ey ho hne)) (Ag (Fm hm)) (by omega) hj2.2 hl hll ((hb.mono (by omega:2*i-1≤2*j2-1)).takeS (by omega)) Tryz.call195 (xg (z:=pmO L j2) (z':=mvO (takeS m s)) hne (Ag (Ey ho hne)) (Ag (Fm hm)) (xh rfl) (xh rfl) (K4 hol) (K4 hml) (K4 hol) (K4 hml) hl hll) (Lz hl hll)).ok h3).mono (fun r H' e=>⟨e.1,e.2.trans (by first|rw [F8 (by rw [U2_len];exact hol) (by rw [U2_len];exact hml),K8 hne]|rw [F8 hol hml])⟩)) (by first|rfl|rw [U2_len,U2_len]|rw [U2_len]) (fun h=>Il hne Gr h) ?_
  refine Kc ?_
  rcases h4:G9 L m1 j3 with ⟨m2,k⟩|⟨e,a⟩
  rotate_left
  ·exact (D4 hX (by first|exact by rw [Yq ht8 ht13 ht24 ht29];rw [h1];show (D5 L K7 j).bind _=_;rw [h2];show (Ii L 0 (Fb L) (takeS m s) j2).bind _=_;rw [h3];show G9 L m1 j3=_;rw [h4]|exact h4)).elim
  refine Z22 ?_
  refine Gv (up':=U2 L Hp o om k (mvO m2)) (own':=[.cells 107 [.ptr o 0],.cells 194 [.ptr om 0]]) Tryz.call192 (((AGe L m1 j3 o om (U2 L Hp o om j3 (mvO m1)++[.cells 107 [.ptr o 0],.cells 194 [.ptr om 0]]) hne (Ag (Ey ho hne)) (Ag (Fm hm)) hj3.2.1 hl hll hj3.2.2).ok h4).mono (fun r H' e=>⟨e.1,e.2.trans (by first|rw [F8 (by rw [U2_len];exact hol) (by rw [U2_len];exact hml),K8 hne]|rw [F8 hol hml])⟩)) (by first|rfl|rw [U2_len,U2_len]|rw [U2_len]) (fun h=>Il hne Gr h) ?_
  refine Z91 ?_;exact Es .nores (hp:=⟨m2,k,by rw [Yq ht8 ht13 ht24 ht29];rw [h1];show (D5 L K7 j).bind _=_;rw [h2];show (Ii L 0 (Fb L) (takeS m s) j2).bind _=_;rw [h3];show G9 L m1 j3=_;rw [h4],rfl,rfl⟩)
 refine Z1 ?_;refine A2 [2,3,7,45] ?_
 refine A4 (fun ht45=>?_) (fun ht45=>?_)
 ·rcases h1:Ii L 0 (Sw L) m i with ⟨m1,j⟩|⟨e,a⟩
  rotate_left
  ·exact (D4 hX (by first|exact by rw [Yr ht8 ht13 ht24 ht29 ht45];rw [h1];rfl|exact h1)).elim
  have hj:=Sy hl (Yo hl) m i hb h0 hi _ _ h1
  refine Z2 ?_;refine Ia ?_
  refine Gv (up':=U2 L Hp o om j (mvO m1)) (own':=[.cells 107 [.ptr o 0],.cells 194 [.ptr om 0]]) Tryz.call194 (((AJl L (0) m i o om 196 [.ptr (oid Hp.length 1) 0,.ptr (oid Hp.length 0) 0] (Sw L) (U2 L Hp o om i (mvO m)++[.cells 107 [.ptr o 0],.cells 194 [.ptr om 0]]) hne (Ag (Ey ho hne)) (Ag (Fm hm)) h0 hi hl hll hb Tryz.call196 (xf (z:=pmO L i) (z':=mvO m) hne (Ag (Ey ho hne)) (Ag (Fm hm)) (xh rfl) (xh rfl) (K4 hol) (K4 hml) (K4 hol) (K4 hml) hl hll) (Yo hl)).ok h1).mono (fun r H' e=>⟨e.1,e.2.trans (by first|rw [F8 (by rw [U2_len];exact hol) (by rw [U2_len];exact hml),K8 hne]|rw [F8 hol hml])⟩)) (by first|rfl|rw [U2_len,U2_len]|rw [U2_len]) (fun h=>Il hne Gr h) ?_
  refine Kc ?_
  rcases h2:D5 L K7 j with ⟨u,j2⟩|⟨e,a⟩
  rotate_left
  ·exact (D4 hX (by first|exact by rw [Yr ht8 ht13 ht24 ht29 ht45];rw [h1];show (D5 L K7 j).bind _=_;rw [h2];rfl|exact h2)).elim
  have hj2:=Gq hl hj.2.1 _ _ h2
  have hj2e:=Nm h2
  refine Z2 ?_;refine Ch (x:=pmO L j2) Tryz.call153 (Ey ho hne) (by simp) En ((pk L K7 j o _ (Ag (Ey ho hne)) hj.2.1 hll).ok h2) ?_
  rw [Fe hne]
  refine Kc ?_
  rcases h3:Fb L m1 j2 with ⟨m2,j3⟩|⟨e,a⟩
  rotate_left
  ·exact (D4 hX (by first|exact by rw [Yr ht8 ht13 ht24 ht29 ht45];rw [h1];show (D5 L K7 j).bind _=_;rw [h2];show (Fb L m1 j2).bind _=_;rw [h3];rfl|exact h3)).elim
  have hj3:=Lz hl hll m1 j2 (hj.2.2.mono (by omega)) (by omega) hj2.2 _ _ h3
  refine Z1 ?_
  refine Gv (up':=U2 L Hp o om j3 (mvO m2)) (own':=[.cells 107 [.ptr o 0],.cells 194 [.ptr om 0]]) Tryz.call190 (((AGd L m1 j2 o om (U2 L Hp o om j2 (mvO m1)++[.cells 107 [.ptr o 0],.cells 194 [.ptr om 0]]) hne (Ag (Ey ho hne)) (Ag (Fm hm)) hj2.2 hl hll (hj.2.2.mono (by omega))).ok h3).mono (fun r H' e=>⟨e.1,e.2.trans (by first|rw [F8 (by rw [U2_len];exact hol) (by rw [U2_len];exact hml),K8 hne]|rw [F8 hol hml])⟩)) (by first|rfl|rw [U2_len,U2_len]|rw [U2_len]) (fun h=>Il hne Gr h) ?_
  refine Kc ?_
  rcases h4:G9 L m2 j3 with ⟨m3,k⟩|⟨e,a⟩
  rotate_left
  ·exact (D4 hX (by first|exact by rw [Yr ht8 ht13 ht24 ht29 ht45];rw [h1];show (D5 L K7 j).bind _=_;rw [h2];show (Fb L m1 j2).bind _=_;rw [h3];show G9 L m2 j3=_;rw [h4]|exact h4)).elim
  refine Z22 ?_
  refine Gv (up':=U2 L Hp o om k (mvO m3)) (own':=[.cells 107 [.ptr o 0],.cells 194 [.ptr om 0]]) Tryz.call192 (((AGe L m2 j3 o om (U2 L Hp o om j3 (mvO m2)++[.cells 107 [.ptr o 0],.cells 194 [.ptr om 0]]) hne (Ag (Ey ho hne)) (Ag (Fm hm)) hj3.2.1 hl hll hj3.2.2).ok h4).mono (fun r H' e=>⟨e.1,e.2.trans (by first|rw [F8 (by rw [U2_len];exact hol) (by rw [U2_len];exact hml),K8 hne]|rw [F8 hol hml])⟩)) (by first|rfl|rw [U2_len,U2_len]|rw [U2_len]) (fun h=>Il hne Gr h) ?_
  refine Z91 ?_;exact Es .nores (hp:=⟨m3,k,by rw [Yr ht8 ht13 ht24 ht29 ht45];rw [h1];show (D5 L K7 j).bind _=_;rw [h2];show (Fb L m1 j2).bind _=_;rw [h3];show G9 L m2 j3=_;rw [h4],rfl,rfl⟩)
 refine Z1 ?_;refine A2 [2,3,58] ?_
 refine A4 (fun ht58=>?_) (fun ht58=>?_)
 ·rcases h1:Fb L m i with ⟨m1,j⟩|⟨e,a⟩
  rotate_left
  ·exact (D4 hX (by first|exact by rw [pm ht8 ht13 ht24 ht29 ht45 ht58];rw [h1];rfl|exact h1)).elim
  have hj:=Lz hl hll m i hb h0 hi _ _ h1
  refine Z1 ?_
  refine Gv (up':=U2 L Hp o om j (mvO m1)) (own':=[.cells 107 [.ptr o 0],.cells 194 [.ptr om 0]]) Tryz.call190 (((AGd L m i o om (U2 L Hp o om i (mvO m)++[.cells 107 [.ptr o 0],.cells 194 [.ptr om 0]]) hne (Ag (Ey ho hne)) (Ag (Fm hm)) hi hl hll hb).ok h1).mono (fun r H' e=>⟨e.1,e.2.trans (by first|rw [F8 (by rw [U2_len];exact hol) (by rw [U2_len];exact hml),K8 hne]|rw [F8 hol hml])⟩)) (by first|rfl|rw [U2_len,U2_len]|rw [U2_len]) (fun h=>Il hne Gr h) ?_
  refine Kc ?_;refine Fc [0,0,2,6,14,30,62,126,254,511,1023,2047] [] [.q 8 [] [],.s [71] none [] []] (fun _=>U2 L Hp o om j (mvO m1)) (fun _=>[.cells 107 [.ptr o 0],.cells 194 [.ptr om 0]]) Aj (by kernel_rfl) rfl rfl (fun B=>rfl) ?_
  apply Y.q
  ·intro B hT hF
   refine Ti ?_
   refine Aq (h:=B8 (Fm hm)) (hr:=?_)
   refine Aq (h:=Ai (0) (C0 (m1.give.getD 0 ⟨[],0⟩)) (fun _=>ACy h1)) (hr:=?_)
   exact Z71
  case hTF=>decide
  refine Y.buildSlice jU Tryz.sizeOf9 Tryz.zeroValue9 ?_;refine Ed (tn:=[]) (U:=U2 L Hp o om j (mvO m1)) ?_;refine Z0 ?_
  refine Fv jS (Fm hm) ?_ ?_
  ·simp [or_imp,forall_and]
  refine Kc ?_;refine Rj (xi (m:=m1) (c:=m1.give.getD 0 ⟨[],0⟩)) ?_
  rcases h2:G9 L (takeS m1 (m1.give.getD 0 ⟨[],0⟩).name) j with ⟨m2,k⟩|⟨e,a⟩
  rotate_left
  ·exact (D4 hX (by first|exact by rw [pm ht8 ht13 ht24 ht29 ht45 ht58];rw [h1];show G9 L (takeS m1 (m1.give.getD 0 ⟨[],0⟩).name) j=_;rw [h2]|exact h2)).elim
  refine Z22 ?_
  refine Gv (up':=U2 L Hp o om k (mvO m2)) (own':=[.cells 107 [.ptr o 0],.cells 194 [.ptr om 0]]) Tryz.call192 (((AGe L (takeS m1 (m1.give.getD 0 ⟨[],0⟩).name) j o om (U2 L Hp o om j (mvO (takeS m1 (m1.give.getD 0 ⟨[],0⟩).name))++[.cells 107 [.ptr o 0],.cells 194 [.ptr om 0]]) hne (Ag (Ey ho hne)) (Ag (Fm hm)) hj.2.1 hl hll (hj.2.2.takeS (by omega))).ok h2).mono (fun r H' e=>⟨e.1,e.2.trans (by first|rw [F8 (by rw [U2_len];exact hol) (by rw [U2_len];exact hml),K8 hne]|rw [F8 hol hml])⟩)) (by first|rfl|rw [U2_len,U2_len]|rw [U2_len]) (fun h=>Il hne Gr h) ?_
  refine Z91 ?_;exact Es .nores (hp:=⟨m2,k,by rw [pm ht8 ht13 ht24 ht29 ht45 ht58];rw [h1];show G9 L (takeS m1 (m1.give.getD 0 ⟨[],0⟩).name) j=_;rw [h2],rfl,rfl⟩)
 refine uh ?_;exact Es .nores (hp:=⟨m,i,AJm ht8 ht13 ht24 ht29 ht45 ht58,rfl,rfl⟩)

def ANo:Str:=[32,97,100,100,32,100,114,111,112,32,114,101,110,97,109,101,32,115,112,108,105,116,32,109,101,114,103,101,32,114,101,116,121,112,101]
theorem xj:Ok ANo [32]=migWords:=by kernel_rfl
theorem AR5 (k:Int) (Hp:List AObj):AFun Tryz.prog 189 [A3 k] Hp (Ac (Et k)):=by
 refine Ae [.tmp 2] [0] Tryz.func189 Tryz.ntmps189 (fun d=>?_)
 refine mz ?_;refine io ?_;refine A2 [0,8] ?_
 refine A4 (fun ht8=>?_) (fun ht8=>?_)
 ·have hm:Et k=[]:=if_pos ht8
  refine Z58 ?_;exact Z46
 have hm:Et k=migWords.getD k.toNat []:=if_neg (by rw [ht8];simp)
 refine il ?_;refine Aa Tryz.call141 (AI9 ANo [32] (by decide) (by decide) _) ?_
 rw [xj]
 refine A5 ?_
 have hk:1≤k∧k≤6:=by simp at ht8;omega
 have hget:(migWords.map Ac)[k.toNat]? = some (Ac (migWords.getD k.toNat [])):=by
  have hlt:k.toNat<migWords.length:=by show k.toNat<7;omega
  rw [Bz,Ab hlt,Bw,Ab hlt]
  rfl
 refine A5 (h:=Ai (k.toNat) (Ac (migWords.getD k.toNat [])) (fun _=>hget)) (hr:=?_)
 refine Z65 ?_;exact AA0

theorem xk {s:Str} {x:Nat} (h:∀j:Nat,j<x→(Et ((j:Int)+1)==s)=false) (hx:x<6) (he:(Et ((x:Int)+1)==s)=true):Hq s=(x:Int)+1:=by
 have a:∀j:Nat,j<x→∀k:Int,k=(j:Int)+1→(Et k==s)=false:=fun j hj k e=>by rw [e];exact h j hj
 have b:∀k:Int,k=(x:Int)+1→(Et k==s)=true:=fun k e=>by rw [e];exact he
 have h6:x=0∨x=1∨x=2∨x=3∨x=4∨x=5:=by omega
 unfold Hq
 rcases h6 with rfl|rfl|rfl|rfl|rfl|rfl
 ·rw [if_pos (b 1 rfl)];rfl
 ·rw [if_neg (by rw [a 0 (by omega) 1 rfl];simp),if_pos (b 2 rfl)];rfl
 ·rw [if_neg (by rw [a 0 (by omega) 1 rfl];simp),if_neg (by rw [a 1 (by omega) 2 rfl];simp),if_pos (b 3 rfl)];rfl
 ·rw [if_neg (by rw [a 0 (by omega) 1 rfl];simp),if_neg (by rw [a 1 (by omega) 2 rfl];simp),if_neg (by rw [a 2 (by omega) 3 rfl];simp),if_pos (b 4 rfl)];rfl
 ·rw [if_neg (by rw [a 0 (by omega) 1 rfl];simp),if_neg (by rw [a 1 (by omega) 2 rfl];simp),if_neg (by rw [a 2 (by omega) 3 rfl];simp),if_neg (by rw [a 3 (by omega) 4 rfl];simp),if_pos (b 5 rfl)];rfl
 rw [if_neg (by rw [a 0 (by omega) 1 rfl];simp),if_neg (by rw [a 1 (by omega) 2 rfl];simp),if_neg (by rw [a 2 (by omega) 3 rfl];simp),if_neg (by rw [a 3 (by omega) 4 rfl];simp),if_neg (by rw [a 4 (by omega) 5 rfl];simp),if_pos (b 6 rfl)];rfl
theorem li {s:Str} {x:Nat} (h:∀j:Nat,j<x→(Et ((j:Int)+1)==s)=false) (he:(Et ((x:Int)+1)==s)=false):∀j:Nat,j<x+1→(Et ((j:Int)+1)==s)=false:=fun j hj=>by
 rcases Bk j x with h1|h1
 ·exact h j h1
 rw [show j=x by omega];exact he
theorem xl {s:Str} {x:Nat} (h:∀j:Nat,j<x→(Et ((j:Int)+1)==s)=false) (hx:6≤x):Hq s=0:=by
 have a:∀j:Nat,j<6→∀k:Int,k=(j:Int)+1→(Et k==s)=false:=fun j hj k e=>by rw [e];exact h j (by omega)
 unfold Hq
 rw [if_neg (by rw [a 0 (by omega) 1 rfl];simp),if_neg (by rw [a 1 (by omega) 2 rfl];simp),if_neg (by rw [a 2 (by omega) 3 rfl];simp),if_neg (by rw [a 3 (by omega) 4 rfl];simp),if_neg (by rw [a 4 (by omega) 5 rfl];simp),if_neg (by rw [a 5 (by omega) 6 rfl];simp)]
theorem AR6 (s:Str) (Hp:List AObj):AFun Tryz.prog 151 [Ac s] Hp (A3 (Hq s)):=by
 refine Ae [.tmp 2] [0] Tryz.func151 Tryz.ntmps151 (fun d=>?_)
 refine Z43 ?_;refine Z30 ?_;refine Nv ?_
 refine Bf (α:=Nat) (fun x=>⟨13,A6 0 (Ac s) (A6 3 (A3 ((x:Nat)+1)) (fun _=>.any)),Hp,[],[],none⟩) (fun x=>∀j:Nat,j<x→(Et ((j:Int)+1)==s)=false) (fun x=>6-x) (0) (fun j h=>by omega) (Kt _) rfl (fun x hx=>?_)
 refine Z7 ?_;refine A2 [0,3,5] ?_
 refine A4 (fun ht5=>?_) (fun ht5=>?_)
 ·have hx6:x<6:=by simp at ht5;omega
  refine Oh ?_;refine Z2 ?_;refine Aa Tryz.call189 (AR5 _ _) ?_;refine Z0 ?_;refine A2 [0,3,11] ?_
  refine A4 (fun ht11=>?_) (fun ht11=>?_)
  ·refine Z1 ?_;refine Z4 ?_;refine Z62 ?_;exact A8 (Ak A9) ⟨by rw [xk hx hx6 ht11],rfl⟩
  refine ef ?_;refine Nv ?_
  refine Bg (x+1) (li hx ht11) (by omega) (Dn rfl)
 have hx6:6≤x:=by simp at ht5;omega
 refine Pu ?_;refine Z58 ?_;exact A8 (Ak A9) ⟨by rw [xl hx hx6],rfl⟩

theorem AJn {L:List Tok} {Hp own:List AObj} {o i n:Nat} {x:AObj} (h1:o<Hp.length):U2 L (Hp++own) o (oid Hp.length n) i x=Hp.set o (pmO L i)++own.set n x:=by
 unfold U2 oid
 rw [K9 _ _ h1,Vj,if_neg (by simp),Dh,Pe]
theorem AD1 {L:List Tok} {Hp:List AObj} {o i j n:Nat} (h:∀z∈Hp.set o (pmO L i),ObjLow n z):∀z∈Hp.set o (pmO L j),ObjLow n z:=by
 intro z hz
 rw [show Hp.set o (pmO L j)=(Hp.set o (pmO L i)).set o (pmO L j) by rw [Bu]] at hz
 rcases Ln hz with hz|rfl
 ·exact h z hz
 exact En
theorem AR7 (L:List Tok) (i o:Nat) (Hp:List AObj) (ho:Hp[o]? = some (pmO L i)) (hi:i<L.length) (hl:TokEnd L) (hll:L.length≤500000):CP 117 [.ptr o 0] Hp (P9 L i) (fun m j r H'=>r=Jo m∧H'=Hp.set o (pmO L j)) (W1 L o Hp):=by
 refine ⟨fun hX=>?_⟩
 have hol:=(Ad.1 ho).1
 have hne:oid Hp.length 2≠o:=by unfold oid;omega
 refine Ae [.cell 2 80] [0] Tryz.func117 Tryz.ntmps117 (fun d=>?_)
 refine Z63 ?_;refine AHw ?_;refine ic ?_;refine Z1 ?_;refine Aa Tryz.call151 (AR6 (Af L i).text _) ?_;refine Ob (places:=#[(0,1),(1,1),(2,1),(3,1),(4,1)]) jU (fun w=>by simp) jZ ?_;refine Z14 ?_;refine A2 [0,2,3,4] ?_;refine Z54 ?_;refine Gw 2 1 1 ?_;refine Gw 2 2 2 ?_;refine Gw 2 3 6 ?_;refine Gw 2 4 6 ?_;refine Z0 ?_;refine Z35 ?_;refine Z48 ?_;refine A2 [0,2,4,18] ?_
 refine A4 (fun ht18=>?_) (fun ht18=>?_)
 ·have e:P9 L i=.bad 8 (Af L i).at_:=if_pos ht18
  exact AA2
 have e0:P9 L i=(Ij L (⟨Hq (Af L i).text,[],[],[],[]⟩:Mov) (i+1)).bind fun m j=>(D5 L [59] j).bind fun _ j=>.ok m j:=if_neg (by rw [ht18];simp)
 have hi1:i+1<L.length:=hl.step hi (by simp only [E1,bne_eq_false_iff_eq] at ht18;rw [ht18.1];decide)
 refine Qy ?_
 refine A5 (h:=B8 ho) (hr:=?_)
 refine Z13 ?_
 refine Cq jS ho ?_ ?_
 ·simp
 refine A2 [0,2,4] ?_
 rcases hR:Ij L (⟨Hq (Af L i).text,[],[],[],[]⟩:Mov) (i+1) with ⟨m1,k⟩|⟨e,a⟩
 rotate_left
 ·exact (D4 hX (by first|exact by rw [e0];rw [hR];rfl|exact hR)).elim
 have hk:=so hl hll (⟨Hq (Af L i).text,[],[],[],[]⟩:Mov) (i+1) ⟨Ar _,Ar _,Ar _,Ar _⟩ (by omega) hi1 _ _ hR
 refine Z2 ?_
 refine Gv (up':=Hp.set o (pmO L k)) (own':=[.cells 80 [A3 0,.nil,.nil,.nil,.nil],.cells 118 [.v (.int .i64 (Af L i).kind),.v (sv (Af L i).text),.v (.int .i64 ((Af L i).at_:Int))],mvO m1]) Tryz.call152 (((AR4 L (⟨Hq (Af L i).text,[],[],[],[]⟩:Mov) (i+1) o (oid Hp.length 2) (Hp.set o (pmO L (i+1))++[.cells 80 [A3 0,.nil,.nil,.nil,.nil],.cells 118 [.v (.int .i64 (Af L i).kind),.v (sv (Af L i).text),.v (.int .i64 ((Af L i).at_:Int))],mvO (⟨Hq (Af L i).text,[],[],[],[]⟩:Mov)]) hne (by rw [Dr (by simpa using hol)];exact getset ho) (by unfold oid;rw [Ds (by simp)];simp) hi1 hl hll ⟨Ar _,Ar _,Ar _,Ar _⟩ (by omega)).ok hR).mono (fun r H' e=>⟨e.1,e.2.trans (by rw [show oid Hp.length 2=oid (Hp.set o (pmO L (i+1))).length 2 by simp];rw [AJn (by simpa using hol),Bu];rfl)⟩)) (by simp) (fun h=>by simpa using AD1 h) ?_
 refine A2 [0,2,4] ?_
 rcases hW:D5 L [59] k with ⟨u,j2⟩|⟨e,a⟩
 rotate_left
 ·exact (D4 hX (by first|exact by rw [e0];rw [hR];show (D5 L [59] k).bind _=_;rw [hW];rfl|exact hW)).elim
 refine Z2 ?_;refine Ch (x:=pmO L j2) Tryz.call153 (getset ho) (by simp) En ((pk L [59] k o _ (Ag (getset ho)) hk.2.1 hll).ok hW) ?_
 rw [Bu]
 refine A2 [2,4] ?_;refine Z2 ?_;refine Z39 ?_;exact A8 (Ak (B3 jA jS)) (hp:=⟨m1,j2,by rw [e0];rw [hR];show (D5 L [59] k).bind _=_;rw [hW];rfl,rfl,rfl⟩) (hlow:=kg)

/-- What mig.parser.moves comes to: the moves, or none and the fault. -/
def Rl (L:List Tok):List Mov×Int×Int:=match K3 L with
 | .ok l _=>(l,0,0)
 | .bad e a=>([],e,a)
abbrev ga (L:List Tok):AV:=.tup [Gm (Rl L).1,.agg [A3 (Rl L).2.1,A3 (Rl L).2.2]]
theorem AGf {fc:Func} {r0 crest:Code} (hf:Tryz.prog.funcs[114]? = some fc) (hb:fc.body=some (.seq r0 crest)) (d a b:Nat) (H:List AObj):AW Tryz.prog (d+1) crest ⟨8,A6 2 (.v .nilIface) (A6 3 (.v .nilIface) (Go.SX.argsF [.ptr a 0,.ptr b 0])),H,[],[],none⟩ (fun e s2=>(e=.normal∨e=.ret)∧s2.defs=[]∧s2.up=H):=by
 have e:=Tryz.func114.symm.trans hf
 injection e with e
 subst e
 injection hb with hb
 injection hb with h1 h2
 subst h2
 refine ae [0,1,2] (by simp only [go_sem,↓reduceIte,Nat.reduceEqDiff,Nat.reduceAdd]<;>rfl) ?_
 refine Z2 ?_;refine R.neqNil0 jU ?_;refine A2 [0,1,2,5] ?_
 refine A4 (fun ht5=>?_) (fun ht5=>?_)
 ·cases ht5
 refine Mw ?_;exact ⟨.inl rfl,rfl,rfl⟩

/-- Where the loop of moves stands. -/
structure MovAt (L:List Tok) (x:List Mov×Nat):Prop where
 lt:x.2<L.length
 le:x.1.length≤8
 at_:K3 L=Nl L (9-x.1.length) x.1 x.2
theorem AGg {L:List Tok} (hl:TokEnd L) (hll:L.length≤500000) {i:Nat} (hi:i<L.length) {m:Mov} {j:Nat} (h:P9 L i=.ok m j):i<j∧j<L.length:=by
 unfold P9 at h
 split at h
 ·cases h
 rename_i h0
 have hi1:i+1<L.length:=hl.step hi (by
  simp only [Dq,not_or,Qf,bne_eq_false_iff_eq] at h0
  rw [h0.1];decide)
 obtain ⟨m1,k,h1,h2⟩:=Yp h
 obtain ⟨u,j2,h3,h4⟩:=Yp h2
 injection h4 with h5 h6
 subst h6
 obtain ⟨a1,a2,_⟩:=so hl hll _ (i+1) ⟨Ar _,Ar _,Ar _,Ar _⟩ (by omega) hi1 _ _ h1
 obtain ⟨b1,b2⟩:=Gq hl a2 _ _ h3
 exact ⟨by omega,b2⟩
theorem Pa {L:List Tok} {l:List Mov} {i:Nat} (hl:l.length≤8):Nl L (9-l.length) l i=if (Af L i).kind != 0 then (if (l.length:Int)==8 then ck L i 3 else (P9 L i).bind fun m j=>Nl L (8-l.length) (l++[m]) j) else .ok l i:=by
 rw [show 9-l.length=(8-l.length)+1 by omega,Nl]
theorem MovAt.out {L:List Tok} {x:List Mov×Nat} (h:MovAt L x) (hk:((Af L x.2).kind != 0)=false):K3 L=.ok x.1 x.2:=by
 rw [h.at_,Pa h.le,if_neg (by rw [hk];simp)]
theorem MovAt.long {L:List Tok} {x:List Mov×Nat} (h:MovAt L x) (hk:((Af L x.2).kind != 0)=true) (h8:((x.1.length:Int)==8)=true):K3 L=.bad 3 (Af L x.2).at_:=by
 rw [h.at_,Pa h.le,if_pos hk,if_pos h8];rfl
theorem MovAt.step {L:List Tok} {x:List Mov×Nat} (h:MovAt L x) (hk:((Af L x.2).kind != 0)=true) (h8:((x.1.length:Int)==8)=false):K3 L=(P9 L x.2).bind fun m j=>Nl L (8-x.1.length) (x.1++[m]) j:=by
 rw [h.at_,Pa h.le,if_pos hk,if_neg (by rw [h8];simp)]
theorem MovAt.bad {L:List Tok} {x:List Mov×Nat} (h:MovAt L x) (hk:((Af L x.2).kind != 0)=true) (h8:((x.1.length:Int)==8)=false) {e a:Int} (hM:P9 L x.2=.bad e a):K3 L=.bad e a:=by
 rw [h.step hk h8,hM];rfl
theorem MovAt.on {L:List Tok} (hl:TokEnd L) (hll:L.length≤500000) {x:List Mov×Nat} (h:MovAt L x) (hk:((Af L x.2).kind != 0)=true) (h8:((x.1.length:Int)==8)=false) {m:Mov} {j:Nat} (hM:P9 L x.2=.ok m j):MovAt L (x.1++[m],j)∧x.2<j:=by
 obtain ⟨a1,a2⟩:=AGg hl hll h.lt hM
 have h1:x.1.length≤7:=by
  have:=h.le
  simp only [beq_eq_false_iff_ne,ne_eq] at h8
  omega
 refine ⟨⟨a2,by show (x.1++[m]).length≤8;simp;omega,?_⟩,a1⟩
 rw [h.step hk h8,hM]
 show Nl L (8-x.1.length) (x.1++[m]) j=Nl L (9-(x.1++[m]).length) (x.1++[m]) j
 rw [show 9-(x.1++[m]).length=8-x.1.length by rw [Av,J7];omega]
theorem xm {L:List Tok} {l:List Mov} {i:Nat} (h:K3 L=.ok l i):ga L=.tup [Gm l,.agg [A3 0,A3 0]]:=by unfold ga Rl;rw [h]
theorem AGh {fn fc:Func} {x0 r1 y r0 crest:Code} (hf:Tryz.prog.funcs[67]? = some fn) (hb:fn.body=some (.seq x0 (.seq r1 y))) (hf2:Tryz.prog.funcs[114]? = some fc) (hb2:fc.body=some (.seq r0 crest)) (L:List Tok) (o:Nat) (Hp:List AObj) (ho:Hp[o]? = some (pmO L 0)) (hl:TokEnd L) (hll:L.length≤500000) (hX:∃l i,K3 L=.ok l i) (d:Nat):
  AW Tryz.prog (d+1) y ⟨21,A6 0 (.ptr o 0) (A6 2 (.ptr (oid Hp.length 0) 0) (A6 3 (.ptr (oid Hp.length 1) 0) (A6 4 (.fn (.func 114) [] [.ptr (oid Hp.length 0) 0,.ptr (oid Hp.length 1) 0]) fun _=>.any))),Hp,[.cells 31 [.nil],.cells 73 [A3 0,A3 0]],[],none⟩ (KG Tryz.prog crest 8 3 2 [.ptr (oid Hp.length 0) 0,.ptr (oid Hp.length 1) 0] [.cell 2 31,.cell 3 73] Hp.length (fun r H'=>r=ga L∧∃i,H'=Hp.set o (pmO L i))):=by
 have e:=Tryz.func67.symm.trans hf
 injection e with e
 subst e
 injection hb with hb
 injection hb with h1 h2
 injection h2 with h2 h3
 subst h3
 refine ae [0,2,3] (by simp only [go_sem,↓reduceIte,Nat.reduceEqDiff,Nat.reduceAdd]<;>rfl) ?_
 refine Rj (Ce ho).symm ?_;refine Jw ?_
 refine Bf (α:=List Mov×Nat) (fun x=>⟨21,A6 0 (.ptr o 0) (A6 2 (.ptr (oid Hp.length 0) 0) (A6 3 (.ptr (oid Hp.length 1) 0) (fun _=>.any))),Hp.set o (pmO L x.2),[.cells 31 [.slice true 5 (x.1.map Jo)],.cells 73 [A3 0,A3 0]],[],none⟩) (fun x=>MovAt L x) (fun x=>L.length-x.2) (([],0)) ⟨hl.pos,by decide,rfl⟩ (StLe.nilCell (own:=[.cells 31 [.nil],.cells 73 [A3 0,A3 0]]) (n:=0) (j0:=0) (k:=5) (t:=31) (cs:=[.nil]) rfl rfl) rfl (fun x hx=>?_)
 refine Z30 ?_;refine Aa Tryz.call115 (AJj L x.2 o _ (Ag (getset ho)) hx.lt) ?_;refine Z0 ?_;refine A2 [0,2,3,8] ?_
 refine A4 (fun ht8=>?_) (fun ht8=>?_)
 ·have hk:((Af L x.2).kind != 0)=true:=ht8
  refine zv ?_;refine Z31 ?_;refine A2 [0,2,3,11] ?_
  refine A4 (fun ht11=>?_) (fun ht11=>?_)
  ·have h8:((x.1.length:Int)==8)=true:=by rw [Ao] at ht11;exact ht11
   exact (D4 hX (hx.long hk h8)).elim
  have h8:((x.1.length:Int)==8)=false:=by rw [Ao] at ht11;exact ht11
  refine Z3 ?_
  rcases hM:P9 L x.2 with ⟨m,j⟩|⟨e,a⟩
  rotate_left
  ·exact (D4 hX (by first|exact hx.bad hk h8 hM|exact hM)).elim
  have hon:=hx.on hl hll hk h8 hM
  refine Qt [0,0,2,6,15,31] [0,2] [.s [14] (some 0) [] [],.q 1 [] [1],.s [16] (some 1) [] [],.q 1 [1] []] (fun B=>Hp.set o (pmO L (if B 1=true then j else x.2))) (fun B=>if B 0=true then [.cells 31 [.slice false 5 (x.1.map Jo)],.cells 73 [A3 0,A3 0]] else [.cells 31 [.slice true 5 (x.1.map Jo)],.cells 73 [A3 0,A3 0]]) Aj (by kernel_rfl) rfl rfl (fun B=>by simp) ?_
  refine Y.loadOwnT (u:=Hp.length) (n:=0) (t':=31) (cs:=[.slice true 5 (x.1.map Jo)]) (cs':=[.slice false 5 (x.1.map Jo)]) Tryz.isAgg31 (fun B hB=>⟨by simp,by simp only [hB];rfl,by simp only [hB];rfl,rfl⟩) ?_
  apply Y.q
  ·intro B hT hF
   exact Z55
  case hTF=>decide
  refine N2 (r:=Jo m) (o:=o) (x0:=pmO L x.2) (x:=pmO L j) Tryz.call117 (fun B hB1 hB2 hB=>⟨by simp only [hB];exact getset ho,by simp only [hB];exact (Bu ..).symm,rfl,En,?_⟩) ?_
  ·simp only [hB]
   exact ((AR7 L x.2 o _ (Ag (getset ho)) hx.lt hl hll).ok hM)
  apply Y.q
  ·intro B hT hF
   exact Z38
  case hTF=>decide
  refine Ed (tn:=[0,2]) (U:=Hp.set o (pmO L j)) (O:=[.cells 31 [.slice false 5 (x.1.map Jo)],.cells 73 [A3 0,A3 0]]) ?_
  refine Ep jU Tryz.type80 ?_ ?_ ?_
  ·simp [Tryz.t80];have:=hx.le;omega
  ·simp [Tryz.t80];have:=hx.le;omega
  refine Wj jS ?_;refine A2 [0,2,3] ?_;refine M4 ?_
  refine Bg (x.1++[m],j) hon.1 (by have:=hx.lt;have:=hon.2;show L.length-j<L.length-x.2;omega) (Dn (by simp [Bq,show Tryz.t80.size=5 from rfl]))
 have hk:((Af L x.2).kind != 0)=false:=ht8
 have e:=hx.out hk
 refine Pu ?_;refine Z2 ?_;refine Z21 ?_;refine Fw ?_;refine Z60 ?_;exact KG.fin .ret (B1 (Dm Tryz.isAgg31) (B3 Tryz.isAgg73 Tryz.sizeOf73)) (fun d=>AGf hf2 hb2 d _ _ _) ⟨(xm e).symm,x.2,rfl⟩ (hlow:=by simpa using (Sm (n:=Hp.length) (k:=5) (o:=false) (l:=x.1)))

theorem c67 (L:List Tok) (o:Nat) (Hp:List AObj) (ho:Hp[o]? = some (pmO L 0)) (hl:TokEnd L) (hll:L.length≤500000) (hX:∃l i,K3 L=.ok l i):ACall Tryz.prog 67 [.ptr o 0] Hp (fun r H'=>r=ga L∧∃i,H'=Hp.set o (pmO L i)):=by
 refine ACall.guarded (n:=21) (nc:=8) (a:=3) (b:=2) (os:=[oid Hp.length 0,oid Hp.length 1]) (own0:=[.cells 31 [.nil],.cells 73 [A3 0,A3 0]]) (rs:=[.cell 2 31,.cell 3 73])
  (fr0:=A6 0 (.ptr o 0) (A6 2 (.ptr (oid Hp.length 0) 0) (A6 3 (.ptr (oid Hp.length 1) 0) fun _=>.any))) (fr1:=A6 0 (.ptr o 0) (A6 2 (.ptr (oid Hp.length 0) 0) (A6 3 (.ptr (oid Hp.length 1) 0) (A6 4 (.fn (.func 114) [] [.ptr (oid Hp.length 0) 0,.ptr (oid Hp.length 1) 0]) fun _=>.any))))
  Tryz.func67 rfl rfl Tryz.ntmps67 (by simp) Tryz.func114 rfl Tryz.ntmps114 rfl (by simp) (by decide) (by decide) Tryz.call114 (fun d=>?_) (fun d=>?_) rfl (fun d l=>?_)
 ·refine ae [0] (by simp only [go_sem,↓reduceIte,Nat.reduceEqDiff,Nat.reduceAdd]<;>rfl) ?_
  refine Gf ?_;refine R0 ?_;refine R0 ?_;refine A2 [0,2,3] ?_;exact ⟨rfl,rfl⟩
 ·refine Ia ?_;refine A2 [0,2,3,4] ?_
  rfl
 exact @AGh { b:=ErrAt.b,bs:=ErrAt.bs,bd:=d+1,bl:=l } _ _ _ _ _ _ _ Tryz.func67 rfl Tryz.func114 rfl L o Hp ho hl hll hX d
theorem AJo {s:Str} (h:((Bd s).2.1 != 0)=false):Yn s=Rl (Bd s).1:=by
 unfold Yn Rl
 rw [if_neg (by rw [h];simp)]
 cases K3 (Bd s).1<;>rfl
theorem c29 (s:Str) (hs:s.length≤1048576) (hz0:(Bd s).2.1=0) (hX:∃l i,K3 (Bd s).1=.ok l i) (Hp:List AObj):AFun Tryz.prog 29 [Ac s] Hp (.tup [Gm (Yn s).1,.agg [A3 (Yn s).2.1,A3 (Yn s).2.2]]):=by
 refine Ae [.tmp 2,.cell 3 73] [0] Tryz.func29 Tryz.ntmps29 (fun d=>?_)
 refine zu ?_;refine Nv ?_;refine Z2 ?_;refine Aa Tryz.call66 (c66 s hs _) ?_;refine Z13 ?_;refine ADr ?_;refine A2 [3,4,5] ?_;refine Z31 ?_;refine A2 [3,4,5,13] ?_
 refine A4 (fun ht13=>?_) (fun ht13=>?_)
 ·rw [hz0] at ht13;cases ht13
 have hz:(Bd s).2.1=0:=by simpa using ht13
 have hle:=rc hz
 have hlen:=rn hz
 have e:=AJo ht13
 refine Z3 ?_;refine Z96 ?_;refine R.box ?_
 refine R.callEx (fun _=>Hp) (fun i=>[.cells 73 [A3 0,A3 0],.cells 73 [A3 (Bd s).2.1,A3 ((Bd s).2.2:Nat)],pmO (Bd s).1 i]) Tryz.call67 ((c67 (Bd s).1 (oid Hp.length 2) _ (by rw [As];rfl) hle (by omega) hX).mono (fun r H' ⟨e,i,h⟩=>⟨e,i,h.trans (by rw [Cp];rfl)⟩)) (fun _=>rfl) (fun _ h=>h) (fun i=>?_)
 refine Z13 ?_;refine Fw ?_;refine Z60 ?_;exact A8 (B1 A9 (B3 jA jS)) ⟨by rw [e],rfl⟩ (hlow:=by simpa using (Sm (n:=Hp.length) (k:=5) (o:=false) (l:=(Rl (Bd s).1).1)))

/-- Moves whose numbers are ones of 64 bits. -/
structure RngMv (m:Mov):Prop where
 ahead:∀e∈m.ahead,E0 Hb e=true
 back:∀e∈m.back,E0 Hb e=true
theorem lj {l:List Expr} (h20:l.length≤1048576) (h:l.any S8=false) (hr:∀e∈l,E0 Hb e=true):OkEs l:=by
 have h1:∀e∈l,Slim e:=fun e he=>qz (by
  rw [I2] at h
  simpa using h e he)
 exact ⟨h20,fun e he=>(h1 e he).ok,fun e he=>by have:=(h1 e he).size;omega,hr⟩
theorem xn {m:Mov} (h:oh m=false) (hr:RngMv m):OkMov m:=by
 unfold oh at h
 simp only [E1,decide_eq_false_iff_not] at h
 obtain ⟨⟨⟨⟨⟨⟨h1,h2⟩,h3⟩,h4⟩,h5⟩,h6⟩,h7⟩:=h
 have h50:m.give.length≤1000000:=by
  unfold Lu at h1
  simp only [E1,decide_eq_false_iff_not] at h1
  omega
 refine ⟨by omega,fun s hs=>?_,rj h1,h50,lj (by omega) h6 hr.ahead,lj (by omega) h7 hr.back⟩
 rw [I2] at h5
 have:=h5 s hs
 simp only [decide_eq_true_eq] at this
 omega
theorem xp {l:List Mov} (h:ABt l=false) (hr:∀m∈l,RngMv m):OkMovs l:=by
 unfold ABt at h
 simp only [E1,decide_eq_false_iff_not] at h
 refine ⟨by omega,fun m hm=>xn ?_ (hr m hm)⟩
 rw [I2] at h
 simpa using h.2 m hm
def rwS:Str:=[114,101,110,97,109,101,32,97,32,116,111,32,98,59]
def rwT:Str:=[115,101,108,101,99,116,32,98,32,119,104,101,114,101,32,98,32,62,32,49,59]
def rwC:List Col:=[⟨[97],1⟩]
def rwQ:Qry:=⟨false,[[98]],N8 [62] (Cm [98]) (Ox ⟨1,1,[]⟩), -1⟩
theorem AD2:Ma rwT=(rwQ,0,0):=by kernel_rfl
theorem AGi:(Yn rwS).2.1=0:=by kernel_rfl
theorem ANp:QW rwQ:=by
 obtain ⟨h1,h2⟩:=U8 (show Fi rwQ.whr=true by kernel_rfl)
 exact ⟨Hc (by decide) h1,by omega,by kernel_rfl,by decide,by decide⟩
theorem AJp {l:List Mov} (h:(l.all fun m=>m.ahead.all (fun e=>E0 Hb e)&&m.back.all (fun e=>E0 Hb e))=true):∀m∈l,RngMv m:=fun m hm=>by
 have:=B0.1 h m hm
 rw [At] at this
 exact ⟨fun e he=>B0.1 this.1 e he,fun e he=>B0.1 this.2 e he⟩
theorem ANq:OkMovs (Yn rwS).1:=xp (by kernel_rfl) (AJp (by kernel_rfl))
theorem AR8:OkCols rwC:=⟨by simp [rwC],fun y hy=>by rw [B7.1 hy];simp⟩
theorem AR9:(Ba rwQ rwC (Yn rwS).1).2=0:=by kernel_rfl
theorem ANr:(Ba rwQ rwC (Yn rwS).1).1.trees=[Cm [97]]:=by kernel_rfl
theorem ARa:(Ba rwQ rwC (Yn rwS).1).1.lim = -1:=by kernel_rfl
theorem AJq (Hp:List AObj):AFun Tryz.prog 30 [Ac rwT] Hp (.tup [Nx rwQ,.agg [A3 0,A3 0]]):=by
 have:=c6 rwT (by decide) Hp
 rw [AD2] at this
 exact this
theorem AD3 {c:List Col} (h:Lu c=false):c.length≤1000000:=by
 unfold Lu at h
 simp only [E1,decide_eq_false_iff_not] at h
 omega
/-- What is handed to same. -/
structure PlnOk (p:Pln):Prop where
 w:okE 61 p.whr
 t:∀e∈p.trees,okE 61 e
 l:p.trees.length≤1048576
theorem T0:PlnOk Hz:=⟨L6 (by decide),(fun e h=>by cases h),by decide⟩
theorem AD4 {q:Qry} {c:List Col} {l:List Expr} (hq:QW q) (ht:TOk l) (hl:l.length≤1048576):PlnOk (Hj q c l).1:=by
 have h1:(∀e∈Dg q c l,okE 61 e)∧(Dg q c l).length≤1048576:=by
  unfold Dg
  split
  ·exact ⟨ht.ok,hl⟩
  refine ⟨fun e he=>?_,by rw [Ao];exact hq.len⟩
  obtain ⟨s,_,rfl⟩:=C2.1 he
  unfold Ih
  rw [Bw]
  cases hx:l[(Aw s c).toNat]? with
  | none=>exact L6 (by decide)
  | some y=>exact ht.ok y (B2 hx)
 unfold Hj
 split
 ·exact ⟨L6 (by decide),h1.1,h1.2⟩
 split
 ·exact T0
 rename_i h2
 exact ⟨(Y8 hq.ok hq.rng ht (by simpa using h2)).1,h1.1,h1.2⟩
theorem AGj {q:Qry} {c:List Col} {l:List Mov} (hq:QW q) (hc:OkCols c) (h:OkMovs l):PlnOk (Ba q c l).1:=by
 unfold Ba
 split
 ·exact T0
 rename_i h0
 have h0:((E5 c l).2 != 0)=false:=by simpa using h0
 obtain ⟨hs,hB⟩:=Vx hc h h0
 obtain ⟨ht,hl⟩:=Ym hc h hs
 split
 ·exact T0
 split
 ·exact T0
 rename_i h2
 exact AD4 hq ht (by rw [hl (by simpa using h2)];exact hB.len)
theorem gb {c:List Col} {l:List Mov} (h:((Hd c l).2 != 0)=true):((E5 c l).2 != 0)=true∧((Fz c l).2 != 0)=true:=by
 have h1:=cj true h
 refine ⟨?_,by rw [V8];exact h⟩
 unfold E5
 rw [if_pos h1]
 exact h1
theorem c7 (Hp:List AObj):AFun Tryz.prog 7 [] Hp (Az true):=by
 refine Ae [.tmp 0] [] Tryz.func7 Tryz.ntmps7 (fun d=>?_)
 refine Z2 ?_;refine A2 [] ?_;refine Ez ?_;refine Aa Tryz.call29 (c29 rwS (by decide) (by kernel_rfl) (ANl (by kernel_rfl)) _) ?_;refine Z13 ?_;refine ADr ?_;refine A2 [1,2] ?_;refine Ez ?_;refine Aa Tryz.call30 (AJq _) ?_;refine Z78 ?_;refine Z14 ?_;refine Fw ?_;refine A2 [1,2,3,4] ?_;refine Z96 ?_;refine dw jU jS jZ ?_;refine A5 ?_;refine Aa Tryz.call11 (c11 rwQ ANp rwC AR8 (by decide) (Yn rwS).1 ANq _) ?_;refine Pv ?_;refine A2 [2,4,5,6] ?_;refine Z23 ?_;refine Z69 ?_;refine Z35 ?_;refine Z77 ?_;refine Z35 ?_
 refine Cd (h:=Ai (0) (A7 (Cm [97])) (fun _=>by rw [ANr];rfl)) (hr:=?_)
 refine Z69 ?_;refine Zg ?_;refine Z0 ?_;refine A2 [0] ?_;refine Fs ?_;exact A8 (Ak A9) ⟨by simp only [AGi,AR9,ANr,ARa]<;>rfl,rfl⟩

/-! ImageJoins: rows forth and back, move by move. -/
/-! Columns of parts of moves. -/
/-! A row that went forth through a move comes back through it, where the trees back come to what was taken. -/
theorem AJr {x:Expr} {c:List Col} {l:List Val} (h:(Cx x c l).2=0):Ay x=true∧Im c l=true∧Cx x c l=Cu c l x:=by
 have h:(bi Bx x c l).2=0:=h
 show _∧_∧bi Bx x c l=_
 unfold bi at h ⊢
 split at h
 ·cases h
 rename_i h1
 rw [if_neg h1]
 simp only [Dq,Ko,not_or,Bool.not_eq_false] at h1
 exact ⟨h1.1,h1.2,rfl⟩
theorem pq {x:Expr} {c:List Col} {l:List Val} (hx:Ay x=true) (hr:Im c l=true):Cx x c l=Cu c l x:=by
 show bi Bx x c l=_
 unfold bi
 rw [if_neg (by rw [hx,hr];simp)]
theorem AGk {c:List Col} {l:List Val} {t:Str}:Cu c l (Cm t)=Sg c l t:=by
 show Lw Bx _ _ _=_
 rw [Mk]
 rfl
/-! Trees put in the columns' places keep the kinds, or are of none. -/
def Le0 (a b:Int):Prop:=a=b∨a=0
def LeL:List Int→List Int→Prop
 | [],[]=>True
 | a::r,b::s=>Le0 a b∧LeL r s
 | _,_=>False
theorem ss {c c' k k':Int} (hc:Le0 c' c) (hk:Le0 k' k) (h:(Fj c k).2=true):(Fj c' k').2=true∧Le0 (Fj c' k').1 (Fj c k).1:=by
 unfold Le0 at *
 unfold Fj at *
 simp only [beq_iff_eq,Dq] at *
 repeat' split
 all_goals simp_all
 all_goals omega
theorem Vz:∀{ws ks ks':List Int} {c c' m:Int},LeL ks' ks→Le0 c' c→Py ws ks c=some m→∃m',Py ws ks' c'=some m'∧Le0 m' m
 | ws,[],[],c,c',m,_,hc,h=>by
  have e:∀z,Py ws [] z=some z:=fun z=>by cases ws<;>rfl
  rw [e] at h
  injection h with h
  exact ⟨c',e c',h ▸ hc⟩
 | _,[],_::_,_,_,_,hl,_,_=>hl.elim
 | _,_::_,[],_,_,_,hl,_,_=>hl.elim
 | [],_::_,_::_,_,_,_,_,_,h=>by cases h
 | w::ws,k::ks,k'::ks',c,c',m,hl,hc,h=>by
  rw [Py] at h ⊢
  cases hw2:w == -2 with
  | true =>
   rw [hw2,if_pos rfl] at h
   rw [if_pos rfl]
   exact Vz hl.2 hc h
  | false =>
   rw [hw2,if_neg (by simp)] at h
   rw [if_neg (by simp)]
   cases hw1:w == -1 with
   | true =>
    rw [hw1,if_pos rfl] at h
    rw [if_pos rfl]
    cases hm:(Fj c k).2 with
    | false=>rw [hm] at h;cases h
    | true =>
     rw [hm,if_pos rfl] at h
     have:=ss hc hl.1 hm
     rw [this.1,if_pos rfl]
     exact Vz hl.2 this.2 h
   | false =>
    rw [hw1,if_neg (by simp)] at h
    rw [if_neg (by simp)]
    cases hm:(Fj w k).2 with
    | false=>rw [hm] at h;cases h
    | true =>
     rw [hm,if_pos rfl] at h
     have:=ss (.inl rfl:Le0 w w) hl.1 hm
     rw [this.1,if_pos rfl]
     exact Vz hl.2 hc h
theorem pt {l:List (Int×Int)} (h:∀q∈l,q.2=0):l.find? (fun q=>q.2 != 0)=none:=O1.2 fun q hq=>by simpa using h q hq
theorem ll {c:List Col} {o:Int} {t:Str} {v:Val} {ks:List (Int×Int)} (h1:(o==1)=false) (h2:(o==2)=false) (h:∀q∈ks,q.2=0):Oy c o t v ks=Sd (V0 o t) (ks.map (·.1)):=by
 unfold Oy
 rw [h1,h2,pt h]
 rfl
theorem AGl {s:Sign} {ks ks':List Int} (hl:LeL ks' ks) (h:(Sd s ks).2=0):(Sd s ks').2=0∧Le0 (Sd s ks').1 (Sd s ks).1:=by
 unfold Sd at h ⊢
 cases hk:Py s.kids ks 0 with
 | none=>rw [hk] at h;cases h
 | some m =>
  obtain ⟨m',e,hm⟩:=Vz hl (.inl rfl) hk
  rw [e]
  simp only
  split
  ·exact ⟨rfl,hm⟩
  exact ⟨rfl,.inl rfl⟩
mutual
theorem lm {c c0:List Col} {t:List Expr} (H:∀s,(L9 c s).2=0→(Dj c0 (t.getD (Aw s c).toNat Au)).2=0∧Le0 (Dj c0 (t.getD (Aw s c).toNat Au)).1 (L9 c s).1):∀x:Expr,E0 Ew x=true→(Dj c x).2=0→∃y,putF c t x=some y∧(Dj c0 y).2=0∧Le0 (Dj c0 y).1 (Dj c x).1
 | .mk o s v k,hn,h=>by
  rw [Jf,At] at hn
  by_cases h1:(o==1)=true
  ·have ho:o=1:=by simpa using h1
   subst ho
   have hk:k=[]:=by
    have:=hn.1
    unfold Ew at this
    rw [if_pos (show ((Expr.mk 1 s v k).op==1)=true from rfl),At] at this
    have h3:((k.length:Int)==0)=true:=this.2
    simpa using h3
   subst hk
   exact ⟨.mk 1 s v [],rfl,rfl,.inl rfl⟩
  have h1':(o==1)=false:=by simpa using h1
  by_cases h2:(o==2)=true
  ·have e:Dj c (.mk o s v k)=L9 c s:=by rw [Dj];unfold Oy;rw [if_neg h1,if_pos h2]
   rw [e] at h ⊢
   rw [putF,if_pos h2]
   have hf:¬Aw s c<0:=fun hf=>by unfold L9 at h;rw [if_pos hf] at h;cases h
   rw [if_neg hf]
   exact ⟨_,rfl,H s h⟩
  have h2':(o==2)=false:=by simpa using h2
  rw [Dj] at h ⊢
  have hk:=AB9 h h1' h2'
  obtain ⟨r,hr,hr2,hr3⟩:=co H k ((Fh _ _).1 hn.2) hk
  rw [ll h1' h2' hk] at h ⊢
  refine ⟨.mk o s v r,by rw [putF,if_neg h2,hr];rfl,?_⟩
  rw [Dj,ll h1' h2' hr2]
  exact AGl hr3 h
theorem co {c c0:List Col} {t:List Expr} (H:∀s,(L9 c s).2=0→(Dj c0 (t.getD (Aw s c).toNat Au)).2=0∧Le0 (Dj c0 (t.getD (Aw s c).toNat Au)).1 (L9 c s).1):∀l:List Expr,(∀e∈l,E0 Ew e=true)→(∀q∈Mi c l,q.2=0)→∃r,G8 c t l=some r∧(∀q∈Mi c0 r,q.2=0)∧LeL ((Mi c0 r).map (·.1)) ((Mi c l).map (·.1))
  | [],_,_=>⟨[],rfl,fun q hq=>by simp [Mi] at hq,trivial⟩
  | e::l,hn,h=>by
    rw [Mi] at h
    obtain ⟨y,h1,h2,h3⟩:=lm H e (hn e Gk) (h _ Gk)
    obtain ⟨r,h4,h5,h6⟩:=co H l (fun x hx=>hn x (.tail _ hx)) (fun q hq=>h q (.tail _ hq))
    refine ⟨y::r,by rw [G8,h1,h4];rfl,fun q hq=>?_,?_⟩
    · rw [Mi] at hq
      rcases B4.1 hq with rfl|hq
      · exact h2
      exact h5 q hq
    rw [Mi,Mi]
    exact ⟨h3,h6⟩
 end
/-- A tree that is of a column's kind, or of none. -/
structure FitX (c0:List Col) (e:Expr) (w:Int):Prop where
 right:Ay e=true
 err:(Dj c0 e).2=0
 kind:Le0 (Dj c0 e).1 w
/-- Trees for columns, each of its column's kind. -/
structure FitT (c0 c:List Col) (t:List Expr):Prop where
 len:t.length=c.length
 each:∀p∈c.zip t,FitX c0 p.2 p.1.kind
theorem FitT.at {c0 c:List Col} {t:List Expr} (h:FitT c0 c t) {i:Nat} {y:Col} {e:Expr} (hy:c[i]? = some y) (he:t[i]? = some e):FitX c0 e y.kind:=
 h.each (y,e) (B2 (i:=i) (Qk.2 ⟨hy,he⟩))
theorem FitT.rights {c0 c:List Col} {t:List Expr} (h:FitT c0 c t):∀e∈t,Ay e=true:=fun e he=>by
 obtain ⟨i,hi⟩:=C8 he
 have hil:=(Ad.1 hi).1
 exact (h.at (Ab (by rw [←h.len];exact hil)) hi).right
theorem FitT.own {c:List Col} (h:Ci c=true):FitT c c (Dy c):=by
 obtain ⟨_,hok,hnd⟩:=jr (by rw [Mh];exact h)
 refine ⟨by simp [Dy],fun p hp=>?_⟩
 obtain ⟨i,hi⟩:=C8 hp
 rw [Qk] at hi
 obtain ⟨h1,h2⟩:=hi
 unfold Dy at h2
 rw [Bz,h1] at h2
 injection h2 with h2
 have hy:=B2 h1
 rw [←h2]
 have e:Dj c (Cm p.1.name)=(p.1.kind,0):=by rw [Mj];exact oe hnd hy rfl
 exact ⟨by rw [R7,←Hu];exact (hok _ hy).name,by rw [e],by rw [e];exact .inl rfl⟩
/-! FuseForth: one tree does all moves. -/
theorem pu {f:Int→Str→List Val→Rs} {c c0:List Col} {l l0:List Val} {o:Int} {t:Str} {v:Val} {ks:List Rs} (h:(o==2)=false):La f c0 l0 o t v ks=La f c l o t v ks:=by
 unfold La
 rw [h]
 rfl
mutual
theorem cp {c c0:List Col} {t:List Expr} {l l0:List Val} (H:∀s,¬Aw s c<0→Cu c0 l0 (t.getD (Aw s c).toNat Au)=(l.getD (Aw s c).toNat noV,0)):∀x y:Expr,putF c t x=some y→Cu c0 l0 y=Cu c l x
 | .mk o s v k,y,h=>by
  rw [putF] at h
  by_cases h2:(o==2)=true
  ·rw [if_pos h2] at h
   have ho:o=2:=by simpa using h2
   subst ho
   split at h
   ·cases h
   rename_i hf
   injection h with h
   subst h
   rw [H s hf]
   show _=Lw Bx c l _
   rw [Mk]
   show _=Sg c l s
   unfold Sg
   rw [if_neg hf]
  have h2':(o==2)=false:=by simpa using h2
  rw [if_neg h2] at h
  cases hk:G8 c t k with
  | none=>rw [hk] at h;cases h
  | some r =>
   rw [hk] at h
   injection h with h
   subst h
   show Lw Bx c0 l0 _=Lw Bx c l _
   rw [Mk,Mk]
   show La Bx c0 l0 o s v (r.map _)=La Bx c l o s v (k.map _)
   rw [Ys H k r hk,pu (c:=c) (l:=l) h2']
theorem Ys {c c0:List Col} {t:List Expr} {l l0:List Val} (H:∀s,¬Aw s c<0→Cu c0 l0 (t.getD (Aw s c).toNat Au)=(l.getD (Aw s c).toNat noV,0)):∀k r:List Expr,G8 c t k=some r→r.map (Lw Bx c0 l0)=k.map (Lw Bx c l)
  | [],r,h=>by
    rw [G8] at h
    injection h with h
    subst h
    rfl
  | e::k,r,h=>by
    rw [G8] at h
    cases h1:putF c t e with
    | none=>rw [h1] at h;cases h
    | some y =>
      rw [h1] at h
      cases h2:G8 c t k with
      | none=>simp only [h2] at h;cases h
      | some s =>
        simp only [h2] at h
        injection h with h
        subst h
        rw [Br,Br,Ys H k s h2]
        exact congrArg (·::_) (cp H e y h1)
 end
/-- Trees that come, over a row, to the values of another one. -/
structure Comes (c0:List Col) (l0:List Val) (t:List Expr) (r:List Val):Prop where
 len:t.length=r.length
 each:∀(j:Nat) (e:Expr) (v:Val),t[j]? = some e→r[j]? = some v→Cx e c0 l0=(v,0)
theorem Comes.name {c0 c:List Col} {l0 r:List Val} {t:List Expr} (h:Comes c0 l0 t r) (hl:r.length=c.length) (s:Str) (hs:¬Aw s c<0):Cu c0 l0 (t.getD (Aw s c).toNat Au)=(r.getD (Aw s c).toNat noV,0):=by
 obtain ⟨j,hj,hjl⟩:=Fl hs
 have ht:=h.len
 have h1:t[j]? = some (t.getD j Au):=by rw [Bw,Ab (by omega)];rfl
 have h2:r[j]? = some (r.getD j noV):=by rw [Bw,Ab (by omega)];rfl
 have:=h.each j _ _ h1 h2
 rw [hj,Int.toNat_natCast,←(AJr (by rw [this])).2.2,this]
theorem Comes.own {c:List Col} {row:List Val} (hc:Ci c=true) (hp:Im c row=true):Comes c row (Dy c) row:=by
 obtain ⟨_,hok,hnd⟩:=jr (by rw [Mh];exact hc)
 have hl:row.length=c.length:=by
  unfold Im at hp
  simp only [At,beq_iff_eq] at hp
  exact hp.1.2
 refine ⟨by simp [Dy,hl],fun j e v h1 h2=>?_⟩
 unfold Dy at h1
 rw [Bz] at h1
 cases hy:c[j]? with
 | none=>rw [hy] at h1;cases h1
 | some y =>
  rw [hy] at h1
  injection h1 with h1
  rw [←h1]
  rw [pq (by rw [R7,←Hu];exact (hok _ (B2 hy)).name) hp,AGk]
  unfold Sg
  rw [Xq hnd hy,if_neg (by omega),Int.toNat_natCast,Bw,h2]
  rfl
/-! The laws of RewriteForth, RewriteBack, RewriteNone. -/
theorem gc {q:Qry} {c:List Col} (h:Bp q c=0):Ld q=true∧Ip c=true∧(Jn q=true→(Dj c q.whr).2=0):=by
 unfold Bp at h
 split at h
 ·exact eo
 rename_i h1
 have h1':Ld q=true∧Ip c=true:=by simpa using h1
 refine ⟨h1'.1,h1'.2,fun ha=>?_⟩
 split at h
 ·exact eo
 split at h
 ·rename_i h3
  rw [ha] at h3;cases h3
 split at h
 ·rename_i h4
  rw [show (Ie q.whr c).2=0 from h] at h4;cases h4
 rename_i h4
 have h5:(Ie q.whr c).2=0:=by simpa using h4
 unfold Ie at h5
 split at h5
 ·exact absurd h5 (by decide)
 exact h5
theorem Yt {q:Qry} (h:Ld q=true) (ha:Jn q=true):Ay q.whr=true:=by
 unfold Ld at h
 split at h
 ·cases h
 rw [ha] at h
 simp only [At,Kp,F6] at h
 rw [Fx]
 exact h.2
theorem ln {x:Expr} (h:Ay x=true):(x.op==0)=false:=by
 rw [Fx] at h
 have h1:=Re h
 rw [Jf,At] at h1
 cases L7 h1.1<;>rfl
theorem su {q:Qry} (ha:Jn q=false):q.whr=Au:=by
 unfold Jn at ha
 exact (Vt _ _).1 (by simpa using ha)
theorem sw {q:Qry} (h:Ld q=true):(q.whr.op==0) = !Jn q:=by
 cases ha:Jn q with
 | false=>rw [su ha];rfl
 | true=>exact ln (Yt h ha)
/-- What a turned query is. -/
structure Plan (q:Qry) (d:List Col) (t:List Expr) (p:Pln):Prop where
 lim:p.lim=q.lim
 trees:p.trees=Dg q d t
 whr:(Jn q=false∧p.whr=Au)∨(Jn q=true∧Ay p.whr=true∧p.whr=(Da q.whr d t).1∧(Da q.whr d t).2=0)
theorem Yu {x:Expr} {c:List Col} {l:List Expr} (h:(Da x c l).2=0):Ay x=true∧Ay (Da x c l).1=true:=by
 unfold Da at h ⊢
 split at h
 ·exact eo
 rename_i h1
 rw [if_neg h1]
 refine ⟨?_,?_⟩
 ·simp only [Dq,Ko,not_or,Bool.not_eq_false] at h1
  exact h1.1.1.1
 cases hp:putF c l x with
 | none=>rw [hp] at h;exact absurd h (show ¬(9:Int)=0 by decide)
 | some y =>
  rw [hp] at h
  simp only at h ⊢
  split at h
  ·rename_i h2
   rw [if_pos h2]
   exact h2
  exact eo
theorem pv {q:Qry} {d:List Col} {t:List Expr} (hc:Bp q d=0) (h0:(Hj q d t).2=0):Plan q d t (Hj q d t).1:=by
 have ho:=sw (gc hc).1
 unfold Hj at h0 ⊢
 split
 ·rename_i h1
  rw [h1] at ho
  exact ⟨rfl,rfl,.inl ⟨by simpa using ho,rfl⟩⟩
 rename_i h1
 rw [if_neg h1] at h0
 rw [show (q.whr.op==0)=false by simpa using h1] at ho
 split
 ·rename_i h2
  rw [if_pos h2] at h0
  rw [show (Da q.whr d t).2=0 from h0] at h2
  cases h2
 rename_i h2
 have h3:(Da q.whr d t).2=0:=by simpa using h2
 exact ⟨rfl,rfl,.inr ⟨by simpa using ho,(Yu h3).2,rfl,h3⟩⟩
theorem AD5 {c0 c:List Col} {l0 r:List Val} {t:List Expr} (h:Comes c0 l0 t r) (hl:r.length=c.length) (h0:Im c0 l0=true) (hr:Im c r=true) {x:Expr} (ho:(Da x c t).2=0):Cx (Da x c t).1 c0 l0=Cx x c r:=by
 have hx:=Yu ho
 rw [pq hx.2 h0,pq hx.1 hr]
 unfold Da at ho ⊢
 split at ho
 ·exact absurd ho (by decide)
 rename_i h1
 rw [if_neg h1]
 cases hp:putF c t x with
 | none=>rw [hp] at ho;exact absurd ho (show ¬(9:Int)=0 by decide)
 | some y =>
  rw [hp] at ho
  simp only at ho ⊢
  split at ho
  ·rename_i h2
   rw [if_pos h2]
   exact cp (h.name hl) x y hp
  exact absurd ho (by decide)
theorem AGm {q:Qry} {d c0:List Col} {t:List Expr} {p:Pln} {l0 r:List Val} (hP:Plan q d t p) (hC:Comes c0 l0 t r) (hl:r.length=d.length) (h0:Im c0 l0=true) (hr:Im d r=true):Js p c0 l0=C4 q d r:=by
 have e1:Js p c0 l0=V7 p c0 l0:=if_pos h0
 have e2:C4 q d r=if !Jn q then (true,0) else (Y1 (Cx q.whr d r),Sj (Cx q.whr d r)):=if_neg (by rw [hr];simp)
 rw [e1,e2]
 unfold V7
 rcases hP.whr with ⟨ha,hw⟩|⟨ha,hx,hw,ho⟩
 ·rw [hw,ha];rfl
 rw [if_neg (by rw [ln hx];simp),if_neg (by rw [ha];simp),hw,AD5 hC hl h0 hr ho]
theorem Uf {c0:List Col} {l0:List Val}:∀{ts:List Expr} {vs:List Val},ts.length=vs.length→(∀(j:Nat) (e:Expr) (v:Val),ts[j]? = some e→vs[j]? = some v→Cx e c0 l0=(v,0))→Gp c0 l0 ts=(vs,0)
 | [],[],_,_=>rfl
 | [],_::_,h,_=>by simp at h
 | _::_,[],h,_=>by simp at h
 | e::ts,v::vs,hl,h=>by
  rw [Gp,h 0 e v rfl rfl,Uf (ts:=ts) (vs:=vs) (by simpa using hl) (fun j e v h1 h2=>h (j+1) e v (by simpa using h1) (by simpa using h2))]
  rfl
theorem Comes.tree {c0 c:List Col} {l0 r:List Val} {t:List Expr} (h:Comes c0 l0 t r) (hl:r.length=c.length) {s:Str} (hs:¬Aw s c<0):Ih c t s∈t∧Cx (Ih c t s) c0 l0=(r.getD (Aw s c).toNat noV,0):=by
 obtain ⟨j,hj,hjl⟩:=Fl hs
 have ht:=h.len
 have h1:t[j]? = some (t.getD j Au):=by rw [Bw,Ab (by omega)];rfl
 have h2:r[j]? = some (r.getD j noV):=by rw [Bw,Ab (by omega)];rfl
 unfold Ih
 rw [hj,Int.toNat_natCast]
 exact ⟨B2 h1,h.each j _ _ h1 h2⟩
theorem AGn {q:Qry} {d c0:List Col} {t:List Expr} {p:Pln} {l0 r:List Val} (k:Int) (hP:Plan q d t p) (hC:Comes c0 l0 t r) (hl:r.length=d.length) (hn:∀s∈q.cols,¬Aw s d<0):Ly p c0 ⟨k,l0⟩=(It q d ⟨k,r⟩,0):=by
 have h1:Gp c0 l0 p.trees=((It q d ⟨k,r⟩).l,0):=by
  rw [hP.trees]
  unfold Dg It
  cases q.all with
  | true=>exact Uf hC.len hC.each
  | false =>
   refine Uf (by simp) fun j e v a b=>?_
   simp only [Bt,↓reduceIte,Bz,E3] at a b
   obtain ⟨s,hs,rfl⟩:=a
   obtain ⟨s',hs',rfl⟩:=b
   rw [hs] at hs'
   injection hs' with hs'
   subst hs'
   exact (hC.tree hl (hn s (B2 hs))).2
 unfold Ly
 rw [h1]
 rfl
theorem ANs {q:Qry} {d c0:List Col} {t:List Expr} {p:Pln} {l0 r:List Val} (k:Int) (hP:Plan q d t p) (hC:Comes c0 l0 t r) (hl:r.length=d.length) (h0:Im c0 l0=true) (hr:Im d r=true) (hn:∀s∈q.cols,¬Aw s d<0):stP p c0 ⟨k,l0⟩=C4 q d r∧Lm p c0 ⟨k,l0⟩=It q d ⟨k,r⟩:=by
 have h1:=AGn k hP hC hl hn
 have h2:=AGm hP hC hl h0 hr
 refine ⟨?_,by unfold Lm;rw [h1]⟩
 cases hg:P7 p c0 ⟨k,l0⟩ with
 | false=>rw [ACq hg,←h2]
 | true =>
  rw [AH9 hg,h1,←h2]
  unfold P7 at hg
  simp only [At,beq_iff_eq] at hg
  exact Prod.ext hg.2.symm hg.1.symm
theorem lq {h h':Row→Bool×Int} {g g':Row→Row} {n:Int} {f:Row→Row}:∀(rows o:List Row),(∀x∈rows,h (f x)=h' x∧((h' x).1=true→g (f x)=g' x))→Ki h g n (rows.map f) o=Ki h' g' n rows o
 | [],_,_=>rfl
 | x::r,o,H=>by
  obtain ⟨h1,h2⟩:=H x Gk
  have ih:=fun o=>lq (h:=h) (h':=h') (g:=g) (g':=g') (n:=n) (f:=f) r o (fun y hy=>H y (Hm _ hy))
  rw [Br,Ki,Ki,h1]
  split
  ·rfl
  split
  ·rename_i h3
   rw [h2 h3,ih]
  rw [ih]
theorem AD6 {p:Pln} {q:Qry} {c0 d:List Col} {rows rows':List Row} (hw:P8 p c0=false) (hk:Bp q d=0) (hl:p.lim=q.lim) (hs:Ki (stP p c0) (Lm p c0) q.lim rows []=Ki (fun x=>C4 q d x.l) (It q d) q.lim rows' []):Yi p c0 rows=Sk q d rows':=by
 unfold Yi Sk
 rw [if_neg (by rw [hw];simp),hk,hl]
 cases h:q.lim==0 with
 | true=>rfl
 | false =>
  rw [if_neg (by simp),if_neg (by simp),hs,Yj]
theorem AD7 {q:Qry} {d c0:List Col} {t:List Expr} {p:Pln} (hP:Plan q d t p) (hc:Ip c0=true) (ht:∀e∈t,Ay e=true) (hl:t.length=d.length) (hn:∀s∈q.cols,¬Aw s d<0):P8 p c0=false:=by
 have h1:p.trees.any Dx=false:=by
  rw [I2]
  intro e he
  unfold Dx
  rw [hP.trees] at he
  unfold Dg at he
  split at he
  ·rw [ht e he];simp
  obtain ⟨s,hs,rfl⟩:=C2.1 he
  obtain ⟨j,hj,hjl⟩:=Fl (hn s hs)
  have h1:t[j]? = some (t.getD j Au):=by rw [Bw,Ab (by omega)];rfl
  unfold Ih
  rw [hj,Int.toNat_natCast,ht _ (B2 h1)]
  simp
 unfold P8
 rw [hc,h1]
 rcases hP.whr with ⟨_,hw⟩|⟨_,hx,_,_⟩
 ·rw [hw];rfl
 unfold Dx;rw [hx];simp
theorem pw {c:List Col} (h:Ci c=true):Ip c=true:=by
 rw [N6]
 unfold Ci at h
 rw [At] at h
 exact h.2
theorem AD8 {q:Qry} {c:List Col} {l:List Mov} (h:(Ba q c l).2=0):((E5 c l).2 != 0)=false∧Bp q (E5 c l).1=0∧(F3 c l).2=0∧Ba q c l=Hj q (E5 c l).1 (F3 c l).1:=by
 cases h1:((E5 c l).2 != 0) with
 | true=>rw [sh h1] at h;exact absurd h (by decide)
 | false =>
  cases h2:(Bp q (E5 c l).1 != 0) with
  | true=>rw [AHa h1 h2] at h;rw [show Bp q (E5 c l).1=0 from h] at h2;cases h2
  | false =>
   cases h3:((F3 c l).2 != 0) with
   | true=>rw [AHb h1 h2 h3] at h;rw [show (F3 c l).2=0 from h] at h3;cases h3
   | false=>exact ⟨rfl,by simpa using h2,by simpa using h3,AHc h1 h2 h3⟩
theorem c52 (e:Expr) (hok:okE 61 e) (Hp:List AObj):AFun Tryz.prog 52 [A7 e] Hp (Az (Dx e)):=by
 refine Ae [.tmp 2] [0] Tryz.func52 Tryz.ntmps52 (fun d=>?_)
 refine Z93 ?_;refine Z2 ?_;exact AHp

theorem ANt (l:List Expr) (hl:l.length≤1048576) (hn:∀e∈l,okE 61 e) (Hp:List AObj):AFun Tryz.prog 98 [Bo l,.fn (.func 52) [] []] Hp (A3 (P3 Dx l)):=by
 refine Ae [.tmp 4] [0,1] Tryz.func98 Tryz.ntmps98 (fun d=>?_)
 refine eg ?_
 refine Bf (α:=Nat) (fun x=>⟨19,A6 0 (Bo l) (A6 1 (.fn (.func 52) [] []) (A6 7 (A3 l.length) (A6 8 (A3 (x:Nat)) (fun _=>.any)))),Hp,[],[],none⟩) (fun x=>x≤l.length∧∀(j:Nat) y,j<x→l[j]? = some y→Dx y=false) (fun x=>l.length-x) (0) ⟨Ar _,fun j y h=>by omega⟩ (Bj (by simp)) rfl (fun x hx=>?_)
 refine ea ?_
 refine Cr (fun ht9=>?_) (fun ht9=>?_)
 ·have hlt:x<l.length:=by simpa using ht9
  refine ee ?_
  refine A5 (h:=Ai (x) (A7 l[x]) (fun _=>B6 hlt)) (hr:=?_)
  refine A5 ?_;refine Mz Tryz.call52 (c52 l[x] (hn _ (Be hlt)) _) ?_;refine en ?_
  refine A4 (fun ht16=>?_) (fun ht16=>?_)
  ·exact zh
  exact zl
 have hxe:l.length≤x:=by simpa using ht9
 exact zn

theorem ANu (l:List Expr) (hl:l.length≤1048576) (hn:∀e∈l,okE 61 e) (Hp:List AObj):AFun Tryz.prog 51 [Bo l,.fn (.func 52) [] []] Hp (Az (l.any Dx)):=by
 refine Ae [.tmp 4] [0,1] Tryz.func51 Tryz.ntmps51 (fun d=>?_)
 refine el ?_;refine Aa Tryz.call98 (ANt l hl hn _) ?_;exact zp

theorem AGo:Le (.agg [A3 0,.nil]) (Eh ⟨0,[]⟩):=.agg _ _ rfl (by simp;exact ⟨rfl,rfl⟩) fun i y y' h h'=>by
 rcases i with _|_|i<;>simp at h h'<;>subst h<;>subst h'
 ·exact .inl rfl
 exact .inr ⟨rfl,_,rfl⟩
def Qe (p:Pln) (c:List Col) (x:Row) (i:Nat):List Val:=(p.trees.take i).map fun e=>(Cx e c x.l).1
theorem px {p:Pln} {c:List Col} {x:Row} {i:Nat} (h:i<p.trees.length):Qe p c x (i+1)=Qe p c x i++[(Cx p.trees[i] c x.l).1]:=by
 unfold Qe
 rw [Xz h]
theorem AD9 {p:Pln} {c:List Col} {x:Row} {i:Nat} (hi:p.trees.length≤i) (h:∀(j:Nat) (y:Expr),j<i→p.trees[j]? = some y→((Cx y c x.l).2 != 0)=false):Ly p c x=(⟨x.key,Qe p c x i⟩,0):=by
 have:=Ye (l:=p.trees) (c:=c) (row:=x.l) (fun j y hy=>h j y (by have:=(Ad.1 hy).1;omega) hy)
 unfold Ly Qe
 rw [this,Eo hi]
 rfl
theorem ADa {p:Pln} {c:List Col} {x:Row} {i:Nat} (hi:i<p.trees.length) (h:∀(j:Nat) (y:Expr),j<i→p.trees[j]? = some y→((Cx y c x.l).2 != 0)=false) (he:((Cx p.trees[i] c x.l).2 != 0)=true):Ly p c x=(⟨0,[]⟩,(Cx p.trees[i] c x.l).2):=by
 have e:=Yf h (Ab hi) he
 unfold Ly
 rw [e,if_pos he]
theorem ADb {n:Nat} {p:Pln}:∀y∈Zu p,Low n y:=by
 intro y hy
 simp only [B4,E2,or_false] at hy
 rcases hy with rfl|rfl|rfl|rfl|rfl|rfl|rfl|rfl
 ·exact D3
 ·simp
 ·simp
 ·simp
 ·simp
 ·simp
 ·exact D3
 simp
theorem ARb (p:Pln) (hp:PW p) (c:List Col) (hc:OkCols c) (l:List Val) (hll:l.length≤1048576) (hlr:∀v∈l, -9223372036854775808≤v.n∧v.n≤9223372036854775807) (Hp:List AObj):AFun Tryz.prog 100 [Yh p,An c,Hf l] Hp (.tup [Az (V7 p c l).1,A3 (V7 p c l).2]):=by
 refine Ae [.tmp 6,.tmp 7] [0,1,2] Tryz.func100 Tryz.ntmps100 (fun d=>?_)
 refine Z15 ?_;refine A2 [1,2,3] ?_;refine Z83 ?_;refine A2 [1,2,3,11] ?_
 refine A4 (fun ht11=>?_) (fun ht11=>?_)
 ·have hm:V7 p c l=(true,0):=if_pos ht11
  refine Z1 ?_;refine Z17 ?_;exact Z40
 have hm:V7 p c l=(Y1 (Cx p.whr c l),Sj (Cx p.whr c l)):=if_neg (by rw [ht11];simp)
 refine Zh ?_;refine Aa Tryz.call142 (ANd 61 p.whr hp.ok (by decide) hp.rng c hc l hll hlr _) ?_;refine Z57 ?_;exact AKv

theorem ARc (p:Pln) (hp:PW p) (c:List Col) (hc:OkCols c) (x:Row) (hx:x.l.length≤1048576) (hxr:∀v∈x.l, -9223372036854775808≤v.n∧v.n≤9223372036854775807) (Hp:List AObj):AFun Tryz.prog 101 [Yh p,An c,Eh x] Hp (.tup [Eh (Ly p c x).1,A3 (Ly p c x).2]):=by
 refine Ae [.cell 6 58,.tmp 7] [0,1,2] Tryz.func101 Tryz.ntmps101 (fun d=>?_)
 refine Z1 ?_;refine Z52 ?_;refine A2 [1,3,5,6] ?_;refine AHs ?_;refine Z14 ?_;refine A2 [1,3,5,6,8] ?_;refine Z54 ?_;refine Gw 1 1 3 ?_;refine Z57 ?_;refine A2 [1,5,6,8,17,18,19] ?_
 refine Bf (α:=Nat) (fun i=>⟨43,A6 1 (An c) (A6 5 (.ro (pg x)) (A6 6 (.ptr (oid Hp.length 0) 0) (A6 8 (.ptr (oid Hp.length 1) 0) (A6 17 (Bo p.trees) (A6 18 (A3 (p.trees.length:Nat)) (A6 19 (A3 (i:Nat)) (fun _=>.any))))))),Hp,[.cells 58 [A3 0,.nil],.cells 58 [A3 x.key,.slice true 3 ((Qe p c x i).map Bm)]],[],none⟩) (fun i=>i≤p.trees.length∧∀(j:Nat) (y:Expr),j<i→p.trees[j]? = some y→((Cx y c x.l).2 != 0)=false) (fun i=>p.trees.length-i) (0) ⟨Ar _,fun j y h=>by omega⟩ (Bj (by simp [Qe])) rfl (fun i hi=>?_)
 refine Z2 ?_;refine A2 [1,5,6,8,17,18,19,20] ?_
 refine Cr (fun ht20=>?_) (fun ht20=>?_)
 ·have hlt:i<p.trees.length:=by simpa using ht20
  have hkl:=hp.len
  refine Z76 ?_
  refine A5 (h:=Ai (i) (A7 p.trees[i]) (fun _=>B6 hlt)) (hr:=?_)
  refine Qw ?_;refine A2 [1,5,6,8,10,17,18,19] ?_;refine Z23 ?_;refine Aa Tryz.call138 (ANc 61 p.trees[i] (hp.tok _ (Be hlt)) (by decide) (hp.trng _ (Be hlt)) c hc x.l hx hxr _) ?_;refine Pv ?_;refine A2 [1,5,6,8,11,12,17,18,19] ?_;refine Z7 ?_;refine A2 [1,5,6,8,11,12,17,18,19,32] ?_
  refine A4 (fun ht32=>?_) (fun ht32=>?_)
  ·have hm:=ADa hlt hi.2 ht32
   refine Ez ?_;refine R.buildLe (Eh ⟨0,[]⟩) AGo (places:=#[(0,1),(1,1)]) jU (fun w=>by simp) Tryz.zeroValue58 ?_;refine ul ?_;refine Z62 ?_;exact A8 (B1 (B3 jA jS) A9) ⟨by rw [hm]<;>rfl,rfl⟩
  refine Z3 ?_;refine Z44 ?_;refine Wi jA ?_;refine Z80 ?_
  refine Ep jU Tryz.type24 ?_ ?_ ?_
  ·unfold Qe;simp only [Ao,Cy,Bi,Cb,Tryz.t24];omega
  ·unfold Qe;simp only [Ao,Cy,Bi,Cb,Tryz.t24];omega
  refine AE3 ?_;refine A2 [1,5,6,8,17,18,19] ?_;refine Ry ?_;refine A2 [1,5,6,8,17,18,19] ?_;refine Bg (i+1) ⟨hlt,El hlt hi.2 ht32⟩ (by omega) ?_
  simp only [px hlt,Bq,Br,Ec]
  exact Di (own:=[.cells 58 [A3 0,.nil],.cells 58 [A3 x.key,.slice true 3 ((Qe p c x i).map Bm++[Bm (Cx p.trees[i] c x.l).1])]]) (fun _=>.refl _) (by repeat (first|exact Bc|refine Bb (by first|exact D3|exact ADb|(simp [or_imp,forall_and,oid];done)|(simp [or_imp,forall_and,oid]<;>omega)) ?_)) (by simp [ObjLow,or_imp,forall_and]) (by simp)
 have hxe:p.trees.length≤i:=by simpa using ht20
 have hm:=AD9 hxe hi.2
 refine n5 ?_;refine Z68 ?_;exact A8 (B1 (B3 jA jS) A9) ⟨by rw [hm]<;>rfl,rfl⟩ (hlow:=by simp [or_imp,forall_and])

theorem c53 (p:Pln) (c:List Col) (rows:List Row) (Hp:List AObj):AFun Tryz.prog 53 [Yh p,An c,Gy rows] Hp (.fn (.func 99) [] [.ro [Gy rows],.ro [An c],.ro (Zu p)]):=by
 refine Ae [.tmp 6] [0,1,2] Tryz.func53 Tryz.ntmps53 (fun d=>?_)
 refine Z23 ?_;refine A2 [3,4,5] ?_;refine mx ?_;refine Z72 ?_;exact A8 (Ak A9) ⟨rfl,rfl⟩ (hlow:=by simp [or_imp,forall_and]<;>(repeat' apply And.intro)<;>(intros;exact Ah _ _))

theorem c99 (l:Nat) (p:Pln) (hp:PW p) (c:List Col) (hc:OkCols c) (rows:List Row) (hw:RW rows) (U:Nat→List AObj) (N:Nat→Prop) (Z:List AObj→Prop) (hlen:∀k,(U k).length=(U 0).length) (hll:l<(U 0).length)
  (hlw:∀k,∀x∈U k,ObjLow (U 0).length x) (h0:N 0) (hn:∀k y,rows[k]? = some y→N k→(stP p c y).2=0→(stP p c y).1=false→N (k+1)∧U (k+1)=U k)
  (he:∀k y X,rows[k]? = some y→N k→(stP p c y).2≠0→AYield Tryz.prog l [.agg [A3 0,.nil],A3 (stP p c y).2] (U k++X) (fun b H'=>∃V,H'=V++X∧V.length=(U 0).length∧(∀x∈V,ObjLow (U 0).length x)∧Z V))
  (hy:∀k y X,rows[k]? = some y→N k→(stP p c y).2=0→(stP p c y).1=true→AYield Tryz.prog l [Eh (Lm p c y),A3 0] (U k++X) (fun b H'=>(b=true∧N (k+1)∧H'=U (k+1)++X)∨(b=false∧∃V,H'=V++X∧V.length=(U 0).length∧(∀x∈V,ObjLow (U 0).length x)∧Z V)))
  (hR:N rows.length→Z (U rows.length)):ACall Tryz.prog 99 [.yield l,.ro [Gy rows],.ro [An c],.ro (Zu p)] (U 0) (fun _ H'=>Z H'):=by
 refine Ae [] [0,1,2,3] Tryz.func99 Tryz.ntmps99 (fun d=>?_)
 refine Z15 ?_;refine A2 [0,2,3,10,11,12] ?_
 refine Bf (α:=Nat) (fun x=>⟨54,A6 0 (.yield l) (A6 2 (.ro [An c]) (A6 3 (.ro (Zu p)) (A6 10 (Gy rows) (A6 11 (A3 rows.length) (A6 12 (A3 (x:Nat)) (fun _=>.any)))))),U x,[],[],none⟩) (fun x=>x≤rows.length∧N x) (fun x=>rows.length-x) (0) ⟨Ar _,h0⟩ (Bj (by simp)) rfl (fun x hx=>?_)
 refine Z2 ?_;refine A2 [0,2,3,10,11,12,13] ?_
 refine Cr (fun ht13=>?_) (fun ht13=>?_)
 ·have hlt:x<rows.length:=by simpa using ht13
  have hwl:=hw.len
  refine Z76 ?_
  refine A5 (h:=Ai (x) (Eh rows[x]) (fun _=>B6 hlt)) (hr:=?_)
  refine Qw ?_;refine A2 [0,2,3,6,10,11,12] ?_;refine Z1 ?_;refine A2 [0,2,3,6,7,8,10,11,12] ?_
  refine Qv ⟨54,A6 0 (.yield l) (A6 2 (.ro [An c]) (A6 3 (.ro (Zu p)) (A6 6 (.ptr (oid (U x).length 0) 0) (A6 7 (Az (Js p c rows[x].l).1) (A6 8 (A3 (Js p c rows[x].l).2) (A6 10 (Gy rows) (A6 11 (A3 rows.length) (A6 12 (A3 (x:Nat)) (fun _=>.any))))))))),U x,[AObj.cells 58 (pg rows[x])],[],none⟩ ?_ ?_
  ·refine Z15 ?_;refine Aa Tryz.call47 (c47 c hc rows[x].l (hw.at hlt).1 _) ?_;refine A2 [0,2,3,6,7,8,10,11,12,19] ?_
   refine A4 (fun ht19=>?_) (fun ht19=>?_)
   ·have hm:Js p c rows[x].l=V7 p c rows[x].l:=if_pos ht19
    refine Z22 ?_;refine Z0 ?_;refine Aa Tryz.call100 (ARb p hp c hc rows[x].l (hw.at hlt).1 (hw.at hlt).2 _) ?_;refine Z81 ?_;refine A2 [0,2,3,6,7,8,10,11,12] ?_;refine K.thJ ?_
    rw [hm]
    exact Bj rfl
   have hm:Js p c rows[x].l=(false,1):=if_neg (by rw [ht19];simp)
   refine Fd [0,2,3,6,7,8,10,11,12] ?_;refine Mw ?_;refine K.thJ ?_
   rw [hm]
   exact Bj rfl
  refine Z24 ?_;refine A2 [0,2,3,6,7,8,9,10,11,12] ?_;refine Z31 ?_;refine Z48 ?_;refine A2 [0,2,3,6,7,8,9,10,11,12,32] ?_
  refine A4 (fun ht32=>?_) (fun ht32=>?_)
  ·have hg:P7 p c rows[x]=true:=ht32
   have hs:=AH9 hg
   have hg1:(Js p c rows[x].l).1=true:=by unfold P7 at hg;simp only [At] at hg;exact hg.2
   refine Z49 ?_;refine Aa Tryz.call101 (ARc p hp c hc rows[x] (hw.at hlt).1 (hw.at hlt).2 _) ?_;refine Z13 ?_;refine Z9 ?_;refine A2 [0,2,3,7,8,9,10,11,12] ?_;refine Gg ?_;refine Z7 ?_;refine A2 [0,2,3,7,8,9,10,11,12,41] ?_
   refine A4 (fun ht41=>?_) (fun ht41=>?_)
   ·refine Z96 ?_;refine A5 ?_
    refine R.yield (l:=l) (args:=[.agg [A3 0,.nil],A3 (Ly p c rows[x]).2]) (by have h9:=fun X=>he x rows[x] X (Ab hlt) hx.2 (by rw [hs];simpa using ht41);rw [hs] at h9;exact h9 _) ?_
    rintro b V O hV ⟨W,h2,h3,h4,h5⟩
    obtain ⟨rfl,rfl⟩:=I3 h2 (by rw [hV,hlen x,h3])
    refine ⟨fun _=>by rw [h3];exact h4,fun o ho=>(by cases ho),?_⟩
    refine zc ?_;exact AHy
   refine Z98 ?_;refine Z6 ?_
   refine G.yield (l:=l) (C:=((Js p c rows[x].l).1==true)) (args:=[Eh (Ly p c rows[x]).1,A3 0]) (fun hC=>hy x rows[x] _ (Ab hlt) hx.2 (by rw [hs];simpa using ht41) (by rw [hs])) ?_
   intro b V O hV hb hb0
   have hVO:O=[AObj.cells 58 (pg rows[x]),AObj.cells 58 (pg (Ly p c rows[x]).1)]∧((b=true∧N (x+1)∧V=U (x+1))∨(b=false∧V.length=(U 0).length∧(∀y∈V,ObjLow (U 0).length y)∧Z V)):=by
    rcases hb (by rw [hg1];rfl) with ⟨h1,h3,h2⟩|⟨h1,W,h2,h3,h4,h5⟩
    ·have h6:=I3 h2 (by rw [hV,hlen x,hlen (x+1)])
     exact ⟨h6.2,.inl ⟨h1,h3,h6.1⟩⟩
    obtain ⟨rfl,rfl⟩:=I3 h2 (by rw [hV,hlen x,h3])
    exact ⟨rfl,.inr ⟨h1,h3,h4,h5⟩⟩
   obtain ⟨rfl,hVO⟩:=hVO
   have hVl:V.length=(U 0).length:=by rw [hV,hlen x]
   have hVw:∀y∈V,ObjLow (U 0).length y:=by
    rcases hVO with ⟨_,_,rfl⟩|⟨_,_,h,_⟩
    ·exact hlw _
    exact h
   refine ⟨fun _=>by rw [hVl];exact hVw,fun o ho=>(by cases ho),?_⟩
   refine Z48 ?_;refine A2 [0,2,3,10,11,12,52] ?_
   refine A4 (fun ht52=>?_) (fun ht52=>?_)
   ·have hRV:Z V:=by
     rcases hVO with ⟨h2,_⟩|⟨_,_,_,h5⟩
     ·rw [hg1,h2] at ht52;simp at ht52
     exact h5
    refine Fs ?_;refine Z32 ?_;exact A8 .nores (hp:=hRV)
   have hVn:N (x+1)∧V=U (x+1):=by
    rcases hVO with ⟨_,h2,h3⟩|⟨h2,_⟩
    ·exact ⟨h2,h3⟩
    rw [hg1,h2] at ht52;simp at ht52
   obtain ⟨hN,rfl⟩:=hVn
   refine Z73 ?_;refine A2 [0,2,3,10,11,12] ?_;refine AEb ?_
   exact Di (own:=[]) (fun _=>.refl _) (by repeat (first|exact Bc|refine Bb (by first|(simp [or_imp,forall_and];done)|(simp [or_imp,forall_and]<;>(repeat' apply And.intro)<;>(intros;exact Ah _ _))|(have:=hlen (x+1);simp;omega)) ?_)) (by simp) (by simp)
  have hg:P7 p c rows[x]=false:=ht32
  have hs:=ACq hg
  refine Zi ?_;refine A2 [0,2,3,7,8,9,10,11,12,41] ?_
  refine A4 (fun ht41=>?_) (fun ht41=>?_)
  ·refine Z96 ?_;refine A5 ?_
   refine R.yield (l:=l) (args:=[.agg [A3 0,.nil],A3 (Js p c rows[x].l).2]) (by have h9:=fun X=>he x rows[x] X (Ab hlt) hx.2 (by rw [hs];simpa using ht41);rw [hs] at h9;exact h9 _) ?_
   rintro b V O hV ⟨W,h2,h3,h4,h5⟩
   obtain ⟨rfl,rfl⟩:=I3 h2 (by rw [hV,hlen x,h3])
   refine ⟨fun _=>by rw [h3];exact h4,fun o ho=>(by cases ho),?_⟩
   refine zc ?_;exact AHy
  have hg1:(Js p c rows[x].l).1=false:=by unfold P7 at hg;rw [show ((Js p c rows[x].l).2==0)=true by simpa using ht41] at hg;simpa using hg
  refine Z98 ?_;refine Z6 ?_
  refine G.yield (l:=l) (C:=((Js p c rows[x].l).1==true)) (args:=[.agg [A3 0,.nil],A3 0]) (post:=fun _ _=>False) (fun hC=>by rw [hg1] at hC;cases hC) ?_
  intro b V O hV hb hb0
  obtain ⟨h1,h2⟩:=hb0 (by rw [hg1];rfl)
  subst h2
  obtain ⟨hN,hU⟩:=hn x _ (Ab hlt) hx.2 (by rw [hs];simpa using ht41) (by rw [hs];exact hg1)
  have hV2:V=U (x+1):=h1.trans hU.symm
  subst hV2
  refine ⟨fun _=>by rw [hlen (x+1)];exact hlw _,fun o ho=>(by cases ho),?_⟩
  refine Z48 ?_;refine A2 [0,2,3,10,11,12,52] ?_
  refine A4 (fun ht52=>?_) (fun ht52=>?_)
  ·rw [hg1] at ht52
   simp at ht52
  refine Z73 ?_;refine A2 [0,2,3,10,11,12] ?_;refine AEb ?_
  exact Di (own:=[]) (fun _=>.refl _) (by repeat (first|exact Bc|refine Bb (by first|(simp [or_imp,forall_and];done)|(simp [or_imp,forall_and]<;>(repeat' apply And.intro)<;>(intros;exact Ah _ _))|(have:=hlen (x+1);simp;omega)) ?_)) (by simp) (by simp)
 have hxe:x=rows.length:=by have:=hx.1;simp at ht13;omega
 exact AHn

theorem AJs {p:Pln} {c:List Col} {rows:List Row} (h:P8 p c=true):Yi p c rows=([],1):=if_pos h
theorem AJt {p:Pln} {c:List Col} {rows:List Row} (h:P8 p c=false) (h1:(p.lim==0)=true):Yi p c rows=([],0):=by
 unfold Yi;rw [if_neg (by rw [h];simp),if_pos h1]
theorem AJu {p:Pln} {c:List Col} {rows:List Row} (h:P8 p c=false) (h1:(p.lim==0)=false):Yi p c rows=Ki (stP p c) (Lm p c) p.lim rows []:=by
 unfold Yi;rw [if_neg (by rw [h];simp),if_neg (by rw [h1];simp)]
theorem c22 (p:Pln) (hp:PW p) (c:List Col) (hc:OkCols c) (rows:List Row) (hw:RW rows) (Hp:List AObj):AFun Tryz.prog 22 [Yh p,An c,Gy rows] Hp (.tup [Gy (Yi p c rows).1,A3 (Yi p c rows).2]):=by
 refine Ae [.cell 6 52,.cell 7 38] [0,1,2] Tryz.func22 Tryz.ntmps22 (fun d=>?_)
 refine zu ?_;refine R0 ?_;refine A2 [1,2,3,6,7] ?_;refine Z30 ?_;refine Aa Tryz.call50 (c50 c hc _) ?_;refine Z35 ?_;refine C3 Tryz.call51 (fun hB=>ANu p.trees hp.len hp.tok _) ?_;refine Z77 ?_;refine Z69 ?_;refine C3 Tryz.call52 (fun hB=>c52 p.whr hp.ok _) ?_;refine Z48 ?_;refine A2 [1,2,3,6,7,29] ?_
 refine A4 (fun ht29=>?_) (fun ht29=>?_)
 ·have hm:=AJs (rows:=rows) ht29
  refine zg ?_;refine Kz 0 2 ?_;refine Fw ?_;refine Z17 ?_;exact ADq
 have hwr:P8 p c=false:=ht29
 refine Z3 ?_;refine Z24 ?_;refine A2 [1,2,3,6,7,8] ?_;refine Z31 ?_;refine A2 [1,2,3,6,7,8,32] ?_
 refine A4 (fun ht32=>?_) (fun ht32=>?_)
 ·have hm:=AJt (rows:=rows) hwr ht32
  refine zg ?_;refine Kz 0 2 ?_;refine Fw ?_;refine Z17 ?_;exact ADq
 have hy:=AJu (rows:=rows) hwr ht32
 refine Z3 ?_;refine Z54 ?_;refine Kz 2 2 ?_
 refine Jx (fun hlow=>?_)
 refine Z13 ?_;refine Aa Tryz.call53 (c53 p c rows _) ?_;refine A2 [3,6,7,8,36] ?_;refine Jy ?_
 refine L0 (m:=3) Tryz.call99 (fun FR as' bd' hFR has hbd=>?_)
 have hFRl:∀s,Low (Hp.length+5) (FR s):=by
  intro s
  rw [hFR]
  refine M3 ?_
  revert s
  repeat (first|exact Bc|refine Bb (by first|(simp [oid,or_imp,forall_and];done)|(simp [oid,or_imp,forall_and]<;>(first|omega|((repeat' apply And.intro)<;>(intros;exact Ah _ _))))) ?_)
 have hOl:∀{e:Int} {o:List Row} {lp:AObj},ObjLow (Hp.length+5) lp→∀x∈Hp++[AObj.cells 52 [AV.nil],AObj.cells 38 [A3 e],AObj.cells 52 [AV.slice true 2 ((o).map Eh)],AObj.defs,lp],ObjLow (Hp.length+5) x:=by
  intro e o lp hlp x hx
  refine Ic (fun x hx=>L4 (by omega) (hlow x hx)) (fun x hx=>?_) x hx
  simp only [B4,E2,or_false] at hx
  rcases hx with rfl|rfl|rfl|rfl|rfl
  ·intro y hy;rw [B7.1 hy];simp
  ·intro y hy;rw [B7.1 hy];simp
  ·intro y hy;rw [B7.1 hy];exact ce
  ·trivial
  exact hlp
 refine ⟨_,c99 (oid Hp.length 4) p hp c hc rows hw (fun k=>Hp++[AObj.cells 52 [AV.nil],AObj.cells 38 [A3 0],AObj.cells 52 [AV.slice true 2 ((Lj (stP p c) (Lm p c) rows k).map Eh)],AObj.defs,AObj.loop LoopState.ready none FR 52 #[37,38] as' bd' (oid Hp.length 3)]) (NSt (stP p c) (Lm p c) p.lim rows) (fun V=>(∃o lp,V=Hp++[AObj.cells 52 [AV.nil],AObj.cells 38 [A3 0],AObj.cells 52 [AV.slice true 2 ((o).map Eh)],AObj.defs,lp]∧(lp=AObj.loop LoopState.ready none FR 52 #[37,38] as' bd' (oid Hp.length 3)∨lp=AObj.loop LoopState.done (some (Code.exit 0)) FR 52 #[37,38] as' bd' (oid Hp.length 3))∧Ki (stP p c) (Lm p c) p.lim rows []=(o,0))∨(∃e k,V=Hp++[AObj.cells 52 [AV.nil],AObj.cells 38 [A3 e],AObj.cells 52 [AV.slice true 2 ((Lj (stP p c) (Lm p c) rows k).map Eh)],AObj.defs,AObj.loop LoopState.done (some Code.ret) FR 52 #[37,38] as' bd' (oid Hp.length 3)]∧Ki (stP p c) (Lm p c) p.lim rows []=([],e))) (fun k=>by simp) (by simp [oid]) (fun k=>(fun x hx=>by rw [Av];exact hOl (lp:=AObj.loop LoopState.ready none FR 52 #[37,38] as' bd' (oid Hp.length 3)) (by exact ⟨hFRl,by simp [oid]⟩) x hx)) ANf (fun k y hk hN he0 hf=>⟨ACp hk hN he0 hf,by simp only [cd (h:=stP p c) hk hf]⟩) (fun k y X hk hN hne=>?_) (fun k y X hk hN he0 hf=>?_) (fun hN=>.inl ⟨_,_,rfl,.inl rfl,AG3 hN⟩),?_⟩
 ·generalize hV:Hp++[AObj.cells 52 [AV.nil],AObj.cells 38 [A3 0],AObj.cells 52 [AV.slice true 2 ((Lj (stP p c) (Lm p c) rows k).map Eh)],AObj.defs,AObj.loop LoopState.ready none FR 52 #[37,38] as' bd' (oid Hp.length 3)]++X=V
  have hL:V[oid Hp.length 4]? = some (AObj.loop LoopState.ready none FR 52 #[37,38] as' bd' (oid Hp.length 3)):=by rw [←hV,Ax,As];rfl
  have hA0:V[oid Hp.length 2]? = some (AObj.cells 52 [AV.slice true 2 ((Lj (stP p c) (Lm p c) rows k).map Eh)]):=by rw [←hV,Ax,As];rfl
  have hB0:V[oid Hp.length 0]? = some (AObj.cells 52 [AV.nil]):=by rw [←hV,Ax,As];rfl
  have hC0:V[oid Hp.length 1]? = some (AObj.cells 38 [A3 0]):=by rw [←hV,Ax,As];rfl
  refine Iy (pd:=none) (fr:=FR) (sz:=52) (ps:=#[37,38]) (df:=oid Hp.length 3) (asg:=as') (bd:=bd') hL rfl (by decide) (fun d=>?_)
  subst hFR has hbd
  refine Fd [3,6,7,8,37,38] ?_;refine Ze ?_;refine A2 [3,6,7,8,9,38] ?_;refine Z44 ?_;refine A2 [3,6,7,8,9,10] ?_
  refine ⟨rfl,none,hL,?_⟩
  generalize hbz:(AObj.loop LoopState.busy _ _ _ _ _ _ _)=bz
  have hA:(V.set (oid Hp.length 4) bz)[oid Hp.length 2]? = some (AObj.cells 52 [AV.slice true 2 ((Lj (stP p c) (Lm p c) rows k).map Eh)]):=by rw [Bh (Bv (by decide))];exact hA0
  have hB:(V.set (oid Hp.length 4) bz)[oid Hp.length 0]? = some (AObj.cells 52 [AV.nil]):=by rw [Bh (Bv (by decide))];exact hB0
  have hC:(V.set (oid Hp.length 4) bz)[oid Hp.length 1]? = some (AObj.cells 38 [A3 0]):=by rw [Bh (Bv (by decide))];exact hC0
  refine mw ?_;refine A2 [3,6,7,8,9,10,40] ?_
  refine A4 (fun ht40=>?_) (fun ht40=>?_)
  ·refine Z2 ?_
   refine Cq jS hB ?_ ?_
   ·simp
   refine Cq jS (ANh hC (Bv (by decide))) ?_ ?_
   ·simp
   refine uj ?_
   subst hbz
   refine ut ?_
   refine ⟨Hp++[AObj.cells 52 [AV.nil],AObj.cells 38 [A3 (stP p c y).2],AObj.cells 52 [AV.slice true 2 ((Lj (stP p c) (Lm p c) rows k).map Eh)],AObj.defs,_],?_,by simp,(fun x hx=>by rw [Av];exact hOl (lp:=_) (by exact ⟨hFRl,by simp [oid]⟩) x hx),.inr ⟨_,_,rfl,AG1 hk hN hne⟩⟩
   subst hV
   simp only [Ax,Cp,Dk,D9,List.set_cons_succ,List.set_cons_zero]
  exact absurd hne (by simpa using ht40)
 ·generalize hV:Hp++[AObj.cells 52 [AV.nil],AObj.cells 38 [A3 0],AObj.cells 52 [AV.slice true 2 ((Lj (stP p c) (Lm p c) rows k).map Eh)],AObj.defs,AObj.loop LoopState.ready none FR 52 #[37,38] as' bd' (oid Hp.length 3)]++X=V
  have hL:V[oid Hp.length 4]? = some (AObj.loop LoopState.ready none FR 52 #[37,38] as' bd' (oid Hp.length 3)):=by rw [←hV,Ax,As];rfl
  have hA0:V[oid Hp.length 2]? = some (AObj.cells 52 [AV.slice true 2 ((Lj (stP p c) (Lm p c) rows k).map Eh)]):=by rw [←hV,Ax,As];rfl
  have hB0:V[oid Hp.length 0]? = some (AObj.cells 52 [AV.nil]):=by rw [←hV,Ax,As];rfl
  have hC0:V[oid Hp.length 1]? = some (AObj.cells 38 [A3 0]):=by rw [←hV,Ax,As];rfl
  refine Iy (pd:=none) (fr:=FR) (sz:=52) (ps:=#[37,38]) (df:=oid Hp.length 3) (asg:=as') (bd:=bd') hL rfl (by decide) (fun d=>?_)
  subst hFR has hbd
  refine Fd [3,6,7,8,37,38] ?_;refine Ze ?_;refine A2 [3,6,7,8,9,38] ?_;refine Z44 ?_;refine A2 [3,6,7,8,9,10] ?_
  refine ⟨rfl,none,hL,?_⟩
  generalize hbz:(AObj.loop LoopState.busy _ _ _ _ _ _ _)=bz
  have hA:(V.set (oid Hp.length 4) bz)[oid Hp.length 2]? = some (AObj.cells 52 [AV.slice true 2 ((Lj (stP p c) (Lm p c) rows k).map Eh)]):=by rw [Bh (Bv (by decide))];exact hA0
  have hB:(V.set (oid Hp.length 4) bz)[oid Hp.length 0]? = some (AObj.cells 52 [AV.nil]):=by rw [Bh (Bv (by decide))];exact hB0
  have hC:(V.set (oid Hp.length 4) bz)[oid Hp.length 1]? = some (AObj.cells 38 [A3 0]):=by rw [Bh (Bv (by decide))];exact hC0
  refine mw ?_;refine A2 [3,6,7,8,9,10,40] ?_
  refine A4 (fun ht40=>?_) (fun ht40=>?_)
  ·simp at ht40
  refine il ?_;refine AE2 ?_
  refine Ep jU Tryz.type58 ?_ ?_ ?_
  ·have hwl:=hw.len;have:=l9 (h:=stP p c) (g:=Lm p c) (rows:=rows) k;simp [Tryz.t58];omega
  ·have hwl:=hw.len;have:=l9 (h:=stP p c) (g:=Lm p c) (rows:=rows) k;simp [Tryz.t58];omega
  refine Fv jS (getset hA) ?_ ?_
  ·exact cf
  refine A2 [3,8] ?_;refine Ez ?_
  refine A5 (h:=B8 (getset (getset hA))) (hr:=?_)
  refine Z57 ?_;refine A2 [50] ?_
  refine A4 (fun ht50=>?_) (fun ht50=>?_)
  ·refine Zy ?_;refine K.blO (by decide) ?_
   subst hbz
   refine K.rdE (i9 hL (Bv (by decide)) (Bv (by decide))) ?_
   refine .inr ⟨rfl,Hp++[AObj.cells 52 [AV.nil],AObj.cells 38 [A3 0],AObj.cells 52 [AV.slice true 2 ((Lj (stP p c) (Lm p c) rows (k+1)).map Eh)],AObj.defs,_],?_,by simp,(fun x hx=>by rw [Av];exact hOl (lp:=_) (by exact ⟨hFRl,by simp [oid]⟩) x hx),.inl ⟨_,_,rfl,.inr rfl,AG2 hk hN he0 hf (by simpa using ht50)⟩⟩
   subst hV
   simp only [Ax,Cp,Dk,D9,List.set_cons_succ,List.set_cons_zero]
   rw [Vw hk hf,Bq]
   rfl
  refine uh ?_
  subst hbz
  refine zw ?_
  refine .inl ⟨rfl,AJh hk hN he0 hf (by simpa using ht50),?_⟩
  subst hV
  simp only [Ax,Cp,Dk,D9,List.set_cons_succ,List.set_cons_zero]
  rw [Vw hk hf,Bq]
  rfl
 rintro r H' (⟨o,lp,rfl,rfl|rfl,hrun⟩|⟨e,k,rfl,hrun⟩)
 ·refine ⟨Hp,_,_,_,rfl,rfl,fun h=>h,?_,rfl,by simp,?_⟩
  ·intro o ho
   have:o=oid Hp.length 3:=by simpa using ho
   subst this
   rw [As]
   rfl
  refine Z12 ?_;refine mu ?_;exact AKc
 ·refine ⟨Hp,_,_,_,rfl,rfl,fun h=>h,?_,rfl,by simp,?_⟩
  ·intro o ho
   have:o=oid Hp.length 3:=by simpa using ho
   subst this
   rw [As]
   rfl
  refine Zy ?_;refine K.blE ?_;refine Gg ?_;refine mu ?_;exact AKc
 refine ⟨Hp,_,_,_,rfl,rfl,fun h=>h,?_,rfl,by simp,?_⟩
 ·intro o ho
  have:o=oid Hp.length 3:=by simpa using ho
  subst this
  rw [As]
  rfl
 refine Wm 0 2 ?_;refine Zf ?_;exact A8 (B1 (Dm jA) (Dm jA)) ⟨by rw [hy,hrun];rfl,rfl⟩

theorem AGp {rows:List Row} (h:Qb rows=false) (hg:∀x∈rows,∀v∈x.l, -9223372036854775808≤v.n∧v.n≤9223372036854775807):RW rows∧rows.length≤60:=by
 unfold Qb at h
 simp only [E1,decide_eq_false_iff_not] at h
 obtain ⟨h1,h2⟩:=h
 refine ⟨⟨by omega,fun x hx=>⟨?_,hg x hx⟩⟩,by omega⟩
 have h3:=I2.1 h2 x hx
 exact ACn (by simpa using h3)
theorem xq {q:Qry} {c:List Col} {rows:List Row} (hw:RW rows) (hq:q.cols.length≤1048576) (k:Nat):∀x∈H1 q c rows k,x.l.length≤1048576:=by
 intro x hx
 unfold H1 at hx
 obtain ⟨y,hy,rfl⟩:=C2.1 hx
 have h1:=(hw.each y (Mq (d9.1 hy).1)).1
 unfold It
 show (if q.all=true then y.l else q.cols.map _).length≤1048576
 split
 ·exact h1
 rw [Ao];exact hq
theorem Yv {q:Qry} {c:List Col} {rows:List Row}:∀(r:List Row) (k:Nat),rows.drop k=r→(Mb q c r (H1 q c rows k)).1=[]∨∃j,(Mb q c r (H1 q c rows k)).1=H1 q c rows j
 | [],k,_=>.inr ⟨k,rfl⟩
 | x::r,k,hk=>by
  have hx:rows[k]? = some x:=by
   have:(rows.drop k)[0]? = some x:=by rw [hk];rfl
   simpa using this
  have hr:rows.drop (k+1)=r:=by
   have:=Su hx
   rw [hk] at this
   injection this with _ h
   exact h.symm
  rw [Mb]
  split
  ·exact .inl rfl
  split
  ·rename_i h1
   have e:=Ss hx h1
   split
   ·exact .inr ⟨k+1,e.symm⟩
   rw [←e];exact Yv r (k+1) hr
  rename_i h1
  rw [←Ud hx (by simpa using h1)]
  exact Yv r (k+1) hr
theorem AGq {q:Qry} {c:List Col} {rows:List Row} (hw:RW rows) (hq:q.cols.length≤1048576):(Sk q c rows).1.length≤rows.length∧∀x∈(Sk q c rows).1,x.l.length≤1048576:=by
 unfold Sk
 split
 ·exact ⟨Ar _,fun x hx=>by cases hx⟩
 rcases Yv (q:=q) (c:=c) (rows:=rows) rows 0 rfl with h|⟨j,h⟩
 ·rw [show ([]:List Row)=H1 q c rows 0 from rfl,h]
  exact ⟨Ar _,fun x hx=>by cases hx⟩
 rw [show ([]:List Row)=H1 q c rows 0 from rfl,h]
 exact ⟨Yk _ _ _ _,xq hw hq j⟩
theorem AGr {q:Qry} {c:List Col} {l:List Expr} (hq:QW q) (ht:TOk l) (hl:l.length≤1048576):PW (Hj q c l).1:=by
 have h1:(∀e∈Dg q c l,okE 61 e∧E0 Hb e=true)∧(Dg q c l).length≤1048576:=by
  unfold Dg
  split
  ·exact ⟨fun e he=>⟨ht.ok e he,ht.rng e he⟩,hl⟩
  refine ⟨fun e he=>?_,by rw [Ao];exact hq.len⟩
  obtain ⟨s,_,rfl⟩:=C2.1 he
  unfold Ih
  rw [Bw]
  cases hx:l[(Aw s c).toNat]? with
  | none=>exact ⟨L6 (by decide),by kernel_rfl⟩
  | some y=>exact ⟨ht.ok y (B2 hx),ht.rng y (B2 hx)⟩
 have h0:okE 61 Au∧E0 Hb Au=true:=⟨L6 (by decide),by kernel_rfl⟩
 unfold Hj
 split
 ·exact ⟨h0.1,h0.2,fun e he=>(h1.1 e he).1,fun e he=>(h1.1 e he).2,h1.2⟩
 split
 ·exact ⟨h0.1,h0.2,(fun e he=>by cases he),(fun e he=>by cases he),Ar _⟩
 rename_i h2
 have:=Y8 hq.ok hq.rng ht (by simpa using h2)
 exact ⟨this.1,this.2.1,fun e he=>(h1.1 e he).1,fun e he=>(h1.1 e he).2,h1.2⟩
theorem AJv {q:Qry} {c:List Col} {l:List Mov} (hq:QW q) (hc:OkCols c) (h:OkMovs l) (h0:(Ba q c l).2=0):PW (Ba q c l).1:=by
 obtain ⟨hL,_,hF,e⟩:=AD8 h0
 obtain ⟨hs,hB⟩:=Vx hc h hL
 obtain ⟨ht,hl⟩:=Ym hc h hs
 rw [e]
 exact AGr hq ht (by rw [hl hF];exact hB.len)
/-! RewriteNone: without moves nothing turns. -/
theorem xt {c:List Col} {s:Str} {j:Nat} (h:Aw s c=(j:Int)) (hj:j<c.length):c[j].name=s:=by
 have hs:¬Aw s c<0:=by omega
 obtain ⟨i,y,h2,h4,h3⟩:=find_mem.1 hs
 have:i=j:=by omega
 subst this
 obtain ⟨_,e⟩:=Ad.1 h2
 rw [e]
 exact h4
theorem Yw {c:List Col} {s:Str} (h:¬Aw s c<0):(Dy c).getD (Aw s c).toNat Au=Cm s:=by
 obtain ⟨j,hj,hjl⟩:=Fl h
 rw [hj,Int.toNat_natCast,Bw]
 unfold Dy
 rw [Bz,Ab hjl]
 show Cm c[j].name=_
 rw [xt hj hjl]
mutual
theorem sx {c:List Col}:∀x y:Expr,E0 Ew x=true→putF c (Dy c) x=some y→y=x
 | .mk o s v k,y,hn,h=>by
  rw [Jf,At] at hn
  rw [putF] at h
  by_cases h2:(o==2)=true
  ·rw [if_pos h2] at h
   have h3:o=2:=by simpa using h2
   subst h3
   split at h
   ·cases h
   rename_i hf
   injection h with h
   rw [←h,Yw hf]
   have hc:=L7 hn.1
   generalize hx:Expr.mk 2 s v k=x at hc
   cases hc with
   | val v' _ _=>injection hx with e;exact absurd e (by decide)
   | name t _=>injection hx with _ e;rw [e]
   | neg a=>injection hx with e;exact absurd e (by decide)
   | no a=>injection hx with e;exact absurd e (by decide)
   | bin t a b _=>injection hx with e;exact absurd e (by decide)
   | call t k' _=>injection hx with e;exact absurd e (by decide)
  rw [if_neg h2] at h
  cases hk:G8 c (Dy c) k with
  | none=>rw [hk] at h;cases h
  | some r =>
   rw [hk] at h
   injection h with h
   rw [←h,lr k r ((Fh _ _).1 hn.2) hk]
theorem lr {c:List Col}:∀k r:List Expr,(∀e∈k,E0 Ew e=true)→G8 c (Dy c) k=some r→r=k
  | [],r,_,h=>by
    rw [G8] at h
    injection h with h
    exact h.symm
  | e::k,r,hn,h=>by
    rw [G8] at h
    cases h1:putF c (Dy c) e with
    | none=>rw [h1] at h;cases h
    | some y =>
      rw [h1] at h
      cases h2:G8 c (Dy c) k with
      | none=>simp only [h2] at h;cases h
      | some s =>
        simp only [h2] at h
        injection h with h
        rw [←h,sx e y (hn e Gk) h1,lr k s (fun z hz=>hn z (Hm _ hz)) h2]
 end
theorem ge {c:List Col}:(Dy c).length=c.length:=by unfold Dy;rw [Ao]
theorem ls {q:Qry} {c:List Col} (hc:Ci c=true) (hk:Bp q c=0) (ha:Jn q=true):Da q.whr c (Dy c)=(q.whr,0):=by
 obtain ⟨hr,hcp,hkd⟩:=gc hk
 have hx:=Yt hr ha
 have hn:E0 Ew q.whr=true:=Re (by rw [←Fx];exact hx)
 have hno:(Dy c).any Dx=false:=by
  rw [I2]
  intro e he
  unfold Dx
  rw [(FitT.own hc).rights e he]
  simp
 have hsub:=lm (c:=c) (c0:=c) (t:=Dy c) (fun s hs=>by
  have hf:¬Aw s c<0:=by
   intro hlt
   unfold L9 at hs
   rw [if_pos hlt] at hs
   exact absurd hs (by decide)
  rw [Yw hf,show Dj c (Cm s)=L9 c s by rw [Mj];rfl]
  exact ⟨hs,.inl rfl⟩) q.whr hn (hkd ha)
 obtain ⟨y,hy,_⟩:=hsub
 unfold Da
 rw [if_neg (by rw [hx,hno,hcp,ge];simp),hy]
 have:=sx q.whr y hn hy
 subst this
 simp only
 rw [if_pos hx]
theorem Uh {q:Qry} {c:List Col} (hc:Ci c=true) (hk:Bp q c=0):Hj q c (Dy c)=(⟨Dg q c (Dy c),q.whr,q.lim⟩,0):=by
 have hr:=(gc hk).1
 have ho:=sw hr
 cases ha:Jn q with
 | false =>
  rw [ha] at ho
  rw [AH7 (by rw [ho];rfl),su ha]
 | true =>
  rw [ha] at ho
  rw [AH8 (by rw [ho];rfl) (by rw [ls hc hk ha];rfl),ls hc hk ha]
theorem xu {c:List Col} (h:Ci c=true):E5 c []=(c,0):=Ua (Ue h)
theorem gg {c:List Col} (h:Ci c=false):((Hd c []).2 != 0)=true:=by
 unfold Hd Ke
 rw [h]
 rfl
theorem Yx {q:Qry} {c:List Col} (h:Ci c=true):Ba q c []=if Bp q c != 0 then (Hz,Bp q c) else Hj q c (Dy c):=by
 unfold Ba
 rw [xu h,x7 h]
 rfl
theorem xv {q:Qry} {c:List Col}:Li q c []=Ba q c []:=by
 cases h:Ci c with
 | false=>rw [sh (gb (gg h)).1,AHd (gb (gg h)).2]
 | true =>
  rw [Yx h]
  unfold Li
  rw [sg (Ue h),show (Fz c []).2=0 by unfold Fz Ke;rw [h];rfl]
  rfl
theorem Yy {q:Qry} {c:List Col} (h:Ci c=false):Ba q c []=(Hz,1):=sh (gb (gg h)).1
theorem xw {q:Qry} {c:List Col} (h:12<c.length):(Ba q c []).2=1:=by
 rw [Yy]
 unfold Ci
 rw [show decide ((c.length:Int)≤12)=false by simp;omega]
 rfl
theorem ADc {q:Qry} {c:List Col} (h:c.length≤12) (he:(Ba q c []).2≠0):(Ba q c []).2=Bp q c:=by
 cases hr:Ci c with
 | false =>
  rw [Yy hr]
  unfold Bp
  rw [if_pos]
  rw [N6]
  unfold Ci at hr
  rw [show decide ((c.length:Int)≤12)=true by simp;omega,Mp] at hr
  rw [hr]
  simp
 | true =>
  rw [Yx hr] at he ⊢
  split
  ·rfl
  rename_i h1
  rw [if_neg h1,Uh hr (by simpa using h1)] at he
  exact absurd rfl he
/-- What there is where there is no error. -/
theorem AGs {q:Qry} {c:List Col} (he:(Ba q c []).2=0):Ci c=true∧Bp q c=0∧(Ba q c []).1=⟨Dg q c (Dy c),q.whr,q.lim⟩:=by
 cases hr:Ci c with
 | false=>rw [Yy hr] at he;exact absurd he (by decide)
 | true =>
  rw [Yx hr] at he ⊢
  split at he
  ·rename_i h1
   rw [show Bp q c=0 from he] at h1
   cases h1
  rename_i h1
  have hk:Bp q c=0:=by simpa using h1
  rw [if_neg h1,Uh hr hk]
  exact ⟨rfl,hk,rfl⟩
theorem ADd {q:Qry} {c:List Col} {rows:List Row} (hc:Ci c=true) (hk:Bp q c=0):Yi ⟨Dg q c (Dy c),q.whr,q.lim⟩ c rows=Sk q c rows:=by
 have e:=Uh hc hk
 have hP:=pv (t:=Dy c) hk (by rw [e])
 rw [e] at hP
 have hn:=Lk hk
 refine AD6 (AD7 hP (pw hc) (FitT.own hc).rights ge hn) hk hP.lim ?_
 have:=lq (f:=id) (h:=stP ⟨Dg q c (Dy c),q.whr,q.lim⟩ c) (g:=Lm ⟨Dg q c (Dy c),q.whr,q.lim⟩ c) (h':=fun x=>C4 q c x.l) (g':=It q c) (n:=q.lim) rows [] (fun x hx=>by
  cases hp:Im c x.l with
  | true =>
   have hl:x.l.length=c.length:=by
    unfold Im at hp
    simp only [At,beq_iff_eq] at hp
    exact hp.1.2
   have h1:=ANs x.key hP (Comes.own hc hp) hl hp hp hn
   exact ⟨h1.1,fun _=>h1.2⟩
  | false =>
   have h1:Js ⟨Dg q c (Dy c),q.whr,q.lim⟩ c x.l=(false,1):=if_neg (by rw [hp];simp)
   have h2:C4 q c x.l=(false,1):=if_pos (by rw [hp];rfl)
   have h3:P7 ⟨Dg q c (Dy c),q.whr,q.lim⟩ c x=false:=by unfold P7;rw [h1];rfl
   refine ⟨by show stP _ c x=_;rw [ACq h3,h1,h2],fun h=>?_⟩
   rw [h2] at h
   cases h)
 rwa [List.map_id] at this
theorem lu {q:Qry} {c:List Col}:(Dg q c (Dy c)).length=if q.all then c.length else q.cols.length:=by
 unfold Dg
 split
 ·exact ge
 exact Ao ..
theorem xy {q:Qry} {c:List Col} (hk:Bp q c=0) {i:Nat} (hi:i<(Dg q c (Dy c)).length):(Dg q c (Dy c))[i]=Cm (if q.all then (c.getD i ⟨[],0⟩).name else q.cols.getD i []):=by
 have hn:=Lk hk
 apply Option.some.inj
 rw [←Ab hi]
 rw [lu] at hi
 unfold Dg
 cases ha:q.all with
 | true =>
  rw [ha] at hi
  simp only [↓reduceIte] at hi ⊢
  unfold Dy
  rw [Bz,Ab hi,Bw,Ab hi]
  rfl
 | false =>
  rw [ha] at hi
  simp only [Bt,↓reduceIte] at hi ⊢
  rw [Bz,Ab hi,Bw,Ab hi]
  show some (Ih c (Dy c) q.cols[i])=some (Cm q.cols[i])
  unfold Ih
  rw [Yw (hn _ (Be hi))]
theorem W0:OkMovs []:=⟨by decide,fun m hm=>by cases hm⟩
theorem ARd (q:Qry) (hq:QW q) (c:List Col) (hc:OkCols c) (hc2:c.length≤1000000) (Hp:List AObj):AFun Tryz.prog 11 [Nx q,An c,.nil] Hp (.tup [Yh (Ba q c []).1,A3 (Ba q c []).2]):=
 ACall.argLe (c11 q hq c hc hc2 [] W0 Hp) rfl fun i y y' h1 h2=>by
  match i with
  | 0=>simp at h1 h2;subst h1;subst h2;exact .refl _
  | 1=>simp at h1 h2;subst h1;subst h2;exact .refl _
  | 2=>simp at h1 h2;subst h1;subst h2;exact .nil false 5
  | i+3=>simp at h1
theorem ARe (q:Qry) (hq:QW q) (c:List Col) (hc:OkCols c) (hc2:c.length≤1000000) (Hp:List AObj):AFun Tryz.prog 12 [Nx q,An c,.nil] Hp (.tup [Yh (Ba q c []).1,A3 (Ba q c []).2]):=by
 have:=AQy q hq c hc hc2 [] W0 Hp
 rw [xv] at this
 refine ACall.argLe this rfl fun i y y' h1 h2=>?_
 match i with
 | 0=>simp at h1 h2;subst h1;subst h2;exact .refl _
 | 1=>simp at h1 h2;subst h1;subst h2;exact .refl _
 | 2=>simp at h1 h2;subst h1;subst h2;exact .nil false 5
 | i+3=>simp at h1
def nmQ (q:Qry) (c:List Col) (i:Nat):Str:=if q.all then (c.getD i ⟨[],0⟩).name else q.cols.getD i []
theorem c5 (q:Qry) (hg:E0 Hb q.whr=true) (c:List Col) (rows:List Row) (hgr:∀x∈rows,∀v∈x.l, -9223372036854775808≤v.n∧v.n≤9223372036854775807) (Hp:List AObj):AFun Tryz.prog 5 [Nx q,An c,Gy rows] Hp (Az true):=by
 refine Ae [.tmp 6] [0,1,2] Tryz.func5 Tryz.ntmps5 (fun d=>?_)
 refine Z1 ?_;refine A2 [1,2,3] ?_;refine Z54 ?_;refine Aa Tryz.call7 (c7 _) ?_;refine A5 ?_;refine A2 [1,2,3,18] ?_
 refine A4 (fun ht18=>?_) (fun ht18=>?_)
 ·cases ht18
 refine Oi ?_;refine Aa Tryz.call8 (c8 q _) ?_;refine A5 ?_;refine Cd ?_;refine C3 Tryz.call9 (fun hB=>c6u c _) ?_;refine Qx ?_;refine C3 Tryz.call19 (fun hB=>c19 rows _) ?_;refine A5 ?_;refine A2 [1,2,3,28] ?_
 refine A4 (fun ht28=>?_) (fun ht28=>?_)
 ·refine Z2 ?_;refine ie ?_;exact AI6
 have hw:(Sq q=false∧Lu c=false)∧Qb rows=false:=by simpa using ht28
 have hq:=AN5 hw.1.1 hg
 have hc:=rj hw.1.2
 have hc2:c.length≤1000000:=AD3 hw.1.2
 obtain ⟨hwR,hr60⟩:=AGp hw.2 hgr
 have hXp:=AGj hq hc W0
 refine Z98 ?_;refine Aa Tryz.call11 (ARd q hq c hc hc2 _) ?_;refine Pv ?_;refine A2 [1,2,3,7,8] ?_;refine Z1 ?_;refine Aa Tryz.call12 (ARe q hq c hc hc2 _) ?_;refine Pv ?_;refine A2 [1,2,3,7,8,9,10] ?_;refine Z7 ?_;refine Z35 ?_;refine Z48 ?_;refine A2 [1,2,3,7,8,9,10,48] ?_
 refine A4 (fun ht48=>?_) (fun ht48=>?_)
 ·have hl:12<c.length:=by simp at ht48;omega
  have hm:=xw (q:=q) hl
  refine Z23 ?_;refine Z6 ?_;refine Z0 ?_;exact AL4
 have hl:c.length≤12:=by simp at ht48;omega
 refine Zi ?_;refine A2 [1,2,3,7,8,9,57] ?_
 refine A4 (fun ht57=>?_) (fun ht57=>?_)
 ·have hm:=ADc hl (show (Ba q c []).2≠0 by simpa using ht57)
  refine Z15 ?_;refine Aa Tryz.call25 (c25 q hq c hc _) ?_;refine Z0 ?_;exact AL4
 have h0:(Ba q c []).2=0:=by simpa using ht57
 obtain ⟨hrc,hk,hX⟩:=AGs h0
 have hpw:=AJv hq hc W0 h0
 have hfa:=AGq (q:=q) (c:=c) hwR hq.len
 have hfa:(Sk q c rows).1.length≤1048576∧_:=⟨by omega,hfa.2⟩
 have hrun:Yi (Ba q c []).1 c rows=Sk q c rows:=by rw [hX];exact ADd hrc hk
 have hW:(Ba q c []).1.whr=q.whr:=by rw [hX]
 have htr:(Ba q c []).1.trees=Dg q c (Dy c):=by rw [hX]
 have hlen:(Ba q c []).1.trees.length=if q.all then c.length else q.cols.length:=by rw [htr,lu]
 have hql:=hq.len
 refine Z3 ?_;refine Z83 ?_;refine Aa Tryz.call26 (c26 (Ba q c []).1.trees hXp.t hXp.l _) ?_;refine AL8 ?_;refine Cd ?_;refine AL8 ?_;refine Z48 ?_;refine A2 [1,2,3,7,84] ?_
 refine A4 (fun ht84=>?_) (fun ht84=>?_)
 ·rw [hW] at ht84
  simp [Xg] at ht84
 refine Oi ?_;refine A2 [1,2,3,7,11] ?_
 refine Bf (α:=Nat) (fun i=>⟨143,A6 1 (An c) (A6 2 (Gy rows) (A6 3 (.ro (qoC false q)) (A6 7 (.ptr (oid Hp.length 0) 0) (A6 11 (A3 (i:Nat)) (fun _=>.any))))),Hp,[.cells 37 (Zu (Ba q c []).1),.cells 37 (Zu (Ba q c []).1)],[],none⟩) (fun i=>i≤(Ba q c []).1.trees.length) (fun i=>(Ba q c []).1.trees.length-i) (0) (Ar _) (Bj (by simp)) rfl (fun i hi=>?_)
 refine ek ?_;refine A2 [1,2,3,7,11,89] ?_
 refine A4 (fun ht89=>?_) (fun ht89=>?_)
 ·have hlt:i<(Ba q c []).1.trees.length:=by simpa using ht89
  have htree:(Ba q c []).1.trees[i]=Cm (nmQ q c i):=by
   have h1:i<(Dg q c (Dy c)).length:=by rw [←htr];exact hlt
   rw [show (Ba q c []).1.trees[i]=(Dg q c (Dy c))[i] by congr 1]
   exact xy hk h1
  have hll:=hXp.l
  refine Oh ?_;refine Z2 ?_;refine A2 [1,2,3,7,11] ?_
  refine Qv ⟨143,A6 1 (An c) (A6 2 (Gy rows) (A6 3 (.ro (qoC false q)) (A6 7 (.ptr (oid Hp.length 0) 0) (A6 11 (A3 (i:Nat)) (A6 12 (Ac (nmQ q c i)) (fun _=>.any)))))),Hp,[.cells 37 (Zu (Ba q c []).1),.cells 37 (Zu (Ba q c []).1)],[],none⟩ ?_ ?_
  ·refine Z1 ?_;refine A2 [1,2,3,7,11,93] ?_
   refine A4 (fun ht93=>?_) (fun ht93=>?_)
   ·have hic:i<c.length:=by rw [hlen,if_pos ht93] at hlt;exact hlt
    have hm:nmQ q c i=c[i].name:=by unfold nmQ;rw [if_pos ht93,Bw,Ab hic];rfl
    refine Z22 ?_
    refine A5 (h:=Ai (i) (C0 c[i]) (fun _=>B6 hic)) (hr:=?_)
    refine Z13 ?_;refine A2 [1,2,3,7,11,12] ?_;refine K.thJ ?_
    rw [hm]
    exact Bj rfl
   have hiq:i<q.cols.length:=by rw [hlen,if_neg (by rw [ht93];simp)] at hlt;exact hlt
   have hm:nmQ q c i=q.cols[i]:=by unfold nmQ;rw [if_neg (by rw [ht93];simp),Bw,Ab hiq];rfl
   refine Z49 ?_
   refine A5 (h:=Ai (i) (Ac q.cols[i]) (fun _=>B6 hiq)) (hr:=?_)
   refine Z0 ?_;refine A2 [1,2,3,7,11,12] ?_;refine K.thJ ?_
   rw [hm]
   exact Bj rfl
  refine Z15 ?_
  refine A5 (h:=Ai (i) (A7 (Ba q c []).1.trees[i]) (fun _=>B6 hlt)) (hr:=?_)
  refine Z0 ?_;refine Zg ?_
  refine Cd (h:=Ai (i) (A7 (Ba q c []).1.trees[i]) (fun _=>B6 hlt)) (hr:=?_)
  refine Pw ?_;refine A5 ?_;refine A2 [1,2,3,7,11,120] ?_
  refine A4 (fun ht120=>?_) (fun ht120=>?_)
  ·rw [htree] at ht120
   simp [Cm,Expr.op,Expr.text] at ht120
  refine ef ?_;refine A2 [1,2,3,7,11] ?_;exact Bg (i+1) hlt (by omega) (Dn rfl)
 refine Pu ?_;refine Z15 ?_;refine Aa Tryz.call22 (c22 (Ba q c []).1 hpw c hc rows hwR _) ?_;refine Z81 ?_;refine A2 [1,2,3,13,14] ?_;refine Z15 ?_;refine Aa Tryz.call23 (c23 q hq c hc rows hwR _) ?_;refine Z81 ?_;refine A2 [13,14,15,16] ?_;refine Ez ?_
 rw [hrun]
 refine Z0 ?_;refine Z35 ?_;refine C3 Tryz.call24 (fun hB=>c24 (Sk q c rows).1 (Sk q c rows).1 hfa.1 hfa.2 _) ?_;refine Z0 ?_;refine Z72 ?_;exact AI6

end Go.SX.Nb
namespace Go.Proofs.YtekiioamifokoaaGreatDoor
open Go Go.SX Go.SX.Nb Go.ChangeShapes Go.RowKit
set_option maxRecDepth 100000
theorem xz:Tryz.pinned.checked.prog.funcNamed Rows.rewriteNoneRow.func=some 5:=by kernel_rfl
theorem AGt:laidOutB Tryz.pinned.checked.prog=true:=by kernel_rfl
theorem AGu:(Rows.rewriteNoneRow.inPlace==Tryz.pinned.checked.prog.inPlace 5)=true:=by kernel_rfl
theorem AGv:(Rows.rewriteNoneRow.unfollowed==Tryz.pinned.checked.prog.unfollowed 5)=true:=by kernel_rfl
theorem AGw:(Rows.rewriteNoneRow.recurses==Tryz.pinned.checked.prog.recurses 5)=true:=by kernel_rfl
theorem AGx:(Rows.rewriteNoneRow.named==Tryz.pinned.checked.prog.varsNamed 5)=true:=by kernel_rfl
theorem AGy:Tryz.pinned.checked.prog.mayEnter=true:=by kernel_rfl
theorem py:joinedFacts Tryz.pinned.checked.prog 5 Tryz.f5 (OpenSpec.ofChange Rows.rewriteNoneSpec).bare Rows.rewriteNoneRow=true:=by
 unfold joinedFacts
 rw [AGt,AGu,AGv,AGw,AGx,AGy]
 kernel_rfl
theorem y6:false=Rows.rewriteNoneRow.goesBy Tryz.pinned.checked.prog:=by kernel_rfl
theorem y7:Tryz.f5.isInstance Tryz.pinned.checked.prog Rows.rewriteNoneRow.origin Rows.rewriteNoneRow.targs:=of_decide_eq_true (by kernel_rfl)
theorem y8:Tryz.f5.isWrapper Tryz.pinned.checked.prog Rows.rewriteNoneRow.wrapper Rows.rewriteNoneRow.mainSum:=by
 unfold Func.isWrapper
 first|(rw [if_pos (by decide +kernel)];kernel_rfl)|(rw [if_neg (by decide +kernel)];exact ⟨rfl,rfl⟩)
end Go.Proofs.YtekiioamifokoaaGreatDoor
