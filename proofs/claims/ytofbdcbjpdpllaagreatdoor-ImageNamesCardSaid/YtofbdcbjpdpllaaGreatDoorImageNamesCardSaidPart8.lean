/- On the way (part 8). -/
import Derived.Test.YtofbdcbjpdpllaaGreatDoorImageNamesCardSaidPart7
set_option linter.all false
namespace Go.SX.Nb
open Go Go.SX Go.Proofs
variable [ErrAt]
set_option maxRecDepth 4000
abbrev pmO (L:List Tok) (i:Nat):AObj:=.cells 144 [kj L,A4 (i:Int)]
abbrev mvC (m:Mov):List AV:=[A4 m.kind,.slice true 1 (m.take.map Ad),.slice true 2 (m.give.map Bs),.slice true 6 (m.ahead.map Ac),.slice true 6 (m.back.map Ac)]
abbrev mvO (m:Mov):AObj:=.cells 48 (mvC m)
abbrev Og:AV:=.v (.tuple #[])
theorem Dz {n:Nat} {L:List Tok} {i:Nat}:ObjLow n (pmO L i):=by
 show ∀y∈[AV.slice false 3 (L.map Jy),A4 (i:Int)],Low n y
 intro y hy
 simp only [Bg,Hc,or_false] at hy
 rcases hy with rfl|rfl
 ·simp [or_imp,forall_and]
 simp
/-- A contract of the parser, of sources that are right: it comes to what the model comes to. -/
structure CP (g:FuncId) (args:List AV) (H:List AObj) {α:Type} (X:PR α) (Q:α→Nat→AV→List AObj→Prop) (R:List AObj→Prop):Prop where
 run:(∃c j,X=.ok c j)→ACall Tryz.prog g args H (fun r H'=>∃c j,X=.ok c j∧Q c j r H')
theorem CP.ok {g:FuncId} {args:List AV} {H:List AObj} {α:Type} {X:PR α} {Q:α→Nat→AV→List AObj→Prop} {R:List AObj→Prop} {c:α} {j:Nat} (h:CP g args H X Q R) (hX:X=.ok c j):ACall Tryz.prog g args H (fun r H'=>Q c j r H'):=
 (h.run ⟨c,j,hX⟩).mono (fun r H' ⟨c',j',e,hq⟩=>by rw [hX] at e;injection e with e1 e2;subst e1;subst e2;exact hq)
theorem Cq {α:Type} {X:PR α} {e a:Int} (h:∃c j,X=.ok c j) (hX:X=.bad e a):False:=by
 obtain ⟨c,j,h⟩:=h
 rw [hX] at h
 cases h
def PR.isOk {α:Type}:PR α→Bool
 | .ok _ _=>true
 | .bad _ _=>false
theorem AFh {α:Type} {X:PR α} (h:X.isOk=true):∃c j,X=.ok c j:=by
 cases X with
 | ok c j=>exact ⟨c,j,rfl⟩
 | bad e a=>cases h
/-- The parser's object alone has turned. -/
def W1 (L:List Tok) (o:Nat) (Hp H':List AObj):Prop:=∃j,H'=Hp.set o (pmO L j)
theorem ACo (L:List Tok) (i o:Nat) (Hp:List AObj) (ho:Hp[o]? = some (pmO L i)) (hi:i<L.length):AFun Tryz.prog 139 [.ptr o 0] Hp (Jy (Af L i)):=by
 refine Ah [.cell 2 113] [0] Tryz.func139 Tryz.ntmps139 (fun d=>?_)
 refine ADr ?_;refine Z39 ?_
 refine An (h:=Bw ho) (hr:=?_)
 refine Z39 ?_
 refine An (h:=Bw ho) (hr:=?_)
 refine Gl ?_
 refine A5 (h:=Ak (i) (Jy (Af L i)) (fun _=>Ut hi)) (hr:=?_)
 refine A5 ?_;exact xn

theorem c233 (L:List Tok) (s:Str) (i o:Nat) (Hp:List AObj) (ho:Hp[o]? = some (pmO L i)) (hi:i<L.length):AFun Tryz.prog 233 [.ptr o 0,Ad s] Hp (Bm (isP L s i)):=by
 refine Ah [.tmp 4] [0,1] Tryz.func233 Tryz.ntmps233 (fun d=>?_)
 refine Z53 ?_;refine ABe ?_;refine Z18 ?_;refine A2 [1,5] ?_;refine Z19 ?_;refine Z34 ?_;refine Z59 ?_;refine Z10 ?_;exact y8

/-! Where the parser of moves comes to. -/
def PR.In {α:Type} (x:PR α) (i n:Nat):Prop:=∀r j,x=.ok r j→i<j∧j<n
theorem PR.bind_ok {α β:Type} {x:PR α} {f:α→Nat→PR β} {r:β} {j:Nat} (h:x.bind f=.ok r j):∃a k,x=.ok a k∧f a k=.ok r j:=by
 cases x with
 | ok a k=>exact ⟨a,k,rfl,h⟩
 | bad e a=>cases h
theorem AA4 {L:List Tok} {s:Str} {i:Nat} (h:isP L s i=true):(Af L i).kind≠0:=by
 unfold isP at h
 simp only [Ao,Dj,beq_iff_eq] at h
 rcases h.1 with h|h<;>rw [h]<;>decide
theorem Fy {L:List Tok} (hl:TokEnd L) {s:Str} {i:Nat} (hi:i<L.length):(Cs L s i).In i L.length:=by
 intro r j h
 unfold Cs at h
 split at h
 ·rename_i h1
  injection h with _ h
  subst h
  exact ⟨Yt i,hl.step hi (AA4 h1)⟩
 cases h
theorem Hr {L:List Tok} (hl:TokEnd L) {i:Nat} (hi:i<L.length):(Gt L i).In i L.length:=by
 intro r j h
 unfold Gt at h
 split at h
 ·cases h
 rename_i h1
 injection h with _ h
 subst h
 have hk:(Af L i).kind=1:=by simpa using h1
 exact AEe
theorem AA5 {L:List Tok} (hl:TokEnd L) {nm:Str} {i:Nat} (hi:i<L.length):(lu L nm i).In i L.length:=by
 intro r j h
 unfold lu at h
 split at h
 ·cases h
 rename_i h1
 injection h with _ h
 subst h
 have hk:(Af L i).kind=2:=by simp only [Tl,Eo,bne_eq_false_iff_eq] at h1;exact h1.1
 exact AEe
theorem Yb {L:List Tok} (hl:TokEnd L) {i:Nat} (hi:i<L.length):(Je L i).In i L.length:=by
 intro r j h
 obtain ⟨a,k,h1,h2⟩:=PR.bind_ok h
 obtain ⟨a1,a2⟩:=Hr hl hi _ _ h1
 obtain ⟨b1,b2⟩:=AA5 hl a2 _ _ h2
 exact ⟨by omega,b2⟩
theorem Qg {L:List Tok} (hl:TokEnd L) (hll:L.length≤500000) {i:Nat} (hi:i<L.length) {x:Expr} {k:Nat} (h:Me L i=.ok x k):i≤k∧k<L.length:=by
 unfold Me at h
 split at h
 ·cases h
 rename_i h0
 injection h with _ h
 subst h
 have h0:(atM L i).2.2.1=0:=by simpa using h0
 have hq:=Vd hl (by omega:L.length≤1048576) hi
 unfold atM at h0 ⊢
 split at h0
 ·rename_i h1
  have:(atS L i (atR L i)).code=0:=h0
  rw [this] at h1
  cases h1
 rename_i h1
 rw [if_neg h1]
 have e:(atS L i (atR L i)).i=(atR L i).2.i:=by
  unfold atS
  repeat' split
  all_goals first|rfl|exact failM_i.1
 show i≤((atS L i (atR L i)).i:Int).toNat∧((atS L i (atR L i)).i:Int).toNat<_
 rw [Int.toNat_natCast,e]
 exact ⟨hq.le,hq.lt⟩
/-- A move has no more parts than so many. -/
structure MvLe (m:Mov) (n:Nat):Prop where
 take:m.take.length≤n
 give:m.give.length≤n
 ahead:m.ahead.length≤n
 back:m.back.length≤n
theorem MvLe.mono {m:Mov} {i j:Nat} (h:MvLe m i) (hij:i≤j):MvLe m j:=⟨Ij h.take hij,Ij h.give hij,Ij h.ahead hij,Ij h.back hij⟩
/-- What a part of a move comes to. -/
def ACp (x:PR Mov) (i n:Nat):Prop:=∀m j,x=.ok m j→i≤j∧j<n∧MvLe m (2*j)
/-- A part of a move that goes on from i. -/
def Wy (L:List Tok) (one:Mov→Nat→PR Mov):Prop:=∀m i,MvLe m (2*i-1)→0<i→i<L.length→ACp (one m i) i L.length
theorem Kn {L:List Tok} (hl:TokEnd L) (hll:L.length≤500000):Wy L (En L):=by
 intro m i hm _ hi m' k h
 obtain ⟨c,j,h1,h2⟩:=PR.bind_ok h
 obtain ⟨u,j2,h3,h4⟩:=PR.bind_ok h2
 obtain ⟨x,j3,h5,h6⟩:=PR.bind_ok h4
 injection h6 with h6 h7
 subst h6;subst h7
 have a1:=Yb hl hi _ _ h1
 have a2:=Fy hl a1.2 _ _ h3
 have a3:=Qg hl hll a2.2 h5
 obtain ⟨b1,b2,b3,b4⟩:=hm
 exact ⟨by omega,a3.2,by show m.take.length≤_;omega,by show (m.give++[c]).length≤_;rw [Ap,If];omega,by show (m.ahead++[x]).length≤_;rw [Ap,If];omega,by show m.back.length≤_;omega⟩
theorem dz {L:List Tok} (hl:TokEnd L) (hll:L.length≤500000):Wy L (Sm L):=by
 intro m i hm h0 hi m' k h
 obtain ⟨x,j,h1,h2⟩:=PR.bind_ok h
 injection h2 with h6 h7
 subst h6;subst h7
 have a3:=Qg hl hll hi h1
 obtain ⟨b1,b2,b3,b4⟩:=hm
 exact ⟨by omega,a3.2,by show m.take.length≤_;omega,by show m.give.length≤_;omega,by show m.ahead.length≤_;omega,by show (m.back++[x]).length≤_;rw [Ap,If];omega⟩
theorem Vx {L:List Tok} (hl:TokEnd L):Wy L (Qf L):=by
 intro m i hm _ hi m' k h
 obtain ⟨s,j,h1,h2⟩:=PR.bind_ok h
 injection h2 with h6 h7
 subst h6;subst h7
 have a1:=Hr hl hi _ _ h1
 obtain ⟨b1,b2,b3,b4⟩:=hm
 exact ⟨by omega,a1.2,by show (m.take++[s]).length≤_;rw [Ap,If];omega,by show m.give.length≤_;omega,by show m.ahead.length≤_;omega,by show m.back.length≤_;omega⟩
theorem M7 {L:List Tok} {s:Str} {i:Nat} {u:Unit} {j:Nat} (h:Cs L s i=.ok u j):j=i+1:=by
 unfold Cs at h
 split at h
 ·injection h with _ h;exact h.symm
 cases h
theorem ea {L:List Tok} (hl:TokEnd L) {n:Int} {one:Mov→Nat→PR Mov} (hP:Wy L one):∀(f k:Nat) (m:Mov) (i:Nat),MvLe m (2*i)→0<i→i<L.length→ACp (Qe L n one f k m i) i L.length
 | 0,k,m,i,hm,h0,hi=>fun m' j h=>by
  injection h with h1 h2
  subst h1;subst h2
  exact ⟨Ae _,hi,hm⟩
 | f+1,k,m,i,hm,h0,hi=>fun m' j h=>by
  rw [Qe] at h
  split at h
  ·obtain ⟨u,j1,h1,h2⟩:=PR.bind_ok h
   obtain ⟨m1,j2,h3,h4⟩:=PR.bind_ok h2
   have e:=M7 h1
   have a1:=Fy hl hi _ _ h1
   obtain ⟨b1,b2,b3⟩:=hP m j1 (hm.mono (by omega)) (by omega) a1.2 _ _ h3
   obtain ⟨c1,c2,c3⟩:=ea hl hP f (k+1) m1 j2 b3 (by omega) b2 _ _ h4
   exact gj
  injection h with h1 h2
  subst h1;subst h2
  exact ⟨Ae _,hi,hm⟩
theorem Qh {L:List Tok} (hl:TokEnd L) {n:Int} {one:Mov→Nat→PR Mov} (hP:Wy L one):Wy L (Ho L n one):=by
 intro m i hm h0 hi m' k h
 obtain ⟨m1,j,h1,h2⟩:=PR.bind_ok h
 obtain ⟨b1,b2,b3⟩:=hP m i hm h0 hi _ _ h1
 obtain ⟨c1,c2,c3⟩:=ea hl hP _ _ m1 j b3 (by omega) b2 _ _ h2
 exact gj
theorem Tg {L:List Tok} (hl:TokEnd L) (hll:L.length≤500000) {m:Mov} {i:Nat} (hm:MvLe m (2*i)) (hi:i<L.length):ACp (Fg L m i) i L.length:=by
 intro m' k h
 obtain ⟨u,j,h1,h2⟩:=PR.bind_ok h
 have e:=M7 h1
 have a1:=Fy hl hi _ _ h1
 obtain ⟨c1,c2,c3⟩:=Qh hl (dz hl hll) m j (hm.mono (by omega)) (by omega) a1.2 _ _ h2
 exact gj
theorem px {L:List Tok} (hl:TokEnd L):Wy L (Jf L):=by
 intro m i hm h0 hi m' k h
 obtain ⟨s,j,h1,h2⟩:=PR.bind_ok h
 obtain ⟨u,j2,h3,h4⟩:=PR.bind_ok h2
 obtain ⟨t,j3,h5,h6⟩:=PR.bind_ok h4
 injection h6 with h6 h7
 subst h6;subst h7
 have a1:=Hr hl hi _ _ h1
 have a2:=Fy hl a1.2 _ _ h3
 have a3:=Hr hl a2.2 _ _ h5
 exact ⟨by omega,a3.2,by show 1≤_;omega,by show 1≤_;omega,by show 1≤_;omega,by show 1≤_;omega⟩
theorem MvLe.takeS {m:Mov} {n:Nat} (h:MvLe m n) {s:Str} (h1:1≤n):MvLe (takeS m s) n:=⟨h1,h.give,h.ahead,h.back⟩
theorem ly {L:List Tok} (hl:TokEnd L) (hll:L.length≤500000):Wy L (Hq L):=by
 intro m i hm h0 hi m' k h
 unfold Hq at h
 split at h
 ·exact Kn hl hll m i hm h0 hi _ _ h
 split at h
 ·obtain ⟨s,j,h1,h2⟩:=PR.bind_ok h
  have a1:=Hr hl hi _ _ h1
  obtain ⟨c1,c2,c3⟩:=Tg hl hll ((hm.mono (by omega:2*i-1≤2*j)).takeS (by omega)) a1.2 _ _ h2
  exact gj
 split at h
 ·exact px hl m i hm h0 hi _ _ h
 split at h
 ·obtain ⟨s,j,h1,h2⟩:=PR.bind_ok h
  obtain ⟨u,j2,h3,h4⟩:=PR.bind_ok h2
  obtain ⟨m1,j3,h5,h6⟩:=PR.bind_ok h4
  have a1:=Hr hl hi _ _ h1
  have a2:=Fy hl a1.2 _ _ h3
  obtain ⟨b1,b2,b3⟩:=Qh hl (Kn hl hll) (takeS m s) j2 ((hm.mono (by omega:2*i-1≤2*j2-1)).takeS (by omega)) (by omega) a2.2 _ _ h5
  obtain ⟨c1,c2,c3⟩:=Tg hl hll b3 b2 _ _ h6
  exact gj
 split at h
 ·obtain ⟨m1,j,h1,h2⟩:=PR.bind_ok h
  obtain ⟨u,j2,h3,h4⟩:=PR.bind_ok h2
  obtain ⟨m2,j3,h5,h6⟩:=PR.bind_ok h4
  obtain ⟨b1,b2,b3⟩:=Qh hl (Vx hl) m i hm h0 hi _ _ h1
  have e:=M7 h3
  have a2:=Fy hl b2 _ _ h3
  obtain ⟨d1,d2,d3⟩:=Kn hl hll m1 j2 (b3.mono (by omega)) (by omega) a2.2 _ _ h5
  obtain ⟨c1,c2,c3⟩:=Tg hl hll d3 d2 _ _ h6
  exact gj
 split at h
 ·obtain ⟨m1,j,h1,h2⟩:=PR.bind_ok h
  obtain ⟨d1,d2,d3⟩:=Kn hl hll m i hm h0 hi _ _ h1
  obtain ⟨c1,c2,c3⟩:=Tg hl hll (d3.takeS (by omega)) d2 _ _ h2
  exact gj
 injection h with h1 h2
 subst h1;subst h2
 exact ⟨Ae _,hi,hm.mono (by omega)⟩
def Vy:=@PR.bind_ok
theorem je (L:List Tok) (s:Str) (i o:Nat) (Hp:List AObj) (ho:Hp[o]? = some (pmO L i)) (hi:i<L.length) (hll:L.length≤500000):CP 181 [.ptr o 0,Ad s] Hp (Cs L s i) (fun _ j r H'=>r=Og∧H'=Hp.set o (pmO L j)) (W1 L o Hp):=by
 refine ⟨fun hX=>?_⟩
 refine Ah [] [0,1] Tryz.func181 Tryz.ntmps181 (fun d=>?_)
 refine Z29 ?_;refine A9 Tryz.call233 (c233 L s i o _ (Ag ho) hi) ?_;refine A5 ?_;refine A2 [0,7] ?_
 refine A3 (fun ht7=>?_) (fun ht7=>?_)
 ·have hq:isP L s i=false:=by simpa using ht7
  have e:Cs L s i=.bad 8 (Af L i).at_:=if_neg (by rw [hq];simp)
  exact t7
 have hq:isP L s i=true:=by simpa using ht7
 have e:Cs L s i=.ok () (i+1):=if_pos hq
 refine Z6 ?_;refine bu ?_
 refine A5 (h:=Bw ho) (hr:=?_)
 refine Z28 ?_
 refine Ez jS ho ?_ ?_
 ·simp
 refine A2 [] ?_;exact F0 .nores (hp:=⟨(),i+1,e,rfl,rfl⟩)

theorem py (L:List Tok) (i o:Nat) (Hp:List AObj) (ho:Hp[o]? = some (pmO L i)) (hi:i<L.length) (hll:L.length≤500000):CP 227 [.ptr o 0] Hp (Gt L i) (fun s j r H'=>r=Ad s∧H'=Hp.set o (pmO L j)) (W1 L o Hp):=by
 refine ⟨fun hX=>?_⟩
 refine Ah [.tmp 2] [0] Tryz.func227 Tryz.ntmps227 (fun d=>?_)
 refine Z46 ?_;refine ABe ?_;refine Z18 ?_;refine A2 [0,3] ?_;refine Z32 ?_;refine A2 [0,3,8] ?_
 refine A3 (fun ht8=>?_) (fun ht8=>?_)
 ·have e:Gt L i=.bad 8 (Af L i).at_:=if_pos ht8
  exact t7
 have e:Gt L i=.ok (Af L i).text (i+1):=if_neg (by rw [ht8];simp)
 refine Su ?_
 refine A5 (h:=Bw ho) (hr:=?_)
 refine Z28 ?_
 refine Ez jS ho ?_ ?_
 ·simp
 refine A2 [3] ?_;refine Z13 ?_;refine Z4 ?_;exact A8 (Aj A6) (hp:=⟨_,i+1,e,rfl,rfl⟩)

theorem getset {Hp:List AObj} {o:Nat} {A B:AObj} (h:Hp[o]? = some A):(Hp.set o B)[o]? = some B:=by
 have:=(Ab.1 h).1
 simp [this]
theorem AI2 (L:List Tok) (i o:Nat) (Hp:List AObj) (ho:Hp[o]? = some (pmO L i)) (hi:i<L.length) (hl:TokEnd L) (hll:L.length≤500000):CP 281 [.ptr o 0] Hp (Je L i) (fun c j r H'=>r=Bs c∧H'=Hp.set o (pmO L j)) (W1 L o Hp):=by
 refine ⟨fun hX=>?_⟩
 refine Ah [.cell 2 41] [0] Tryz.func281 Tryz.ntmps281 (fun d=>?_)
 refine Z47 ?_
 rcases hN:Gt L i with ⟨s,j⟩|⟨e,a⟩
 rotate_left
 ·exact (Cq hX (by first|exact by unfold Je;rw [hN];rfl|exact hN)).elim
 have hj:j<L.length:=(Hr hl hi _ _ hN).2
 have e0:Je L i=lu L s j:=by unfold Je;rw [hN];rfl
 refine Z2 ?_;refine D9 (x:=pmO L j) Tryz.call227 ho (by simp) Dz ((py L i o _ (Ag ho) hi hll).ok hN) ?_;refine Zo ?_;refine br ?_;refine Z2 ?_;refine A9 Tryz.call139 (ACo L j o _ (Ag (getset ho)) hj) ?_;refine Z18 ?_;refine A2 [0,2,3,4] ?_;refine Z29 ?_;refine A9 Tryz.call314 (AGk (Af L j).text _) ?_;refine A5 ?_;refine H9 ?_;refine A2 [0,2,3,4] ?_;refine Z19 ?_;refine Wh ?_;refine A2 [0,2,3,21] ?_
 refine A3 (fun ht21=>?_) (fun ht21=>?_)
 ·have e:Je L i=.bad 8 (Af L j).at_:=by rw [e0];exact if_pos ht21
  exact t7
 have e:Je L i=.ok ⟨s,Sf (Af L j).text⟩ (j+1):=by rw [e0];exact if_neg (by rw [ht21];simp)
 refine Su ?_
 refine A5 (h:=Bw (getset ho)) (hr:=?_)
 refine Z28 ?_
 refine Ez jS (getset ho) ?_ ?_
 ·simp
 refine Ju ?_;refine Z2 ?_;refine Z9 ?_;exact A8 (Aj (B8 jA jS)) (hp:=⟨_,j+1,e,rfl,by rw [D8];rfl⟩)

theorem AFi (L:List Tok) (i o:Nat) (Hp:List AObj) (ho:Hp[o]? = some (pmO L i)) (hi:i<L.length) (hl:TokEnd L) (hll:L.length≤500000):CP 282 [.ptr o 0] Hp (Me L i) (fun c j r H'=>r=Ac c∧H'=Hp.set o (pmO L j)) (W1 L o Hp):=by
 refine ⟨fun hX=>?_⟩
 refine Ah [.cell 2 26] [0] Tryz.func282 Tryz.ntmps282 (fun d=>?_)
 refine Z47 ?_;refine H0 [0,1,3,7,0,16,48,112,255,511,1023,1023,1023,0,0,26623,61439,131071] [] [.q 13 [] [],.s [3] none [] [],.s [5] none [] [],.s [3] none [] [],.q 1 [] [],.s [5] none [] []] (fun _=>Hp) (fun _=>[.cells 26 [A4 0,Ad [],A4 0,A4 0,Ad [],.nil]]) Al (by kernel_rfl) rfl rfl (fun _=>rfl) ?_
 apply Y.q
 ·intro B hT hF
  refine Z39 ?_
  refine An (h:=Bw ho) (hr:=?_)
  refine Z39 ?_
  refine An (h:=Bw ho) (hr:=?_)
  refine E1 Tryz.call72 (c72 L i hi hl hll (fun n Dv h1 h2=>pl hl (by omega) n Dv h1 h2) _) ?_;exact sh
 case hTF=>decide
 refine Y.allocP Tryz.zeroValue26 ?_;refine Y.allocP Tryz.zeroValue69 ?_;refine Y.storeP Tryz.sizeOf26 ?_
 apply Y.q
 ·intro B hT hF
  exact Z72
 case hTF=>decide
 refine Y.storeP Tryz.sizeOf69 ?_;refine Fo (tn:=[])  ?_;refine A2 [0,2,3,4,5] ?_;refine Z32 ?_;refine A2 [0,2,3,4,5,21] ?_
 refine A3 (fun ht21=>?_) (fun ht21=>?_)
 ·have e:Me L i=.bad (atM L i).2.2.1 (atM L i).2.2.2:=if_pos ht21
  exact t7
 obtain ⟨k,hk,hkl⟩:=zl hl (by omega) hi (by simpa using ht21)
 have e:Me L i=.ok (atM L i).1 k:=(if_neg (by rw [ht21];simp)).trans (by rw [hk];rfl)
 rw [hk]
 refine Z6 ?_;refine Z19 ?_
 refine Ez jS ho ?_ ?_
 ·simp
 refine Ju ?_;refine Z2 ?_;refine Z9 ?_;exact A8 (Aj (B8 jA jS)) (hp:=⟨_,k,e,(Am _).symm,rfl⟩) (hlow:=by have:=As Hp.length (atM L i).1;rw [Am] at this;exact this)

/-- The parser's object and the move's, turned. -/
def U2 (L:List Tok) (Hp:List AObj) (o om i:Nat) (x:AObj):List AObj:=(Hp.set o (pmO L i)).set om x
theorem U2_len {L:List Tok} {Hp:List AObj} {o om i:Nat} {x:AObj}:(U2 L Hp o om i x).length=Hp.length:=by simp [U2]
theorem F1 {L:List Tok} {Hp:List AObj} {o om i:Nat} {x z:AObj} (hm:Hp[om]? = some z):(U2 L Hp o om i x)[om]? = some x:=gB hm
theorem E9 {L:List Tok} {Hp:List AObj} {o om i:Nat} {x z:AObj} (ho:Hp[o]? = some z) (hne:om≠o):(U2 L Hp o om i x)[o]? = some (pmO L i):=gA ho hne
theorem Ew {L:List Tok} {Hp:List AObj} {o om i j:Nat} {x:AObj} (hne:om≠o):(U2 L Hp o om i x).set o (pmO L j)=U2 L Hp o om j x:=w9 hne
theorem U2_setm {L:List Tok} {Hp:List AObj} {o om i:Nat} {x y:AObj}:(U2 L Hp o om i x).set om y=U2 L Hp o om i y:=D8 ..
theorem Qi {L:List Tok} {Hp:List AObj} {o om i:Nat} {x:AObj} (ho:Hp[o]? = some (pmO L i)) (hm:Hp[om]? = some x):U2 L Hp o om i x=Hp:=by unfold U2;rw [Hg ho,Hg hm]
theorem Gp {L:List Tok} {Hp:List AObj} {o om i q:Nat} {x:AObj} (h1:q≠o) (h2:q≠om):(U2 L Hp o om i x)[q]? = Hp[q]? := by unfold U2;rw [Dg (Ne.symm h2),Dg (Ne.symm h1)]
def W2 (L:List Tok) (o om:Nat) (Hp H':List AObj):Prop:=∃j m,H'=U2 L Hp o om j (mvO m)
theorem Pb {n k:Nat} {o:Bool} {l:List Expr} {x:Expr}:Low n (.slice o k (l.map Ac++[.agg (Fd x)])):=by
 rw [show AV.agg (Fd x)=Ac x from (Am x).symm];exact j6
theorem Fz {n:Nat} {m:Mov}:ObjLow n (mvO m):=by
 show ∀y∈mvC m,Low n y
 intro y hy
 simp only [mvC,Bg,Hc,or_false] at hy
 rcases hy with rfl|rfl|rfl|rfl|rfl
 all_goals first|exact Ej|simp [or_imp,forall_and]
theorem pz {L:List Tok} {Hp:List AObj} {o om i:Nat} {m:Mov} {c:Col} {x:AObj}:(U2 L Hp o om i x).set om (.cells 48 [A4 m.kind,.slice true 1 (m.take.map Ad),.slice true 2 (m.give.map Bs++[Bs c]),.slice true 6 (m.ahead.map Ac),.slice true 6 (m.back.map Ac)])=U2 L Hp o om i (mvO (Di m c)):=by
 rw [U2_setm];simp only [mvO,mvC,Di,C8,Bt,Eu]
theorem q8 {L:List Tok} {Hp:List AObj} {o om i:Nat} {m:Mov} {e:Expr} {x:AObj}:(U2 L Hp o om i x).set om (.cells 48 [A4 m.kind,.slice true 1 (m.take.map Ad),.slice true 2 (m.give.map Bs),.slice true 6 (m.ahead.map Ac++[.agg (Fd e)]),.slice true 6 (m.back.map Ac)])=U2 L Hp o om i (mvO (lv m e)):=by
 rw [U2_setm,show AV.agg (Fd e)=Ac e from (Am e).symm];simp only [mvO,mvC,lv,C8,Bt,Eu]
theorem q9 {L:List Tok} {Hp:List AObj} {o om i:Nat} {m:Mov} {e:Expr} {x:AObj}:(U2 L Hp o om i x).set om (.cells 48 [A4 m.kind,.slice true 1 (m.take.map Ad),.slice true 2 (m.give.map Bs),.slice true 6 (m.ahead.map Ac),.slice true 6 (m.back.map Ac++[.agg (Fd e)])])=U2 L Hp o om i (mvO (lw m e)):=by
 rw [U2_setm,show AV.agg (Fd e)=Ac e from (Am e).symm];simp only [mvO,mvC,lw,C8,Bt,Eu]
theorem qb {L:List Tok} {Hp:List AObj} {o om i:Nat} {m:Mov} {s:Str} {x:AObj}:(U2 L Hp o om i x).set om (.cells 48 [A4 m.kind,.slice true 1 (m.take.map Ad++[Ad s]),.slice true 2 (m.give.map Bs),.slice true 6 (m.ahead.map Ac),.slice true 6 (m.back.map Ac)])=U2 L Hp o om i (mvO (lx m s)):=by
 rw [U2_setm];simp only [mvO,mvC,lx,C8,Bt,Eu]

theorem AA6 (L:List Tok) (m:Mov) (i o om:Nat) (Hp:List AObj) (hne:om≠o) (ho:Hp[o]? = some (pmO L i)) (hm:Hp[om]? = some (mvO m)) (hi:i<L.length) (hl:TokEnd L) (hll:L.length≤500000) (hb:MvLe m (2*i-1)):CP 226 [.ptr o 0,.ptr om 0] Hp (En L m i) (fun m' j r H'=>r=Og∧H'=U2 L Hp o om j (mvO m')) (W2 L o om Hp):=by
 refine ⟨fun hX=>?_⟩
 have:=hb.take;have:=hb.give;have:=hb.ahead;have:=hb.back
 refine Ah [] [0,1] Tryz.func226 Tryz.ntmps226 (fun d=>?_)
 rcases hC:Je L i with ⟨c,j⟩|⟨e,a⟩
 rotate_left
 ·exact (Cq hX (by first|exact by unfold En;rw [hC];rfl|exact hC)).elim
 have hj:=Yb hl hi _ _ hC
 refine H0 [0,0,2,6,14,0,32,96,254,511,1023,2047] [4,6] [.q 4 [] [],.s [8] (some 0) [] [],.q 1 [] [1],.s [10] (some 1) [] [],.q 1 [1] [],.s [8,12] none [0,1] []] (fun B=>U2 L Hp o om (if B 1=true then j else i) (if B 0=true then .cells 48 [A4 m.kind,.slice true 1 (m.take.map Ad),.slice false 2 (m.give.map Bs),.slice true 6 (m.ahead.map Ac),.slice true 6 (m.back.map Ac)] else .cells 48 [A4 m.kind,.slice true 1 (m.take.map Ad),.slice true 2 (m.give.map Bs),.slice true 6 (m.ahead.map Ac),.slice true 6 (m.back.map Ac)])) (fun _=>[]) Al (by kernel_rfl) (Qi ho hm) rfl (fun B=>U2_len) ?_
 apply Y.q
 ·intro B hT hF
  exact sh
 case hTF=>decide
 refine U4 (o:=om) (t':=48) (cs:=[A4 m.kind,.slice true 1 (m.take.map Ad),.slice true 2 (m.give.map Bs),.slice true 6 (m.ahead.map Ac),.slice true 6 (m.back.map Ac)]) (cs':=[A4 m.kind,.slice true 1 (m.take.map Ad),.slice false 2 (m.give.map Bs),.slice true 6 (m.ahead.map Ac),.slice true 6 (m.back.map Ac)]) Tryz.isAgg27 (fun B hB=>⟨by simp only [hB];exact F1 hm,U2_setm.symm,rfl⟩) ?_
 apply Y.q
 ·intro B hT hF
  exact Z72
 case hTF=>decide
 refine Lt (r:=Bs c) (o:=o) (x0:=pmO L i) (x:=pmO L j) Tryz.call281 (fun B hB1 hB2 hB=>⟨by simp only [hB];exact E9 ho hne,(Ew hne).symm,rfl,Dz,?_⟩) ?_
 ·simp only [hB]
  exact (AI2 L i o _ (Ag (E9 ho hne)) hi hl hll).ok hC
 apply Y.q
 ·intro B hT hF
  exact Z48
 case hTF=>decide
 refine Y.append jU Tryz.type41 ?_ ?_ ?_
 ·simp [Tryz.t41];omega
 ·simp [Tryz.t41];omega
 refine Fo (tn:=[4,6]) (U:=U2 L Hp o om j (.cells 48 [A4 m.kind,.slice true 1 (m.take.map Ad),.slice false 2 (m.give.map Bs),.slice true 6 (m.ahead.map Ac),.slice true 6 (m.back.map Ac)])) ?_;refine Z0 ?_
 refine Gz jS (F1 hm) ?_ ?_
 ·simp [or_imp,forall_and]
 refine A2 [0,1] ?_;refine Pa (pz (m:=m) (c:=c)) ?_
 rcases hW:Cs L [61] j with ⟨u,j2⟩|⟨e,a⟩
 rotate_left
 ·exact (Cq hX (by first|exact by unfold En;rw [hC];show (Cs L [61] j).bind _=_;rw [hW];rfl|exact hW)).elim
 have hj2:=Fy hl hj.2 _ _ hW
 refine Z2 ?_;refine D9 (x:=pmO L j2) Tryz.call181 (E9 ho hne) (by simp) Dz ((je L [61] j o _ (Ag (E9 ho hne)) hj.2 hll).ok hW) ?_
 rw [Ew hne]
 refine A2 [0,1] ?_
 rcases hT:Me L j2 with ⟨x,k⟩|⟨e,a⟩
 rotate_left
 ·exact (Cq hX (by first|exact by unfold En;rw [hC];show (Cs L [61] j).bind _=_;rw [hW];show (Me L j2).bind _=_;rw [hT];rfl|exact hT)).elim
 have hk:=Qg hl hll hj2.2 hT
 refine W.drawT0 [0,1,3,7,0,16,15,0,255,511,1023,511,2559,6655] [3,5] [.q 3 [] [0],.s [20] (some 0) [] [],.q 1 [] [1],.s [22] (some 1) [] [],.q 2 [] []] (fun B=>U2 L Hp o om (if B 1=true then k else j2) (if B 0=true then .cells 48 [A4 (Di m c).kind,.slice true 1 ((Di m c).take.map Ad),.slice true 2 ((Di m c).give.map Bs),.slice false 6 ((Di m c).ahead.map Ac),.slice true 6 ((Di m c).back.map Ac)] else .cells 48 [A4 (Di m c).kind,.slice true 1 ((Di m c).take.map Ad),.slice true 2 ((Di m c).give.map Bs),.slice true 6 ((Di m c).ahead.map Ac),.slice true 6 ((Di m c).back.map Ac)])) (fun _=>[]) Al (by kernel_rfl) rfl rfl (fun B=>by rw [U2_len];exact U2_len.symm) ?_
 apply Y.q
 ·intro B hT hF
  exact xp
 case hTF=>decide
 refine U4 (o:=om) (t':=48) (cs:=[A4 (Di m c).kind,.slice true 1 ((Di m c).take.map Ad),.slice true 2 ((Di m c).give.map Bs),.slice true 6 ((Di m c).ahead.map Ac),.slice true 6 ((Di m c).back.map Ac)]) (cs':=[A4 (Di m c).kind,.slice true 1 ((Di m c).take.map Ad),.slice true 2 ((Di m c).give.map Bs),.slice false 6 ((Di m c).ahead.map Ac),.slice true 6 ((Di m c).back.map Ac)]) Tryz.isAgg24 (fun B hB=>⟨by simp only [hB];exact F1 hm,U2_setm.symm,rfl⟩) ?_
 apply Y.q
 ·intro B hT hF
  exact Z72
 case hTF=>decide
 refine Lt (r:=Ac x) (o:=o) (x0:=pmO L j2) (x:=pmO L k) Tryz.call282 (fun B hB1 hB2 hB=>⟨by simp only [hB];exact E9 ho hne,(Ew hne).symm,rfl,Dz,?_⟩) ?_
 ·simp only [hB]
  exact (AFi L j2 o _ (Ag (E9 ho hne)) hj2.2 hl hll).ok hT
 apply Y.q
 ·intro B hT hF
  exact xw
 case hTF=>decide
 refine Y.appendPut4 (tn:=[3,5]) (U:=U2 L Hp o om k (.cells 48 [A4 (Di m c).kind,.slice true 1 ((Di m c).take.map Ad),.slice true 2 ((Di m c).give.map Bs),.slice false 6 ((Di m c).ahead.map Ac),.slice true 6 ((Di m c).back.map Ac)])) (O:=[]) (o:=om) (t':=48) (cs:=[A4 (Di m c).kind,.slice true 1 ((Di m c).take.map Ad),.slice true 2 ((Di m c).give.map Bs),.slice false 6 ((Di m c).ahead.map Ac),.slice true 6 ((Di m c).back.map Ac)]) (by kernel_rfl) jU Tryz.type26 Tryz.sizeOf26 Tryz.sizeOf24 jU (Ag (F1 hm)) ?_ ?_ ?_ (hfsz:=Tryz.sizeOf24)
 ·simp [Tryz.t26,Di];omega
 ·simp [Tryz.t26,Di];omega
 refine Z0 ?_
 refine Gz jS (F1 hm) ?_ ?_
 ·exact Pb
 refine A2 [] ?_;exact F0 .nores (hp:=⟨lv (Di m c) x,k,by unfold En;rw [hC];show (Cs L [61] j).bind _=_;rw [hW];show (Me L j2).bind _=_;rw [hT];rfl,rfl,by exact q8 (m:=Di m c)⟩)

/-- What is asked of a part of a move that is a closure. -/
def lz (L:List Tok) (o om g:Nat) (caps:List AV) (Hp:List AObj) (one:Mov→Nat→PR Mov):Prop:=
 ∀m i,MvLe m (2*i-1)→0<i→i<L.length→CP g caps (U2 L Hp o om i (mvO m)) (one m i) (fun m' j r H'=>r=Og∧H'=U2 L Hp o om j (mvO m')) (W2 L o om Hp)
theorem J7 {L:List Tok} {Hp:List AObj} {o om i j:Nat} {x y:AObj} (hne:om≠o):U2 L (U2 L Hp o om i x) o om j y=U2 L Hp o om j y:=by
 unfold U2
 rw [w9 hne,D8]
theorem wr {L:List Tok} {Hp H':List AObj} {o om i:Nat} {x:AObj} (hne:om≠o) (h:W2 L o om (U2 L Hp o om i x) H'):W2 L o om Hp H':=by
 obtain ⟨j,m,e⟩:=h
 exact ⟨j,m,by rw [e,J7 hne]⟩
theorem AI3 (L:List Tok) (m:Mov) (i o om bp bm:Nat) (Hp:List AObj) (hne:om≠o) (ho:Hp[o]? = some (pmO L i)) (hm:Hp[om]? = some (mvO m)) (hbp:Hp[bp]? = some (.cells 142 [.ptr o 0])) (hbm:Hp[bm]? = some (.cells 227 [.ptr om 0])) (hi:i<L.length) (hl:TokEnd L) (hll:L.length≤500000) (hb:MvLe m (2*i-1)):CP 283 [.ptr bm 0,.ptr bp 0] Hp (Sm L m i) (fun m' j r H'=>r=Og∧H'=U2 L Hp o om j (mvO m')) (W2 L o om Hp):=by
 refine ⟨fun hX=>?_⟩
 have n1:bp≠o:=fun e=>by rw [e,ho] at hbp;simp at hbp
 have n2:bp≠om:=fun e=>by rw [e,hm] at hbp;simp at hbp
 have n3:bm≠o:=fun e=>by rw [e,ho] at hbm;simp at hbm
 have n4:bm≠om:=fun e=>by rw [e,hm] at hbm;simp at hbm
 have:=hb.take;have:=hb.give;have:=hb.ahead;have:=hb.back
 refine Ah [] [0,1] Tryz.func283 Tryz.ntmps283 (fun d=>?_)
 refine W.flip Al (by kernel_rfl) Tryz.zeroValue4 Tryz.sizeOf4 Tryz.isAgg4 (fun fb=>?_)
 refine X4 [0,1,3] (by simp only [go_sem,↓reduceIte,Nat.reduceEqDiff,Nat.reduceAdd]<;>rfl) ?_
 refine A3 (fun ht3=>?_) (fun ht3=>?_)
 ·rcases hT:Me L i with ⟨x,k⟩|⟨e,a⟩
  rotate_left
  ·exact AEf
  have hk:=Qg hl hll hi hT
  refine W.drawZ0 [0,1,3,7,0,16,15,0,255,511,1023,2047] [3,5] [.q 3 [] [0],.s [7] (some 0) [] [],.q 1 [] [1],.s [9] (some 1) [] [],.q 2 [] []] (fun B=>U2 L Hp o om (if B 1=true then k else i) (if B 0=true then .cells 48 [A4 m.kind,.slice true 1 (m.take.map Ad),.slice true 2 (m.give.map Bs),.slice true 6 (m.ahead.map Ac),.slice false 6 (m.back.map Ac)] else .cells 48 [A4 m.kind,.slice true 1 (m.take.map Ad),.slice true 2 (m.give.map Bs),.slice true 6 (m.ahead.map Ac),.slice true 6 (m.back.map Ac)])) (fun _=>[.cells 4 [.v (.bool fb)]]) Al (by kernel_rfl) (Qi ho hm) rfl (fun B=>U2_len) ?_
  apply Y.q
  ·intro B hT hF
   refine An (h:=Bw ((Gp n3 n4).trans hbm)) (hr:=?_)
   exact Z68
  case hTF=>decide
  refine U4 (o:=om) (t':=48) (cs:=[A4 m.kind,.slice true 1 (m.take.map Ad),.slice true 2 (m.give.map Bs),.slice true 6 (m.ahead.map Ac),.slice true 6 (m.back.map Ac)]) (cs':=[A4 m.kind,.slice true 1 (m.take.map Ad),.slice true 2 (m.give.map Bs),.slice true 6 (m.ahead.map Ac),.slice false 6 (m.back.map Ac)]) Tryz.isAgg24 (fun B hB=>⟨by simp only [hB];exact F1 hm,U2_setm.symm,rfl⟩) ?_
  apply Y.q
  ·intro B hT hF
   refine An (h:=Bw ((Gp n1 n2).trans hbp)) (hr:=?_)
   exact Zp
  case hTF=>decide
  refine Lt (r:=Ac x) (o:=o) (x0:=pmO L i) (x:=pmO L k) Tryz.call282 (fun B hB1 hB2 hB=>⟨by simp only [hB];exact E9 ho hne,(Ew hne).symm,rfl,Dz,?_⟩) ?_
  ·simp only [hB]
   exact AEg
  apply Y.q
  ·intro B hT hF
   exact xw
  case hTF=>decide
  refine Y.put2 (tn:=[3,5]) (U:=U2 L Hp o om k (.cells 48 [A4 m.kind,.slice true 1 (m.take.map Ad),.slice true 2 (m.give.map Bs),.slice true 6 (m.ahead.map Ac),.slice false 6 (m.back.map Ac)])) (O:=[.cells 4 [.v (.bool fb)]]) (o:=om) (t':=48) (cs:=[A4 m.kind,.slice true 1 (m.take.map Ad),.slice true 2 (m.give.map Bs),.slice true 6 (m.ahead.map Ac),.slice false 6 (m.back.map Ac)]) jU Tryz.type26 Tryz.sizeOf26 Tryz.sizeOf24 jU (Ag (F1 hm)) ?_ ?_ ?_ (hfsz:=Tryz.sizeOf24)
  ·simp [Tryz.t26];omega
  ·simp [Tryz.t26];omega
  refine Z0 ?_
  refine Gz jS (F1 hm) ?_ ?_
  ·exact Pb
  exact AD5
 rcases hT:Me L i with ⟨x,k⟩|⟨e,a⟩
 rotate_left
 ·exact AEf
 have hk:=Qg hl hll hi hT
 refine U3 [0,0,2,6,14,0,32,96,254,511,1023,2047] [4,6] [.q 4 [] [],.s [20] (some 0) [] [],.q 1 [] [1],.s [22] (some 1) [] [],.q 1 [1] [],.s [20,24] none [0,1] []] (fun B=>U2 L Hp o om (if B 1=true then k else i) (if B 0=true then .cells 48 [A4 m.kind,.slice true 1 (m.take.map Ad),.slice true 2 (m.give.map Bs),.slice true 6 (m.ahead.map Ac),.slice false 6 (m.back.map Ac)] else .cells 48 [A4 m.kind,.slice true 1 (m.take.map Ad),.slice true 2 (m.give.map Bs),.slice true 6 (m.ahead.map Ac),.slice true 6 (m.back.map Ac)])) (fun _=>[.cells 4 [.v (.bool fb)]]) Al (by kernel_rfl) (Qi ho hm) rfl (fun B=>U2_len) ?_
 apply Y.q
 ·intro B hT hF
  refine An (h:=Bw ((Gp n3 n4).trans hbm)) (hr:=?_)
  refine An (h:=Bw ((Gp n3 n4).trans hbm)) (hr:=?_)
  exact Z68
 case hTF=>decide
 refine U4 (o:=om) (t':=48) (cs:=[A4 m.kind,.slice true 1 (m.take.map Ad),.slice true 2 (m.give.map Bs),.slice true 6 (m.ahead.map Ac),.slice true 6 (m.back.map Ac)]) (cs':=[A4 m.kind,.slice true 1 (m.take.map Ad),.slice true 2 (m.give.map Bs),.slice true 6 (m.ahead.map Ac),.slice false 6 (m.back.map Ac)]) Tryz.isAgg24 (fun B hB=>⟨by simp only [hB];exact F1 hm,U2_setm.symm,rfl⟩) ?_
 apply Y.q
 ·intro B hT hF
  refine An (h:=Bw ((Gp n1 n2).trans hbp)) (hr:=?_)
  exact Zp
 case hTF=>decide
 refine Lt (r:=Ac x) (o:=o) (x0:=pmO L i) (x:=pmO L k) Tryz.call282 (fun B hB1 hB2 hB=>⟨by simp only [hB];exact E9 ho hne,(Ew hne).symm,rfl,Dz,?_⟩) ?_
 ·simp only [hB]
  exact AEg
 apply Y.q
 ·intro B hT hF
  exact Z48
 case hTF=>decide
 refine Y.append jU Tryz.type26 ?_ ?_ ?_
 ·simp [Tryz.t26];omega
 ·simp [Tryz.t26];omega
 refine Fo (tn:=[4,6]) (U:=U2 L Hp o om k (.cells 48 [A4 m.kind,.slice true 1 (m.take.map Ad),.slice true 2 (m.give.map Bs),.slice true 6 (m.ahead.map Ac),.slice false 6 (m.back.map Ac)])) ?_;refine Z0 ?_
 refine Gz jS (F1 hm) ?_ ?_
 ·exact Pb
 exact AD5

theorem Hs {L:List Tok} {Hp:List AObj} {o om i j n:Nat} {x y:AObj} (hne:om≠o) (hy:ObjLow n y) (h:∀z∈U2 L Hp o om i x,ObjLow n z):∀z∈U2 L Hp o om j y,ObjLow n z:=by
 intro z hz
 rw [show U2 L Hp o om j y=((U2 L Hp o om i x).set o (pmO L j)).set om y by rw [Ew hne,U2_setm]] at hz
 rcases K7 hz with hz|rfl
 ·rcases K7 hz with hz|rfl
  ·exact h z hz
  exact Dz
 exact hy
theorem Ei {L:List Tok} {Hp own:List AObj} {o om i:Nat} {x:AObj} (h1:o<Hp.length) (h2:om<Hp.length):U2 L (Hp++own) o om i x=U2 L Hp o om i x++own:=by
 unfold U2
 rw [J8 _ _ h1,J8 _ _ (by simpa using h2)]
/-- Where the loop of things with commas between stands. -/
structure ListAt (L:List Tok) (n:Int) (one:Mov→Nat→PR Mov) (X:PR Mov) (x:Nat×Mov×Nat):Prop where
 lt:x.2.2<L.length
 pos:0<x.2.2
 le:MvLe x.2.1 (2*x.2.2)
 k:x.1≤x.2.2
 fuel:∃f,X=Qe L n one f x.1 x.2.1 x.2.2∧L.length-x.2.2<f
theorem ListAt.step {L:List Tok} {n:Int} {one:Mov→Nat→PR Mov} {X:PR Mov} {x:Nat×Mov×Nat} (h:ListAt L n one X x) (hq:Sl L n x.1 x.2.2=true):∃f,X=((Cs L [44] x.2.2).bind fun _ j=>(one x.2.1 j).bind fun m j=>Qe L n one f (x.1+1) m j)∧L.length-x.2.2<f+1:=by
 obtain ⟨f,e,hf⟩:=h.fuel
 obtain ⟨f,rfl⟩:∃g,f=g+1:=⟨f-1,by omega⟩
 refine ⟨f,?_,hf⟩
 rw [e,Qe,if_pos hq]
theorem ListAt.on {L:List Tok} (hl:TokEnd L) {n:Int} {one:Mov→Nat→PR Mov} (hP:Wy L one) {X:PR Mov} {x:Nat×Mov×Nat} (h:ListAt L n one X x) (hq:Sl L n x.1 x.2.2=true) {u:Unit} {j:Nat} (hW:Cs L [44] x.2.2=.ok u j) {m2:Mov} {j2:Nat} (hO:one x.2.1 j=.ok m2 j2):ListAt L n one X (x.1+1,m2,j2)∧x.2.2<j2:=by
 obtain ⟨f,e,hf⟩:=h.step hq
 have h1:=Fy hl h.lt _ _ hW
 have hj:j=x.2.2+1:=by
  unfold Cs at hW
  split at hW
  ·injection hW with _ h;exact h.symm
  cases hW
 obtain ⟨a1,a2,a3⟩:=hP x.2.1 j (h.le.mono (by omega)) (by omega) h1.2 _ _ hO
 have:=h.k
 refine ⟨⟨a2,by show 0<j2;omega,a3,by show x.1+1≤j2;omega,f,?_,by show L.length-j2<f;omega⟩,by omega⟩
 rw [e,hW]
 show (one x.2.1 j).bind _=_
 rw [hO];rfl
theorem ListAt.bad1 {L:List Tok} {n:Int} {one:Mov→Nat→PR Mov} {X:PR Mov} {x:Nat×Mov×Nat} (h:ListAt L n one X x) (hq:Sl L n x.1 x.2.2=true) {e a:Int} (hW:Cs L [44] x.2.2=.bad e a):X=.bad e a:=by
 obtain ⟨f,e,_⟩:=h.step hq
 rw [e,hW];rfl
theorem ListAt.bad2 {L:List Tok} {n:Int} {one:Mov→Nat→PR Mov} {X:PR Mov} {x:Nat×Mov×Nat} (h:ListAt L n one X x) (hq:Sl L n x.1 x.2.2=true) {u:Unit} {j:Nat} (hW:Cs L [44] x.2.2=.ok u j) {e a:Int} (hO:one x.2.1 j=.bad e a):X=.bad e a:=by
 obtain ⟨f,e,_⟩:=h.step hq
 rw [e,hW]
 show (one x.2.1 j).bind _=_
 rw [hO];rfl
theorem ListAt.out {L:List Tok} {n:Int} {one:Mov→Nat→PR Mov} {X:PR Mov} {x:Nat×Mov×Nat} (h:ListAt L n one X x) (hq:Sl L n x.1 x.2.2=false):X=.ok x.2.1 x.2.2:=by
 obtain ⟨f,e,hf⟩:=h.fuel
 obtain ⟨f,rfl⟩:∃g,f=g+1:=⟨f-1,by omega⟩
 rw [e,Qe,if_neg (by rw [hq];simp)]
theorem c232 (L:List Tok) (m:Mov) (i o om bp bm:Nat) (Hp:List AObj) (hne:om≠o) (ho:Hp[o]? = some (pmO L i)) (hm:Hp[om]? = some (mvO m)) (hbp:Hp[bp]? = some (.cells 142 [.ptr o 0])) (hbm:Hp[bm]? = some (.cells 227 [.ptr om 0])) (hi:i<L.length) (hl:TokEnd L) (hll:L.length≤500000) (hb:MvLe m (2*i-1)):CP 232 [.ptr bm 0,.ptr bp 0] Hp (Qf L m i) (fun m' j r H'=>r=Og∧H'=U2 L Hp o om j (mvO m')) (W2 L o om Hp):=by
 refine ⟨fun hX=>?_⟩
 have n1:bp≠o:=fun e=>by rw [e,ho] at hbp;simp at hbp
 have n2:bp≠om:=fun e=>by rw [e,hm] at hbp;simp at hbp
 have n3:bm≠o:=fun e=>by rw [e,ho] at hbm;simp at hbm
 have n4:bm≠om:=fun e=>by rw [e,hm] at hbm;simp at hbm
 have:=hb.take;have:=hb.give;have:=hb.ahead;have:=hb.back
 refine Ah [] [0,1] Tryz.func232 Tryz.ntmps232 (fun d=>?_)
 rcases hT:Gt L i with ⟨s,k⟩|⟨e,a⟩
 rotate_left
 ·exact (Cq hX (by first|exact by unfold Qf;rw [hT];rfl|exact hT)).elim
 have hk:=Hr hl hi _ _ hT
 refine U3 [0,0,2,6,14,0,32,96,254,511,1023,2047] [4,6] [.q 4 [] [],.s [6] (some 0) [] [],.q 1 [] [1],.s [8] (some 1) [] [],.q 1 [1] [],.s [6,10] none [0,1] []] (fun B=>U2 L Hp o om (if B 1=true then k else i) (if B 0=true then .cells 48 [A4 m.kind,.slice false 1 (m.take.map Ad),.slice true 2 (m.give.map Bs),.slice true 6 (m.ahead.map Ac),.slice true 6 (m.back.map Ac)] else .cells 48 [A4 m.kind,.slice true 1 (m.take.map Ad),.slice true 2 (m.give.map Bs),.slice true 6 (m.ahead.map Ac),.slice true 6 (m.back.map Ac)])) (fun _=>[]) Al (by kernel_rfl) (Qi ho hm) rfl (fun B=>U2_len) ?_
 apply Y.q
 ·intro B hT hF
  refine An (h:=Bw ((Gp n3 n4).trans hbm)) (hr:=?_)
  refine An (h:=Bw ((Gp n3 n4).trans hbm)) (hr:=?_)
  exact Z68
 case hTF=>decide
 refine U4 (o:=om) (t':=48) (cs:=[A4 m.kind,.slice true 1 (m.take.map Ad),.slice true 2 (m.give.map Bs),.slice true 6 (m.ahead.map Ac),.slice true 6 (m.back.map Ac)]) (cs':=[A4 m.kind,.slice false 1 (m.take.map Ad),.slice true 2 (m.give.map Bs),.slice true 6 (m.ahead.map Ac),.slice true 6 (m.back.map Ac)]) Tryz.isAgg45 (fun B hB=>⟨by simp only [hB];exact F1 hm,U2_setm.symm,rfl⟩) ?_
 apply Y.q
 ·intro B hT hF
  refine An (h:=Bw ((Gp n1 n2).trans hbp)) (hr:=?_)
  exact Zp
 case hTF=>decide
 refine Lt (r:=Ad s) (o:=o) (x0:=pmO L i) (x:=pmO L k) Tryz.call227 (fun B hB1 hB2 hB=>⟨by simp only [hB];exact E9 ho hne,(Ew hne).symm,rfl,Dz,?_⟩) ?_
 ·simp only [hB]
  exact (py L i o _ (Ag (E9 ho hne)) hi hll).ok hT
 apply Y.q
 ·intro B hT hF
  exact Z48
 case hTF=>decide
 refine Y.append jU Tryz.type9 ?_ ?_ ?_
 ·simp [Tryz.t9];omega
 ·simp [Tryz.t9];omega
 refine Fo (tn:=[4,6]) (U:=U2 L Hp o om k (.cells 48 [A4 m.kind,.slice false 1 (m.take.map Ad),.slice true 2 (m.give.map Bs),.slice true 6 (m.ahead.map Ac),.slice true 6 (m.back.map Ac)])) ?_;refine Z0 ?_
 refine Gz jS (F1 hm) ?_ ?_
 ·simp [or_imp,forall_and]
 refine A2 [] ?_;exact F0 .nores (hp:=⟨lx m s,k,by unfold Qf;rw [hT];rfl,rfl,by exact qb⟩)

theorem AI4 (L:List Tok) (m:Mov) (i o om bp bm:Nat) (Hp:List AObj) (hne:om≠o) (ho:Hp[o]? = some (pmO L i)) (hm:Hp[om]? = some (mvO m)) (hbp:Hp[bp]? = some (.cells 142 [.ptr o 0])) (hbm:Hp[bm]? = some (.cells 227 [.ptr om 0])) (hi:i<L.length) (hl:TokEnd L) (hll:L.length≤500000) (hb:MvLe m (2*i-1)):CP 231 [.ptr bp 0,.ptr bm 0] Hp (En L m i) (fun m' j r H'=>r=Og∧H'=U2 L Hp o om j (mvO m')) (W2 L o om Hp):=by
 refine ⟨fun hX=>?_⟩
 have hol:=(Ab.1 ho).1
 have hml:=(Ab.1 hm).1
 have n1:bp≠o:=fun e=>by rw [e,ho] at hbp;simp at hbp
 have n2:bp≠om:=fun e=>by rw [e,hm] at hbp;simp at hbp
 have n3:bm≠o:=fun e=>by rw [e,ho] at hbm;simp at hbm
 have n4:bm≠om:=fun e=>by rw [e,hm] at hbm;simp at hbm
 have:=hb.take;have:=hb.give;have:=hb.ahead;have:=hb.back
 refine Ah [] [0,1] Tryz.func231 Tryz.ntmps231 (fun d=>?_)
 refine t8 ?_
 rcases hT:En L m i with ⟨m2,k⟩|⟨e,a⟩
 rotate_left
 ·exact (Cq hX hT).elim
 refine He ?_
 refine A5 (h:=Bw ((Gp n1 n2).trans hbp)) (hr:=?_)
 refine A5 (h:=Bw ((Gp n3 n4).trans hbm)) (hr:=?_)
 refine I4 (up':=U2 L Hp o om k (mvO m2)) (own':=[]) Tryz.call226 (((AA6 L m i o om _ hne (Ag (E9 ho hne)) (Ag (F1 hm)) hi hl hll hb).ok hT).mono (fun r H' e=>⟨e.1,e.2.trans (by rw [Gx,Gx,J7 hne])⟩)) (by rw [U2_len,U2_len]) (fun h=>Hs hne Fz h) ?_;refine A2 [] ?_;exact F0 .nores (hp:=⟨m2,k,rfl,rfl,rfl⟩)

theorem ACq (L:List Tok) (n:Int) (m:Mov) (i o om g:Nat) (caps:List AV) (one:Mov→Nat→PR Mov) (Hp:List AObj) (hne:om≠o) (ho:Hp[o]? = some (pmO L i)) (hm:Hp[om]? = some (mvO m)) (h0:0<i) (hi:i<L.length) (hl:TokEnd L) (hll:L.length≤500000) (hb:MvLe m (2*i-1)) (hcall:∀args w,(callFunc g args).run Tryz.prog w=.ok (.enter g args) w) (hC:lz L o om g caps Hp one) (hP:Wy L one):CP 230 [.ptr o 0,A4 n,.fn (.func g) [] caps] Hp (Ho L n one m i) (fun m' j r H'=>r=Og∧H'=U2 L Hp o om j (mvO m')) (W2 L o om Hp):=by
 refine ⟨fun hX=>?_⟩
 have hol:=(Ab.1 ho).1
 have hml:=(Ab.1 hm).1
 refine Ah [] [0,1,2] Tryz.func230 Tryz.ntmps230 (fun d=>?_)
 refine t8 ?_
 rcases h1:one m i with ⟨m1,j1⟩|⟨e,a⟩
 rotate_left
 ·exact (Cq hX (by first|exact by unfold Ho;rw [h1];rfl|exact h1)).elim
 have g1:=hP m i hb h0 hi _ _ h1
 have e0:Ho L n one m i=Qe L n one (L.length+1) 1 m1 j1:=by unfold Ho;rw [h1];rfl
 refine Z2 ?_
 refine R.callVX (up':=U2 L Hp o om j1 (mvO m1)) (own':=[]) hcall (by rw [Gx,Gx];exact (hC m i hb h0 hi).ok h1) (by rw [U2_len,U2_len]) (fun h=>Hs hne Fz h) ?_
 refine U8 ?_;refine Z2 ?_;refine A2 [0,1,2,6] ?_
 refine D7 (α:=Nat×Mov×Nat) (fun x=>⟨30,A7 0 (.ptr o 0) (A7 1 (A4 n) (A7 2 (.fn (.func g) [] caps) (A7 6 (A4 (x.1:Int)) (fun _=>.any)))),U2 L Hp o om x.2.2 (mvO x.2.1),[],[],none⟩) (fun x=>ListAt L n one (Ho L n one m i) x) (fun x=>L.length-x.2.2) ((1,m1,j1)) ⟨g1.2.1,by show 0<j1;omega,g1.2.2,by show 1≤j1;omega,_,e0,by show L.length-j1<_;omega⟩ (Lp _) rfl (fun x hx=>?_)
 refine Z55 ?_;refine Wi ?_;refine Z34 ?_;refine Cd Tryz.call233 (fun hB=>c233 L [44] x.2.2 o _ (Ag (E9 ho hne)) hx.lt) ?_;refine U7 ?_;refine A2 [0,1,2,6,23] ?_
 refine A3 (fun ht23=>?_) (fun ht23=>?_)
 ·have hq:Sl L n x.1 x.2.2=true:=ht23
  refine Z6 ?_;refine Z21 ?_
  rcases hW:Cs L [44] x.2.2 with ⟨u,j⟩|⟨e,a⟩
  rotate_left
  ·exact (Cq hX (by first|exact hx.bad1 hq hW|exact hW)).elim
  have hj:=Fy hl hx.lt _ _ hW
  have hpos:=hx.pos
  refine Z2 ?_;refine D9 (x:=pmO L j) Tryz.call181 (E9 ho hne) (by simp) Dz ((je L [44] x.2.2 o _ (Ag (E9 ho hne)) hx.lt hll).ok hW) ?_
  rw [Ew hne]
  refine A2 [0,1,2,6] ?_
  rcases hO:one x.2.1 j with ⟨m2,j2⟩|⟨e,a⟩
  rotate_left
  ·exact (Cq hX (by first|exact hx.bad2 hq hW hO|exact hO)).elim
  have hon:=hx.on hl hP hq hW hO
  refine Z77 ?_
  refine R.callVX (up':=U2 L Hp o om j2 (mvO m2)) (own':=[]) hcall (by rw [Gx,Gx];exact (hC x.2.1 j (hx.le.mono (by omega)) (by omega) hj.2).ok hO) (by rw [U2_len,U2_len]) (fun h=>Hs hne Fz h) ?_
  refine A2 [0,1,2,6] ?_;refine Z14 ?_;refine Z77 ?_
  refine A5 (h:=Q.add64 (h2:=fun _=>by have:=hx.k;have:=hx.lt;omega)) (hr:=?_)
  refine A5 ?_;refine A2 [0,1,2,6] ?_
  refine Bp (x.1+1,m2,j2) hon.1 (by have:=hx.lt;have:=hon.2;show L.length-j2<L.length-x.2.2;omega) (Ea rfl)
 have hq:Sl L n x.1 x.2.2=false:=ht23
 have e:=hx.out hq
 refine Z70 ?_;refine K.lpE ?_;exact F0 .nores (hp:=⟨_,_,e,rfl,rfl⟩)

theorem CP.mono {g:FuncId} {args:List AV} {H:List AObj} {α:Type} {X:PR α} {Q Q':α→Nat→AV→List AObj→Prop} {R R':List AObj→Prop} (h:CP g args H X Q R) (hQ:∀c j r H',Q c j r H'→Q' c j r H') (hR:∀H',R H'→R' H'):CP g args H X Q' R':=
 ⟨fun hX=>(h.run hX).mono (fun r H' ⟨c,j,e,hq⟩=>⟨c,j,e,hQ _ _ _ _ hq⟩)⟩
section
variable {L:List Tok} {o om bp bm:Nat} {X:List AObj} {z z':AObj}
theorem qc (hne:om≠o) (ho:X[o]? = some z) (hm:X[om]? = some z') (hbp:X[bp]? = some (.cells 142 [.ptr o 0])) (hbm:X[bm]? = some (.cells 227 [.ptr om 0])) (n1:bp≠o) (n2:bp≠om) (n3:bm≠o) (n4:bm≠om) (hl:TokEnd L) (hll:L.length≤500000):lz L o om 283 [.ptr bm 0,.ptr bp 0] X (Sm L):=
 fun m i hb _ hi=>(AI3 L m i o om bp bm (U2 L X o om i (mvO m)) hne (E9 ho hne) (F1 hm) ((Gp n1 n2).trans hbp) ((Gp n3 n4).trans hbm) hi hl hll hb).mono (fun c j r H' e=>⟨e.1,e.2.trans (J7 hne)⟩) (fun H' h=>wr hne h)
theorem qd (hne:om≠o) (ho:X[o]? = some z) (hm:X[om]? = some z') (hbp:X[bp]? = some (.cells 142 [.ptr o 0])) (hbm:X[bm]? = some (.cells 227 [.ptr om 0])) (n1:bp≠o) (n2:bp≠om) (n3:bm≠o) (n4:bm≠om) (hl:TokEnd L) (hll:L.length≤500000):lz L o om 232 [.ptr bm 0,.ptr bp 0] X (Qf L):=
 fun m i hb _ hi=>(c232 L m i o om bp bm (U2 L X o om i (mvO m)) hne (E9 ho hne) (F1 hm) ((Gp n1 n2).trans hbp) ((Gp n3 n4).trans hbm) hi hl hll hb).mono (fun c j r H' e=>⟨e.1,e.2.trans (J7 hne)⟩) (fun H' h=>wr hne h)
theorem qe (hne:om≠o) (ho:X[o]? = some z) (hm:X[om]? = some z') (hbp:X[bp]? = some (.cells 142 [.ptr o 0])) (hbm:X[bm]? = some (.cells 227 [.ptr om 0])) (n1:bp≠o) (n2:bp≠om) (n3:bm≠o) (n4:bm≠om) (hl:TokEnd L) (hll:L.length≤500000):lz L o om 231 [.ptr bp 0,.ptr bm 0] X (En L):=
 fun m i hb _ hi=>(AI4 L m i o om bp bm (U2 L X o om i (mvO m)) hne (E9 ho hne) (F1 hm) ((Gp n1 n2).trans hbp) ((Gp n3 n4).trans hbm) hi hl hll hb).mono (fun c j r H' e=>⟨e.1,e.2.trans (J7 hne)⟩) (fun H' h=>wr hne h)
end
attribute [go_sem] U2_len
theorem qf {L:List Tok} {Hp own:List AObj} {o om i n:Nat} {x z:AObj} (h:own[n]? = some z):(U2 L Hp o om i x++own)[oid Hp.length n]? = some z:=by
 unfold oid
 rw [List.getElem?_append_right (by rw [U2_len];omega),U2_len,Nat.add_sub_cancel_left]
 exact h
theorem J4 {n k o:Nat} (h:o<n):oid n k≠o:=by unfold oid;omega
theorem AA7 (L:List Tok) (m:Mov) (i o om:Nat) (Hp:List AObj) (hne:om≠o) (ho:Hp[o]? = some (pmO L i)) (hm:Hp[om]? = some (mvO m)) (hi:i<L.length) (hl:TokEnd L) (hll:L.length≤500000) (hb:MvLe m (2*i)):CP 228 [.ptr o 0,.ptr om 0] Hp (Fg L m i) (fun m' j r H'=>r=Og∧H'=U2 L Hp o om j (mvO m')) (W2 L o om Hp):=by
 refine ⟨fun hX=>?_⟩
 have hol:=(List.getElem?_eq_some_iff.1 ho).1
 have hml:=(List.getElem?_eq_some_iff.1 hm).1
 refine ACall.body [] [0,1] Tryz.func228 Tryz.ntmps228 (fun d=>?_)
 refine E5 ?_;refine R.box ?_;refine R.box ?_;refine Ju ?_;refine t8 ?_
 rcases hW:Cs L wq i with ⟨u,j⟩|⟨e,a⟩
 rotate_left
 ·exact (Cq hX (by first|exact by unfold Fg;rw [hW];rfl|exact hW)).elim
 have hj:=Fy hl hi _ _ hW
 refine Z2 ?_;refine R.callUp (x:=pmO L j) Tryz.call181 (E9 ho hne) (by simp) Dz ((je L wq i o _ (Ag (E9 ho hne)) hi hll).ok hW) ?_
 rw [Ew hne]
 refine Ju ?_
 rcases hP:Ho L ((m.take.map Ad).length:Int) (Sm L) m j with ⟨m2,k⟩|⟨e,a⟩
 rotate_left
 ·exact (Cq hX (by first|exact by unfold Fg;rw [hW];show Ho L _ _ m j=_;rw [←hP,List.length_map]|exact hP)).elim
 refine W.drawQ0 [0,0,2,6,14,30,0,127] 7 Al (by kernel_rfl) ?_;refine Zk ?_
 refine D.go (h:=Q.loadUp (F1 hm)) (hr:=?_)
 refine D.go ?_;refine D.makeFunc ?_;refine D.tail ?_
 refine R.callX (up':=U2 L Hp o om k (mvO m2)) (own':=[.cells 142 [.ptr o 0],.cells 227 [.ptr om 0]]) Tryz.call230 (((ACq L (((m.take.map Ad).length:Int)) m j o om 283 [.ptr (oid Hp.length 1) 0,.ptr (oid Hp.length 0) 0] (Sm L) (U2 L Hp o om j (mvO m)++[.cells 142 [.ptr o 0],.cells 227 [.ptr om 0]]) hne (Ag (E9 ho hne)) (Ag (F1 hm)) (by omega) hj.2 hl hll (hb.mono (by omega)) Tryz.call283 (qc (z:=pmO L j) (z':=mvO m) hne (Ag (E9 ho hne)) (Ag (F1 hm)) (qf rfl) (qf rfl) (J4 hol) (J4 hml) (J4 hol) (J4 hml) hl hll) (dz hl hll)).ok hP).mono (fun r H' e=>⟨e.1,e.2.trans (by first|rw [Ei (by rw [U2_len];exact hol) (by rw [U2_len];exact hml),J7 hne]|rw [Ei hol hml])⟩)) (by first|rfl|rw [U2_len,U2_len]|rw [U2_len]) (fun h=>Hs hne Fz h) ?_
 refine R.fin [] ?_;exact K.finN .nores (hp:=⟨m2,k,by unfold Fg;rw [hW];show Ho L _ _ m j=_;rw [←hP,List.length_map],rfl,rfl⟩)

theorem Yc {L:List Tok} {Hp:List AObj} {o om i:Nat} {m:Mov} {s:Str} {x:AObj}:(U2 L Hp o om i x).set om (.cells 48 [A4 m.kind,.slice true 1 [Ad s],.slice true 2 (m.give.map Bs),.slice true 6 (m.ahead.map Ac),.slice true 6 (m.back.map Ac)])=U2 L Hp o om i (mvO (takeS m s)):=U2_setm
theorem m0 {n:Nat} {x:Expr}:Low n (.slice true 6 [.agg (Fd x)]):=by
 have:=Ej (n:=n) (k:=6) (o:=true) (l:=[x])
 simp only [Bt,Eu] at this
 rw [Am] at this
 exact this
theorem eb {n:Nat} {x:Expr}:Low n (.slice true 6 [Ac x]):=Ej (l:=[x])
theorem wt {L:List Tok} {m m1:Mov} {i k:Nat} (h:En L m i=.ok m1 k):(m1.give.map Bs)[0]? = some (Bs (m1.give.getD 0 ⟨[],0⟩)):=by
 obtain ⟨c,j,h1,h2⟩:=Vy h
 obtain ⟨u,j2,h3,h4⟩:=Vy h2
 obtain ⟨x,j3,h5,h6⟩:=Vy h4
 injection h6 with h6 h7
 subst h6
 show ((m.give++[c]).map Bs)[0]? = some (Bs ((m.give++[c]).getD 0 ⟨[],0⟩))
 cases m.give<;>rfl
section
variable {L:List Tok} {m:Mov} {i:Nat}
theorem wu (h1:(m.kind==1)=true):Hq L m i=En L m i:=if_pos h1
theorem jf (h1:(m.kind==1)=false) (h2:(m.kind==2)=true):Hq L m i=(Gt L i).bind fun s j=>Fg L (takeS m s) j:=by
 unfold Hq;rw [if_neg (by rw [h1];simp),if_pos h2]
theorem wv (h1:(m.kind==1)=false) (h2:(m.kind==2)=false) (h3:(m.kind==3)=true):Hq L m i=Jf L m i:=by
 unfold Hq;rw [if_neg (by rw [h1];simp),if_neg (by rw [h2];simp),if_pos h3]
theorem Vz (h1:(m.kind==1)=false) (h2:(m.kind==2)=false) (h3:(m.kind==3)=false) (h4:(m.kind==4)=true):Hq L m i=(Gt L i).bind fun s j=>(Cs L J6 j).bind fun _ j=>(Ho L 0 (En L) (takeS m s) j).bind fun m j=>Fg L m j:=by
 unfold Hq;rw [if_neg (by rw [h1];simp),if_neg (by rw [h2];simp),if_neg (by rw [h3];simp),if_pos h4]
theorem W0 (h1:(m.kind==1)=false) (h2:(m.kind==2)=false) (h3:(m.kind==3)=false) (h4:(m.kind==4)=false) (h5:(m.kind==5)=true):Hq L m i=(Ho L 0 (Qf L) m i).bind fun m j=>(Cs L J6 j).bind fun _ j=>(En L m j).bind fun m j=>Fg L m j:=by
 unfold Hq;rw [if_neg (by rw [h1];simp),if_neg (by rw [h2];simp),if_neg (by rw [h3];simp),if_neg (by rw [h4];simp),if_pos h5]
theorem jg (h1:(m.kind==1)=false) (h2:(m.kind==2)=false) (h3:(m.kind==3)=false) (h4:(m.kind==4)=false) (h5:(m.kind==5)=false) (h6:(m.kind==6)=true):Hq L m i=(En L m i).bind fun m j=>Fg L (takeS m (m.give.getD 0 ⟨[],0⟩).name) j:=by
 unfold Hq;rw [if_neg (by rw [h1];simp),if_neg (by rw [h2];simp),if_neg (by rw [h3];simp),if_neg (by rw [h4];simp),if_neg (by rw [h5];simp),if_pos h6]
theorem ACr (h1:(m.kind==1)=false) (h2:(m.kind==2)=false) (h3:(m.kind==3)=false) (h4:(m.kind==4)=false) (h5:(m.kind==5)=false) (h6:(m.kind==6)=false):Hq L m i=.ok m i:=by
 unfold Hq;rw [if_neg (by rw [h1];simp),if_neg (by rw [h2];simp),if_neg (by rw [h3];simp),if_neg (by rw [h4];simp),if_neg (by rw [h5];simp),if_neg (by rw [h6];simp)]
end
theorem AI5 (L:List Tok) (m:Mov) (i o om:Nat) (Hp:List AObj) (hne:om≠o) (ho:Hp[o]? = some (pmO L i)) (hm:Hp[om]? = some (mvO m)) (hi:i<L.length) (hl:TokEnd L) (hll:L.length≤500000) (hb:MvLe m (2*i-1)):CP 229 [.ptr o 0,.ptr om 0] Hp (Jf L m i) (fun m' j r H'=>r=Og∧H'=U2 L Hp o om j (mvO m')) (W2 L o om Hp):=by
 refine ⟨fun hX=>?_⟩
 refine Ah [] [0,1] Tryz.func229 Tryz.ntmps229 (fun d=>?_)
 refine t8 ?_
 rcases h1:Gt L i with ⟨s,j⟩|⟨e,a⟩
 rotate_left
 ·exact (Cq hX (by first|exact by unfold Jf;rw [h1];rfl|exact h1)).elim
 have hj:=Hr hl hi _ _ h1
 refine Z1 ?_;refine D9 (x:=pmO L j) Tryz.call227 (E9 ho hne) (by simp) Dz ((py L i o _ (Ag (E9 ho hne)) hi hll).ok h1) ?_
 rw [Ew hne]
 refine Pq ?_;refine Z0 ?_
 refine Gz jS (F1 hm) ?_ ?_
 ·simp [or_imp,forall_and]
 refine A2 [0,1] ?_;refine Pa (U2_setm (y:=.cells 48 [A4 m.kind,.slice true 1 ([Ad s]),.slice true 2 (m.give.map Bs),.slice true 6 (m.ahead.map Ac),.slice true 6 (m.back.map Ac)])) ?_
 rcases h2:Cs L toW j with ⟨u,j2⟩|⟨e,a⟩
 rotate_left
 ·exact (Cq hX (by first|exact by unfold Jf;rw [h1];show (Cs L toW j).bind _=_;rw [h2];rfl|exact h2)).elim
 have hj2:=Fy hl hj.2 _ _ h2
 refine Z2 ?_;refine D9 (x:=pmO L j2) Tryz.call181 (E9 ho hne) (by simp) Dz ((je L toW j o _ (Ag (E9 ho hne)) hj.2 hll).ok h2) ?_
 rw [Ew hne]
 refine A2 [0,1] ?_
 rcases h3:Gt L j2 with ⟨t,k⟩|⟨e,a⟩
 rotate_left
 ·exact (Cq hX (by first|exact by unfold Jf;rw [h1];show (Cs L toW j).bind _=_;rw [h2];show (Gt L j2).bind _=_;rw [h3];rfl|exact h3)).elim
 refine Z2 ?_;refine D9 (x:=pmO L k) Tryz.call227 (E9 ho hne) (by simp) Dz ((py L j2 o _ (Ag (E9 ho hne)) hj2.2 hll).ok h3) ?_
 rw [Ew hne]
 refine A5 ?_;refine A2 [1,4] ?_;refine Z1 ?_;refine Zo ?_;refine Pq ?_;refine Z0 ?_
 refine Gz jS (F1 hm) ?_ ?_
 ·simp [or_imp,forall_and]
 refine A2 [1,4] ?_;refine Pa (U2_setm (y:=.cells 48 [A4 m.kind,.slice true 1 ([Ad s]),.slice true 2 ([Bs ⟨t,0⟩]),.slice true 6 (m.ahead.map Ac),.slice true 6 (m.back.map Ac)])) ?_;refine Z20 ?_;refine Z28 ?_
 refine A5 (h:=Bw (F1 hm)) (hr:=?_)
 refine A5 (h:=Ak (0) (Ad s) (fun _=>rfl)) (hr:=?_)
 refine A5 ?_;refine A9 Tryz.call240 (zr s _) ?_;refine Pq ?_;refine A5 ?_;refine A9 Tryz.call240 (zr t _) ?_;refine Pq ?_;refine Z0 ?_
 refine Gz jS (F1 hm) ?_ ?_
 ·first|exact m0|exact eb
 rw [U2_setm]
 refine Z0 ?_
 refine Gz jS (F1 hm) ?_ ?_
 ·first|exact m0|exact eb
 rw [U2_setm]
 refine A2 [] ?_;exact F0 .nores (hp:=⟨⟨m.kind,[s],[⟨t,0⟩],[Cr s],[Cr t]⟩,k,by unfold Jf;rw [h1];show (Cs L toW j).bind _=_;rw [h2];show (Gt L j2).bind _=_;rw [h3];rfl,rfl,by simp only [mvO,mvC,Bt,Eu,Am]⟩)

theorem qg {L:List Tok} {Hp:List AObj} {o om i:Nat} {m:Mov} {c:Col} {x:AObj}:(U2 L Hp o om i x).set om (.cells 48 [A4 m.kind,.slice true 1 [Ad c.name],.slice true 2 (m.give.map Bs),.slice true 6 (m.ahead.map Ac),.slice true 6 (m.back.map Ac)])=U2 L Hp o om i (mvO (takeS m c.name)):=U2_setm
theorem AI6 (L:List Tok) (m:Mov) (i o om:Nat) (Hp:List AObj) (hne:om≠o) (ho:Hp[o]? = some (pmO L i)) (hm:Hp[om]? = some (mvO m)) (hi:i<L.length) (hl:TokEnd L) (hll:L.length≤500000) (hb:MvLe m (2*i-1)) (h0:0<i):CP 180 [.ptr o 0,.ptr om 0] Hp (Hq L m i) (fun m' j r H'=>r=Og∧H'=U2 L Hp o om j (mvO m')) (W2 L o om Hp):=by
 refine ⟨fun hX=>?_⟩
 have hol:=(Ab.1 ho).1
 have hml:=(Ab.1 hm).1
 refine Ah [] [0,1] Tryz.func180 Tryz.ntmps180 (fun d=>?_)
 refine E5 ?_;refine R.box ?_;refine R.box ?_;refine Ju ?_;refine t8 ?_;refine Z13 ?_
 refine A5 (h:=Bw (F1 hm)) (hr:=?_)
 refine A2 [2,3,7] ?_;refine Z92 ?_;refine A2 [2,3,7,8] ?_
 refine A3 (fun ht8=>?_) (fun ht8=>?_)
 ·rcases h1:En L m i with ⟨m1,k⟩|⟨e,a⟩
  rotate_left
  ·exact (Cq hX (by first|exact by rw [wu ht8];rw [h1]|exact h1)).elim
  refine Z20 ?_
  refine I4 (up':=U2 L Hp o om k (mvO m1)) (own':=[.cells 142 [.ptr o 0],.cells 227 [.ptr om 0]]) Tryz.call226 (((AA6 L m i o om (U2 L Hp o om i (mvO m)++[.cells 142 [.ptr o 0],.cells 227 [.ptr om 0]]) hne (Ag (E9 ho hne)) (Ag (F1 hm)) hi hl hll hb).ok h1).mono (fun r H' e=>⟨e.1,e.2.trans (by first|rw [Ei (by rw [U2_len];exact hol) (by rw [U2_len];exact hml),J7 hne]|rw [Ei hol hml])⟩)) (by first|rfl|rw [U2_len,U2_len]|rw [U2_len]) (fun h=>Hs hne Fz h) ?_
  refine Z84 ?_;exact F0 .nores (hp:=⟨m1,k,by rw [wu ht8];rw [h1],rfl,rfl⟩)
 refine Z1 ?_;refine A2 [2,3,7,13] ?_
 refine A3 (fun ht13=>?_) (fun ht13=>?_)
 ·rcases h1:Gt L i with ⟨s,j⟩|⟨e,a⟩
  rotate_left
  ·exact (Cq hX (by first|exact by rw [jf ht8 ht13];rw [h1];rfl|exact h1)).elim
  have hj:=Hr hl hi _ _ h1
  refine H0 [0,0,2,6,15,31,63] [2] [.q 2 [] [],.s [17] (some 0) [] [],.s [18] none [0] []] (fun B=>U2 L Hp o om (if B 0=true then j else i) (mvO m)) (fun _=>[.cells 142 [.ptr o 0],.cells 227 [.ptr om 0]]) Al (by kernel_rfl) rfl rfl (fun B=>by rw [U2_len];exact U2_len.symm) ?_
  apply Y.q
  ·intro B hT hF
   exact Z68
  case hTF=>decide
  refine Lt (r:=Ad s) (o:=o) (x0:=pmO L i) (x:=pmO L j) Tryz.call227 (fun B hB1 hB2 hB=>⟨by simp only [hB];exact E9 ho hne,(Ew hne).symm,rfl,Dz,?_⟩) ?_
  ·simp only [hB]
   exact (py L i o _ (Ag (E9 ho hne)) hi hll).ok h1
  refine ADf ?_;refine Z0 ?_
  refine Gz jS (F1 hm) ?_ ?_
  ·simp [or_imp,forall_and]
  refine Ju ?_;refine Pa (Yc (m:=m) (s:=s)) ?_
  rcases h2:Fg L (takeS m s) j with ⟨m2,k⟩|⟨e,a⟩
  rotate_left
  ·exact (Cq hX (by first|exact by rw [jf ht8 ht13];rw [h1];show Fg L (takeS m s) j=_;rw [h2]|exact h2)).elim
  refine Z20 ?_
  refine I4 (up':=U2 L Hp o om k (mvO m2)) (own':=[.cells 142 [.ptr o 0],.cells 227 [.ptr om 0]]) Tryz.call228 (((AA7 L (takeS m s) j o om (U2 L Hp o om j (mvO (takeS m s))++[.cells 142 [.ptr o 0],.cells 227 [.ptr om 0]]) hne (Ag (E9 ho hne)) (Ag (F1 hm)) hj.2 hl hll ((hb.mono (by omega:2*i-1≤2*j)).takeS (by omega))).ok h2).mono (fun r H' e=>⟨e.1,e.2.trans (by first|rw [Ei (by rw [U2_len];exact hol) (by rw [U2_len];exact hml),J7 hne]|rw [Ei hol hml])⟩)) (by first|rfl|rw [U2_len,U2_len]|rw [U2_len]) (fun h=>Hs hne Fz h) ?_
  refine Z84 ?_;exact F0 .nores (hp:=⟨m2,k,by rw [jf ht8 ht13];rw [h1];show Fg L (takeS m s) j=_;rw [h2],rfl,rfl⟩)
 refine Z1 ?_;refine A2 [2,3,7,24] ?_
 refine A3 (fun ht24=>?_) (fun ht24=>?_)
 ·rcases h1:Jf L m i with ⟨m1,k⟩|⟨e,a⟩
  rotate_left
  ·exact (Cq hX (by first|exact by rw [wv ht8 ht13 ht24];rw [h1]|exact h1)).elim
  refine Z20 ?_
  refine I4 (up':=U2 L Hp o om k (mvO m1)) (own':=[.cells 142 [.ptr o 0],.cells 227 [.ptr om 0]]) Tryz.call229 (((AI5 L m i o om (U2 L Hp o om i (mvO m)++[.cells 142 [.ptr o 0],.cells 227 [.ptr om 0]]) hne (Ag (E9 ho hne)) (Ag (F1 hm)) hi hl hll hb).ok h1).mono (fun r H' e=>⟨e.1,e.2.trans (by first|rw [Ei (by rw [U2_len];exact hol) (by rw [U2_len];exact hml),J7 hne]|rw [Ei hol hml])⟩)) (by first|rfl|rw [U2_len,U2_len]|rw [U2_len]) (fun h=>Hs hne Fz h) ?_
  refine Z84 ?_;exact F0 .nores (hp:=⟨m1,k,by rw [wv ht8 ht13 ht24];rw [h1],rfl,rfl⟩)
 refine Z1 ?_;refine A2 [2,3,7,29] ?_
 refine A3 (fun ht29=>?_) (fun ht29=>?_)
 ·rcases h1:Gt L i with ⟨s,j⟩|⟨e,a⟩
  rotate_left
  ·exact (Cq hX (by first|exact by rw [Vz ht8 ht13 ht24 ht29];rw [h1];rfl|exact h1)).elim
  have hj:=Hr hl hi _ _ h1
  refine H0 [0,0,2,6,15,31,63] [2] [.q 2 [] [],.s [33] (some 0) [] [],.s [34] none [0] []] (fun B=>U2 L Hp o om (if B 0=true then j else i) (mvO m)) (fun _=>[.cells 142 [.ptr o 0],.cells 227 [.ptr om 0]]) Al (by kernel_rfl) rfl rfl (fun B=>by rw [U2_len];exact U2_len.symm) ?_
  apply Y.q
  ·intro B hT hF
   exact Z68
  case hTF=>decide
  refine Lt (r:=Ad s) (o:=o) (x0:=pmO L i) (x:=pmO L j) Tryz.call227 (fun B hB1 hB2 hB=>⟨by simp only [hB];exact E9 ho hne,(Ew hne).symm,rfl,Dz,?_⟩) ?_
  ·simp only [hB]
   exact (py L i o _ (Ag (E9 ho hne)) hi hll).ok h1
  refine ADf ?_;refine Z0 ?_
  refine Gz jS (F1 hm) ?_ ?_
  ·simp [or_imp,forall_and]
  refine Ju ?_;refine Pa (Yc (m:=m) (s:=s)) ?_
  rcases h2:Cs L J6 j with ⟨u,j2⟩|⟨e,a⟩
  rotate_left
  ·exact (Cq hX (by first|exact by rw [Vz ht8 ht13 ht24 ht29];rw [h1];show (Cs L J6 j).bind _=_;rw [h2];rfl|exact h2)).elim
  have hj2:=Fy hl hj.2 _ _ h2
  refine Z2 ?_;refine D9 (x:=pmO L j2) Tryz.call181 (E9 ho hne) (by simp) Dz ((je L J6 j o _ (Ag (E9 ho hne)) hj.2 hll).ok h2) ?_
  rw [Ew hne]
  refine Ju ?_
  rcases h3:Ho L 0 (En L) (takeS m s) j2 with ⟨m1,j3⟩|⟨e,a⟩
  rotate_left
  ·exact (Cq hX (by first|exact by rw [Vz ht8 ht13 ht24 ht29];rw [h1];show (Cs L J6 j).bind _=_;rw [h2];show (Ho L 0 (En L) (takeS m s) j2).bind _=_;rw [h3];rfl|exact h3)).elim
  have hj3:=Qh hl (Kn hl hll) (takeS m s) j2 ((hb.mono (by omega:2*i-1≤2*j2-1)).takeS (by omega)) (by omega) hj2.2 _ _ h3
  refine Z2 ?_;refine I3 ?_
  refine I4 (up':=U2 L Hp o om j3 (mvO m1)) (own':=[.cells 142 [.ptr o 0],.cells 227 [.ptr om 0]]) Tryz.call230 (((ACq L (0) (takeS m s) j2 o om 231 [.ptr (oid Hp.length 0) 0,.ptr (oid Hp.length 1) 0] (En L) (U2 L Hp o om j2 (mvO (takeS m s))++[.cells 142 [.ptr o 0],.cells 227 [.ptr om 0]]) hne (Ag (E9 ho hne)) (Ag (F1 hm)) (by omega) hj2.2 hl hll ((hb.mono (by omega:2*i-1≤2*j2-1)).takeS (by omega)) Tryz.call231 (qe (z:=pmO L j2) (z':=mvO (takeS m s)) hne (Ag (E9 ho hne)) (Ag (F1 hm)) (qf rfl) (qf rfl) (J4 hol) (J4 hml) (J4 hol) (J4 hml) hl hll) (Kn hl hll)).ok h3).mono (fun r H' e=>⟨e.1,e.2.trans (by first|rw [Ei (by rw [U2_len];exact hol) (by rw [U2_len];exact hml),J7 hne]|rw [Ei hol hml])⟩)) (by first|rfl|rw [U2_len,U2_len]|rw [U2_len]) (fun h=>Hs hne Fz h) ?_
  refine Ju ?_
  rcases h4:Fg L m1 j3 with ⟨m2,k⟩|⟨e,a⟩
  rotate_left
  ·exact (Cq hX (by first|exact by rw [Vz ht8 ht13 ht24 ht29];rw [h1];show (Cs L J6 j).bind _=_;rw [h2];show (Ho L 0 (En L) (takeS m s) j2).bind _=_;rw [h3];show Fg L m1 j3=_;rw [h4]|exact h4)).elim
  refine Z20 ?_
  refine I4 (up':=U2 L Hp o om k (mvO m2)) (own':=[.cells 142 [.ptr o 0],.cells 227 [.ptr om 0]]) Tryz.call228 (((AA7 L m1 j3 o om (U2 L Hp o om j3 (mvO m1)++[.cells 142 [.ptr o 0],.cells 227 [.ptr om 0]]) hne (Ag (E9 ho hne)) (Ag (F1 hm)) hj3.2.1 hl hll hj3.2.2).ok h4).mono (fun r H' e=>⟨e.1,e.2.trans (by first|rw [Ei (by rw [U2_len];exact hol) (by rw [U2_len];exact hml),J7 hne]|rw [Ei hol hml])⟩)) (by first|rfl|rw [U2_len,U2_len]|rw [U2_len]) (fun h=>Hs hne Fz h) ?_
  refine Z84 ?_;exact F0 .nores (hp:=⟨m2,k,by rw [Vz ht8 ht13 ht24 ht29];rw [h1];show (Cs L J6 j).bind _=_;rw [h2];show (Ho L 0 (En L) (takeS m s) j2).bind _=_;rw [h3];show Fg L m1 j3=_;rw [h4],rfl,rfl⟩)
 refine Z1 ?_;refine A2 [2,3,7,45] ?_
 refine A3 (fun ht45=>?_) (fun ht45=>?_)
 ·rcases h1:Ho L 0 (Qf L) m i with ⟨m1,j⟩|⟨e,a⟩
  rotate_left
  ·exact (Cq hX (by first|exact by rw [W0 ht8 ht13 ht24 ht29 ht45];rw [h1];rfl|exact h1)).elim
  have hj:=Qh hl (Vx hl) m i hb h0 hi _ _ h1
  refine Z2 ?_;refine I3 ?_
  refine I4 (up':=U2 L Hp o om j (mvO m1)) (own':=[.cells 142 [.ptr o 0],.cells 227 [.ptr om 0]]) Tryz.call230 (((ACq L (0) m i o om 232 [.ptr (oid Hp.length 1) 0,.ptr (oid Hp.length 0) 0] (Qf L) (U2 L Hp o om i (mvO m)++[.cells 142 [.ptr o 0],.cells 227 [.ptr om 0]]) hne (Ag (E9 ho hne)) (Ag (F1 hm)) h0 hi hl hll hb Tryz.call232 (qd (z:=pmO L i) (z':=mvO m) hne (Ag (E9 ho hne)) (Ag (F1 hm)) (qf rfl) (qf rfl) (J4 hol) (J4 hml) (J4 hol) (J4 hml) hl hll) (Vx hl)).ok h1).mono (fun r H' e=>⟨e.1,e.2.trans (by first|rw [Ei (by rw [U2_len];exact hol) (by rw [U2_len];exact hml),J7 hne]|rw [Ei hol hml])⟩)) (by first|rfl|rw [U2_len,U2_len]|rw [U2_len]) (fun h=>Hs hne Fz h) ?_
  refine Ju ?_
  rcases h2:Cs L J6 j with ⟨u,j2⟩|⟨e,a⟩
  rotate_left
  ·exact (Cq hX (by first|exact by rw [W0 ht8 ht13 ht24 ht29 ht45];rw [h1];show (Cs L J6 j).bind _=_;rw [h2];rfl|exact h2)).elim
  have hj2:=Fy hl hj.2.1 _ _ h2
  have hj2e:=M7 h2
  refine Z2 ?_;refine D9 (x:=pmO L j2) Tryz.call181 (E9 ho hne) (by simp) Dz ((je L J6 j o _ (Ag (E9 ho hne)) hj.2.1 hll).ok h2) ?_
  rw [Ew hne]
  refine Ju ?_
  rcases h3:En L m1 j2 with ⟨m2,j3⟩|⟨e,a⟩
  rotate_left
  ·exact (Cq hX (by first|exact by rw [W0 ht8 ht13 ht24 ht29 ht45];rw [h1];show (Cs L J6 j).bind _=_;rw [h2];show (En L m1 j2).bind _=_;rw [h3];rfl|exact h3)).elim
  have hj3:=Kn hl hll m1 j2 (hj.2.2.mono (by omega)) (by omega) hj2.2 _ _ h3
  refine Z1 ?_
  refine I4 (up':=U2 L Hp o om j3 (mvO m2)) (own':=[.cells 142 [.ptr o 0],.cells 227 [.ptr om 0]]) Tryz.call226 (((AA6 L m1 j2 o om (U2 L Hp o om j2 (mvO m1)++[.cells 142 [.ptr o 0],.cells 227 [.ptr om 0]]) hne (Ag (E9 ho hne)) (Ag (F1 hm)) hj2.2 hl hll (hj.2.2.mono (by omega))).ok h3).mono (fun r H' e=>⟨e.1,e.2.trans (by first|rw [Ei (by rw [U2_len];exact hol) (by rw [U2_len];exact hml),J7 hne]|rw [Ei hol hml])⟩)) (by first|rfl|rw [U2_len,U2_len]|rw [U2_len]) (fun h=>Hs hne Fz h) ?_
  refine Ju ?_
  rcases h4:Fg L m2 j3 with ⟨m3,k⟩|⟨e,a⟩
  rotate_left
  ·exact (Cq hX (by first|exact by rw [W0 ht8 ht13 ht24 ht29 ht45];rw [h1];show (Cs L J6 j).bind _=_;rw [h2];show (En L m1 j2).bind _=_;rw [h3];show Fg L m2 j3=_;rw [h4]|exact h4)).elim
  refine Z20 ?_
  refine I4 (up':=U2 L Hp o om k (mvO m3)) (own':=[.cells 142 [.ptr o 0],.cells 227 [.ptr om 0]]) Tryz.call228 (((AA7 L m2 j3 o om (U2 L Hp o om j3 (mvO m2)++[.cells 142 [.ptr o 0],.cells 227 [.ptr om 0]]) hne (Ag (E9 ho hne)) (Ag (F1 hm)) hj3.2.1 hl hll hj3.2.2).ok h4).mono (fun r H' e=>⟨e.1,e.2.trans (by first|rw [Ei (by rw [U2_len];exact hol) (by rw [U2_len];exact hml),J7 hne]|rw [Ei hol hml])⟩)) (by first|rfl|rw [U2_len,U2_len]|rw [U2_len]) (fun h=>Hs hne Fz h) ?_
  refine Z84 ?_;exact F0 .nores (hp:=⟨m3,k,by rw [W0 ht8 ht13 ht24 ht29 ht45];rw [h1];show (Cs L J6 j).bind _=_;rw [h2];show (En L m1 j2).bind _=_;rw [h3];show Fg L m2 j3=_;rw [h4],rfl,rfl⟩)
 refine Z1 ?_;refine A2 [2,3,58] ?_
 refine A3 (fun ht58=>?_) (fun ht58=>?_)
 ·rcases h1:En L m i with ⟨m1,j⟩|⟨e,a⟩
  rotate_left
  ·exact (Cq hX (by first|exact by rw [jg ht8 ht13 ht24 ht29 ht45 ht58];rw [h1];rfl|exact h1)).elim
  have hj:=Kn hl hll m i hb h0 hi _ _ h1
  refine Z1 ?_
  refine I4 (up':=U2 L Hp o om j (mvO m1)) (own':=[.cells 142 [.ptr o 0],.cells 227 [.ptr om 0]]) Tryz.call226 (((AA6 L m i o om (U2 L Hp o om i (mvO m)++[.cells 142 [.ptr o 0],.cells 227 [.ptr om 0]]) hne (Ag (E9 ho hne)) (Ag (F1 hm)) hi hl hll hb).ok h1).mono (fun r H' e=>⟨e.1,e.2.trans (by first|rw [Ei (by rw [U2_len];exact hol) (by rw [U2_len];exact hml),J7 hne]|rw [Ei hol hml])⟩)) (by first|rfl|rw [U2_len,U2_len]|rw [U2_len]) (fun h=>Hs hne Fz h) ?_
  refine Ju ?_;refine H0 [0,0,2,6,14,30,62,126,254,511,1023,2047] [] [.q 8 [] [],.s [71] none [] []] (fun _=>U2 L Hp o om j (mvO m1)) (fun _=>[.cells 142 [.ptr o 0],.cells 227 [.ptr om 0]]) Al (by kernel_rfl) rfl rfl (fun B=>rfl) ?_
  apply Y.q
  ·intro B hT hF
   refine Zk ?_
   refine An (h:=Bw (F1 hm)) (hr:=?_)
   refine An (h:=Ak (0) (Bs (m1.give.getD 0 ⟨[],0⟩)) (fun _=>wt h1)) (hr:=?_)
   exact Z68
  case hTF=>decide
  refine Y.buildSlice jU Tryz.sizeOf9 Tryz.zeroValue9 ?_;refine Fo (tn:=[]) (U:=U2 L Hp o om j (mvO m1)) ?_;refine Z0 ?_
  refine Gz jS (F1 hm) ?_ ?_
  ·simp [or_imp,forall_and]
  refine Ju ?_;refine Pa (qg (m:=m1) (c:=m1.give.getD 0 ⟨[],0⟩)) ?_
  rcases h2:Fg L (takeS m1 (m1.give.getD 0 ⟨[],0⟩).name) j with ⟨m2,k⟩|⟨e,a⟩
  rotate_left
  ·exact (Cq hX (by first|exact by rw [jg ht8 ht13 ht24 ht29 ht45 ht58];rw [h1];show Fg L (takeS m1 (m1.give.getD 0 ⟨[],0⟩).name) j=_;rw [h2]|exact h2)).elim
  refine Z20 ?_
  refine I4 (up':=U2 L Hp o om k (mvO m2)) (own':=[.cells 142 [.ptr o 0],.cells 227 [.ptr om 0]]) Tryz.call228 (((AA7 L (takeS m1 (m1.give.getD 0 ⟨[],0⟩).name) j o om (U2 L Hp o om j (mvO (takeS m1 (m1.give.getD 0 ⟨[],0⟩).name))++[.cells 142 [.ptr o 0],.cells 227 [.ptr om 0]]) hne (Ag (E9 ho hne)) (Ag (F1 hm)) hj.2.1 hl hll (hj.2.2.takeS (by omega))).ok h2).mono (fun r H' e=>⟨e.1,e.2.trans (by first|rw [Ei (by rw [U2_len];exact hol) (by rw [U2_len];exact hml),J7 hne]|rw [Ei hol hml])⟩)) (by first|rfl|rw [U2_len,U2_len]|rw [U2_len]) (fun h=>Hs hne Fz h) ?_
  refine Z84 ?_;exact F0 .nores (hp:=⟨m2,k,by rw [jg ht8 ht13 ht24 ht29 ht45 ht58];rw [h1];show Fg L (takeS m1 (m1.give.getD 0 ⟨[],0⟩).name) j=_;rw [h2],rfl,rfl⟩)
 refine Kt ?_;refine Lv ?_;exact F0 .nores (hp:=⟨m,i,ACr ht8 ht13 ht24 ht29 ht45 ht58,rfl,rfl⟩)

def AFj:Str:=[32,97,100,100,32,100,114,111,112,32,114,101,110,97,109,101,32,115,112,108,105,116,32,109,101,114,103,101,32,114,101,116,121,112,101]
theorem qh:Mz AFj [32]=migWords:=by kernel_rfl
theorem AI7 (k:Int) (Hp:List AObj):AFun Tryz.prog 225 [A4 k] Hp (Ad (E7 k)):=by
 refine Ah [.tmp 2] [0] Tryz.func225 Tryz.ntmps225 (fun d=>?_)
 refine Z46 ?_;refine Z32 ?_;refine U7 ?_;refine A2 [0,8] ?_
 refine A3 (fun ht8=>?_) (fun ht8=>?_)
 ·have hm:E7 k=[]:=if_pos ht8
  refine Z61 ?_;exact Z86
 have hm:E7 k=migWords.getD k.toNat []:=if_neg (by rw [ht8];simp)
 refine bt ?_;refine A9 Tryz.call122 (ABk AFj [32] (by decide) (by decide) _) ?_
 rw [qh]
 refine A5 ?_
 have hk:1≤k∧k≤6:=by simp at ht8;omega
 have hget:(migWords.map Ad)[k.toNat]? = some (Ad (migWords.getD k.toNat [])):=by
  have hlt:k.toNat<migWords.length:=by show k.toNat<7;omega
  rw [C9,Aa hlt,Cz,Aa hlt]
  rfl
 refine A5 (h:=Ak (k.toNat) (Ad (migWords.getD k.toNat [])) (fun _=>hget)) (hr:=?_)
 refine Z57 ?_;exact nj

theorem qi {s:Str} {x:Nat} (h:∀j:Nat,j<x→(E7 ((j:Int)+1)==s)=false) (hx:x<6) (he:(E7 ((x:Int)+1)==s)=true):Gw s=(x:Int)+1:=by
 have a:∀j:Nat,j<x→∀k:Int,k=(j:Int)+1→(E7 k==s)=false:=fun j hj k e=>by rw [e];exact h j hj
 have b:∀k:Int,k=(x:Int)+1→(E7 k==s)=true:=fun k e=>by rw [e];exact he
 have h6:x=0∨x=1∨x=2∨x=3∨x=4∨x=5:=by omega
 unfold Gw
 rcases h6 with rfl|rfl|rfl|rfl|rfl|rfl
 ·rw [if_pos (b 1 rfl)];rfl
 ·rw [if_neg (by rw [a 0 (by omega) 1 rfl];simp),if_pos (b 2 rfl)];rfl
 ·rw [if_neg (by rw [a 0 (by omega) 1 rfl];simp),if_neg (by rw [a 1 (by omega) 2 rfl];simp),if_pos (b 3 rfl)];rfl
 ·rw [if_neg (by rw [a 0 (by omega) 1 rfl];simp),if_neg (by rw [a 1 (by omega) 2 rfl];simp),if_neg (by rw [a 2 (by omega) 3 rfl];simp),if_pos (b 4 rfl)];rfl
 ·rw [if_neg (by rw [a 0 (by omega) 1 rfl];simp),if_neg (by rw [a 1 (by omega) 2 rfl];simp),if_neg (by rw [a 2 (by omega) 3 rfl];simp),if_neg (by rw [a 3 (by omega) 4 rfl];simp),if_pos (b 5 rfl)];rfl
 rw [if_neg (by rw [a 0 (by omega) 1 rfl];simp),if_neg (by rw [a 1 (by omega) 2 rfl];simp),if_neg (by rw [a 2 (by omega) 3 rfl];simp),if_neg (by rw [a 3 (by omega) 4 rfl];simp),if_neg (by rw [a 4 (by omega) 5 rfl];simp),if_pos (b 6 rfl)];rfl
theorem ec {s:Str} {x:Nat} (h:∀j:Nat,j<x→(E7 ((j:Int)+1)==s)=false) (he:(E7 ((x:Int)+1)==s)=false):∀j:Nat,j<x+1→(E7 ((j:Int)+1)==s)=false:=fun j hj=>by
 rcases B3 j x with h1|h1
 ·exact h j h1
 rw [show j=x by omega];exact he
theorem qj {s:Str} {x:Nat} (h:∀j:Nat,j<x→(E7 ((j:Int)+1)==s)=false) (hx:6≤x):Gw s=0:=by
 have a:∀j:Nat,j<6→∀k:Int,k=(j:Int)+1→(E7 k==s)=false:=fun j hj k e=>by rw [e];exact h j (by omega)
 unfold Gw
 rw [if_neg (by rw [a 0 (by omega) 1 rfl];simp),if_neg (by rw [a 1 (by omega) 2 rfl];simp),if_neg (by rw [a 2 (by omega) 3 rfl];simp),if_neg (by rw [a 3 (by omega) 4 rfl];simp),if_neg (by rw [a 4 (by omega) 5 rfl];simp),if_neg (by rw [a 5 (by omega) 6 rfl];simp)]
theorem AI8 (s:Str) (Hp:List AObj):AFun Tryz.prog 179 [Ad s] Hp (A4 (Gw s)):=by
 refine Ah [.tmp 2] [0] Tryz.func179 Tryz.ntmps179 (fun d=>?_)
 refine Z46 ?_;refine Z35 ?_;refine A2 [0,3] ?_
 refine D7 (α:=Nat) (fun x=>⟨13,A7 0 (Ad s) (A7 3 (A4 ((x:Nat)+1)) (fun _=>.any)),Hp,[],[],none⟩) (fun x=>∀j:Nat,j<x→(E7 ((j:Int)+1)==s)=false) (fun x=>6-x) (0) (fun j h=>by omega) (Lp _) rfl (fun x hx=>?_)
 refine Z29 ?_;refine A2 [0,3,5] ?_
 refine A3 (fun ht5=>?_) (fun ht5=>?_)
 ·have hx6:x<6:=by simp at ht5;omega
  refine Z6 ?_;refine Z83 ?_;refine A9 Tryz.call225 (AI7 _ _) ?_;refine Z0 ?_;refine A2 [0,3,11] ?_
  refine A3 (fun ht11=>?_) (fun ht11=>?_)
  ·refine Z1 ?_;refine Z4 ?_;refine Z62 ?_;exact A8 (Aj A6) ⟨by rw [qi hx hx6 ht11],rfl⟩
  refine Z58 ?_;refine sg ?_
  refine Bp (x+1) (ec hx ht11) (by omega) (Ea rfl)
 have hx6:6≤x:=by simp at ht5;omega
 refine Wj ?_;refine Z61 ?_;exact A8 (Aj A6) ⟨by rw [qj hx hx6],rfl⟩

theorem ACs {L:List Tok} {Hp own:List AObj} {o i n:Nat} {x:AObj} (h1:o<Hp.length):U2 L (Hp++own) o (oid Hp.length n) i x=Hp.set o (pmO L i)++own.set n x:=by
 unfold U2 oid
 rw [J8 _ _ h1,Yr,if_neg (by simp),Cy,Pg]
theorem ww {L:List Tok} {Hp:List AObj} {o i j n:Nat} (h:∀z∈Hp.set o (pmO L i),ObjLow n z):∀z∈Hp.set o (pmO L j),ObjLow n z:=by
 intro z hz
 rw [show Hp.set o (pmO L j)=(Hp.set o (pmO L i)).set o (pmO L j) by rw [D8]] at hz
 rcases K7 hz with hz|rfl
 ·exact h z hz
 exact Dz
theorem AI9 (L:List Tok) (i o:Nat) (Hp:List AObj) (ho:Hp[o]? = some (pmO L i)) (hi:i<L.length) (hl:TokEnd L) (hll:L.length≤500000):CP 141 [.ptr o 0] Hp (Nn L i) (fun m j r H'=>r=Gn m∧H'=Hp.set o (pmO L j)) (W1 L o Hp):=by
 refine ⟨fun hX=>?_⟩
 have hol:=(Ab.1 ho).1
 have hne:oid Hp.length 2≠o:=by unfold oid;omega
 refine Ah [.cell 2 48] [0] Tryz.func141 Tryz.ntmps141 (fun d=>?_)
 refine Z47 ?_;refine ABe ?_;refine br ?_;refine Z1 ?_;refine A9 Tryz.call179 (AI8 (Af L i).text _) ?_;refine R.build (places:=#[(0,1),(1,1),(2,1),(3,1),(4,1)]) jU (fun w=>by simp) jZ ?_;refine Z18 ?_;refine A2 [0,2,3,4] ?_;refine Z64 ?_;refine Ow 2 1 1 ?_;refine Ow 2 2 2 ?_;refine Ow 2 3 6 ?_;refine Ow 2 4 6 ?_;refine Z74 ?_;refine Wh ?_;refine A2 [0,2,4,18] ?_
 refine A3 (fun ht18=>?_) (fun ht18=>?_)
 ·have e:Nn L i=.bad 8 (Af L i).at_:=if_pos ht18
  exact t7
 have e0:Nn L i=(Hq L (⟨Gw (Af L i).text,[],[],[],[]⟩:Mov) (i+1)).bind fun m j=>(Cs L [59] j).bind fun _ j=>.ok m j:=if_neg (by rw [ht18];simp)
 have hi1:i+1<L.length:=hl.step hi (by simp only [Eo,bne_eq_false_iff_eq] at ht18;rw [ht18.1];decide)
 refine Su ?_
 refine A5 (h:=Bw ho) (hr:=?_)
 refine Z28 ?_
 refine Ez jS ho ?_ ?_
 ·simp
 refine A2 [0,2,4] ?_
 rcases hR:Hq L (⟨Gw (Af L i).text,[],[],[],[]⟩:Mov) (i+1) with ⟨m1,k⟩|⟨e,a⟩
 rotate_left
 ·exact (Cq hX (by first|exact by rw [e0];rw [hR];rfl|exact hR)).elim
 have hk:=ly hl hll (⟨Gw (Af L i).text,[],[],[],[]⟩:Mov) (i+1) ⟨Av _,Av _,Av _,Av _⟩ (by omega) hi1 _ _ hR
 refine Z2 ?_
 refine I4 (up':=Hp.set o (pmO L k)) (own':=[.cells 48 [A4 0,.nil,.nil,.nil,.nil],.cells 113 [.v (.int .i64 (Af L i).kind),.v (sv (Af L i).text),.v (.int .i64 ((Af L i).at_:Int))],mvO m1]) Tryz.call180 (((AI6 L (⟨Gw (Af L i).text,[],[],[],[]⟩:Mov) (i+1) o (oid Hp.length 2) (Hp.set o (pmO L (i+1))++[.cells 48 [A4 0,.nil,.nil,.nil,.nil],.cells 113 [.v (.int .i64 (Af L i).kind),.v (sv (Af L i).text),.v (.int .i64 ((Af L i).at_:Int))],mvO (⟨Gw (Af L i).text,[],[],[],[]⟩:Mov)]) hne (by rw [Cg (by simpa using hol)];exact getset ho) (by unfold oid;rw [Ck (by simp)];simp) hi1 hl hll ⟨Av _,Av _,Av _,Av _⟩ (by omega)).ok hR).mono (fun r H' e=>⟨e.1,e.2.trans (by rw [show oid Hp.length 2=oid (Hp.set o (pmO L (i+1))).length 2 by simp];rw [ACs (by simpa using hol),D8];rfl)⟩)) (by simp) (fun h=>by simpa using ww h) ?_
 refine A2 [0,2,4] ?_
 rcases hW:Cs L [59] k with ⟨u,j2⟩|⟨e,a⟩
 rotate_left
 ·exact (Cq hX (by first|exact by rw [e0];rw [hR];show (Cs L [59] k).bind _=_;rw [hW];rfl|exact hW)).elim
 refine Z2 ?_;refine D9 (x:=pmO L j2) Tryz.call181 (getset ho) (by simp) Dz ((je L [59] k o _ (Ag (getset ho)) hk.2.1 hll).ok hW) ?_
 rw [D8]
 refine A2 [2,4] ?_;refine Z2 ?_;refine Z9 ?_;exact A8 (Aj (B8 jA jS)) (hp:=⟨m1,j2,by rw [e0];rw [hR];show (Cs L [59] k).bind _=_;rw [hW];rfl,rfl,rfl⟩) (hlow:=dh)

/-- What mig.parser.moves comes to: the moves, or none and the fault. -/
def Pc (L:List Tok):List Mov×Int×Int:=match J3 L with
 | .ok l _=>(l,0,0)
 | .bad e a=>([],e,a)
abbrev ap (L:List Tok):AV:=.tup [Fw (Pc L).1,.agg [A4 (Pc L).2.1,A4 (Pc L).2.2]]
theorem AA8 {fc:Func} {r0 crest:Code} (hf:Tryz.prog.funcs[138]? = some fc) (hb:fc.body=some (.seq r0 crest)) (d a b:Nat) (H:List AObj):AW Tryz.prog (d+1) crest ⟨8,A7 2 (.v .nilIface) (A7 3 (.v .nilIface) (Go.SX.argsF [.ptr a 0,.ptr b 0])),H,[],[],none⟩ (fun e s2=>(e=.normal∨e=.ret)∧s2.defs=[]∧s2.up=H):=by
 have e:=Tryz.func138.symm.trans hf
 injection e with e
 subst e
 injection hb with hb
 injection hb with h1 h2
 subst h2
 refine X4 [0,1,2] (by simp only [go_sem,↓reduceIte,Nat.reduceEqDiff,Nat.reduceAdd]<;>rfl) ?_
 refine Z2 ?_;refine R.neqNil0 jU ?_;refine A2 [0,1,2,5] ?_
 refine A3 (fun ht5=>?_) (fun ht5=>?_)
 ·cases ht5
 refine Kt ?_;exact ⟨.inl rfl,rfl,rfl⟩

/-- Where the loop of moves stands. -/
structure MovAt (L:List Tok) (x:List Mov×Nat):Prop where
 lt:x.2<L.length
 le:x.1.length≤8
 at_:J3 L=M6 L (9-x.1.length) x.1 x.2
theorem AA9 {L:List Tok} (hl:TokEnd L) (hll:L.length≤500000) {i:Nat} (hi:i<L.length) {m:Mov} {j:Nat} (h:Nn L i=.ok m j):i<j∧j<L.length:=by
 unfold Nn at h
 split at h
 ·cases h
 rename_i h0
 have hi1:i+1<L.length:=hl.step hi (by
  simp only [Dj,not_or,Tl,bne_eq_false_iff_eq] at h0
  rw [h0.1];decide)
 obtain ⟨m1,k,h1,h2⟩:=Vy h
 obtain ⟨u,j2,h3,h4⟩:=Vy h2
 injection h4 with h5 h6
 subst h6
 obtain ⟨a1,a2,_⟩:=ly hl hll _ (i+1) ⟨Av _,Av _,Av _,Av _⟩ (by omega) hi1 _ _ h1
 obtain ⟨b1,b2⟩:=Fy hl a2 _ _ h3
 exact ⟨by omega,b2⟩
theorem No {L:List Tok} {l:List Mov} {i:Nat} (hl:l.length≤8):M6 L (9-l.length) l i=if (Af L i).kind != 0 then (if (l.length:Int)==8 then Ya L i 3 else (Nn L i).bind fun m j=>M6 L (8-l.length) (l++[m]) j) else .ok l i:=by
 rw [show 9-l.length=(8-l.length)+1 by omega,M6]
theorem MovAt.out {L:List Tok} {x:List Mov×Nat} (h:MovAt L x) (hk:((Af L x.2).kind != 0)=false):J3 L=.ok x.1 x.2:=by
 rw [h.at_,No h.le,if_neg (by rw [hk];simp)]
theorem MovAt.long {L:List Tok} {x:List Mov×Nat} (h:MovAt L x) (hk:((Af L x.2).kind != 0)=true) (h8:((x.1.length:Int)==8)=true):J3 L=.bad 3 (Af L x.2).at_:=by
 rw [h.at_,No h.le,if_pos hk,if_pos h8];rfl
theorem MovAt.step {L:List Tok} {x:List Mov×Nat} (h:MovAt L x) (hk:((Af L x.2).kind != 0)=true) (h8:((x.1.length:Int)==8)=false):J3 L=(Nn L x.2).bind fun m j=>M6 L (8-x.1.length) (x.1++[m]) j:=by
 rw [h.at_,No h.le,if_pos hk,if_neg (by rw [h8];simp)]
theorem MovAt.bad {L:List Tok} {x:List Mov×Nat} (h:MovAt L x) (hk:((Af L x.2).kind != 0)=true) (h8:((x.1.length:Int)==8)=false) {e a:Int} (hM:Nn L x.2=.bad e a):J3 L=.bad e a:=by
 rw [h.step hk h8,hM];rfl
theorem MovAt.on {L:List Tok} (hl:TokEnd L) (hll:L.length≤500000) {x:List Mov×Nat} (h:MovAt L x) (hk:((Af L x.2).kind != 0)=true) (h8:((x.1.length:Int)==8)=false) {m:Mov} {j:Nat} (hM:Nn L x.2=.ok m j):MovAt L (x.1++[m],j)∧x.2<j:=by
 obtain ⟨a1,a2⟩:=AA9 hl hll h.lt hM
 have h1:x.1.length≤7:=by
  have:=h.le
  simp only [beq_eq_false_iff_ne,ne_eq] at h8
  omega
 refine ⟨⟨a2,by show (x.1++[m]).length≤8;simp;omega,?_⟩,a1⟩
 rw [h.step hk h8,hM]
 show M6 L (8-x.1.length) (x.1++[m]) j=M6 L (9-(x.1++[m]).length) (x.1++[m]) j
 rw [show 9-(x.1++[m]).length=8-x.1.length by rw [Ap,If];omega]
theorem ql {L:List Tok} {l:List Mov} {i:Nat} (h:J3 L=.ok l i):ap L=.tup [Fw l,.agg [A4 0,A4 0]]:=by unfold ap Pc;rw [h]
theorem AAa {fn fc:Func} {x0 r1 y r0 crest:Code} (hf:Tryz.prog.funcs[91]? = some fn) (hb:fn.body=some (.seq x0 (.seq r1 y))) (hf2:Tryz.prog.funcs[138]? = some fc) (hb2:fc.body=some (.seq r0 crest)) (L:List Tok) (o:Nat) (Hp:List AObj) (ho:Hp[o]? = some (pmO L 0)) (hl:TokEnd L) (hll:L.length≤500000) (hX:∃l i,J3 L=.ok l i) (d:Nat):
  AW Tryz.prog (d+1) y ⟨21,A7 0 (.ptr o 0) (A7 2 (.ptr (oid Hp.length 0) 0) (A7 3 (.ptr (oid Hp.length 1) 0) (A7 4 (.fn (.func 138) [] [.ptr (oid Hp.length 0) 0,.ptr (oid Hp.length 1) 0]) fun _=>.any))),Hp,[.cells 46 [.nil],.cells 69 [A4 0,A4 0]],[],none⟩ (KG Tryz.prog crest 8 3 2 [.ptr (oid Hp.length 0) 0,.ptr (oid Hp.length 1) 0] [.cell 2 46,.cell 3 69] Hp.length (fun r H'=>r=ap L∧∃i,H'=Hp.set o (pmO L i))):=by
 have e:=Tryz.func91.symm.trans hf
 injection e with e
 subst e
 injection hb with hb
 injection hb with h1 h2
 injection h2 with h2 h3
 subst h3
 refine X4 [0,2,3] (by simp only [go_sem,↓reduceIte,Nat.reduceEqDiff,Nat.reduceAdd]<;>rfl) ?_
 refine Pa (Hg ho).symm ?_;refine Jt ?_
 refine D7 (α:=List Mov×Nat) (fun x=>⟨21,A7 0 (.ptr o 0) (A7 2 (.ptr (oid Hp.length 0) 0) (A7 3 (.ptr (oid Hp.length 1) 0) (fun _=>.any))),Hp.set o (pmO L x.2),[.cells 46 [.slice true 5 (x.1.map Gn)],.cells 69 [A4 0,A4 0]],[],none⟩) (fun x=>MovAt L x) (fun x=>L.length-x.2) (([],0)) ⟨hl.pos,by decide,rfl⟩ (StLe.nilCell (own:=[.cells 46 [.nil],.cells 69 [A4 0,A4 0]]) (n:=0) (j0:=0) (k:=5) (t:=46) (cs:=[.nil]) rfl rfl) rfl (fun x hx=>?_)
 refine Z35 ?_;refine A9 Tryz.call139 (ACo L x.2 o _ (Ag (getset ho)) hx.lt) ?_;refine Z0 ?_;refine A2 [0,2,3,8] ?_
 refine A3 (fun ht8=>?_) (fun ht8=>?_)
 ·have hk:((Af L x.2).kind != 0)=true:=ht8
  refine Z6 ?_;refine Jv ?_;refine Z32 ?_;refine A2 [0,2,3,11] ?_
  refine A3 (fun ht11=>?_) (fun ht11=>?_)
  ·have h8:((x.1.length:Int)==8)=true:=by rw [Aw] at ht11;exact ht11
   exact (Cq hX (hx.long hk h8)).elim
  have h8:((x.1.length:Int)==8)=false:=by rw [Aw] at ht11;exact ht11
  refine Z6 ?_
  rcases hM:Nn L x.2 with ⟨m,j⟩|⟨e,a⟩
  rotate_left
  ·exact (Cq hX (by first|exact hx.bad hk h8 hM|exact hM)).elim
  have hon:=hx.on hl hll hk h8 hM
  refine U3 [0,0,2,6,15,31] [0,2] [.s [14] (some 0) [] [],.q 1 [] [1],.s [16] (some 1) [] [],.q 1 [1] []] (fun B=>Hp.set o (pmO L (if B 1=true then j else x.2))) (fun B=>if B 0=true then [.cells 46 [.slice false 5 (x.1.map Gn)],.cells 69 [A4 0,A4 0]] else [.cells 46 [.slice true 5 (x.1.map Gn)],.cells 69 [A4 0,A4 0]]) Al (by kernel_rfl) rfl rfl (fun B=>by simp) ?_
  refine Y.loadOwnT (u:=Hp.length) (n:=0) (t':=46) (cs:=[.slice true 5 (x.1.map Gn)]) (cs':=[.slice false 5 (x.1.map Gn)]) Tryz.isAgg46 (fun B hB=>⟨by simp,by simp only [hB];rfl,by simp only [hB];rfl,rfl⟩) ?_
  apply Y.q
  ·intro B hT hF
   exact Z72
  case hTF=>decide
  refine Lt (r:=Gn m) (o:=o) (x0:=pmO L x.2) (x:=pmO L j) Tryz.call141 (fun B hB1 hB2 hB=>⟨by simp only [hB];exact getset ho,by simp only [hB];exact (D8 ..).symm,rfl,Dz,?_⟩) ?_
  ·simp only [hB]
   exact ((AI9 L x.2 o _ (Ag (getset ho)) hx.lt hl hll).ok hM)
  apply Y.q
  ·intro B hT hF
   exact Z48
  case hTF=>decide
  refine Fo (tn:=[0,2]) (U:=Hp.set o (pmO L j)) (O:=[.cells 46 [.slice false 5 (x.1.map Gn)],.cells 69 [A4 0,A4 0]]) ?_
  refine G8 jU Tryz.type48 ?_ ?_ ?_
  ·simp [Tryz.t48];have:=hx.le;omega
  ·simp [Tryz.t48];have:=hx.le;omega
  refine Zd jS ?_;refine A2 [0,2,3] ?_;refine Lv ?_
  refine Bp (x.1++[m],j) hon.1 (by have:=hx.lt;have:=hon.2;show L.length-j<L.length-x.2;omega) (Ea (by simp [C8,show Tryz.t48.size=5 from rfl]))
 have hk:((Af L x.2).kind != 0)=false:=ht8
 have e:=hx.out hk
 refine Wj ?_;refine Z2 ?_;refine ADv ?_;refine H9 ?_;refine Z42 ?_;exact KG.fin .ret (B9 (Fm Tryz.isAgg46) (B8 Tryz.isAgg69 Tryz.sizeOf69)) (fun d=>AA8 hf2 hb2 d _ _ _) ⟨(ql e).symm,x.2,rfl⟩ (hlow:=by simpa using (Gr (n:=Hp.length) (k:=5) (o:=false) (l:=x.1)))

theorem c91 (L:List Tok) (o:Nat) (Hp:List AObj) (ho:Hp[o]? = some (pmO L 0)) (hl:TokEnd L) (hll:L.length≤500000) (hX:∃l i,J3 L=.ok l i):ACall Tryz.prog 91 [.ptr o 0] Hp (fun r H'=>r=ap L∧∃i,H'=Hp.set o (pmO L i)):=by
 refine ACall.guarded (n:=21) (nc:=8) (a:=3) (b:=2) (os:=[oid Hp.length 0,oid Hp.length 1]) (own0:=[.cells 46 [.nil],.cells 69 [A4 0,A4 0]]) (rs:=[.cell 2 46,.cell 3 69])
  (fr0:=A7 0 (.ptr o 0) (A7 2 (.ptr (oid Hp.length 0) 0) (A7 3 (.ptr (oid Hp.length 1) 0) fun _=>.any))) (fr1:=A7 0 (.ptr o 0) (A7 2 (.ptr (oid Hp.length 0) 0) (A7 3 (.ptr (oid Hp.length 1) 0) (A7 4 (.fn (.func 138) [] [.ptr (oid Hp.length 0) 0,.ptr (oid Hp.length 1) 0]) fun _=>.any))))
  Tryz.func91 rfl rfl Tryz.ntmps91 (by simp) Tryz.func138 rfl Tryz.ntmps138 rfl (by simp) (by decide) (by decide) Tryz.call138 (fun d=>?_) (fun d=>?_) rfl (fun d l=>?_)
 ·refine X4 [0] (by simp only [go_sem,↓reduceIte,Nat.reduceEqDiff,Nat.reduceAdd]<;>rfl) ?_
  refine He ?_;refine O6 ?_;refine O6 ?_;refine A2 [0,2,3] ?_;exact ⟨rfl,rfl⟩
 ·refine I3 ?_;refine A2 [0,2,3,4] ?_
  rfl
 exact @AAa { b:=ErrAt.b,bd:=d+1,bl:=l } _ _ _ _ _ _ _ Tryz.func91 rfl Tryz.func138 rfl L o Hp ho hl hll hX d
theorem ACt {s:Str} (h:((Ge s).2.1 != 0)=false):Sy s=Pc (Ge s).1:=by
 unfold Sy Pc
 rw [if_neg (by rw [h];simp)]
 cases J3 (Ge s).1<;>rfl
theorem c45 (s:Str) (hs:s.length≤1048576) (hz0:(Ge s).2.1=0) (hX:∃l i,J3 (Ge s).1=.ok l i) (Hp:List AObj):AFun Tryz.prog 45 [Ad s] Hp (.tup [Fw (Sy s).1,.agg [A4 (Sy s).2.1,A4 (Sy s).2.2]]):=by
 refine Ah [.tmp 2,.cell 3 69] [0] Tryz.func45 Tryz.ntmps45 (fun d=>?_)
 refine Z2 ?_;refine O6 ?_;refine A2 [0,3] ?_;refine Z2 ?_;refine A9 Tryz.call71 (c71 s hs _) ?_;refine Z28 ?_;refine Z93 ?_;refine A2 [3,4,5] ?_;refine Z32 ?_;refine A2 [3,4,5,13] ?_
 refine A3 (fun ht13=>?_) (fun ht13=>?_)
 ·rw [hz0] at ht13;cases ht13
 have hz:(Ge s).2.1=0:=by simpa using ht13
 have hle:=z6 hz
 have hlen:=zk hz
 have e:=ACt ht13
 refine Z96 ?_;refine Zo ?_;refine R.box ?_
 refine R.callEx (fun _=>Hp) (fun i=>[.cells 69 [A4 0,A4 0],.cells 69 [A4 (Ge s).2.1,A4 ((Ge s).2.2:Nat)],pmO (Ge s).1 i]) Tryz.call91 ((c91 (Ge s).1 (oid Hp.length 2) _ (by rw [Bd];rfl) hle (by omega) hX).mono (fun r H' ⟨e,i,h⟩=>⟨e,i,h.trans (by rw [Fs];rfl)⟩)) (fun _=>rfl) (fun _ h=>h) (fun i=>?_)
 refine Z28 ?_;refine H9 ?_;refine Z42 ?_;exact A8 (B9 A6 (B8 jA jS)) ⟨by rw [e],rfl⟩ (hlow:=by simpa using (Gr (n:=Hp.length) (k:=5) (o:=false) (l:=(Pc (Ge s).1).1)))

/-! How long plan.Text's pieces are. -/
section
variable {O X U:List AObj} {i:Nat} {b y:AObj}
end
/-- Moves whose numbers are ones of 64 bits. -/
structure RngMv (m:Mov):Prop where
 ahead:∀e∈m.ahead,Et M1 e=true
 back:∀e∈m.back,Et M1 e=true
theorem ee {l:List Expr} (h20:l.length≤1048576) (h:l.any kr=false) (hr:∀e∈l,Et M1 e=true):OkEs l:=by
 have h1:∀e∈l,Slim e:=fun e he=>yq (by
  rw [Li] at h
  simpa using h e he)
 exact ⟨h20,fun e he=>(h1 e he).ok,fun e he=>by have:=(h1 e he).size;omega,hr⟩
theorem qm {m:Mov} (h:iy m=false) (hr:RngMv m):OkMov m:=by
 unfold iy at h
 simp only [Eo,decide_eq_false_iff_not] at h
 obtain ⟨⟨⟨⟨⟨⟨h1,h2⟩,h3⟩,h4⟩,h5⟩,h6⟩,h7⟩:=h
 have h50:m.give.length≤1000000:=by
  unfold Kh at h1
  simp only [Eo,decide_eq_false_iff_not] at h1
  omega
 refine ⟨by omega,fun s hs=>?_,kw h1,h50,ee (by omega) h6 hr.ahead,ee (by omega) h7 hr.back⟩
 rw [Li] at h5
 have:=h5 s hs
 simp only [decide_eq_true_eq] at this
 omega
theorem qn {l:List Mov} (h:vl l=false) (hr:∀m∈l,RngMv m):OkMovs l:=by
 unfold vl at h
 simp only [Eo,decide_eq_false_iff_not] at h
 refine ⟨by omega,fun m hm=>qm ?_ (hr m hm)⟩
 rw [Li] at h
 simpa using h.2 m hm
theorem wx {c:List Col} (h:Kh c=false):c.length≤1000000:=by
 unfold Kh at h
 simp only [Eo,decide_eq_false_iff_not] at h
 omega
/-! fuse: the chapter's example, and the weight of trees. -/
/-! ref21.Over: names that nothing has stand between. -/
/-! How great the trees of ref21.Over are on the way. -/
theorem ACu {l:List Mov} (h:(l.all fun m=>m.ahead.all (fun e=>Et M1 e)&&m.back.all (fun e=>Et M1 e))=true):∀m∈l,RngMv m:=fun m hm=>by
 have:=At.1 h m hm
 rw [Ao] at this
 exact ⟨fun e he=>At.1 this.1 e he,fun e he=>At.1 this.2 e he⟩
theorem wy {c:List Col} {l:List Mov} {row:List Val} (h:OkMovs l) (h0:RowI (colsAt c l l.length) row):∀k,k≤l.length→(bkM c l row k).2=0→BkAt c l row k
 | 0,_,_=>.zero h0
 | k+1,hk,he=>by
  have h1:(bkM c l row k).2=0:=Gj fun hn=>by
   rw [jb hn (k+1) (by omega)] at he
   exact hn he
  obtain ⟨m,hm⟩:∃m,l[l.length-1-k]? = some m:=⟨l[l.length-1-k],Aa (by omega)⟩
  refine (wy h h0 k (by omega) h1).next (by omega) hm (fun e he=>(h.each m (Ar hm)).back.rng e he) ?_
  rw [←Qd hm h1]
  exact he
theorem Yd {c:List Col} {l:List Mov} {row:List Val} (h:OkMovs l) (hrr:∀v∈row, -9223372036854775808≤v.n∧v.n≤9223372036854775807) (hb:(Dx c l row).2=0):RowI c (Dx c l row).1:=by
 unfold Dx at hb ⊢
 split at hb
 ·cases hb
 rename_i h1
 rw [if_neg h1]
 have h2:F3 (colsAt c l l.length) row=true:=by
  simp only [Dj,Hz,not_or,Tk] at h1
  exact h1.2
 have:=(wy h (Nl h2 hrr) l.length (Ae _) hb).row
 rw [Kd] at this
 exact this
theorem ACv {c:List Col} {l:List Mov} {row:List Val}:∀k,(bkM c l row k).2≠0→(bkM c l row k).1=[]
 | 0,h=>absurd rfl h
 | k+1,h=>by
  rw [bkM] at h ⊢
  split
  ·rfl
  rename_i h1
  rw [if_neg h1] at h
  split at h
  ·exact absurd h (by simpa using h1)
  exact Y6 h
theorem qo {c:List Col} (hc:OkCols c) {l:List Mov} {row:List Val} (h:OkMovs l) (hrr:∀v∈row, -9223372036854775808≤v.n∧v.n≤9223372036854775807):(Dx c l row).1.length≤1048576:=by
 by_cases hb:(Dx c l row).2=0
 ·rw [(Yd h hrr hb).len]
  exact hc.len
 unfold Dx at hb ⊢
 split
 ·exact gi
 rename_i h1
 rw [if_neg h1] at hb
 rw [ACv _ hb]
 exact gi
theorem aq {c:List Col} {l:List Mov} {row:List Val} (h:OkMovs l) (hs:((Db c l).2 != 0)=false) (h0:RowI c row):∀k,k≤l.length→(fwM c l row k).2=0→RowI (colsAt c l k) (fwM c l row k).1
 | 0,_,_=>h0
 | k+1,hk,he=>by
  obtain ⟨hmay,hst,_⟩:=H4 hs
  have h1:(fwM c l row k).2=0:=Gj fun hn=>by
   rw [am hn (k+1) (by omega)] at he
   exact hn he
  obtain ⟨m,hm⟩:∃m,l[k]? = some m:=⟨l[k],Aa (by omega)⟩
  have hml:=Ar hm
  have e:=O4 hm h1
  rw [e,H7 hm]
  exact Rr (O3 hst hm) (Lf hmay m hml) (fun e he=>(h.each m hml).ahead.rng e he) (aq h hs h0 k (by omega) h1) (by rw [←e];exact he)
theorem W3 {c:List Col} {l:List Mov} {row:List Val} (h:OkMovs l) (hrr:∀v∈row, -9223372036854775808≤v.n∧v.n≤9223372036854775807) (hb:(Bq c l row).2=0):RowI (colsAt c l l.length) (Bq c l row).1:=by
 unfold Bq at hb ⊢
 split at hb
 ·cases hb
 rename_i h1
 rw [if_neg h1]
 have h2:((Db c l).2 != 0)=false∧F3 c row=true:=by
  simp only [Dj,Hz,not_or,Tk,Tl] at h1
  exact h1
 exact aq h h2.1 (Nl h2.2 hrr) l.length (Ae _) hb
theorem c47 (c:List Col) (hc:OkCols c) (hc2:c.length≤1000000) (l:List Mov) (h:OkMovs l) (row:List Val) (hrr:∀v∈row, -9223372036854775808≤v.n∧v.n≤9223372036854775807) (hrl:row.length≤1048576) (Hp:List AObj):AFun Tryz.prog 47 [Aq c,Fw l,Br row] Hp (.tup [Br (Wx c l row).1,A4 (Wx c l row).2]):=by
 refine Ah [.tmp 6,.tmp 7] [0,1,2] Tryz.func47 Tryz.ntmps47 (fun d=>?_)
 refine Z1 ?_;refine U8 ?_;refine Z13 ?_;refine A9 Tryz.call31 (c31 c hc hc2 l h row hrr hrl _) ?_;refine Z63 ?_;refine A2 [0,1,2,8,9] ?_;refine Z29 ?_;refine A2 [0,1,2,8,9,19] ?_
 refine A3 (fun ht19=>?_) (fun ht19=>?_)
 ·have hm:Wx c l row=([],(Dx c l row).2):=if_pos ht19
  refine Z1 ?_;refine g9 ?_;exact Z41
 have n1:¬((Dx c l row).2 != 0)=true:=by rw [ht19];simp
 have hB:=Yd h hrr (by simpa using ht19:(Dx c l row).2=0)
 refine Su ?_
 refine A9 Tryz.call17 (c17 c hc hc2 l h (Dx c l row).1 (Nm hB.fine) (by rw [hB.len];exact hc.len) _) ?_
 refine Z63 ?_;refine A2 [2,8,9,10] ?_;refine Zl ?_;refine A2 [2,8,9,10,28] ?_
 refine A3 (fun ht28=>?_) (fun ht28=>?_)
 ·have hm:Wx c l row=([],(Bq c l (Dx c l row).1).2):=by unfold Wx;rw [if_neg n1,if_pos ht28]
  refine Z1 ?_;refine g9 ?_;exact ADh
 have n2:¬((Bq c l (Dx c l row).1).2 != 0)=true:=by rw [ht28];simp
 have hF:=W3 h (Nm hB.fine) (by simpa using ht28:(Bq c l (Dx c l row).1).2=0)
 refine Z1 ?_
 refine A9 Tryz.call51 (c51 (Bq c l (Dx c l row).1).1 row (by rw [hF.len];exact (Gf hc (fun m hm=>h.each m hm) l.length).len) _) ?_
 refine Z0 ?_;refine A2 [8,32] ?_
 refine A3 (fun ht32=>?_) (fun ht32=>?_)
 ·have hm:Wx c l row=([],14):=by unfold Wx;rw [if_neg n1,if_neg n2,if_pos ht32]
  refine Z2 ?_;refine g9 ?_;exact ADh
 have hm:Wx c l row=((Dx c l row).1,0):=by unfold Wx;rw [if_neg n1,if_neg n2,if_neg (by rw [ht32];simp)]
 refine Z17 ?_;refine Z13 ?_;refine Z30 ?_;exact A8 (B9 A6 A6) ⟨by rw [hm]<;>rfl,rfl⟩ (hlow:=by simpa using (Dy (n:=Hp.length) (k:=3) (o:=false) (l:=(Dx c l row).1)))

theorem c18 (c:List Col) (hc:OkCols c) (hc2:c.length≤1000000) (l:List Mov) (h:OkMovs l) (row:List Val) (hrr:∀v∈row, -9223372036854775808≤v.n∧v.n≤9223372036854775807) (hrl:row.length≤1048576) (Hp:List AObj):AFun Tryz.prog 18 [Aq c,Fw l,Br row] Hp (Bm (Vt c l row)):=by
 refine Ah [.tmp 6] [0,1,2] Tryz.func18 Tryz.ntmps18 (fun d=>?_)
 refine Z2 ?_;refine U8 ?_;refine Z13 ?_;refine A9 Tryz.call17 (c17 c hc hc2 l h row hrr hrl _) ?_;refine Z63 ?_;refine A2 [0,1,2,7,8] ?_;refine Z29 ?_;refine A2 [0,1,2,7,18] ?_
 refine A3 (fun ht18=>?_) (fun ht18=>?_)
 ·have hm:Vt c l row=false:=if_pos ht18
  refine Zn ?_;exact Z86
 have hm:Vt c l row=(((Dx c l (Bq c l row).1).2==0)&&decide ((Dx c l (Bq c l row).1).1=row)):=if_neg (by rw [ht18];simp)
 have hF:=W3 h hrr (by simpa using ht18:(Bq c l row).2=0)
 refine Su ?_
 refine A9 Tryz.call31 (c31 c hc hc2 l h (Bq c l row).1 (Nm hF.fine) (by rw [hF.len];exact (Gf hc (fun m hm=>h.each m hm) l.length).len) _) ?_
 refine Z63 ?_;refine A2 [2,8,9] ?_;refine Z13 ?_;refine Z10 ?_;refine Cd Tryz.call51 (fun hB=>c51 (Dx c l (Bq c l row).1).1 row (qo hc h (Nm hF.fine)) _) ?_;refine Z0 ?_;refine Z50 ?_;exact nj

theorem c46 (n:Int) (Hp:List AObj):AFun Tryz.prog 46 [A4 n] Hp (Ba ⟨1,n,[]⟩):=by
 refine Ah [.cell 2 23] [0] Tryz.func46 Tryz.ntmps46 (fun d=>?_)
 refine Z47 ?_;refine ABb ?_;refine Z9 ?_;exact A8 (Aj (B8 jA jS)) ⟨rfl,rfl⟩

def aiS:Str:=[115,112,108,105,116,32,97,32,105,110,116,111,32,98,32,105,110,116,32,61,32,97,32,47,32,49,48,44,32,99,32,105,110,116,32,61,32,97,32,37,32,49,48,32,98,97,99,107,32,98,32,42,32,49,48,32,43,32,99,59]
def aiC:List Col:=[⟨[97],1⟩]
theorem AAb:(Sy aiS).2.1=0:=by kernel_rfl
theorem AFk:(Sy aiS).2.2=0:=by kernel_rfl
theorem wz:Bq aiC (Sy aiS).1 [⟨1,42,[]⟩]=([⟨1,4,[]⟩,⟨1,2,[]⟩],0):=by kernel_rfl
theorem ACw:Wx aiC (Sy aiS).1 [⟨1,4,[]⟩,⟨1,12,[]⟩]=([],14):=by kernel_rfl
theorem AFl:OkCols aiC:=⟨by simp [aiC],fun y hy=>by rw [Az.1 hy];simp⟩
theorem AAy:OkMovs (Sy aiS).1:=qn (by kernel_rfl) (ACu (by kernel_rfl))
theorem c16 (Hp:List AObj):AFun Tryz.prog 16 [] Hp (Bm true):=by
 refine Ah [.tmp 0] [] Tryz.func16 Tryz.ntmps16 (fun d=>?_)
 refine Z2 ?_;refine A2 [] ?_;refine E5 ?_;refine Zo ?_;refine Qz jU jS jZ ?_;refine A5 ?_;refine A2 [1] ?_;refine E5 ?_;refine A9 Tryz.call45 (c45 aiS (by decide) (by kernel_rfl) (AFh (by kernel_rfl)) _) ?_;refine Z28 ?_;refine Z93 ?_;refine A2 [1,2,3] ?_;refine E5 ?_
 rw [AAb,AFk]
 refine Z0 ?_;refine A9 Tryz.call46 (c46 42 _) ?_;refine Qz jU jS jZ ?_
 refine A9 Tryz.call17 (c17 aiC AFl (by decide) (Sy aiS).1 AAy [⟨1,42,[]⟩] (fun v hv=>by rw [Az.1 hv];decide) (by decide) _) ?_
 rw [wz]
 refine Z63 ?_;refine A2 [1,2,3,4,5] ?_;refine Z1 ?_;refine A9 Tryz.call46 (c46 4 _) ?_;refine A9 Tryz.call46 (c46 12 _) ?_;refine Qz jU jS jZ ?_
 refine A9 Tryz.call47 (c47 aiC AFl (by decide) (Sy aiS).1 AAy [⟨1,4,[]⟩,⟨1,12,[]⟩] (fun v hv=>by simp only [Bg,Fq,or_false] at hv;rcases hv with rfl|rfl<;>decide) (by decide) _) ?_
 rw [ACw]
 refine Z63 ?_;refine A2 [3,4,5,7] ?_;refine W.draw [0,1,3,7,15,31,63,127,255,511,1023,2047,4095,8191,16383,32767,8191,131071,262143,524287,1048575,2097151,4194303,1048575,16777215,33554431,67108863,134217727,268435455,536870911,1073741823] 24 Al (by kernel_rfl) ?_;refine Zk ?_;refine Z69 ?_;refine Z12 ?_;refine Z69 ?_;refine Fl ?_;refine Z12 ?_;refine Fl ?_
 refine Fl (h:=Ak (0) (Ba ⟨1,4,[]⟩) (fun _=>rfl)) (hr:=?_)
 refine Fl ?_;refine H.call Tryz.call46 (fun hB=>c46 4 _) ?_
 refine Fl (h:=Mt Wm (Im 1 4 1 4 [] [])) (hr:=?_)
 refine Z12 ?_;refine Fl ?_
 refine Fl (h:=Ak (1) (Ba ⟨1,2,[]⟩) (fun _=>rfl)) (hr:=?_)
 refine Fl ?_;refine H.call Tryz.call46 (fun hB=>c46 2 _) ?_;refine Gl ?_
 refine Ci (h:=Mt Wm (Im 1 2 1 2 [] [])) (hr:=?_)
 refine Z59 ?_;refine Z0 ?_;refine A2 [0] ?_;refine Ep ?_;exact A8 (Aj A6) ⟨by rfl,rfl⟩

/-! ImageJoins: rows forth and back, move by move. -/
theorem Rv {over:List Col}:∀{l:List Expr} {w:List Col},Cu over l w=0→∀(j:Nat) (x:Expr) (y:Col),l[j]? = some x→w[j]? = some y→Q8 x over y.kind=0
 | [],_,_,j,x,y,h,_=>by simp at h
 | _::_,[],_,j,x,y,_,h=>by simp at h
 | a::l,b::w,h,j,x,y,h1,h2=>by
  rw [Cu] at h
  by_cases h0:(Q8 a over b.kind != 0)=true
  ·rw [if_pos h0] at h
   rw [h] at h0
   cases h0
  rw [if_neg h0] at h
  cases j with
  | zero =>
   have e1:a=x:=by simpa using h1
   have e2:b=y:=by simpa using h2
   rw [←e1,←e2]
   simpa using h0
  | succ j=>exact Rv h j x y (by simpa using h1) (by simpa using h2)
theorem AAc {x:Expr} {c:List Col} {k:Int} {row:List Val} (h:Q8 x c k=0) (hr:F3 c row=true) (he:(Dt x c row).2=0):(Dt x c row).1.kind=0∨(Dt x c row).1.kind=k:=by
 unfold Q8 at h
 by_cases h1:((H6 x c).2 != 0)=true
 ·rw [if_pos h1] at h
  rw [h] at h1
  cases h1
 rw [if_neg h1] at h
 have h1:(H6 x c).2=0:=by simpa using h1
 by_cases h2:(!Xy x c k)=true
 ·rw [if_pos h2] at h
  cases h
 have h2:Xy x c k=true:=by simpa using h2
 unfold Xy at h2
 simp only [Ao,Dj,beq_iff_eq] at h2
 have:=(pv h1 hr).kind he
 rcases h2.2 with h3|h3<;>omega
theorem W4 {c:List Col} {m:Mov} (h:(Bb c m).2=0):Cu c m.ahead (B7 c m)=0∧Cu (Bb c m).1 m.back (Ia c m)=0:=by
 by_cases h1:((D6 c m.take (B7 c m)).2 != 0)=true
 ·rw [lc h1] at h
  rw [show (D6 c m.take (B7 c m)).2=0 from h] at h1
  cases h1
 have h1:((D6 c m.take (B7 c m)).2 != 0)=false:=by simpa using h1
 by_cases h2:(Cu c m.ahead (B7 c m) != 0)=true
 ·rw [lf h1 h2] at h
  rw [show Cu c m.ahead (B7 c m)=0 from h] at h2
  cases h2
 have h2:(Cu c m.ahead (B7 c m) != 0)=false:=by simpa using h2
 by_cases h3:(Cu (D6 c m.take (B7 c m)).1 m.back (Ia c m) != 0)=true
 ·rw [lg h1 h2 h3] at h
  rw [show Cu (D6 c m.take (B7 c m)).1 m.back (Ia c m)=0 from h] at h3
  cases h3
 have h3:(Cu (D6 c m.take (B7 c m)).1 m.back (Ia c m) != 0)=false:=by simpa using h3
 rw [lh h1 h2 h3]
 exact ⟨by simpa using h2,by simpa using h3⟩
theorem W5 {c:List Col} {row:List Val}:∀{l:List Expr},(Au c row l).2=0→∀(j:Nat) (x:Expr),l[j]? = some x→(Dt x c row).2=0∧(Au c row l).1[j]? = some (Dt x c row).1
 | [],_,j,x,h=>by simp at h
 | a::r,h,j,x,hx=>by
  rw [Au] at h ⊢
  by_cases h1:((Dt a c row).2 != 0)=true
  ·rw [if_pos h1] at h
   rw [show (Dt a c row).2=0 from h] at h1
   cases h1
  rw [if_neg h1] at h ⊢
  by_cases h2:((Au c row r).2 != 0)=true
  ·rw [if_pos h2] at h
   rw [show (Au c row r).2=0 from h] at h2
   cases h2
  rw [if_neg h2]
  cases j with
  | zero =>
   have e1:a=x:=by simpa using hx
   rw [←e1]
   exact ⟨by simpa using h1,rfl⟩
  | succ j=>exact W5 (l:=r) (by simpa using h2) j x (by simpa using hx)
theorem Rw {take:List Str}:∀{c:List Col} {row:List Val},row.length=c.length→∀(i:Nat) (v:Val) (y:Col),(E3 take c row)[i]? = some v→(D3 c take)[i]? = some y→∃j:Nat,row[j]? = some v∧c[j]? = some y
 | [],[],_,i,v,y,h,_=>by simp [E3] at h
 | a::c,b::row,hl,i,v,y,h1,h2=>by
  have hl2:row.length=c.length:=by simpa using hl
  unfold E3 at h1
  unfold D3 at h2
  rw [List.zip_cons_cons,Lk] at h1
  rw [Lk] at h2
  have ih:=Rw (take:=take) hl2
  by_cases ht:(!take.contains a.name)=true
  ·rw [if_pos ht] at h1 h2
   cases i with
   | zero=>exact ⟨0,by simpa using h1,by simpa using h2⟩
   | succ i =>
    obtain ⟨j,e1,e2⟩:=ih i v y (by simpa [E3] using h1) (by simpa [D3] using h2)
    exact ⟨j+1,by simpa using e1,by simpa using e2⟩
  rw [if_neg ht] at h1 h2
  obtain ⟨j,e1,e2⟩:=ih i v y (by simpa [E3] using h1) (by simpa [D3] using h2)
  exact ⟨j+1,by simpa using e1,by simpa using e2⟩
 | [],_::_,hl,_,_,_,_,_=>by simp at hl
 | _::_,[],hl,_,_,_,_,_=>by simp at hl
theorem ef {c:List Col} (h:E6 c=true):Iw c=true:=by
 unfold E6 at h
 simp only [Ao] at h
 exact h.2
/-- What comes forth is a row over the columns behind. -/
theorem W6 {c:List Col} {m:Mov} {row:List Val} (ht:(Bb c m).2=0) (hm:Hm m=true) (hg:∀e∈m.ahead,Et M1 e=true) (h:RowI c row) (hp:F3 c row=true) (hf:(Bn c m row).2=0):F3 (Bb c m).1 (Bn c m row).1=true:=by
 have hR:=Rr ht hm hg h hf
 obtain ⟨e1,hrc,hrt⟩:=K5 ht
 obtain ⟨p1,p2,p3⟩:=row_iff.1 hp
 refine row_iff.2 ⟨ef hrt,hR.len,fun i v y hv hy=>?_⟩
 refine ⟨(hR.fine v (Ar hv)).plain,?_⟩
 have hk:(Au c row m.ahead).2=0:=by
  unfold Bn at hf
  by_cases h1:((Au c row m.ahead).2 != 0)=true
  ·rw [if_pos h1] at hf
   exact hf
  simpa using h1
 have ev:Bn c m row=(E3 m.take c row++(Au c row m.ahead).1,0):=if_neg (by rw [hk];simp)
 rw [ev] at hv
 rw [e1] at hy
 have hlen:=Nk (take:=m.take) h.len
 rcases B3 i (E3 m.take c row).length with hi|hi
 ·rw [Cg hi] at hv
  rw [Cg (by omega)] at hy
  obtain ⟨j,j1,j2⟩:=Rw h.len i v y hv hy
  exact (p3 j v y j1 j2).2
 rw [Ck hi] at hv
 rw [Ck (by omega),←hlen] at hy
 generalize i-(E3 m.take c row).length=j at hv hy
 have hj:j<m.ahead.length:=by
  have:=(Ab.1 hv).1
  rw [M5 hk] at this
  exact this
 obtain ⟨a1,a2⟩:=W5 hk j m.ahead[j] (Aa hj)
 rw [a2] at hv
 injection hv with hv
 rw [←hv]
 exact AAc (Rv (W4 ht).1 j _ y (Aa hj) hy) hp a1
theorem AAd {v:Str} {l:List Str} {j:Nat} (h:J2 v l=(j:Int)):l[j]? = some v:=by
 unfold J2 at h
 cases hf:l.findIdx? (·==v) with
 | none=>rw [hf] at h;exact absurd (show (-1:Int)=(j:Int) from h) (by omega)
 | some i =>
  rw [hf] at h
  have h:(i:Int)=(j:Int):=h
  have e:i=j:=by omega
  obtain ⟨a,b,_⟩:=Mh.1 hf
  rw [←e,Aa a]
  have:l[i]=v:=by simpa using b
  rw [this]
theorem Qj {c:List Col} (h:E6 c=true):(c.map (·.name)).Nodup:=(ui (by rw [N4];exact h)).2.2
/-! Columns of parts of moves. -/
/-- Rows on the way forth are rows. -/
theorem Th {c:List Col} {l:List Mov} {row:List Val} (h:OkMovs l) (hs:((Db c l).2 != 0)=false) (h0:RowI c row) (hp:F3 c row=true):∀k,k≤l.length→(fwM c l row k).2=0→F3 (colsAt c l k) (fwM c l row k).1=true
 | 0,_,_=>hp
 | k+1,hk,he=>by
  obtain ⟨hmay,hst,_⟩:=H4 hs
  have h1:(fwM c l row k).2=0:=Gj fun hn=>by
   rw [am hn (k+1) (by omega)] at he
   exact hn he
  obtain ⟨m,hm⟩:∃m,l[k]? = some m:=⟨l[k],Aa (by omega)⟩
  have hml:=Ar hm
  have e:=O4 hm h1
  rw [e,H7 hm]
  exact W6 (O3 hst hm) (Lf hmay m hml) (fun e he=>(h.each m hml).ahead.rng e he) (aq h hs h0 k (by omega) h1) (Th h hs h0 hp k (by omega) h1) (by rw [←e];exact he)
theorem x5 {c:List Col} {l:List Mov} {row:List Val} (hs:((Db c l).2 != 0)=false) (hp:F3 c row=true):Bq c l row=fwM c l row l.length:=if_neg (by rw [hs,hp];simp)
theorem AAe {c:List Col} {l:List Mov} {row:List Val} (hs:((Db c l).2 != 0)=false) (hp:F3 (colsAt c l l.length) row=true):Dx c l row=bkM c l row l.length:=if_neg (by rw [hs,hp];simp)
/-! A row that went forth through a move comes back through it, where the trees back come to what was taken. -/
theorem W7 {c:List Col} {m:Mov} {row:List Val} (hf:(Bn c m row).2=0):(Au c row m.ahead).2=0∧(Bn c m row).1=E3 m.take c row++(Au c row m.ahead).1:=by
 unfold Bn at hf ⊢
 split at hf
 ·rename_i h1
  rw [show (Au c row m.ahead).2=0 from hf] at h1
  cases h1
 rename_i h1
 rw [if_neg h1]
 exact ⟨by simpa using h1,rfl⟩
theorem jh {c:List Col} {m:Mov} {row:List Val} (ht:(Bb c m).2=0) (h:row.length=c.length) (hf:(Bn c m row).2=0) (hb:(Au (Bb c m).1 (Bn c m row).1 m.back).2=0)
  (hw:∀(j:Nat) (y:Col) (v:Val),c[j]? = some y→row[j]? = some v→0≤J2 y.name m.take→(Au (Bb c m).1 (Bn c m row).1 m.back).1.getD (J2 y.name m.take).toNat noV=v):
  C0 c (Bb c m).1 m (Bn c m row).1=(row,0):=by
 obtain ⟨e1,hrc,hrt⟩:=K5 ht
 have hcn:=Qj hrc
 have hdn:=Qj hrt
 have ev:=(W7 hf).2
 unfold C0
 rw [if_neg (by rw [hb];simp)]
 refine Lo (Lj fun j=>?_) rfl
 show (c.map _)[j]? = row[j]?
 rw [C9]
 cases hy:c[j]? with
 | none =>
  rw [f9] at hy
  exact (Ex (by omega)).symm
 | some y =>
  have hj:=(Ab.1 hy).1
  obtain ⟨v,hv⟩:∃v,row[j]? = some v:=⟨row[j],Aa (by omega)⟩
  rw [hv]
  refine congrArg some ?_
  unfold Qc
  by_cases hi:0≤J2 y.name m.take
  ·rw [if_pos hi]
   exact hw j y v hy hv hi
  rw [if_neg hi]
  have hst:y∈D3 c m.take:=by
   unfold D3
   rw [T3]
   refine ⟨Ar hy,?_⟩
   rw [←ae,decide_eq_false hi]
   rfl
  obtain ⟨p,hp⟩:=Cc hst
  have hpl:=(Ab.1 hp).1
  have hd:(Bb c m).1[p]? = some y:=by rw [e1,Cg hpl];exact hp
  have hkl:p<(E3 m.take c row).length:=by rw [Nk h];exact hpl
  obtain ⟨j',h1,h2⟩:=Rw h p _ y (Aa hkl) hp
  have hjj:j'=j:=Int.ofNat.inj ((K3 hcn h2).symm.trans (K3 hcn hy))
  subst hjj
  rw [K3 hdn hd,Int.toNat_natCast,ev,Cz,Cg hkl,Aa hkl,Option.getD_some]
  rw [h1] at hv
  exact Option.some.inj hv
theorem AAf {a f:Str} (h:0≤J2 a [f]):f=a∧J2 a [f]=0:=by
 obtain ⟨j,hj,hl⟩:=ls h
 have hj0:j=0:=by simpa using hl
 subst hj0
 have:=AAd hj
 exact ⟨by simpa using this,hj⟩
theorem M8 {c:List Col} {row:List Val} {x:Expr}:Au c row [x]=if (Dt x c row).2 != 0 then ([],(Dt x c row).2) else ([(Dt x c row).1],0):=by
 rw [Au]
 split
 ·rfl
 rw [Au,if_neg (by simp)]
/-- A move that takes one column and gives one. -/
theorem x6 {c:List Col} {m:Mov} {row:List Val} {f:Str} {y:Expr} (ht:(Bb c m).2=0) (h:row.length=c.length) (htk:m.take=[f]) (hbk:m.back=[y]) (hf:(Bn c m row).2=0) (he:Dt y (Bb c m).1 (Bn c m row).1=(row.getD (Be f c).toNat noV,0)):C0 c (Bb c m).1 m (Bn c m row).1=(row,0):=by
 have hr:Au (Bb c m).1 (Bn c m row).1 m.back=([row.getD (Be f c).toNat noV],0):=by
  rw [hbk,M8,he,if_neg (by simp)]
 obtain ⟨_,hrc,_⟩:=K5 ht
 refine jh ht h hf (by rw [hr]) fun j y0 v hy hv hi=>?_
 rw [htk] at hi
 obtain ⟨e,ei⟩:=AAf hi
 rw [hr,htk,ei]
 show row.getD (Be f c).toNat noV=v
 rw [e,K3 (Qj hrc) hy,Int.toNat_natCast,Cz,hv]
 rfl
theorem x7 {c:List Col} {m:Mov} {row:List Val} {t:Str} {k:Int} {x:Expr} (ht:(Bb c m).2=0) (hg:B7 c m=[⟨t,k⟩]) (ha:m.ahead=[x]) (h:row.length=c.length) (hf:(Bn c m row).2=0):(Dt x c row).2=0∧Hw (Bb c m).1 (Bn c m row).1 t=((Dt x c row).1,0):=by
 obtain ⟨e1,hrc,hrt⟩:=K5 ht
 obtain ⟨hr,ev⟩:=W7 hf
 rw [ha] at hr ev
 have h0:(Dt x c row).2=0:=by
  rw [M8] at hr
  split at hr
  ·exact hr
  rename_i h1;simpa using h1
 refine ⟨h0,?_⟩
 rw [M8,if_neg (by rw [h0];simp)] at ev
 have hd:(Bb c m).1[(D3 c m.take).length]? = some ⟨t,k⟩:=by rw [e1,hg,Ck (Ae _),Kd];rfl
 unfold Hw
 have hfm:=K3 (Qj hrt) hd
 have hfm:Be t (Bb c m).1=((D3 c m.take).length:Int):=hfm
 rw [if_neg (by rw [hfm];omega),hfm,Int.toNat_natCast,ev,Cz,←Nk h,Ck (Ae _),Kd]
 rfl
theorem ji {x:Expr} {c:List Col} {l:List Val} (hx:B6 x=true) (hr:F3 c l=true):Dt x c l=By c l x:=by
 show Y2 B0 x c l=_
 unfold Y2
 rw [if_neg (by rw [hx,hr];simp)]
theorem ar {c:List Col} {l:List Val} {t:Str}:By c l (Cr t)=Hw c l t:=by
 show Ee B0 _ _ _=_
 rw [Vj]
 rfl
/-! ImageNames: a name is a name. -/
abbrev mvN (f t:Str):Mov:=⟨3,[f],[⟨t,0⟩],[Cr f],[Cr t]⟩
theorem W8 {c:List Col} {f t:Str} (h:(Bb c (mvN f t)).2=0):B6 (Cr f)=true∧¬Be f c<0:=by
 have hf:=(W4 h).1
 have hl:(B7 c (mvN f t)).length=1:=Jh _ _
 obtain ⟨y,hy⟩:∃y,(B7 c (mvN f t))[0]? = some y:=⟨_,Aa (by omega)⟩
 have h0:=Rv hf 0 (Cr f) y rfl hy
 unfold Q8 at h0
 split at h0
 ·rename_i h1;rw [h0] at h1;cases h1
 rename_i h1
 have h2:(H6 (Cr f) c).2=0:=by simpa using h1
 unfold H6 at h2
 split at h2
 ·cases h2
 rename_i h3
 simp only [Dj,Hz,not_or,Tk] at h3
 refine ⟨h3.1,fun hn=>?_⟩
 rw [Na] at h2
 have:(Q6 c f).2=0:=h2
 unfold Q6 at this
 rw [if_pos hn] at this
 cases this
theorem qq {c:List Col} {f t:Str} (h:¬Be f c<0):B7 c (mvN f t)=[⟨t,(c.getD (Be f c).toNat ⟨[],0⟩).kind⟩]:=by
 unfold B7
 rw [if_pos (show ((mvN f t).kind==3)=true from rfl),if_neg (show ¬Be ((mvN f t).take.getD 0 []) c<0 from h)]
 rfl
theorem Rx {c:List Col} {f t:Str} {row:List Val} (h:(Bb c (mvN f t)).2=0) (hp:F3 c row=true):(Bn c (mvN f t) row)=(E3 [f] c row++[row.getD (Be f c).toNat noV],0):=by
 obtain ⟨h1,h2⟩:=W8 h
 have he:Dt (Cr f) c row=(row.getD (Be f c).toNat noV,0):=by
  rw [ji h1 hp,ar]
  unfold Hw
  rw [if_neg h2]
 unfold Bn
 show (if (Au c row [Cr f]).2 != 0 then _ else (_++(Au c row [Cr f]).1,_))=_
 rw [M8,he,if_neg (by simp),if_neg (by simp)]
theorem au {c:List Col} {row:List Val} (h:F3 c row=true):row.length=c.length:=by
 unfold F3 at h
 simp only [Ao,beq_iff_eq] at h
 exact h.1.2
theorem x8 {c:List Col} {f t:Str} {row:List Val} (ht:(Bb c (mvN f t)).2=0) (hm:Hm (mvN f t)=true) (hR:RowI c row) (hp:F3 c row=true):C0 c (Bb c (mvN f t)).1 (mvN f t) (Bn c (mvN f t) row).1=(row,0):=by
 obtain ⟨h1,h2⟩:=W8 ht
 have hf:(Bn c (mvN f t) row).2=0:=by rw [Rx ht hp]
 have hrg:∀e∈(mvN f t).ahead,Et M1 e=true:=fun e he=>by rw [Az.1 he];rfl
 have hd:=W6 ht hm hrg hR hp hf
 have hl:=x7 ht (qq h2) rfl (au hp) hf
 have hb:B6 (Cr t)=true:=by
  unfold Hm at hm
  simp only [Ao,At] at hm
  exact hm.1.2 (Cr t) (Az.2 rfl)
 refine x6 ht (au hp) rfl rfl hf ?_
 rw [ji hb hd,ar,hl.2,ji h1 hp,ar]
 unfold Hw
 rw [if_neg h2]
/-- What is not taken, and what is: all values, in another order. -/
theorem eg {f:Str}:∀{c:List Col} {row:List Val},row.length=c.length→(∀y∈c,y.name≠f)→E3 [f] c row=row
 | [],[],_,_=>rfl
 | y::c,v::row,h,hn=>by
  have ih:=eg (f:=f) (c:=c) (row:=row) (by simpa using h) (fun z hz=>hn z (.tail _ hz))
  unfold E3 at ih ⊢
  have hy:(!([f]:List Str).contains y.name)=true:=by
   have:=hn y K6
   simpa using this
  rw [List.zip_cons_cons,Lk,if_pos hy,Bt,ih]
 | [],_::_,h,_=>by simp at h
 | _::_,[],h,_=>by simp at h
theorem Ye {f:Str}:∀{c:List Col} {row:List Val} {j:Nat} {y:Col} {v:Val},row.length=c.length→(c.map (·.name)).Nodup→c[j]? = some y→y.name=f→row[j]? = some v→(E3 [f] c row++[v]).Perm row
 | [],_,j,y,_,_,_,h,_,_=>by simp at h
 | _::_,[],j,y,v,_,_,_,_,h=>by simp at h
 | a::c,b::row,0,y,v,hl,hn,hy,hf,hv=>by
  have e1:a=y:=by simpa using hy
  have e2:b=v:=by simpa using hv
  subst e1;subst e2
  rw [Bt,K9] at hn
  have hk:=eg (f:=f) (c:=c) (row:=row) (by simpa using hl) (fun z hz e=>hn.1 (by rw [hf,←e];exact C1.2 ⟨z,hz,rfl⟩))
  unfold E3 at hk ⊢
  have hc:¬(!([f]:List Str).contains a.name)=true:=by rw [hf];simp
  rw [List.zip_cons_cons,Lk,if_neg hc,hk]
  exact List.perm_append_singleton b row
 | a::c,b::row,j+1,y,v,hl,hn,hy,hf,hv=>by
  rw [Bt,K9] at hn
  have hy':c[j]? = some y:=by simpa using hy
  have ih:=Ye (f:=f) (c:=c) (row:=row) (j:=j) (by simpa using hl) hn.2 hy' hf (by simpa using hv)
  unfold E3 at ih ⊢
  have hc:(!([f]:List Str).contains a.name)=true:=by
   have:a.name≠f:=fun e=>hn.1 (by rw [e,←hf];exact C1.2 ⟨y,Ar hy',rfl⟩)
   simpa using this
  rw [List.zip_cons_cons,Lk,if_pos hc,Bt,Ef]
  exact ih.cons b
theorem x9 {c:List Col} {f t:Str} {row:List Val} (ht:(Bb c (mvN f t)).2=0) (hp:F3 c row=true):(Bn c (mvN f t) row).1.Perm row:=by
 obtain ⟨_,h2⟩:=W8 ht
 obtain ⟨_,hrc,_⟩:=K5 ht
 rw [Rx ht hp]
 obtain ⟨j,y,hj,hn,e⟩:=find_mem.1 h2
 have hl:=au hp
 have hjl:=(Ab.1 hj).1
 have hv:row[j]? = some (row.getD (Be f c).toNat noV):=by
  rw [e,Int.toNat_natCast,Cz,Aa (by omega)];rfl
 exact Ye hl (Qj hrc) hj hn hv
/-- The moves of two lists of names. -/
def Cx (a b:List Str):List Mov:=(a.zip b).map fun p=>mvN p.1 p.2
theorem xa {a b:List Str} {k:Nat} {m:Mov} (h:(Cx a b)[k]? = some m):∃f t,m=mvN f t:=by
 unfold Cx at h
 rw [C9] at h
 cases hz:(a.zip b)[k]? with
 | none=>rw [hz] at h;cases h
 | some p=>rw [hz] at h;injection h with h;exact ⟨p.1,p.2,h.symm⟩
theorem ACx {a b:List Str} (hl:a.length≤8) (ha:∀s∈a,s.length≤100) (hb:∀s∈b,s.length≤100):OkMovs (Cx a b):=by
 have hn:∀s:Str,s.length≤100→OkEs [Cr s]:=fun s hs=>⟨by simp,fun e he=>by
   rw [Az.1 he]
   exact ⟨by show s.length≤1048576;omega,by show ([]:List Expr).length≤1048576;simp,fun z hz=>by cases hz⟩,fun e he=>by rw [Az.1 he,N2];show 1+Dc []≤1048576;simp [Dc],fun e he=>by rw [Az.1 he];rfl⟩
 refine ⟨by unfold Cx;rw [Aw,Sz];omega,fun m hm=>?_⟩
 unfold Cx at hm
 obtain ⟨p,hp,rfl⟩:=C1.1 hm
 have h1:=ha _ (Yp hp).1
 have h2:=hb _ (Yp hp).2
 exact ⟨by simp,fun s hs=>by rw [Az.1 hs];omega,⟨by simp,fun y hy=>by rw [Az.1 hy];show p.2.length≤_;omega⟩,by simp,hn _ h1,hn _ h2⟩
theorem jk {c:List Col} {a b:List Str} {row:List Val} (h:OkMovs (Cx a b)) (hs:((Db c (Cx a b)).2 != 0)=false) (hR:RowI c row) (hp:F3 c row=true):∀k,k≤(Cx a b).length→(fwM c (Cx a b) row k).2=0∧(fwM c (Cx a b) row k).1.Perm row
 | 0,_=>⟨rfl,.refl _⟩
 | k+1,hk=>by
  obtain ⟨hmay,hst,_⟩:=H4 hs
  have ih:=jk h hs hR hp k (by omega)
  obtain ⟨m,hm⟩:∃m,(Cx a b)[k]? = some m:=⟨_,Aa (by omega)⟩
  obtain ⟨f,t,e⟩:=xa hm
  subst e
  have htn:=O3 hst hm
  have hpk:=Th h hs hR hp k (by omega) ih.1
  rw [O4 hm ih.1]
  refine ⟨by rw [Rx htn hpk],(x9 htn hpk).trans ih.2⟩
theorem xb {c:List Col} {a b:List Str} {row:List Val} (h:OkMovs (Cx a b)) (hs:((Db c (Cx a b)).2 != 0)=false) (hR:RowI c row) (hp:F3 c row=true):∀k,k≤(Cx a b).length→bkM c (Cx a b) (fwM c (Cx a b) row (Cx a b).length).1 k=((fwM c (Cx a b) row ((Cx a b).length-k)).1,0)
 | 0,_=>by rw [bkM,Nat.sub_zero]
 | k+1,hk=>by
  obtain ⟨hmay,hst,_⟩:=H4 hs
  have ih:=xb h hs hR hp k (by omega)
  obtain ⟨m,hm⟩:∃m,(Cx a b)[(Cx a b).length-1-k]? = some m:=⟨_,Aa (by omega)⟩
  rw [Qd hm (by rw [ih]),ih]
  obtain ⟨f,t,e⟩:=xa hm
  have hml:=Lf hmay m (Ar hm)
  subst e
  have htn:=O3 hst hm
  have e1:(Cx a b).length-k=(Cx a b).length-1-k+1:=by omega
  have e2:(Cx a b).length-(k+1)=(Cx a b).length-1-k:=by omega
  rw [e1,e2]
  generalize hi:(Cx a b).length-1-k=i at *
  have hf0:=(jk h hs hR hp i (by omega)).1
  have hpk:=Th h hs hR hp i (by omega) hf0
  have hRk:=aq h hs hR i (by omega) hf0
  rw [H7 hm,O4 hm hf0]
  exact x8 htn hml hRk hpk
/-- A row forth through names: all its values, and it is faithful; or no row. -/
theorem qr {c:List Col} {a b:List Str} {row:List Val} (h:OkMovs (Cx a b)) (hrr:∀v∈row, -9223372036854775808≤v.n∧v.n≤9223372036854775807):((Bq c (Cx a b) row).2≠0→Bq c (Cx a b) row=([],1))∧((Bq c (Cx a b) row).2=0→(Bq c (Cx a b) row).1.Perm row∧Vt c (Cx a b) row=true):=by
 by_cases h0:(((Db c (Cx a b)).2 != 0) || !F3 c row)=true
 ·have e:Bq c (Cx a b) row=([],1):=if_pos h0
  rw [e]
  exact ⟨fun _=>rfl,fun h=>by cases h⟩
 have h1:((Db c (Cx a b)).2 != 0)=false∧F3 c row=true:=by simpa using h0
 have hR:=Nl h1.2 hrr
 have e:=x5 h1.1 h1.2
 have hfw:=jk h h1.1 hR h1.2 (Cx a b).length (Ae _)
 rw [e]
 refine ⟨fun hn=>absurd hfw.1 hn,fun _=>⟨hfw.2,?_⟩⟩
 unfold Vt
 rw [e,if_neg (by rw [hfw.1];simp)]
 have hpe:=Th h h1.1 hR h1.2 (Cx a b).length (Ae _) hfw.1
 rw [AAe h1.1 hpe,xb h h1.1 hR h1.2 (Cx a b).length (Ae _),Kd]
 simp [fwM]
end Go.SX.Nb
namespace Go.SX
variable [GI:GlobInv]
open Classical
section
variable {P:Program} {d:Nat} {st:St} {dst:Option Tmp} {ty:TypeId} {pos:String} {aft:Array Edge} {gd:Option (Nat×Bool)}
theorem jl (v:Value) (m:Nat):((Array.range m).map fun j=>(#[v]:Array Value)[j % (#[v]:Array Value).size]!)=Array.replicate m v:=by
 apply jo
 ·simp
 intro j h1 h2
 have:j % 1=0:=Nat.mod_one j
 simp [this]
/-- A slice made of zeros, over an object of its own; its elements have one cell. -/
theorem AOp.makeObj {t e:TypeId} {i:TypeInfo} {z v:Value} {l c:Operand} {s n m:Nat} (hu:P.underlying t=some (.slice e)) (hi:P.info? e=some i) (hsz:∀w,(sizeOf e).run P w=.ok 1 w) (hz:∀w,(zeroValue e).run P w=.ok z w) (hzc:z.cells=#[v])
  (hx:st.ev l=.v (.int .i64 (m:Int))) (hc:st.ev c=.v (.int .i64 (m:Int))) (hm:m≤1048576) (hb:i.bytes≤1048576) (hn:st.own.length=n) (hs:s<st.sz):
  AOp P d ⟨some s,.makeSlice t l c,ty,pos,aft,gd⟩ st (·=({ st with own:=st.own++[.cells e (List.replicate m (.v v))] }:St).set s (.sl (st.up.length+n) 1 m m)):=by
 intro G a w h Q'
 have hx':=Co h hx
 have hc':=Co h hc
 obtain ⟨G',h1,T,hbk,hlt⟩:=L2 h e (List.replicate m (.v v)) (Array.replicate m v) (by simp) (fun j y u h1 h2=>by
  rw [fe] at h1
  rw [Lh] at h2
  split at h1
  ·rename_i hj
   rw [if_pos hj] at h2
   injection h1 with h1
   injection h2 with h2
   subst h1;subst h2
   exact .v _ _
  cases h1)
 have hlen:(st.up++st.own).length=st.up.length+n:=by rw [Ap,hn]
 rw [hlen] at hbk hlt
 have hw:IntKind.i64.wrap (m:Int)=m:=by rw [IntKind.wrap_i64];omega
 have hrun:(execOp a.eval (⟨some s,.makeSlice t l c,ty,pos,aft,gd⟩:Oper)).run P w=.ok (.value (.slice (some ⟨w.heap.size,0,none⟩) m m)) (w.alloc (.cells (Array.replicate m v) e)):=by
  have hty:∀w,(typeInfo e).run P w=.ok i w:=fun w=>by
   unfold typeInfo
   simp [hi]
  have h3:¬281474976710656<(i.bytes:Int)*(m:Int):=by
   have:i.bytes*m≤1048576*1048576:=Nat.mul_le_mul hb hm
   have h2:((i.bytes*m:Nat):Int)=(i.bytes:Int)*(m:Int):=by simp
   omega
  have h0:¬(m:Int)<0:=by omega
  have hn:(m:Int).toNat=m:=Int.toNat_natCast m
  have hr:=jl v m
  have hz':∀w,(if m=0 then (pure #[]:Sem (Array Value)) else do pure (←zeroValue e).cells).run P w=.ok (if m=0 then #[] else #[v]) w:=fun w=>by
   by_cases hm0:m=0
   ·rw [if_pos hm0,if_pos hm0];rfl
   rw [if_neg hm0,if_neg hm0];simp [hz,hzc]
  have hrow:(Array.range m).map (fun x=>(if m=0 then #[] else #[v]:Array Value)[x % (if m=0 then #[] else #[v]:Array Value).size]!)=Array.replicate m v:=by
   by_cases hm0:m=0
   ·subst hm0;simp
   rw [if_neg hm0];exact hr
  generalize (m:Int)=M at *
  subst hn
  simp only [execOp,Instr.makeSlice,hx',hc',asInt,asIntOf,Sem.run_bind,Sem.run_pure,run_underlying hu,hty,hsz,hw,hz',newRow,Result.andThen_ok,T9]
  simp [h0,h3]
  rw [hsz]
  simp only [Result.andThen_ok,T9]
  by_cases hm0:M.toNat=0
  ·rw [if_pos hm0]
   simp [hm0]
   rw [AAq (show ((Array.range 0).map fun _=>(default:Value)).size=0 by simp)]
  rw [if_neg hm0,hz]
  simp only [Result.andThen_ok,hzc,hr]
 refine Ch (by intro c h;cases h) hrun ⟨G',_,h1.put (s:=s) (y:=.sl (st.up.length+n) 1 m m) hs ?_,T.keep d,rfl,rfl,rfl,rfl⟩
 rw [←hbk]
 exact .sl _ _ _ _ _ hlt
variable {sz:Nat} {fr:Nat→AV} {up own own':List AObj} {dfs:List Nat} {rnd:Option Nat} {Q:St→Prop} {ops:Array Oper} {rest:List Oper} {s:Nat}
theorem R.makeObj {t e:TypeId} {i:TypeInfo} {z v:Value} {l c:Operand} {n m:Nat} (hu:P.underlying t=some (.slice e)) (hi:P.info? e=some i) (hsz:∀w,(Go.sizeOf e).run P w=.ok 1 w) (hz:∀w,(Go.zeroValue e).run P w=.ok z w) (hm:m≤1048576) (hr:ARun P d ops rest ⟨sz,A7 s (.sl (oid up.length n) 1 m m) fr,up,own',dfs,rnd⟩ Q)
  (hb:i.bytes≤1048576:=by decide) (hzc:z.cells=#[v]:=by rfl) (hx:Ax fr l=.v (.int .i64 (m:Int)):=by exact sL0) (hc:Ax fr c=.v (.int .i64 (m:Int)):=by exact sL0) (hn:own.length=n:=by rfl) (ho:own++[.cells e (List.replicate m (.v v))]=own':=by rfl) (hs:Nat.blt s sz=true:=by rfl):
  ARun P d ops (⟨some s,.makeSlice t l c,ty,pos,aft,none⟩::rest) ⟨sz,fr,up,own,dfs,rnd⟩ Q:=by
 subst ho
 exact AAr rfl (AOp.makeObj (st:=⟨sz,fr,up,own,dfs,rnd⟩) hu hi hsz hz hzc hx hc hm hb hn (by simpa using hs)) hr
theorem OpV.le {o:Oper} {st:St} {y y':AV} (h:OpV P d o st y) (hl:Le y y'):OpV P d o st y':=fun G a w hrel Q' =>
 I0 (fun a w ⟨G',v,e,r,k,hrep⟩=>⟨G',v,e,r,k,hrep.le hl⟩) (h G a w hrel Q')
theorem Q.indexAddrSl {t e:TypeId} {x i:Operand} {o k n c off:Nat} {q:IntKind} {z:Int} {C:Bool} [i0:JU P t (.slice e)] [i1:JS P e k] (m:Nat) (hm:C=true→m<n) (hz:C=true→z=(m:Int):=by intro hB;first|rfl|omega) (ho:m*k=off:=by first|rfl|simp):OpW P d up own (.indexAddr t x i) C [.sl o k n c,.v (.int q z)] (.ptr o off):=fun hB=>fun hs=>by
 have e:=hz hB
 subst e;subst ho
 exact OpV.indexAddrSl i0.h i1.h (hm hB) (o1 hs) (o2 hs)
variable {l0:List Oper} {E:List Oper→(Nat→AV)→Prop} {kd:Nat}
/-- A struct that is built in a drawn region, whose nil slices are taken as empty ones. -/
theorem D.buildLe {t:TypeId} {fs:Array Field} {places:Array (Nat×Nat)} {parts:List (Nat×Operand)} {z:Value} {zs cs:List AV} {ys:List (Nat×AV)} (y':AV) (hle:Le (.agg cs) y') (hu:P.underlying t=some (.struct fs))
  (hpl:∀w,(fs.mapM (m:=Sem) fun f=>do Pure.pure (f.offset,←Go.sizeOf f.type)).run P w=.ok places w) (hz:∀w,(zeroValue t).run P w=.ok z w) (hr:ADraw P d l0 sz up own dfs rnd E kd rest (A7 s y' fr))
  (hzs:z.cells.toList.map Du=zs:=by exact sL0) (hone:zs.all AV.one=true:=by exact sL2) (hys:(parts.map fun p=>(p.1,Ax fr p.2))=ys:=by exact sL0)
  (hf:Jq (fun i=>places[i]?) zs ys=some cs:=by simp [Jq,go_sem]<;>rfl) (hs:Nat.blt s sz=true:=by rfl):
  ADraw P d l0 sz up own dfs rnd E (kd+1) (⟨some s,.build t parts.toArray,ty,pos,aft,none⟩::rest) fr:=by
 subst hys
 refine ⟨s,_,rfl,by simpa using hs,fun f0 hag=>?_,hr⟩
 have e:(parts.map fun p=>(p.1,Ax fr p.2))=(parts.map fun p=>(p.1,Ax f0 p.2)):=Pd fun p hp=>by rw [agr hag (by simp [Op.operands];exact ⟨_,hp⟩)]
 rw [e] at hf
 refine OpV.le (y:=.agg cs) ?_ hle
 exact OpV.build hu hpl hz hzs.symm hone hf
end
end Go.SX
